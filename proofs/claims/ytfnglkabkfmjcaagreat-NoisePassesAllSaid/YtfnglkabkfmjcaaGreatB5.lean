/-
  Functions of the program, as the abstract machine reads them (group EnyG). Written by a program (gen.py) off the model's own reading of the translation; the seat's check ties them to it.
-/
import Derived.Test.YtfnglkabkfmjcaaGreatB1
import Derived.Test.YtfnglkabkfmjcaaGreatB4
import Derived.IntWalk
set_option linter.unusedSimpArgs false
set_option linter.unusedVariables false
set_option linter.unnecessarySimpa false
namespace Go.e8.F
open C
namespace UM
def r0:=[o 1 (.box 1 0),o 2 (.b9 (.c (.bool false)))]
def r1:=[o 3 (.ld true 6 1),o 4 (.call 130 [3]),m 5 4,g 6 5 true (.a7 1 0),g 7 5 true (.ld false 1 6),g 8 5 true (.len 7),g 9 5 true (.bin .leq 8 (k 8)),
 o 10 (.pick 5 9 (.c (.bool false))),m 2 10]
def c:=(s (d r0 [0,2]) (s (d r1 [1,3,4,5,6,7,8,9,10]) .ret))
end UM
def UM:AFn:=⟨1,UM.c,[.tmp 2],false⟩
namespace UH
def r0:=[o 4 (.alloc 4 [(.bool false),.nil,.nil])]
def r1:=[o 8 (.call 96 [(k 0)]),o 5 (.alloc 5 [(.bool false),.nil,.nil]),n (.st 3 5 8)]
def r2:=[m 9 0,o 10 (.len 9),o 11 (.b9 (k 0))]
def r3:=[o 12 (.bin .lss 11 10)]
def r4:=[m 13 11,m 6 13]
def r5:=[m 14 0,m 15 6,o 16 (.a5 none 1 14 15),o 17 (.ld false 1 16),o 18 (.len 17),o 19 (.b9 (k 0))]
def r6:=[o 20 (.bin .lss 19 18)]
def r7:=[m 21 19,m 7 21]
def r8:=[o 22 (.ld true 3 5),m 23 0,m 24 6,o 25 (.a5 none 1 23 24),o 26 (.ld false 1 25),m 27 7,o 28 (.a5 none 3 26 27),o 29 (.ld true 3 28),m 30 1,m 31 6,
 o 32 (.a5 none 3 30 31),o 33 (.ld true 3 32),m 34 1,m 35 7,o 36 (.a5 none 3 34 35),o 37 (.ld true 3 36),o 38 (.call 99 [33,37]),
 o 39 (.call 99 [29,38]),o 40 (.call 98 [22,39]),n (.st 3 5 40)]
def r9:=[o 41 (.bin .add 19 (k 1)),m 19 41]
def BM:=[o 42 (.bin .add 11 (k 1)),m 11 42]
def BZ:=[o 43 (.ld true 3 5),n (.st 3 4 43)]
def l2:=(s (p r6) (s (i 20 .skip (x 2)) (s (b 3 (s (d r7 [20,21]) (e r8 [7,22,23,24,25,26,27,28,29,30,31,32,33,34,35,36,37,38,39,40]))) (d r9 [41]))))
def l1:=(s (p r3) (s (i 12 .skip (x 0)) (s (b 1 (s (d r4 [12,13]) (s (d r5 [14,15,16,17]) (b 2 (w l2))))) (d BM [6,18,19,20,42]))))
def c:=(s (p r0) (s (d r1 [8]) (s (s (d r2 [9]) (b 0 (w l1))) (s (d BZ [0,1,5,10,11,12,43]) .ret))))
end UH
def UH:AFn:=⟨2,UH.c,[.cell 4 true 3],false⟩
namespace UG
def r0:=[o 4 (.b9 (.c .nil))]
def r1:=[m 9 0,o 10 (.len 9),o 11 (.mk 11 3 56 [(.bool false),.nil,.nil] 10 10),m 5 11]
def r2:=[m 12 5,o 13 (.len 12),o 14 (.b9 (k 0))]
def r3:=[o 15 (.bin .lss 14 13)]
def r4:=[m 16 14,m 6 16]
def r5:=[o 17 (.call 96 [(k 0)]),o 7 (.alloc 7 [(.bool false),.nil,.nil]),n (.st 3 7 17)]
def r6:=[m 18 0,o 19 (.len 18),o 20 (.b9 (k 0))]
def r7:=[o 21 (.bin .lss 20 19)]
def r8:=[m 22 20,m 8 22]
def r9:=[o 23 (.ld true 3 7),m 24 0,m 25 8,o 26 (.a5 none 3 24 25),o 27 (.ld true 3 26),m 28 1,m 29 8,o 30 (.a5 none 1 28 29),o 31 (.ld false 1 30),m 32 6,
 o 33 (.a5 none 3 31 32),o 34 (.ld true 3 33),o 35 (.call 99 [27,34]),o 36 (.call 98 [23,35]),n (.st 3 7 36)]
def BM:=[o 37 (.bin .add 20 (k 1)),m 20 37]
def BZ:=[m 38 5,m 39 6,o 40 (.ld true 3 7),o 41 (.a5 none 3 38 39),n (.st 3 41 40)]
def w4:=[o 42 (.bin .add 14 (k 1)),m 14 42]
def CD:=[m 43 5,m 4 43]
def l2:=(s (p r7) (s (i 21 .skip (x 2)) (s (b 3 (s (d r8 [21,22]) (e r9 [8,23,24,25,26,27,28,29,30,31,32,33,34,35,36]))) (d BM [37]))))
def l1:=(s (p r3) (s (i 15 .skip (x 0)) (s (b 1 (s (d r4 [15,16]) (s (d r5 [17]) (s (s (d r6 [18]) (b 2 (w l2))) (d BZ [6,7,19,20,21,38,39,40,41]))))) (d w4 [42]))))
def c:=(s (d r0 [4]) (s (d r1 [9,10,11]) (s (s (d r2 [12]) (b 0 (w l1))) (s (d CD [0,1,5,13,14,15,43]) .ret))))
end UG
def UG:AFn:=⟨2,UG.c,[.tmp 4],false⟩
namespace JB
def r0:=[o 2 (.box 2 0),o 4 (.alloc 4 [(.bool false),.nil,.nil]),o 5 (.b9 (k 0))]
def r1:=[o 9 (.ld true 6 2),o 10 (.call 328 [9]),o 11 (.un .not 10)]
def r2:=[o 12 (.build [(.bool false),.nil,.nil] []),n (.st 3 4 12),o 5 (.b9 (k 2))]
def r3:=[m 13 1,o 14 (.bin .lss 13 (k 0)),m 15 14,g 16 15 false (.b9 1),g 17 15 false (.bin .gtr 16 (k 64)),o 18 (.pick 15 (.c (.bool true)) 17)]
def r4:=[o 19 (.build [(.bool false),.nil,.nil] []),n (.st 3 4 19),o 5 (.b9 (k 1))]
def r5:=[o 21 (.a7 2 0),o 22 (.ld false 1 21),o 23 (.a7 2 1),o 24 (.ld false 1 23),o 25 (.call 324 [22,24]),m 20 25,o 26 (.ext 20 0),o 27 (.ext 20 1),
 m 6 26,m 7 27]
def r6:=[m 28 7,o 29 (.bin .neq 28 (k 0))]
def r7:=[o 30 (.build [(.bool false),.nil,.nil] []),m 31 7,n (.st 3 4 30),m 5 31]
def r8:=[m 32 1,o 33 (.bin .eql 32 (k 0))]
def r9:=[o 34 (.a7 2 3),o 35 (.ld true 3 34),o 36 (.a7 2 3),o 37 (.ld true 3 36),o 38 (.call 99 [35,37]),m 39 6,o 40 (.a7 2 2),o 41 (.ld false 1 40),
 o 42 (.call 329 [39,41]),o 43 (.call 98 [38,42]),n (.st 3 4 43),o 5 (.b9 (k 0))]
def BM:=[o 44 (.a7 2 2),o 45 (.ld false 1 44),m 8 45]
def BZ:=[m 46 1,o 47 (.bin .sub 46 (k 1)),o 48 (.b9 (k 0))]
def w4:=[o 49 (.bin .lss 48 47)]
def CD:=[m 50 8,o 51 (.a7 2 0),o 52 (.ld false 1 51),o 53 (.call 330 [50,52]),m 8 53]
def ay:=[o 54 (.bin .add 48 (k 1)),m 48 54]
def ct:=[m 55 6,m 56 8,o 57 (.call 329 [55,56]),n (.st 3 4 57),o 5 (.b9 (k 0))]
def l1:=(s (p w4) (s (i 49 .skip (x 0)) (s (b 1 (d CD [49,50,51,52,53])) (d ay [54]))))
def c:=(s (d r0 [0,5]) (s (s (d r1 [9,10]) (i 11 (s (d r2 [1,2,11,12]) .ret) .skip)) (s (s (d r3 [11,13,14,15,16,17]) (i 18 (s (d r4 [1,2,18,19]) .ret) .skip)) (s (d r5 [18,20,21,22,23,24,25,26,27]) (s (s (d r6 [28]) (i 29 (s (d r7 [1,2,6,7,29,30,31]) .ret) .skip)) (s (s (d r8 [7,29,32]) (i 33 (s (e r9 [1,2,6,33,34,35,36,37,38,39,40,41,42,43]) .ret) .skip)) (s (d BM [33,44,45]) (s (s (d BZ [1,46]) (b 0 (w l1))) (s (d ct [2,6,8,47,48,49,55,56,57]) .ret)))))))))
end JB
def JB:AFn:=⟨2,JB.c,[.cell 4 true 3,.tmp 5],false⟩
namespace L0
def r0:=[o 1 (.box 1 0),o 2 (.alloc 2 [(.bool false),.nil,.nil]),o 3 (.b9 (k 0))]
def r1:=[o 4 (.ld true 6 1),o 5 (.call 331 [4,(k 0)]),o 6 (.ext 5 0),o 7 (.ext 5 1),n (.st 3 2 6),m 3 7]
def c:=(s (d r0 [0,3]) (s (d r1 [1,4,5,6,7]) .ret))
end L0
def L0:AFn:=⟨1,L0.c,[.cell 2 true 3,.tmp 3],false⟩
namespace WK
def r0:=[o 1 (.box 1 0),o 2 (.b9 (.c (.bool false)))]
def r1:=[o 3 (.ld true 6 1),o 4 (.call 136 [3]),m 5 4,g 6 5 true (.a7 1 0),g 7 5 true (.ld false 1 6),g 8 5 true (.len 7),g 9 5 true (.bin .leq 8 (k 8)),
 o 10 (.pick 5 9 (.c (.bool false))),m 2 10]
def c:=(s (d r0 [0,2]) (s (d r1 [1,3,4,5,6,7,8,9,10]) .ret))
end WK
def WK:AFn:=⟨1,WK.c,[.tmp 2],false⟩
namespace WI
def r0:=[o 1 (.box 1 0),o 2 (.alloc 2 [(.bool false),.nil,.nil]),o 3 (.b9 (k 0))]
def r1:=[o 6 (.ld true 6 1),o 7 (.call 333 [6]),o 8 (.un .not 7)]
def r2:=[o 9 (.build [(.bool false),.nil,.nil] []),n (.st 3 2 9),o 3 (.b9 (k 2))]
def r3:=[o 11 (.a7 1 0),o 12 (.ld false 1 11),o 13 (.a7 1 1),o 14 (.ld false 1 13),o 15 (.call 326 [12,14]),m 10 15,o 16 (.ext 10 0),o 17 (.ext 10 1),
 m 4 16,m 5 17]
def r4:=[m 18 5,o 19 (.bin .neq 18 (k 0))]
def r5:=[o 20 (.build [(.bool false),.nil,.nil] []),m 21 5,n (.st 3 2 20),m 3 21]
def r6:=[o 22 (.a7 1 3),o 23 (.ld true 3 22),o 24 (.a7 1 3),o 25 (.ld true 3 24),o 26 (.call 128 [23,25]),o 27 (.a7 1 2),o 28 (.ld false 1 27),m 29 4,
 o 30 (.a7 1 2),o 31 (.ld false 1 30),o 32 (.call 138 [29,31]),o 33 (.call 137 [28,32]),o 34 (.call 126 [26,33]),n (.st 3 2 34),o 3 (.b9 (k 0))]
def c:=(s (d r0 [0,3]) (s (s (d r1 [6,7]) (i 8 (s (d r2 [1,8,9]) .ret) .skip)) (s (d r3 [8,10,11,12,13,14,15,16,17]) (s (s (d r4 [18]) (i 19 (s (d r5 [1,4,5,19,20,21]) .ret) .skip)) (s (e r6 [1,4,5,19,22,23,24,25,26,27,28,29,30,31,32,33,34]) .ret)))))
end WI
def WI:AFn:=⟨1,WI.c,[.cell 2 true 3,.tmp 3],false⟩
structure q5 (L:Lib):Prop extends z8 L where
 UM:L 328=some F.UM
 UH:L 329=some F.UH
 UG:L 330=some F.UG
 JB:L 331=some F.JB
 L0:L 332=some F.L0
 WK:L 333=some F.WK
 WI:L 334=some F.WI
end Go.e8.F
namespace Go.e8.F
open C
namespace TK
def r0:=[o 0 (.b9 (.c (.bool false)))]
def r1:=[o 9 (.call 124 [(k 1)]),o 10 (.call 125 [(k 1),(k 2)]),o 1 (.alloc 1 [(.bool false),.nil,.nil]),o 2 (.alloc 2 [(.bool false),.nil,.nil]),n (.st 3 1 9),
 n (.st 3 2 10)]
def r2:=[q 12 [17,3] (.ld true 3 1),o 13 (.g8 13 3 [12]),q 14 [13,3] (.ld true 3 1),q 15 [13,3] (.ld true 3 2),
 q 16 [13,3] (.call 152 [15]),o 17 (.g8 17 3 [14,16]),o 18 (.build [.nil,.nil] [(0,1,13),(1,1,17)]),
 q 19 [3] (.call 207 [18]),m 11 19,o 20 (.ext 11 0),o 21 (.ext 11 1),o 3 (.alloc 3 [.nil,.nil,.nil,(.bool false),.nil,.nil]),
 n (.st 6 3 20),m 4 21]
def r3:=[o 23 (.ld true 6 3),o 24 (.call 332 [23]),m 22 24,o 25 (.ext 22 0),o 26 (.ext 22 1),o 5 (.alloc 5 [(.bool false),.nil,.nil]),n (.st 3 5 25),m 6 26]
def r4:=[o 28 (.ld true 6 3),o 29 (.call 331 [28,(k 1)]),m 27 29,o 30 (.ext 27 0),o 31 (.ext 27 1),o 7 (.alloc 7 [(.bool false),.nil,.nil]),n (.st 3 7 30),
 m 8 31]
def r5:=[m 32 4,o 33 (.bin .eql 32 (k 0)),m 34 33,g 35 34 true (.b9 6),g 36 34 true (.bin .eql 35 (k 0)),o 37 (.pick 34 36 (.c (.bool false))),m 38 37,
 g 39 38 true (.b9 8),g 40 38 true (.bin .eql 39 (k 0)),o 41 (.pick 38 40 (.c (.bool false))),m 42 41,g 43 42 true (.ld true 3 5),
 g 44 42 true (.call 125 [(k 4),(k 3)]),g 45 42 true (.call 127 [43,44]),g 46 42 true (.bin .eql 45 (k 0)),o 47 (.pick 42 46 (.c (.bool false))),m 48 47,
 g 49 48 true (.ld true 3 7),g 50 48 true (.call 125 [(k 1),(k 3)]),g 51 48 true (.call 127 [49,50]),g 52 48 true (.bin .eql 51 (k 0)),
 o 53 (.pick 48 52 (.c (.bool false))),m 0 53]
def c:=(s (d r0 [0]) (s (d r1 [9,10]) (s (e r2 [1,2,11,12,13,14,15,16,17,18,19,20,21]) (s (d r3 [22,23,24,25,26]) (s (d r4 [3,27,28,29,30,31]) (s (e r5 [4,5,6,7,8,32,33,34,35,36,37,38,39,40,41,42,43,44,45,46,47,48,49,50,51,52,53]) .ret))))))
end TK
def TK:AFn:=⟨0,TK.c,[.tmp 0],false⟩
structure gd (L:Lib):Prop extends q5 L where
 TK:L 336=some F.TK
end Go.e8.F

namespace Go.e8.F
open C
structure sv (L:Lib):Prop extends qu L,v3 L where
structure kf (L:Lib):Prop extends sv L where
end Go.e8.F

namespace Go.e8.F
open C
namespace TB
def r0:=[o 2 (.box 2 0),o 4 (.alloc 4 [(.bool false),.nil,.nil])]
def r1:=[o 5 (.ld true 4 2),o 6 (.call 2 [5]),o 7 (.un .not 6)]
def r2:=[o 8 (.call 96 [(k 0)]),n (.st 3 4 8)]
def r3:=[m 9 1,o 10 (.a7 2 1),o 11 (.ld false 1 10),o 12 (.bin .shl (k 1) 11),o 13 (.call 151 [9,12]),n (.st 3 4 13)]
def c:=(s (d r0 [0]) (s (s (d r1 [5,6]) (i 7 (s (d r2 [1,2,7,8]) .ret) .skip)) (s (d r3 [1,2,7,9,10,11,12,13]) .ret)))
end TB
def TB:AFn:=⟨2,TB.c,[.cell 4 true 3],false⟩
structure er (L:Lib):Prop extends kf L,w6 L,au L,nh L where
 TB:L 175=some F.TB
end Go.e8.F

namespace Go.e8.F
open C
namespace WZ
def r0:=[o 1 (.box 1 0),o 2 (.b9 (.c (.bool false)))]
def r1:=[o 3 (.ld true 4 1),o 4 (.call 2 [3]),m 5 4,g 6 5 true (.a7 1 1),g 7 5 true (.ld false 1 6),g 8 5 true (.bin .geq 7 (k 1)),
 o 9 (.pick 5 8 (.c (.bool false))),m 2 9]
def c:=(s (d r0 [0,2]) (s (d r1 [1,3,4,5,6,7,8,9]) .ret))
end WZ
def WZ:AFn:=⟨1,WZ.c,[.tmp 2],false⟩
namespace WY
def r0:=[o 2 (.box 2 0),o 3 (.box 3 1),o 4 (.b9 (.c (.bool false)))]
def r1:=[o 8 (.a7 2 0),o 9 (.ld false 1 8),o 10 (.bin .neq 9 (k 1)),m 11 10,g 12 11 true (.a7 2 0),g 13 11 true (.ld false 1 12),
 g 14 11 true (.bin .neq 13 (k 2)),o 15 (.pick 11 14 (.c (.bool false)))]
def r2:=[o 4 (.b9 (.c (.bool false)))]
def r3:=[o 16 (.a7 2 0),o 17 (.ld false 1 16),o 18 (.bin .eql 17 (k 1)),m 19 18,g 20 19 true (.a7 2 1),g 21 19 true (.a5 (some 2) 1 20 (k 1)),
 g 22 19 true (.ld false 1 21),g 23 19 true (.bin .neq 22 (k 0)),o 24 (.pick 19 23 (.c (.bool false)))]
def r4:=[o 4 (.b9 (.c (.bool false)))]
def r5:=[o 25 (.a7 3 1),o 26 (.ld false 1 25),o 27 (.bin .shl (k 1) 26),m 5 27]
def r6:=[o 28 (.a7 2 1),o 29 (.ld true 2 28),o 30 (.b9 (k 0))]
def r7:=[o 31 (.bin .lss 30 (k 2))]
def r8:=[o 32 (.idx 2 1 false 29 30),m 7 32]
def r9:=[m 33 7,m 34 5,o 35 (.un .neg 34),o 36 (.bin .leq 33 35),m 37 36,g 38 37 false (.b9 7),g 39 37 false (.b9 5),g 40 37 false (.bin .geq 38 39),
 o 41 (.pick 37 (.c (.bool true)) 40)]
def BM:=[o 4 (.b9 (.c (.bool false)))]
def BZ:=[o 42 (.ld true 4 3),m 43 7,o 44 (.call 5 [42,43]),o 45 (.un .not 44),m 46 45,g 47 46 false (.ld true 4 3),g 48 46 false (.b9 7),
 g 49 46 false (.un .neg 48),g 50 46 false (.call 5 [47,49]),g 51 46 false (.un .not 50),o 52 (.pick 46 (.c (.bool true)) 51)]
def w4:=[o 4 (.b9 (.c (.bool false)))]
def CD:=[o 53 (.bin .add 30 (k 1)),m 30 53]
def ay:=[o 4 (.b9 (.c (.bool true)))]
def l1:=(s (p r7) (s (i 31 .skip (x 0)) (s (b 1 (s (d r8 [31,32]) (s (s (d r9 [33,34,35,36,37,38,39,40]) (i 41 (s (d BM [3,5,7,29,30,41]) .ret) .skip)) (s (d BZ [7,41,42,43,44,45,46,47,48,49,50,51]) (i 52 (s (d w4 [3,5,29,30,52]) .ret) .skip))))) (d CD [52,53]))))
def c:=(s (d r0 [0,1,4]) (s (s (d r1 [8,9,10,11,12,13,14]) (i 15 (s (d r2 [2,3,15]) .ret) .skip)) (s (s (d r3 [15,16,17,18,19,20,21,22,23]) (i 24 (s (d r4 [2,3,24]) .ret) .skip)) (s (d r5 [24,25,26,27]) (s (s (d r6 [2,28]) (b 0 (w l1))) (s (d ay [3,5,29,30,31]) .ret))))))
end WY
def WY:AFn:=⟨2,WY.c,[.tmp 4],false⟩
namespace OP
def r0:=[o 2 (.box 2 0),o 3 (.box 3 1),o 4 (.alloc 4 [.nil,.nil])]
def r1:=[o 10 (.call 96 [(k 1)]),o 5 (.alloc 5 [(.bool false),.nil,.nil]),n (.st 3 5 10)]
def r2:=[o 11 (.ld true 4 3),o 12 (.a7 2 1),o 13 (.a5 (some 2) 1 12 (k 0)),o 14 (.ld false 1 13),o 15 (.call 175 [11,14]),
 o 6 (.alloc 6 [(.bool false),.nil,.nil]),n (.st 3 6 15)]
def r3:=[o 16 (.ld true 3 6),o 17 (.call 199 [16]),o 7 (.alloc 7 [(.bool false),.nil,.nil]),n (.st 3 7 17)]
def r4:=[o 18 (.a7 2 0),o 19 (.ld false 1 18),o 20 (.bin .eql 19 (k 1))]
def r5:=[q 21 [27] (.ld true 3 7),q 22 [27] (.ld true 3 5),o 23 (.g8 23 3 [21,22]),q 24 [27] (.call 170 [23]),
 q 25 [23] (.ld true 3 5),q 26 [23] (.ld true 3 7),o 27 (.g8 27 3 [25,26]),o 28 (.call 170 [27]),
 o 29 (.build [.nil,.nil] [(0,1,24),(1,1,28)]),n (.st 2 4 29)]
def r6:=[o 30 (.ld true 4 3),o 31 (.a7 2 1),o 32 (.a5 (some 2) 1 31 (k 1)),o 33 (.ld false 1 32),o 34 (.call 175 [30,33]),
 o 8 (.alloc 8 [(.bool false),.nil,.nil]),n (.st 3 8 34)]
def r7:=[q 35 [9] (.ld true 3 8),q 36 [9] (.ld true 3 6),q 37 [9] (.ld true 3 5),q 38 [9] (.call 150 [36,37]),
 q 39 [9] (.call 99 [35,38]),o 9 (.alloc 9 [(.bool false),.nil,.nil]),n (.st 3 9 39)]
def r8:=[q 40 [48] (.ld true 3 7),q 41 [48] (.ld true 3 9),q 42 [48] (.ld true 3 5),o 43 (.g8 43 3 [40,41,42]),
 q 44 [48] (.call 170 [43]),q 45 [43] (.ld true 3 5),q 46 [43] (.ld true 3 9),q 47 [43] (.ld true 3 7),
 o 48 (.g8 48 3 [45,46,47]),o 49 (.call 170 [48]),o 50 (.build [.nil,.nil] [(0,1,44),(1,1,49)]),n (.st 2 4 50)]
def c:=(s (d r0 [0,1]) (s (d r1 [10]) (s (d r2 [11,12,13,14,15]) (s (d r3 [16,17]) (s (s (d r4 [18,19]) (i 20 (s (e r5 [2,3,5,6,7,20,21,22,23,24,25,26,27,28,29]) .ret) .skip)) (s (d r6 [2,3,20,30,31,32,33,34]) (s (e r7 [6,8,35,36,37,38,39]) (s (e r8 [5,7,9,40,41,42,43,44,45,46,47,48,49,50]) .ret))))))))
end OP
def OP:AFn:=⟨2,OP.c,[.cell 4 true 2],false⟩
namespace WX
def r0:=[o 2 (.box 2 0),o 3 (.box 3 1),o 4 (.alloc 4 [.nil,.nil]),o 5 (.b9 (k 0))]
def r1:=[o 6 (.ld true 4 3),o 7 (.call 339 [6]),o 8 (.un .not 7)]
def r2:=[o 9 (.build [.nil,.nil] []),n (.st 2 4 9),o 5 (.b9 (k 2))]
def r3:=[o 10 (.ld true 3 2),o 11 (.ld true 4 3),o 12 (.call 340 [10,11]),o 13 (.un .not 12)]
def r4:=[o 14 (.build [.nil,.nil] []),n (.st 2 4 14),o 5 (.b9 (k 1))]
def r5:=[o 15 (.ld true 3 2),o 16 (.ld true 4 3),o 17 (.call 341 [15,16]),n (.st 2 4 17),o 5 (.b9 (k 0))]
def c:=(s (d r0 [0,1,5]) (s (s (d r1 [6,7]) (i 8 (s (d r2 [2,3,8,9]) .ret) .skip)) (s (s (d r3 [8,10,11,12]) (i 13 (s (d r4 [2,3,13,14]) .ret) .skip)) (s (d r5 [2,3,13,15,16,17]) .ret))))
end WX
def WX:AFn:=⟨2,WX.c,[.cell 4 true 2,.tmp 5],false⟩
structure z9 (L:Lib):Prop extends q5 L,er L,v3 L where
 WZ:L 339=some F.WZ
 WY:L 340=some F.WY
 OP:L 341=some F.OP
 WX:L 342=some F.WX
end Go.e8.F

namespace Go.e8.F
open C
namespace LC
def r0:=[o 6 (.b9 (.c (.bool false)))]
def r1:=[m 18 1,o 19 (.call 38 [18]),o 7 (.alloc 7 [z,z,z,z]),n (.st 4 7 19)]
def r2:=[o 20 (.ld true 4 7),o 21 (.call 41 [20]),o 22 (.bin .mul 21 (k 3)),o 23 (.bin .quo 22 (k 4)),m 24 2,o 25 (.call 40 [23,24,(k 2)]),m 8 25]
def r3:=[m 26 0,q 27 [9] (.call 34 [26,(k 2)]),o 28 (.bin .add (k 1) 27),m 29 8,o 30 (.a5 none 1 29 (k 0)),q 31 [9] (.ld false 1 30),
 m 32 8,o 33 (.a5 none 1 32 (k 1)),q 34 [9] (.ld false 1 33),o 35 (.build [z,z] [(0,1,31),(1,1,34)]),
 o 36 (.build [z,z,z] [(0,1,28),(1,2,35)]),o 9 (.alloc 9 [z,z,z]),n (.st 3 9 36)]
def r4:=[o 37 (.a7 9 0),o 38 (.ld false 1 37),o 39 (.bin .eql 38 (k 1))]
def r5:=[o 40 (.a7 9 1),o 41 (.a5 (some 2) 1 40 (k 1)),n (.st 1 41 (k 0))]
def r6:=[o 43 (.ld true 3 9),o 44 (.ld true 4 7),o 45 (.call 342 [43,44]),m 42 45,o 46 (.ext 42 0),o 47 (.ext 42 1),o 10 (.alloc 10 [.nil,.nil]),
 n (.st 2 10 46),m 11 47]
def r7:=[o 49 (.ld true 2 10),o 50 (.call 207 [49]),m 48 50,o 51 (.ext 48 0),o 52 (.ext 48 1),o 12 (.alloc 12 [.nil,.nil,.nil,(.bool false),.nil,.nil]),
 n (.st 6 12 51),m 13 52]
def r8:=[o 54 (.ld true 6 12),o 55 (.call 332 [54]),m 53 55,o 56 (.ext 53 0),o 57 (.ext 53 1),o 14 (.alloc 14 [(.bool false),.nil,.nil]),n (.st 3 14 56),
 m 15 57]
def r9:=[m 58 11,o 59 (.bin .neq 58 (k 0)),m 60 59,g 61 60 false (.b9 13),g 62 60 false (.bin .neq 61 (k 0)),o 63 (.pick 60 (.c (.bool true)) 62)]
def BM:=[o 6 (.b9 (.c (.bool false)))]
def BZ:=[m 64 15,o 65 (.bin .neq 64 (k 0))]
def w4:=[o 67 (.ld true 6 12),o 68 (.call 334 [67]),m 66 68,o 69 (.ext 66 0),o 70 (.ext 66 1),o 16 (.alloc 16 [(.bool false),.nil,.nil]),n (.st 3 16 69),
 m 17 70]
def CD:=[o 71 (.call 336 []),m 72 71,g 73 72 true (.b9 15),g 74 72 true (.b9 17),g 75 72 true (.bin .eql 73 74),o 76 (.pick 72 75 (.c (.bool false))),m 6 76]
def ay:=[o 77 (.call 336 []),m 78 77,g 79 78 true (.ld true 3 14),g 80 78 true (.call 124 [(k 1)]),g 81 78 true (.call 127 [79,80]),
 g 82 78 true (.bin .eql 81 (k 0)),o 83 (.pick 78 82 (.c (.bool false))),m 6 83]
def c:=(s (d r0 [6]) (s (d r1 [1,18,19]) (s (d r2 [2,20,21,22,23,24,25]) (s (e r3 [0,8,26,27,28,29,30,31,32,33,34,35,36]) (s (s (d r4 [37,38]) (i 39 (d r5 [39,40,41]) .skip)) (s (d r6 [7,9,39,42,43,44,45,46,47]) (s (d r7 [10,48,49,50,51,52]) (s (d r8 [53,54,55,56,57]) (s (s (d r9 [11,13,58,59,60,61,62]) (i 63 (s (d BM [12,14,15,63]) .ret) .skip)) (s (s (d BZ [63,64]) (i 65 (s (d w4 [12,14,16,65,66,67,68,69,70]) (s (d CD [15,17,71,72,73,74,75,76]) .ret)) .skip)) (s (e ay [12,14,15,65,77,78,79,80,81,82,83]) .ret)))))))))))
end LC
def LC:AFn:=⟨3,LC.c,[.tmp 6],false⟩
structure kg (L:Lib):Prop extends z9 L,gd L where
 LC:L 343=some F.LC
end Go.e8.F

namespace Go.e8
section
variable {L:Lib}
def Cl.le (C C':Cl):Prop:=(∀ f vs r,C.pure f vs=some r->C'.pure f vs=some r)/\(∀ f vs o r,C.ju f vs o=some r->C'.ju f vs o=some r)/\C.num=C'.num
theorem xI {x y:Option (AV × AH)} {r:Nat × List (List AV)} (h : ∀ q,x=some q->y=some q) (hr:XC x=some r):XC y=some r:=by
 cases x with
 | none=>simp [XC]at hr
 | some q=>rw[h q rfl];exact hr
theorem Ais {C C':Cl} (h:C.le C') {g7:List Nat} {ρ:AQ->AV} {own:AH} {op:D4} {E:CG} (he:j6 C g7 ρ own op=some E):j6 C' g7 ρ own op=some E:=by
 cases op with
 | call f xs =>
  simp only[j6]at he ⊢;split at he
  ·rename_i vs jo
   simp only[Option.map_eq_some_iff]at he ⊢;obtain ⟨r,hr,rfl⟩:=he;exact ⟨r,h.1 f vs r hr,rfl⟩
  ·cases he
 | j7 f xs =>
  simp only[j6,Option.map_eq_some_iff]at he ⊢;obtain ⟨r,hr,rfl⟩:=he;exact ⟨r,h.2.1 f _ own r hr,rfl⟩
 | si p f xs=>simp only[j6]at he ⊢;rw[<-h.2.2];exact he
 | tu f x=>simp only[j6]at he ⊢;rw[<-h.2.2];exact he
 | dv s f xs =>
  simp only[j6,Option.map_eq_some_iff]at he ⊢;obtain ⟨p,hp,rfl⟩:=he;exact ⟨p,kP.2 λ o ho=>h.2.1 f _ o _ (kP.1 hp o ho),rfl⟩
 | x9 s f xs =>
  simp only[j6]at he ⊢;split at he
  ·rename_i vs jo
   simp only[Option.map_eq_some_iff]at he ⊢;obtain ⟨r,hr,rfl⟩:=he;exact ⟨r,xI (h.2.1 f vs AH.emp) hr,rfl⟩
  ·cases he
 | n6 f xs =>
  simp only[j6]at he ⊢;split at he
  ·rename_i hq
   rw[if_pos hq];split at he
   ·rename_i r hr
    rw[h.1 _ _ r hr];exact he
   ·cases he
  ·cases he
 | o7 x xs =>
  simp only[j6]at he ⊢;rw[<-h.2.2];split at he
  ·split at he
   ·rename_i hg
    rw[if_pos hg];split at he
    ·split at he
     ·rename_i vs jo
      simp only[Option.map_eq_some_iff]at he ⊢;obtain ⟨r,hr,rfl⟩:=he;exact ⟨r,h.1 _ vs r hr,rfl⟩
     ·cases he
    ·simp only[Option.map_eq_some_iff]at he ⊢
     obtain ⟨r,hr,rfl⟩:=he;exact ⟨r,h.2.1 _ _ own r hr,rfl⟩
    ·split at he
     ·rename_i vs jo
      simp only[Option.map_eq_some_iff]at he ⊢;obtain ⟨r,hr,rfl⟩:=he;exact ⟨r,h.1 _ vs r hr,rfl⟩
     ·cases he
   ·cases he
  ·cases he
 | _=>exact he
theorem Anq {C C':Cl} (h:C.le C') {o:AI} {st l7:St} (he:C6 C o st=some l7):C6 C' o st=some l7:=by
 unfold C6 at he ⊢;split at he
 ·simp only[Option.map_eq_some_iff]at he ⊢
  obtain ⟨E,h1,h2⟩:=he;exact ⟨E,Ais h h1,h2⟩
 ·exact he
 ·exact he
theorem X4 {C C':Cl} (h:C.le C') : ∀ {l:List AI} {st l7:St},DC C l st=some l7->DC C' l st=some l7
 | [],st,l7,he=>he
 | o::r,st,l7,he=>by
  simp only[DC]at he ⊢;cases hs:C6 C o st with
  | none=>simp [hs]at he
  | some A7 =>
   rw[Anq h hs];simp only[hs]at he;exact X4 h he
theorem OE {C C':Cl} (h:C.le C') : ∀ {n n':Nat} {k:List It} {st l7:St},n<=n'->run C n k st=some l7->run C' n' k st=some l7:=by
 intro n;induction n with
 | zero=>intro n' k st l7 _ hr;simp [run]at hr
 | succ n ih =>
  intro n' k st l7 hn hr;obtain ⟨q,rfl⟩ : ∃ q,n'=q+1:=⟨n'-1,by omega⟩;have hq:n<=q:=by omega
  cases k with
  | nil=>exact hr
  | cons it k =>
   cases it with
   | j5 id=>simp only[run]at hr ⊢;exact ih hq hr
   | mr ts ss=>simp only[run]at hr ⊢;exact ih hq hr
   | lp c=>simp only[run]at hr ⊢;exact ih hq hr
   | code c =>
    cases c with
    | skip=>simp only[run]at hr ⊢;exact ih hq hr
    | ops l d =>
     simp only[run]at hr ⊢;cases hs:DC C l st with
     | none=>simp [hs]at hr
     | some A7 =>
      rw[X4 h hs];simp only[hs]at hr;exact ih hq hr
    | dr c ts ss=>simp only[run]at hr ⊢;exact ih hq hr
    | scope c=>simp only[run]at hr ⊢;exact ih hq hr
    | seq a b=>simp only[run]at hr ⊢;exact ih hq hr
    | cond x a b =>
     simp only[run]at hr ⊢;split at hr
     ·exact ih hq hr
     ·exact ih hq hr
     ·cases hr
    | block id c=>simp only[run]at hr ⊢;exact ih hq hr
    | loop c=>simp only[run]at hr ⊢;exact ih hq hr
    | exit id =>
     simp only[run]at hr ⊢;split at hr
     ·exact ih hq hr
     ·cases hr
    | ret=>exact hr
theorem iN {I I':List AV->Option (AV × AH)} (hI : ∀ vs r,I vs=some r->I' vs=some r) {vs:List AV} {r:AV} (h:JJ I vs=some r):JJ I' vs=some r:=by
 unfold JJ at h ⊢;cases he:I vs with
 | none=>simp [he]at h
 | some x=>rw[hI vs _ he];simpa [he] using h
theorem Amp {b:Bool} {I I':List AV->Option (AV × AH)} (hI : ∀ vs r,I vs=some r->I' vs=some r) {vs:List AV} {r:AV} (h:QG b I vs=some r):QG b I' vs=some r:=by
 unfold QG at h ⊢;split at h
 ·split at h
  ·rename_i r1 r2 h1 h2
   rw[iN hI h1,iN hI h2];exact h
  ·cases h
 ·exact iN hI h
theorem Re : ∀ (n:Nat),(C3 L n).le (C3 L (n+1)):=by
 have ju : ∀ n,(∀ f vs o r,DQ L n f vs o=some r->DQ L (n+1) f vs o=some r) -> ∀ f vs r,HC L n f vs=some r->HC L (n+1) f vs=some r:=by
  intro n hI f vs r h;exact Amp (λ vs r h=>hI f vs _ r h) h
 intro n;induction n with
 | zero =>
  have : ∀ f vs o r,DQ L 0 f vs o=some r->DQ L 1 f vs o=some r:=λ f vs o r h=>by simp [DQ]at h
  exact ⟨ju 0 this,this,rfl⟩
 | succ n ih =>
  have : ∀ f vs o r,DQ L (n+1) f vs o=some r->DQ L (n+2) f vs o=some r:=λ f vs o r h=>by
   rw[gE]at h ⊢;cases hL:L f with
   | none=>simp [hL]at h
   | some fn =>
    simp only[hL]at h ⊢;split at h
    ·rename_i hp
     rw[if_pos hp];cases hr:run (C3 L n) n [.code fn.body] ⟨C0 0 vs,o⟩ with
     | none=>simp [hr]at h
     | some st =>
      rw[OE ih (Nat.le_succ n) hr];simpa [hr] using h
    ·cases h
  exact ⟨ju (n+1) this,this,rfl⟩
theorem FE {n n':Nat} (h:n<=n'):(C3 L n).le (C3 L n'):=by
 induction h with
 | refl=>exact ⟨λ_ _ _ h=>h,λ_ _ _ _ h=>h,rfl⟩
 | step _ ih=>exact ⟨λ f vs r h=>(Re _).1 f vs r (ih.1 f vs r h),λ f vs o r h=>(Re _).2.1 f vs o r (ih.2.1 f vs o r h),rfl⟩
def Ev (L:Lib) (f:Nat) (vs:List AV) (r:AV):Prop := ∃ n,HC L n f vs=some r
def FU (L:Lib) (f:Nat) (vs:List AV) (r:AV):Prop := ∃ n,JJ (λ vs=>DQ L n f vs AH.emp) vs=some r
def GR (L:Lib) (f:Nat) (vs:List AV) (o:AH) (r:AV) (o':AH):Prop := ∃ n,DQ L n f vs o=some (r,o')
def aB (L:Lib) (f:Nat) (vs:List AV) (z:Nat) (es:List (List AV)):Prop := ∃ n,XC (DQ L n f vs AH.emp)=some (z,es)
theorem Ev.Cg {f:Nat} {vs:List AV} {r r':AV} (h:Ev L f vs r) (h':Ev L f vs r'):r=r':=by
 obtain ⟨n,hn⟩:=h;obtain ⟨n',tp⟩:=h';have h1:=(FE (L:=L) (Nat.le_max_left n n')).1 f vs r hn;have h2:=(FE (L:=L) (Nat.le_max_right n n')).1 f vs r' tp;rw[h1]at h2;exact Option.some.inj h2
theorem GR.Cg {f:Nat} {vs:List AV} {o:AH} {r r':AV} {o1 o2:AH} (h:GR L f vs o r o1) (h':GR L f vs o r' o2):r=r'/\o1=o2:=by
 obtain ⟨n,hn⟩:=h;obtain ⟨n',tp⟩:=h';have h1:=(FE (L:=L) (Nat.le_max_left n n')).2.1 f vs o _ hn;have h2:=(FE (L:=L) (Nat.le_max_right n n')).2.1 f vs o _ tp;rw[h1]at h2;simpa using h2
def AK (L:Lib) (k:List It) (st:St) (Q:St->Prop):Prop := ∃ n c l7,run (C3 L c) n k st=some l7/\Q l7
def AO (L:Lib) (l:List AI) (k:List It) (st:St) (Q:St->Prop):Prop := ∃ n c A7 l7,DC (C3 L c) l st=some A7/\run (C3 L c) n k A7=some l7/\Q l7
variable {k:List It} {st:St} {Q:St->Prop}
theorem OQ {it:It} {k':List It} {A7:St} (h : ∀ (C:Cl) (n:Nat),run C (n+1) (it::k) st=run C n k' A7):AK L (it::k) st Q↔AK L k' A7 Q:=by
 constructor
 ·rintro ⟨n,c,l7,hr,hq⟩
  cases n with
  | zero=>simp [run]at hr
  | succ n=>exact ⟨n,c,l7,by rw[<-h];exact hr,hq⟩
 ·rintro ⟨n,c,l7,hr,hq⟩
  exact ⟨n+1,c,l7,by rw[h];exact hr,hq⟩
theorem Aew:AK L [] st Q↔Q st:=by
 constructor
 ·rintro ⟨n,c,l7,hr,hq⟩
  cases n with
  | zero=>simp [run]at hr
  | succ n=>simp only[run,Option.some.injEq]at hr;exact hr ▸ hq
 ·exact λ h=>⟨1,0,st,rfl,h⟩
theorem Aeo {id:Nat}:AK L (.j5 id::k) st Q↔AK L k st Q:=OQ λ_ _=>rfl
theorem Aes {ts ss:List Nat}:AK L (.mr ts ss::k) st Q↔AK L k ⟨bq st.tm ts,st.own.drop ss⟩ Q:=OQ λ_ _=>rfl
theorem wE {c:BH}:AK L (.lp c::k) st Q↔AK L (.code c :: .lp c::k) st Q:=OQ λ_ _=>rfl
theorem AeB:AK L (.code .skip::k) st Q↔AK L k st Q:=OQ λ_ _=>rfl
theorem Aer {c:BH} {ts ss:List Nat}:AK L (.code (.dr c ts ss)::k) st Q↔AK L (.code c :: .mr ts ss::k) st Q:=OQ λ_ _=>rfl
theorem Aez {c:BH}:AK L (.code (.scope c)::k) st Q↔AK L (.code c::k) st Q:=OQ λ_ _=>rfl
theorem AeA {a b:BH}:AK L (.code (.seq a b)::k) st Q↔AK L (.code a :: .code b::k) st Q:=OQ λ_ _=>rfl
theorem Aep {id:Nat} {c:BH}:AK L (.code (.block id c)::k) st Q↔AK L (.code c :: .j5 id::k) st Q:=OQ λ_ _=>rfl
theorem Aeu {c:BH}:AK L (.code (.loop c)::k) st Q↔AK L (.code c :: .lp c::k) st Q:=OQ λ_ _=>rfl
theorem Aet {id:Nat} {k':List It} (h:DX id k=some k'):AK L (.code (.exit id)::k) st Q↔AK L k' st Q:=OQ λ C n=>by simp [run,h]
theorem Aey:AK L (.code .ret::k) st Q↔Q st:=by
 constructor
 ·rintro ⟨n,c,l7,hr,hq⟩
  cases n with
  | zero=>simp [run]at hr
  | succ n=>simp only[run,Option.some.injEq]at hr;exact hr ▸ hq
 ·exact λ h=>⟨1,0,st,rfl,h⟩
theorem Aeq {x:AQ} {a b:BH} {t:Bool} (h:st.ev x = .bool t):AK L (.code (.cond x a b)::k) st Q↔if t=true then AK L (.code a::k) st Q else AK L (.code b::k) st Q:=by
 cases t
 ·simpa using OQ (k' := .code b::k) (A7:=st) λ C n=>by simp [run,h]
 ·simpa using OQ (k' := .code a::k) (A7:=st) λ C n=>by simp [run,h]
theorem Aex {l:List AI} {d:Bool}:AK L (.code (.ops l d)::k) st Q↔AO L l k st Q:=by
 constructor
 ·rintro ⟨n,c,l7,hr,hq⟩
  cases n with
  | zero=>simp [run]at hr
  | succ n =>
   simp only[run]at hr;split at hr
   ·rename_i A7 hs
    exact ⟨n,c,A7,l7,hs,hr,hq⟩
   ·cases hr
 ·rintro ⟨n,c,A7,l7,hs,hr,hq⟩
  exact ⟨n+1,c,l7,by simp [run,hs,hr],hq⟩
theorem AeK:AO L [] k st Q↔AK L k st Q:=by
 constructor
 ·rintro ⟨n,c,A7,l7,hs,hr,hq⟩
  simp only[DC,Option.some.injEq]at hs;exact ⟨n,c,l7,hs ▸ hr,hq⟩
 ·rintro ⟨n,c,l7,hr,hq⟩
  exact ⟨n,c,st,l7,rfl,hr,hq⟩
theorem AeO {o:AI} {l:List AI} {A7:St} (h : ∀ C,C6 C o st=some A7):AO L (o::l) k st Q↔AO L l k A7 Q:=by
 constructor
 ·rintro ⟨n,c,BS,l7,hs,hr,hq⟩
  simp only[DC,h]at hs;exact ⟨n,c,BS,l7,hs,hr,hq⟩
 ·rintro ⟨n,c,BS,l7,hs,hr,hq⟩
  exact ⟨n,c,BS,l7,by simpa only[DC,h] using hs,hr,hq⟩
theorem AeL {d:Option Nat} {op:D4} {g:Option (Nat × Bool)} {g7:List Nat} {l:List AI} (h:FL st g=some false):AO L (⟨d,op,g,g7⟩::l) k st Q↔AO L l k (st.dst d (.j9 [])) Q :=
 AeO λ C=>by simp [C6,h]
theorem cP (c:Nat):(C3 L c).num=L.num:=rfl
theorem AeM {d:Option Nat} {op:D4} {g:Option (Nat × Bool)} {g7:List Nat} {l:List AI} {E:CG} (h:FL st g=some true) (he : ∀ c,j6 (C3 L c) g7 st.ev st.own op=some E):AO L (⟨d,op,g,g7⟩::l) k st Q↔AO L l k (st.app d E) Q:=by
 have h : ∀ c,C6 (C3 L c) ⟨d,op,g,g7⟩ st=some (st.app d E):=λ c=>by simp [C6,h,he]
 constructor
 ·rintro ⟨n,c,BS,l7,hs,hr,hq⟩
  simp only[DC,h]at hs;exact ⟨n,c,BS,l7,hs,hr,hq⟩
 ·rintro ⟨n,c,BS,l7,hs,hr,hq⟩
  exact ⟨n,c,BS,l7,by simpa only[DC,h] using hs,hr,hq⟩
theorem AeC {d:Option Nat} {f:Nat} {xs:List AQ} {g:Option (Nat × Bool)} {g7:List Nat} {l:List AI} {vs:List AV} {r:AV} (h:FL st g=some true) (hv:(xs.map st.ev).mapM (C5 (st.own.n7 g7) true)=some vs) (hr:Ev L f vs r) :
  AO L (⟨d,.call f xs,g,g7⟩::l) k st Q↔AO L l k (st.dst d r) Q:=by
 have l9 : ∀ c r',HC L c f vs=some r'->C6 (C3 L c) ⟨d,.call f xs,g,g7⟩ st=some (st.dst d r'):=λ c r' hc=>by
  have aj:(C3 L c).pure f vs=some r':=hc;simp [C6,h,j6,hv,aj,St.app]
 constructor
 ·rintro ⟨n,c,BS,l7,hs,il,hq⟩
  simp only[DC]at hs;cases hI:C6 (C3 L c) ⟨d,.call f xs,g,g7⟩ st with
  | none=>simp [hI]at hs
  | some A7 =>
   simp only[hI]at hs;cases hp:HC L c f vs with
   | none =>
    have aj:(C3 L c).pure f vs=none:=hp;simp [C6,h,j6,hv,aj]at hI
   | some r' =>
    obtain rfl:r'=r:=Ev.Cg ⟨c,hp⟩ hr;rw[l9 c r' hp]at hI;obtain rfl:=Option.some.inj hI;exact ⟨n,c,BS,l7,hs,il,hq⟩
 ·rintro ⟨n,c,BS,l7,hs,il,hq⟩
  obtain ⟨c',aj⟩:=hr;have l1:=FE (L:=L) (Nat.le_max_left c c');have l2:=FE (L:=L) (Nat.le_max_right c c');refine ⟨n,max c c',BS,l7,?_,OE l1 (Nat.le_refl n) il,hq⟩;simp only[DC];rw[l9 (max c c') r (l2.1 f vs r aj)];exact X4 l1 hs
theorem AeF {d:Option Nat} {f:Nat} {x:AQ} {xs:List AQ} {g:Option (Nat × Bool)} {g7:List Nat} {l:List AI} {vs:List AV} {r:AV} (h:FL st g=some true) (hx:st.ev x = .fn true f (L.num f) []) (hv:(xs.map st.ev).mapM (C5 st.own true)=some vs) (hr:Ev L f vs r) :
  AO L (⟨d,.o7 x xs,g,g7⟩::l) k st Q↔AO L l k (st.dst d r) Q:=by
 have l9 : ∀ c r',HC L c f vs=some r'->C6 (C3 L c) ⟨d,.o7 x xs,g,g7⟩ st=some (st.dst d r'):=λ c r' hc=>by
  have aj:(C3 L c).pure f vs=some r':=hc;simp [C6,h,j6,hx,cP,hv,aj,St.app]
 constructor
 ·rintro ⟨n,c,BS,l7,hs,il,hq⟩
  simp only[DC]at hs;cases hI:C6 (C3 L c) ⟨d,.o7 x xs,g,g7⟩ st with
  | none=>simp [hI]at hs
  | some A7 =>
   simp only[hI]at hs;cases hp:HC L c f vs with
   | none =>
    have aj:(C3 L c).pure f vs=none:=hp;simp [C6,h,j6,hx,cP,hv,aj]at hI
   | some r' =>
    obtain rfl:r'=r:=Ev.Cg ⟨c,hp⟩ hr;rw[l9 c r' hp]at hI;obtain rfl:=Option.some.inj hI;exact ⟨n,c,BS,l7,hs,il,hq⟩
 ·rintro ⟨n,c,BS,l7,hs,il,hq⟩
  obtain ⟨c',aj⟩:=hr;have l1:=FE (L:=L) (Nat.le_max_left c c');have l2:=FE (L:=L) (Nat.le_max_right c c');refine ⟨n,max c c',BS,l7,?_,OE l1 (Nat.le_refl n) il,hq⟩;simp only[DC];rw[l9 (max c c') r (l2.1 f vs r aj)];exact X4 l1 hs
theorem AeD {d:Option Nat} {f:Nat} {w:AV} {cs:List AV} {x:AQ} {xs:List AQ} {g:Option (Nat × Bool)} {g7:List Nat} {l:List AI} {vs:List AV} {r:AV} (h:FL st g=some true) (hx:st.ev x = .fn true f (L.num f) (w::cs)) (hv:(AV.agg (w::cs)::xs.map st.ev).mapM (C5 st.own true)=some vs) (hr:Ev L f vs r) :
  AO L (⟨d,.o7 x xs,g,g7⟩::l) k st Q↔AO L l k (st.dst d r) Q:=by
 have l9 : ∀ c r',HC L c f vs=some r'->C6 (C3 L c) ⟨d,.o7 x xs,g,g7⟩ st=some (st.dst d r'):=λ c r' hc=>by
  have aj:(C3 L c).pure f vs=some r':=hc;simp [C6,h,j6,hx,cP,hv,aj,St.app]
 constructor
 ·rintro ⟨n,c,BS,l7,hs,il,hq⟩
  simp only[DC]at hs;cases hI:C6 (C3 L c) ⟨d,.o7 x xs,g,g7⟩ st with
  | none=>simp [hI]at hs
  | some A7 =>
   simp only[hI]at hs;cases hp:HC L c f vs with
   | none =>
    have aj:(C3 L c).pure f vs=none:=hp;simp [C6,h,j6,hx,cP,hv,aj]at hI
   | some r' =>
    obtain rfl:r'=r:=Ev.Cg ⟨c,hp⟩ hr;rw[l9 c r' hp]at hI;obtain rfl:=Option.some.inj hI;exact ⟨n,c,BS,l7,hs,il,hq⟩
 ·rintro ⟨n,c,BS,l7,hs,il,hq⟩
  obtain ⟨c',aj⟩:=hr;have l1:=FE (L:=L) (Nat.le_max_left c c');have l2:=FE (L:=L) (Nat.le_max_right c c');refine ⟨n,max c c',BS,l7,?_,OE l1 (Nat.le_refl n) il,hq⟩;simp only[DC];rw[l9 (max c c') r (l2.1 f vs r aj)];exact X4 l1 hs
theorem AeG {d:Option Nat} {f:Nat} {xs:List AQ} {g:Option (Nat × Bool)} {g7:List Nat} {l:List AI} {r:AV} (h:FL st g=some true) (hq:(xs.map st.ev).all dq=true) (hr:Ev L f ((xs.map st.ev).map zh) r) (fo:OS r\/cC r) :
  AO L (⟨d,.n6 f xs,g,g7⟩::l) k st Q↔AO L l k (st.dst d (TS r)) Q:=by
 have l9 : ∀ c,HC L c f ((xs.map st.ev).map zh)=some r->C6 (C3 L c) ⟨d,.n6 f xs,g,g7⟩ st=some (st.dst d (TS r)):=λ c hc=>by
  have aj:(C3 L c).pure f ((xs.map st.ev).map zh)=some r:=hc;simp only[C6,h,j6];rw[if_pos hq,aj];simp only[if_pos fo,Option.map_some,St.app]
 constructor
 ·rintro ⟨n,c,BS,l7,hs,il,Ez⟩
  simp only[DC]at hs;cases hp:HC L c f ((xs.map st.ev).map zh) with
  | none =>
   have aj:(C3 L c).pure f ((xs.map st.ev).map zh)=none:=hp;simp only[C6,h,j6]at hs;rw[if_pos hq,aj]at hs;simp at hs
  | some r' =>
   obtain rfl:r'=r:=Ev.Cg ⟨c,hp⟩ hr;rw[l9 c hp]at hs;exact ⟨n,c,BS,l7,hs,il,Ez⟩
 ·rintro ⟨n,c,BS,l7,hs,il,Ez⟩
  obtain ⟨c',aj⟩:=hr;have l1:=FE (L:=L) (Nat.le_max_left c c');have l2:=FE (L:=L) (Nat.le_max_right c c');refine ⟨n,max c c',BS,l7,?_,OE l1 (Nat.le_refl n) il,Ez⟩;simp only[DC];rw[l9 (max c c') (l2.1 f _ r aj)];exact X4 l1 hs
theorem AeH {d:Option Nat} {s f:Nat} {xs:List AQ} {g:Option (Nat × Bool)} {g7:List Nat} {l:List AI} {vs:List AV} {z:Nat} {es:List (List AV)} (h:FL st g=some true) (hv:(xs.map st.ev).mapM (X3 (st.own.n7 g7) true)=some vs) (hr:aB L f vs z es)
  (ha:AO L l k (st.app d (.new s ⟨z,es⟩ (λ t => .row s t z 0 es.length))) Q):AO L (⟨d,.x9 s f xs,g,g7⟩::l) k st Q:=by
 obtain ⟨n,c,BS,l7,hs,il,hq⟩:=ha;obtain ⟨c',aj⟩:=hr;have l1:=FE (L:=L) (Nat.le_max_left c c');have l2:=FE (L:=L) (Nat.le_max_right c c');have tj:XC ((C3 L (max c c')).ju f vs AH.emp)=some (z,es):=xI (l2.2.1 f vs AH.emp) aj;refine ⟨n,max c c',BS,l7,?_,OE l1 (Nat.le_refl n) il,hq⟩;simp only[DC];have:C6 (C3 L (max c c')) ⟨d,.x9 s f xs,g,g7⟩ st=some (st.app d (.new s ⟨z,es⟩ (λ t => .row s t z 0 es.length))):=by
  simp only[C6,h,j6,hv,tj,Option.map_some]
 rw[this];exact X4 l1 hs
def wL (L:Lib) (s f:Nat) (vs:List AV) (q:CH) (r:AV) (q':CH):Prop := ∃ n,∀ o:AH,o s=q->DQ L n f vs o=some (r,o.put s q')
theorem AeJ {d:Option Nat} {s f:Nat} {xs:List AQ} {g:Option (Nat × Bool)} {g7:List Nat} {l:List AI} {r:AV} {q':CH} (h:FL st g=some true) (hr:wL L s f (xs.map st.ev) (st.own s) r q')
  (ha:AO L l k (st.app d (.zi s q' r)) Q):AO L (⟨d,.dv s f xs,g,g7⟩::l) k st Q:=by
 obtain ⟨n,c,BS,l7,hs,il,hq⟩:=ha;obtain ⟨c',aj⟩:=hr;have l1:=FE (L:=L) (Nat.le_max_left c c');have l2:=FE (L:=L) (Nat.le_max_right c c');have tj:kO (C3 L (max c c')) f (xs.map st.ev) s (st.own s)=some (r,q'):=kP.2 λ o ho=>l2.2.1 f _ o _ (aj o ho)
 refine ⟨n,max c c',BS,l7,?_,OE l1 (Nat.le_refl n) il,hq⟩;simp only[DC];have:C6 (C3 L (max c c')) ⟨d,.dv s f xs,g,g7⟩ st=some (st.app d (.zi s q' r)):=by
  simp only[C6,h,j6,tj,Option.map_some]
 rw[this];exact X4 l1 hs
theorem AeE {d:Option Nat} {f:Nat} {xs:List AQ} {g:Option (Nat × Bool)} {g7:List Nat} {l:List AI} {r:AV} {o':AH} (h:FL st g=some true) (hr:GR L f (xs.map st.ev) st.own r o') :
  AO L (⟨d,.j7 f xs,g,g7⟩::l) k st Q↔AO L l k { (st.dst d r) with own:=o' } Q:=by
 have l9 : ∀ c r' o1,DQ L c f (xs.map st.ev) st.own=some (r',o1)->C6 (C3 L c) ⟨d,.j7 f xs,g,g7⟩ st=some { (st.dst d r') with own:=o1 }:=λ c r' o1 hc=>by
  have aj:(C3 L c).ju f (xs.map st.ev) st.own=some (r',o1):=hc;simp [C6,h,j6,aj,St.app]
 constructor
 ·rintro ⟨n,c,BS,l7,hs,il,hq⟩
  simp only[DC]at hs;cases hI:C6 (C3 L c) ⟨d,.j7 f xs,g,g7⟩ st with
  | none=>simp [hI]at hs
  | some A7 =>
   simp only[hI]at hs;cases hp:DQ L c f (xs.map st.ev) st.own with
   | none =>
    have aj:(C3 L c).ju f (xs.map st.ev) st.own=none:=hp;simp [C6,h,j6,aj]at hI
   | some x =>
    obtain ⟨r',o1⟩:=x;obtain ⟨rfl,rfl⟩:=GR.Cg ⟨c,hp⟩ hr;rw[l9 c r' o1 hp]at hI;obtain rfl:=Option.some.inj hI;exact ⟨n,c,BS,l7,hs,il,hq⟩
 ·rintro ⟨n,c,BS,l7,hs,il,hq⟩
  obtain ⟨c',aj⟩:=hr;have l1:=FE (L:=L) (Nat.le_max_left c c');have l2:=FE (L:=L) (Nat.le_max_right c c');refine ⟨n,max c c',BS,l7,?_,OE l1 (Nat.le_refl n) il,hq⟩;simp only[DC];rw[l9 (max c c') r o' (l2.2.1 f _ _ _ aj)];exact X4 l1 hs
theorem AeI {d:Option Nat} {f:Nat} {cs:List AV} {x:AQ} {xs:List AQ} {g:Option (Nat × Bool)} {g7:List Nat} {l:List AI} {r:AV} {o':AH} (h:FL st g=some true) (hx:st.ev x = .fn false f (L.num f) cs) (hr:GR L f (xs.map st.ev++cs) st.own r o') :
  AO L (⟨d,.o7 x xs,g,g7⟩::l) k st Q↔AO L l k { (st.dst d r) with own:=o' } Q:=by
 have l9 : ∀ c r' o1,DQ L c f (xs.map st.ev++cs) st.own=some (r',o1)->C6 (C3 L c) ⟨d,.o7 x xs,g,g7⟩ st=some { (st.dst d r') with own:=o1 }:=λ c r' o1 hc=>by
  have aj:(C3 L c).ju f (xs.map st.ev++cs) st.own=some (r',o1):=hc;simp [C6,h,j6,hx,cP,aj,St.app]
 constructor
 ·rintro ⟨n,c,BS,l7,hs,il,hq⟩
  simp only[DC]at hs;cases hI:C6 (C3 L c) ⟨d,.o7 x xs,g,g7⟩ st with
  | none=>simp [hI]at hs
  | some A7 =>
   simp only[hI]at hs;cases hp:DQ L c f (xs.map st.ev++cs) st.own with
   | none =>
    have aj:(C3 L c).ju f (xs.map st.ev++cs) st.own=none:=hp;simp [C6,h,j6,hx,cP,aj]at hI
   | some x =>
    obtain ⟨r',o1⟩:=x;obtain ⟨rfl,rfl⟩:=GR.Cg ⟨c,hp⟩ hr;rw[l9 c r' o1 hp]at hI;obtain rfl:=Option.some.inj hI;exact ⟨n,c,BS,l7,hs,il,hq⟩
 ·rintro ⟨n,c,BS,l7,hs,il,hq⟩
  obtain ⟨c',aj⟩:=hr;have l1:=FE (L:=L) (Nat.le_max_left c c');have l2:=FE (L:=L) (Nat.le_max_right c c');refine ⟨n,max c c',BS,l7,?_,OE l1 (Nat.le_refl n) il,hq⟩;simp only[DC];rw[l9 (max c c') r o' (l2.2.1 f _ _ _ aj)];exact X4 l1 hs
theorem Aev {Q':St->Prop} (h:AK L k st Q) (hq : ∀ s,Q s->Q' s):AK L k st Q':=by
 obtain ⟨n,c,l7,hr,hh⟩:=h;exact ⟨n,c,l7,hr,hq _ hh⟩
theorem GR.intro {f:Nat} {fn:AFn} {vs:List AV} {o:AH} {r:AV} {o':AH} (hL:L f=some fn) (hp:vs.length=fn.cu) (h:AK L [.code fn.body] ⟨C0 0 vs,o⟩ (λ st=>(fn.res.mapM (E8 st)).map IH=some r/\st.own=o')):GR L f vs o r o':=by
 obtain ⟨n,c,l7,hr,h1,h2⟩:=h;refine ⟨max n c+1,?_⟩;rw[gE];simp only[hL,hp,if_true];rw[OE (FE (L:=L) (Nat.le_max_right n c)) (Nat.le_max_left n c) hr];cases hm:fn.res.mapM (E8 l7) with
 | none=>rw[hm]at h1;cases h1
 | some rs =>
  rw[hm]at h1;simp only[Option.map_some,Option.some.injEq]at h1;simp [hm,h1,h2]
theorem FU.intro {f:Nat} {fn:AFn} {vs:List AV} {r:AV} (hL:L f=some fn) (hp:vs.length=fn.cu) (h:AK L [.code fn.body] ⟨C0 0 vs,AH.emp⟩ (λ st=>((fn.res.mapM (E8 st)).map IH).bind (Z2 st.own false)=some r/\A0 r)):FU L f vs r:=by
 obtain ⟨n,c,l7,hr,h1,h2⟩:=h;cases hm:(fn.res.mapM (E8 l7)).map IH with
 | none=>rw[hm]at h1;cases h1
 | some r0 =>
  rw[hm]at h1;simp only[Option.bind_some]at h1;obtain ⟨q,hq⟩:=GR.intro (o:=AH.emp) (r:=r0) (o':=l7.own) hL hp ⟨n,c,l7,hr,hm,rfl⟩;refine ⟨q,?_⟩;unfold JJ;simp [hq,h1,h2]
theorem FU.ev {f:Nat} {fn:AFn} {vs:List AV} {r:AV} (hL:L f=some fn) (h:FU L f vs r) (hs:fn.sn=false:=by rfl):Ev L f vs r:=by
 obtain ⟨n,h⟩:=h;have hs:L.sn f=false:=by simp only[Lib.sn,hL,hs]
 exact ⟨n,by unfold HC QG;rw[hs];exact h⟩
theorem FU.cons {f:Nat} {q:Bool} {e:List AV} {es:List (List AV)} {vs:List AV} {r:AV} (h:FU L f (.sl q (e::es)::vs) r):Ev L f (.sl q (e::es)::vs) r:=by
 obtain ⟨n,h⟩:=h;refine ⟨n,?_⟩;unfold HC QG;split
 ·rename_i heq;simp at heq
 ·exact h
theorem FU.nil {f:Nat} {fn:AFn} {q:Bool} {vs:List AV} {r:AV} (hL:L f=some fn) (h1:FU L f (.ep (.bool true)::vs) r) (h2:FU L f (.ep (.bool false)::vs) r) (hs:fn.sn=true:=by rfl):Ev L f (.sl q []::vs) r:=by
 obtain ⟨n,h1⟩:=h1;obtain ⟨n',h2⟩:=h2;have hs:L.sn f=true:=by simp only[Lib.sn,hL,hs]
 have k1:=iN (λ vs r h=>(FE (L:=L) (Nat.le_max_left n n')).2.1 f vs AH.emp r h) h1;have k2:=iN (λ vs r h=>(FE (L:=L) (Nat.le_max_right n n')).2.1 f vs AH.emp r h) h2;refine ⟨max n n',?_⟩;unfold HC QG;rw[hs];simp only;have k1':JJ (λ vs=>DQ L (max n n') f vs AH.emp) (.ep (.bool true)::vs)=some r:=k1;have k2':JJ (λ vs=>DQ L (max n n') f vs AH.emp) (.ep (.bool false)::vs)=some r:=k2;rw[k1',k2'];simp
theorem Ev.intro {f:Nat} {fn:AFn} {vs:List AV} {r:AV} (hL:L f=some fn) (hp:vs.length=fn.cu) (h:AK L [.code fn.body] ⟨C0 0 vs,AH.emp⟩ (λ st=>((fn.res.mapM (E8 st)).map IH).bind (Z2 st.own false)=some r/\A0 r)) (hs:fn.sn=false:=by rfl):Ev L f vs r :=
 (FU.intro hL hp h).ev hL hs
end
end Go.e8

namespace Go.e8
section
variable {L:Lib} {k:List It} {tm:Tm} {own:AH} {Q:St->Prop} {l:List AI} {g7:List Nat} {d:Nat}
theorem jG (i:Nat) (v:AV) (r:Tm) (j:Nat):j8 ((i,v)::r) j=if j=i then v else j8 r j:=rfl
theorem AnC (j:Nat):j8 [] j = .any:=rfl
theorem Anz (i:Nat) (v:AV) (r:Tm) (l:List Nat):bq ((i,v)::r) l=if l.contains i then bq r l else (i,v)::bq r l:=rfl
theorem AnA (l:List Nat):bq [] l=[]:=rfl
theorem AkS (i:Nat) (v:AV) (r:List AV):C0 i (v::r)=(i,v)::C0 (i+1) r:=rfl
end
end Go.e8

namespace Go.e8
section
variable {L:Lib} {k:List It} {tm:Tm} {own:AH} {st:St} {Q:St->Prop} {l:List AI} {g7:List Nat} {d:Nat} {dst:Option Nat}
section
variable {x y:AQ} {kd:IntKind} {a b:Int}
end
def fH (fn:AFn) (r:AV) (st:St):Prop:=((fn.res.mapM (E8 st)).map IH).bind (Z2 st.own false)=some r/\A0 r
theorem Ev.fwd {f:Nat} {fn:AFn} {vs:List AV} {r:AV} (hL:L f=some fn) (hp:vs.length=fn.cu) (h:AK L [.code fn.body] ⟨C0 0 vs,AH.emp⟩ (fH fn r)) (hs:fn.sn=false:=by rfl):Ev L f vs r:=Ev.intro hL hp h hs
theorem FU.fwd {f:Nat} {fn:AFn} {vs:List AV} {r:AV} (hL:L f=some fn) (hp:vs.length=fn.cu) (h:AK L [.code fn.body] ⟨C0 0 vs,AH.emp⟩ (fH fn r)):FU L f vs r:=FU.intro hL hp h
end
attribute [irreducible] fH
end Go.e8

namespace Go.e8
def pw (n:Int):Int:=2^n.toNat
theorem iP (n:Int):1<=pw n:=by
 have:0<pw n:=Int.pow_pos (by decide)
 omega
theorem uA {n m:Int} (h:n<=m):pw n<=pw m:=by
 unfold pw;have h':n.toNat<=m.toNat:=by omega
 have h2:=Nat.pow_le_pow_right (n:=2) (by decide) h';have h3:((2^n.toNat:Nat):Int)<=((2^m.toNat:Nat):Int):=by exact_mod_cast h2
 simpa using h3
theorem uB {n:Int} (h:n<=62):pw n<=4611686018427387904:=uA (m:=62) h
theorem An1 {a:Int} (h:0<=a) (h':a<=9223372036854775807):IntKind.i64.wrap a=a:=IntWalk.i64_in _ ⟨by omega,h'⟩
theorem Am5 {k2:IntKind} {n:Int} (h:0<=n/\n<=62):DI .shl .i64 1 k2 n=some (.int .i64 (pw n)):=by
 have h1:=uB h.2;have h2:=iP n;have e:(1:Int)*2^(min n.toNat IntKind.i64.bits)=pw n:=by
  have:min n.toNat IntKind.i64.bits=n.toNat:=by simp only[IntKind.bits];omega
  rw[this,Int.one_mul];rfl
 simp only[DI];rw[if_neg (by omega),e,An1 (by omega) (by omega)]
theorem Am6 {k2:IntKind} {a n:Int} (h:0<=n/\n<=63):DI .shr .i64 a k2 n=some (.int .i64 (a/pw n)):=by
 have h2:=iP n;have e:(2:Int)^(min n.toNat IntKind.i64.bits)=pw n:=by
  have:min n.toNat IntKind.i64.bits=n.toNat:=by simp only[IntKind.bits];omega
  rw[this];rfl
 simp only[DI];rw[if_neg (by omega),e,Int.fdiv_eq_ediv_of_nonneg _ (by omega)]
theorem Yk {a m:Int} (hm:0<m):a.tmod m=if 0<=a\/a%m=0 then a%m else a%m-m:=by
 have h:=Int.tmod_eq_emod (a:=a) (b:=m);rw[h];have hd:m ∣ a↔a%m=0:=Int.dvd_iff_emod_eq_zero;by_cases h0:0<=a\/a%m=0
 ·rw[if_pos h0,if_pos (by rcases h0 with h0|h0;exact Or.inl h0;exact Or.inr (hd.2 h0))];omega
 ·rw[if_neg h0,if_neg (λ h=>h0 (h.imp id hd.1))]
  have:(m.natAbs:Int)=m:=by omega
  omega
theorem Yi {a m:Int} (hm:0<m):a.tdiv m=if 0<=a\/a%m=0 then a/m else a/m+1:=by
 have h:=Int.tdiv_eq_ediv (a:=a) (b:=m);rw[h];have hd:m ∣ a↔a%m=0:=Int.dvd_iff_emod_eq_zero;by_cases h0:0<=a\/a%m=0
 ·rw[if_pos h0,if_pos (by rcases h0 with h0|h0;exact Or.inl h0;exact Or.inr (hd.2 h0))];omega
 ·rw[if_neg h0,if_neg (λ h=>h0 (h.imp id hd.1)),Int.sign_eq_one_of_pos hm]
theorem Aip {a m:Int} (hm:1<=m) (h : -9223372036854775808<=a/\a<=9223372036854775807) : -9223372036854775808<=a/m/\a/m<=9223372036854775807:=by
 constructor
 ·rw[Int.le_ediv_iff_mul_le (by omega)]
  have:=Int.mul_le_mul_of_nonpos_left (a := -9223372036854775808) (b:=m) (c:=1) (by omega) hm
  omega
 ·have:a/m<9223372036854775808:=by
   rw[Int.ediv_lt_iff_lt_mul (by omega)];have:=Int.mul_le_mul_of_nonneg_left (c:=9223372036854775808) (a:=1) (b:=m) hm (by omega)
   omega
  omega
section
variable {L:Lib} {k:List It} {tm:Tm} {own:AH} {Q:St->Prop} {l:List AI} {g7:List Nat} {d:Nat} {x y:AQ} {a b n p:Int} {k2:IntKind}
end
end Go.e8

namespace Go.e8
theorem eI (ts:List Nat) (j:Nat) : ∀ tm:Tm,j8 (bq tm ts) j=if ts.contains j then .any else j8 tm j
 | []=>by simp [AnA,AnC]
 | (i,u)::r=>by
  rw[Anz];by_cases h:ts.contains i=true
  ·rw[if_pos h,eI ts j r,jG]
   by_cases h2:j=i
   ·subst h2;rw[if_pos h,if_pos h]
   ·rw[if_neg h2]
  ·rw[if_neg h,jG,jG,eI ts j r]
   by_cases h2:j=i
   ·subst h2;rw[if_pos rfl,if_pos rfl,if_neg h]
   ·rw[if_neg h2,if_neg h2]
def YR (j:Nat):List Nat->Bool
 | []=>false
 | i::r=>bif Nat.beq j i then true else YR j r
abbrev O4 (n:Int):List AV:=[.int .i64 n]
section
variable {L:Lib} {k:List It} {tm:Tm} {own:AH} {Q:St->Prop} {l:List AI} {g7:List Nat} {d:Nat} {x i:AQ} {kd:IntKind} {a:Int} {q:Bool} {α:Type} {es:List α} {enc:α->List AV} {z:Nat}
end
end Go.e8

namespace Go.e8
inductive A5 where
 | bx (cs:List AV)
 | rw (z:Nat) (es:List (List AV))
 | bs (z:Nat) (es:List (List AV))
 | mx (rows:List (Option (Nat × List (List AV))))
 | hx (i:Nat) (v:AV) (rows:List (Option (Nat × List (List AV))))
 | vw (w:List Nat) (rows:List (Option (Nat × List (List AV))))
abbrev Mem:=List (Nat × Nat × A5)
def g9:Mem->Nat->Option (Nat × A5)
 | [],_=>none
 | (k,s,c)::r,j=>bif Nat.beq j k then some (s,c) else g9 r j
def c7 (M:Mem) (k t:Nat):Option A5:=match g9 M k with
 | none=>none
 | some (_,c)=>match t with
  | 0=>some c
  | i+1=>match c with
   | .mx rows=>match rows[i]? with
    | some (some (z,es))=>some (.rw z es)
    | _=>none
   | .hx _ _ rows=>match rows[i]? with
    | some (some (z,es))=>some (.rw z es)
    | _=>none
   | .vw _ rows=>match rows[i]? with
    | some (some (z,es))=>some (.rw z es)
    | _=>none
   | _=>none
def u5 (j:Nat):Mem->Mem
 | []=>[]
 | (k,s,c)::r=>bif Nat.beq j k then u5 j r else (k,s,c)::u5 j r
def tg:Tm->Nat->AV
 | [],_ => .any
 | (i,v)::r,j=>bif Nat.beq j i then v else tg r j
def bit (m i:Nat):Bool:=Nat.beq (Nat.land (Nat.shiftRight m i) 1) 1
def mask:Nat->List Nat->Nat
 | m,[]=>m
 | m,t::ts=>mask (Nat.lor m (Nat.shiftLeft 1 t)) ts
def ye (m:Nat):Tm->Tm
 | []=>[]
 | (i,v)::r=>bif bit m i then ye m r else (i,v)::ye (Nat.lor m (Nat.shiftLeft 1 i)) r
def fN (n:Nat) (K:Nat->Prop):Prop:=match n with
 | 0=>K 0
 | k+1=>K (k+1)
def wi:AV->Bool
 | .int _ _=>true | .bool _=>true | .ep _=>true | .sl _ _=>true | .nil=>true
 | _=>false
def D8:List AV->Bool
 | []=>true
 | v::r=>bif wi v then D8 r else false
def gA:List (List AV)->Bool
 | []=>true
 | v::r=>bif D8 v then gA r else false
def WM (s:Nat):AV->Bool
 | .row k _ _ _ _=>Nat.beq k s | .ptr k _ _ _=>Nat.beq k s
 | _=>false
def II (s:Nat):List AV->Bool
 | []=>false
 | v::r=>bif WM s v then true else II s r
def J7 (s:Nat):List (List AV)->Bool
 | []=>false
 | v::r=>bif II s v then true else J7 s r
def Y1 (s:Nat):AV->Bool
 | .agg cs=>II s cs
 | .fn _ _ _ cs=>II s cs
 | v=>WM s v
def dY (s:Nat):List AV->Bool
 | []=>false
 | v::r=>bif Y1 s v then true else dY s r
def WN (s:Nat):AV->Bool
 | .j9 vs=>dY s vs
 | v=>Y1 s v
def IJ (s:Nat):Tm->Bool
 | []=>false
 | (_,v)::r=>bif WN s v then true else IJ s r
def HE (s:Nat):A5->Bool
 | .bx cs=>II s cs
 | .rw _ _=>false
 | .bs _ es=>J7 s es
 | .mx _=>false
 | .hx _ _ _=>false
 | .vw _ _=>false
def G2 (s:Nat):Mem->Bool
 | []=>false
 | (k,_,c)::r=>bif Nat.beq s k then true else bif HE s c then true else G2 s r
def YF (s:Nat):AV->Bool
 | .row k t _ _ _=>bif Nat.beq k s then (match t with|0=>false|_+1=>true) else false
 | .ptr k t _ _=>bif Nat.beq k s then (match t with|0=>false|_+1=>true) else false
 | _=>false
def XJ (s:Nat):List AV->Bool
 | []=>false
 | v::r=>bif YF s v then true else XJ s r
def aL (s:Nat):AV->Bool
 | .agg cs=>XJ s cs
 | .fn _ _ _ cs=>XJ s cs
 | v=>YF s v
def cN (s:Nat):List AV->Bool
 | []=>false
 | v::r=>bif aL s v then true else cN s r
def ZG (s:Nat):AV->Bool
 | .j9 vs=>cN s vs
 | v=>aL s v
def K6 (s:Nat):Tm->Bool
 | []=>false
 | (_,v)::r=>bif ZG s v then true else K6 s r
def cO (s:Nat):List (List AV)->Bool
 | []=>false
 | v::r=>bif XJ s v then true else cO s r
def XH (s:Nat):A5->Bool
 | .bx cs=>XJ s cs
 | .bs _ es=>cO s es
 | _=>false
def IV (s:Nat):Mem->Bool
 | []=>false
 | (_,_,c)::r=>bif XH s c then true else IV s r
def used (k:Nat) (tm:Tm) (M:Mem):Bool:=bif G2 k M then true else IJ k tm
def mW (tm:Tm) (M:Mem):List Nat->(Nat->Prop)->Prop
 | [],_=>False
 | k::r,K=>bif used k tm M then mW tm M r K else K k
def F9 (s:Nat) (tm:Tm) (M:Mem) (K:Nat->Prop):Prop:=mW tm M [s,s+1000000,s+2000000,s+3000000] K
def fL:List AV->(List AV->Prop)->Prop
 | [],K=>K []
 | v::r,K=>fL r λ r'=>K (v::r')
def fV (v:AV) (K:AV->Prop):Prop:=match v with
 | .int k n=>K (.int k n) | .bool b=>K (.bool b) | .sl l es=>K (.sl l es) | .row s t z o n=>K (.row s t z o n)
 | .nil=>K .nil | .ptr s t i j=>K (.ptr s t i j) | .x7 cs=>K (.x7 cs) | .agg cs=>fL cs λ cs=>K (.agg cs)
 | .fn p f g cs=>fL cs λ cs=>K (.fn p f g cs)
 | .j9 vs=>fL vs λ vs=>K (.j9 vs) | .ep c=>K (.ep c) | .any=>False
def fC (v:AV) (K:List AV->Prop):Prop:=match v with
 | .agg cs=>fL cs K
 | .fn _ _ _ _=>False
 | .j9 _=>False
 | .any=>False
 | v=>fV v λ v=>K [v]
def fB (b:Bool) (K:Bool->Prop):Prop:=match b with
 | true=>K true
 | false=>K false
def fT:Tm->(Tm->Prop)->Prop
 | [],K=>K []
 | (i,v)::r,K=>fT r λ r'=>K ((i,v)::r')
def fM:Mem->(Mem->Prop)->Prop
 | [],K=>K []
 | (k,s,c)::r,K=>fM r λ r'=>K ((k,s,c)::r')
def fF (v:AV) (K:AV->Prop):Prop:=match v with
 | .int k n=>K (.int k n) | .bool b=>K (.bool b) | .sl l es=>K (.sl l es) | .row s t z o n=>K (.row s t z o n)
 | .nil=>K .nil | .ptr s t i j=>K (.ptr s t i j) | .ep c=>K (.ep c)|_=>False
def f2 (v:AV) (K:AV->Prop):Prop:=match v with
 | .int k n=>K (.int k n) | .bool b=>K (.bool b) | .sl l es=>K (.sl l es) | .row s t z o n=>K (.row s t z o n)
 | .nil=>K .nil | .ptr s t i j=>K (.ptr s t i j) | .ep c=>K (.ep c) | .agg cs=>fL cs λ cs=>K (.agg cs) | .fn p f g cs=>fL cs λ cs=>K (.fn p f g cs)|_=>False
def qt (agg:Bool) (ds:List AV) (K:AV->Prop):Prop:=match agg with
 | true=>K (.agg ds)
 | false=>match ds with
  | [c]=>fF c K
  | _=>False
def AF (p q A B:Prop):Prop:=(p->A)/\(q->B)
def AP (p A:Prop):Prop:=p/\A
def AD (op:BinOp) (k:IntKind) (a:Int) (k':IntKind) (b:Int) (K:AV->Prop):Prop := ∃ v,DI op k a k' b=some v/\K v
def CB (op:UnOp) (k:IntKind) (n:Int) (K:AV->Prop):Prop := ∃ v,Z7 op (.int k n)=some v/\K v
def AU (k:IntKind) (n:Int) (K:Int->Prop):Prop:=K (k.wrap n)
def AW (es:List (List AV)) (a:Int) (z:Nat) (K:List AV->Prop):Prop:=0<=a /\ ∃ cs,es[a.toNat]? = some cs/\cs.length=z/\K cs
def BA (es:List (List AV)) (i j n:Nat) (K:List AV->Prop):Prop := ∃ cs ds,es[i]? = some cs/\part cs j n=some ds/\K ds
def A6 (es:List (List AV)) (i j:Nat) (vs:List AV) (K:List (List AV)->Prop):Prop := ∃ cs,es[i]? = some cs/\j+vs.length<=cs.length/\K (es.set i (splice cs j vs))
def B2 (a b:Int) (bytes:Nat) (zero:List AV) (K:List (List AV)->Nat->Prop):Prop:=(0<=a/\a<=b/\b*bytes<=EB/\b<=9223372036854775807)/\K (List.replicate a.toNat zero) a.toNat
def AM (es:List (List AV)) (K:Nat->Prop):Prop:=K es.length
def BO (es:List (List AV)) (len:Nat) (ys:List (List AV)) (z bytes:Nat) (K:List (List AV)->Nat->Prop):Prop :=
 len<=es.length/\(∀ e∈ys,e.length=z)/\(len+ys.length)*bytes<=EB/\len+ys.length<=9223372036854775807/\K (es.take len++ys) (len+ys.length)
def B8 (ys:List (List AV)) (z bytes:Nat) (K:List (List AV)->Nat->Prop):Prop :=
 (∀ e∈ys,e.length=z)/\ys.length*bytes<=EB/\ys.length<=9223372036854775807/\K ys ys.length
def C8 (es:List (List AV)) (off len:Nat) (ys:List (List AV)) (z:Nat) (K:List (List AV)->Nat->Prop):Prop :=
 off+len<=es.length/\(∀ e∈ys,e.length=z)/\K (es.take off++ys.take len++es.drop (off+min ys.length len)) (min ys.length len)
def BN (es:List (List AV)) (off len:Nat) (K:List (List AV)->Prop):Prop:=off+len<=es.length/\K ((es.drop off).take len)
def F5:List AV->Bool
 | []=>true
 | v::r=>match v with
  | .int _ _=>F5 r | .bool _=>F5 r | .ep _=>F5 r | .sl _ _=>F5 r
  | _=>false
def nl:AV->AV
 | .nil => .sl false []
 | v=>v
def UN:List AV->Bool
 | []=>true
 | v::r=>match v with
  | .int _ _=>UN r | .bool _=>UN r | .ep _=>UN r | .sl _ _=>UN r | .nil=>UN r
  | _=>false
def A3 (es:List (List AV)) (off len:Nat) (K:List (List AV)->Prop):Prop:=off+len<=es.length/\(∀ e∈es,UN e=true)/\K (((es.drop off).take len).map λ e=>e.map nl)
def BK (rows:List (Option (Nat × List (List AV)))) (i:Nat) (K:Option (Nat × List (List AV))->Prop):Prop := ∃ r,rows[i]? = some r/\K r
def BI (rows:List (Option (Nat × List (List AV)))) (i:Nat) (K:Nat->List (List AV)->Prop):Prop := ∃ z es,rows[i]? = some (some (z,es))/\K z es
def CJ (rows:List (Option (Nat × List (List AV)))) (i z:Nat) (es:List (List AV)) (K:List (Option (Nat × List (List AV)))->Prop):Prop:=i<rows.length/\K (rows.set i (some (z,es)))
def CK (rows:List (Option (Nat × List (List AV)))) (i z:Nat) (es es':List (List AV)) (K:List (Option (Nat × List (List AV)))->Prop):Prop:=es'.length=es.length/\K (rows.set i (some (z,es')))
def CU (a b:Int) (bytes:Nat) (K:List (Option (Nat × List (List AV)))->Nat->Prop):Prop:=(0<=a/\a<=b/\b*bytes<=EB/\b<=9223372036854775807)/\K (List.replicate a.toNat none) a.toNat
def CR (rows:List (Option (Nat × List (List AV)))) (len:Nat) (r:Option (Nat × List (List AV))) (bytes:Nat) (K:List (Option (Nat × List (List AV)))->Nat->Prop):Prop :=
 len=rows.length/\(len+1)*bytes<=EB/\len+1<=9223372036854775807/\K (rows++[r]) (len+1)
def Z1 (q:Bool):List (Option (Nat × List (List AV)))->List (List AV)
 | []=>[]
 | none::r=>[.sl false []]::Z1 q r
 | some (_,es)::r=>[.sl q es]::Z1 q r
def CI (q:Bool) (rows:List (Option (Nat × List (List AV)))) (off len:Nat) (K:List (List AV)->Prop):Prop :=
 off=0/\len=rows.length/\(∀ z es,some (z,es)∈rows -> ∀ e∈es,F5 e=true)/\K (Z1 q rows)
def BX (lo hi:Option Int) (len:Nat) (K:Nat->Nat->Prop):Prop :=
 ∃ a h:Nat,(match lo with|none=>a=0|some x=>0<=x/\a=x.toNat)/\(match hi with|none=>h=len|some x=>0<=x/\x<=len/\h=x.toNat)/\a<=h/\K a h
def B9 (z:Nat) (es:List (List AV)) (lo hi:Option Int) (K:List (List AV)->Prop):Prop:=(∀ e∈es,e.length=z)/\BX lo hi es.length λ a h=>K ((es.take h).drop a)
def AB (L:Lib) (f:Nat) (vs:List AV) (K:AV->Prop):Prop := ∃ r,Ev L f vs r/\K r
def SH (n:Nat) (cs ds:List AV) (K:Bool->Prop):Prop := ∃ a b,IG cs=some a/\IG ds=some b/\a.length=n/\b.length=n/\K (decide (a=b))
def mF:List AV->Bool
 | []=>true
 | .int _ _::r=>mF r
 | _=>false
def CT (L:Lib) (f:Nat) (vs:List AV) (K:Nat->List (List AV)->Nat->Prop):Prop := ∃ z es n,aB L f vs z es/\n=es.length/\K z es n
abbrev FP:=Nat->Nat->Nat × Nat
def A7 (σ:FP):AV->AV
 | .row k t z o n => .row (σ k t).1 (σ k t).2 z o n
 | .ptr k t i j => .ptr (σ k t).1 (σ k t).2 i j
 | v=>v
def BS (σ:FP):AV->AV
 | .agg cs => .agg (cs.map (A7 σ))
 | .fn p f g cs => .fn p f g (cs.map (A7 σ))
 | v=>A7 σ v
def BG (σ:FP):AV->AV
 | .j9 vs => .j9 (vs.map (BS σ))
 | v=>BS σ v
def B5 (σ:FP) (k:Nat):Nat->List (Option (Nat × List (List AV)))->List (List AV)
 | _,[]=>[]
 | i,none::r=>[.nil]::B5 σ k (i+1) r
 | i,some (z,es)::r=>[.row (σ k (i+1)).1 (σ k (i+1)).2 z 0 es.length]::B5 σ k (i+1) r
def A5.j5 (σ:FP) (k:Nat):A5->ED
 | .bx cs=>⟨cs.length,[cs.map (A7 σ)]⟩
 | .rw z es=>⟨z,es⟩
 | .bs z es=>⟨z,es.map λ cs=>cs.map (A7 σ)⟩
 | .mx rows=>⟨1,B5 σ k 0 rows⟩
 | .hx i v rows=>⟨1,(B5 σ k 0 rows).set i [v]⟩
 | .vw w rows=>⟨1,w.map λ t=>((B5 σ k 0 rows)[t]?).getD []⟩
def A5.pn:A5->Bool
 | .bx _=>false
 | _=>true
def EY (s:Nat):Bool:=Nat.blt s 900000
structure OU (σ:FP) (own:AH) (M:Mem):Prop where
 site : ∀ k s c,g9 M k=some (s,c)->(σ k 0).1=s
 j5 : ∀ k t c,c7 M k t=some c->(own (σ k t).1).j5 (σ k t).2=some (c.j5 σ k)
 old : ∀ k t c,c7 M k t=some c->(σ k t).2<(own (σ k t).1).k6
 inj : ∀ k t k' t' c c',c7 M k t=some c->c7 M k' t'=some c'->σ k t=σ k' t'->k=k'/\t=t'
 low : ∀ k t c,c7 M k t=some c->c.pn=true->EY (σ k t).1=true
structure RX (σ:FP) (tm:Tm) (M:Mem) (st:St):Prop where
 tm : ∀ j,tg tm j = .any\/j8 st.tm j=BG σ (tg tm j)
 sat:OU σ st.own M
def SQ (Q:Tm->Mem->Prop) (st:St):Prop := ∃ σ tm M,RX σ tm M st/\Q tm M
def AA (L:Lib) (k:List It) (tm:Tm) (M:Mem) (Q:Tm->Mem->Prop):Prop := ∀ σ st,RX σ tm M st->AK L k st (SQ Q)
def wF (L:Lib) (l:List AI) (k:List It) (tm:Tm) (M:Mem) (Q:Tm->Mem->Prop):Prop := ∀ σ st,RX σ tm M st->AO L l k st (SQ Q)
def A8 (L:Lib) (f:Nat) (vs:List AV) (tm:Tm) (M:Mem) (K:AV->Mem->Prop):Prop :=
 ∀ σ own,OU σ own M -> ∃ r n0 σ' M',GR L f (vs.map (BG σ)) own (BG σ' r) n0/\OU σ' n0 M'/\(∀ j,BG σ' (tg tm j)=BG σ (tg tm j))/\K r M'
def AeT (L:Lib) (s f key:Nat) (rest:List AV) (M:Mem) (K:AV->Mem->Prop):Prop :=
 ∃ (cells iu:List AV) (kd:IntKind) (n:Int),g9 M key=some (s,.bx cells)/\D8 cells=true/\D8 iu=true/\(∀ (t:Nat) (q:CH),q.j5 t=some ⟨cells.length,[cells]⟩->wL L s f (.ptr s t 0 0::rest) q (.int kd n) (q.u7 t (some ⟨iu.length,[iu]⟩)))/\K (.int kd n) ((key,s,.bx iu)::M)
def cv:AV->AV
 | .agg cs=>bif D8 cs then .agg cs else .any
 | .j9 [] => .j9 []
 | .x7 _ => .any
 | .fn p f g [] => .fn p f g []
 | v=>bif wi v then v else .any
def ex (tm:Tm):AQ->AV
 | .t n=>tg tm n
 | .c v=>cv v
def kq (k k':IntKind):Bool:=decide (k=k')
def oX (op:BinOp) (k:IntKind) (a:Int) (k':IntKind) (b:Int) (K:AV->Prop):Prop:=match op with
 | .lss=>bif kq k k' then AF (a<b) (b<=a) (K (.bool true)) (K (.bool false)) else False
 | .leq=>bif kq k k' then AF (a<=b) (b<a) (K (.bool true)) (K (.bool false)) else False
 | .gtr=>bif kq k k' then AF (b<a) (a<=b) (K (.bool true)) (K (.bool false)) else False
 | .geq=>bif kq k k' then AF (b<=a) (a<b) (K (.bool true)) (K (.bool false)) else False
 | .eql=>bif kq k k' then AF (a=b) (a≠b) (K (.bool true)) (K (.bool false)) else False
 | .neq=>bif kq k k' then AF (a≠b) (a=b) (K (.bool true)) (K (.bool false)) else False
 | op=>AD op k a k' b K
noncomputable def bF (mx:Bool) (k:IntKind) (K:AV->Prop) (a:Int) (l:List AV):Prop :=
 List.rec (motive:=λ_=>Int->Prop) (λ a=>K (.int k a)) (λ v _ ih a=>match v with
  | .int _ b=>bif mx then AF (a<b) (b<=a) (ih b) (ih a) else AF (b<a) (a<=b) (ih b) (ih a)
  | _=>False) l a
def Am:List AV->Nat->AV
 | [],_ => .any
 | v::_,0=>v
 | _::r,n+1=>Am r n
def ZW (s:Nat):List Nat->Bool
 | []=>true
 | g7 => !(YR s g7)
def bG:List Nat->Bool
 | []=>true
 | s::r=>bif EY s then false else bG r
def uS (M:Mem) (k t:Nat) (K:Nat->List (List AV)->Prop):Prop:=match g9 M k with
 | some (_,c)=>match t with
  | 0=>match c with
   | .rw z es=>K z es
   | _=>False
  | i+1=>match c with
   | .mx rows=>BI rows i K
   | _=>False
 | none=>False
def lJ (M:Mem) (v:AV) (K:List (List AV)->Prop):Prop:=match v with
 | .sl _ es=>K es
 | .nil=>K []
 | .ep (.bool _)=>K []
 | .row key t z off len=>uS M key t λ z' es=>bif Nat.beq z z' then BN es off len K else False
 | _=>False
def bP (q:Bool) (M:Mem) (g7:List Nat) (v:AV) (K:AV->Prop):Prop:=match v with
 | .int k n=>K (.int k n)
 | .bool b=>K (.bool b)
 | .sl l es=>K (.sl l es)
 | .ep c=>K (.ep c)
 | .nil=>K (.sl false [])
 | .row key t z off len=>match g9 M key with
  | some (s,.rw z' es)=>match t with
   | 0=>bif Nat.beq z z' then bif ZW s g7 then A3 es off len λ es=>K (.sl q es) else False else False
   | _+1=>False
  | some (_,.mx rows)=>match t with
   | 0=>False
   | i+1=>match g7 with
    | []=>BI rows i λ z' es=>bif Nat.beq z z' then A3 es off len λ es=>K (.sl q es) else False
    | b::r=>bif bG (b::r) then BI rows i λ z' es=>bif Nat.beq z z' then A3 es off len λ es=>K (.sl q es) else False else False
  | _=>False
 | _=>False
noncomputable def nP (q:Bool) (M:Mem) (g7:List Nat) (l:List AV):(List AV->Prop)->Prop :=
 List.rec (motive:=λ_=>(List AV->Prop)->Prop) (λ K=>K []) (λ v _ ih K=>bP q M g7 v λ v'=>ih λ r'=>K (v'::r')) l
noncomputable def vE (q:Bool) (M:Mem) (g7:List Nat) (l:List (List AV)):(List (List AV)->Prop)->Prop :=
 List.rec (motive:=λ_=>(List (List AV)->Prop)->Prop) (λ K=>K []) (λ v _ ih K=>nP q M g7 v λ v'=>ih λ r'=>K (v'::r')) l
noncomputable def iX (q:Bool) (M:Mem) (g7:List Nat) (v:AV) (K:AV->Prop):Prop:=match v with
 | .row key 0 z off len=>match g9 M key with
  | some (s,.bs z' es)=>bif Nat.beq z z' then bif ZW s g7 then bif Nat.beq off 0 then AP (len=es.length) (vE q M g7 es λ es=>K (.sl q es)) else False else False else False
  | some (_,.mx rows)=>match g7 with
   | []=>bif Nat.beq z 1 then CI q rows off len λ es=>K (.sl q es) else False
   | _::_=>False
  | _=>bP q M g7 (.row key 0 z off len) K
 | v=>bP q M g7 v K
noncomputable def vF (q:Bool) (M:Mem) (g7:List Nat) (l:List AV):(List AV->Prop)->Prop :=
 List.rec (motive:=λ_=>(List AV->Prop)->Prop) (λ K=>K []) (λ v _ ih K=>iX q M g7 v λ v'=>ih λ r'=>K (v'::r')) l
noncomputable def Y5 (q:Bool) (M:Mem) (g7:List Nat) (v:AV) (K:AV->Prop):Prop:=match v with
 | .agg cs=>vF q M g7 cs λ cs=>K (.agg cs)
 | v=>iX q M g7 v K
noncomputable def iY (tm:Tm) (M:Mem) (g7:List Nat) (l:List AQ):(List AV->Prop)->Prop :=
 List.rec (motive:=λ_=>(List AV->Prop)->Prop) (λ K=>K []) (λ x _ ih K=>Y5 true M g7 (ex tm x) λ v=>ih λ vs=>K (v::vs)) l
noncomputable def nQ (M:Mem) (g7:List Nat) (v:AV) (K:AV->Prop):Prop:=match v with
 | .nil=>K .nil
 | v=>Y5 true M g7 v K
noncomputable def vG (tm:Tm) (M:Mem) (g7:List Nat) (l:List AQ):(List AV->Prop)->Prop :=
 List.rec (motive:=λ_=>(List AV->Prop)->Prop) (λ K=>K []) (λ x _ ih K=>nQ M g7 (ex tm x) λ v=>ih λ vs=>K (v::vs)) l
noncomputable def dE (tm:Tm) (l:List AQ):(List AV->Prop)->Prop :=
 List.rec (motive:=λ_=>(List AV->Prop)->Prop) (λ K=>K []) (λ x _ ih K=>fV (ex tm x) λ v=>ih λ vs=>K (v::vs)) l
def mS (tm:Tm) (o:Option AQ) (K:Option Int->Prop):Prop:=match o with
 | none=>K none
 | some x=>match ex tm x with
  | .int _ n=>K (some n)
  | _=>False
def hJ (es:List (List AV)) (K:Nat->Prop):Prop:=match es with
 | []=>K 0
 | [_]=>K 1
 | [_,_]=>K 2
 | [_,_,_]=>K 3
 | [_,_,_,_]=>K 4
 | es=>K es.length
noncomputable def pE (tm:Tm) (z:Nat) (l:List AQ):(List (List AV)->Prop)->Prop :=
 List.rec (motive:=λ_=>(List (List AV)->Prop)->Prop) (λ K=>K []) (λ x _ ih K=>fC (ex tm x) λ cs=>bif Nat.beq cs.length z then ih λ es=>K (cs::es) else False) l
noncomputable def rO (tm:Tm) (ps:List (Nat × Nat × AQ)):List AV->(List AV->Prop)->Prop :=
 List.rec (motive:=λ_=>List AV->(List AV->Prop)->Prop) (λ cells K=>K cells) (λ p _ ih cells K=>fC (ex tm p.2.2) λ vs=>bif Nat.beq vs.length p.2.1 then bif Nat.ble (p.1+p.2.1) cells.length then fL (splice cells p.1 vs) λ cells=>ih cells K else False else False) ps
def ZN (tm:Tm):List AQ->List AV
 | []=>[]
 | x::r=>ex tm x::ZN tm r
def aH (tb:List Nat) (n:Int) (K:Nat->Prop):Prop:=0<=n /\ ∃ v,tb[n.toNat]? = some v/\K v
noncomputable def tN (tm:Tm) (l:List AQ):(List AV->Prop)->Prop :=
 List.rec (motive:=λ_=>(List AV->Prop)->Prop) (λ K=>K []) (λ x _ ih K=>fF (ex tm x) λ v=>ih λ cs=>K (v::cs)) l
def tS:AV->Bool
 | .agg _=>false | .fn _ _ _ _=>false | .j9 _=>false | .any=>false
 | _=>true
def iG:List AV->Bool
 | []=>true
 | v::r=>bif tS v then iG r else false
def aI (M:Mem) (v:AV):Option (Nat × Option (Nat × Nat × Nat)):=match v with
 | .row ky 0 1 0 1=>match g9 M ky with
  | some (_,.bs 1 [[.row k2 0 z 0 n]])=>some (ky,some (k2,z,n))
  | some (_,.rw 1 [[.nil]])=>some (ky,none)
  | _=>none
 | _=>none
def gY (z:Nat):List (List AV)->Bool
 | []=>true
 | e::r=>bif Nat.beq e.length z then gY z r else false
def oU (tm:Tm) (M:Mem) (s z bytes:Nat) (x y:AQ) (K:AV->Mem->Prop):Prop:=match ex tm y with
 | .row ky 0 zy 0 ny=>match g9 M ky with
  | some (_,.bs z2 mu)=>bif Nat.beq zy z then bif Nat.beq z2 z then bif Nat.beq ny mu.length then bif gY z mu then (match ex tm x with
   | .nil=>bif EY s then hJ mu λ n=>AP (n*bytes<=140737488355328/\n<=9223372036854775807) (F9 s tm M λ k=>K (.row k 0 z 0 n) ((k,s,.bs z mu)::M)) else False
   | .row kx 0 zx 0 len=>bif Nat.beq zx z then (match g9 M kx with
    | some (s',.bs z1 yf)=>bif Nat.beq z1 z then bif Nat.beq len yf.length then fM (u5 kx M) λ M'=>hJ (yf++mu) λ n=>AP (n*bytes<=140737488355328/\n<=9223372036854775807) (F9 s tm M λ k=>K (.row k 0 z 0 n) ((k,s',.bs z (yf++mu))::M')) else False else False
    | _=>False) else False
   | _=>False) else False else False else False else False
  | _=>False
 | _=>False
def vP (tm:Tm) (M:Mem) (K:AV->Mem->Prop) (n:Nat) (x v:AQ):Prop:=match ex tm x with
 | .ptr key t i j=>fC (ex tm v) λ vs=>bif Nat.beq vs.length n then (match g9 M key with
  | some (s,c)=>match t with
   | 0=>match c with
    | .bx cs=>bif Nat.beq i 0 then bif Nat.ble (j+vs.length) cs.length then fL (splice cs j vs) λ fx=>K (.j9 []) ((key,s,.bx fx)::M) else False else False
    | .rw z es=>bif D8 vs then A6 es i j vs λ es'=>K (.j9 []) ((key,s,.rw z es')::M) else False
    | .bs _ _=>False
    | .mx rows=>match vs with
     | [.row al 0 z 0 m]=>bif Nat.beq key al then False else bif K6 key tm then False else bif IV key M then False else bif Nat.beq j 0 then (match g9 M al with
      | some (_,.rw z' es)=>bif Nat.beq z z' then fM (u5 al M) λ M'=>AP (m=es.length) (CJ rows i z es λ v9=>K (.j9 []) ((key,s,.mx v9)::M')) else False
      | _=>False) else False
     | [.row al (t2+1) z 0 m]=>bif Nat.beq key al then bif Nat.beq j 0 then BI rows t2 λ z' es=>bif Nat.beq z z' then AP (m=es.length/\i<rows.length) (K (.j9 []) ((key,s,.vw ((List.range rows.length).set i t2) rows)::M)) else False else False else False
     | _=>False
    | .hx i0 _ rows=>match vs with
     | [.row al 0 z 0 m]=>bif Nat.beq key al then False else bif K6 key tm then False else bif IV key M then False else bif Nat.beq j 0 then (match g9 M al with
      | some (_,.rw z' es)=>bif Nat.beq z z' then fM (u5 al M) λ M'=>AP (i=i0/\m=es.length) (CJ rows i z es λ v9=>K (.j9 []) ((key,s,.mx v9)::M')) else False
      | _=>False) else False
     | _=>False
    | .vw w rows=>match vs with
     | [.row al (t2+1) z 0 m]=>bif Nat.beq key al then bif Nat.beq j 0 then BI rows t2 λ z' es=>bif Nat.beq z z' then AP (m=es.length/\i<w.length /\ ∀ t∈w,t<rows.length) (K (.j9 []) ((key,s,.vw (w.set i t2) rows)::M)) else False else False else False
     | _=>False
   | i'+1=>match c with
    | .mx rows=>bif D8 vs then BI rows i' λ z es=>A6 es i j vs λ es'=>CK rows i' z es es' λ v9=>K (.j9 []) ((key,s,.mx v9)::M) else False
    | _=>False
  | none=>False) else False
 | _=>False
def BT (r:AV) (K:AV->Prop):Prop:=(OS r\/cC r)/\K (TS r)
noncomputable def XE (L:Lib) (tm:Tm) (M:Mem) (g7:List Nat) (K:AV->Mem->Prop):D4->Prop
 | .b9 x=>fV (ex tm x) λ v=>K v M
 | .ag s z=>bif EY s then F9 s tm M λ k=>K (.row k 0 z 0 0) ((k,s,.rw z [])::M) else False
 | .pick c a b=>match ex tm c with
  | .bool true=>fV (ex tm a) λ v=>K v M
  | .bool false=>fV (ex tm b) λ v=>K v M
  | _=>False
 | .bin op x y=>match ex tm x,ex tm y with
  | .int k a,.int k' b=>oX op k a k' b λ v=>K v M
  | _,_=>False
 | .tv ne n x y=>match ex tm x,ex tm y with
  | .agg cs,.agg ds=>SH n cs ds λ b=>fB (bif ne then !b else b) λ c=>K (.bool c) M
  | _,_=>False
 | .beq ne x y=>match ex tm x,ex tm y with
  | .bool a,.bool b=>fB (bif ne then !(a == b) else a == b) λ c=>K (.bool c) M
  | _,_=>False
 | .un op x=>match ex tm x with
  | .int k n=>CB op k n λ v=>K v M
  | .bool b=>match op with
   | .not=>fB (!b) λ c=>K (.bool c) M
   | _=>False
  | _=>False
 | .conv k x=>match ex tm x with
  | .int _ n=>AU k n λ v=>K (.int k v) M
  | _=>False
 | .box s x=>fC (ex tm x) λ cs=>F9 s tm M λ k=>K (.ptr k 0 0 0) ((k,s,.bx cs)::M)
 | .alloc s zero=>bif D8 zero then (F9 s tm M λ k=>K (.ptr k 0 0 0) ((k,s,.bx zero)::M)) else False
 | .build zero parts=>bif D8 zero then rO tm parts zero λ cs=>K (.agg cs) M else False
 | .g8 s z parts=>bif EY s then pE tm z parts λ es=>hJ es λ n=>F9 s tm M λ k=>bif gA es then K (.row k 0 z 0 n) ((k,s,.rw z es)::M) else K (.row k 0 z 0 n) ((k,s,.bs z es)::M) else False
 | .a7 x off=>match ex tm x with
  | .ptr key t i j=>K (.ptr key t i (j+off)) M
  | .x7 cs=>fL (cs.drop off) λ cs=>K (.x7 cs) M
  | _=>False
 | .qa x off n agg=>match ex tm x with
  | .agg cs=>match part cs off n with
   | some ds=>fL ds λ ds=>qt agg ds λ v=>K v M
   | none=>False
  | _=>False
 | .a5 arr z x i=>match ex tm i with
  | .int _ n=>match arr,ex tm x with
   | some len,.ptr key t i' j=>AP (0<=n/\n<(len:Int)) (K (.ptr key t i' (j+n.toNat*z)) M)
   | some len,.x7 cs=>AP (0<=n/\n<(len:Int)) (fL (cs.drop (n.toNat*z)) λ cs=>K (.x7 cs) M)
   | none,.row key t z' off len=>bif Nat.beq z' z then AP (0<=n/\n<(len:Int)) (K (.ptr key t (off+n.toNat) 0) M) else False
   | none,.sl _ es=>AW es n z λ cs=>K (.x7 cs) M
   | _,_=>False
  | _=>False
 | .idx len z agg x i=>match ex tm i,ex tm x with
  | .int _ n,.agg cs=>AP (0<=n/\n<(len:Int)) (match part cs (n.toNat*z) z with
   | some ds=>fL ds λ ds=>qt agg ds λ v=>K v M
   | none=>False)
  | _,_=>False
 | .ld agg n x=>match ex tm x with
  | .ptr key t i j=>match g9 M key with
   | some (s,c)=>match t with
    | 0=>bif ZW s g7 then (match c with
     | .bx cs=>bif Nat.beq i 0 then (match part cs j n with
      | some ds=>fL ds λ ds=>qt agg ds λ v=>K v M
      | none=>False) else False
     | .rw _ es=>BA es i j n λ ds=>fL ds λ ds=>bif D8 ds then qt agg ds λ v=>K v M else False
     | .bs _ es=>(match es[i]? with
      | some cs=>(match part cs j n with
       | some ds=>fL ds λ ds=>qt agg ds λ v=>K v M
       | none=>False)
      | none=>False)
     | .mx rows=>bif Nat.beq j 0 then bif Nat.beq n 1 then BK rows i λ r=>match r with
      | some (z,es)=>qt agg [.row key (i+1) z 0 es.length] λ v=>K v M
      | none=>qt agg [.nil] λ v=>K v M else False else False
     | .hx _ _ _=>False
     | .vw _ _=>False) else False
    | i'+1=>match c,g7 with
     | .mx rows,[]=>BI rows i' λ_ es=>BA es i j n λ ds=>fL ds λ ds=>bif D8 ds then qt agg ds λ v=>K v M else False
     | .mx rows,b::r=>bif bG (b::r) then BI rows i' λ_ es=>BA es i j n λ ds=>fL ds λ ds=>bif D8 ds then qt agg ds λ v=>K v M else False else False
     | _,_=>False
   | none=>False
  | .x7 cs=>match part cs 0 n with
   | some ds=>fL ds λ ds=>bif D8 ds then qt agg ds λ v=>K v M else False
   | none=>False
  | _=>False
 | .vu agg n x=>match ex tm x with
  | .x7 cs=>match part cs 0 n with
   | some ds=>fL ds λ ds=>bif D8 ds then qt agg ds λ v=>K v M else False
   | none=>False
  | _=>False
 | .st n x v=>vP tm M K n x v
 | .px s n x v=>match ex tm x with
  | .ptr key 0 _ _=>(match g9 M key with
   | some (s',_)=>bif Nat.beq s' s then vP tm M K n x v else False
   | none=>False)
  | _=>False
 | .n6 f xs=>dE tm xs λ vs=>bif vs.all dq then AB L f (vs.map zh) λ r=>BT r λ r=>K r M else False
 | .mk s z bytes zero l c=>match ex tm l,ex tm c with
  | .int _ a,.int _ b=>bif Nat.beq zero.length z then bif D8 zero then match zero with
   | [.nil]=>bif EY s then CU a b bytes λ rows n=>F9 s tm M λ k=>K (.row k 0 z 0 n) ((k,s,.mx rows)::M) else False
   | zero=>bif EY s then (B2 a b bytes zero λ es n=>F9 s tm M λ k=>K (.row k 0 z 0 n) ((k,s,.rw z es)::M)) else False else False else False
  | _,_=>False
 | .jq z x lo hi=>mS tm lo λ lo=>mS tm hi λ hi=>match ex tm x with
  | .sl l es=>B9 z es lo hi λ es=>K (.sl l es) M
  | .row key t z' off len=>bif Nat.beq z' z then BX lo hi len λ a h=>K (.row key t z (off+a) (h-a)) M else False
  | .nil=>(match lo,hi with
   | none,none=>K .nil M
   | some a,none=>AP (a=0) (K .nil M)
   | none,some h=>AP (h=0) (K .nil M)
   | some a,some h=>AP (a=0/\h=0) (K .nil M))
  | _=>False
 | .ext x i=>match ex tm x with
  | .j9 vs=>f2 (Am vs i) λ v=>K v M
  | _=>False
 | .len x=>match ex tm x with
  | .sl _ es=>AM es λ n=>K (.int .i64 (n:Int)) M
  | .nil=>K (.int .i64 0) M
  | .row _ _ _ _ n=>K (.int .i64 (n:Int)) M
  | _=>False
 | .mm mx xs=>match ZN tm xs with
  | .int k a::r=>bF mx k (λ v=>K v M) a r
  | _=>False
 | .app s z bytes x y=>bif Nat.ble 800000 s then oU tm M s z bytes x y K else (
  match aI M (ex tm y) with
  | some (ky,some (k2,z2,n2))=>match ex tm x with
   | .row key 0 z' off len=>bif Nat.beq off 0 then bif Nat.beq z' 1 then bif Nat.beq z 1 then bif Nat.beq key k2 then False else bif Nat.beq key ky then False else bif Nat.beq k2 ky then False else (match g9 M k2 with
    | some (_,.rw z3 es)=>bif Nat.beq z2 z3 then (match g9 M key with
     | some (s',.mx rows)=>fM (u5 key (u5 k2 (u5 ky M))) λ M'=>AP (n2=es.length) (CR rows len (some (z2,es)) bytes λ v9 n=>F9 s tm M λ k=>K (.row k 0 z 0 n) ((k,s',.mx v9)::M'))
     | _=>False) else False
    | _=>False) else False else False else False
   | .nil=>bif EY s then bif Nat.beq z 1 then (match g9 M k2 with
    | some (_,.rw z3 es)=>bif Nat.beq z2 z3 then fM (u5 k2 M) λ M'=>AP (n2=es.length/\bytes<=140737488355328) (F9 s tm M λ k=>K (.row k 0 z 0 1) ((k,s,.mx [some (z2,es)])::M')) else False
    | _=>False) else False else False
   | _=>False
  | some (ky,none)=>match ex tm x with
   | .row key 0 z' off len=>bif Nat.beq off 0 then bif Nat.beq z' 1 then bif Nat.beq z 1 then bif Nat.beq key ky then False else (match g9 M key with
     | some (s',.mx rows)=>fM (u5 key M) λ M'=>CR rows len none bytes λ v9 n=>F9 s tm M λ k=>K (.row k 0 z 0 n) ((k,s',.mx v9)::M')
     | _=>False) else False else False else False
   | .nil=>bif EY s then bif Nat.beq z 1 then AP (bytes<=140737488355328) (F9 s tm M λ k=>K (.row k 0 z 0 1) ((k,s,.mx [none])::M)) else False else False
   | _=>False
  | none=>lJ M (ex tm y) λ ys=>match ex tm x with
   | .row key 0 z' off len=>bif Nat.beq off 0 then bif Nat.beq z' z then (match g9 M key with
    | some (s',.rw jr es)=>bif Nat.beq jr z then fM (u5 key M) λ M'=>(BO es len ys z bytes λ es' n=>F9 s tm M λ k=>K (.row k 0 z 0 n) ((k,s',.rw z es')::M')) else False
    | _=>False) else False else False
   | .row key (i+1) z' off len=>bif Nat.beq off 0 then bif Nat.beq z' z then (match g9 M key with
    | some (sk,.mx rows)=>fM (u5 key M) λ M'=>BI rows i λ jr es=>bif Nat.beq jr z then (BO es len ys z bytes λ es' n => ∀ s' v,F9 s tm M λ k=>K (.row k 0 z 0 n) ((k,s',.rw z es')::(key,sk,.hx i v (rows.set i none))::M')) else False
    | _=>False) else False else False
   | .nil=>bif EY s then B8 ys z bytes λ es n=>F9 s tm M λ k=>K (.row k 0 z 0 n) ((k,s,.rw z es)::M) else False
   | _=>False)
 | .call f xs=>iY tm M g7 xs λ vs=>AB L f vs λ r=>K r M
 | .j7 f xs=>dE tm xs λ vs=>A8 L f vs tm M K
 | .x9 s f xs=>bif EY s then vG tm M g7 xs λ vs=>CT L f vs λ z es n=>F9 s tm M λ k=>K (.row k 0 z 0 n) ((k,s,.rw z es)::M) else False
 | .vb ne x=>match ex tm x with
  | .nil=>fB (xor true ne) λ c=>K (.bool c) M
  | .ep (.bool b)=>fB (xor b ne) λ c=>K (.bool c) M
  | .sl _ es=>AP (es≠[]) (fB (xor false ne) λ c=>K (.bool c) M)
  | .row _ _ _ _ n=>AP (0<n) (fB (xor false ne) λ c=>K (.bool c) M)
  | _=>False
 | .bad=>False
 | .gf x=>match ex tm x with
  | .nil=>K (.int .i64 0) M
  | _=>False
 | .pz s z bytes x y=>match ex tm x,ex tm y with
  | .nil,.int _ n=>bif EY s then AP (0<n/\n*bytes<=EB/\n<=9223372036854775807) (F9 s tm M λ k=>K (.row k 0 z 0 n.toNat) ((k,s,.rw z [])::M)) else False
  | _,_=>False
 | .dv s f xs=>dE tm xs λ vs=>match vs with
  | .ptr key 0 0 0::rest=>bif mF rest then AeT L s f key rest M K else False
  | _=>False
 | .jg tb x=>match ex tm x with
  | .int _ n=>aH tb n λ v=>K (.int .u8 v) M
  | _=>False
 | .si p f xs=>tN tm xs λ cs=>K (.fn (p&&cs.isEmpty) f (L.num f) cs) M
 | .tu f x=>match ex tm x with
  | .agg (c::cs)=>K (.fn true f (L.num f) (c::cs)) M
  | _=>False
 | .o7 x xs=>match ex tm x with
  | .fn true f g []=>AP (g=L.num f) (iY tm M [] xs λ vs=>AB L f vs λ r=>K r M)
  | .fn true f g (c::cs)=>AP (g=L.num f) (Y5 true M [] (.agg (c::cs)) λ v=>iY tm M [] xs λ vs=>AB L f (v::vs) λ r=>K r M)
  | .fn false f g cs=>bif iG cs then AP (g=L.num f) (dE tm xs λ vs=>fL (vs++cs) λ vs=>A8 L f vs tm M K) else False
  | _=>False
def Fj (key:Nat):Tm->Tm
 | []=>[]
 | (j,v)::r=>bif ZG key v then (j,.any)::Fj key r else (j,v)::Fj key r
def xk (v:AV) (tm:Tm) (K:Tm->Prop):Prop:=match v with
 | .row key (_+1) _ _ _=>fT (Fj key tm) K
 | _=>K tm
noncomputable def XI (L:Lib) (o:AI) (ih:(Tm->Mem->Prop)->Tm->Mem->Prop) (K:Tm->Mem->Prop) (tm:Tm) (M:Mem):Prop:=match o with
 | ⟨some d,.app s z b x y,none,g7⟩=>XE L tm M g7 (λ v M=>xk (ex tm x) tm λ tm=>ih K ((d,v)::tm) M) (.app s z b x y)
 | ⟨some d,op,none,g7⟩=>XE L tm M g7 (λ v M=>ih K ((d,v)::tm) M) op
 | ⟨none,op,none,g7⟩=>XE L tm M g7 (λ_ M=>ih K tm M) op
 | ⟨dst,op,some (g,w),g7⟩=>match tg tm g with
  | .bool b=>fB (b == w) λ c=>match c,dst with
   | true,some d=>XE L tm M g7 (λ v M=>ih K ((d,v)::tm) M) op
   | true,none=>XE L tm M g7 (λ_ M=>ih K tm M) op
   | false,some d=>ih K ((d,.j9 [])::tm) M
   | false,none=>ih K tm M
  | .j9 []=>match dst with
   | some d=>ih K ((d,.j9 [])::tm) M
   | none=>ih K tm M
  | _=>False
noncomputable def XO (L:Lib) (l:List AI):(Tm->Mem->Prop)->Tm->Mem->Prop :=
 List.rec (motive:=λ_=>(Tm->Mem->Prop)->Tm->Mem->Prop) (λ K tm M=>K tm M) (λ o _ ih K tm M=>XI L o ih K tm M) l
noncomputable def XS (L:Lib) (Q:Tm->Mem->Prop) (ih:List It->Tm->Mem->Prop) (k:List It) (tm:Tm) (M:Mem):Prop:=match k with
 | []=>Q tm M
 | it::k=>match it with
  | .j5 _=>ih k tm M
  | .mr ts ss=>fN (mask 0 ts) λ m=>fT (ye m tm) λ tm=>match ss with
   | []=>ih k tm M
   | _::_=>False
  | .lp c=>AA L (.lp c::k) tm M Q
  | .code c=>match c with
   | .skip=>ih k tm M
   | .ops l _=>XO L l (λ tm M=>ih k tm M) tm M
   | .dr c ts ss=>ih (.code c :: .mr ts ss::k) tm M
   | .scope c=>ih (.code c::k) tm M
   | .seq a b=>ih (.code a :: .code b::k) tm M
   | .cond x a b=>match ex tm x with
    | .bool b'=>fB b' λ c=>match c with
     | true=>ih (.code a::k) tm M
     | false=>ih (.code b::k) tm M
    | _=>False
   | .block id c=>ih (.code c :: .j5 id::k) tm M
   | .loop c=>AA L (.lp c::k) tm M Q
   | .exit id=>match DX id k with
    | some k'=>ih k' tm M
    | none=>False
   | .ret=>Q tm M
noncomputable def XK (L:Lib) (Q:Tm->Mem->Prop) (n:Nat):List It->Tm->Mem->Prop :=
 Nat.rec (motive:=λ_=>List It->Tm->Mem->Prop) (λ k tm M=>AA L k tm M Q) (λ_ ih k tm M=>XS L Q ih k tm M) n
def iS (tm:Tm) (M:Mem) (r:KE) (K:AV->Prop):Prop:=match r with
 | .tmp t=>f2 (tg tm t) K
 | .cell t agg n=>match tg tm t with
  | .ptr key 0 i j=>match g9 M key with
   | some (_,.bx cs)=>bif Nat.beq i 0 then (match part cs j n with
    | some ds=>fL ds λ ds=>qt agg ds K
    | none=>False) else False
   | _=>False
  | _=>False
noncomputable def nC (tm:Tm) (M:Mem) (l:List KE):(List AV->Prop)->Prop :=
 List.rec (motive:=λ_=>(List AV->Prop)->Prop) (λ K=>K []) (λ x _ ih K=>iS tm M x λ v=>ih λ vs=>K (v::vs)) l
noncomputable def vD (q:Bool) (M:Mem) (l:List AV):(List AV->Prop)->Prop :=
 List.rec (motive:=λ_=>(List AV->Prop)->Prop) (λ K=>K []) (λ x _ ih K=>Y5 q M [] x λ v=>ih λ vs=>K (v::vs)) l
def rsv (vs:List AV) (K:AV->Prop):Prop:=match vs with
 | [v]=>K v
 | vs=>K (.j9 vs)
def AJ (a r:AV):Prop:=a=r/\A0 r
noncomputable def ZD (fn:AFn) (r:AV) (tm:Tm) (M:Mem):Prop:=nC tm M fn.res λ vs=>vD false M vs λ vs=>rsv vs λ v=>AJ v r
end Go.e8
