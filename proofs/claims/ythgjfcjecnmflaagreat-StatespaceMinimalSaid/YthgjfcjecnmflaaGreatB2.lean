/-
  Functions of the program, as the abstract machine reads them (group World). Written by a program (gen.py) off the model's own reading of the translation; the seat's check ties them to it.
-/
import Derived.Test.YthgjfcjecnmflaaGreatB1
import Derived.Calls
import Derived.Below
import Derived.Laws.CopyRow
import Derived.Laws.Cells
import Derived.Laws.MakeOwn
import Derived.Laws.AppendOwn
import Derived.Deep.AppendSrc
import Derived.Deep.Draws
import Derived.ArgAppend
set_option linter.unusedSimpArgs false
set_option linter.unusedVariables false
set_option linter.unnecessarySimpa false
namespace Go.e8.F
open C
namespace N7
def r0:=[o 4 (.a9 (k 0))]
def r1:=[m 5 1,o 6 (.bin .lss 5 (k 1))]
def r2:=[o 4 (.a9 (k 0))]
def r3:=[m 7 0,m 8 1,o 9 (.bin .rem 7 8),m 0 9]
def r4:=[m 10 0,o 11 (.bin .lss 10 (k 0))]
def r5:=[m 12 0,m 13 1,o 14 (.bin .add 12 13),m 0 14]
def r6:=[m 15 0,m 4 15]
def c:=(s (d r0 [4]) (s (s (d r1 [5]) (i 6 (s (d r2 [0,1,6]) .ret) .skip)) (s (d r3 [6,7,8,9]) (s (s (d r4 [10]) (i 11 (d r5 [1,11,12,13,14]) .skip)) (s (d r6 [0,1,11,15]) .ret)))))
end N7
def N7:AFn:=⟨2,N7.c,[.tmp 4],false⟩
namespace N3
def r0:=[o 4 (.a9 (k 0))]
def r1:=[m 5 1,o 6 (.bin .geq 5 (k 0)),m 7 6,g 8 7 true (.a9 1),g 9 7 true (.a9 0),g 10 7 true (.len 9),g 11 7 true (.bin .lss 8 10),
 o 12 (.pick 7 11 (.c (.bool false)))]
def r2:=[m 13 0,m 14 1,o 15 (.a5 none 1 13 14),o 16 (.ld false 1 15),m 4 16]
def r3:=[o 4 (.a9 (k 0))]
def c:=(s (d r0 [4]) (s (s (d r1 [5,6,7,8,9,10,11]) (i 12 (s (d r2 [0,1,12,13,14,15,16]) .ret) .skip)) (s (d r3 [0,1,12]) .ret)))
end N3
def N3:AFn:=⟨2,N3.c,[.tmp 4],false⟩
structure v8 (L:Lib):Prop extends iq L where
 N7:L 34=some F.N7
 N3:L 35=some F.N3
end Go.e8.F
namespace Go.e8.F
open C
namespace N6
def r0:=[o 4 (.a9 (.c .nil))]
def r1:=[o 5 (.w9 5 3)]
def r2:=[o 6 (.a9 (k 0))]
def r3:=[m 8 6,m 9 1,o 10 (.bin .lss 8 9)]
def r5:=[m 13 0,m 14 6,o 15 (.call 35 [13,14]),o 16 (.call 34 [15,(k 2000)]),m 7 16]
def r6:=[m 17 5,m 18 7,o 19 (.bin .rem 18 (k 25)),o 20 (.bin .sub 19 (k 12)),m 21 7,o 22 (.bin .quo 21 (k 25)),o 23 (.bin .rem 22 (k 8)),
 o 24 (.bin .add (k 1) 23),o 25 (.call 125 [20,24]),o 26 (.c9 26 3 [25]),o 27 (.app 27 3 56 17 26),m 5 27]
def r4:=[m 11 6,o 12 (.bin .add 11 (k 1)),m 6 12]
def r7:=[m 28 5,m 4 28]
def l1:=(s (s (d r3 [8,9]) (i 10 .skip (x 0))) (s (b 1 (s (d r5 [10,13,14,15,16]) (d r6 [7,17,18,19,20,21,22,23,24,25,26,27]))) (d r4 [11,12])))
def c:=(s (d r0 [4]) (s (p r1) (s (s (p r2) (b 0 (w l1))) (s (d r7 [0,1,5,6,10,28]) .ret))))
end N6
def N6:AFn:=⟨2,N6.c,[.tmp 4],false⟩
structure az (L:Lib):Prop extends v8 L,a7 L where
 N6:L 141=some F.N6
end Go.e8.F

namespace Go.e8.F
open C
namespace M7
def r0:=[o 2 (.box 2 0),o 3 (.box 3 1),o 4 (.a9 (.c (.bool false)))]
def r1:=[o 6 (.a6 2 0),o 7 (.ld false 1 6),o 8 (.len 7),o 9 (.a6 3 0),o 10 (.ld false 1 9),o 11 (.len 10),o 12 (.bin .neq 8 11),m 13 12,
 g 14 13 false (.a6 2 1),g 15 13 false (.ld false 1 14),g 16 13 false (.a6 3 1),g 17 13 false (.ld false 1 16),g 18 13 false (.call 129 [15,17]),
 g 19 13 false (.un .not 18),o 20 (.pick 13 (.c (.bool true)) 19),m 21 20,g 22 21 false (.a6 2 2),g 23 21 false (.ld false 1 22),
 g 24 21 false (.a6 3 2),g 25 21 false (.ld false 1 24),g 26 21 false (.call 129 [23,25]),g 27 21 false (.un .not 26),
 o 28 (.pick 21 (.c (.bool true)) 27),m 29 28,g 30 29 false (.a6 2 3),g 31 29 false (.ld true 3 30),g 32 29 false (.a6 3 3),
 g 33 29 false (.ld true 3 32),g 34 29 false (.call 127 [31,33]),g 35 29 false (.bin .neq 34 (k 0)),o 36 (.pick 29 (.c (.bool true)) 35)]
def r2:=[o 4 (.a9 (.c (.bool false)))]
def r3:=[o 5 (.a9 (k 0))]
def r4:=[m 37 5,o 38 (.a6 2 0),o 39 (.ld false 1 38),o 40 (.len 39),o 41 (.bin .lss 37 40)]
def r6:=[o 44 (.a6 2 0),o 45 (.ld false 1 44),m 46 5,o 47 (.a5 none 1 45 46),o 48 (.ld false 1 47),o 49 (.a6 3 0),o 50 (.ld false 1 49),m 51 5,
 o 52 (.a5 none 1 50 51),o 53 (.ld false 1 52),o 54 (.call 129 [48,53]),o 55 (.un .not 54)]
def r7:=[o 4 (.a9 (.c (.bool false)))]
def r5:=[m 42 5,o 43 (.bin .add 42 (k 1)),m 5 43]
def r8:=[o 4 (.a9 (.c (.bool true)))]
def l1:=(s (s (d r4 [37,38,39,40]) (i 41 .skip (x 0))) (s (b 1 (s (e r6 [41,44,45,46,47,48,49,50,51,52,53,54]) (i 55 (s (d r7 [2,3,5,55]) .ret) .skip))) (d r5 [42,43,55])))
def c:=(s (d r0 [0,1,4]) (s (s (d r1 [6,7,8,9,10,11,12,13,14,15,16,17,18,19,20,21,22,23,24,25,26,27,28,29,30,31,32,33,34,35]) (i 36 (s (d r2 [2,3,36]) .ret) .skip)) (s (s (d r3 [36]) (b 0 (w l1))) (s (d r8 [2,3,5,41]) .ret))))
end M7
def M7:AFn:=⟨2,M7.c,[.tmp 4],false⟩
structure ig (L:Lib):Prop extends kv L,z7 L,n7 L where
 M7:L 167=some F.M7
end Go.e8.F

namespace Go.e8.F
open C
structure qh (L:Lib):Prop extends ou L,v8 L where
structure im (L:Lib):Prop extends qh L where
structure qf (L:Lib):Prop extends im L,z7 L,iu L,u5 L where
end Go.e8.F

namespace Go.e8.F
open C
namespace KR
def r0:=[o 4 (.alloc 4 [.nil,.nil])]
def r1:=[m 7 0,m 8 0,o 9 (.len 8),o 10 (.call 34 [9,(k 5)]),o 11 (.call 141 [7,10]),o 12 (.call 171 [11]),m 5 12]
def r2:=[o 13 (.call 124 [(k 1)]),o 14 (.c9 14 3 [13]),m 15 1,m 16 1,o 17 (.len 16),o 18 (.call 34 [17,(k 4)]),o 19 (.call 141 [15,18]),
 o 20 (.app 20 3 56 14 19),o 21 (.call 171 [20]),m 6 21]
def r3:=[m 22 5,m 23 6,o 24 (.build [.nil,.nil] [(0,1,22),(1,1,23)]),n (.st 2 4 24)]
def c:=(s (p r0) (s (d r1 [0,7,8,9,10,11,12]) (s (d r2 [1,13,14,15,16,17,18,19,20,21]) (s (d r3 [5,6,22,23,24]) .ret))))
end KR
def KR:AFn:=⟨2,KR.c,[.cell 4 true 2],false⟩
namespace KS
def r0:=[o 0 (.a9 (.c (.bool false)))]
def r1:=[o 5 (.call 124 [(k 1)]),o 6 (.call 125 [(k 1),(k 2)]),o 1 (.alloc 1 [(.bool false),.nil,.nil]),o 2 (.alloc 2 [(.bool false),.nil,.nil]),n (.st 3 1 5),
 n (.st 3 2 6)]
def r2:=[q 8 [13,3] (.ld true 3 1),o 9 (.c9 9 3 [8]),q 10 [9,3] (.ld true 3 1),q 11 [9,3] (.ld true 3 2),
 q 12 [9,3] (.call 152 [11]),o 13 (.c9 13 3 [10,12]),o 14 (.build [.nil,.nil] [(0,1,9),(1,1,13)]),q 15 [3] (.call 207 [14]),
 m 7 15,o 16 (.ext 7 0),o 17 (.ext 7 1),o 3 (.alloc 3 [.nil,.nil,.nil,(.bool false),.nil,.nil]),n (.st 6 3 16),m 4 17]
def r3:=[m 18 4,o 19 (.bin .eql 18 (k 0)),m 20 19,g 21 20 true (.ld true 6 3),g 22 20 true (.ld true 3 2),g 23 20 true (.c9 23 3 [22]),
 g 24 20 true (.c9 24 1 [23]),g 25 20 true (.ld true 3 1),g 26 20 true (.c9 26 3 [25]),g 27 20 true (.ld true 3 2),g 28 20 true (.c9 28 3 [27]),
 g 29 20 true (.ld true 3 1),g 30 20 true (.build [.nil,.nil,.nil,(.bool false),.nil,.nil] [(0,1,24),(1,1,26),(2,1,28),(3,3,29)]),
 g 31 20 true (.call 167 [21,30]),o 32 (.pick 20 31 (.c (.bool false))),m 0 32]
def c:=(s (d r0 [0]) (s (d r1 [5,6]) (s (e r2 [7,8,9,10,11,12,13,14,15,16,17]) (s (d r3 [1,2,3,4,18,19,20,21,22,23,24,25,26,27,28,29,30,31,32]) .ret))))
end KS
def KS:AFn:=⟨0,KS.c,[.tmp 0],false⟩
structure bq (L:Lib):Prop extends o5 L,ig L,qf L,az L where
 KR:L 214=some F.KR
 KS:L 215=some F.KS
end Go.e8.F

namespace Go.e8.F
open C
namespace MZ
def r0:=[o 2 (.a9 (.c (.bool false)))]
def r1:=[m 5 0,o 6 (.len 5),o 7 (.bin .lss 6 (k 1)),m 8 7,g 9 8 false (.a9 0),g 10 8 false (.len 9),g 11 8 false (.bin .gtr 10 (k 52)),
 o 12 (.pick 8 (.c (.bool true)) 11),m 13 12,g 14 13 false (.a9 0),g 15 13 false (.a5 none 1 14 (k 0)),g 16 13 false (.ld false 1 15),
 g 17 13 false (.len 16),g 18 13 false (.bin .lss 17 (k 1)),o 19 (.pick 13 (.c (.bool true)) 18),m 20 19,g 21 20 false (.a9 0),
 g 22 20 false (.a5 none 1 21 (k 0)),g 23 20 false (.ld false 1 22),g 24 20 false (.len 23),g 25 20 false (.bin .gtr 24 (k 52)),
 o 26 (.pick 20 (.c (.bool true)) 25)]
def r2:=[o 2 (.a9 (.c (.bool false)))]
def r3:=[m 27 0,o 28 (.len 27),o 29 (.a9 (k 0))]
def r4:=[o 30 (.bin .lss 29 28)]
def r5:=[o 31 (.a5 none 1 27 29),o 32 (.ld false 1 31),m 4 32]
def r6:=[m 33 4,o 34 (.len 33),m 35 0,o 36 (.a5 none 1 35 (k 0)),o 37 (.ld false 1 36),o 38 (.len 37),o 39 (.bin .neq 34 38)]
def r7:=[o 2 (.a9 (.c (.bool false)))]
def r8:=[o 40 (.bin .add 29 (k 1)),m 29 40]
def r9:=[o 2 (.a9 (.c (.bool true)))]
def l1:=(s (p r4) (s (i 30 .skip (x 0)) (s (b 1 (s (d r5 [30,31,32]) (s (d r6 [4,33,34,35,36,37,38]) (i 39 (s (d r7 [0,27,28,29,39]) .ret) .skip)))) (d r8 [39,40]))))
def c:=(s (d r0 [2]) (s (s (d r1 [5,6,7,8,9,10,11,12,13,14,15,16,17,18,19,20,21,22,23,24,25]) (i 26 (s (d r2 [0,26]) .ret) .skip)) (s (s (d r3 [26]) (b 0 (w l1))) (s (d r9 [0,27,28,29,30]) .ret))))
end MZ
def MZ:AFn:=⟨1,MZ.c,[.tmp 2],false⟩
namespace MX
def r0:=[o 2 (.a9 (.c .nil)),o 3 (.a9 (k 0))]
def r1:=[m 8 0,o 9 (.bin .lss 8 (k 1)),m 10 9,g 11 10 false (.a9 0),g 12 10 false (.bin .gtr 11 (k 52)),o 13 (.pick 10 (.c (.bool true)) 12)]
def r2:=[o 2 (.a9 (.c .nil)),o 3 (.a9 (k 1))]
def r3:=[o 4 (.w9 4 1)]
def r4:=[o 5 (.a9 (k 0))]
def r5:=[m 14 5,m 15 0,o 16 (.bin .lss 14 15)]
def r7:=[m 19 0,o 20 (.mk 20 3 56 [(.bool false),.nil,.nil] 19 19),m 6 20]
def r8:=[m 21 6,o 22 (.len 21),o 23 (.a9 (k 0))]
def r9:=[o 24 (.bin .lss 23 22)]
def BX:=[m 25 23,m 7 25]
def B7:=[m 26 6,m 27 7,o 28 (.call 124 [(k 0)]),o 29 (.a5 none 3 26 27),n (.st 3 29 28)]
def ah:=[o 30 (.bin .add 23 (k 1)),m 23 30]
def CR:=[m 31 6,m 32 5,o 33 (.call 124 [(k 1)]),o 34 (.a5 none 3 31 32),n (.st 3 34 33)]
def di:=[m 35 4,m 36 6,o 37 (.c9 37 1 [36]),o 38 (.app 38 1 24 35 37),m 4 38]
def r6:=[m 17 5,o 18 (.bin .add 17 (k 1)),m 5 18]
def dj:=[m 39 4,m 2 39,o 3 (.a9 (k 0))]
def l2:=(s (p r9) (s (i 24 .skip (x 2)) (s (b 3 (s (d BX [24,25]) (d B7 [7,26,27,28,29]))) (d ah [30]))))
def l1:=(s (s (d r5 [14,15]) (i 16 .skip (x 0))) (s (b 1 (s (d r7 [16,19,20]) (s (s (d r8 [21]) (b 2 (w l2))) (s (d CR [22,23,24,31,32,33,34]) (d di [6,35,36,37,38]))))) (d r6 [17,18])))
def c:=(s (d r0 [2,3]) (s (s (d r1 [8,9,10,11,12]) (i 13 (s (d r2 [0,13]) .ret) .skip)) (s (d r3 [13]) (s (s (p r4) (b 0 (w l1))) (s (d dj [0,4,5,16,39]) .ret)))))
end MX
def MX:AFn:=⟨1,MX.c,[.tmp 2,.tmp 3],false⟩
namespace MY
def r0:=[o 4 (.a9 (.c .nil)),o 5 (.a9 (k 0))]
def r1:=[m 13 0,o 14 (.call 239 [13]),o 15 (.un .not 14),m 16 15,g 17 16 false (.a9 1),g 18 16 false (.call 239 [17]),g 19 16 false (.un .not 18),
 o 20 (.pick 16 (.c (.bool true)) 19),m 12 20]
def r2:=[o 4 (.a9 (.c .nil)),o 5 (.a9 (k 2))]
def r3:=[m 22 0,o 23 (.a5 none 1 22 (k 0)),o 24 (.ld false 1 23),o 25 (.len 24),m 26 1,o 27 (.len 26),o 28 (.bin .neq 25 27),m 21 28]
def r4:=[o 4 (.a9 (.c .nil)),o 5 (.a9 (k 1))]
def r5:=[o 6 (.w9 6 1)]
def r6:=[m 29 0,o 30 (.len 29),o 31 (.a9 (k 0))]
def r7:=[o 32 (.bin .lss 31 30)]
def r8:=[m 33 31,m 7 33]
def r9:=[o 8 (.w9 8 3)]
def BX:=[m 34 1,o 35 (.a5 none 1 34 (k 0)),o 36 (.ld false 1 35),o 37 (.len 36),o 38 (.a9 (k 0))]
def B7:=[o 39 (.bin .lss 38 37)]
def ah:=[m 40 38,m 9 40]
def CR:=[o 41 (.call 124 [(k 0)]),o 10 (.alloc 10 [(.bool false),.nil,.nil]),n (.st 3 10 41)]
def di:=[m 42 1,o 43 (.len 42),o 44 (.a9 (k 0))]
def dj:=[o 45 (.bin .lss 44 43)]
def fj:=[m 46 44,m 11 46]
def EO:=[o 47 (.ld true 3 10),m 48 0,m 49 7,o 50 (.a5 none 1 48 49),o 51 (.ld false 1 50),m 52 11,o 53 (.a5 none 3 51 52),o 54 (.ld true 3 53),m 55 1,
 m 56 11,o 57 (.a5 none 1 55 56),o 58 (.ld false 1 57),m 59 9,o 60 (.a5 none 3 58 59),o 61 (.ld true 3 60),o 62 (.call 128 [54,61]),
 o 63 (.call 126 [47,62]),n (.st 3 10 63)]
def fk:=[o 64 (.bin .add 44 (k 1)),m 44 64]
def gm:=[m 65 8,o 66 (.ld true 3 10),o 67 (.c9 67 3 [66]),o 68 (.app 68 3 56 65 67),m 8 68]
def jo:=[o 69 (.bin .add 38 (k 1)),m 38 69]
def mr:=[m 70 6,m 71 8,o 72 (.c9 72 1 [71]),o 73 (.app 73 1 24 70 72),m 6 73]
def oo:=[o 74 (.bin .add 31 (k 1)),m 31 74]
def qz:=[m 75 6,m 4 75,o 5 (.a9 (k 0))]
def l3:=(s (p dj) (s (i 45 .skip (x 5)) (s (b 6 (s (d fj [45,46]) (e EO [11,47,48,49,50,51,52,53,54,55,56,57,58,59,60,61,62,63]))) (d fk [64]))))
def l2:=(s (p B7) (s (i 39 .skip (x 3)) (s (b 4 (s (d ah [39,40]) (s (d CR [41]) (s (s (d di [42]) (b 5 (w l3))) (d gm [9,10,43,44,45,65,66,67,68]))))) (d jo [69]))))
def l1:=(s (p r7) (s (i 32 .skip (x 1)) (s (b 2 (s (d r8 [32,33]) (s (p r9) (s (s (d BX [34,35,36]) (b 3 (w l2))) (d mr [7,8,37,38,39,70,71,72,73]))))) (d oo [74]))))
def c:=(s (d r0 [4,5]) (s (b 0 (s (d r1 [13,14,15,16,17,18,19,20]) (i 12 (s (d r2 [0,1,12]) .ret) (s (d r3 [12,22,23,24,25,26,27,28]) (i 21 (s (d r4 [0,1,21]) .ret) .skip))))) (s (d r5 [21]) (s (s (d r6 [29]) (b 1 (w l1))) (s (d qz [0,1,6,30,31,32,75]) .ret)))))
end MY
def MY:AFn:=⟨2,MY.c,[.tmp 4,.tmp 5],false⟩
structure ak (L:Lib):Prop extends n7 L where
 MZ:L 239=some F.MZ
 MX:L 240=some F.MX
 MY:L 241=some F.MY
end Go.e8.F

namespace Go.e8.F
open C
namespace MQ
def r0:=[o 2 (.box 2 0),o 3 (.box 3 1),o 4 (.alloc 4 [(.bool false),.nil,.nil])]
def r1:=[o 8 (.ld true 3 2),o 9 (.ld true 3 3),o 10 (.call 154 [8,9]),m 7 10,o 11 (.ext 7 0),o 12 (.ext 7 1),o 5 (.alloc 5 [(.bool false),.nil,.nil]),
 n (.st 3 5 11),m 6 12]
def r2:=[m 13 6,o 14 (.bin .neq 13 (k 0))]
def r3:=[o 15 (.call 124 [(k 0)]),n (.st 3 4 15)]
def r4:=[o 16 (.ld true 3 5),n (.st 3 4 16)]
def c:=(s (d r0 [0,1]) (s (d r1 [2,3,7,8,9,10,11,12]) (s (s (d r2 [6,13]) (i 14 (s (d r3 [5,14,15]) .ret) .skip)) (s (d r4 [5,14,16]) .ret))))
end MQ
def MQ:AFn:=⟨2,MQ.c,[.cell 4 true 3],false⟩
namespace M4
def r0:=[o 2 (.a9 (.c .nil))]
def r1:=[o 3 (.w9 277003 1)]
def r2:=[m 9 0,o 10 (.len 9),o 11 (.a9 (k 0))]
def r3:=[o 12 (.bin .lss 11 10)]
def r4:=[o 13 (.a5 none 1 9 11),o 14 (.ld false 1 13),m 5 14]
def r5:=[o 6 (.w9 277006 3)]
def r6:=[m 15 5,o 16 (.len 15),o 17 (.a9 (k 0))]
def r7:=[o 18 (.bin .lss 17 16)]
def r8:=[o 19 (.a5 none 3 15 17),o 20 (.ld true 3 19),o 8 (.alloc 277008 [(.bool false),.nil,.nil]),n (.st 3 8 20)]
def r9:=[m 21 6,o 22 (.ld true 3 8),o 23 (.call 123 [22]),o 24 (.c9 277024 3 [23]),o 25 (.app 277025 3 56 21 24),m 6 25]
def BX:=[o 26 (.bin .add 17 (k 1)),m 17 26]
def B7:=[m 27 3,m 28 6,o 29 (.c9 277029 1 [28]),o 30 (.app 277030 1 24 27 29),m 3 30]
def ah:=[o 31 (.bin .add 11 (k 1)),m 11 31]
def CR:=[m 32 3,m 2 32]
def l2:=(s (p r7) (s (i 18 .skip (x 2)) (s (b 3 (s (d r8 [18,19,20]) (d r9 [8,21,22,23,24,25]))) (d BX [26]))))
def l1:=(s (p r3) (s (i 12 .skip (x 0)) (s (b 1 (s (d r4 [12,13,14]) (s (p r5) (s (s (d r6 [5]) (b 2 (w l2))) (d B7 [6,15,16,17,18,27,28,29,30]))))) (d ah [31]))))
def c:=(s (d r0 [2]) (s (p r1) (s (s (d r2 [0]) (b 0 (w l1))) (s (d CR [3,9,10,11,12,32]) .ret))))
end M4
def M4:AFn:=⟨1,M4.c,[.tmp 2],false⟩
namespace F8
def r0:=[o 4 (.a9 (k 0)),o 5 (.alloc 901005 [(.bool false),.nil,.nil])]
def r1:=[o 15 (.call 124 [(k 1)]),o 7 (.alloc 901007 [(.bool false),.nil,.nil]),o 6 (.a9 (k 0)),n (.st 3 7 15)]
def r2:=[o 8 (.a9 (k 0))]
def r3:=[m 16 8,m 17 1,o 18 (.bin .lss 16 17),m 19 18,g 20 19 true (.a9 6),g 21 19 true (.a9 0),g 22 19 true (.len 21),g 23 19 true (.bin .lss 20 22),
 o 24 (.pick 19 23 (.c (.bool false)))]
def r5:=[m 27 6,m 9 27]
def r6:=[m 28 9,m 29 0,o 30 (.len 29),o 31 (.bin .lss 28 30),m 32 31,g 33 32 true (.a9 0),g 34 32 true (.a9 9),g 35 32 true (.a5 none 1 33 34),
 g 36 32 true (.ld false 1 35),g 37 32 true (.a9 8),g 38 32 true (.a5 none 3 36 37),g 39 32 true (.ld true 3 38),g 40 32 true (.call 155 [39]),
 g 41 32 true (.bin .eql 40 (k 0)),o 42 (.pick 32 41 (.c (.bool false)))]
def r7:=[m 43 9,o 44 (.bin .add 43 (k 1)),m 9 44]
def r8:=[m 45 9,m 46 0,o 47 (.len 46),o 48 (.bin .eql 45 47)]
def r9:=[m 49 9,m 50 6,o 51 (.bin .neq 49 50)]
def BX:=[m 52 0,m 53 9,m 54 0,m 55 6,m 56 0,m 57 6,o 58 (.a5 none 1 56 57),o 59 (.ld false 1 58),m 60 0,m 61 9,o 62 (.a5 none 1 60 61),
 o 63 (.ld false 1 62),o 64 (.a5 none 1 52 53),n (.st 1 64 59),o 65 (.a5 none 1 54 55),n (.st 1 65 63)]
def B7:=[o 66 (.ld true 3 7),o 67 (.call 152 [66]),n (.st 3 7 67)]
def ah:=[m 68 0,m 69 6,o 70 (.a5 none 1 68 69),o 71 (.ld false 1 70),m 72 8,o 73 (.a5 none 3 71 72),o 74 (.ld true 3 73),
 o 10 (.alloc 901010 [(.bool false),.nil,.nil]),n (.st 3 10 74)]
def CR:=[o 75 (.ld true 3 7),o 76 (.ld true 3 10),o 77 (.call 128 [75,76]),n (.st 3 7 77)]
def di:=[m 78 0,m 79 6,o 80 (.a5 none 1 78 79),o 81 (.ld false 1 80),o 82 (.len 81),o 83 (.a9 (k 0))]
def dj:=[o 84 (.bin .lss 83 82)]
def fj:=[m 85 83,m 11 85]
def EO:=[m 86 0,m 87 6,o 88 (.a5 none 1 86 87),o 89 (.ld false 1 88),m 90 11,m 91 0,m 92 6,o 93 (.a5 none 1 91 92),o 94 (.ld false 1 93),m 95 11,
 o 96 (.a5 none 3 94 95),o 97 (.ld true 3 96),o 98 (.ld true 3 10),o 99 (.call 276 [97,98]),o 100 (.a5 none 3 89 90),n (.st 3 100 99)]
def fk:=[o 101 (.bin .add 83 (k 1)),m 83 101]
def gm:=[m 102 0,o 103 (.len 102),o 104 (.a9 (k 0))]
def jo:=[o 105 (.bin .lss 104 103)]
def mr:=[m 106 104,m 12 106]
def oo:=[m 107 0,m 108 12,o 109 (.a5 none 1 107 108),o 110 (.ld false 1 109),m 111 8,o 112 (.a5 none 3 110 111),o 113 (.ld true 3 112),
 o 13 (.alloc 901013 [(.bool false),.nil,.nil]),n (.st 3 13 113)]
def qz:=[m 114 12,m 115 6,o 116 (.bin .eql 114 115),m 117 116,g 118 117 false (.ld true 3 13),g 119 117 false (.call 155 [118]),
 g 120 117 false (.bin .eql 119 (k 0)),o 121 (.pick 117 (.c (.bool true)) 120)]
def LR:=[m 122 0,m 123 12,o 124 (.a5 none 1 122 123),o 125 (.ld false 1 124),o 126 (.len 125),o 127 (.a9 (k 0))]
def U8:=[o 128 (.bin .lss 127 126)]
def Y9:=[m 129 127,m 14 129]
def ZA:=[m 130 0,m 131 12,o 132 (.a5 none 1 130 131),o 133 (.ld false 1 132),m 134 14,m 135 0,m 136 12,o 137 (.a5 none 1 135 136),o 138 (.ld false 1 137),
 m 139 14,o 140 (.a5 none 3 138 139),o 141 (.ld true 3 140),o 142 (.ld true 3 13),m 143 0,m 144 6,o 145 (.a5 none 1 143 144),o 146 (.ld false 1 145),
 m 147 14,o 148 (.a5 none 3 146 147),o 149 (.ld true 3 148),o 150 (.call 128 [142,149]),o 151 (.call 153 [141,150]),o 152 (.a5 none 3 133 134),
 n (.st 3 152 151)]
def ZB:=[o 153 (.bin .add 127 (k 1)),m 127 153]
def ZC:=[o 154 (.bin .add 104 (k 1)),m 104 154]
def Bq:=[m 155 6,o 156 (.bin .add 155 (k 1)),m 6 156]
def r4:=[m 25 8,o 26 (.bin .add 25 (k 1)),m 8 26]
def Cz:=[m 157 6,o 158 (.ld true 3 7),m 4 157,n (.st 3 5 158)]
def l2:=(s (s (d r6 [28,29,30,31,32,33,34,35,36,37,38,39,40,41]) (i 42 .skip (x 2))) (b 3 (d r7 [42,43,44])))
def l3:=(s (p dj) (s (i 84 .skip (x 4)) (s (b 5 (s (d fj [84,85]) (e EO [11,86,87,88,89,90,91,92,93,94,95,96,97,98,99,100]))) (d fk [101]))))
def l5:=(s (p U8) (s (i 128 .skip (x 8)) (s (b 9 (s (d Y9 [128,129]) (e ZA [14,130,131,132,133,134,135,136,137,138,139,140,141,142,143,144,145,146,147,148,149,150,151,152]))) (d ZB [153]))))
def l4:=(s (p jo) (s (i 105 .skip (x 6)) (s (b 7 (s (d mr [105,106]) (s (d oo [107,108,109,110,111,112,113]) (s (s (d qz [114,115,116,117,118,119,120]) (i 121 (x 7) .skip)) (s (d LR [121,122,123,124,125]) (b 8 (w l5))))))) (d ZC [12,13,121,126,127,128,154]))))
def l1:=(s (s (d r3 [16,17,18,19,20,21,22,23]) (i 24 .skip (x 0))) (s (b 1 (s (d r5 [24,27]) (s (b 2 (w l2)) (s (s (d r8 [42,45,46,47]) (i 48 (x 1) .skip)) (s (s (d r9 [48,49,50]) (i 51 (s (e BX [9,51,52,53,54,55,56,57,58,59,60,61,62,63,64,65]) (d B7 [66,67])) .skip)) (s (d ah [9,51,68,69,70,71,72,73,74]) (s (d CR [75,76,77]) (s (s (d di [78,79,80,81]) (b 4 (w l3))) (s (s (d gm [10,82,83,84,102]) (b 6 (w l4))) (d Bq [103,104,105,155,156])))))))))) (d r4 [9,25,26,48])))
def c:=(s (d r0 [4]) (s (d r1 [15]) (s (s (p r2) (b 0 (w l1))) (s (e Cz [0,1,6,7,8,24,157,158]) .ret))))
end F8
def F8:AFn:=⟨2,F8.c,[.tmp 4,.cell 5 true 3],false⟩
namespace M3
def r0:=[o 4 (.a9 (.c .nil)),o 5 (.a9 (k 0))]
def r1:=[m 15 0,o 16 (.e9 277 [15]),m 6 16]
def r2:=[m 17 6,o 18 (.len 17),o 19 (.a9 (k 0))]
def r3:=[o 20 (.bin .lss 19 18)]
def r4:=[m 21 19,m 7 21]
def r5:=[m 22 6,m 23 7,m 24 6,m 25 7,o 26 (.a5 none 1 24 25),o 27 (.ld false 1 26),m 28 1,m 29 7,o 30 (.a5 none 1 28 29),o 31 (.ld false 1 30),
 o 32 (.app 32 3 56 27 31),o 33 (.a5 none 1 22 23),n (.st 1 33 32)]
def r6:=[o 34 (.bin .add 19 (k 1)),m 19 34]
def r7:=[m 36 6,m 37 0,o 38 (.len 37),o 39 (.e9 901 [36,38]),m 35 39,o 40 (.ext 35 0),o 41 (.ext 35 1),o 9 (.alloc 9 [(.bool false),.nil,.nil]),m 8 40,
 n (.st 3 9 41)]
def r8:=[m 42 8,m 43 0,o 44 (.len 43),o 45 (.bin .lss 42 44)]
def r9:=[o 4 (.a9 (.c .nil)),o 5 (.a9 (k 11))]
def BX:=[o 10 (.w9 10 1)]
def B7:=[m 46 6,o 47 (.len 46),o 48 (.a9 (k 0))]
def ah:=[o 49 (.bin .lss 48 47)]
def CR:=[m 50 48,m 11 50]
def di:=[o 12 (.w9 12 3)]
def dj:=[m 51 6,m 52 11,o 53 (.a5 none 1 51 52),o 54 (.ld false 1 53),m 55 0,o 56 (.len 55),o 57 (.gp 3 54 (some 56) none),o 58 (.len 57),o 59 (.a9 (k 0))]
def fj:=[o 60 (.bin .lss 59 58)]
def EO:=[o 61 (.a5 none 3 57 59),o 62 (.ld true 3 61),o 14 (.alloc 14 [(.bool false),.nil,.nil]),n (.st 3 14 62)]
def fk:=[m 63 12,o 64 (.ld true 3 14),o 65 (.call 123 [64]),o 66 (.c9 66 3 [65]),o 67 (.app 67 3 56 63 66),m 12 67]
def gm:=[o 68 (.bin .add 59 (k 1)),m 59 68]
def jo:=[m 69 10,m 70 12,o 71 (.c9 71 1 [70]),o 72 (.app 72 1 24 69 71),m 10 72]
def mr:=[o 73 (.bin .add 48 (k 1)),m 48 73]
def oo:=[m 74 10,m 4 74,o 5 (.a9 (k 0))]
def l1:=(s (p r3) (s (i 20 .skip (x 0)) (s (b 1 (s (d r4 [20,21]) (e r5 [7,22,23,24,25,26,27,28,29,30,31,32,33]))) (d r6 [34]))))
def l3:=(s (p fj) (s (i 60 .skip (x 4)) (s (b 5 (s (d EO [60,61,62]) (d fk [14,63,64,65,66,67]))) (d gm [68]))))
def l2:=(s (p ah) (s (i 49 .skip (x 2)) (s (b 3 (s (d CR [49,50]) (s (p di) (s (s (d dj [11,51,52,53,54,55,56]) (b 4 (w l3))) (d jo [12,57,58,59,60,69,70,71,72]))))) (d mr [73]))))
def c:=(s (d r0 [4,5]) (s (d r1 [15,16]) (s (s (d r2 [17]) (b 0 (w l1))) (s (s (d r7 [1,9,18,19,20,35,36,37,38,39,40,41]) (s (d r8 [8,42,43,44]) (i 45 (s (d r9 [0,6,45]) .ret) .skip))) (s (d BX [45]) (s (s (d B7 [46]) (b 2 (w l2))) (s (d oo [0,6,10,47,48,49,74]) .ret)))))))
end M3
def M3:AFn:=⟨2,M3.c,[.tmp 4,.tmp 5],false⟩
namespace I8
def r0:=[o 2 (.a9 (.c .nil)),o 3 (.a9 (k 0))]
def r1:=[m 7 0,o 8 (.call 239 [7]),o 9 (.un .not 8),m 6 9]
def r2:=[o 2 (.a9 (.c .nil)),o 3 (.a9 (k 2))]
def r3:=[m 11 0,o 12 (.len 11),m 13 0,o 14 (.a5 none 1 13 (k 0)),o 15 (.ld false 1 14),o 16 (.len 15),o 17 (.bin .neq 12 16),m 10 17]
def r4:=[o 2 (.a9 (.c .nil)),o 3 (.a9 (k 1))]
def r5:=[m 19 0,o 20 (.len 19),o 21 (.call 240 [20]),m 18 21,o 22 (.ext 18 0),o 23 (.ext 18 1),m 4 22,m 5 23]
def r6:=[m 24 0,m 25 4,o 26 (.call 278 [24,25]),o 27 (.ext 26 0),o 28 (.ext 26 1),m 2 27,m 3 28]
def c:=(s (d r0 [2,3]) (s (b 0 (s (d r1 [7,8,9]) (i 6 (s (d r2 [0,6]) .ret) (s (d r3 [6,11,12,13,14,15,16,17]) (i 10 (s (d r4 [0,10]) .ret) .skip))))) (s (d r5 [5,10,18,19,20,21,22,23]) (s (d r6 [0,4,24,25,26,27,28]) .ret))))
end I8
def I8:AFn:=⟨1,I8.c,[.tmp 2,.tmp 3],false⟩
structure w7 (L:Lib):Prop extends ak L where
 MQ:L 276=some F.MQ
 M4:L 277=some F.M4
 F8:L 901=some F.F8
 M3:L 278=some F.M3
 I8:L 279=some F.I8
end Go.e8.F

namespace Go.e8.F
open C
namespace N4
def r0:=[o 4 (.a9 (.c .nil))]
def r1:=[m 8 0,m 9 1,m 10 1,o 11 (.bin .mul 9 10),o 12 (.call 141 [8,11]),m 5 12]
def r2:=[o 6 (.w9 6 1)]
def r3:=[o 7 (.a9 (k 0))]
def r4:=[m 13 7,m 14 1,o 15 (.bin .lss 13 14)]
def r6:=[m 18 6,m 19 5,m 20 7,m 21 1,o 22 (.bin .mul 20 21),m 23 7,m 24 1,o 25 (.bin .mul 23 24),m 26 1,o 27 (.bin .add 25 26),
 o 28 (.gp 3 19 (some 22) (some 27)),o 29 (.c9 29 1 [28]),o 30 (.app 30 1 24 18 29),m 6 30]
def r5:=[m 16 7,o 17 (.bin .add 16 (k 1)),m 7 17]
def r7:=[m 31 6,m 4 31]
def l1:=(s (s (d r4 [13,14]) (i 15 .skip (x 0))) (s (b 1 (d r6 [15,18,19,20,21,22,23,24,25,26,27,28,29,30])) (d r5 [16,17])))
def c:=(s (d r0 [4]) (s (d r1 [0,8,9,10,11,12]) (s (p r2) (s (s (p r3) (b 0 (w l1))) (s (d r7 [1,5,6,7,15,31]) .ret)))))
end N4
def N4:AFn:=⟨2,N4.c,[.tmp 4],false⟩
structure fm (L:Lib):Prop extends az L where
 N4:L 280=some F.N4
end Go.e8.F

namespace Go.e8.F
open C
namespace NT
def r0:=[o 1 (.box 1 0),o 2 (.a9 (.c (.bool false)))]
def r1:=[o 3 (.ld true 6 1),o 4 (.call 130 [3]),m 5 4,g 6 5 true (.a6 1 0),g 7 5 true (.ld false 1 6),g 8 5 true (.len 7),g 9 5 true (.bin .leq 8 (k 16)),
 o 10 (.pick 5 9 (.c (.bool false))),m 2 10]
def c:=(s (d r0 [0,2]) (s (d r1 [1,3,4,5,6,7,8,9,10]) .ret))
end NT
def NT:AFn:=⟨1,NT.c,[.tmp 2],false⟩
namespace NB
def r0:=[o 1 (.box 1 0),o 2 (.a9 (.c (.bool false)))]
def r1:=[o 3 (.ld true 6 1),o 4 (.call 136 [3]),m 5 4,g 6 5 true (.a6 1 0),g 7 5 true (.ld false 1 6),g 8 5 true (.len 7),g 9 5 true (.bin .leq 8 (k 16)),
 o 10 (.pick 5 9 (.c (.bool false))),m 2 10]
def c:=(s (d r0 [0,2]) (s (d r1 [1,3,4,5,6,7,8,9,10]) .ret))
end NB
def NB:AFn:=⟨1,NB.c,[.tmp 2],false⟩
namespace NA
def r0:=[o 2 (.box 2 0),o 4 (.alloc 4 [.nil,.nil,.nil,(.bool false),.nil,.nil]),o 5 (.a9 (k 0))]
def r1:=[o 14 (.ld true 6 2),o 15 (.call 284 [14]),o 16 (.un .not 15)]
def r2:=[o 17 (.build [.nil,.nil,.nil,(.bool false),.nil,.nil] []),n (.st 6 4 17),o 5 (.a9 (k 2))]
def r3:=[m 18 1,o 19 (.len 18),o 20 (.a6 2 0),o 21 (.ld false 1 20),o 22 (.len 21),o 23 (.bin .neq 19 22)]
def r4:=[o 24 (.build [.nil,.nil,.nil,(.bool false),.nil,.nil] []),n (.st 6 4 24),o 5 (.a9 (k 1))]
def r5:=[o 6 (.a9 (k 0))]
def r6:=[m 25 6,m 26 1,o 27 (.len 26),o 28 (.bin .lss 25 27)]
def r8:=[m 31 1,m 32 6,o 33 (.a5 none 1 31 32),o 34 (.ld false 1 33),o 35 (.len 34),m 36 1,o 37 (.len 36),o 38 (.bin .neq 35 37)]
def r9:=[o 39 (.build [.nil,.nil,.nil,(.bool false),.nil,.nil] []),n (.st 6 4 39),o 5 (.a9 (k 1))]
def r7:=[m 29 6,o 30 (.bin .add 29 (k 1)),m 6 30]
def BX:=[m 40 1,o 41 (.len 40),o 42 (.bin .eql 41 (k 0))]
def B7:=[o 43 (.a6 2 3),o 44 (.ld true 3 43),o 45 (.call 123 [44]),o 46 (.build [.nil,.nil,.nil,(.bool false),.nil,.nil] [(3,3,45)]),n (.st 6 4 46),
 o 5 (.a9 (k 0))]
def ah:=[m 48 1,o 49 (.call 279 [48]),m 47 49,o 50 (.ext 47 0),o 51 (.ext 47 1),m 7 50,m 8 51]
def CR:=[m 52 8,o 53 (.bin .neq 52 (k 0))]
def di:=[o 54 (.build [.nil,.nil,.nil,(.bool false),.nil,.nil] []),n (.st 6 4 54),o 5 (.a9 (k 11))]
def dj:=[m 56 1,o 57 (.a6 2 0),o 58 (.ld false 1 57),o 59 (.call 241 [56,58]),m 55 59,o 60 (.ext 55 0),o 61 (.ext 55 1),m 9 60,m 10 61]
def fj:=[m 63 9,m 64 7,o 65 (.call 241 [63,64]),m 62 65,o 66 (.ext 62 0),o 67 (.ext 62 1),m 11 66,m 12 67]
def EO:=[m 68 11,m 69 1,o 70 (.a6 2 1),q 71 [13] (.ld false 1 70),q 72 [13] (.call 138 [69,71]),o 73 (.a6 2 3),
 q 74 [13] (.ld true 3 73),q 75 [13] (.call 123 [74]),
 o 76 (.build [.nil,.nil,.nil,(.bool false),.nil,.nil] [(0,1,68),(1,1,72),(3,3,75)]),
 o 13 (.alloc 13 [.nil,.nil,.nil,(.bool false),.nil,.nil]),n (.st 6 13 76)]
def fk:=[m 77 7,o 78 (.call 212 [77]),o 79 (.a6 2 2),o 80 (.ld false 1 79),o 81 (.call 138 [78,80]),o 82 (.a6 13 2),n (.st 1 82 81)]
def gm:=[o 83 (.ld true 6 13),n (.st 6 4 83),o 5 (.a9 (k 0))]
def l1:=(s (s (d r6 [25,26,27]) (i 28 .skip (x 0))) (s (b 1 (s (d r8 [28,31,32,33,34,35,36,37]) (i 38 (s (d r9 [1,2,6,38,39]) .ret) .skip))) (d r7 [29,30,38])))
def c:=(s (d r0 [0,5]) (s (s (d r1 [14,15]) (i 16 (s (d r2 [1,2,16,17]) .ret) .skip)) (s (s (d r3 [16,18,19,20,21,22]) (i 23 (s (d r4 [1,2,23,24]) .ret) .skip)) (s (s (d r5 [23]) (b 0 (w l1))) (s (s (d BX [6,28,40,41]) (i 42 (s (d B7 [1,2,42,43,44,45,46]) .ret) .skip)) (s (d ah [42,47,48,49,50,51]) (s (s (d CR [8,52]) (i 53 (s (d di [1,2,7,53,54]) .ret) .skip)) (s (d dj [10,53,55,56,57,58,59,60,61]) (s (d fj [9,12,62,63,64,65,66,67]) (s (e EO [1,11,68,69,70,71,72,73,74,75,76]) (s (e fk [2,7,77,78,79,80,81,82]) (s (d gm [13,83]) .ret))))))))))))
end NA
def NA:AFn:=⟨2,NA.c,[.cell 4 true 6,.tmp 5],false⟩
structure bp (L:Lib):Prop extends lf L,w7 L,fm L,o5 L,bq L where
 NT:L 281=some F.NT
 NB:L 284=some F.NB
 NA:L 285=some F.NA
end Go.e8.F

namespace Go.e8.F
open C
namespace KX
def r0:=[o 2 (.a9 (.c (.bool false)))]
def r1:=[m 6 0,o 7 (.len 6),o 8 (.bin .lss 7 (k 1)),m 9 8,g 10 9 false (.a9 0),g 11 9 false (.len 10),g 12 9 false (.bin .gtr 11 (k 52)),
 o 13 (.pick 9 (.c (.bool true)) 12)]
def r2:=[o 2 (.a9 (.c (.bool false)))]
def r3:=[m 14 0,o 15 (.a5 none 1 14 (k 0)),o 16 (.ld false 1 15),o 17 (.len 16),m 3 17]
def r4:=[m 18 0,o 19 (.len 18),o 20 (.a9 (k 0))]
def r5:=[o 21 (.bin .lss 20 19)]
def r6:=[o 22 (.a5 none 1 18 20),o 23 (.ld false 1 22),m 5 23]
def r7:=[m 24 5,o 25 (.len 24),m 26 3,o 27 (.bin .neq 25 26)]
def r8:=[o 2 (.a9 (.c (.bool false)))]
def r9:=[o 28 (.bin .add 20 (k 1)),m 20 28]
def BX:=[m 29 3,o 30 (.bin .geq 29 (k 1)),m 31 30,g 32 31 true (.a9 3),g 33 31 true (.bin .leq 32 (k 52)),o 34 (.pick 31 33 (.c (.bool false))),m 2 34]
def l1:=(s (p r5) (s (i 21 .skip (x 0)) (s (b 1 (s (d r6 [21,22,23]) (s (d r7 [5,24,25,26]) (i 27 (s (d r8 [3,18,19,20,27]) .ret) .skip)))) (d r9 [27,28]))))
def c:=(s (d r0 [2]) (s (s (d r1 [6,7,8,9,10,11,12]) (i 13 (s (d r2 [0,13]) .ret) .skip)) (s (d r3 [13,14,15,16,17]) (s (s (d r4 [0]) (b 0 (w l1))) (s (d BX [3,18,19,20,21,29,30,31,32,33,34]) .ret)))))
end KX
def KX:AFn:=⟨1,KX.c,[.tmp 2],false⟩
namespace GI
def r0:=[o 2 (.a9 (.c .nil)),o 3 (.a9 (.c .nil))]
def r1:=[m 14 0,o 15 (.len 14),o 16 (.mk 231016 1 24 [.nil] 15 15),m 17 0,o 18 (.len 17),o 19 (.mk 231019 3 56 [(.bool false),.nil,.nil] 18 18),m 4 16,m 5 19]
def r2:=[m 20 0,o 21 (.len 20),o 22 (.a9 (k 0))]
def r3:=[o 23 (.bin .lss 22 21)]
def r4:=[m 24 22,o 25 (.a5 none 1 20 22),o 26 (.ld false 1 25),m 6 24,m 7 26]
def r5:=[o 27 (.call 96 [(k 1)]),o 8 (.alloc 231008 [(.bool false),.nil,.nil]),n (.st 3 8 27)]
def r6:=[m 28 7,o 29 (.len 28),o 30 (.a9 (k 0))]
def r7:=[o 31 (.bin .lss 30 29)]
def r8:=[o 32 (.a5 none 3 28 30),o 33 (.ld true 3 32),o 10 (.alloc 231010 [(.bool false),.nil,.nil]),n (.st 3 10 33)]
def r9:=[o 34 (.ld true 3 8),o 35 (.ld true 3 10),o 36 (.call 99 [34,35]),o 11 (.alloc 231011 [(.bool false),.nil,.nil]),n (.st 3 11 36)]
def BX:=[o 37 (.ld true 3 8),o 38 (.a6 11 2),o 39 (.ld false 1 38),o 40 (.build [(.bool false),.nil] [(1,1,39)]),o 41 (.c9 231041 1 [(.c (.int .u32 (1)))]),
 o 42 (.build [(.bool false),.nil,.nil] [(0,2,40),(2,1,41)]),o 43 (.call 99 [37,42]),n (.st 3 8 43)]
def B7:=[o 44 (.bin .add 30 (k 1)),m 30 44]
def ah:=[m 45 4,m 46 6,m 47 7,o 48 (.len 47),o 49 (.mk 231049 3 56 [(.bool false),.nil,.nil] 48 48),o 50 (.a5 none 1 45 46),n (.st 1 50 49)]
def CR:=[m 51 7,o 52 (.len 51),o 53 (.a9 (k 0))]
def di:=[o 54 (.bin .lss 53 52)]
def dj:=[m 55 53,o 56 (.a5 none 3 51 53),o 57 (.ld true 3 56),o 13 (.alloc 231013 [(.bool false),.nil,.nil]),m 12 55,n (.st 3 13 57)]
def fj:=[m 58 4,m 59 6,o 60 (.a5 none 1 58 59),o 61 (.ld false 1 60),m 62 12,o 63 (.ld true 3 13),o 64 (.ld true 3 8),o 65 (.call 99 [63,64]),
 o 66 (.a5 none 3 61 62),n (.st 3 66 65)]
def EO:=[o 67 (.bin .add 53 (k 1)),m 53 67]
def fk:=[m 68 5,m 69 6,o 70 (.ld true 3 8),o 71 (.a5 none 3 68 69),n (.st 3 71 70)]
def gm:=[o 72 (.bin .add 22 (k 1)),m 22 72]
def jo:=[m 73 4,m 74 5,m 2 73,m 3 74]
def l2:=(s (p r7) (s (i 31 .skip (x 2)) (s (b 3 (s (d r8 [31,32,33]) (s (d r9 [10,34,35,36]) (d BX [11,37,38,39,40,41,42,43])))) (d B7 [44]))))
def l3:=(s (p di) (s (i 54 .skip (x 4)) (s (b 5 (s (d dj [54,55,56,57]) (e fj [12,13,58,59,60,61,62,63,64,65,66]))) (d EO [67]))))
def l1:=(s (p r3) (s (i 23 .skip (x 0)) (s (b 1 (s (d r4 [23,24,25,26]) (s (d r5 [27]) (s (s (p r6) (b 2 (w l2))) (s (d ah [28,29,30,31,45,46,47,48,49,50]) (s (s (d CR [7]) (b 4 (w l3))) (d fk [6,8,51,52,53,54,68,69,70,71]))))))) (d gm [72]))))
def c:=(s (d r0 [2,3]) (s (e r1 [14,15,16,17,18,19]) (s (s (d r2 [0]) (b 0 (w l1))) (s (d jo [4,5,20,21,22,23,73,74]) .ret))))
end GI
def GI:AFn:=⟨1,GI.c,[.tmp 2,.tmp 3],false⟩
namespace KY
def r0:=[o 7 (.box 900007 3)]
def r1:=[m 12 1,m 13 2,o 14 (.a5 none 3 12 13),q 15 [900008,900009] (.ld true 3 14),m 16 0,m 17 2,o 18 (.a5 none 3 16 17),
 q 19 [900008,900009,900008] (.ld true 3 18),o 8 (.alloc 900008 [(.bool false),.nil,.nil]),o 9 (.alloc 900009 [(.bool false),.nil,.nil]),
 n (.nv 900008 3 8 15),n (.st 3 9 19)]
def r2:=[m 20 2,m 10 20]
def r3:=[m 21 10,m 22 0,o 23 (.len 22),o 24 (.bin .lss 21 23)]
def r5:=[m 27 0,m 28 10,o 29 (.a5 none 3 27 28),q 30 [900011] (.ld true 3 29),q 31 [900011] (.ld true 3 8),
 q 32 [900011] (.call 99 [30,31]),m 33 1,m 34 10,o 35 (.a5 none 3 33 34),q 36 [900011] (.ld true 3 35),
 q 37 [900011] (.ld true 3 9),q 38 [900011] (.call 99 [36,37]),q 39 [900011] (.call 150 [32,38]),
 o 11 (.alloc 900011 [(.bool false),.nil,.nil]),n (.st 3 11 39)]
def r6:=[m 41 0,m 42 10,o 43 (.ld true 3 11),o 44 (.ld true 3 7),o 45 (.call 100 [43,44]),m 40 45,o 46 (.ext 40 0),o 47 (.ext 40 1),o 48 (.a5 none 3 41 42),
 n (.st 3 48 46)]
def r4:=[m 25 10,o 26 (.bin .add 25 (k 1)),m 10 26]
def l1:=(s (s (d r3 [21,22,23]) (i 24 .skip (x 0))) (s (b 1 (s (e r5 [24,27,28,29,30,31,32,33,34,35,36,37,38,39]) (d r6 [11,40,41,42,43,44,45,46,47,48]))) (d r4 [25,26])))
def c:=(s (d r0 [3]) (s (e r1 [12,13,14,15,16,17,18,19]) (s (d r2 [2,20]) (b 0 (w l1)))))
end KY
def KY:AFn:=⟨4,KY.c,[],false⟩
namespace JW
def r0:=[o 4 (.a9 (k 0)),o 5 (.alloc 233005 [(.bool false),.nil,.nil]),o 6 (.a9 (.c (.bool false)))]
def r1:=[o 7 (.a9 (k 0)),o 8 (.a9 (k 0)),o 9 (.a9 (.c (.bool false)))]
def r2:=[o 13 (.call 96 [(k 1)]),o 10 (.alloc 233010 [(.bool false),.nil,.nil]),n (.st 3 10 13)]
def r3:=[m 14 7,m 15 0,o 16 (.len 15),o 17 (.bin .lss 14 16)]
def r4:=[m 18 8,m 19 1,o 20 (.bin .lss 18 19)]
def r6:=[m 23 7,m 11 23]
def r7:=[m 24 11,m 25 0,o 26 (.len 25),o 27 (.bin .lss 24 26)]
def r9:=[m 30 0,m 31 11,o 32 (.a5 none 1 30 31),o 33 (.ld false 1 32),m 34 8,o 35 (.a5 none 3 33 34),o 36 (.ld true 3 35),o 37 (.call 97 [36]),
 o 38 (.bin .neq 37 (k 0))]
def BX:=[m 39 11,m 40 7,o 41 (.bin .neq 39 40)]
def B7:=[m 42 0,m 43 11,m 44 0,m 45 7,m 46 0,m 47 7,o 48 (.a5 none 1 46 47),o 49 (.ld false 1 48),m 50 0,m 51 11,o 52 (.a5 none 1 50 51),
 o 53 (.ld false 1 52),o 54 (.a5 none 1 42 43),n (.st 1 54 49),o 55 (.a5 none 1 44 45),n (.st 1 55 53)]
def ah:=[m 56 9,o 57 (.un .not 56),m 9 57]
def r8:=[m 28 11,o 29 (.bin .add 28 (k 1)),m 11 29]
def r5:=[m 21 8,o 22 (.bin .add 21 (k 1)),m 8 22]
def CR:=[m 58 8,m 59 1,o 60 (.bin .geq 58 59)]
def di:=[m 61 7,o 62 (.bin .add 61 (k 1)),m 12 62]
def dj:=[m 63 12,m 64 0,o 65 (.len 64),o 66 (.bin .lss 63 65)]
def EO:=[m 69 0,m 70 12,o 71 (.a5 none 1 69 70),o 72 (.ld false 1 71),m 73 0,m 74 7,o 75 (.a5 none 1 73 74),o 76 (.ld false 1 75),m 77 8,
 o 78 (.ld true 3 10),o 79 (.e9 900 [72,76,77,78])]
def fj:=[m 67 12,o 68 (.bin .add 67 (k 1)),m 12 68]
def fk:=[m 80 0,m 81 7,o 82 (.a5 none 1 80 81),o 83 (.ld false 1 82),m 84 8,o 85 (.a5 none 3 83 84),o 86 (.ld true 3 85),n (.st 3 10 86)]
def gm:=[m 87 7,o 88 (.bin .add 87 (k 1)),m 7 88]
def jo:=[m 89 8,o 90 (.bin .add 89 (k 1)),m 8 90]
def mr:=[m 91 7,o 92 (.ld true 3 10),m 93 9,m 4 91,n (.st 3 5 92),m 6 93]
def l3:=(s (s (d r7 [24,25,26]) (i 27 .skip (x 4))) (s (b 5 (s (d r9 [27,30,31,32,33,34,35,36,37]) (i 38 (s (s (d BX [38,39,40]) (i 41 (s (e B7 [11,41,42,43,44,45,46,47,48,49,50,51,52,53,54,55]) (d ah [56,57])) .skip)) (x 2)) .skip))) (d r8 [28,29,38])))
def l2:=(s (s (d r4 [17,18,19]) (i 20 .skip (x 2))) (s (b 3 (s (d r6 [20,23]) (b 4 (w l3)))) (d r5 [11,21,22,27])))
def l4:=(s (s (d dj [63,64,65]) (i 66 .skip (x 6))) (s (b 7 (e EO [66,69,70,71,72,73,74,75,76,77,78,79])) (d fj [67,68])))
def l1:=(s (s (d r3 [14,15,16]) (i 17 .skip (x 0))) (b 1 (.scope (s .skip (s (b 2 (w l2)) (s (s (d CR [11,20,41,58,59]) (i 60 (x 0) .skip)) (s (s (d di [60,61,62]) (b 6 (w l4))) (s (d fk [12,66,80,81,82,83,84,85,86]) (s (d gm [87,88]) (d jo [89,90]))))))))))
def c:=(s (d r0 [4,6]) (s (p r1) (s (d r2 [13]) (s (b 0 (w l1)) (s (e mr [0,1,7,8,9,10,17,60,91,92,93]) .ret)))))
end JW
def JW:AFn:=⟨2,JW.c,[.tmp 4,.cell 5 true 3,.tmp 6],false⟩
structure q9 (L:Lib):Prop extends z7 L,o5 L where
 KX:L 229=some F.KX
 GI:L 231=some F.GI
 KY:L 900=some F.KY
 JW:L 233=some F.JW
end Go.e8.F

namespace Go.e8.F
open C
namespace KZ
def r0:=[o 2 (.a9 (.c .nil))]
def r1:=[m 6 0,o 7 (.a5 none 1 6 (k 0)),o 8 (.ld false 1 7),o 9 (.len 8),o 10 (.mk 10 1 24 [.nil] 9 9),m 3 10]
def r2:=[m 11 3,o 12 (.len 11),o 13 (.a9 (k 0))]
def r3:=[o 14 (.bin .lss 13 12)]
def r4:=[m 15 13,m 4 15]
def r5:=[m 16 0,o 17 (.len 16),o 18 (.a9 (k 0))]
def r6:=[o 19 (.bin .lss 18 17)]
def r7:=[m 20 18,m 5 20]
def r8:=[m 21 3,m 22 4,m 23 3,m 24 4,o 25 (.a5 none 1 23 24),q 26 [35] (.ld false 1 25),m 27 0,m 28 5,o 29 (.a5 none 1 27 28),
 o 30 (.ld false 1 29),m 31 4,o 32 (.a5 none 3 30 31),o 33 (.ld true 3 32),o 34 (.call 95 [33]),o 35 (.c9 35 3 [34]),o 36 (.app 36 3 56 26 35),
 o 37 (.a5 none 1 21 22),n (.st 1 37 36)]
def r9:=[o 38 (.bin .add 18 (k 1)),m 18 38]
def BX:=[o 39 (.bin .add 13 (k 1)),m 13 39]
def B7:=[m 40 3,m 2 40]
def l2:=(s (p r6) (s (i 19 .skip (x 2)) (s (b 3 (s (d r7 [19,20]) (e r8 [5,21,22,23,24,25,26,27,28,29,30,31,32,33,34,35,36,37]))) (d r9 [38]))))
def l1:=(s (p r3) (s (i 14 .skip (x 0)) (s (b 1 (s (d r4 [14,15]) (s (d r5 [16]) (b 2 (w l2))))) (d BX [4,17,18,19,39]))))
def c:=(s (d r0 [2]) (s (d r1 [6,7,8,9,10]) (s (s (d r2 [11]) (b 0 (w l1))) (s (d B7 [0,3,12,13,14,40]) .ret))))
end KZ
def KZ:AFn:=⟨1,KZ.c,[.tmp 2],false⟩
namespace KW
def r0:=[o 2 (.a9 (.c .nil)),o 3 (.a9 (k 0))]
def r1:=[m 4 0,o 5 (.call 229 [4]),o 6 (.un .not 5)]
def r2:=[o 2 (.a9 (.c .nil)),o 3 (.a9 (k 2))]
def r3:=[m 7 0,o 8 (.call 246 [7]),m 2 8,o 3 (.a9 (k 0))]
def c:=(s (d r0 [2,3]) (s (s (d r1 [4,5]) (i 6 (s (d r2 [0,6]) .ret) .skip)) (s (d r3 [0,6,7,8]) .ret)))
end KW
def KW:AFn:=⟨1,KW.c,[.tmp 2,.tmp 3],false⟩
namespace KV
def r0:=[o 4 (.a9 (.c .nil)),o 5 (.a9 (k 0))]
def r1:=[m 17 0,o 18 (.call 229 [17]),o 19 (.un .not 18),m 20 19,g 21 20 false (.a9 1),g 22 20 false (.call 229 [21]),g 23 20 false (.un .not 22),
 o 24 (.pick 20 (.c (.bool true)) 23)]
def r2:=[o 4 (.a9 (.c .nil)),o 5 (.a9 (k 2))]
def r3:=[m 25 0,o 26 (.a5 none 1 25 (k 0)),o 27 (.ld false 1 26),o 28 (.len 27),m 29 1,o 30 (.len 29),o 31 (.bin .neq 28 30)]
def r4:=[o 4 (.a9 (.c .nil)),o 5 (.a9 (k 1))]
def r5:=[m 33 0,o 34 (.e9 231 [33]),m 32 34,o 35 (.ext 32 0),o 36 (.ext 32 1),m 6 35,m 7 36]
def r6:=[m 38 1,o 39 (.call 246 [38]),o 40 (.e9 231 [39]),m 37 40,o 41 (.ext 37 0),o 42 (.ext 37 1),m 8 41,m 9 42]
def r7:=[m 43 6,o 44 (.len 43),o 45 (.mk 45 1 24 [.nil] 44 44),m 10 45]
def r8:=[m 46 6,o 47 (.len 46),o 48 (.a9 (k 0))]
def r9:=[o 49 (.bin .lss 48 47)]
def BX:=[m 50 48,o 51 (.a5 none 1 46 48),o 52 (.ld false 1 51),m 11 50,m 12 52]
def B7:=[m 53 8,o 54 (.len 53),o 55 (.a9 (k 0))]
def ah:=[o 56 (.bin .lss 55 54)]
def CR:=[m 57 55,o 58 (.a5 none 1 53 55),o 59 (.ld false 1 58),m 13 57,m 14 59]
def di:=[o 60 (.call 96 [(k 0)]),o 15 (.alloc 15 [(.bool false),.nil,.nil]),n (.st 3 15 60)]
def dj:=[m 61 12,o 62 (.len 61),o 63 (.a9 (k 0))]
def fj:=[o 64 (.bin .lss 63 62)]
def EO:=[m 65 63,m 16 65]
def fk:=[o 66 (.ld true 3 15),m 67 12,m 68 16,o 69 (.a5 none 3 67 68),o 70 (.ld true 3 69),m 71 14,m 72 16,o 73 (.a5 none 3 71 72),o 74 (.ld true 3 73),
 o 75 (.call 99 [70,74]),o 76 (.call 98 [66,75]),n (.st 3 15 76)]
def gm:=[o 77 (.bin .add 63 (k 1)),m 63 77]
def jo:=[o 79 (.ld true 3 15),m 80 7,m 81 11,o 82 (.a5 none 3 80 81),o 83 (.ld true 3 82),m 84 9,m 85 13,o 86 (.a5 none 3 84 85),o 87 (.ld true 3 86),
 o 88 (.call 99 [83,87]),o 89 (.call 100 [79,88]),m 78 89,o 90 (.ext 78 0),o 91 (.ext 78 1),n (.st 3 15 90)]
def mr:=[m 92 10,m 93 11,m 94 10,m 95 11,o 96 (.a5 none 1 94 95),q 97 [99] (.ld false 1 96),o 98 (.ld true 3 15),o 99 (.c9 99 3 [98]),
 o 100 (.app 100 3 56 97 99),o 101 (.a5 none 1 92 93),n (.st 1 101 100)]
def oo:=[o 102 (.bin .add 55 (k 1)),m 55 102]
def qz:=[o 103 (.bin .add 48 (k 1)),m 48 103]
def LR:=[m 104 10,m 4 104,o 5 (.a9 (k 0))]
def l3:=(s (p fj) (s (i 64 .skip (x 4)) (s (b 5 (s (d EO [64,65]) (e fk [16,66,67,68,69,70,71,72,73,74,75,76]))) (d gm [77]))))
def l2:=(s (p ah) (s (i 56 .skip (x 2)) (s (b 3 (s (d CR [56,57,58,59]) (s (d di [60]) (s (s (d dj [61]) (b 4 (w l3))) (s (e jo [13,14,62,63,64,78,79,80,81,82,83,84,85,86,87,88,89,90,91]) (e mr [15,92,93,94,95,96,97,98,99,100,101])))))) (d oo [102]))))
def l1:=(s (p r9) (s (i 49 .skip (x 0)) (s (b 1 (s (d BX [49,50,51,52]) (s (p B7) (b 2 (w l2))))) (d qz [11,12,53,54,55,56,103]))))
def c:=(s (d r0 [4,5]) (s (s (d r1 [17,18,19,20,21,22,23]) (i 24 (s (d r2 [0,1,24]) .ret) .skip)) (s (s (d r3 [24,25,26,27,28,29,30]) (i 31 (s (d r4 [0,1,31]) .ret) .skip)) (s (d r5 [0,31,32,33,34,35,36]) (s (d r6 [1,37,38,39,40,41,42]) (s (d r7 [43,44,45]) (s (s (d r8 [6]) (b 0 (w l1))) (s (d LR [7,8,9,10,46,47,48,49,104]) .ret))))))))
end KV
def KV:AFn:=⟨2,KV.c,[.tmp 4,.tmp 5],false⟩
namespace KU
def r0:=[o 2 (.a9 (k 0)),o 3 (.a9 (k 0))]
def r1:=[m 9 0,o 10 (.call 229 [9]),o 11 (.un .not 10)]
def r2:=[o 2 (.a9 (k 0)),o 3 (.a9 (k 2))]
def r3:=[m 13 0,o 14 (.e9 231 [13]),m 12 14,o 15 (.ext 12 0),o 16 (.ext 12 1),m 4 15,m 5 16]
def r4:=[m 18 4,m 19 0,o 20 (.a5 none 1 19 (k 0)),o 21 (.ld false 1 20),o 22 (.len 21),o 23 (.e9 233 [18,22]),m 17 23,o 24 (.ext 17 0),o 25 (.ext 17 1),
 o 26 (.ext 17 2),o 7 (.alloc 7 [(.bool false),.nil,.nil]),m 6 24,n (.st 3 7 25),m 8 26]
def r5:=[m 27 6,m 2 27,o 3 (.a9 (k 0))]
def c:=(s (d r0 [2,3]) (s (s (d r1 [9,10]) (i 11 (s (d r2 [0,11]) .ret) .skip)) (s (d r3 [5,11,12,13,14,15,16]) (s (d r4 [0,4,7,8,17,18,19,20,21,22,23,24,25,26]) (s (d r5 [6,27]) .ret)))))
end KU
def KU:AFn:=⟨1,KU.c,[.tmp 2,.tmp 3],false⟩
structure y9 (L:Lib):Prop extends q9 L where
 KZ:L 246=some F.KZ
 KW:L 247=some F.KW
 KV:L 248=some F.KV
 KU:L 249=some F.KU
end Go.e8.F

namespace Go.e8.F
open C
def WQ:Nat:=157
namespace H6
def r0:=[o 4 (.a9 (.c .nil))]
def r1:=[m 8 0,o 9 (.len 8),o 10 (.mk 288010 3 56 [(.bool false),.nil,.nil] 9 9),m 5 10]
def r2:=[m 11 0,o 12 (.len 11),o 13 (.a9 (k 0))]
def r3:=[o 14 (.bin .lss 13 12)]
def r4:=[m 15 13,o 16 (.a5 none 1 11 13),o 17 (.ld false 1 16),m 6 15,m 7 17]
def r5:=[m 18 5,m 19 6,m 20 1,m 21 7,o 22 (.n8 20 [21]),o 23 (.a5 none 3 18 19),n (.st 3 23 22)]
def r6:=[o 24 (.bin .add 13 (k 1)),m 13 24]
def r7:=[m 25 5,m 4 25]
def l1:=(s (p r3) (s (i 14 .skip (x 0)) (s (b 1 (s (d r4 [14,15,16,17]) (d r5 [6,7,18,19,20,21,22,23]))) (d r6 [24]))))
def c:=(s (d r0 [4]) (s (d r1 [8,9,10]) (s (s (d r2 [0]) (b 0 (w l1))) (s (d r7 [1,5,11,12,13,14,25]) .ret))))
end H6
def H6:AFn:=⟨2,H6.c,[.tmp 4],false⟩
namespace NK
def r0:=[o 1 (.box 289001 0),o 2 (.a9 (.c .nil))]
def r1:=[o 3 (.ld true 3 1),o 4 (.call 95 [3]),o 5 (.c9 289005 3 [4]),m 2 5]
def c:=(s (d r0 [0,2]) (s (d r1 [1,3,4,5]) .ret))
end NK
def NK:AFn:=⟨1,NK.c,[.tmp 2],false⟩
namespace NP
def r0:=[o 4 (.a9 (.c .nil))]
def r1:=[m 8 0,o 9 (.len 8),o 10 (.mk 290010 1 24 [.nil] 9 9),m 5 10]
def r2:=[m 11 0,o 12 (.len 11),o 13 (.a9 (k 0))]
def r3:=[o 14 (.bin .lss 13 12)]
def r4:=[m 15 13,o 16 (.a5 none 3 11 13),o 17 (.ld true 3 16),o 7 (.alloc 290007 [(.bool false),.nil,.nil]),m 6 15,n (.st 3 7 17)]
def r5:=[m 18 5,m 19 6,m 20 1,o 21 (.ld true 3 7),o 22 (.n8 20 [21]),o 23 (.a5 none 1 18 19),n (.st 1 23 22)]
def r6:=[o 24 (.bin .add 13 (k 1)),m 13 24]
def r7:=[m 25 5,m 4 25]
def l1:=(s (p r3) (s (i 14 .skip (x 0)) (s (b 1 (s (d r4 [14,15,16,17]) (d r5 [6,7,18,19,20,21,22,23]))) (d r6 [24]))))
def c:=(s (d r0 [4]) (s (d r1 [8,9,10]) (s (s (d r2 [0]) (b 0 (w l1))) (s (d r7 [1,5,11,12,13,14,25]) .ret))))
end NP
def NP:AFn:=⟨2,NP.c,[.tmp 4],false⟩
namespace NJ
def r0:=[o 2 (.a9 (.c .nil))]
def r1:=[m 3 0,o 4 (.e9 290 [3,(.c (.fn false 289 WQ []))]),m 2 4]
def c:=(s (d r0 [2]) (s (d r1 [0,3,4]) .ret))
end NJ
def NJ:AFn:=⟨1,NJ.c,[.tmp 2],false⟩
structure ij (L:Lib):Prop extends bp L,y9 L where
 H6:L 288=some F.H6
 NK:L 289=some F.NK
 NP:L 290=some F.NP
 NJ:L 291=some F.NJ
end Go.e8.F

namespace Go.e8.F
open C
def WR:Nat:=73
namespace NQ
def r0:=[o 4 (.a9 (.c .nil))]
def r1:=[m 8 0,o 9 (.len 8),o 10 (.mk 369010 3 56 [(.bool false),.nil,.nil] 9 9),m 5 10]
def r2:=[m 11 0,o 12 (.len 11),o 13 (.a9 (k 0))]
def r3:=[o 14 (.bin .lss 13 12)]
def r4:=[m 15 13,o 16 (.a5 none 3 11 13),o 17 (.ld true 3 16),o 7 (.alloc 369007 [(.bool false),.nil,.nil]),m 6 15,n (.st 3 7 17)]
def r5:=[m 18 5,m 19 6,m 20 1,o 21 (.ld true 3 7),o 22 (.n8 20 [21]),o 23 (.a5 none 3 18 19),n (.st 3 23 22)]
def r6:=[o 24 (.bin .add 13 (k 1)),m 13 24]
def r7:=[m 25 5,m 4 25]
def l1:=(s (p r3) (s (i 14 .skip (x 0)) (s (b 1 (s (d r4 [14,15,16,17]) (d r5 [6,7,18,19,20,21,22,23]))) (d r6 [24]))))
def c:=(s (d r0 [4]) (s (d r1 [8,9,10]) (s (s (d r2 [0]) (b 0 (w l1))) (s (d r7 [1,5,11,12,13,14,25]) .ret))))
end NQ
def NQ:AFn:=⟨2,NQ.c,[.tmp 4],false⟩
namespace NU
def r0:=[o 2 (.a9 (.c .nil))]
def r1:=[m 3 0,o 4 (.e9 369 [3,(.c (.fn true 95 WR []))]),m 2 4]
def c:=(s (d r0 [2]) (s (d r1 [0,3,4]) .ret))
end NU
def NU:AFn:=⟨1,NU.c,[.tmp 2],false⟩
structure fl (L:Lib):Prop extends lf L,bq L where
 NQ:L 369=some F.NQ
 NU:L 370=some F.NU
end Go.e8.F

namespace Go.e8.F
open C
namespace I6
def r0:=[o 2 (.a9 (.c .nil))]
def r1:=[m 3 0,o 4 (.call 171 [3]),m 0 4]
def r2:=[m 5 0,o 6 (.len 5),o 7 (.bin .eql 6 (k 0))]
def r3:=[o 2 (.a9 (.c .nil))]
def r4:=[m 8 0,o 9 (.call 124 [(k 1)]),m 10 0,m 11 0,o 12 (.len 11),o 13 (.bin .sub 12 (k 1)),o 14 (.a5 none 3 10 13),o 15 (.ld true 3 14),
 o 16 (.call 276 [9,15]),o 17 (.call 194 [8,16]),m 2 17]
def c:=(s (d r0 [2]) (s (d r1 [3,4]) (s (s (d r2 [5,6]) (i 7 (s (d r3 [0,7]) .ret) .skip)) (s (e r4 [0,7,8,9,10,11,12,13,14,15,16,17]) .ret))))
end I6
def I6:AFn:=⟨1,I6.c,[.tmp 2],false⟩
namespace MU
def r0:=[o 4 (.a9 (.c .nil)),o 5 (.a9 (.c .nil)),o 6 (.a9 (k 0))]
def r1:=[m 12 0,o 13 (.call 171 [12]),m 14 1,o 15 (.call 171 [14]),m 0 13,m 1 15]
def r2:=[m 16 1,o 17 (.len 16),o 18 (.bin .eql 17 (k 0))]
def r3:=[o 4 (.a9 (.c .nil)),o 5 (.a9 (.c .nil)),o 6 (.a9 (k 3))]
def r4:=[m 19 0,o 20 (.len 19),m 21 1,o 22 (.len 21),o 23 (.bin .sub 20 22),o 24 (.bin .add 23 (k 1)),o 25 (.mm true [24,(k 0)]),
 o 26 (.mk 26 3 56 [(.bool false),.nil,.nil] 25 25),m 7 26]
def r5:=[m 27 0,o 28 (.len 27),m 29 1,o 30 (.len 29),o 31 (.bin .geq 28 30)]
def r6:=[m 32 0,o 33 (.len 32),m 34 1,o 35 (.len 34),o 36 (.bin .sub 33 35),m 8 36]
def r7:=[m 37 0,m 38 0,o 39 (.len 38),o 40 (.bin .sub 39 (k 1)),o 41 (.a5 none 3 37 40),q 42 [9] (.ld true 3 41),m 43 1,m 44 1,o 45 (.len 44),
 o 46 (.bin .sub 45 (k 1)),o 47 (.a5 none 3 43 46),q 48 [9] (.ld true 3 47),q 49 [9] (.call 276 [42,48]),
 o 9 (.alloc 9 [(.bool false),.nil,.nil]),n (.st 3 9 49)]
def r8:=[m 50 7,m 51 8,o 52 (.ld true 3 9),o 53 (.a5 none 3 50 51),n (.st 3 53 52)]
def r9:=[m 54 0,m 55 0,o 56 (.len 55),o 57 (.bin .sub 56 (k 1)),o 58 (.gp 3 54 none (some 57)),o 59 (.app 59 3 56 (.c .nil) 58),m 10 59]
def BX:=[o 11 (.a9 (k 0))]
def B7:=[m 60 11,m 61 1,o 62 (.len 61),o 63 (.bin .sub 62 (k 1)),o 64 (.bin .lss 60 63)]
def CR:=[m 67 10,m 68 8,m 69 11,o 70 (.bin .add 68 69),m 71 10,m 72 8,m 73 11,o 74 (.bin .add 72 73),o 75 (.a5 none 3 71 74),o 76 (.ld true 3 75),
 o 77 (.ld true 3 9),m 78 1,m 79 11,o 80 (.a5 none 3 78 79),o 81 (.ld true 3 80),o 82 (.call 128 [77,81]),o 83 (.call 153 [76,82]),
 o 84 (.a5 none 3 67 70),n (.st 3 84 83)]
def ah:=[m 65 11,o 66 (.bin .add 65 (k 1)),m 11 66]
def di:=[m 85 10,o 86 (.call 171 [85]),m 0 86]
def dj:=[m 87 7,o 88 (.call 171 [87]),m 89 0,m 4 88,m 5 89,o 6 (.a9 (k 0))]
def l2:=(s (s (d B7 [60,61,62,63]) (i 64 .skip (x 2))) (s (b 3 (e CR [64,67,68,69,70,71,72,73,74,75,76,77,78,79,80,81,82,83,84])) (d ah [65,66])))
def l1:=(s (s (d r5 [27,28,29,30]) (i 31 .skip (x 0))) (b 1 (s (d r6 [31,32,33,34,35,36]) (s (e r7 [37,38,39,40,41,42,43,44,45,46,47,48,49]) (s (d r8 [50,51,52,53]) (s (d r9 [0,54,55,56,57,58,59]) (s (s (p BX) (b 2 (w l2))) (d di [8,9,10,11,64,85,86]))))))))
def c:=(s (d r0 [4,5,6]) (s (d r1 [12,13,14,15]) (s (s (d r2 [16,17]) (i 18 (s (d r3 [0,1,18]) .ret) .skip)) (s (d r4 [18,19,20,21,22,23,24,25,26]) (s (b 0 (w l1)) (s (d dj [0,1,7,31,87,88,89]) .ret))))))
end MU
def MU:AFn:=⟨2,MU.c,[.tmp 4,.tmp 5,.tmp 6],false⟩
namespace MV
def r0:=[o 4 (.a9 (.c .nil))]
def r1:=[m 8 0,o 9 (.call 393 [8]),m 10 1,o 11 (.call 393 [10]),m 0 9,m 1 11]
def r2:=[m 12 1,o 13 (.len 12),o 14 (.bin .gtr 13 (k 0))]
def r3:=[m 16 0,m 17 1,o 18 (.call 394 [16,17]),m 15 18,o 19 (.ext 15 0),o 20 (.ext 15 1),o 21 (.ext 15 2),m 5 19,m 6 20,m 7 21]
def r4:=[m 22 1,m 23 6,o 24 (.call 393 [23]),m 0 22,m 1 24]
def r5:=[m 25 0,m 4 25]
def l1:=(s (s (d r2 [12,13]) (i 14 .skip (x 0))) (b 1 (s (d r3 [0,5,7,14,15,16,17,18,19,20,21]) (d r4 [6,22,23,24]))))
def c:=(s (d r0 [4]) (s (d r1 [8,9,10,11]) (s (b 0 (w l1)) (s (d r5 [0,1,14,25]) .ret))))
end MV
def MV:AFn:=⟨2,MV.c,[.tmp 4],false⟩
structure dp (L:Lib):Prop extends w7 L,iv L where
 I6:L 393=some F.I6
 MU:L 394=some F.MU
 MV:L 395=some F.MV
end Go.e8.F

namespace Go.e8.F
open C
def bU:Nat:=78
def bV:Nat:=111
namespace NN
def r0:=[o 4 (.a9 (.c .nil))]
def r1:=[m 8 0,o 9 (.len 8),o 10 (.mk 396010 1 24 [.nil] 9 9),m 5 10]
def r2:=[m 11 0,o 12 (.len 11),o 13 (.a9 (k 0))]
def r3:=[o 14 (.bin .lss 13 12)]
def r4:=[m 15 13,o 16 (.a5 none 1 11 13),o 17 (.ld false 1 16),m 6 15,m 7 17]
def r5:=[m 18 5,m 19 6,m 20 1,m 21 7,o 22 (.n8 20 [21]),o 23 (.a5 none 1 18 19),n (.st 1 23 22)]
def r6:=[o 24 (.bin .add 13 (k 1)),m 13 24]
def r7:=[m 25 5,m 4 25]
def l1:=(s (p r3) (s (i 14 .skip (x 0)) (s (b 1 (s (d r4 [14,15,16,17]) (d r5 [6,7,18,19,20,21,22,23]))) (d r6 [24]))))
def c:=(s (d r0 [4]) (s (d r1 [8,9,10]) (s (s (d r2 [0]) (b 0 (w l1))) (s (d r7 [1,5,11,12,13,14,25]) .ret))))
end NN
def NN:AFn:=⟨2,NN.c,[.tmp 4],false⟩
namespace NR
def r0:=[o 2 (.a9 (.c .nil))]
def r1:=[m 3 0,o 4 (.e9 396 [3,(.c (.fn true 370 bU []))]),m 2 4]
def c:=(s (d r0 [2]) (s (d r1 [0,3,4]) .ret))
end NR
def NR:AFn:=⟨1,NR.c,[.tmp 2],false⟩
namespace NM
def r0:=[o 2 (.alloc 2 [(.bool false),.nil,.nil])]
def r1:=[m 3 0,o 4 (.a5 none 3 3 (k 0)),o 5 (.ld true 3 4),n (.st 3 2 5)]
def c:=(s (p r0) (s (d r1 [0,3,4,5]) .ret))
end NM
def NM:AFn:=⟨1,NM.c,[.cell 2 true 3],false⟩
namespace H5
def r0:=[o 4 (.a9 (.c (.bool false)))]
def r1:=[m 10 1,o 11 (.u9 11 370 [10]),o 12 (.c9 12 1 [11]),m 5 12]
def r2:=[m 13 5,o 14 (.len 13),m 15 0,o 16 (.len 15),o 17 (.bin .lss 14 16)]
def r3:=[m 19 0,m 20 5,m 21 5,o 22 (.len 21),o 23 (.bin .sub 22 (k 1)),o 24 (.a5 none 1 20 23),o 25 (.ld false 1 24),o 26 (.call 291 [25]),
 o 27 (.call 248 [19,26]),m 18 27,o 28 (.ext 18 0),o 29 (.ext 18 1),m 6 28,m 7 29]
def r4:=[m 30 7,o 31 (.bin .neq 30 (k 0))]
def r5:=[o 4 (.a9 (.c (.bool false)))]
def r6:=[m 32 5,m 33 6,o 34 (.e9 288 [33,(.c (.fn true 398 bV []))]),o 35 (.c9 35 1 [34]),o 36 (.app 800036 1 24 32 35),m 5 36]
def r7:=[m 38 5,o 39 (.call 249 [38]),m 37 39,o 40 (.ext 37 0),o 41 (.ext 37 1),m 8 40,m 9 41]
def r8:=[m 42 9,o 43 (.bin .eql 42 (k 0)),m 44 43,g 45 44 true (.a9 8),g 46 44 true (.a9 0),g 47 44 true (.len 46),g 48 44 true (.bin .eql 45 47),
 o 49 (.pick 44 48 (.c (.bool false))),m 4 49]
def l1:=(s (s (d r2 [13,14,15,16]) (i 17 .skip (x 0))) (b 1 (s (d r3 [17,18,19,20,21,22,23,24,25,26,27,28,29]) (s (s (d r4 [7,30]) (i 31 (s (d r5 [0,5,6,31]) .ret) .skip)) (d r6 [6,31,32,33,34,35,36])))))
def c:=(s (d r0 [4]) (s (d r1 [1,10,11,12]) (s (b 0 (w l1)) (s (d r7 [5,17,37,38,39,40,41]) (s (d r8 [0,8,9,42,43,44,45,46,47,48,49]) .ret)))))
end H5
def H5:AFn:=⟨2,H5.c,[.tmp 4],false⟩
namespace JD
def r0:=[o 1 (.box 1 0),o 2 (.a9 (.c (.bool false))),o 3 (.a9 (k 0))]
def r1:=[o 7 (.ld true 6 1),o 8 (.call 281 [7]),o 9 (.un .not 8)]
def r2:=[o 2 (.a9 (.c (.bool false))),o 3 (.a9 (k 2))]
def r3:=[o 10 (.a6 1 0),o 11 (.ld false 1 10),o 12 (.len 11),o 13 (.bin .eql 12 (k 0))]
def r4:=[o 2 (.a9 (.c (.bool true))),o 3 (.a9 (k 0))]
def r5:=[o 14 (.a6 1 0),o 15 (.ld false 1 14),o 16 (.call 397 [15]),m 4 16]
def r6:=[m 18 4,o 19 (.call 247 [18]),m 17 19,o 20 (.ext 17 0),o 21 (.ext 17 1),m 5 20,m 6 21]
def r7:=[m 22 6,o 23 (.bin .neq 22 (k 0))]
def r8:=[m 24 6,o 2 (.a9 (.c (.bool false))),m 3 24]
def r9:=[m 25 4,o 26 (.a6 1 1),o 27 (.ld false 1 26),o 28 (.call 399 [25,27]),m 29 28,g 30 29 true (.a9 5),g 31 29 true (.a6 1 2),
 g 32 29 true (.ld false 1 31),g 33 29 true (.call 399 [30,32]),o 34 (.pick 29 33 (.c (.bool false))),m 2 34,o 3 (.a9 (k 0))]
def c:=(s (d r0 [0,2,3]) (s (s (d r1 [7,8]) (i 9 (s (d r2 [1,9]) .ret) .skip)) (s (s (d r3 [9,10,11,12]) (i 13 (s (d r4 [1,13]) .ret) .skip)) (s (d r5 [13,14,15,16]) (s (d r6 [17,18,19,20,21]) (s (s (d r7 [22]) (i 23 (s (d r8 [1,4,5,6,23,24]) .ret) .skip)) (s (d r9 [1,4,5,6,23,25,26,27,28,29,30,31,32,33,34]) .ret)))))))
end JD
def JD:AFn:=⟨1,JD.c,[.tmp 2,.tmp 3],false⟩
structure aj (L:Lib):Prop extends ij L,fl L where
 NN:L 396=some F.NN
 NR:L 397=some F.NR
 NM:L 398=some F.NM
 H5:L 399=some F.H5
 JD:L 400=some F.JD
end Go.e8.F

namespace Go.e8.F
open C
namespace GU
def r0:=[o 6 (.a9 (.c (.bool false)))]
def r1:=[m 17 0,m 18 1,o 19 (.call 214 [17,18]),o 7 (.alloc 7 [.nil,.nil]),n (.st 2 7 19)]
def r2:=[o 21 (.ld true 2 7),o 22 (.call 207 [21]),m 20 22,o 23 (.ext 20 0),o 24 (.ext 20 1),o 8 (.alloc 8 [.nil,.nil,.nil,(.bool false),.nil,.nil]),
 n (.st 6 8 23),m 9 24]
def r3:=[o 26 (.ld true 6 8),o 27 (.call 400 [26]),m 25 27,o 28 (.ext 25 0),o 29 (.ext 25 1),m 10 28,m 11 29]
def r4:=[o 30 (.a6 7 0),o 31 (.ld false 1 30),o 32 (.a6 7 1),o 33 (.ld false 1 32),o 34 (.call 395 [31,33]),m 12 34]
def r5:=[q 36 [13] (.ld true 6 8),m 37 2,o 38 (.a6 8 0),q 39 [13] (.ld false 1 38),o 40 (.len 39),q 41 [13] (.call 280 [37,40]),
 q 42 [13] (.call 285 [36,41]),m 35 42,o 43 (.ext 35 0),o 44 (.ext 35 1),o 13 (.alloc 13 [.nil,.nil,.nil,(.bool false),.nil,.nil]),
 n (.st 6 13 43),m 14 44]
def r6:=[m 45 14,o 46 (.bin .eql 45 (k 0))]
def r7:=[o 48 (.ld true 6 13),o 49 (.call 400 [48]),m 47 49,o 50 (.ext 47 0),o 51 (.ext 47 1),m 15 50,m 16 51]
def r8:=[m 52 16,o 53 (.bin .neq 52 (k 0)),m 54 53,g 55 54 false (.a9 15),g 56 54 false (.a9 10),g 57 54 false (.beq true 55 56),
 o 58 (.pick 54 (.c (.bool true)) 57)]
def r9:=[o 6 (.a9 (.c (.bool false)))]
def BX:=[o 59 (.call 215 []),m 60 59,g 61 60 true (.a9 9),g 62 60 true (.bin .eql 61 (k 0)),o 63 (.pick 60 62 (.c (.bool false))),m 64 63,g 65 64 true (.a9 11),
 g 66 64 true (.bin .eql 65 (k 0)),o 67 (.pick 64 66 (.c (.bool false))),m 68 67,g 69 68 true (.a9 10),g 70 68 true (.a9 12),
 g 71 68 true (.call 202 [70]),g 72 68 true (.bin .eql 71 (k 0)),g 73 68 true (.beq false 69 72),o 74 (.pick 68 73 (.c (.bool false))),m 6 74]
def c:=(s (d r0 [6]) (s (d r1 [0,1,17,18,19]) (s (d r2 [20,21,22,23,24]) (s (d r3 [25,26,27,28,29]) (s (d r4 [7,30,31,32,33,34]) (s (e r5 [2,8,35,36,37,38,39,40,41,42,43,44]) (s (s (d r6 [14,45]) (i 46 (s (d r7 [13,46,47,48,49,50,51]) (s (d r8 [15,16,52,53,54,55,56,57]) (i 58 (s (d r9 [9,10,11,12,58]) .ret) .skip))) .skip)) (s (d BX [9,10,11,12,13,46,58,59,60,61,62,63,64,65,66,67,68,69,70,71,72,73,74]) .ret))))))))
end GU
def GU:AFn:=⟨3,GU.c,[.tmp 6],false⟩
structure mu (L:Lib):Prop extends dp L,aj L,bq L,bp L,fm L where
 GU:L 401=some F.GU
end Go.e8.F

namespace Go.e8
def bD:Value->AV->Bool
 | .int k n,.int k' n'=>k == k'&&n == n'
 | .bool b,.bool b'=>b == b'
 | .slice none 0 0,.nil=>true
 | .string s,.da (.string s')=>s.data.toList == s'.data.toList
 | .nilFunc,.da .nilFunc=>true
 | _,_=>false
def PL:List Value->List AV->Bool
 | [],[]=>true
 | v::r,a::l=>bD v a&&PL r l
 | _,_=>false
def gR:Value->AV->Bool
 | .agg cs,.agg l=>PL cs.toList l
 | v,a=>bD v a
def BV:Operand->AR->Bool
 | .tmp t,.t n=>t == n
 | .const v,.c a=>gR v a
 | .func g,.c (.fn _ _ g' [])=>g == g'
 | _,_=>false
def DS:List Operand->List AR->Bool
 | [],[]=>true
 | v::r,a::l=>BV v a&&DS r l
 | _,_=>false
def OO:Option Operand->Option AR->Bool
 | none,none=>true
 | some x,some y=>BV x y
 | _,_=>false
section
variable (P:Program)
def V2 (t:TypeId):Option Bool :=
 match P.underlying t with
 | some (.struct _)=>some true
 | some (.array _ _)=>some true
 | some _=>some false
 | none=>none
def JB (t:TypeId) (n:Nat):Bool:=match P.info? t with|some i=>i.size == n|none=>false
def aH (t:TypeId) (n:Nat):Bool:=match P.info? t with|some i=>i.bytes == n|none=>false
def VS (t:TypeId) (l:List AV):Bool:=match P.info? t with|some i=>(match i.zero with|some z=>PL z.cells.toList l|none=>false)|none=>false
def NH (t:TypeId) (f:TypeId->Bool):Bool:=match P.underlying t with|some (.slice e)=>f e|_=>false
def sR (t:TypeId) (i off n:Nat):Bool:=match P.underlying t with
 | some (.struct fs)=>(match fs[i]? with|some f=>f.offset == off&&JB P f.type n&&n != 0|none=>false)
 | _=>false
def sS (t:TypeId) (i:Nat) (agg:Bool):Bool:=match P.underlying t with
 | some (.struct fs)=>(match fs[i]? with|some f=>V2 P f.type == some agg|none=>false)
 | _=>false
def U6 (place:Nat->Option (Nat × Nat)):List (Nat × Operand)->List (Nat × Nat × AR)->Bool
 | [],[]=>true
 | (i,x)::r,(off,n,y)::l=>place i == some (off,n)&&BV x y&&U6 place r l
 | _,_=>false
def fE (t:TypeId) (ps:List (Nat × Operand)) (eu:List (Nat × Nat × AR)):Bool:=match P.underlying t with
 | some (.struct fs)=>(match fs.toList.mapM (λ f=>(P.info? f.type).map λ i=>(f.offset,i.size)) with|some places=>U6 (places.toArray[·]?) ps eu|none=>false)
 | some (.array _ e)=>(match P.info? e with|some ie=>U6 (λ i=>some (i*ie.size,ie.size)) ps eu|none=>false)
 | _=>false
def TG (k:Nat):List (Nat × Operand)->List AR->Bool
 | [],[]=>true
 | (i,x)::r,y::l=>i == k&&BV x y&&TG (k+1) r l
 | _,_=>false
def BA (num:Nat->Nat) (op:Op):DG->Bool
 | .a9 y=>match op with | .move x=>BV x y | .assign x=>BV x y|_=>false
 | .w9 _ z=>z != 0&&(match op with | .move (.const (.slice none 0 0))=>true | .assign (.const (.slice none 0 0))=>true|_=>false)
 | .pick c' a' b'=>match op with | .pick c a b=>BV c c'&&BV a a'&&BV b b'|_=>false
 | .bin Bp x' y'=>match op with | .binOp op _ x y _=>op == Bp&&BV x x'&&BV y y'|_=>false
 | .beq ne x' y'=>match op with | .binOp op t x y _=>(if ne then op == .neq else op == .eql)&&(match P.underlying t with|some .bool=>true|_=>false)&&BV x x'&&BV y y'|_=>false
 | .un Bp x'=>match op with | .unOp op _ x=>op == Bp&&BV x x'|_=>false
 | .conv k x'=>match op with | .convert s d x=>(P.underlying s).isSome&&(match P.underlying d with|some (.int k')=>k == k'|_=>false)&&BV x x'|_=>false
 | .box _ x'=>match op with | .box _ x=>BV x x'|_=>false
 | .alloc _ z=>match op with | .alloc t=>VS P t z|_=>false
 | .build z eu=>match op with | .build t ps=>VS P t z&&fE P t ps.toList eu|_=>false
 | .c9 _ b9 eu=>match op with
  | .buildSlice t n ps=>NH P t (λ e=>JB P e b9)&&b9 != 0&&n == eu.length&&decide (n*b9<=16777216)&&TG 0 ps.toList eu&&(n == 0||NH P t (λ e=>match P.info? e with|some i=>(match i.zero with|some z=>z.cells.size == b9|none=>false)|none=>false))
  | _=>false
 | .a6 x' off=>match op with
  | .fieldAddr s x f=>BV x x'&&(match P.underlying s with|some (.struct fs)=>(match fs[f]? with|some fd=>fd.offset == off&&(match P.info? fd.type with|some i=>i.size != 0|none=>false)|none=>false)|_=>false)
  | _=>false
 | .ox x' off n agg=>match op with | .field t x f=>BV x x'&&sR P t f off n&&sS P t f agg|_=>false
 | .a5 arr b9 x' i'=>match op with
  | .indexAddr t x i=>BV x x'&&BV i i'&&(match P.underlying t,arr with|some (.array len e),some rz=>len == rz&&JB P e b9&&decide (1<len)|some (.slice e),none=>JB P e b9&&b9 != 0|_,_=>false)
  | _=>false
 | .ld agg n x'=>match op with | .load t x=>BV x x'&&V2 P t == some agg&&(if agg then JB P t n else n == 1)|_=>false
 | .st n x' v'=>match op with | .store t x v=>BV x x'&&BV v v'&&JB P t n|_=>false
 | .mk _ b9 bytes z l' c'=>match op with
  | .makeSlice t l c=>BV l l'&&BV c c'&&NH P t (λ e=>JB P e b9&&aH P e bytes&&VS P e z)&&b9 != 0
  | _=>false
 | .gp b9 x' om q7=>match op with
  | .slice t x lo hi none=>BV x x'&&OO lo om&&OO hi q7&&NH P t (λ e=>JB P e b9)&&b9 != 0
  | _=>false
 | .ext x' i'=>match op with | .extract x i=>BV x x'&&i == i'|_=>false
 | .len x'=>match op with
  | .call ⟨.builtin .len,xs,ts⟩=>(match xs.toList,ts.toList with|[x],[t]=>BV x x'&&NH P t (λ_=>true)|_,_=>false)
  | _=>false
 | .mm max o8=>match op with
  | .call ⟨.builtin .min,xs,_⟩ => !max&&DS xs.toList o8
  | .call ⟨.builtin .max,xs,_⟩=>max&&DS xs.toList o8
  | _=>false
 | .app _ b9 bytes x' y'=>match op with
  | .call ⟨.builtin .append,xs,ts⟩=>(match xs.toList,ts.toList with
   | [x,y],[t,u]=>BV x x'&&BV y y'&&NH P t (λ e=>JB P e b9&&aH P e bytes&&(match P.info? e with|some i=>(match i.zero with|some z=>z.cells.size == b9|none=>false)|none=>false))&&b9 != 0&&NH P u (λ_=>true)
   | _,_=>false)
  | _=>false
 | .call f' o8=>match op with
  | .call ⟨.value (.func f),xs,_⟩=>f == num f'&&DS xs.toList o8
  | _=>false
 | .e9 f' o8=>match op with
  | .call ⟨.value (.func f),xs,_⟩=>f == num f'&&DS xs.toList o8
  | _=>false
 | .cq _ f' o8=>match op with
  | .call ⟨.value (.func f),xs,_⟩=>f == num f'&&DS xs.toList o8
  | _=>false
 | .ry ne x'=>match op with
  | .binOp op t x (.const (.slice none 0 0)) _=>(if ne then op == .neq else op == .eql)&&NH P t (λ_=>true)&&BV x x'
  | _=>false
 | .bad=>true
 | .gn tb i'=>match op with
  | .index t (.const (.string s)) i=>(match P.underlying t with|some .string=>true|_=>false)&&s.data.toList.map (λ b=>b.toNat) == tb&&BV i i'
  | _=>false
 | .qa _ f' o8=>match op with
  | .makeFunc (.func f) first xs=>f == num f'&&first.toList.isEmpty&&DS xs.toList o8
  | _=>false
 | .o0 f' o8=>match op with
  | .call ⟨.value (.func f),xs,_⟩=>f == num f'&&DS xs.toList o8
  | _=>false
 | .u9 _ f' o8=>match op with
  | .call ⟨.value (.func f),xs,_⟩=>f == num f'&&DS xs.toList o8
  | _=>false
 | .nv _ n x' v'=>match op with | .store t x v=>BV x x'&&BV v v'&&JB P t n|_=>false
 | .n8 x' o8=>match op with
  | .call ⟨.value x,xs,_⟩=>BV x x'&&DS xs.toList o8
  | _=>false
def Y1 (ops:Array Oper):Option (Nat × Bool)->Option (Nat × Bool)->Bool
 | none,none=>true
 | some (j,b),some (t,b')=>b == b'&&(match ops[j]? with|some o=>o.dst == some t|none=>false)
 | _,_=>false
def cL (num:Nat->Nat) (N:Nat) (ops:Array Oper) (o:Oper) (a:AI):Bool :=
 o.dst == a.dst&&(match a.dst with|some d=>decide (d<N)|none=>true)&&Y1 ops o.guard a.guard&&BA P num o.op a.op
def P3 (num:Nat->Nat) (N:Nat) (ops:Array Oper):List Oper->List AI->Bool
 | [],[]=>true
 | o::r,a::l=>cL P num N ops o a&&P3 num N ops r l
 | _,_=>false
def GC:DG->Bool
 | .st .. | .app .. | .e9 .. | .n8 .. => true
 | _=>false
def ZE:DG->Bool
 | .ld .. | .call .. | .u9 .. => true
 | _=>false
def JX (a:DG):Bool:=GC a||ZE a||(EG a).isSome
def CT:AR->List Nat
 | .t n=>[n]
 | .c _=>[]
def kJ:Option AR->List Nat
 | some x=>CT x
 | none=>[]
def HF:DG->List Nat
 | .a9 x=>CT x
 | .w9 _ _=>[]
 | .pick c a b=>CT c++CT a++CT b
 | .bin _ x y=>CT x++CT y
 | .beq _ x y=>CT x++CT y
 | .un _ x=>CT x
 | .conv _ x=>CT x
 | .box _ x=>CT x
 | .alloc _ _=>[]
 | .build _ ps=>ps.flatMap (λ p=>CT p.2.2)
 | .c9 _ _ ps=>ps.flatMap CT
 | .a6 x _=>CT x
 | .ox x _ _ _=>CT x
 | .a5 _ _ x i=>CT x++CT i
 | .ld _ _ x=>CT x
 | .st _ x v=>CT x++CT v
 | .mk _ _ _ _ l c=>CT l++CT c
 | .gp _ x lo hi=>CT x++kJ lo++kJ hi
 | .ext x _=>CT x
 | .len x=>CT x
 | .mm _ xs=>xs.flatMap CT
 | .app _ _ _ x y=>CT x++CT y
 | .call _ xs=>xs.flatMap CT
 | .e9 _ xs=>xs.flatMap CT
 | .ry _ x=>CT x
 | .gn _ x=>CT x
 | .qa _ _ xs=>xs.flatMap CT
 | .n8 x xs=>CT x++xs.flatMap CT
 | .o0 _ xs=>xs.flatMap CT
 | .nv _ _ x v=>CT x++CT v
 | .u9 _ _ xs=>xs.flatMap CT
 | .cq _ _ xs=>xs.flatMap CT
 | .bad=>[]
def WT (x:AI):List Nat:=HF x.op++(match x.guard with|some (g,_)=>[g]|none=>[])++x.dst.toList
def HR (b:Array Nat) (i j:Nat):Bool:=(b.getD (max i j) 0).testBit (min i j)
def wI (b:Array Nat) (x:AI) (i:Nat) (y:AI) (j:Nat):Bool :=
 i == j||HR b i j ||
  ((match y.dst with|some t => !(WT x).contains t|none=>true) &&
   (!GC x.op || !JX y.op) &&
   (!ZE x.op||(match EG y.op with|some s=>x.c7.contains s|none=>true)) )
def S6 (ops:Array Oper) (l:List AI):Bool :=
 let b:=Region.before ops
 (l.zipIdx.all λ(x,i)=>l.zipIdx.all λ(y,j)=>wI b x i y j&&(i == j||HR b i j||(match EG x.op,EG y.op with|some s,some s'=>s != s'|_,_=>true))) &&
 (ops.toList.zipIdx.all λ(o,i)=>o.after.all λ e=>decide (e.on<i)||(match e.ground with | .gcOnly _=>true|_=>false)) &&
 (!Region.departs ops||(List.range ops.size).all (λ i=>(Region.linearise .gc ops 0).contains i))
def EK (num:Nat->Nat) (N:Nat):Code->A9->Bool
 | c,.dr a _ _=>EK num N c a
 | c',.skip=>match c' with | .skip=>true | .label _=>true|_=>false
 | c',.scope a=>match c' with | .scope c=>EK num N c a|_=>false
 | c',.ops l qi=>match c' with | .region _ ops draw=>draw == qi&&P3 P num N ops ops.toList l&&(!draw||S6 ops l)|_=>false
 | c',.seq a' b'=>match c' with | .seq a b=>EK num N a a'&&EK num N b b'|_=>false
 | c',.cond x' a' b'=>match c' with | .cond x a b=>BV x x'&&EK num N a a'&&EK num N b b'|_=>false
 | c',.block i' a=>match c' with | .block i c=>i == i'&&EK num N c a|_=>false
 | c',.loop a=>match c' with | .loop c=>EK num N c a|_=>false
 | c',.exit i'=>match c' with | .exit i=>i == i'|_=>false
 | c',.ret=>match c' with | .ret=>true|_=>false
def LN:List ResultVar->List IO->Bool
 | [],[]=>true
 | .tmp t::r,.tmp t'::l=>t == t'&&LN r l
 | .cell a t::r,.cell a' agg n::l=>a == a'&&V2 P t == some agg&&(if agg then JB P t n else n == 1)&&LN r l
 | _,_=>false
def okFn (num:Nat->Nat) (fn:Func) (a:AFn):Bool :=
 fn.params.size+fn.nfree == a.bm&&decide (a.bm<=fn.ntmps)&&LN P fn.results.toList a.res&&(match fn.body with|some c=>EK P num fn.ntmps c a.body|none=>false)
end
end Go.e8

namespace Go.e8
abbrev BB:Nat:=4294967296
@[irreducible] def D7 (a b : Nat) : Nat := (a + 18446744073709551616 - b) % 18446744073709551616
theorem VQ (a b:Nat):D7 a b=(a+18446744073709551616-b)%18446744073709551616:=by unfold D7;rfl
def val:List Nat->Nat
 | []=>0
 | d::l=>d+4294967296*val l
def AY (l:List Nat):Prop := ∀ d∈l,d<4294967296
def dg (n:Nat):List Nat:=if h:n=0 then [] else n%4294967296::dg (n/4294967296)
termination_by n
decreasing_by omega
theorem EN:dg 0=[]:=by rw[dg];simp
theorem IC {n:Nat} (h:n≠0):dg n=n%4294967296::dg (n/4294967296):=by rw[dg];simp [h]
theorem H8:val []=0:=rfl
theorem P9 (d:Nat) (l:List Nat):val (d::l)=d+4294967296*val l:=rfl
theorem BN (n:Nat):val (dg n)=n:=by
 induction n using Nat.strongRecOn with
 | ind n ih =>
  by_cases h:n=0
  ·subst h;rw[EN];rfl
  ·rw[IC h,P9,ih _ (by omega)]
   omega
theorem DI (n:Nat):AY (dg n):=by
 induction n using Nat.strongRecOn with
 | ind n ih =>
  by_cases h:n=0
  ·subst h;rw[EN];intro d hd;cases hd
  ·rw[IC h]
   intro d hd;rcases List.mem_cons.1 hd with rfl|hd
   ·omega
   ·exact ih _ (by omega) d hd
theorem AY.tail {d:Nat} {l:List Nat} (h:AY (d::l)):AY l:=λ x hx=>h x (List.mem_cons_of_mem _ hx)
theorem AY.head {d:Nat} {l:List Nat} (h:AY (d::l)):d<4294967296:=h d List.mem_cons_self
theorem AY.at {l:List Nat} (h:AY l) {i d:Nat} (hd:l[i]? = some d):d<4294967296:=h d (zM hd)
theorem AY.take {l:List Nat} (h:AY l) (n:Nat):AY (l.take n):=λ x hx=>h x (List.mem_of_mem_take hx)
theorem AY.drop {l:List Nat} (h:AY l) (n:Nat):AY (l.drop n):=λ x hx=>h x (List.mem_of_mem_drop hx)
theorem WB:AY []:=λ_ h=>by cases h
theorem AY.append {a b:List Nat} (h:AY a) (h':AY b):AY (a++b):=λ x hx=>(List.mem_append.1 hx).elim (h x) (h' x)
theorem GS {d:Nat} (h:d<4294967296):AY [d]:=λ x hx=>by simp at hx;omega
theorem AY.set {l:List Nat} (h:AY l) (i:Nat) {d:Nat} (hd:d<4294967296):AY (l.set i d):=λ x hx=>by
 rcases List.mem_or_eq_of_mem_set hx with h1|h1
 ·exact h x h1
 ·omega
theorem ID (n:Nat):AY (List.replicate n 0):=λ x hx=>by rw[(List.mem_replicate.1 hx).2];omega
theorem XM (a b:List Nat):val (a++b)=val a+4294967296^a.length*val b:=by
 induction a with
 | nil=>simp [val]
 | cons d l ih=>rw[List.cons_append,P9,P9,ih,List.length_cons,Nat.pow_succ];grind
theorem NY (l:List Nat) (v:Nat):val (l++[v])=val l+4294967296^l.length*v:=by
 rw[XM];simp [val]
theorem EQ {l:List Nat} (h:AY l):val l<4294967296^l.length:=by
 induction l with
 | nil=>simp [val]
 | cons d l ih =>
  have h1:=ih h.tail;have h2:=h.head;rw[P9,List.length_cons,Nat.pow_succ];omega
theorem DK {l:List Nat} {i v:Nat} (h:l[i]? = some v):val (l.take (i+1))=val (l.take i)+4294967296^i*v:=by
 have hi:=(zS h).1;rw[List.take_add_one,h,Option.toList_some,NY,List.length_take,Nat.min_eq_left (by omega)]
theorem JH (l:List Nat) (i:Nat) (h:i<=l.length):val l=val (l.take i)+4294967296^i*val (l.drop i):=by
 have:=XM (l.take i) (l.drop i)
 rw[List.take_append_drop,List.length_take,Nat.min_eq_left h]at this;exact this
theorem dT (n:Nat):val (List.replicate n 0)=0:=by
 induction n with
 | zero=>rfl
 | succ n ih=>rw[List.replicate_succ,P9,ih]
theorem Vu {l:List Nat} (h:AY l) (ht:l=[] \/ ∃ d,l[l.length-1]? = some d/\d≠0):dg (val l)=l:=by
 induction l with
 | nil=>exact EN
 | cons d l ih =>
  have h1:=h.head;by_cases hl:l=[]
  ·subst hl
   rcases ht with ht|⟨x,hx,mq⟩
   ·cases ht
   ·simp at hx
    subst hx;rw[P9,H8,IC (by omega),show (d+4294967296*0)/4294967296=0 by omega,EN,show (d+4294967296*0)%4294967296=d by omega]
  ·have oe : ∃ x,l[l.length-1]? = some x/\x≠0:=by
    rcases ht with ht|⟨x,hx,mq⟩
    ·cases ht
    ·refine ⟨x,?_,mq⟩
     have:l.length≠0:=λ e=>hl (List.eq_nil_of_length_eq_zero e)
     rw[List.length_cons,show l.length+1-1=(l.length-1)+1 by omega,List.getElem?_cons_succ]at hx;exact hx
   have Mb:=ih h.tail (Or.inr oe);have Ku:val l≠0:=by
    intro e;rw[e,EN]at Mb;exact hl Mb.symm
   rw[P9,IC (by omega),show (d+4294967296*val l)/4294967296=val l by omega,Mb,show (d+4294967296*val l)%4294967296=d by omega]
theorem FQ {l:List Nat} (h:AY l) {n:Nat} (hn:n<=l.length) (hz : ∀ i,n<=i->i<l.length->l[i]? = some 0) (ht:n=0 \/ ∃ d,l[n-1]? = some d/\d≠0):l.take n=dg (val l):=by
 have hv:val l=val (l.take n):=by
  have h0:l.drop n=List.replicate (l.length-n) 0:=by
   apply List.ext_getElem?;intro i;rw[List.getElem?_drop,List.getElem?_replicate];by_cases hi:n+i<l.length
   ·rw[hz (n+i) (by omega) hi,if_pos (by omega)]
   ·rw[List.getElem?_eq_none (by omega),if_neg (by omega)]
  rw[JH l n hn,h0,dT];omega
 rw[hv];refine (Vu (h.take n) ?_).symm;rcases ht with rfl|⟨d,hd,Cm⟩
 ·exact Or.inl (by simp)
 ·have m9:=(zS hd).1
  by_cases wg:n=0
  ·subst wg;exact Or.inl (by simp)
  ·refine Or.inr ⟨d,?_,Cm⟩
   rw[List.length_take,Nat.min_eq_left hn,List.getElem?_take,if_pos (by omega)];exact hd
theorem OL {n k:Nat}:(dg n).length<=k↔n<4294967296^k:=by
 induction k generalizing n with
 | zero =>
  by_cases h:n=0
  ·subst h;simp [EN]
  ·rw[IC h];simp;omega
 | succ k ih =>
  by_cases h:n=0
  ·subst h;simp [EN];exact Nat.pos_of_ne_zero (by simp)
  ·rw[IC h,List.length_cons,Nat.succ_le_succ_iff,ih,Nat.pow_succ]
   rw[Nat.div_lt_iff_lt_mul (by omega)]
theorem EI {l:List Nat} (h:AY l):(dg (val l)).length<=l.length:=OL.2 (EQ h)
theorem gE {n:Nat} (h:n≠0) : ∃ d,(dg n)[(dg n).length-1]? = some d/\d≠0:=by
 induction n using Nat.strongRecOn with
 | ind n ih =>
  rw[IC h];by_cases h2:n/4294967296=0
  ·rw[h2,EN]
   exact ⟨n%4294967296,by simp,by omega⟩
  ·obtain ⟨d,hd,Cm⟩:=ih _ (by omega) h2
   refine ⟨d,?_,Cm⟩;have hl:(dg (n/4294967296)).length≠0:=λ e=>by rw[List.eq_nil_of_length_eq_zero e]at hd;simp at hd
   rw[List.length_cons,show (dg (n/4294967296)).length+1-1=(dg (n/4294967296)).length-1+1 by omega,List.getElem?_cons_succ];exact hd
theorem gC {n:Nat}:dg n=[]↔n=0:=by
 constructor
 ·intro h
  by_cases h0:n=0
  ·exact h0
  ·rw[IC h0]at h;cases h
 ·rintro rfl;exact EN
theorem YE {n:Nat} (h:n≠0):1<=(dg n).length:=by rw[IC h];simp
theorem AhV {o:List Nat} {i v:Nat} (h:i<o.length):(o.set i v).take (i+1)=o.take i++[v]:=by
 rw[List.take_add_one,List.getElem?_set_self h,List.take_set_of_le (Nat.le_refl i)];rfl
theorem FK {o:List Nat} {i v:Nat} (h:i<o.length):val ((o.set i v).take (i+1))=val (o.take i)+4294967296^i*v:=by
 rw[AhV h,NY,List.length_take,Nat.min_eq_left (by omega)]
theorem PJ (V p t:Nat):V+p*(t%4294967296)+p*4294967296*(t/4294967296)=V+p*t:=by
 have h:=Nat.mod_add_div t 4294967296;have:p*(t%4294967296)+p*4294967296*(t/4294967296)=p*t:=by
  rw[Nat.mul_assoc,<-Nat.mul_add,h]
 omega
theorem CW {l:List Nat} {n:Nat} (h:l.length<=n):val (l.take n)=val l:=by rw[zT h]
theorem wO (i:Nat):1<=4294967296^i:=Nat.pos_of_ne_zero (by simp)
theorem GM {l:List Nat} {i d:Nat} (h:l[i]? = some d):val (l.drop i)=d+4294967296*val (l.drop (i+1)):=by
 obtain ⟨hi,rfl⟩:=zS h;rw[List.drop_eq_getElem_cons hi,P9]
theorem dN {a b:List Nat} (ha:AY a) (hb:AY b) (hl:a.length=b.length) {i:Nat} {x y:Nat} (hx:a[i]? = some x) (hy:b[i]? = some y) (he:a.drop (i+1)=b.drop (i+1)) (h:x<y):val a<val b:=by
 have hia:=(zS hx).1;have hib:=(zS hy).1;rw[JH a i (by omega),JH b i (by omega),GM hx,GM hy,he];have h1:=EQ (ha.take i);rw[List.length_take,Nat.min_eq_left (by omega)]at h1;generalize val (b.drop (i+1))=r;generalize 4294967296^i=p at *;have:p*(x+4294967296*r)+p<=p*(y+4294967296*r):=by
  rw[<-Nat.mul_succ];exact Nat.mul_le_mul_left p (by omega)
 omega
theorem dP {o:List Nat} {k v old:Nat} (h:o[k]? = some old):val (o.set k v)+4294967296^k*old=val o+4294967296^k*v:=by
 have hk:=(zS h).1;have h1:val (o.set k v)=val (o.take k)+4294967296^k*(v+4294967296*val (o.drop (k+1))):=by
  rw[JH (o.set k v) k (by simp;omega),List.take_set_of_le (Nat.le_refl k),GM (l:=o.set k v) (d:=v) (by rw[List.getElem?_set_self hk]),List.drop_set_of_lt (by omega)]
 have h2:val o=val (o.take k)+4294967296^k*(old+4294967296*val (o.drop (k+1))):=by
  rw[JH o k (by omega),GM h]
 rw[h1,h2,Nat.mul_add,Nat.mul_add];omega
theorem ZO {l:List Nat} (h:AY l):l.take (dg (val l)).length=dg (val l):=by
 induction l with
 | nil=>rw[H8,EN];rfl
 | cons d l ih =>
  have h1:=h.head;by_cases h0:val (d::l)=0
  ·rw[h0,EN];rfl
  ·rw[IC h0,P9,show (d+4294967296*val l)/4294967296=val l by omega,show (d+4294967296*val l)%4294967296=d by omega,List.length_cons,List.take_succ_cons,ih h.tail]
theorem XN {a b:Nat} (h:(dg a).length<(dg b).length):a<b:=by
 have h1:a<4294967296^(dg a).length:=OL.1 (Nat.le_refl _);have h2 : ¬ b<4294967296^((dg b).length-1):=λ h3=>by have:=OL.2 h3;omega
 have h3:4294967296^(dg a).length<=4294967296^((dg b).length-1):=Nat.pow_le_pow_right (by omega) (by omega);omega
def dY (a b c d:Int):Prop:=(0<=a/\b<=0/\c<=0/\0<=d)\/(a<=0/\0<=b/\0<=c/\d<=0)
structure RP (P Q a b c d p q:Int):Prop where
 hp:p=a*P+b*Q
 hq:q=c*P+d*Q
 sg:dY a b c d
 pa:0<=p+a
 pb:0<=p+b
 qc:0<=q+c
 qd:0<=q+d
theorem RP.start {P Q:Int} (hP:0<=P) (hQ:0<=Q):RP P Q 1 0 0 1 P Q :=
 ⟨by omega,by omega,Or.inl (by omega),by omega,by omega,by omega,by omega⟩
def XV (P Q a b c d:Int):Prop := ∀ x y K e1 e2:Int,0<K->x=K*P+e1->y=K*Q+e2->0<=e1->e1<=K->0<=e2->e2<=K ->
 0<=c*x+d*y/\c*x+d*y<a*x+b*y/\a*x+b*y<=y/\Int.gcd (a*x+b*y) (c*x+d*y)=Int.gcd x y
def VZ (P Q a b c d:Int):Prop := ∀ x y K e1 e2:Int,0<K->x=K*P+e1->y=K*Q+e2->0<=e1->e1<=K->0<=e2->e2<=K ->
 c*x+d*y<=y/\Int.gcd (a*x+b*y) (c*x+d*y)=Int.gcd x y
theorem VZ.start (P Q:Int):VZ P Q 1 0 0 1:=by
 intro x y K e1 e2 _ _ _ _ _ _ _;simp
theorem XV.half {P Q a b c d:Int} (h:XV P Q a b c d):VZ P Q a b c d:=λ x y K e1 e2 h1 h2 h3 h4 h5 h6 h7=>by
 obtain ⟨g1,g2,g3,g4⟩:=h x y K e1 e2 h1 h2 h3 h4 h5 h6 h7;exact ⟨by omega,g4⟩
theorem AeS (X Y f:Int):Int.gcd Y (X-f*Y)=Int.gcd X Y:=by
 rw[Int.gcd_comm X Y];exact Int.gcd_sub_mul_right_right Y X f
theorem RP.step {P Q a b c d p q f:Int} (h:RP P Q a b c d p q) (hc:q+c≠0) (hd:q+d≠0) (h1:f=(p+a)/(q+c)) (h2:f=(p+b)/(q+d)) :
  RP P Q c d (a-f*c) (b-f*d) q (p-f*q)/\0<=f/\p-f*q<q/\(VZ P Q a b c d->XV P Q c d (a-f*c) (b-f*d)):=by
 have c0:0<q+c:=by have:=h.qc;omega
 have d0:0<q+d:=by have:=h.qd;omega
 have f0:0<=f:=by rw[h1];exact Int.ediv_nonneg h.pa h.qc
 have m1:p-f*q+(a-f*c)=(p+a)%(q+c):=by
  have:=Int.emod_add_mul_ediv (p+a) (q+c)
  rw[<-h1]at this;grind
 have m2:p-f*q+(b-f*d)=(p+b)%(q+d):=by
  have:=Int.emod_add_mul_ediv (p+b) (q+d)
  rw[<-h2]at this;grind
 have n1:0<=p-f*q+(a-f*c):=by rw[m1];exact Int.emod_nonneg _ hc
 have n2:0<=p-f*q+(b-f*d):=by rw[m2];exact Int.emod_nonneg _ hd
 have n3:p-f*q+(a-f*c)<q+c:=by rw[m1];exact Int.emod_lt_of_pos _ c0
 have n4:p-f*q+(b-f*d)<q+d:=by rw[m2];exact Int.emod_lt_of_pos _ d0
 have Cs:p-f*q=(a-f*c)*P+(b-f*d)*Q:=by rw[h.hp,h.hq];grind
 have rn:dY c d (a-f*c) (b-f*d):=by
  rcases h.sg with ⟨s1,s2,s3,s4⟩|⟨s1,s2,s3,s4⟩
  ·have t1:f*c<=0:=Int.mul_nonpos_of_nonneg_of_nonpos f0 s3
   have t2:0<=f*d:=Int.mul_nonneg f0 s4;exact Or.inr (by omega)
  ·have t1:0<=f*c:=Int.mul_nonneg f0 s3
   have t2:f*d<=0:=Int.mul_nonpos_of_nonneg_of_nonpos f0 s4;exact Or.inl (by omega)
 have m9:p-f*q<q:=by
  rcases rn with ⟨s1,s2,s3,s4⟩|⟨s1,s2,s3,s4⟩
  ·omega
  ·omega
 refine ⟨⟨h.hq,Cs,rn,h.qc,h.qd,n1,n2⟩,f0,m9,λ hh => ?_⟩;intro x y K e1 e2 hK hx hy a1 a2 b1 b2;obtain ⟨k1,k2⟩:=hh x y K e1 e2 hK hx hy a1 a2 b1 b2;have eY:c*x+d*y=K*q+c*e1+d*e2:=by rw[hx,hy,h.hq];grind
 have eX:(a-f*c)*x+(b-f*d)*y=K*(p-f*q)+(a-f*c)*e1+(b-f*d)*e2:=by rw[hx,hy,Cs];grind
 have eS:(a-f*c)*x+(b-f*d)*y=(a*x+b*y)-f*(c*x+d*y):=by grind
 generalize hE:a-f*c=E at *;generalize hG:b-f*d=G at *;generalize Ct:p-f*q=q2 at *;have key:0<=E*x+G*y/\E*x+G*y<c*x+d*y:=by
  rw[eX,eY];rcases rn with ⟨s1,s2,s3,s4⟩|⟨s1,s2,s3,s4⟩
  ·-- c≥0,d<=0,E<=0,G≥0
   have t1:E*K<=E*e1:=Int.mul_le_mul_of_nonpos_left s3 a2;have t2:0<=G*e2:=Int.mul_nonneg s4 b1;have t3:0<=K*(q2+E):=Int.mul_nonneg (by omega) n1;have t4:(G-d)*e2<=(G-d)*K:=Int.mul_le_mul_of_nonneg_left b2 (by omega);have t5:(E-c)*e1<=0:=Int.mul_nonpos_of_nonpos_of_nonneg (by omega) a1;have t6:0<K*((q+d)-(q2+G)):=Int.mul_pos hK (by omega);constructor
   ·grind
   ·grind
  ·have t1:G*K<=G*e2:=Int.mul_le_mul_of_nonpos_left s4 b2
   have t2:0<=E*e1:=Int.mul_nonneg s3 a1;have t3:0<=K*(q2+G):=Int.mul_nonneg (by omega) n2;have t4:(E-c)*e1<=(E-c)*K:=Int.mul_le_mul_of_nonneg_left a2 (by omega);have t5:(G-d)*e2<=0:=Int.mul_nonpos_of_nonpos_of_nonneg (by omega) b1;have t6:0<K*((q+c)-(q2+E)):=Int.mul_pos hK (by omega);constructor
   ·grind
   ·grind
 refine ⟨key.1,key.2,k1,?_⟩;rw[<-k2,eS];exact AeS _ _ _
end Go.e8

namespace Go.e8
section
variable {U V UL VL p u0 u1 u2 v1 v2 top q r:Nat}
theorem Zw (hU:U=UL+p*(u2+4294967296*top)) (hV:V=VL+p*(v2+4294967296*v1)) (hl:UL<p) (h2:u2<4294967296) (bh:0<V):U/V*v1<=top:=by
 have h1:U/V*V<=U:=Nat.div_mul_le_self U V;generalize U/V=Q at *;have h3:U<p*(4294967296*(top+1)):=by
  have:p*(u2+4294967296*top)+p<=p*(4294967296*(top+1)):=by
   rw[<-Nat.mul_succ];exact Nat.mul_le_mul_left p (by omega)
  omega
 have h4:p*(4294967296*(Q*v1))<=Q*V:=by
  have e:Q*V=Q*VL+Q*(p*v2)+p*(4294967296*(Q*v1)):=by rw[hV];grind
  omega
 have h5:p*(4294967296*(Q*v1))<p*(4294967296*(top+1)):=by omega
 have:=Nat.lt_of_mul_lt_mul_left h5
 omega
theorem AeZ (hU:U=UL+p*(u2+4294967296*top)) (hV:V=VL+p*(v2+4294967296*v1)) (hl:UL<p) (hq:q*v1+r=top) (h:r*4294967296+u2<q*v2) (bh:0<V):U/V<q:=by
 rw[Nat.div_lt_iff_lt_mul bh];have e:q*V=q*VL+p*(q*v2+4294967296*(q*v1)):=by rw[hV];grind
 have h1:p*(u2+4294967296*top)+p<=p*(q*v2+4294967296*(q*v1)):=by
  rw[<-Nat.mul_succ];exact Nat.mul_le_mul_left p (by omega)
 omega
theorem AeY (h:U<4294967296*V) (hq:4294967296<=q) (bh:0<V):U/V<q:=by
 have:U/V<4294967296:=(Nat.div_lt_iff_lt_mul bh).2 h
 omega
theorem tJ (hU:U=UL+p*(u2+4294967296*top)) (hV:V=VL+p*(v2+4294967296*v1)) (Ak:VL<p) (h1:2147483648<=v1) (hq:q*v1+r=top) (h:q*v2<=r*4294967296+u2) (hqB:q<4294967296):q<=U/V+1:=by
 have bh:0<V:=by
  have:p*4294967296<=p*(v2+4294967296*v1):=Nat.mul_le_mul_left p (by omega)
  omega
 by_cases h0:q=0
 ·subst h0;exact Nat.zero_le _
 have e:q*V=q*VL+p*(q*v2+4294967296*(q*v1)):=by rw[hV];grind
 have h2:p*(q*v2+4294967296*(q*v1))<=p*(u2+4294967296*top):=Nat.mul_le_mul_left p (by omega);have h3:q*VL<V:=by
  have a1:q*VL<=4294967296*VL:=zR _ (by omega);have a2:p*4294967296<=p*(v2+4294967296*v1):=Nat.mul_le_mul_left p (by omega);omega
 have h4:(q-1)*V<U+1:=by
  have:(q-1)*V+V=q*V:=by
   have:q=q-1+1:=by omega
   rw[<-Nat.succ_mul,Nat.succ_eq_add_one,<-this]
  omega
 have h5:q-1<=U/V:=(Nat.le_div_iff_mul_le bh).2 (by omega);omega
end
theorem qA {U V U' q:Nat} (bh:0<V) (h1:U/V<=q) (h:U'+q*V=U):q=U/V/\U'=U%V:=by
 have h2:q*V<=U:=by omega
 have h3:q<=U/V:=(Nat.le_div_iff_mul_le bh).2 h2;have h4:q=U/V:=by omega
 have:=Nat.div_add_mod U V
 rw[Nat.mul_comm,<-h4]at this;exact ⟨h4,by omega⟩
theorem pZ {U V U' q P:Nat} (bh:0<V) (h2:q<=U/V+1) (Ci:U'<P) (h:U'+q*V=U+P):q-1=U/V/\1<=q/\U'+V=U%V+P:=by
 have h3:U/V*V<=U:=Nat.div_mul_le_self U V;have h4:U/V<q:=by
  rcases Nat.lt_or_ge (U/V) q with h|h
  ·exact h
  ·have:q*V<=U/V*V:=zR _ h
   omega
 have h6:=Nat.div_add_mod U V;rw[Nat.mul_comm]at h6;generalize U/V=Q at *;generalize U%V=R at *;obtain rfl:q=Q+1:=by omega
 rw[Nat.add_mul,Nat.one_mul]at h;exact ⟨by omega,by omega,by omega⟩
theorem dM {u pl bw:Nat} (hu:u<4294967296) (hp:pl<4294967296) (hb:bw<=1):D7 (D7 u pl) bw%4294967296+pl+bw=u+4294967296*(D7 (D7 u pl) bw/9223372036854775808)/\D7 (D7 u pl) bw/9223372036854775808<=1:=by
 rw[VQ,VQ];omega
theorem Ail {d e bw:Nat} (hu:d<4294967296) (hp:e<4294967296) (hb:bw<=1):D7 (D7 d bw) e%4294967296+e+bw=d+4294967296*(D7 (D7 d bw) e/9223372036854775808)/\D7 (D7 d bw) e/9223372036854775808<=1:=by
 rw[VQ,VQ];omega
theorem Aik {d bw:Nat} (hu:d<4294967296) (hb:bw<=1):D7 d bw%4294967296+bw=d+4294967296*(D7 d bw/9223372036854775808)/\D7 d bw/9223372036854775808<=1:=by
 rw[VQ];omega
theorem yR {V Y X p D e bw df d:Nat} (h:V+Y=X+p*bw) (hd:D+e+bw=d+4294967296*df):V+p*D+(Y+p*e)=X+p*d+p*4294967296*df:=by
 have h2:p*D+p*e+p*bw=p*d+p*4294967296*df:=by
  rw[<-Nat.mul_add,<-Nat.mul_add,hd,Nat.mul_add,Nat.mul_assoc]
 omega
theorem W2 {a b:Nat} (ha:a<4294967296) (hb:b<4294967296):a*b<=18446744065119617025 :=
 Nat.mul_le_mul (show a<=4294967295 by omega) (show b<=4294967295 by omega)
theorem qC {X Y s:Nat} (hs:0<s):X*s/(Y*s)=X/Y/\X*s%(Y*s)/s=X%Y:=by
 refine ⟨Nat.mul_div_mul_right X Y hs,?_⟩;rw[Nat.mul_mod_mul_right,Nat.mul_div_cancel _ hs]
end Go.e8

namespace Go.e8
@[irreducible] def P5 (d s : Nat) : Nat := d * 2 ^ s % 4294967296
@[irreducible] def VF (d s : Nat) : Nat := d * 2 ^ s / 4294967296
theorem lE (d s:Nat):P5 d s=d*2^s%4294967296:=by unfold P5;rfl
theorem VG (d s:Nat):VF d s=d*2^s/4294967296:=by unfold VF;rfl
theorem RD {s:Nat} (hs:s<=32):4294967296=2^s*2^(32-s):=by
 rw[<-Nat.pow_add,show s+(32-s)=32 by omega]
theorem AhX (d s:Nat):P5 d s+4294967296*VF d s=d*2^s:=by
 rw[lE,VG];exact Nat.mod_add_div _ _
theorem xO {d s:Nat} (hs:s<=32):P5 d s=2^s*(d%2^(32-s)):=by
 rw[lE,RD hs,Nat.mul_comm d,Nat.mul_mod_mul_left]
theorem xN {d s:Nat} (hs:s<=32):VF d s=d/2^(32-s):=by
 rw[VG,RD hs,Nat.mul_comm d,Nat.mul_div_mul_left _ _ (Nat.two_pow_pos s)]
theorem VH {d s:Nat} (hd:d<4294967296) (hs:s<=32):P5 d s%2^s=0/\VF d s<2^s/\P5 d s+2^s<=4294967296/\d*2^s<=18446744073709551615:=by
 refine ⟨by rw[xO hs,Nat.mul_mod_right],?_,?_,?_⟩
 ·rw[xN hs,Nat.div_lt_iff_lt_mul (Nat.two_pow_pos _),<-Nat.pow_add,show s+(32-s)=32 by omega];exact hd
 ·rw[xO hs]
  have h1:d%2^(32-s)+1<=2^(32-s):=Nat.mod_lt _ (Nat.two_pow_pos _);have h2:=Nat.mul_le_mul_left (2^s) h1;rw[Nat.mul_add,Nat.mul_one,<-RD hs]at h2;exact h2
 ·have h1:2^s<=2^32:=Nat.pow_le_pow_right (by omega) hs
  have h2:d*2^s<=4294967295*4294967296:=Nat.mul_le_mul (by omega) h1;omega
theorem Y6 {s:Nat} (hs:s<=32):2^s<=4294967296:=(Nat.pow_le_pow_right (by omega) hs:2^s<=2^32)
theorem uS {V X p lo s d:Nat} (h:V+p*lo=X*2^s):V+p*(P5 d s+lo)+p*4294967296*VF d s=(X+p*d)*2^s:=by
 have h1:=AhX d s;have h2:p*(P5 d s+lo)+p*4294967296*VF d s=p*lo+p*(d*2^s):=by
  rw[<-h1];grind
 rw[Nat.add_mul,<-h,Nat.mul_assoc p d];omega
theorem jO {d V s:Nat} (hs:s<=32):(d+4294967296*V)/2^s=d/2^s+V%2^s*2^(32-s)+4294967296*(V/2^s):=by
 have e:4294967296*V=2^s*(2^(32-s)*V):=by rw[<-Nat.mul_assoc,<-RD hs]
 rw[e,Nat.add_mul_div_left _ _ (Nat.two_pow_pos s)];have h:=Nat.mod_add_div V (2^s);have h2:2^(32-s)*V=V%2^s*2^(32-s)+4294967296*(V/2^s):=by
  have h3:2^(32-s)*V=2^(32-s)*(V%2^s+2^s*(V/2^s)):=by rw[h]
  rw[h3,RD hs];grind
 omega
theorem uY {d V s:Nat} (hs:s<=32):(d+4294967296*V)%2^s=d%2^s:=by
 have e:4294967296*V=2^s*(2^(32-s)*V):=by rw[<-Nat.mul_assoc,<-RD hs]
 rw[e,Nat.add_mul_mod_self_left]
theorem Af9 {d s:Nat} (hs:s<=32):d*2^(32-s)%4294967296=d%2^s*2^(32-s):=by
 have e:4294967296=2^s*2^(32-s):=RD hs;rw[e,Nat.mul_mod_mul_right]
theorem uX {d V s:Nat} (hd:d<4294967296) (hs:s<=32):d/2^s<2^(32-s)/\V%2^s*2^(32-s)%2^(32-s)=0/\V%2^s*2^(32-s)+2^(32-s)<=4294967296:=by
 refine ⟨?_,Nat.mul_mod_left _ _,?_⟩
 ·rw[Nat.div_lt_iff_lt_mul (Nat.two_pow_pos _),<-Nat.pow_add,show 32-s+s=32 by omega];exact hd
 ·have h1:V%2^s+1<=2^s:=Nat.mod_lt _ (Nat.two_pow_pos _)
  have h2:=zR (2^(32-s)) h1;rw[Nat.add_mul,Nat.one_mul,<-RD hs]at h2;exact h2
def o9 (x:Nat):Nat:=if x=0 then 0 else x.log2+1
theorem oA {x:Nat} (h:x≠0):2^(o9 x-1)<=x/\x<2^o9 x/\1<=o9 x:=by
 unfold o9;rw[if_neg h];exact ⟨Nat.log2_self_le h,Nat.lt_log2_self,by omega⟩
theorem aF {x k:Nat} (h:x<2^k):o9 x<=k:=by
 by_cases h0:x=0
 ·subst h0;unfold o9;simp
 ·obtain ⟨h1,_,h3⟩:=oA h0
  have h2:2^(o9 x-1)<2^k:=by omega
  have:=(Nat.pow_lt_pow_iff_right (by omega)).1 h2
  omega
theorem X4 {x:Nat} (n:Nat) (h:2^n<=x):o9 (x/2^n)+n=o9 x:=by
 have hp:=Nat.two_pow_pos n;have hx:x≠0:=by omega
 have hq:x/2^n≠0:=by have:=Nat.div_pos h hp;omega
 unfold o9;rw[if_neg hx,if_neg hq];have:(x/2^n).log2+n=x.log2:=by
  symm
  rw[Nat.log2_eq_iff hx];have h1:=Nat.log2_self_le hq;have h2:x/2^n<2^((x/2^n).log2+1):=Nat.lt_log2_self;rw[Nat.le_div_iff_mul_le hp,<-Nat.pow_add]at h1;rw[Nat.div_lt_iff_lt_mul hp,<-Nat.pow_add]at h2;exact ⟨h1,by rw[show (x/2^n).log2+n+1=(x/2^n).log2+1+n by omega];exact h2⟩
 omega
theorem jP {x:Nat} (h0:x≠0) (hx:x<4294967296):o9 x<=32/\1<=o9 x/\2147483648<=x*2^(32-o9 x)/\x*2^(32-o9 x)<4294967296:=by
 obtain ⟨h1,h2,h3⟩:=oA h0;have hk:o9 x<=32:=aF (k:=32) hx;refine ⟨hk,h3,?_,?_⟩
 ·have:=zR (2^(32-o9 x)) h1
  rw[<-Nat.pow_add,show o9 x-1+(32-o9 x)=31 by omega]at this;exact this
 ·have:=Nat.mul_lt_mul_of_pos_right h2 (Nat.two_pow_pos (32-o9 x))
  rw[<-Nat.pow_add,show o9 x+(32-o9 x)=32 by omega]at this;exact this
end Go.e8









namespace Go.e8
open Go.RowKit
theorem GQ (b o n:Nat):(⟨b,o,none⟩:Addr).add n=⟨b,o+n,none⟩:=by
 unfold Addr.add;split<;>simp_all
inductive Rd (w:World) (R:Bool->Nat->Prop):AV->Value->Prop
 | int (k:IntKind) (n:Int):Rd w R (.int k n) (.int k n)
 | bool (b:Bool):Rd w R (.bool b) (.bool b)
 | str (s:ByteArray):Rd w R (.da (.string s)) (.string s)
 | mb:Rd w R (.da .nilFunc) .nilFunc
 | jl (l:Bool) (a:Option Addr) (cap:Nat):Rd w R (.sl l []) (.slice a 0 cap)
 | emp (b:Bool) (a:Option Addr) (cap:Nat) (h:a.isNone=b):Rd w R (.da (.bool b)) (.slice a 0 cap)
 | sl (l:Bool) (es:List (List AV)) (b o b9 cap:Nat) (u:Nat->Nat->Value) (m8:es≠[]) (hp:0<b9) (hR:R l b) (br:es.length<=cap) (hz : ∀ e∈es,e.length=b9)
   (hc : ∀ i e,es[i]? = some e -> ∀ j c,e[j]? = some c->w.cell? ⟨b,o+(i*b9+j),none⟩=some (u i j))
   (hr : ∀ i e,es[i]? = some e -> ∀ j c,e[j]? = some c->Rd w R c (u i j)) :
   Rd w R (.sl l es) (.slice (some ⟨b,o,none⟩) es.length cap)
theorem Rd.one {w:World} {R:Bool->Nat->Prop} {a:AV} {v:Value} (h:Rd w R a v):v.oneCell'=true:=by
 cases h<;>rfl
theorem SK {w:World} {a:Addr} {u:Value} (h:w.cell? a=some u):a.block<w.heap.size:=by
 unfold World.cell? at h;split at h
 ·rename_i hh
  exact (Array.getElem?_eq_some_iff.1 hh).1
 ·cases h
theorem YS {es:List (List AV)} {b9:Nat} (m8:es≠[]) (hp:0<b9) (hz : ∀ e∈es,e.length=b9) : ∃ e c,es[0]? = some e/\e[0]? = some c:=by
 cases es with
 | nil=>exact absurd rfl m8
 | cons e r =>
  have:=hz e (by simp)
  cases e with
  | nil=>simp at this;omega
  | cons c q=>exact ⟨c::q,c,rfl,rfl⟩
theorem Rd.mono {w w':World} {R R':Bool->Nat->Prop} (hR : ∀ l b,b<w.heap.size->R l b->R' l b)
  (hw : ∀ l b,b<w.heap.size->R l b->w'.heap[b]? = w.heap[b]?) {a:AV} {v:Value} (h:Rd w R a v):Rd w' R' a v:=by
 induction h with
 | int k n=>exact .int k n
 | bool b=>exact .bool b
 | str s=>exact .str s
 | mb=>exact .mb
 | jl l a cap=>exact .jl l a cap
 | emp b a cap h=>exact .emp b a cap h
 | sl l es b o b9 cap u m8 hp h1 br hz hc hr ih =>
  obtain ⟨e,c,he,fp⟩:=YS m8 hp hz;have hb:b<w.heap.size:=SK (hc 0 e he 0 c fp);refine .sl l es b o b9 cap u m8 hp (hR l b hb h1) br hz (λ i e he j c zd => ?_) ih;rw[World.cell?_of_block (w:=w) (hw l b hb h1)];exact hc i e he j c zd
structure M where
 ν:Nat->Nat->Option Nat
 own:AH
 w:World
section
variable (B:Nat) (S:Nat->Prop)
def safe (m:M) (l:Bool) (b:Nat):Prop :=
 (S b/\b<B)\/(B<=b /\ ∀ s t,(m.own.get s t).isSome=true->m.ν s t≠some b)\/(l=true/\b<B)
inductive CC (m:M):AV->Value->Prop
 | rd {a:AV} {v:Value} (h:Rd m.w (safe B S m) a v):CC m a v
 | nil:CC m .nil (.slice none 0 0)
 | row (s t z off len:Nat) (a:Option Addr) (cap:Nat) (ht:t<m.own.g8 s) (er:0<z) (oc:len<=cap) (ha:0<len->a.isSome=true)
   (h : ∀ b,m.own.get s t=some b->b.b9=z/\((len=0/\cap=0) \/ ∃ g arr e,m.ν s t=some g/\a=some ⟨g,off*z,none⟩/\m.w.heap[g]? = some (.cells arr e (0,0))/\(off+cap)*z<=arr.size)) :
   CC m (.row s t z off len) (.slice a len cap)
 | ptr (s t i j:Nat) (a:Addr) (ht:t<m.own.g8 s) (h : ∀ b,m.own.get s t=some b -> ∃ g,m.ν s t=some g/\a=⟨g,i*b.b9+j,none⟩):CC m (.ptr s t i j) (.pointer (some a))
 | u6 (cs:List AV) (b o:Nat) (u:Nat->Value) (l:Bool) (hR:cs≠[]->safe B S m l b) (hc : ∀ j c,cs[j]? = some c->m.w.cell? ⟨b,o+j,none⟩=some (u j)) (hr : ∀ j c,cs[j]? = some c->Rd m.w (safe B S m) c (u j)) :
   CC m (.u6 cs) (.pointer (some ⟨b,o,none⟩))
def CL (m:M) (cs:List AV) (vs:List Value):Prop:=cs.length=vs.length /\ ∀ (j:Nat) (c:AV) (v:Value),cs[j]? = some c->vs[j]? = some v->CC B S m c v
inductive CA (m:M):AV->Value->Prop
 | one {a:AV} {v:Value} (h:CC B S m a v):CA m a v
 | agg (cs:List AV) (vs:List Value) (h:CL B S m cs vs):CA m (.agg cs) (.agg vs.toArray)
 | fn (p:Bool) (f g:Nat) (cs:List AV) (vs:List Value) (hp:p=true->cs=[]) (h:CL B S m cs vs):CA m (.fn p f g cs) (.func (.func g) #[] vs.toArray)
 | tk (f g:Nat) (cs:List AV) (vs:List Value) (hp:cs≠[]) (h:CL B S m cs vs):CA m (.fn true f g cs) (.func (.func g) #[.agg vs.toArray] #[])
inductive CV (m:M):AV->Value->Prop
 | any (v:Value):CV m .any v
 | ca {a:AV} {v:Value} (h:CA B S m a v):CV m a v
 | l6 (as:List AV) (vs:List Value) (hl:as.length=vs.length) (h : ∀ (j:Nat) (c:AV) (v:Value),as[j]? = some c->vs[j]? = some v->CA B S m c v):CV m (.l6 as) (.tuple vs.toArray)
def Rf (m:M) (s t:Nat) (b:DM):Prop :=
 (∀ e∈b.es,e.length=b.b9)/\match m.ν s t with
  | none=>b.es=[]
  | some g=>B<=g /\ ∃ arr e,m.w.heap[g]? = some (.cells arr e (0,0)) /\
    ∀ i cs,b.es[i]? = some cs -> ∀ j c,cs[j]? = some c -> ∃ u,arr[i*b.b9+j]? = some u/\CC B S m c u
structure BL (w0:World) (m:M):Prop where
 below:Below B w0 m.w
 size:B<=m.w.heap.size
 fresh : ∀ s t,m.own.g8 s<=t->m.own.get s t=none
 e7 : ∀ s t b,m.own.get s t=some b->Rf B S m s t b
 inj : ∀ s t s' t' b b' g,m.own.get s t=some b->m.own.get s' t'=some b'->m.ν s t=some g->m.ν s' t'=some g->s=s'/\t=t'
structure C1 (m m':M):Prop where
 size:m.w.heap.size<=m'.w.heap.size
 vi : ∀ b,b<m.w.heap.size->safe B S m true b->m'.w.heap[b]? = m.w.heap[b]?
 Ab : ∀ l b,b<m.w.heap.size->safe B S m l b->safe B S m' l b
 g8 : ∀ s,m.own.g8 s<=m'.own.g8 s
 name : ∀ s t b',t<m.own.g8 s->m'.own.get s t=some b' -> ∃ b,m.own.get s t=some b/\b'.b9=b.b9/\m'.ν s t=m.ν s t /\
   ∀ g arr e,m.ν s t=some g->m.w.heap[g]? = some (.cells arr e (0,0)) -> ∃ v9,m'.w.heap[g]? = some (.cells v9 e (0,0))/\v9.size=arr.size
end
section
variable {B:Nat} {S:Nat->Prop}
theorem kW {m:M} {l:Bool} {b:Nat} (h:safe B S m l b):safe B S m true b:=by
 rcases h with h|h|⟨_,h⟩
 ·exact .inl h
 ·exact .inr (.inl h)
 ·exact .inr (.inr ⟨rfl,h⟩)
theorem C1.rd {m m':M} (h:C1 B S m m') {a:AV} {v:Value} (hr:Rd m.w (safe B S m) a v):Rd m'.w (safe B S m') a v :=
 hr.mono h.Ab (λ_ b hb hs=>h.vi b hb (kW hs))
theorem C1.cc {m m':M} (h:C1 B S m m') {a:AV} {v:Value} (hc:CC B S m a v):CC B S m' a v:=by
 cases hc with
 | rd hr=>exact .rd (h.rd hr)
 | nil=>exact .nil
 | row s t z off len a cap ht er oc ha hb =>
  refine .row s t z off len a cap (Nat.lt_of_lt_of_le ht (h.g8 s)) er oc ha λ b' m7 => ?_
  obtain ⟨b,h1,h2,h3,h4⟩:=h.name s t b' ht m7;obtain ⟨hz,fi⟩:=hb b h1;refine ⟨h2.trans hz,?_⟩;rcases fi with h0|⟨g,arr,e,hg,lg,hh,hle⟩
  ·exact .inl h0
  ·obtain ⟨v9,Is,zm⟩:=h4 g arr e hg hh
   exact .inr ⟨g,v9,e,h3.trans hg,lg,Is,zm ▸ hle⟩
 | ptr s t i j a ht hb =>
  refine .ptr s t i j a (Nat.lt_of_lt_of_le ht (h.g8 s)) λ b' m7 => ?_
  obtain ⟨b,h1,h2,h3,_⟩:=h.name s t b' ht m7;obtain ⟨g,hg,lg⟩:=hb b h1;exact ⟨g,h3.trans hg,h2 ▸ lg⟩
 | u6 cs b o u l hR hc hr =>
  have m9:cs≠[]->b<m.w.heap.size:=λ m8=>by
   cases cs with
   | nil=>exact absurd rfl m8
   | cons c r=>exact SK (hc 0 c rfl)
  refine .u6 cs b o u l (λ m8=>h.Ab l b (m9 m8) (hR m8)) (λ j c hj => ?_) (λ j c hj=>h.rd (hr j c hj));have m8:cs≠[]:=λ e=>by subst e;simp at hj
  rw[World.cell?_of_block (w:=m.w) (h.vi b (m9 m8) (kW (hR m8)))];exact hc j c hj
theorem C1.cl {m m':M} (h:C1 B S m m') {cs:List AV} {vs:List Value} (hc:CL B S m cs vs):CL B S m' cs vs :=
 ⟨hc.1,λ j c v h1 h2=>h.cc (hc.2 j c v h1 h2)⟩
theorem C1.ca {m m':M} (h:C1 B S m m') {a:AV} {v:Value} (hc:CA B S m a v):CA B S m' a v:=by
 cases hc with
 | one hc=>exact .one (h.cc hc)
 | agg cs vs hc=>exact .agg cs vs (h.cl hc)
 | fn p f g cs vs hp hc=>exact .fn p f g cs vs hp (h.cl hc)
 | tk f g cs vs hp hc=>exact .tk f g cs vs hp (h.cl hc)
theorem C1.cv {m m':M} (h:C1 B S m m') {a:AV} {v:Value} (hc:CV B S m a v):CV B S m' a v:=by
 cases hc with
 | any v=>exact .any v
 | ca hc=>exact .ca (h.ca hc)
 | l6 as vs hl hc=>exact .l6 as vs hl λ j c v h1 h2=>h.ca (hc j c v h1 h2)
theorem C1.refl (m:M):C1 B S m m :=
 ⟨Nat.le_refl _,λ_ _ _=>rfl,λ_ _ _ h=>h,λ_=>Nat.le_refl _,λ_ _ b' _ h=>⟨b',h,rfl,rfl,λ_ arr _ _ h=>⟨arr,h,rfl⟩⟩⟩
theorem C1.trans {m m' Pj:M} (h:C1 B S m m') (k:C1 B S m' Pj):C1 B S m Pj where
 size:=Nat.le_trans h.size k.size
 vi b hb hs:=(k.vi b (Nat.lt_of_lt_of_le hb h.size) (h.Ab true b hb hs)).trans (h.vi b hb hs)
 Ab l b hb hs:=k.Ab l b (Nat.lt_of_lt_of_le hb h.size) (h.Ab l b hb hs)
 g8 s:=Nat.le_trans (h.g8 s) (k.g8 s)
 name s t b'' ht Jf:=by
  obtain ⟨b',h1,h2,h3,h4⟩:=k.name s t b'' (Nat.lt_of_lt_of_le ht (h.g8 s)) Jf;obtain ⟨b,g1,g2,g3,g4⟩:=h.name s t b' ht h1;refine ⟨b,g1,h2.trans g2,h3.trans g3,λ g arr e hg ha => ?_⟩;obtain ⟨v9,Is,zm⟩:=g4 g arr e hg ha;obtain ⟨De,Iu,Lf⟩:=h4 g v9 e (g3.trans hg) Is;exact ⟨De,Iu,Lf.trans zm⟩
theorem CC.one {m:M} {a:AV} {v:Value} (h:CC B S m a v):v.oneCell'=true:=by
 cases h with
 | rd h=>exact h.one
 | _=>rfl
end
end Go.e8

namespace Go.e8
open Go.RowKit
section
variable {B:Nat} {S:Nat->Prop} {w0:World}
def live (m:M) (s t:Nat):Prop := ∃ b,m.own.get s t=some b
theorem BL.ge {m:M} (h:BL B S w0 m) {s t g:Nat} (hl:live m s t) (hg:m.ν s t=some g):B<=g /\ ∃ arr e,m.w.heap[g]? = some (.cells arr e (0,0)):=by
 obtain ⟨b,hb⟩:=hl;obtain ⟨_,h2⟩:=h.e7 s t b hb;rw[hg]at h2;obtain ⟨h3,arr,e,h4,_⟩:=h2;exact ⟨h3,arr,e,h4⟩
theorem T5 {m m':M} (hm:BL B S w0 m) (hs:m.w.heap.size<=m'.w.heap.size)
  (hk : ∀ b,b<m.w.heap.size->(∀ s t,live m s t->m.ν s t≠some b)->m'.w.heap[b]? = m.w.heap[b]?) (Aq : ∀ s,m.own.g8 s<=m'.own.g8 s)
  (Fb : ∀ s t b',t<m.own.g8 s->m'.own.get s t=some b' -> ∃ b,m.own.get s t=some b/\b'.b9=b.b9/\m'.ν s t=m.ν s t /\
   ∀ g arr e,m.ν s t=some g->m.w.heap[g]? = some (.cells arr e (0,0)) -> ∃ v9,m'.w.heap[g]? = some (.cells v9 e (0,0))/\v9.size=arr.size)
  (ln : ∀ s t g,live m' s t->m'.ν s t=some g->g<m.w.heap.size -> ∃ s0 t0,live m s0 t0/\m.ν s0 t0=some g):C1 B S m m':=by
 have Cq : ∀ b,safe B S m true b -> ∀ s t,live m s t->m.ν s t≠some b:=by
  intro b hb s t hl hg;have nh:=(hm.ge hl hg).1;rcases hb with ⟨_,h⟩|⟨_,h⟩|⟨_,h⟩
  ·omega
  ·obtain ⟨b',m7⟩:=hl
   exact h s t (by simp [m7]) hg
  ·omega
 refine ⟨hs,λ b hb uw=>hk b hb (Cq b uw),λ l b hb uw => ?_,Aq,Fb⟩;rcases uw with h|⟨h,hn⟩|h
 ·exact .inl h
 ·refine .inr (.inl ⟨h,λ s t hl hg => ?_⟩)
  obtain ⟨b',m7⟩:=Option.isSome_iff_exists.1 hl;obtain ⟨s0,t0,⟨b0,vq⟩,Ax⟩:=ln s t b ⟨b',m7⟩ hg hb;exact hn s0 t0 (by simp [vq]) Ax
 ·exact .inr (.inr h)
theorem grow {m:M} (hm:BL B S w0 m) {w':World} (hb:Below m.w.heap.size m.w w') :
  BL B S w0 ⟨m.ν,m.own,w'⟩/\C1 B S m ⟨m.ν,m.own,w'⟩:=by
 have he:C1 B S m ⟨m.ν,m.own,w'⟩:=by
  refine T5 hm hb.size (λ b m7 _=>hb.block b m7) (λ_=>Nat.le_refl _) (λ s t b' _ m7=>⟨b',m7,rfl,rfl,λ g arr e hg ha=>⟨arr,?_,rfl⟩⟩) (λ s t g hl hg _=>⟨s,t,hl,hg⟩);have:g<m.w.heap.size:=(Array.getElem?_eq_some_iff.1 ha).1
  exact (hb.block g this).trans ha
 refine ⟨⟨hm.below.trans (hb.mono hm.size),Nat.le_trans hm.size hb.size,hm.fresh,λ s t b hg => ?_,hm.inj⟩,he⟩;obtain ⟨h1,h2⟩:=hm.e7 s t b hg;refine ⟨h1,?_⟩;show match m.ν s t with|none=>_|some g=>_
 cases hν:m.ν s t with
 | none=>rw[hν]at h2;exact h2
 | some g =>
  rw[hν]at h2;obtain ⟨h3,arr,e,h4,h5⟩:=h2;refine ⟨h3,arr,e,?_,λ i cs hi j c hj => ?_⟩
  ·exact (hb.block g (Array.getElem?_eq_some_iff.1 h4).1).trans h4
  ·obtain ⟨u,hu,w4⟩:=h5 i cs hi j c hj
   exact ⟨u,hu,he.cc w4⟩
theorem FO (o:AH) (s s' t':Nat) (b:DM):(o.put s ((o s).new b)).get s' t'=if s'=s/\t'=o.g8 s then some b else o.get s' t':=by
 unfold AH.get AH.put B1.new AH.g8;by_cases h:s'=s
 ·subst h
  by_cases h2:t'=(o s').g8<;>simp [h2]
 ·simp [h]
theorem KF (o:AH) (s s':Nat) (b:DM):(o.put s ((o s).new b)).g8 s'=if s'=s then o.g8 s+1 else o.g8 s':=by
 unfold AH.g8 AH.put B1.new;by_cases h:s'=s<;>simp [h]
theorem YV (o:AH) (s t s' t':Nat) (b:Option DM):(o.put s ((o s).q8 t b)).get s' t'=if s'=s/\t'=t then b else o.get s' t':=by
 unfold AH.get AH.put B1.q8;by_cases h:s'=s
 ·subst h
  by_cases h2:t'=t<;>simp [h2]
 ·simp [h]
theorem pF (o:AH) (s t s':Nat) (b:Option DM):(o.put s ((o s).q8 t b)).g8 s'=o.g8 s':=by
 unfold AH.g8 AH.put B1.q8;by_cases h:s'=s<;>simp [h]
def l7 (m:M) (s:Nat) (g:Option Nat):Nat->Nat->Option Nat:=λ s' t'=>if s'=s/\t'=m.own.g8 s then g else m.ν s' t'
theorem cI {m:M} (hm:BL B S w0 m) (s:Nat) : ¬ live m s (m.own.g8 s):=λ⟨b,hb⟩=>by
 rw[hm.fresh s _ (Nat.le_refl _)]at hb;cases hb
theorem eL {m:M} (hm:BL B S w0 m) (s:Nat) (b:DM) (arr:Array Value) (e:TypeId) (hz : ∀ x∈b.es,x.length=b.b9)
  (hc : ∀ i cs,b.es[i]? = some cs -> ∀ j c,cs[j]? = some c -> ∃ u,arr[i*b.b9+j]? = some u/\CC B S m c u) :
  BL B S w0 ⟨l7 m s (some m.w.heap.size),m.own.put s ((m.own s).new b),m.w.alloc (.cells arr e)⟩ /\
  C1 B S m ⟨l7 m s (some m.w.heap.size),m.own.put s ((m.own s).new b),m.w.alloc (.cells arr e)⟩:=by
 have w6:(m.w.alloc (.cells arr e)).heap.size=m.w.heap.size+1:=by simp
 have hν : ∀ s' t',live m s' t'->l7 m s (some m.w.heap.size) s' t'=m.ν s' t':=λ s' t' hl=>by
  unfold l7;rw[if_neg];rintro ⟨rfl,rfl⟩
  exact cI hm _ hl
 have he:C1 B S m ⟨l7 m s (some m.w.heap.size),m.own.put s ((m.own s).new b),m.w.alloc (.cells arr e)⟩:=by
  refine T5 hm (by rw[w6];omega) (λ k hk _=>Below.heap_alloc _ _ _ hk) (λ s' => ?_) (λ s' t' b' ht m7 => ?_) (λ s' t' g hl hg m9 => ?_)
  ·rw[KF];split
   ·rename_i h;subst h;omega
   ·exact Nat.le_refl _
  ·rw[FO]at m7
   rw[if_neg (by rintro ⟨rfl,rfl⟩;omega)]at m7;refine ⟨b',m7,rfl,hν s' t' ⟨b',m7⟩,λ g ar e' hg ha=>⟨ar,?_,rfl⟩⟩;exact (Below.heap_alloc _ _ _ (Array.getElem?_eq_some_iff.1 ha).1).trans ha
  ·obtain ⟨b',m7⟩:=hl
   have u7:=m7;rw[FO]at m7;by_cases h:s'=s/\t'=m.own.g8 s
   ·simp only[l7,if_pos h,Option.some.injEq]at hg
    omega
   ·rw[if_neg h]at m7
    exact ⟨s',t',⟨b',m7⟩,by rw[<-hν s' t' ⟨b',m7⟩];exact hg⟩
 refine ⟨⟨hm.below.alloc hm.size _,by rw[w6];have:=hm.size;omega,λ s' t' ht => ?_,λ s' t' b' m7 => ?_,λ s1 t1 s2 t2 b1 b2 g h1 h2 g1 g2 => ?_⟩,he⟩
 ·rw[KF]at ht
  rw[FO,if_neg]
  ·refine hm.fresh s' t' ?_
   split at ht
   ·rename_i h;subst h;omega
   ·exact ht
  ·rintro ⟨rfl,rfl⟩
   simp at ht;omega
 ·rw[FO]at m7
  by_cases h:s'=s/\t'=m.own.g8 s
  ·rw[if_pos h]at m7
   obtain rfl:b=b':=by simpa using m7
   refine ⟨hz,?_⟩;show match l7 m s (some m.w.heap.size) s' t' with|none=>_|some g=>_
   rw[show l7 m s (some m.w.heap.size) s' t'=some m.w.heap.size by simp [l7,h]];refine ⟨hm.size,arr,e,heap_alloc_new _ _,λ i cs hi j c hj => ?_⟩;obtain ⟨u,hu,w4⟩:=hc i cs hi j c hj;exact ⟨u,hu,he.cc w4⟩
  ·rw[if_neg h]at m7
   obtain ⟨h1,h2⟩:=hm.e7 s' t' b' m7;refine ⟨h1,?_⟩;show match l7 m s (some m.w.heap.size) s' t' with|none=>_|some g=>_
   rw[hν s' t' ⟨b',m7⟩];cases hv:m.ν s' t' with
   | none=>rw[hv]at h2;exact h2
   | some g =>
    rw[hv]at h2;obtain ⟨h3,ar,e',h4,h5⟩:=h2;refine ⟨h3,ar,e',(Below.heap_alloc _ _ _ (Array.getElem?_eq_some_iff.1 h4).1).trans h4,λ i cs hi j c hj => ?_⟩;obtain ⟨u,hu,w4⟩:=h5 i cs hi j c hj;exact ⟨u,hu,he.cc w4⟩
 ·rw[FO]at h1 h2
  have lt : ∀ s' t' b',m.own.get s' t'=some b'->l7 m s (some m.w.heap.size) s' t'=some g->g<m.w.heap.size:=λ s' t' b' hb hg=>by
   rw[hν s' t' ⟨b',hb⟩]at hg;obtain ⟨_,ar,e',h4⟩:=hm.ge ⟨b',hb⟩ hg;exact (Array.getElem?_eq_some_iff.1 h4).1
  have at_ : ∀ s' t',s'=s/\t'=m.own.g8 s->l7 m s (some m.w.heap.size) s' t'=some g->g=m.w.heap.size:=λ s' t' h hg=>by
   simp only[l7,if_pos h,Option.some.injEq]at hg;exact hg.symm
  by_cases p1:s1=s/\t1=m.own.g8 s<;>by_cases p2:s2=s/\t2=m.own.g8 s
  ·exact ⟨p1.1.trans p2.1.symm,p1.2.trans p2.2.symm⟩
  ·rw[if_neg p2]at h2
   have:=lt s2 t2 b2 h2 g2
   have:=at_ s1 t1 p1 g1
   omega
  ·rw[if_neg p1]at h1
   have:=lt s1 t1 b1 h1 g1
   have:=at_ s2 t2 p2 g2
   omega
  ·rw[if_neg p1]at h1
   rw[if_neg p2]at h2;exact hm.inj s1 t1 s2 t2 b1 b2 g h1 h2 (by rw[<-hν s1 t1 ⟨b1,h1⟩];exact g1) (by rw[<-hν s2 t2 ⟨b2,h2⟩];exact g2)
theorem zV {m:M} (hm:BL B S w0 m) (s b9:Nat) :
  BL B S w0 ⟨l7 m s none,m.own.put s ((m.own s).new ⟨b9,[]⟩),m.w⟩/\C1 B S m ⟨l7 m s none,m.own.put s ((m.own s).new ⟨b9,[]⟩),m.w⟩:=by
 have hν : ∀ s' t',live m s' t'->l7 m s none s' t'=m.ν s' t':=λ s' t' hl=>by
  unfold l7;rw[if_neg];rintro ⟨rfl,rfl⟩
  exact cI hm _ hl
 have he:C1 B S m ⟨l7 m s none,m.own.put s ((m.own s).new ⟨b9,[]⟩),m.w⟩:=by
  refine T5 hm (Nat.le_refl _) (λ k hk _=>rfl) (λ s' => ?_) (λ s' t' b' ht m7 => ?_) (λ s' t' g hl hg m9 => ?_)
  ·rw[KF];split
   ·rename_i h;subst h;omega
   ·exact Nat.le_refl _
  ·rw[FO]at m7
   rw[if_neg (by rintro ⟨rfl,rfl⟩;omega)]at m7;exact ⟨b',m7,rfl,hν s' t' ⟨b',m7⟩,λ g ar e' hg ha=>⟨ar,ha,rfl⟩⟩
  ·obtain ⟨b',m7⟩:=hl
   rw[FO]at m7;by_cases h:s'=s/\t'=m.own.g8 s
   ·simp [l7,if_pos h]at hg
   ·rw[if_neg h]at m7
    exact ⟨s',t',⟨b',m7⟩,by rw[<-hν s' t' ⟨b',m7⟩];exact hg⟩
 refine ⟨⟨hm.below,hm.size,λ s' t' ht => ?_,λ s' t' b' m7 => ?_,λ s1 t1 s2 t2 b1 b2 g h1 h2 g1 g2 => ?_⟩,he⟩
 ·rw[KF]at ht
  rw[FO,if_neg]
  ·refine hm.fresh s' t' ?_
   split at ht
   ·rename_i h;subst h;omega
   ·exact ht
  ·rintro ⟨rfl,rfl⟩
   simp at ht;omega
 ·rw[FO]at m7
  by_cases h:s'=s/\t'=m.own.g8 s
  ·rw[if_pos h]at m7
   obtain rfl:(⟨b9,[]⟩:DM)=b':=by simpa using m7
   refine ⟨by simp,?_⟩;show match l7 m s none s' t' with|none=>_|some g=>_
   rw[show l7 m s none s' t'=none by simp [l7,h]]
  ·rw[if_neg h]at m7
   obtain ⟨h1,h2⟩:=hm.e7 s' t' b' m7;refine ⟨h1,?_⟩;show match l7 m s none s' t' with|none=>_|some g=>_
   rw[hν s' t' ⟨b',m7⟩];cases hv:m.ν s' t' with
   | none=>rw[hv]at h2;exact h2
   | some g =>
    rw[hv]at h2;obtain ⟨h3,ar,e',h4,h5⟩:=h2;refine ⟨h3,ar,e',h4,λ i cs hi j c hj => ?_⟩;obtain ⟨u,hu,w4⟩:=h5 i cs hi j c hj;exact ⟨u,hu,he.cc w4⟩
 ·rw[FO]at h1 h2
  by_cases p1:s1=s/\t1=m.own.g8 s
  ·simp [l7,if_pos p1]at g1
  ·by_cases p2:s2=s/\t2=m.own.g8 s
   ·simp [l7,if_pos p2]at g2
   ·rw[if_neg p1]at h1
    rw[if_neg p2]at h2;exact hm.inj s1 t1 s2 t2 b1 b2 g h1 h2 (by rw[<-hν s1 t1 ⟨b1,h1⟩];exact g1) (by rw[<-hν s2 t2 ⟨b2,h2⟩];exact g2)
theorem AiB {m:M} (hm:BL B S w0 m) (s t:Nat) (b b':DM) (hb:m.own.get s t=some b) (g:Nat) (hg:m.ν s t=some g) (arr v9:Array Value) (e:TypeId)
  (ha:m.w.heap[g]? = some (.cells arr e (0,0))) (hz':b'.b9=b.b9) (hz : ∀ x∈b'.es,x.length=b'.b9) (w6:v9.size=arr.size)
  (hc : ∀ i cs,b'.es[i]? = some cs -> ∀ j c,cs[j]? = some c -> ∃ u,v9[i*b'.b9+j]? = some u/\CC B S m c u) (w':World) (iz:Below B w0 w') (zp:w'.heap.size=m.w.heap.size)
  (hk : ∀ k,k≠g->w'.heap[k]? = m.w.heap[k]?) (Nu:w'.heap[g]? = some (.cells v9 e (0,0))) :
  BL B S w0 ⟨m.ν,m.own.put s ((m.own s).q8 t (some b')),w'⟩/\C1 B S m ⟨m.ν,m.own.put s ((m.own s).q8 t (some b')),w'⟩:=by
 have m9:t<m.own.g8 s:=by
  rcases Nat.lt_or_ge t (m.own.g8 s) with h|h
  ·exact h
  ·rw[hm.fresh s t h]at hb;cases hb
 have he:C1 B S m ⟨m.ν,m.own.put s ((m.own s).q8 t (some b')),w'⟩:=by
  refine T5 hm (by rw[zp];exact Nat.le_refl _) (λ k ik hn=>hk k (λ e=>hn s t ⟨b,hb⟩ (e ▸ hg))) (λ s'=>by rw[pF];exact Nat.le_refl _) (λ s' t' b2 ht u7 => ?_) (λ s' t' g' hl fh _ => ?_)
  ·rw[YV]at u7
   by_cases h:s'=s/\t'=t
   ·obtain ⟨rfl,rfl⟩:=h
    rw[if_pos ⟨rfl,rfl⟩]at u7;obtain rfl:b'=b2:=by simpa using u7
    refine ⟨b,hb,hz',rfl,λ g2 ar e' kn xh => ?_⟩;obtain rfl:g=g2:=by rw[hg]at kn;simpa using kn
    rw[ha]at xh;obtain ⟨rfl,rfl⟩:arr=ar/\e=e':=by simpa using xh
    exact ⟨v9,Nu,w6⟩
   ·rw[if_neg h]at u7
    refine ⟨b2,u7,rfl,rfl,λ g2 ar e' kn xh=>⟨ar,?_,rfl⟩⟩;rw[<-xh];exact hk g2 (λ e2=>h (by
     subst e2;exact hm.inj s' t' s t b2 b g2 u7 hb kn hg))
  ·obtain ⟨b2,u7⟩:=hl
   rw[YV]at u7;by_cases h:s'=s/\t'=t
   ·obtain ⟨rfl,rfl⟩:=h
    exact ⟨s',t',⟨b,hb⟩,fh⟩
   ·rw[if_neg h]at u7
    exact ⟨s',t',⟨b2,u7⟩,fh⟩
 refine ⟨⟨iz,by rw[zp];exact hm.size,λ s' t' ht => ?_,λ s' t' b2 u7 => ?_,λ s1 t1 s2 t2 b1 b2 g1 h1 h2 e1 e2 => ?_⟩,he⟩
 ·rw[pF]at ht
  rw[YV,if_neg (by rintro ⟨rfl,rfl⟩;omega)];exact hm.fresh s' t' ht
 ·rw[YV]at u7
  by_cases h:s'=s/\t'=t
  ·obtain ⟨rfl,rfl⟩:=h
   rw[if_pos ⟨rfl,rfl⟩]at u7;obtain rfl:b'=b2:=by simpa using u7
   refine ⟨hz,?_⟩;show match m.ν s' t' with|none=>_|some g=>_
   rw[hg];refine ⟨(hm.ge ⟨b,hb⟩ hg).1,v9,e,Nu,λ i cs hi j c hj => ?_⟩;obtain ⟨u,hu,w4⟩:=hc i cs hi j c hj;exact ⟨u,hu,he.cc w4⟩
  ·rw[if_neg h]at u7
   obtain ⟨h1,h2⟩:=hm.e7 s' t' b2 u7;refine ⟨h1,?_⟩;show match m.ν s' t' with|none=>_|some g=>_
   cases hv:m.ν s' t' with
   | none=>rw[hv]at h2;exact h2
   | some g2 =>
    rw[hv]at h2;obtain ⟨h3,ar,e',h4,h5⟩:=h2;refine ⟨h3,ar,e',?_,λ i cs hi j c hj => ?_⟩
    ·rw[<-h4]
     exact hk g2 (λ e2=>h (by
      subst e2;exact hm.inj s' t' s t b2 b g2 u7 hb hv hg))
    ·obtain ⟨u,hu,w4⟩:=h5 i cs hi j c hj
     exact ⟨u,hu,he.cc w4⟩
 ·have old : ∀ s' t' b2,(m.own.put s ((m.own s).q8 t (some b'))).get s' t'=some b2 -> ∃ b3,m.own.get s' t'=some b3:=λ s' t' b2 h=>by
   rw[YV]at h;by_cases h':s'=s/\t'=t
   ·obtain ⟨rfl,rfl⟩:=h';exact ⟨b,hb⟩
   ·rw[if_neg h']at h;exact ⟨b2,h⟩
  obtain ⟨c1,k1⟩:=old s1 t1 b1 h1;obtain ⟨c2,k2⟩:=old s2 t2 b2 h2;exact hm.inj s1 t1 s2 t2 c1 c2 g1 k1 k2 e1 e2
theorem UJ (o:AH) (s t s' t':Nat) (b:DM):(o.put s (((o s).q8 t none).new b)).get s' t'=if s'=s/\t'=o.g8 s then some b else if s'=s/\t'=t then none else o.get s' t':=by
 unfold AH.get AH.put B1.new B1.q8 AH.g8;by_cases h:s'=s
 ·subst h
  by_cases h2:t'=(o s').g8<;>by_cases h3:t'=t<;>simp [h2,h3]
 ·simp [h]
theorem aP (o:AH) (s t s':Nat) (b:DM):(o.put s (((o s).q8 t none).new b)).g8 s'=if s'=s then o.g8 s+1 else o.g8 s':=by
 unfold AH.g8 AH.put B1.new B1.q8;by_cases h:s'=s<;>simp [h]
theorem jZ {m:M} (hm:BL B S w0 m) (s t:Nat) (b b':DM) (hb:m.own.get s t=some b) (eo:Option Nat) (w':World) (iz:Below B w0 w') (w6:m.w.heap.size<=w'.heap.size)
  (hk : ∀ k,k<m.w.heap.size->m.ν s t≠some k->w'.heap[k]? = m.w.heap[k]?) (hz : ∀ x∈b'.es,x.length=b'.b9)
  (fr:eo=none->b'.es=[])
  (va : ∀ g,eo=some g->B<=g/\(m.w.heap.size<=g\/m.ν s t=some g) /\ ∃ arr e,w'.heap[g]? = some (.cells arr e (0,0)) /\
   ∀ i cs,b'.es[i]? = some cs -> ∀ j c,cs[j]? = some c -> ∃ u,arr[i*b'.b9+j]? = some u/\CC B S m c u) :
  BL B S w0 ⟨l7 m s eo,m.own.put s (((m.own s).q8 t none).new b'),w'⟩/\C1 B S m ⟨l7 m s eo,m.own.put s (((m.own s).q8 t none).new b'),w'⟩:=by
 have m9:t<m.own.g8 s:=by
  rcases Nat.lt_or_ge t (m.own.g8 s) with h|h
  ·exact h
  ·rw[hm.fresh s t h]at hb;cases hb
 have hν : ∀ s' t',live m s' t'->l7 m s eo s' t'=m.ν s' t':=λ s' t' hl=>by
  unfold l7;rw[if_neg];rintro ⟨rfl,rfl⟩
  exact cI hm _ hl
 have he:C1 B S m ⟨l7 m s eo,m.own.put s (((m.own s).q8 t none).new b'),w'⟩:=by
  refine T5 hm w6 (λ k ik hn=>hk k ik (hn s t ⟨b,hb⟩)) (λ s' => ?_) (λ s' t' b2 ht u7 => ?_) (λ s' t' g' hl fh ui => ?_)
  ·rw[aP];split
   ·rename_i h;subst h;omega
   ·exact Nat.le_refl _
  ·rw[UJ]at u7
   rw[if_neg (by rintro ⟨rfl,rfl⟩;omega)]at u7;by_cases h:s'=s/\t'=t
   ·rw[if_pos h]at u7;cases u7
   ·rw[if_neg h]at u7
    refine ⟨b2,u7,rfl,hν s' t' ⟨b2,u7⟩,λ g2 ar e' kn xh=>⟨ar,?_,rfl⟩⟩;rw[<-xh];exact hk g2 (Array.getElem?_eq_some_iff.1 xh).1 (λ e2=>h (hm.inj s' t' s t b2 b g2 u7 hb kn e2))
  ·obtain ⟨b2,u7⟩:=hl
   rw[UJ]at u7;by_cases h0:s'=s/\t'=m.own.g8 s
   ·simp only[l7,if_pos h0]at fh
    obtain ⟨_,h2,_⟩:=va g' fh;rcases h2 with h2|h2
    ·omega
    ·exact ⟨s,t,⟨b,hb⟩,h2⟩
   ·rw[if_neg h0]at u7
    by_cases h:s'=s/\t'=t
    ·rw[if_pos h]at u7;cases u7
    ·rw[if_neg h]at u7
     exact ⟨s',t',⟨b2,u7⟩,by rw[<-hν s' t' ⟨b2,u7⟩];exact fh⟩
 refine ⟨⟨iz,Nat.le_trans hm.size w6,λ s' t' ht => ?_,λ s' t' b2 u7 => ?_,λ s1 t1 s2 t2 b1 b2 g1 h1 h2 e1 e2 => ?_⟩,he⟩
 ·rw[aP]at ht
  have oe:m.own.g8 s'<=t' /\ ¬ (s'=s/\t'=m.own.g8 s):=by
   by_cases h:s'=s
   ·subst h
    simp at ht;exact ⟨by omega,by omega⟩
   ·simp [h]at ht
    exact ⟨ht,λ h'=>h h'.1⟩
  rw[UJ,if_neg oe.2];split
  ·rfl
  ·exact hm.fresh s' t' oe.1
 ·rw[UJ]at u7
  by_cases h0:s'=s/\t'=m.own.g8 s
  ·rw[if_pos h0]at u7
   obtain rfl:b'=b2:=by simpa using u7
   refine ⟨hz,?_⟩;show match l7 m s eo s' t' with|none=>_|some g=>_
   rw[show l7 m s eo s' t'=eo by simp [l7,h0]];cases eo with
   | none=>exact fr rfl
   | some g =>
    obtain ⟨h1,_,arr,e,h4,h5⟩:=va g rfl;refine ⟨h1,arr,e,h4,λ i cs hi j c hj => ?_⟩;obtain ⟨u,hu,w4⟩:=h5 i cs hi j c hj;exact ⟨u,hu,he.cc w4⟩
  ·rw[if_neg h0]at u7
   by_cases h:s'=s/\t'=t
   ·rw[if_pos h]at u7;cases u7
   ·rw[if_neg h]at u7
    obtain ⟨h1,h2⟩:=hm.e7 s' t' b2 u7;refine ⟨h1,?_⟩;show match l7 m s eo s' t' with|none=>_|some g=>_
    rw[hν s' t' ⟨b2,u7⟩];cases hv:m.ν s' t' with
    | none=>rw[hv]at h2;exact h2
    | some g2 =>
     rw[hv]at h2;obtain ⟨h3,ar,e',h4,h5⟩:=h2;refine ⟨h3,ar,e',?_,λ i cs hi j c hj => ?_⟩
     ·rw[<-h4]
      exact hk g2 (Array.getElem?_eq_some_iff.1 h4).1 (λ e2=>h (hm.inj s' t' s t b2 b g2 u7 hb hv e2))
     ·obtain ⟨u,hu,w4⟩:=h5 i cs hi j c hj
      exact ⟨u,hu,he.cc w4⟩
 ·rw[UJ]at h1 h2
  have old : ∀ s' t' b2,(if s'=s/\t'=t then none else m.own.get s' t')=some b2->m.own.get s' t'=some b2 /\ ¬ (s'=s/\t'=t):=λ s' t' b2 h=>by
   by_cases h':s'=s/\t'=t
   ·rw[if_pos h']at h;cases h
   ·rw[if_neg h']at h;exact ⟨h,h'⟩
  have mv : ∀ s' t' b2,m.own.get s' t'=some b2 -> ¬ (s'=s/\t'=t)->l7 m s eo s' t'=some g1->eo=some g1->False:=λ s' t' b2 u7 m8 e1 e2=>by
   rw[hν s' t' ⟨b2,u7⟩]at e1;obtain ⟨_,h2,_⟩:=va g1 e2;obtain ⟨_,ar,e',h4⟩:=hm.ge ⟨b2,u7⟩ e1;have:=(Array.getElem?_eq_some_iff.1 h4).1
   rcases h2 with h2|h2
   ·omega
   ·exact m8 (hm.inj s' t' s t b2 b g1 u7 hb e1 h2)
  have at_ : ∀ s' t',s'=s/\t'=m.own.g8 s->l7 m s eo s' t'=some g1->eo=some g1:=λ s' t' h hg=>by simpa [l7,if_pos h] using hg
  by_cases p1:s1=s/\t1=m.own.g8 s<;>by_cases p2:s2=s/\t2=m.own.g8 s
  ·exact ⟨p1.1.trans p2.1.symm,p1.2.trans p2.2.symm⟩
  ·rw[if_neg p2]at h2
   obtain ⟨k2,n2⟩:=old s2 t2 b2 h2;exact (mv s2 t2 b2 k2 n2 e2 (at_ s1 t1 p1 e1)).elim
  ·rw[if_neg p1]at h1
   obtain ⟨k1,n1⟩:=old s1 t1 b1 h1;exact (mv s1 t1 b1 k1 n1 e1 (at_ s2 t2 p2 e2)).elim
  ·rw[if_neg p1]at h1
   rw[if_neg p2]at h2;obtain ⟨k1,n1⟩:=old s1 t1 b1 h1;obtain ⟨k2,n2⟩:=old s2 t2 b2 h2;exact hm.inj s1 t1 s2 t2 b1 b2 g1 k1 k2 (by rw[<-hν s1 t1 ⟨b1,k1⟩];exact e1) (by rw[<-hν s2 t2 ⟨b2,k2⟩];exact e2)
theorem tF (o:AH) (l:List Nat) (s t:Nat):(o.drop l).get s t=if s∈l then none else o.get s t:=by
 induction l with
 | nil=>simp [AH.drop]
 | cons x r ih =>
  unfold AH.get at *;by_cases h:s=x
  ·subst h;simp [AH.drop,AH.put]
  ·simp only[AH.drop,AH.put,if_neg h,List.mem_cons]
   rw[ih];by_cases h2:s∈r<;>simp [h,h2]
theorem pE (o:AH) (l:List Nat) (s:Nat):(o.drop l).g8 s=o.g8 s:=by
 induction l with
 | nil=>simp [AH.drop]
 | cons x r ih =>
  unfold AH.g8 at *;by_cases h:s=x
  ·subst h;simp [AH.drop,AH.put]
  ·simp [AH.drop,AH.put,h,ih]
theorem Xz {m:M} (hm:BL B S w0 m) (l:List Nat):BL B S w0 ⟨m.ν,m.own.drop l,m.w⟩/\C1 B S m ⟨m.ν,m.own.drop l,m.w⟩:=by
 have old : ∀ s t b,(m.own.drop l).get s t=some b->m.own.get s t=some b:=λ s t b h=>by
  rw[tF]at h;split at h
  ·cases h
  ·exact h
 have he:C1 B S m ⟨m.ν,m.own.drop l,m.w⟩:=by
  refine T5 hm (Nat.le_refl _) (λ_ _ _=>rfl) (λ s=>by rw[pE];exact Nat.le_refl _) (λ s t b' _ m7=>⟨b',old s t b' m7,rfl,rfl,λ_ ar _ _ ha=>⟨ar,ha,rfl⟩⟩) (λ s t g hl hg _ => ?_);obtain ⟨b,hb⟩:=hl;exact ⟨s,t,⟨b,old s t b hb⟩,hg⟩
 refine ⟨⟨hm.below,hm.size,λ s t ht => ?_,λ s t b hb => ?_,λ s1 t1 s2 t2 b1 b2 g h1 h2=>hm.inj s1 t1 s2 t2 b1 b2 g (old _ _ _ h1) (old _ _ _ h2)⟩,he⟩
 ·rw[pE]at ht
  rw[tF];split
  ·rfl
  ·exact hm.fresh s t ht
 ·obtain ⟨h1,h2⟩:=hm.e7 s t b (old s t b hb)
  refine ⟨h1,?_⟩;show match m.ν s t with|none=>_|some g=>_
  cases hv:m.ν s t with
  | none=>rw[hv]at h2;exact h2
  | some g =>
   rw[hv]at h2;obtain ⟨h3,ar,e',h4,h5⟩:=h2;refine ⟨h3,ar,e',h4,λ i cs hi j c hj => ?_⟩;obtain ⟨u,hu,w4⟩:=h5 i cs hi j c hj;exact ⟨u,hu,he.cc w4⟩
end
end Go.e8
