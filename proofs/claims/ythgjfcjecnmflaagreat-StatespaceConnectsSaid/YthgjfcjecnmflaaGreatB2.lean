/-
  Functions of the program, as the abstract machine reads them (group TrG). Written by a program (gen.py) off the model's own reading of the translation; the seat's check ties them to it.
-/
import Derived.Test.YthgjfcjecnmflaaGreatB1
import Derived.Calls
import Derived.Below
import Derived.Laws.CopyRow
import Derived.Laws.Cells
import Derived.Laws.MakeOwn
import Derived.Laws.AppendOwn
import Derived.Deep.AppendSrc
import Derived.Deep.Draws
import Derived.ArgAppend
set_option linter.unusedSimpArgs false
set_option linter.unusedVariables false
set_option linter.unnecessarySimpa false
namespace Go.e9.F
open C
namespace K9
def r0:=[o 4 (.a9 (.c .nil))]
def r1:=[m 11 0,o 12 (.len 11),o 13 (.mk 188013 1 24 [.nil] 12 12),m 5 13]
def r2:=[m 14 0,o 15 (.len 14),o 16 (.mk 188016 3 56 [(.bool false),.nil,.nil] 15 15),m 6 16]
def r3:=[m 17 0,o 18 (.len 17),o 19 (.a9 (k 0))]
def r4:=[o 20 (.bin .lss 19 18)]
def r5:=[m 21 19,m 7 21]
def r6:=[m 22 5,m 23 7,m 24 0,o 25 (.len 24),o 26 (.mk 188026 3 56 [(.bool false),.nil,.nil] 25 25),o 27 (.a7 none 1 22 23),n (.st 1 27 26)]
def r7:=[o 28 (.bin .add 19 (k 1)),m 19 28]
def r8:=[m 29 0,o 30 (.len 29),o 31 (.a9 (k 0))]
def r9:=[o 32 (.bin .lss 31 30)]
def CG:=[m 33 31,m 8 33]
def CP:=[m 34 0,o 35 (.len 34),o 36 (.a9 (k 0))]
def y8:=[o 37 (.bin .lss 36 35)]
def DG:=[m 38 36,m 9 38]
def cj:=[m 39 6,m 40 9,m 41 1,m 42 9,o 43 (.a7 none 1 41 42),o 44 (.ld false 1 43),m 45 8,o 46 (.a7 none 3 44 45),o 47 (.ld true 3 46),
 o 48 (.a7 none 3 39 40),n (.st 3 48 47)]
def ea:=[o 49 (.bin .add 36 (k 1)),m 36 49]
def fq:=[m 50 0,o 51 (.len 50),o 52 (.a9 (k 0))]
def F7:=[o 53 (.bin .lss 52 51)]
def gq:=[m 54 52,m 10 54]
def jx:=[m 55 5,m 56 10,o 57 (.a7 none 1 55 56),o 58 (.ld false 1 57),m 59 8,m 60 0,m 61 10,o 62 (.a7 none 1 60 61),o 63 (.ld false 1 62),m 64 6,
 o 65 (.call 132 [63,64]),o 66 (.a7 none 3 58 59),n (.st 3 66 65)]
def mi:=[o 67 (.bin .add 52 (k 1)),m 52 67]
def ns:=[o 68 (.bin .add 31 (k 1)),m 31 68]
def nt:=[m 69 5,m 4 69]
def l1:=(s (p r4) (s (i 20 .skip (x 0)) (s (b 1 (s (d r5 [20,21]) (d r6 [7,22,23,24,25,26,27]))) (d r7 [28]))))
def l3:=(s (p y8) (s (i 37 .skip (x 4)) (s (b 5 (s (d DG [37,38]) (d cj [9,39,40,41,42,43,44,45,46,47,48]))) (d ea [49]))))
def l4:=(s (p F7) (s (i 53 .skip (x 6)) (s (b 7 (s (d gq [53,54]) (e jx [10,55,56,57,58,59,60,61,62,63,64,65,66]))) (d mi [67]))))
def l2:=(s (p r9) (s (i 32 .skip (x 2)) (s (b 3 (s (d CG [32,33]) (s (s (d CP [34]) (b 4 (w l3))) (s (d fq [35,36,37,50]) (b 6 (w l4)))))) (d ns [8,51,52,53,68]))))
def c:=(s (d r0 [4]) (s (d r1 [11,12,13]) (s (d r2 [14,15,16]) (s (s (d r3 [17]) (b 0 (w l1))) (s (s (d r8 [18,19,20,29]) (b 2 (w l2))) (s (d nt [0,1,5,6,30,31,32,69]) .ret))))))
end K9
def K9:AFn:=⟨2,K9.c,[.tmp 4],false⟩
namespace K7
def r0:=[o 1 (.box 1 0),o 2 (.alloc 2 [.nil,.nil]),o 3 (.a9 (k 0))]
def r1:=[o 16 (.ld true 6 1),o 17 (.call 130 [16]),o 18 (.un .not 17)]
def r2:=[o 19 (.build [.nil,.nil] []),n (.st 2 2 19),o 3 (.a9 (k 2))]
def r3:=[o 20 (.a5 1 0),o 21 (.ld false 1 20),o 22 (.len 21),m 4 22]
def r4:=[m 23 4,o 24 (.bin .gtr 23 (k 16))]
def r5:=[o 25 (.build [.nil,.nil] []),n (.st 2 2 25),o 3 (.a9 (k 12))]
def r6:=[o 26 (.call 96 [(k 1)]),o 27 (.c4 27 3 [26]),m 5 27]
def r7:=[o 28 (.call 96 [(k 0)]),o 29 (.c4 29 3 [28]),m 6 29]
def r8:=[m 30 4,o 31 (.e8 145 [30]),o 32 (.lg 31 0 1 false),m 7 32]
def r9:=[m 33 4,o 34 (.a9 (k 0))]
def CG:=[o 35 (.bin .lss 34 33)]
def CP:=[m 36 34,m 8 36]
def y8:=[m 37 7,m 38 8,o 39 (.a7 none 1 37 38),o 40 (.ld false 1 39),m 41 8,o 42 (.call 96 [(k 1)]),o 43 (.a7 none 3 40 41),n (.st 3 43 42)]
def DG:=[o 44 (.bin .add 34 (k 1)),m 34 44]
def cj:=[o 9 (.a9 (k 1))]
def ea:=[m 45 9,m 46 4,o 47 (.bin .leq 45 46)]
def F7:=[m 50 4,o 51 (.mk 51 3 56 [(.bool false),.nil,.nil] 50 50),m 10 51]
def gq:=[m 52 4,o 53 (.a9 (k 0))]
def jx:=[o 54 (.bin .lss 53 52)]
def mi:=[m 55 53,m 11 55]
def ns:=[m 56 10,m 57 11,m 58 7,m 59 11,o 60 (.a7 none 1 58 59),o 61 (.ld false 1 60),o 62 (.a5 1 1),o 63 (.ld false 1 62),o 64 (.call 132 [61,63]),
 o 65 (.a7 none 3 56 57),n (.st 3 65 64)]
def nt:=[o 66 (.bin .add 53 (k 1)),m 53 66]
def pf:=[m 67 6,o 68 (.a5 1 2),o 69 (.ld false 1 68),m 70 10,o 71 (.call 132 [69,70]),o 72 (.c4 72 3 [71]),o 73 (.app 73 3 56 67 72),m 6 73]
def LM:=[o 74 (.a5 1 0),o 75 (.ld false 1 74),m 76 7,o 77 (.e8 188 [75,76]),m 7 77]
def Q1:=[o 78 (.call 96 [(k 0)]),o 12 (.alloc 12 [(.bool false),.nil,.nil]),n (.st 3 12 78)]
def UY:=[m 79 4,o 80 (.a9 (k 0))]
def UZ:=[o 81 (.bin .lss 80 79)]
def U0:=[m 82 80,m 13 82]
def U1:=[o 83 (.ld true 3 12),m 84 7,m 85 13,o 86 (.a7 none 1 84 85),o 87 (.ld false 1 86),m 88 13,o 89 (.a7 none 3 87 88),o 90 (.ld true 3 89),
 o 91 (.call 98 [83,90]),n (.st 3 12 91)]
def zf:=[o 92 (.bin .add 80 (k 1)),m 80 92]
def zh:=[q 93 [14] (.ld true 3 12),m 94 9,q 95 [14] (.call 151 [(k (-1)),94]),q 96 [14] (.call 99 [93,95]),
 o 14 (.alloc 14 [(.bool false),.nil,.nil]),n (.st 3 14 96)]
def cF:=[m 97 4,o 98 (.a9 (k 0))]
def cG:=[o 99 (.bin .lss 98 97)]
def cH:=[m 100 98,m 15 100]
def cI:=[m 101 7,m 102 15,o 103 (.a7 none 1 101 102),o 104 (.ld false 1 103),m 105 15,m 106 7,m 107 15,o 108 (.a7 none 1 106 107),o 109 (.ld false 1 108),
 m 110 15,o 111 (.a7 none 3 109 110),o 112 (.ld true 3 111),o 113 (.ld true 3 14),o 114 (.call 98 [112,113]),o 115 (.a7 none 3 104 105),
 n (.st 3 115 114)]
def cJ:=[o 116 (.bin .add 98 (k 1)),m 98 116]
def cK:=[m 117 5,o 118 (.ld true 3 14),o 119 (.c4 119 3 [118]),o 120 (.app 120 3 56 117 119),m 5 120]
def fq:=[m 48 9,o 49 (.bin .add 48 (k 1)),m 9 49]
def cL:=[m 121 6,m 122 5,o 123 (.a5 1 3),o 124 (.ld true 3 123),o 125 (.call 190 [122,124]),o 126 (.call 191 [121,125]),m 127 5,o 128 (.call 170 [127]),
 o 129 (.build [.nil,.nil] [(0,1,126),(1,1,128)]),n (.st 2 2 129),o 3 (.a9 (k 0))]
def l1:=(s (p CG) (s (i 35 .skip (x 0)) (s (b 1 (s (d CP [35,36]) (e y8 [8,37,38,39,40,41,42,43]))) (d DG [44]))))
def l3:=(s (p jx) (s (i 54 .skip (x 4)) (s (b 5 (s (d mi [54,55]) (e ns [11,56,57,58,59,60,61,62,63,64,65]))) (d nt [66]))))
def l4:=(s (p UZ) (s (i 81 .skip (x 6)) (s (b 7 (s (d U0 [81,82]) (e U1 [13,83,84,85,86,87,88,89,90,91]))) (d zf [92]))))
def l5:=(s (p cG) (s (i 99 .skip (x 8)) (s (b 9 (s (d cH [99,100]) (e cI [15,101,102,103,104,105,106,107,108,109,110,111,112,113,114,115]))) (d cJ [116]))))
def l2:=(s (s (d ea [45,46]) (i 47 .skip (x 2))) (s (b 3 (s (d F7 [47,50,51]) (s (s (p gq) (b 4 (w l3))) (s (d pf [10,52,53,54,67,68,69,70,71,72,73]) (s (d LM [74,75,76,77]) (s (d Q1 [78]) (s (s (p UY) (b 6 (w l4))) (s (e zh [12,79,80,81,93,94,95,96]) (s (s (p cF) (b 8 (w l5))) (d cK [14,97,98,99,117,118,119,120])))))))))) (d fq [48,49])))
def c:=(s (d r0 [0,3]) (s (s (d r1 [16,17]) (i 18 (s (d r2 [1,18,19]) .ret) .skip)) (s (d r3 [18,20,21,22]) (s (s (d r4 [23]) (i 24 (s (d r5 [1,4,24,25]) .ret) .skip)) (s (d r6 [24,26,27]) (s (d r7 [28,29]) (s (d r8 [30,31,32]) (s (s (p r9) (b 0 (w l1))) (s (s (d cj [33,34,35]) (b 2 (w l2))) (s (d cL [1,4,5,6,7,9,47,121,122,123,124,125,126,127,128,129]) .ret))))))))))
end K7
def K7:AFn:=⟨1,K7.c,[.cell 2 true 2,.tmp 3],false⟩
namespace I6
def r0:=[o 4 (.a9 (.c .nil))]
def r1:=[m 7 0,o 8 (.len 7),m 9 1,o 10 (.len 9),o 11 (.bin .lss 8 10)]
def r2:=[m 12 1,m 13 0,m 0 12,m 1 13]
def r3:=[m 14 0,o 15 (.len 14),o 16 (.mk 16 3 56 [(.bool false),.nil,.nil] 15 15),m 5 16]
def r4:=[m 17 5,o 18 (.len 17),o 19 (.a9 (k 0))]
def r5:=[o 20 (.bin .lss 19 18)]
def r6:=[m 21 19,m 6 21]
def r7:=[m 22 6,m 23 1,o 24 (.len 23),o 25 (.bin .lss 22 24)]
def r8:=[m 26 5,m 27 6,m 28 0,m 29 6,o 30 (.a7 none 3 28 29),o 31 (.ld true 3 30),m 32 1,m 33 6,o 34 (.a7 none 3 32 33),o 35 (.ld true 3 34),
 o 36 (.call 98 [31,35]),o 37 (.a7 none 3 26 27),n (.st 3 37 36)]
def r9:=[m 38 5,m 39 6,m 40 0,m 41 6,o 42 (.a7 none 3 40 41),o 43 (.ld true 3 42),o 44 (.call 95 [43]),o 45 (.a7 none 3 38 39),n (.st 3 45 44)]
def CG:=[o 46 (.bin .add 19 (k 1)),m 19 46]
def CP:=[m 47 5,o 48 (.e8 169 [47]),m 4 48]
def l1:=(s (p r5) (s (i 20 .skip (x 0)) (s (b 1 (s (d r6 [20,21]) (s (d r7 [22,23,24]) (i 25 (e r8 [6,25,26,27,28,29,30,31,32,33,34,35,36,37]) (d r9 [6,25,38,39,40,41,42,43,44,45]))))) (d CG [46]))))
def c:=(s (d r0 [4]) (s (s (d r1 [7,8,9,10]) (i 11 (d r2 [11,12,13]) .skip)) (s (d r3 [11,14,15,16]) (s (s (d r4 [17]) (b 0 (w l1))) (s (d CP [0,1,5,18,19,20,47,48]) .ret)))))
end I6
def I6:AFn:=⟨2,I6.c,[.tmp 4],false⟩
namespace LG
def r0:=[o 3 (.box 3 1),o 4 (.a9 (.c .nil))]
def r1:=[m 7 0,o 8 (.len 7),o 9 (.mk 9 3 56 [(.bool false),.nil,.nil] 8 8),m 5 9]
def r2:=[m 10 5,o 11 (.len 10),o 12 (.a9 (k 0))]
def r3:=[o 13 (.bin .lss 12 11)]
def r4:=[m 14 12,m 6 14]
def r5:=[m 15 5,m 16 6,m 17 0,m 18 6,o 19 (.a7 none 3 17 18),o 20 (.ld true 3 19),o 21 (.ld true 3 3),o 22 (.call 99 [20,21]),o 23 (.a7 none 3 15 16),
 n (.st 3 23 22)]
def r6:=[o 24 (.bin .add 12 (k 1)),m 12 24]
def r7:=[m 25 5,o 26 (.e8 169 [25]),m 4 26]
def l1:=(s (p r3) (s (i 13 .skip (x 0)) (s (b 1 (s (d r4 [13,14]) (e r5 [6,15,16,17,18,19,20,21,22,23]))) (d r6 [24]))))
def c:=(s (d r0 [1,4]) (s (d r1 [7,8,9]) (s (s (d r2 [10]) (b 0 (w l1))) (s (d r7 [0,3,5,11,12,13,25,26]) .ret))))
end LG
def LG:AFn:=⟨2,LG.c,[.tmp 4],false⟩
structure y5 (L:Lib):Prop extends iy L,w6 L,bm L,ak L where
 K9:L 188=some F.K9
 K7:L 189=some F.K7
 I6:L 191=some F.I6
 LG:L 190=some F.LG
end Go.e9.F
namespace Go.e9.F
open C
namespace KF
def r0:=[o 2 (.box 2 0),o 3 (.box 3 1),o 4 (.a9 (k 0))]
def r1:=[o 7 (.ld true 2 2),o 8 (.call 86 [7]),o 9 (.ld true 2 3),o 10 (.call 86 [9]),m 5 8,m 6 10]
def r2:=[m 12 5,m 13 6,o 14 (.bin .lss 12 13),m 11 14]
def r3:=[o 4 (.a9 (k (-1)))]
def r4:=[m 16 5,m 17 6,o 18 (.bin .gtr 16 17),m 15 18]
def r5:=[o 4 (.a9 (k 1))]
def r6:=[m 20 5,o 21 (.bin .eql 20 (k (-1))),m 19 21]
def r7:=[o 22 (.a5 3 1),o 23 (.ld false 1 22),o 24 (.a5 2 1),o 25 (.ld false 1 24),o 26 (.call 67 [23,25]),m 4 26]
def r8:=[o 27 (.a5 2 1),o 28 (.ld false 1 27),o 29 (.a5 3 1),o 30 (.ld false 1 29),o 31 (.call 67 [28,30]),m 4 31]
def c:=(s (d r0 [0,1,4]) (s (e r1 [7,8,9,10]) (s (b 0 (s (d r2 [12,13,14]) (i 11 (s (d r3 [2,3,5,6,11]) .ret) (s (d r4 [6,11,16,17,18]) (i 15 (s (d r5 [2,3,5,15]) .ret) (s (d r6 [5,15,20,21]) (i 19 (s (d r7 [2,3,19,22,23,24,25,26]) .ret) .skip))))))) (s (d r8 [2,3,19,27,28,29,30,31]) .ret))))
end KF
def KF:AFn:=⟨2,KF.c,[.tmp 4],false⟩
namespace I8
def r0:=[o 2 (.box 2 0),o 3 (.box 3 1),o 4 (.a9 (k 0))]
def r1:=[q 7 [5,6] (.ld true 3 2),q 8 [5,6] (.l9 89 [7]),q 9 [5,6] (.ld true 3 3),q 10 [5,6] (.l9 89 [9]),
 o 5 (.alloc 5 [(.bool false),.nil,.nil,(.bool false)]),o 6 (.alloc 6 [(.bool false),.nil,.nil,(.bool false)]),n (.st 4 5 8),n (.st 4 6 10)]
def r2:=[o 11 (.a5 5 3),o 12 (.ld false 1 11),m 13 12,g 14 13 true (.a5 6 3),g 15 13 true (.ld false 1 14),o 16 (.pick 13 15 (.c (.bool false)))]
def r3:=[o 17 (.a5 5 0),o 18 (.a5 17 0),o 19 (.ld true 2 18),o 20 (.a5 6 0),o 21 (.a5 20 0),o 22 (.ld true 2 21),o 23 (.call 197 [19,22]),m 4 23]
def r4:=[o 24 (.a5 5 0),o 25 (.a5 24 0),o 26 (.ld true 2 25),o 27 (.a5 6 0),o 28 (.a5 27 2),o 29 (.ld false 1 28),o 30 (.l9 91 [29]),
 o 31 (.call 88 [26,30]),o 32 (.a5 6 0),o 33 (.a5 32 0),o 34 (.ld true 2 33),o 35 (.a5 5 0),o 36 (.a5 35 2),o 37 (.ld false 1 36),
 o 38 (.l9 91 [37]),o 39 (.call 88 [34,38]),o 40 (.call 197 [31,39]),m 4 40]
def c:=(s (d r0 [0,1,4]) (s (e r1 [2,3,7,8,9,10]) (s (s (d r2 [11,12,13,14,15]) (i 16 (s (d r3 [5,6,16,17,18,19,20,21,22,23]) .ret) .skip)) (s (e r4 [5,6,16,24,25,26,27,28,29,30,31,32,33,34,35,36,37,38,39,40]) .ret))))
end I8
def I8:AFn:=⟨2,I8.c,[.tmp 4],false⟩
namespace LP
def r0:=[o 1 (.box 1 0),o 2 (.alloc 2 [(.bool false),.nil,.nil])]
def r1:=[o 3 (.ld true 3 1),o 4 (.l9 149 [3]),o 5 (.call 95 [4]),n (.st 3 2 5)]
def c:=(s (d r0 [0]) (s (d r1 [1,3,4,5]) .ret))
end LP
def LP:AFn:=⟨1,LP.c,[.cell 2 true 3],false⟩
namespace LF
def r0:=[o 2 (.a9 (k 0))]
def r1:=[m 3 0,o 4 (.e8 169 [3]),o 5 (.len 4),o 6 (.bin .sub 5 (k 1)),m 2 6]
def c:=(s (d r0 [2]) (s (d r1 [0,3,4,5,6]) .ret))
end LF
def LF:AFn:=⟨1,LF.c,[.tmp 2],false⟩
namespace M0
def r0:=[o 1 (.box 1 0),o 2 (.a9 (.c (.bool false)))]
def r1:=[o 3 (.a5 1 0),o 4 (.ld false 1 3),o 5 (.call 200 [4]),o 6 (.bin .gtr 5 (k 48)),m 7 6,g 8 7 false (.a5 1 1),g 9 7 false (.ld false 1 8),
 g 10 7 false (.call 200 [9]),g 11 7 false (.bin .gtr 10 (k 48)),o 12 (.pick 7 (.c (.bool true)) 11)]
def r2:=[o 2 (.a9 (.c (.bool false)))]
def r3:=[o 13 (.a5 1 1),o 14 (.ld false 1 13),o 15 (.len 14),o 16 (.bin .gtr 15 (k 0)),m 17 16,g 18 17 true (.a5 1 1),g 19 17 true (.ld false 1 18),
 g 20 17 true (.a7 none 3 19 (k 0)),g 21 17 true (.ld true 3 20),g 22 17 true (.call 96 [(k 1)]),g 23 17 true (.call 198 [21,22]),
 g 24 17 true (.bin .eql 23 (k 0)),o 25 (.pick 17 24 (.c (.bool false))),m 2 25]
def c:=(s (d r0 [0,2]) (s (s (d r1 [3,4,5,6,7,8,9,10,11]) (i 12 (s (d r2 [1,12]) .ret) .skip)) (s (e r3 [1,12,13,14,15,16,17,18,19,20,21,22,23,24,25]) .ret)))
end M0
def M0:AFn:=⟨1,M0.c,[.tmp 2],false⟩
namespace NB
def r0:=[o 2 (.a9 (k 0))]
def r1:=[m 4 0,o 5 (.len 4),o 6 (.bin .sub 5 (k 1)),m 3 6]
def r2:=[m 7 3,o 8 (.bin .gtr 7 (k 0))]
def r4:=[m 11 0,m 12 3,o 13 (.a7 none 3 11 12),o 14 (.ld true 3 13),o 15 (.call 97 [14]),o 16 (.bin .neq 15 (k 0))]
def r5:=[m 17 3,m 2 17]
def r3:=[m 9 3,o 10 (.bin .sub 9 (k 1)),m 3 10]
def r6:=[o 2 (.a9 (k 0))]
def l1:=(s (s (d r2 [7]) (i 8 .skip (x 0))) (s (b 1 (s (d r4 [8,11,12,13,14,15]) (i 16 (s (d r5 [0,3,16,17]) .ret) .skip))) (d r3 [9,10,16])))
def c:=(s (d r0 [2]) (s (s (d r1 [4,5,6]) (b 0 (w l1))) (s (d r6 [0,3,8]) .ret)))
end NB
def NB:AFn:=⟨1,NB.c,[.tmp 2],false⟩
namespace M9
def r0:=[o 4 (.alloc 4 [(.bool false),.nil,.nil])]
def r1:=[m 5 1,m 6 0,o 7 (.len 6),o 8 (.bin .lss 5 7)]
def r2:=[m 9 0,m 10 1,o 11 (.a7 none 3 9 10),o 12 (.ld true 3 11),o 13 (.call 95 [12]),n (.st 3 4 13)]
def r3:=[o 14 (.call 96 [(k 0)]),n (.st 3 4 14)]
def c:=(s (p r0) (s (s (d r1 [5,6,7]) (i 8 (s (d r2 [0,1,8,9,10,11,12,13]) .ret) .skip)) (s (d r3 [0,1,8,14]) .ret)))
end M9
def M9:AFn:=⟨2,M9.c,[.cell 4 true 3],false⟩
namespace JJ
def r0:=[o 2 (.a9 (.c .nil))]
def r1:=[m 5 0,o 6 (.mk 6 3 56 [(.bool false),.nil,.nil] 5 5),m 3 6]
def r2:=[m 7 0,o 8 (.a9 (k 0))]
def r3:=[o 9 (.bin .lss 8 7)]
def r4:=[m 10 8,m 4 10]
def r5:=[m 11 3,m 12 4,o 13 (.call 96 [(k 0)]),o 14 (.a7 none 3 11 12),n (.st 3 14 13)]
def r6:=[o 15 (.bin .add 8 (k 1)),m 8 15]
def r7:=[m 16 3,m 2 16]
def l1:=(s (p r3) (s (i 9 .skip (x 0)) (s (b 1 (s (d r4 [9,10]) (d r5 [4,11,12,13,14]))) (d r6 [15]))))
def c:=(s (d r0 [2]) (s (d r1 [5,6]) (s (s (d r2 [0]) (b 0 (w l1))) (s (d r7 [3,7,8,9,16]) .ret))))
end JJ
def JJ:AFn:=⟨1,JJ.c,[.tmp 2],false⟩
namespace JG
def r0:=[o 1 (.box 1 0),o 2 (.alloc 2 [.nil,.nil,.nil,(.bool false),.nil,.nil]),o 3 (.a9 (k 0))]
def r1:=[o 10 (.ld true 2 1),o 11 (.call 201 [10]),o 12 (.un .not 11)]
def r2:=[o 13 (.build [.nil,.nil,.nil,(.bool false),.nil,.nil] []),n (.st 6 2 13),o 3 (.a9 (k 2))]
def r3:=[o 14 (.a5 1 0),o 15 (.ld false 1 14),o 16 (.call 204 [15]),o 17 (.a5 1 1),o 18 (.ld false 1 17),o 19 (.call 204 [18]),o 20 (.mm true [16,19]),
 m 4 20]
def r4:=[m 21 4,o 22 (.bin .gtr 21 (k 16))]
def r5:=[o 23 (.build [.nil,.nil,.nil,(.bool false),.nil,.nil] []),n (.st 6 2 23),o 3 (.a9 (k 12))]
def r6:=[o 24 (.a5 1 0),o 25 (.ld false 1 24),o 26 (.call 205 [25,(k 0)]),m 27 4,o 28 (.m6 28 206 [27]),
 o 29 (.build [.nil,.nil,.nil,(.bool false),.nil,.nil] [(3,3,26),(1,1,28)]),o 5 (.alloc 5 [.nil,.nil,.nil,(.bool false),.nil,.nil]),
 n (.st 6 5 29)]
def r7:=[m 30 4,o 31 (.bin .gtr 30 (k 0))]
def r8:=[o 32 (.a5 5 1),o 33 (.ld false 1 32),o 34 (.call 96 [(k 1)]),o 35 (.a7 none 3 33 (k 0)),n (.st 3 35 34)]
def r9:=[m 36 4,o 37 (.a9 (k 0))]
def CG:=[o 38 (.bin .lss 37 36)]
def CP:=[m 39 37,m 6 39]
def y8:=[m 40 4,o 41 (.m6 41 206 [40]),m 7 41]
def DG:=[m 42 6,o 43 (.bin .gtr 42 (k 0))]
def cj:=[m 44 7,m 45 6,o 46 (.bin .sub 45 (k 1)),o 47 (.call 96 [(k 1)]),o 48 (.a7 none 3 44 46),n (.st 3 48 47)]
def ea:=[m 49 4,o 50 (.a9 (k 0))]
def fq:=[o 51 (.bin .lss 50 49)]
def F7:=[m 52 50,m 8 52]
def gq:=[m 53 7,m 54 8,o 55 (.a5 1 1),o 56 (.ld false 1 55),m 57 8,o 58 (.bin .add 57 (k 1)),o 59 (.call 205 [56,58]),o 60 (.call 199 [59]),
 o 61 (.a7 none 3 53 54),n (.st 3 61 60)]
def jx:=[o 62 (.bin .add 50 (k 1)),m 50 62]
def mi:=[o 63 (.a5 5 0),o 64 (.ld false 1 63),m 65 7,o 66 (.c4 66 1 [65]),o 67 (.app 67 1 24 64 66),o 68 (.a5 5 0),n (.st 1 68 67)]
def ns:=[o 69 (.a5 1 0),q 70 [9] (.ld false 1 69),q 71 [9] (.call 205 [70,(k 0)]),o 72 (.a5 1 1),q 73 [9] (.ld false 1 72),
 m 74 6,o 75 (.bin .add 74 (k 1)),q 76 [9] (.call 205 [73,75]),q 77 [9] (.call 99 [71,76]),
 o 9 (.alloc 9 [(.bool false),.nil,.nil]),n (.st 3 9 77)]
def nt:=[o 78 (.a5 5 2),q 79 [87] (.ld false 1 78),o 80 (.a5 1 0),o 81 (.ld false 1 80),m 82 6,o 83 (.bin .add 82 (k 1)),o 84 (.call 205 [81,83]),
 o 85 (.ld true 3 9),o 86 (.call 150 [84,85]),o 87 (.c4 87 3 [86]),o 88 (.app 88 3 56 79 87),o 89 (.a5 5 2),n (.st 1 89 88)]
def pf:=[o 90 (.bin .add 37 (k 1)),m 37 90]
def LM:=[o 91 (.ld true 6 5),n (.st 6 2 91),o 3 (.a9 (k 0))]
def l2:=(s (p fq) (s (i 51 .skip (x 2)) (s (b 3 (s (d F7 [51,52]) (d gq [8,53,54,55,56,57,58,59,60,61]))) (d jx [62]))))
def l1:=(s (p CG) (s (i 38 .skip (x 0)) (s (b 1 (s (d CP [38,39]) (s (d y8 [40,41]) (s (s (d DG [42]) (i 43 (d cj [43,44,45,46,47,48]) (s (d ea [43]) (b 2 (w l2))))) (s (d mi [7,49,50,51,63,64,65,66,67,68]) (s (e ns [69,70,71,72,73,74,75,76,77]) (e nt [6,9,78,79,80,81,82,83,84,85,86,87,88,89]))))))) (d pf [90]))))
def c:=(s (d r0 [0,3]) (s (s (d r1 [10,11]) (i 12 (s (d r2 [1,12,13]) .ret) .skip)) (s (e r3 [12,14,15,16,17,18,19,20]) (s (s (d r4 [21]) (i 22 (s (d r5 [1,4,22,23]) .ret) .skip)) (s (d r6 [22,24,25,26,27,28,29]) (s (s (d r7 [30]) (i 31 (e r8 [31,32,33,34,35]) .skip)) (s (s (d r9 [31]) (b 0 (w l1))) (s (d LM [1,4,5,36,37,38,91]) .ret))))))))
end JG
def JG:AFn:=⟨1,JG.c,[.cell 2 true 6,.tmp 3],false⟩
namespace MX
def r0:=[o 2 (.a9 (.c .nil))]
def r1:=[o 3 (.ah 3 3)]
def r2:=[o 4 (.a9 (k 0))]
def r3:=[m 5 4,m 6 0,o 7 (.bin .lss 5 6)]
def r5:=[m 10 3,o 11 (.call 124 [(k 0)]),o 12 (.c4 12 3 [11]),o 13 (.app 13 3 56 10 12),m 3 13]
def r4:=[m 8 4,o 9 (.bin .add 8 (k 1)),m 4 9]
def r6:=[m 14 3,m 2 14]
def l1:=(s (s (d r3 [5,6]) (i 7 .skip (x 0))) (s (b 1 (d r5 [7,10,11,12,13])) (d r4 [8,9])))
def c:=(s (d r0 [2]) (s (p r1) (s (s (p r2) (b 0 (w l1))) (s (d r6 [0,3,4,7,14]) .ret))))
end MX
def MX:AFn:=⟨1,MX.c,[.tmp 2],false⟩
structure k6 (L:Lib):Prop extends y5 L where
 KF:L 197=some F.KF
 I8:L 198=some F.I8
 LP:L 199=some F.LP
 LF:L 200=some F.LF
 M0:L 201=some F.M0
 NB:L 204=some F.NB
 M9:L 205=some F.M9
 JJ:L 206=some F.JJ
 JG:L 207=some F.JG
 MX:L 210=some F.MX
end Go.e9.F

namespace Go.e9.F
open C
namespace LN
def r0:=[o 1 (.box 1 0),o 2 (.alloc 2 [(.bool false),.nil,.nil])]
def r1:=[o 3 (.a5 1 0),o 4 (.a5 3 1),o 5 (.ld false 1 4),o 6 (.build [(.bool false),.nil] [(1,1,5)]),o 7 (.a5 1 2),o 8 (.ld false 1 7),
 o 9 (.build [(.bool false),.nil,.nil] [(0,2,6),(2,1,8)]),o 10 (.call 95 [9]),n (.st 3 2 10)]
def c:=(s (d r0 [0]) (s (d r1 [1,3,4,5,6,7,8,9,10]) .ret))
end LN
def LN:AFn:=⟨1,LN.c,[.cell 2 true 3],false⟩
namespace LJ
def r0:=[o 1 (.box 1 0),o 2 (.alloc 2 [(.bool false),.nil,.nil]),o 3 (.alloc 3 [(.bool false),.nil,.nil])]
def r1:=[o 5 (.c4 5 1 [(.c (.int .u32 (1)))]),m 4 5]
def r2:=[o 6 (.a5 1 0),o 7 (.ld true 2 6),m 8 4,o 9 (.build [(.bool false),.nil,.nil] [(0,2,7),(2,1,8)]),o 10 (.a5 1 2),
 q 11 [2] (.ld false 1 10),o 12 (.build [(.bool false),.nil] [(1,1,11)]),m 13 4,
 o 14 (.build [(.bool false),.nil,.nil] [(0,2,12),(2,1,13)]),n (.kz 2 3 2 9),n (.st 3 3 14)]
def c:=(s (d r0 [0]) (s (d r1 [5]) (s (e r2 [1,4,6,7,8,9,10,11,12,13,14]) .ret)))
end LJ
def LJ:AFn:=⟨1,LJ.c,[.cell 2 true 3,.cell 3 true 3],false⟩
namespace LI
def r0:=[o 2 (.box 2 0),o 3 (.box 3 1),o 4 (.alloc 4 [(.bool false),.nil,.nil])]
def r1:=[o 11 (.ld true 3 2),o 12 (.call 97 [11]),o 13 (.bin .eql 12 (k 0))]
def r2:=[o 14 (.ld true 3 3),o 15 (.call 256 [14]),n (.st 3 4 15)]
def r3:=[o 17 (.ld true 3 2),o 18 (.ld true 3 3),o 19 (.call 100 [17,18]),m 16 19,o 20 (.ext 16 0),o 21 (.ext 16 1),o 5 (.alloc 5 [(.bool false),.nil,.nil]),
 n (.st 3 5 20),m 6 21]
def r4:=[m 22 6,o 23 (.bin .neq 22 (k 0))]
def r5:=[o 24 (.ld true 3 2),n (.st 3 4 24)]
def r6:=[o 26 (.ld true 3 5),o 27 (.call 257 [26]),m 25 27,o 28 (.ext 25 0),o 29 (.ext 25 1),o 7 (.alloc 7 [(.bool false),.nil,.nil]),
 o 8 (.alloc 8 [(.bool false),.nil,.nil]),n (.st 3 7 28),n (.st 3 8 29)]
def r7:=[o 31 (.ld true 3 2),o 32 (.ld true 3 7),o 33 (.call 100 [31,32]),m 30 33,o 34 (.ext 30 0),o 35 (.ext 30 1),o 9 (.alloc 9 [(.bool false),.nil,.nil]),
 n (.st 3 9 34),m 10 35]
def r8:=[o 36 (.ld true 3 9),o 37 (.call 256 [36]),n (.st 3 4 37)]
def c:=(s (d r0 [0,1]) (s (s (d r1 [11,12]) (i 13 (s (d r2 [2,3,13,14,15]) .ret) .skip)) (s (d r3 [3,13,16,17,18,19,20,21]) (s (s (d r4 [6,22]) (i 23 (s (d r5 [2,5,23,24]) .ret) .skip)) (s (d r6 [5,8,23,25,26,27,28,29]) (s (d r7 [2,7,10,30,31,32,33,34,35]) (s (d r8 [9,36,37]) .ret)))))))
end LI
def LI:AFn:=⟨2,LI.c,[.cell 4 true 3],false⟩
namespace LK
def r0:=[o 2 (.alloc 2 [(.bool false),.nil,.nil]),o 3 (.a9 (.c .nil))]
def r1:=[m 10 0,o 11 (.e8 169 [10]),m 0 11]
def r2:=[o 12 (.call 96 [(k 0)]),o 4 (.alloc 4 [(.bool false),.nil,.nil]),n (.st 3 4 12)]
def r3:=[m 13 0,o 14 (.len 13),o 15 (.a9 (k 0))]
def r4:=[o 16 (.bin .lss 15 14)]
def r5:=[o 17 (.a7 none 3 13 15),o 18 (.ld true 3 17),o 6 (.alloc 6 [(.bool false),.nil,.nil]),n (.st 3 6 18)]
def r6:=[o 19 (.ld true 3 4),o 20 (.ld true 3 6),o 21 (.call 258 [19,20]),n (.st 3 4 21)]
def r7:=[o 22 (.bin .add 15 (k 1)),m 15 22]
def r8:=[m 23 0,o 24 (.len 23),o 25 (.mk 25 3 56 [(.bool false),.nil,.nil] 24 24),m 7 25]
def r9:=[m 26 0,o 27 (.len 26),o 28 (.a9 (k 0))]
def CG:=[o 29 (.bin .lss 28 27)]
def CP:=[m 30 28,o 31 (.a7 none 3 26 28),o 32 (.ld true 3 31),o 9 (.alloc 9 [(.bool false),.nil,.nil]),m 8 30,n (.st 3 9 32)]
def y8:=[m 34 7,m 35 8,o 36 (.ld true 3 9),o 37 (.ld true 3 4),o 38 (.call 100 [36,37]),m 33 38,o 39 (.ext 33 0),o 40 (.ext 33 1),o 41 (.a7 none 3 34 35),
 n (.st 3 41 39)]
def DG:=[o 42 (.bin .add 28 (k 1)),m 28 42]
def cj:=[o 43 (.ld true 3 4),m 44 7,n (.st 3 2 43),m 3 44]
def l1:=(s (p r4) (s (i 16 .skip (x 0)) (s (b 1 (s (d r5 [16,17,18]) (d r6 [6,19,20,21]))) (d r7 [22]))))
def l2:=(s (p CG) (s (i 29 .skip (x 2)) (s (b 3 (s (d CP [29,30,31,32]) (d y8 [8,9,33,34,35,36,37,38,39,40,41]))) (d DG [42]))))
def c:=(s (d r0 [3]) (s (d r1 [10,11]) (s (d r2 [12]) (s (s (p r3) (b 0 (w l1))) (s (d r8 [13,14,15,16,23,24,25]) (s (s (d r9 [0]) (b 2 (w l2))) (s (d cj [4,7,26,27,28,29,43,44]) .ret)))))))
end LK
def LK:AFn:=⟨1,LK.c,[.cell 2 true 3,.tmp 3],false⟩
structure aj (L:Lib):Prop extends k6 L where
 LN:L 256=some F.LN
 LJ:L 257=some F.LJ
 LI:L 258=some F.LI
 LK:L 259=some F.LK
end Go.e9.F

namespace Go.e9.F
open C
namespace LL
def r0:=[o 2 (.a9 (.c .nil))]
def r1:=[m 5 0,o 6 (.mk 6 3 56 [(.bool false),.nil,.nil] 5 5),m 3 6]
def r2:=[m 7 3,o 8 (.len 7),o 9 (.a9 (k 0))]
def r3:=[o 10 (.bin .lss 9 8)]
def r4:=[m 11 9,m 4 11]
def r5:=[m 12 3,m 13 4,o 14 (.call 96 [(k 0)]),o 15 (.a7 none 3 12 13),n (.st 3 15 14)]
def r6:=[o 16 (.bin .add 9 (k 1)),m 9 16]
def r7:=[m 17 3,m 2 17]
def l1:=(s (p r3) (s (i 10 .skip (x 0)) (s (b 1 (s (d r4 [10,11]) (d r5 [4,12,13,14,15]))) (d r6 [16]))))
def c:=(s (d r0 [2]) (s (d r1 [0,5,6]) (s (s (d r2 [7]) (b 0 (w l1))) (s (d r7 [3,8,9,10,17]) .ret))))
end LL
def LL:AFn:=⟨1,LL.c,[.tmp 2],false⟩
namespace I7
def r0:=[o 4 (.a9 (.c .nil))]
def r1:=[m 15 0,o 16 (.call 259 [15]),m 14 16,o 17 (.ext 14 0),o 18 (.ext 14 1),o 5 (.alloc 5 [(.bool false),.nil,.nil]),n (.st 3 5 17),m 6 18]
def r2:=[m 20 1,o 21 (.call 259 [20]),m 19 21,o 22 (.ext 19 0),o 23 (.ext 19 1),o 7 (.alloc 7 [(.bool false),.nil,.nil]),n (.st 3 7 22),m 8 23]
def r3:=[m 24 6,o 25 (.len 24),o 26 (.bin .eql 25 (k 0)),m 27 26,g 28 27 false (.a9 8),g 29 27 false (.len 28),g 30 27 false (.bin .eql 29 (k 0)),
 o 31 (.pick 27 (.c (.bool true)) 30)]
def r4:=[o 4 (.a9 (.c .nil))]
def r5:=[m 32 6,o 33 (.len 32),m 34 8,o 35 (.len 34),o 36 (.bin .add 33 35),o 37 (.bin .sub 36 (k 1)),o 38 (.m6 38 273 [37]),m 9 38]
def r6:=[m 39 6,o 40 (.len 39),o 41 (.a9 (k 0))]
def r7:=[o 42 (.bin .lss 41 40)]
def r8:=[m 43 41,o 44 (.a7 none 3 39 41),o 45 (.ld true 3 44),o 11 (.alloc 11 [(.bool false),.nil,.nil]),m 10 43,n (.st 3 11 45)]
def r9:=[m 46 8,o 47 (.len 46),o 48 (.a9 (k 0))]
def CG:=[o 49 (.bin .lss 48 47)]
def CP:=[m 50 48,o 51 (.a7 none 3 46 48),o 52 (.ld true 3 51),o 13 (.alloc 13 [(.bool false),.nil,.nil]),m 12 50,n (.st 3 13 52)]
def y8:=[m 53 9,m 54 10,m 55 12,o 56 (.bin .add 54 55),m 57 9,m 58 10,m 59 12,o 60 (.bin .add 58 59),o 61 (.a7 none 3 57 60),o 62 (.ld true 3 61),
 o 63 (.ld true 3 11),o 64 (.ld true 3 13),o 65 (.call 99 [63,64]),o 66 (.call 98 [62,65]),o 67 (.a7 none 3 53 56),n (.st 3 67 66)]
def DG:=[o 68 (.bin .add 48 (k 1)),m 48 68]
def cj:=[o 69 (.bin .add 41 (k 1)),m 41 69]
def ea:=[m 70 9,o 71 (.ld true 3 5),o 72 (.ld true 3 7),o 73 (.call 99 [71,72]),o 74 (.call 190 [70,73]),m 4 74]
def l2:=(s (p CG) (s (i 49 .skip (x 2)) (s (b 3 (s (d CP [49,50,51,52]) (e y8 [12,13,53,54,55,56,57,58,59,60,61,62,63,64,65,66,67]))) (d DG [68]))))
def l1:=(s (p r7) (s (i 42 .skip (x 0)) (s (b 1 (s (d r8 [42,43,44,45]) (s (p r9) (b 2 (w l2))))) (d cj [10,11,46,47,48,49,69]))))
def c:=(s (d r0 [4]) (s (d r1 [0,14,15,16,17,18]) (s (d r2 [1,19,20,21,22,23]) (s (s (d r3 [24,25,26,27,28,29,30]) (i 31 (s (d r4 [5,6,7,8,31]) .ret) .skip)) (s (d r5 [31,32,33,34,35,36,37,38]) (s (s (d r6 [6]) (b 0 (w l1))) (s (d ea [5,7,8,9,39,40,41,42,70,71,72,73,74]) .ret)))))))
end I7
def I7:AFn:=⟨2,I7.c,[.tmp 4],false⟩
structure y9 (L:Lib):Prop extends aj L where
 LL:L 273=some F.LL
 I7:L 274=some F.I7
end Go.e9.F

namespace Go.e9.F
open C
namespace NL
def r0:=[o 4 (.a9 (k 0))]
def r1:=[m 5 1,o 6 (.bin .lss 5 (k 1))]
def r2:=[o 4 (.a9 (k 0))]
def r3:=[m 7 0,m 8 1,o 9 (.bin .rem 7 8),m 0 9]
def r4:=[m 10 0,o 11 (.bin .lss 10 (k 0))]
def r5:=[m 12 0,m 13 1,o 14 (.bin .add 12 13),m 0 14]
def r6:=[m 15 0,m 4 15]
def c:=(s (d r0 [4]) (s (s (d r1 [5]) (i 6 (s (d r2 [0,1,6]) .ret) .skip)) (s (d r3 [6,7,8,9]) (s (s (d r4 [10]) (i 11 (d r5 [1,11,12,13,14]) .skip)) (s (d r6 [0,1,11,15]) .ret)))))
end NL
def NL:AFn:=⟨2,NL.c,[.tmp 4],false⟩
namespace NI
def r0:=[o 4 (.a9 (k 0))]
def r1:=[m 5 1,o 6 (.bin .geq 5 (k 0)),m 7 6,g 8 7 true (.a9 1),g 9 7 true (.a9 0),g 10 7 true (.len 9),g 11 7 true (.bin .lss 8 10),
 o 12 (.pick 7 11 (.c (.bool false)))]
def r2:=[m 13 0,m 14 1,o 15 (.a7 none 1 13 14),o 16 (.ld false 1 15),m 4 16]
def r3:=[o 4 (.a9 (k 0))]
def c:=(s (d r0 [4]) (s (s (d r1 [5,6,7,8,9,10,11]) (i 12 (s (d r2 [0,1,12,13,14,15,16]) .ret) .skip)) (s (d r3 [0,1,12]) .ret)))
end NI
def NI:AFn:=⟨2,NI.c,[.tmp 4],false⟩
structure s9 (L:Lib):Prop extends ft L where
 NL:L 34=some F.NL
 NI:L 35=some F.NI
end Go.e9.F

namespace Go.e9.F
open C
namespace NJ
def r0:=[o 4 (.a9 (.c .nil))]
def r1:=[o 5 (.ah 5 3)]
def r2:=[o 6 (.a9 (k 0))]
def r3:=[m 8 6,m 9 1,o 10 (.bin .lss 8 9)]
def r5:=[m 13 0,m 14 6,o 15 (.call 35 [13,14]),o 16 (.call 34 [15,(k 2000)]),m 7 16]
def r6:=[m 17 5,m 18 7,o 19 (.bin .rem 18 (k 25)),o 20 (.bin .sub 19 (k 12)),m 21 7,o 22 (.bin .quo 21 (k 25)),o 23 (.bin .rem 22 (k 8)),
 o 24 (.bin .add (k 1) 23),o 25 (.call 125 [20,24]),o 26 (.c4 26 3 [25]),o 27 (.app 27 3 56 17 26),m 5 27]
def r4:=[m 11 6,o 12 (.bin .add 11 (k 1)),m 6 12]
def r7:=[m 28 5,m 4 28]
def l1:=(s (s (d r3 [8,9]) (i 10 .skip (x 0))) (s (b 1 (s (d r5 [10,13,14,15,16]) (d r6 [7,17,18,19,20,21,22,23,24,25,26,27]))) (d r4 [11,12])))
def c:=(s (d r0 [4]) (s (p r1) (s (s (p r2) (b 0 (w l1))) (s (d r7 [0,1,5,6,10,28]) .ret))))
end NJ
def NJ:AFn:=⟨2,NJ.c,[.tmp 4],false⟩
namespace NK
def r0:=[o 4 (.alloc 4 [.nil,.nil,.nil,(.bool false),.nil,.nil])]
def r1:=[m 8 0,m 9 1,m 10 1,o 11 (.bin .mul 9 10),m 12 1,o 13 (.bin .mul (k 2) 12),o 14 (.bin .add 11 13),o 15 (.bin .add 14 (k 1)),o 16 (.call 141 [8,15]),
 m 5 16]
def r2:=[m 17 5,m 18 1,m 19 1,o 20 (.bin .mul 18 19),m 21 1,m 22 1,o 23 (.bin .mul 21 22),m 24 1,o 25 (.bin .add 23 24),o 26 (.ew 3 17 (some 20) (some 25)),
 m 27 5,m 28 1,m 29 1,o 30 (.bin .mul 28 29),m 31 1,o 32 (.bin .add 30 31),m 33 1,m 34 1,o 35 (.bin .mul 33 34),m 36 1,o 37 (.bin .mul (k 2) 36),
 o 38 (.bin .add 35 37),o 39 (.ew 3 27 (some 32) (some 38)),m 40 5,m 41 1,m 42 1,o 43 (.bin .mul 41 42),m 44 1,o 45 (.bin .mul (k 2) 44),
 o 46 (.bin .add 43 45),o 47 (.a7 none 3 40 46),q 48 [6] (.ld true 3 47),
 o 49 (.build [.nil,.nil,.nil,(.bool false),.nil,.nil] [(1,1,26),(2,1,39),(3,3,48)]),o 6 (.alloc 6 [.nil,.nil,.nil,(.bool false),.nil,.nil]),
 n (.st 6 6 49)]
def r3:=[o 7 (.a9 (k 0))]
def r4:=[m 50 7,m 51 1,o 52 (.bin .lss 50 51)]
def r6:=[o 55 (.a5 6 0),q 56 [67] (.ld false 1 55),m 57 5,m 58 7,m 59 1,o 60 (.bin .mul 58 59),m 61 7,m 62 1,o 63 (.bin .mul 61 62),m 64 1,
 o 65 (.bin .add 63 64),o 66 (.ew 3 57 (some 60) (some 65)),o 67 (.c4 67 1 [66]),o 68 (.app 68 1 24 56 67),o 69 (.a5 6 0),n (.st 1 69 68)]
def r5:=[m 53 7,o 54 (.bin .add 53 (k 1)),m 7 54]
def r7:=[o 70 (.ld true 6 6),n (.st 6 4 70)]
def l1:=(s (s (d r4 [50,51]) (i 52 .skip (x 0))) (s (b 1 (e r6 [52,55,56,57,58,59,60,61,62,63,64,65,66,67,68,69])) (d r5 [53,54])))
def c:=(s (p r0) (s (d r1 [0,8,9,10,11,12,13,14,15,16]) (s (e r2 [17,18,19,20,21,22,23,24,25,26,27,28,29,30,31,32,33,34,35,36,37,38,39,40,41,42,43,44,45,46,47,48,49]) (s (s (p r3) (b 0 (w l1))) (s (d r7 [1,5,6,7,52,70]) .ret)))))
end NK
def NK:AFn:=⟨2,NK.c,[.cell 4 true 6],false⟩
structure au (L:Lib):Prop extends s9 L,b8 L where
 NJ:L 141=some F.NJ
 NK:L 142=some F.NK
end Go.e9.F

namespace Go.e9.F
open C
namespace MV
def r0:=[o 2 (.box 2 0),o 3 (.box 3 1),o 4 (.a9 (.c (.bool false)))]
def r1:=[o 6 (.a5 2 0),o 7 (.ld false 1 6),o 8 (.len 7),o 9 (.a5 3 0),o 10 (.ld false 1 9),o 11 (.len 10),o 12 (.bin .neq 8 11),m 13 12,
 g 14 13 false (.a5 2 1),g 15 13 false (.ld false 1 14),g 16 13 false (.a5 3 1),g 17 13 false (.ld false 1 16),g 18 13 false (.call 129 [15,17]),
 g 19 13 false (.un .not 18),o 20 (.pick 13 (.c (.bool true)) 19),m 21 20,g 22 21 false (.a5 2 2),g 23 21 false (.ld false 1 22),
 g 24 21 false (.a5 3 2),g 25 21 false (.ld false 1 24),g 26 21 false (.call 129 [23,25]),g 27 21 false (.un .not 26),
 o 28 (.pick 21 (.c (.bool true)) 27),m 29 28,g 30 29 false (.a5 2 3),g 31 29 false (.ld true 3 30),g 32 29 false (.a5 3 3),
 g 33 29 false (.ld true 3 32),g 34 29 false (.call 127 [31,33]),g 35 29 false (.bin .neq 34 (k 0)),o 36 (.pick 29 (.c (.bool true)) 35)]
def r2:=[o 4 (.a9 (.c (.bool false)))]
def r3:=[o 5 (.a9 (k 0))]
def r4:=[m 37 5,o 38 (.a5 2 0),o 39 (.ld false 1 38),o 40 (.len 39),o 41 (.bin .lss 37 40)]
def r6:=[o 44 (.a5 2 0),o 45 (.ld false 1 44),m 46 5,o 47 (.a7 none 1 45 46),o 48 (.ld false 1 47),o 49 (.a5 3 0),o 50 (.ld false 1 49),m 51 5,
 o 52 (.a7 none 1 50 51),o 53 (.ld false 1 52),o 54 (.call 129 [48,53]),o 55 (.un .not 54)]
def r7:=[o 4 (.a9 (.c (.bool false)))]
def r5:=[m 42 5,o 43 (.bin .add 42 (k 1)),m 5 43]
def r8:=[o 4 (.a9 (.c (.bool true)))]
def l1:=(s (s (d r4 [37,38,39,40]) (i 41 .skip (x 0))) (s (b 1 (s (e r6 [41,44,45,46,47,48,49,50,51,52,53,54]) (i 55 (s (d r7 [2,3,5,55]) .ret) .skip))) (d r5 [42,43,55])))
def c:=(s (d r0 [0,1,4]) (s (s (d r1 [6,7,8,9,10,11,12,13,14,15,16,17,18,19,20,21,22,23,24,25,26,27,28,29,30,31,32,33,34,35]) (i 36 (s (d r2 [2,3,36]) .ret) .skip)) (s (s (d r3 [36]) (b 0 (w l1))) (s (d r8 [2,3,5,41]) .ret))))
end MV
def MV:AFn:=⟨2,MV.c,[.tmp 4],false⟩
structure bz (L:Lib):Prop extends iy L,w6 L,q9 L where
 MV:L 167=some F.MV
end Go.e9.F

namespace Go.e9.F
open C
structure nh (L:Lib):Prop extends ml L,s9 L where
structure fr (L:Lib):Prop extends nh L where
end Go.e9.F

namespace Go.e9.F
open C
namespace MU
def r0:=[o 2 (.box 2 0),o 3 (.box 3 1),o 4 (.a9 (.c (.bool false)))]
def r1:=[o 5 (.a5 2 0),o 6 (.ld false 1 5),o 7 (.a5 3 0),o 8 (.ld false 1 7),o 9 (.call 173 [6,8]),m 10 9,g 11 10 true (.a5 2 1),
 g 12 10 true (.ld false 1 11),g 13 10 true (.a5 3 1),g 14 10 true (.ld false 1 13),g 15 10 true (.call 173 [12,14]),
 o 16 (.pick 10 15 (.c (.bool false))),m 4 16]
def c:=(s (d r0 [0,1,4]) (s (d r1 [2,3,5,6,7,8,9,10,11,12,13,14,15,16]) .ret))
end MU
def MU:AFn:=⟨2,MU.c,[.tmp 4],false⟩
structure di (L:Lib):Prop extends fr L,w6 L,bm L,ak L where
 MU:L 176=some F.MU
end Go.e9.F

namespace Go.e9.F
open C
namespace KM
def r0:=[o 0 (.a9 (.c (.bool false)))]
def r1:=[o 5 (.call 124 [(k 1)]),o 6 (.call 125 [(k 1),(k 2)]),o 1 (.alloc 1 [(.bool false),.nil,.nil]),o 2 (.alloc 2 [(.bool false),.nil,.nil]),n (.st 3 1 5),
 n (.st 3 2 6)]
def r2:=[q 8 [13,3] (.ld true 3 1),o 9 (.c4 9 3 [8]),q 10 [9,3] (.ld true 3 1),q 11 [9,3] (.ld true 3 2),
 q 12 [9,3] (.call 152 [11]),o 13 (.c4 13 3 [10,12]),o 14 (.build [.nil,.nil] [(0,1,9),(1,1,13)]),q 15 [3] (.call 207 [14]),
 m 7 15,o 16 (.ext 7 0),o 17 (.ext 7 1),o 3 (.alloc 3 [.nil,.nil,.nil,(.bool false),.nil,.nil]),n (.st 6 3 16),m 4 17]
def r3:=[m 18 4,o 19 (.bin .eql 18 (k 0)),m 20 19,g 21 20 true (.ld true 6 3),g 22 20 true (.ld true 3 2),g 23 20 true (.c4 23 3 [22]),
 g 24 20 true (.c4 24 1 [23]),g 25 20 true (.ld true 3 1),g 26 20 true (.c4 26 3 [25]),g 27 20 true (.ld true 3 2),g 28 20 true (.c4 28 3 [27]),
 g 29 20 true (.ld true 3 1),g 30 20 true (.build [.nil,.nil,.nil,(.bool false),.nil,.nil] [(0,1,24),(1,1,26),(2,1,28),(3,3,29)]),
 g 31 20 true (.call 167 [21,30]),o 32 (.pick 20 31 (.c (.bool false))),m 0 32]
def c:=(s (d r0 [0]) (s (d r1 [5,6]) (s (e r2 [7,8,9,10,11,12,13,14,15,16,17]) (s (d r3 [1,2,3,4,18,19,20,21,22,23,24,25,26,27,28,29,30,31,32]) .ret))))
end KM
def KM:AFn:=⟨0,KM.c,[.tmp 0],false⟩
structure fj (L:Lib):Prop extends k6 L,bz L,di L,au L where
 KM:L 215=some F.KM
end Go.e9.F

namespace Go.e9.F
open C
def SF:Nat:=73
namespace JI
def r0:=[o 4 (.a9 (.c .nil))]
def r1:=[m 8 0,o 9 (.len 8),o 10 (.mk 369010 3 56 [(.bool false),.nil,.nil] 9 9),m 5 10]
def r2:=[m 11 0,o 12 (.len 11),o 13 (.a9 (k 0))]
def r3:=[o 14 (.bin .lss 13 12)]
def r4:=[m 15 13,o 16 (.a7 none 3 11 13),o 17 (.ld true 3 16),o 7 (.alloc 369007 [(.bool false),.nil,.nil]),m 6 15,n (.st 3 7 17)]
def r5:=[m 18 5,m 19 6,m 20 1,o 21 (.ld true 3 7),o 22 (.o0 20 [21]),o 23 (.a7 none 3 18 19),n (.st 3 23 22)]
def r6:=[o 24 (.bin .add 13 (k 1)),m 13 24]
def r7:=[m 25 5,m 4 25]
def l1:=(s (p r3) (s (i 14 .skip (x 0)) (s (b 1 (s (d r4 [14,15,16,17]) (d r5 [6,7,18,19,20,21,22,23]))) (d r6 [24]))))
def c:=(s (d r0 [4]) (s (d r1 [8,9,10]) (s (s (d r2 [0]) (b 0 (w l1))) (s (d r7 [1,5,11,12,13,14,25]) .ret))))
end JI
def JI:AFn:=⟨2,JI.c,[.tmp 4],false⟩
namespace NE
def r0:=[o 2 (.a9 (.c .nil))]
def r1:=[m 3 0,o 4 (.e8 369 [3,(.c (.fn true 95 SF []))]),m 2 4]
def c:=(s (d r0 [2]) (s (d r1 [0,3,4]) .ret))
end NE
def NE:AFn:=⟨1,NE.c,[.tmp 2],false⟩
namespace ND
def r0:=[o 2 (.box 371002 0),o 3 (.alloc 371003 [(.bool false),.nil,.nil])]
def r1:=[o 4 (.ld true 3 2),o 5 (.ld true 3 1),o 6 (.call 99 [4,5]),n (.st 3 3 6)]
def c:=(s (d r0 [0]) (s (d r1 [1,2,4,5,6]) .ret))
end ND
def ND:AFn:=⟨2,ND.c,[.cell 3 true 3],false⟩
namespace NC
def r0:=[o 3 (.box 3 1),o 4 (.a9 (.c .nil))]
def r1:=[m 5 0,o 6 (.mh false 371 [3]),o 7 (.e8 369 [5,6]),m 4 7]
def c:=(s (d r0 [1,4]) (s (d r1 [0,3,5,6,7]) .ret))
end NC
def NC:AFn:=⟨2,NC.c,[.tmp 4],false⟩
namespace NA
def r0:=[o 2 (.box 2 0),o 3 (.box 3 1),o 4 (.a9 (k 0))]
def r1:=[o 5 (.ld true 6 2),o 6 (.call 130 [5]),o 7 (.un .not 6),m 8 7,g 9 8 false (.ld true 6 3),g 10 8 false (.call 130 [9]),g 11 8 false (.un .not 10),
 o 12 (.pick 8 (.c (.bool true)) 11)]
def r2:=[o 4 (.a9 (k 2))]
def r3:=[o 13 (.a5 2 0),o 14 (.ld false 1 13),o 15 (.len 14),o 16 (.a5 3 0),o 17 (.ld false 1 16),o 18 (.len 17),o 19 (.bin .add 15 18),
 o 20 (.bin .gtr 19 (k 16))]
def r4:=[o 4 (.a9 (k 12))]
def r5:=[o 4 (.a9 (k 0))]
def c:=(s (d r0 [0,1,4]) (s (s (d r1 [5,6,7,8,9,10,11]) (i 12 (s (d r2 [2,3,12]) .ret) .skip)) (s (s (d r3 [2,3,12,13,14,15,16,17,18,19]) (i 20 (s (d r4 [20]) .ret) .skip)) (s (d r5 [20]) .ret))))
end NA
def NA:AFn:=⟨2,NA.c,[.tmp 4],false⟩
namespace JH
def r0:=[o 4 (.a9 (.c .nil))]
def r1:=[o 5 (.ah 374005 1)]
def r2:=[m 10 0,o 11 (.len 10),o 12 (.a9 (k 0))]
def r3:=[o 13 (.bin .lss 12 11)]
def r4:=[o 14 (.a7 none 1 10 12),o 15 (.ld false 1 14),m 7 15]
def r5:=[m 16 5,m 17 7,o 18 (.m6 374018 370 [17]),m 19 1,o 20 (.len 19),o 21 (.call 206 [20]),o 22 (.app 374022 3 56 18 21),o 23 (.c4 374023 1 [22]),
 o 24 (.app 374024 1 24 16 23),m 5 24]
def r6:=[o 25 (.bin .add 12 (k 1)),m 12 25]
def r7:=[m 26 1,o 27 (.len 26),o 28 (.a9 (k 0))]
def r8:=[o 29 (.bin .lss 28 27)]
def r9:=[o 30 (.a7 none 1 26 28),o 31 (.ld false 1 30),m 9 31]
def CG:=[m 32 5,m 33 0,o 34 (.len 33),o 35 (.m6 374035 206 [34]),m 36 9,o 37 (.call 370 [36]),o 38 (.app 374038 3 56 35 37),o 39 (.c4 374039 1 [38]),
 o 40 (.app 374040 1 24 32 39),m 5 40]
def CP:=[o 41 (.bin .add 28 (k 1)),m 28 41]
def y8:=[m 42 5,m 4 42]
def l1:=(s (p r3) (s (i 13 .skip (x 0)) (s (b 1 (s (d r4 [13,14,15]) (d r5 [7,16,17,18,19,20,21,22,23,24]))) (d r6 [25]))))
def l2:=(s (p r8) (s (i 29 .skip (x 2)) (s (b 3 (s (d r9 [29,30,31]) (d CG [9,32,33,34,35,36,37,38,39,40]))) (d CP [41]))))
def c:=(s (d r0 [4]) (s (p r1) (s (s (p r2) (b 0 (w l1))) (s (s (d r7 [1,10,11,12,13]) (b 2 (w l2))) (s (d y8 [0,5,26,27,28,29,42]) .ret)))))
end JH
def JH:AFn:=⟨2,JH.c,[.tmp 4],false⟩
namespace M8
def r0:=[o 2 (.box 2 0),o 3 (.box 3 1),o 4 (.alloc 4 [.nil,.nil,.nil,(.bool false),.nil,.nil]),o 5 (.a9 (k 0))]
def r1:=[o 12 (.ld true 6 2),o 13 (.ld true 6 3),o 14 (.call 373 [12,13]),m 6 14]
def r2:=[m 15 6,o 16 (.bin .neq 15 (k 0))]
def r3:=[o 17 (.build [.nil,.nil,.nil,(.bool false),.nil,.nil] []),m 18 6,n (.st 6 4 17),m 5 18]
def r4:=[o 19 (.a5 2 0),o 20 (.ld false 1 19),o 21 (.a5 3 0),o 22 (.ld false 1 21),o 23 (.e8 374 [20,22]),m 7 23]
def r5:=[o 24 (.a5 3 1),o 25 (.ld false 1 24),o 26 (.len 25),o 27 (.a9 (k 0))]
def r6:=[o 28 (.bin .lss 27 26)]
def r7:=[m 29 27,o 30 (.a7 none 3 25 27),o 31 (.ld true 3 30),o 9 (.alloc 9 [(.bool false),.nil,.nil]),m 8 29,n (.st 3 9 31)]
def r8:=[o 32 (.a5 2 2),o 33 (.ld false 1 32),o 34 (.len 33),o 35 (.a9 (k 0))]
def r9:=[o 36 (.bin .lss 35 34)]
def CG:=[m 37 35,o 38 (.a7 none 3 33 35),o 39 (.ld true 3 38),o 11 (.alloc 11 [(.bool false),.nil,.nil]),m 10 37,n (.st 3 11 39)]
def CP:=[m 40 7,o 41 (.a5 2 0),o 42 (.ld false 1 41),o 43 (.len 42),m 44 8,o 45 (.bin .add 43 44),o 46 (.a7 none 1 40 45),o 47 (.ld false 1 46),m 48 10,
 o 49 (.ld true 3 9),o 50 (.ld true 3 11),o 51 (.call 99 [49,50]),o 52 (.a7 none 3 47 48),n (.st 3 52 51)]
def y8:=[o 53 (.bin .add 35 (k 1)),m 35 53]
def DG:=[o 54 (.bin .add 27 (k 1)),m 27 54]
def cj:=[m 55 7,o 56 (.a5 2 1),o 57 (.ld false 1 56),o 58 (.m6 58 370 [57]),o 59 (.a5 3 1),q 60 [58] (.ld false 1 59),o 61 (.a5 2 3),
 q 62 [58] (.ld true 3 61),o 63 (.call 372 [60,62]),o 64 (.v9 58 3 56 58 63),o 65 (.a5 2 2),q 66 [58] (.ld false 1 65),
 o 67 (.a5 3 3),q 68 [58] (.ld true 3 67),o 69 (.m6 69 372 [66,68]),o 70 (.a5 3 2),q 71 [58,69] (.ld false 1 70),
 o 72 (.call 370 [71]),o 73 (.v9 69 3 56 69 72),o 74 (.a5 2 3),q 75 [58,69] (.ld true 3 74),o 76 (.a5 3 3),
 q 77 [58,69] (.ld true 3 76),o 78 (.call 99 [75,77]),
 o 79 (.build [.nil,.nil,.nil,(.bool false),.nil,.nil] [(0,1,55),(1,1,64),(2,1,73),(3,3,78)]),n (.st 6 4 79),o 5 (.a9 (k 0))]
def l2:=(s (p r9) (s (i 36 .skip (x 2)) (s (b 3 (s (d CG [36,37,38,39]) (e CP [10,11,40,41,42,43,44,45,46,47,48,49,50,51,52]))) (d y8 [53]))))
def l1:=(s (p r6) (s (i 28 .skip (x 0)) (s (b 1 (s (d r7 [28,29,30,31]) (s (d r8 [32]) (b 2 (w l2))))) (d DG [8,9,33,34,35,36,54]))))
def c:=(s (d r0 [0,1,5]) (s (s (d r1 [12,13,14]) (s (d r2 [15]) (i 16 (s (d r3 [2,3,6,16,17,18]) .ret) .skip))) (s (d r4 [6,16,19,20,21,22,23]) (s (s (d r5 [24]) (b 0 (w l1))) (s (e cj [2,3,7,25,26,27,28,55,56,57,58,59,60,61,62,63,64,65,66,67,68,69,70,71,72,73,74,75,76,77,78,79]) .ret)))))
end M8
def M8:AFn:=⟨2,M8.c,[.cell 4 true 6,.tmp 5],false⟩
namespace M7
def r0:=[o 2 (.box 2 0),o 3 (.box 3 1),o 4 (.alloc 4 [.nil,.nil,.nil,(.bool false),.nil,.nil]),o 5 (.a9 (k 0))]
def r1:=[o 7 (.ld true 6 2),o 8 (.ld true 6 3),o 9 (.call 373 [7,8]),m 6 9]
def r2:=[m 10 6,o 11 (.bin .neq 10 (k 0))]
def r3:=[o 12 (.build [.nil,.nil,.nil,(.bool false),.nil,.nil] []),m 13 6,n (.st 6 4 12),m 5 13]
def r4:=[o 14 (.a5 2 0),o 15 (.ld false 1 14),o 16 (.a5 3 0),o 17 (.ld false 1 16),o 18 (.call 374 [15,17]),o 19 (.a5 2 1),o 20 (.ld false 1 19),
 o 21 (.m6 21 370 [20]),o 22 (.a5 3 1),q 23 [21] (.ld false 1 22),o 24 (.call 370 [23]),o 25 (.v9 21 3 56 21 24),o 26 (.a5 2 2),
 q 27 [21] (.ld false 1 26),o 28 (.m6 28 370 [27]),o 29 (.a5 3 2),q 30 [21,28] (.ld false 1 29),o 31 (.call 370 [30]),
 o 32 (.v9 28 3 56 28 31),o 33 (.a5 2 3),q 34 [21,28] (.ld true 3 33),o 35 (.a5 3 3),q 36 [21,28] (.ld true 3 35),
 o 37 (.call 98 [34,36]),o 38 (.build [.nil,.nil,.nil,(.bool false),.nil,.nil] [(0,1,18),(1,1,25),(2,1,32),(3,3,37)]),n (.st 6 4 38),
 o 5 (.a9 (k 0))]
def c:=(s (d r0 [0,1,5]) (s (s (d r1 [7,8,9]) (s (d r2 [10]) (i 11 (s (d r3 [2,3,6,11,12,13]) .ret) .skip))) (s (e r4 [2,3,6,11,14,15,16,17,18,19,20,21,22,23,24,25,26,27,28,29,30,31,32,33,34,35,36,37,38]) .ret)))
end M7
def M7:AFn:=⟨2,M7.c,[.cell 4 true 6,.tmp 5],false⟩
namespace E1
def r0:=[o 2 (.box 2 0),o 3 (.box 3 1),o 4 (.alloc 4 [.nil,.nil,.nil,(.bool false),.nil,.nil]),o 5 (.a9 (k 0))]
def r1:=[o 13 (.ld true 6 2),o 14 (.call 136 [13]),o 15 (.un .not 14),m 16 15,g 17 16 false (.ld true 6 3),g 18 16 false (.call 136 [17]),
 g 19 16 false (.un .not 18),o 20 (.pick 16 (.c (.bool true)) 19)]
def r2:=[o 21 (.build [.nil,.nil,.nil,(.bool false),.nil,.nil] []),n (.st 6 4 21),o 5 (.a9 (k 2))]
def r3:=[o 22 (.a5 2 0),o 23 (.ld false 1 22),o 24 (.len 23),o 25 (.a5 3 0),o 26 (.ld false 1 25),o 27 (.len 26),m 6 24,m 7 27]
def r4:=[m 28 6,m 29 7,o 30 (.bin .add 28 29),o 31 (.bin .gtr 30 (k 16))]
def r5:=[o 32 (.build [.nil,.nil,.nil,(.bool false),.nil,.nil] []),n (.st 6 4 32),o 5 (.a9 (k 12))]
def r6:=[o 33 (.a5 2 3),o 34 (.ld true 3 33),o 35 (.a5 3 3),o 36 (.ld true 3 35),o 37 (.call 128 [34,36]),
 o 38 (.build [.nil,.nil,.nil,(.bool false),.nil,.nil] [(3,3,37)]),o 8 (.alloc 8 [.nil,.nil,.nil,(.bool false),.nil,.nil]),n (.st 6 8 38)]
def r7:=[o 9 (.a9 (k 0))]
def r8:=[m 39 9,m 40 6,o 41 (.bin .lss 39 40)]
def CG:=[o 44 (.a5 8 0),q 45 [46,56] (.ld false 1 44),o 46 (.c4 46 3 []),o 47 (.a5 2 0),q 48 [46] (.ld false 1 47),m 49 9,
 o 50 (.a7 none 1 48 49),q 51 [46] (.ld false 1 50),o 52 (.v9 46 3 56 46 51),m 53 7,o 54 (.call 210 [53]),o 55 (.v9 46 3 56 52 54),
 o 56 (.c4 56 1 [55]),o 57 (.app 57 1 24 45 56),o 58 (.a5 8 0),n (.st 1 58 57)]
def CP:=[o 59 (.a5 8 1),q 60 [66] (.ld false 1 59),o 61 (.a5 2 1),o 62 (.ld false 1 61),m 63 9,o 64 (.a7 none 3 62 63),o 65 (.ld true 3 64),
 o 66 (.c4 66 3 [65]),o 67 (.app 67 3 56 60 66),o 68 (.a5 8 1),n (.st 1 68 67)]
def y8:=[o 69 (.a5 8 2),q 70 [79] (.ld false 1 69),o 71 (.a5 3 3),o 72 (.ld true 3 71),o 73 (.a5 2 2),o 74 (.ld false 1 73),m 75 9,
 o 76 (.a7 none 3 74 75),o 77 (.ld true 3 76),o 78 (.call 128 [72,77]),o 79 (.c4 79 3 [78]),o 80 (.app 80 3 56 70 79),o 81 (.a5 8 2),
 n (.st 1 81 80)]
def r9:=[m 42 9,o 43 (.bin .add 42 (k 1)),m 9 43]
def DG:=[o 10 (.a9 (k 0))]
def cj:=[m 82 10,m 83 7,o 84 (.bin .lss 82 83)]
def fq:=[o 11 (.ah 11 3)]
def F7:=[o 12 (.a9 (k 0))]
def gq:=[m 87 12,m 88 6,o 89 (.bin .lss 87 88)]
def mi:=[m 92 11,o 93 (.a5 3 1),o 94 (.ld false 1 93),m 95 10,o 96 (.a7 none 3 94 95),o 97 (.ld true 3 96),o 98 (.a5 2 2),o 99 (.ld false 1 98),m 100 12,
 o 101 (.a7 none 3 99 100),o 102 (.ld true 3 101),o 103 (.call 128 [97,102]),o 104 (.c4 104 3 [103]),o 105 (.app 105 3 56 92 104),m 11 105]
def jx:=[m 90 12,o 91 (.bin .add 90 (k 1)),m 12 91]
def ns:=[o 106 (.a5 8 0),q 107 [11,115] (.ld false 1 106),m 108 11,o 109 (.a5 3 0),o 110 (.ld false 1 109),m 111 10,o 112 (.a7 none 1 110 111),
 o 113 (.ld false 1 112),o 114 (.v9 11 3 56 108 113),o 115 (.c4 115 1 [114]),o 116 (.app 116 1 24 107 115),o 117 (.a5 8 0),n (.st 1 117 116)]
def nt:=[o 118 (.a5 8 1),q 119 [128] (.ld false 1 118),o 120 (.a5 3 1),o 121 (.ld false 1 120),m 122 10,o 123 (.a7 none 3 121 122),
 o 124 (.ld true 3 123),o 125 (.a5 2 3),o 126 (.ld true 3 125),o 127 (.call 128 [124,126]),o 128 (.c4 128 3 [127]),o 129 (.app 129 3 56 119 128),
 o 130 (.a5 8 1),n (.st 1 130 129)]
def pf:=[o 131 (.a5 8 2),q 132 [138] (.ld false 1 131),o 133 (.a5 3 2),o 134 (.ld false 1 133),m 135 10,o 136 (.a7 none 3 134 135),
 o 137 (.ld true 3 136),o 138 (.c4 138 3 [137]),o 139 (.app 139 3 56 132 138),o 140 (.a5 8 2),n (.st 1 140 139)]
def ea:=[m 85 10,o 86 (.bin .add 85 (k 1)),m 10 86]
def LM:=[o 141 (.ld true 6 8),n (.st 6 4 141),o 5 (.a9 (k 0))]
def l1:=(s (s (d r8 [39,40]) (i 41 .skip (x 0))) (s (b 1 (s (e CG [41,44,45,46,47,48,49,50,51,52,53,54,55,56,57,58]) (s (e CP [59,60,61,62,63,64,65,66,67,68]) (e y8 [69,70,71,72,73,74,75,76,77,78,79,80,81])))) (d r9 [42,43])))
def l3:=(s (s (d gq [87,88]) (i 89 .skip (x 4))) (s (b 5 (e mi [89,92,93,94,95,96,97,98,99,100,101,102,103,104,105])) (d jx [90,91])))
def l2:=(s (s (d cj [82,83]) (i 84 .skip (x 2))) (s (b 3 (s (d fq [84]) (s (s (p F7) (b 4 (w l3))) (s (e ns [11,12,89,106,107,108,109,110,111,112,113,114,115,116,117]) (s (e nt [118,119,120,121,122,123,124,125,126,127,128,129,130]) (e pf [131,132,133,134,135,136,137,138,139,140])))))) (d ea [85,86])))
def c:=(s (d r0 [0,1,5]) (s (s (d r1 [13,14,15,16,17,18,19]) (i 20 (s (d r2 [2,3,20,21]) .ret) .skip)) (s (e r3 [20,22,23,24,25,26,27]) (s (s (d r4 [28,29,30]) (i 31 (s (d r5 [2,3,6,7,31,32]) .ret) .skip)) (s (d r6 [31,33,34,35,36,37,38]) (s (s (p r7) (b 0 (w l1))) (s (s (d DG [9,41]) (b 2 (w l2))) (s (d LM [2,3,6,7,8,10,84,141]) .ret))))))))
end E1
def E1:AFn:=⟨2,E1.c,[.cell 4 true 6,.tmp 5],false⟩
namespace E0
def r0:=[o 2 (.box 2 0),o 3 (.box 3 1),o 4 (.alloc 4 [.nil,.nil,.nil,(.bool false),.nil,.nil]),o 5 (.a9 (k 0))]
def r1:=[o 11 (.ld true 6 2),o 12 (.call 136 [11]),o 13 (.un .not 12),m 14 13,g 15 14 false (.ld true 6 3),g 16 14 false (.call 136 [15]),
 g 17 14 false (.un .not 16),o 18 (.pick 14 (.c (.bool true)) 17)]
def r2:=[o 19 (.build [.nil,.nil,.nil,(.bool false),.nil,.nil] []),n (.st 6 4 19),o 5 (.a9 (k 2))]
def r3:=[o 20 (.a5 2 0),o 21 (.ld false 1 20),o 22 (.len 21),o 23 (.a5 3 0),o 24 (.ld false 1 23),o 25 (.len 24),m 6 22,m 7 25]
def r4:=[m 26 6,m 27 7,o 28 (.bin .add 26 27),o 29 (.bin .gtr 28 (k 16))]
def r5:=[o 30 (.build [.nil,.nil,.nil,(.bool false),.nil,.nil] []),n (.st 6 4 30),o 5 (.a9 (k 12))]
def r6:=[o 31 (.a5 2 3),o 32 (.ld true 3 31),o 33 (.a5 3 3),o 34 (.ld true 3 33),o 35 (.call 126 [32,34]),
 o 36 (.build [.nil,.nil,.nil,(.bool false),.nil,.nil] [(3,3,35)]),o 8 (.alloc 8 [.nil,.nil,.nil,(.bool false),.nil,.nil]),n (.st 6 8 36)]
def r7:=[o 9 (.a9 (k 0))]
def r8:=[m 37 9,m 38 6,o 39 (.bin .lss 37 38)]
def CG:=[o 42 (.a5 8 0),q 43 [44,54] (.ld false 1 42),o 44 (.c4 44 3 []),o 45 (.a5 2 0),q 46 [44] (.ld false 1 45),m 47 9,
 o 48 (.a7 none 1 46 47),q 49 [44] (.ld false 1 48),o 50 (.v9 44 3 56 44 49),m 51 7,o 52 (.call 210 [51]),o 53 (.v9 44 3 56 50 52),
 o 54 (.c4 54 1 [53]),o 55 (.app 55 1 24 43 54),o 56 (.a5 8 0),n (.st 1 56 55)]
def r9:=[m 40 9,o 41 (.bin .add 40 (k 1)),m 9 41]
def CP:=[o 10 (.a9 (k 0))]
def y8:=[m 57 10,m 58 7,o 59 (.bin .lss 57 58)]
def cj:=[o 62 (.a5 8 0),q 63 [65,72] (.ld false 1 62),m 64 6,o 65 (.m6 65 210 [64]),o 66 (.a5 3 0),q 67 [65] (.ld false 1 66),m 68 10,
 o 69 (.a7 none 1 67 68),q 70 [65] (.ld false 1 69),o 71 (.v9 65 3 56 65 70),o 72 (.c4 72 1 [71]),o 73 (.app 73 1 24 63 72),
 o 74 (.a5 8 0),n (.st 1 74 73)]
def DG:=[m 60 10,o 61 (.bin .add 60 (k 1)),m 10 61]
def ea:=[o 75 (.a5 8 1),o 76 (.ld false 1 75),o 77 (.a5 2 1),o 78 (.ld false 1 77),o 79 (.v9 79 3 56 76 78),o 80 (.a5 3 1),
 q 81 [79] (.ld false 1 80),o 82 (.app 82 3 56 79 81),o 83 (.a5 8 1),n (.st 1 83 82)]
def fq:=[o 84 (.a5 8 2),o 85 (.ld false 1 84),o 86 (.a5 2 2),o 87 (.ld false 1 86),o 88 (.v9 88 3 56 85 87),o 89 (.a5 3 2),
 q 90 [88] (.ld false 1 89),o 91 (.app 91 3 56 88 90),o 92 (.a5 8 2),n (.st 1 92 91)]
def F7:=[o 93 (.ld true 6 8),n (.st 6 4 93),o 5 (.a9 (k 0))]
def l1:=(s (s (d r8 [37,38]) (i 39 .skip (x 0))) (s (b 1 (e CG [39,42,43,44,45,46,47,48,49,50,51,52,53,54,55,56])) (d r9 [40,41])))
def l2:=(s (s (d y8 [57,58]) (i 59 .skip (x 2))) (s (b 3 (e cj [59,62,63,64,65,66,67,68,69,70,71,72,73,74])) (d DG [60,61])))
def c:=(s (d r0 [0,1,5]) (s (s (d r1 [11,12,13,14,15,16,17]) (i 18 (s (d r2 [2,3,18,19]) .ret) .skip)) (s (e r3 [18,20,21,22,23,24,25]) (s (s (d r4 [26,27,28]) (i 29 (s (d r5 [2,3,6,7,29,30]) .ret) .skip)) (s (d r6 [29,31,32,33,34,35,36]) (s (s (p r7) (b 0 (w l1))) (s (s (d CP [9,39]) (b 2 (w l2))) (s (e ea [6,7,10,59,75,76,77,78,79,80,81,82,83]) (s (e fq [2,3,84,85,86,87,88,89,90,91,92]) (s (d F7 [8,93]) .ret))))))))))
end E0
def E0:AFn:=⟨2,E0.c,[.cell 4 true 6,.tmp 5],false⟩
namespace M3
def r0:=[o 4 (.alloc 4 [.nil,.nil]),o 5 (.a9 (k 0))]
def r1:=[m 6 0,o 7 (.call 200 [6]),o 8 (.bin .gtr 7 (k 48)),m 9 8,g 10 9 false (.a9 1),g 11 9 false (.call 200 [10]),g 12 9 false (.bin .gtr 11 (k 48)),
 o 13 (.pick 9 (.c (.bool true)) 12)]
def r2:=[o 14 (.build [.nil,.nil] []),n (.st 2 4 14),o 5 (.a9 (k 12))]
def r3:=[m 15 0,m 16 1,o 17 (.build [.nil,.nil] [(0,1,15),(1,1,16)]),n (.st 2 4 17),o 5 (.a9 (k 0))]
def c:=(s (d r0 [5]) (s (s (d r1 [6,7,8,9,10,11,12]) (i 13 (s (d r2 [0,1,13,14]) .ret) .skip)) (s (d r3 [0,1,13,15,16,17]) .ret)))
end M3
def M3:AFn:=⟨2,M3.c,[.cell 4 true 2,.tmp 5],false⟩
namespace MZ
def r0:=[o 2 (.box 2 0),o 3 (.box 3 1),o 4 (.alloc 4 [.nil,.nil]),o 5 (.a9 (k 0))]
def r1:=[o 6 (.ld true 2 2),o 7 (.call 201 [6]),o 8 (.un .not 7),m 9 8,g 10 9 false (.ld true 2 3),g 11 9 false (.call 201 [10]),g 12 9 false (.un .not 11),
 o 13 (.pick 9 (.c (.bool true)) 12)]
def r2:=[o 14 (.build [.nil,.nil] []),n (.st 2 4 14),o 5 (.a9 (k 2))]
def r3:=[o 15 (.a5 2 0),o 16 (.ld false 1 15),o 17 (.a5 3 0),o 18 (.ld false 1 17),o 19 (.call 274 [16,18]),o 20 (.a5 2 1),o 21 (.ld false 1 20),
 o 22 (.a5 3 1),o 23 (.ld false 1 22),o 24 (.call 274 [21,23]),o 25 (.call 379 [19,24]),o 26 (.ext 25 0),o 27 (.ext 25 1),n (.st 2 4 26),m 5 27]
def c:=(s (d r0 [0,1,5]) (s (s (d r1 [6,7,8,9,10,11,12]) (i 13 (s (d r2 [2,3,13,14]) .ret) .skip)) (s (e r3 [2,3,13,15,16,17,18,19,20,21,22,23,24,25,26,27]) .ret)))
end MZ
def MZ:AFn:=⟨2,MZ.c,[.cell 4 true 2,.tmp 5],false⟩
namespace MY
def r0:=[o 2 (.box 2 0),o 3 (.box 3 1),o 4 (.alloc 4 [.nil,.nil]),o 5 (.a9 (k 0))]
def r1:=[o 6 (.ld true 2 2),o 7 (.call 201 [6]),o 8 (.un .not 7),m 9 8,g 10 9 false (.ld true 2 3),g 11 9 false (.call 201 [10]),g 12 9 false (.un .not 11),
 o 13 (.pick 9 (.c (.bool true)) 12)]
def r2:=[o 14 (.build [.nil,.nil] []),n (.st 2 4 14),o 5 (.a9 (k 2))]
def r3:=[o 15 (.a5 2 0),o 16 (.ld false 1 15),o 17 (.a5 3 1),o 18 (.ld false 1 17),o 19 (.call 274 [16,18]),o 20 (.a5 3 0),o 21 (.ld false 1 20),
 o 22 (.a5 2 1),o 23 (.ld false 1 22),o 24 (.call 274 [21,23]),o 25 (.call 191 [19,24]),o 26 (.a5 2 1),o 27 (.ld false 1 26),o 28 (.a5 3 1),
 o 29 (.ld false 1 28),o 30 (.call 274 [27,29]),o 31 (.call 379 [25,30]),o 32 (.ext 31 0),o 33 (.ext 31 1),n (.st 2 4 32),m 5 33]
def c:=(s (d r0 [0,1,5]) (s (s (d r1 [6,7,8,9,10,11,12]) (i 13 (s (d r2 [2,3,13,14]) .ret) .skip)) (s (e r3 [2,3,13,15,16,17,18,19,20,21,22,23,24,25,26,27,28,29,30,31,32,33]) .ret)))
end MY
def MY:AFn:=⟨2,MY.c,[.cell 4 true 2,.tmp 5],false⟩
namespace KL
def r0:=[o 8 (.a9 (.c (.bool false)))]
def r1:=[m 31 0,m 32 2,o 33 (.call 34 [32,(k 3)]),o 34 (.call 142 [31,33]),m 35 1,m 36 3,o 37 (.call 34 [36,(k 3)]),o 38 (.call 142 [35,37]),
 o 9 (.alloc 9 [.nil,.nil,.nil,(.bool false),.nil,.nil]),o 10 (.alloc 10 [.nil,.nil,.nil,(.bool false),.nil,.nil]),n (.st 6 9 34),n (.st 6 10 38)]
def r2:=[o 40 (.ld true 6 9),o 41 (.ld true 6 10),o 42 (.call 375 [40,41]),m 39 42,o 43 (.ext 39 0),o 44 (.ext 39 1),
 o 11 (.alloc 11 [.nil,.nil,.nil,(.bool false),.nil,.nil]),n (.st 6 11 43),m 12 44]
def r3:=[o 46 (.ld true 6 9),o 47 (.ld true 6 10),o 48 (.call 377 [46,47]),m 45 48,o 49 (.ext 45 0),o 50 (.ext 45 1),
 o 13 (.alloc 13 [.nil,.nil,.nil,(.bool false),.nil,.nil]),n (.st 6 13 49),m 14 50]
def r4:=[o 52 (.ld true 6 9),o 53 (.ld true 6 10),o 54 (.call 376 [52,53]),m 51 54,o 55 (.ext 51 0),o 56 (.ext 51 1),
 o 15 (.alloc 15 [.nil,.nil,.nil,(.bool false),.nil,.nil]),n (.st 6 15 55),m 16 56]
def r5:=[o 58 (.ld true 6 9),o 59 (.ld true 6 10),o 60 (.call 378 [58,59]),m 57 60,o 61 (.ext 57 0),o 62 (.ext 57 1),
 o 17 (.alloc 17 [.nil,.nil,.nil,(.bool false),.nil,.nil]),n (.st 6 17 61),m 18 62]
def r6:=[o 64 (.ld true 6 9),o 65 (.call 189 [64]),m 63 65,o 66 (.ext 63 0),o 67 (.ext 63 1),o 19 (.alloc 19 [.nil,.nil]),n (.st 2 19 66),m 20 67]
def r7:=[o 69 (.ld true 6 10),o 70 (.call 189 [69]),m 68 70,o 71 (.ext 68 0),o 72 (.ext 68 1),o 21 (.alloc 21 [.nil,.nil]),n (.st 2 21 71),m 22 72]
def r8:=[o 74 (.ld true 6 11),o 75 (.call 189 [74]),m 73 75,o 76 (.ext 73 0),o 77 (.ext 73 1),o 23 (.alloc 23 [.nil,.nil]),n (.st 2 23 76),m 24 77]
def r9:=[o 79 (.ld true 6 15),o 80 (.call 189 [79]),m 78 80,o 81 (.ext 78 0),o 82 (.ext 78 1),o 25 (.alloc 25 [.nil,.nil]),n (.st 2 25 81),m 26 82]
def CG:=[o 84 (.ld true 2 19),o 85 (.ld true 2 21),o 86 (.call 380 [84,85]),m 83 86,o 87 (.ext 83 0),o 88 (.ext 83 1),o 27 (.alloc 27 [.nil,.nil]),
 n (.st 2 27 87),m 28 88]
def CP:=[o 90 (.ld true 2 19),o 91 (.ld true 2 21),o 92 (.call 381 [90,91]),m 89 92,o 93 (.ext 89 0),o 94 (.ext 89 1),o 29 (.alloc 29 [.nil,.nil]),
 n (.st 2 29 93),m 30 94]
def y8:=[m 95 12,o 96 (.bin .neq 95 (k 0)),m 97 96,g 98 97 false (.a9 14),g 99 97 false (.bin .neq 98 (k 0)),o 100 (.pick 97 (.c (.bool true)) 99),m 101 100,
 g 102 101 false (.a9 16),g 103 101 false (.bin .neq 102 (k 0)),o 104 (.pick 101 (.c (.bool true)) 103),m 105 104,g 106 105 false (.a9 18),
 g 107 105 false (.bin .neq 106 (k 0)),o 108 (.pick 105 (.c (.bool true)) 107),m 109 108,g 110 109 false (.a9 24),g 111 109 false (.bin .neq 110 (k 0)),
 o 112 (.pick 109 (.c (.bool true)) 111),m 113 112,g 114 113 false (.a9 26),g 115 113 false (.bin .neq 114 (k 0)),o 116 (.pick 113 (.c (.bool true)) 115),
 m 117 116,g 118 117 false (.a9 28),g 119 117 false (.bin .neq 118 (k 0)),o 120 (.pick 117 (.c (.bool true)) 119),m 121 120,g 122 121 false (.a9 30),
 g 123 121 false (.bin .neq 122 (k 0)),o 124 (.pick 121 (.c (.bool true)) 123)]
def DG:=[o 8 (.a9 (.c (.bool false)))]
def cj:=[o 125 (.call 215 []),m 126 125,g 127 126 true (.ld true 6 11),g 128 126 true (.ld true 6 13),g 129 126 true (.call 167 [127,128]),
 o 130 (.pick 126 129 (.c (.bool false))),m 131 130,g 132 131 true (.ld true 6 15),g 133 131 true (.ld true 6 17),g 134 131 true (.call 167 [132,133]),
 o 135 (.pick 131 134 (.c (.bool false))),m 136 135,g 137 136 true (.ld true 2 23),g 138 136 true (.ld true 2 27),g 139 136 true (.call 176 [137,138]),
 o 140 (.pick 136 139 (.c (.bool false))),m 141 140,g 142 141 true (.ld true 2 25),g 143 141 true (.ld true 2 29),g 144 141 true (.call 176 [142,143]),
 o 145 (.pick 141 144 (.c (.bool false))),m 8 145]
def c:=(s (d r0 [8]) (s (d r1 [0,1,2,3,31,32,33,34,35,36,37,38]) (s (d r2 [39,40,41,42,43,44]) (s (d r3 [45,46,47,48,49,50]) (s (d r4 [51,52,53,54,55,56]) (s (d r5 [57,58,59,60,61,62]) (s (d r6 [9,20,63,64,65,66,67]) (s (d r7 [10,22,68,69,70,71,72]) (s (d r8 [73,74,75,76,77]) (s (d r9 [78,79,80,81,82]) (s (d CG [83,84,85,86,87,88]) (s (d CP [19,21,89,90,91,92,93,94]) (s (s (d y8 [12,14,16,18,24,26,28,30,95,96,97,98,99,100,101,102,103,104,105,106,107,108,109,110,111,112,113,114,115,116,117,118,119,120,121,122,123]) (i 124 (s (d DG [11,13,15,17,23,25,27,29,124]) .ret) .skip)) (s (d cj [11,13,15,17,23,25,27,29,124,125,126,127,128,129,130,131,132,133,134,135,136,137,138,139,140,141,142,143,144,145]) .ret))))))))))))))
end KL
def KL:AFn:=⟨4,KL.c,[.tmp 8],false⟩
structure q8 (L:Lib):Prop extends y9 L,fj L where
 JI:L 369=some F.JI
 NE:L 370=some F.NE
 ND:L 371=some F.ND
 NC:L 372=some F.NC
 NA:L 373=some F.NA
 JH:L 374=some F.JH
 M8:L 375=some F.M8
 M7:L 376=some F.M7
 E1:L 377=some F.E1
 E0:L 378=some F.E0
 M3:L 379=some F.M3
 MZ:L 380=some F.MZ
 MY:L 381=some F.MY
 KL:L 382=some F.KL
end Go.e9.F

namespace Go.e9
def WT:Value->AV->Bool
 | .int k n,.int k' n'=>k == k'&&n == n'
 | .bool b,.bool b'=>b == b'
 | .slice none 0 0,.nil=>true
 | .string s,.bh (.string s')=>s.data.toList == s'.data.toList
 | .nilFunc,.bh .nilFunc=>true
 | _,_=>false
def OP:List Value->List AV->Bool
 | [],[]=>true
 | v::r,a::l=>WT v a&&OP r l
 | _,_=>false
def ZW:Value->AV->Bool
 | .agg cs,.agg l=>OP cs.toList l
 | v,a=>WT v a
def BZ:Operand->AP->Bool
 | .tmp t,.t n=>t == n
 | .const v,.c a=>ZW v a
 | .func g,.c (.fn _ _ g' [])=>g == g'
 | _,_=>false
def D8:List Operand->List AP->Bool
 | [],[]=>true
 | v::r,a::l=>BZ v a&&D8 r l
 | _,_=>false
def N2:Option Operand->Option AP->Bool
 | none,none=>true
 | some x,some y=>BZ x y
 | _,_=>false
section
variable (P:Program)
def RU (t:TypeId):Option Bool :=
 match P.underlying t with
 | some (.struct _)=>some true
 | some (.array _ _)=>some true
 | some _=>some false
 | none=>none
def IU (t:TypeId) (n:Nat):Bool:=match P.info? t with|some i=>i.size == n|none=>false
def TK (t:TypeId) (n:Nat):Bool:=match P.info? t with|some i=>i.bytes == n|none=>false
def RL (t:TypeId) (l:List AV):Bool:=match P.info? t with|some i=>(match i.zero with|some z=>OP z.cells.toList l|none=>false)|none=>false
def JF (t:TypeId) (f:TypeId->Bool):Bool:=match P.underlying t with|some (.slice e)=>f e|_=>false
def kY (t:TypeId) (i off n:Nat):Bool:=match P.underlying t with
 | some (.struct fs)=>(match fs[i]? with|some f=>f.offset == off&&IU P f.type n&&n != 0|none=>false)
 | _=>false
def kZ (t:TypeId) (i:Nat) (agg:Bool):Bool:=match P.underlying t with
 | some (.struct fs)=>(match fs[i]? with|some f=>RU P f.type == some agg|none=>false)
 | _=>false
def QZ (place:Nat->Option (Nat × Nat)):List (Nat × Operand)->List (Nat × Nat × AP)->Bool
 | [],[]=>true
 | (i,x)::r,(off,n,y)::l=>place i == some (off,n)&&BZ x y&&QZ place r l
 | _,_=>false
def ZA (t:TypeId) (ps:List (Nat × Operand)) (db:List (Nat × Nat × AP)):Bool:=match P.underlying t with
 | some (.struct fs)=>(match fs.toList.mapM (λ f=>(P.info? f.type).map λ i=>(f.offset,i.size)) with|some places=>QZ (places.toArray[·]?) ps db|none=>false)
 | some (.array _ e)=>(match P.info? e with|some ie=>QZ (λ i=>some (i*ie.size,ie.size)) ps db|none=>false)
 | _=>false
def QJ (k:Nat):List (Nat × Operand)->List AP->Bool
 | [],[]=>true
 | (i,x)::r,y::l=>i == k&&BZ x y&&QJ (k+1) r l
 | _,_=>false
def BB (num:Nat->Nat) (op:Op):DT->Bool
 | .a9 y=>match op with | .move x=>BZ x y | .assign x=>BZ x y|_=>false
 | .ah _ z=>z != 0&&(match op with | .move (.const (.slice none 0 0))=>true | .assign (.const (.slice none 0 0))=>true|_=>false)
 | .pick c' a' b'=>match op with | .pick c a b=>BZ c c'&&BZ a a'&&BZ b b'|_=>false
 | .bin xq x' y'=>match op with | .binOp op _ x y _=>op == xq&&BZ x x'&&BZ y y'|_=>false
 | .beq ne x' y'=>match op with | .binOp op t x y _=>(if ne then op == .neq else op == .eql)&&(match P.underlying t with|some .bool=>true|_=>false)&&BZ x x'&&BZ y y'|_=>false
 | .un xq x'=>match op with | .unOp op _ x=>op == xq&&BZ x x'|_=>false
 | .conv k x'=>match op with | .convert s d x=>(P.underlying s).isSome&&(match P.underlying d with|some (.int k')=>k == k'|_=>false)&&BZ x x'|_=>false
 | .box _ x'=>match op with | .box _ x=>BZ x x'|_=>false
 | .alloc _ z=>match op with | .alloc t=>RL P t z|_=>false
 | .build z db=>match op with | .build t ps=>RL P t z&&ZA P t ps.toList db|_=>false
 | .c4 _ a8 db=>match op with
  | .buildSlice t n ps=>JF P t (λ e=>IU P e a8)&&a8 != 0&&n == db.length&&decide (n*a8<=16777216)&&QJ 0 ps.toList db&&(n == 0||JF P t (λ e=>match P.info? e with|some i=>(match i.zero with|some z=>z.cells.size == a8|none=>false)|none=>false))
  | _=>false
 | .a5 x' off=>match op with
  | .fieldAddr s x f=>BZ x x'&&(match P.underlying s with|some (.struct fs)=>(match fs[f]? with|some fd=>fd.offset == off&&(match P.info? fd.type with|some i=>i.size != 0|none=>false)|none=>false)|_=>false)
  | _=>false
 | .lg x' off n agg=>match op with | .field t x f=>BZ x x'&&kY P t f off n&&kZ P t f agg|_=>false
 | .a7 arr a8 x' i'=>match op with
  | .indexAddr t x i=>BZ x x'&&BZ i i'&&(match P.underlying t,arr with|some (.array len e),some om=>len == om&&IU P e a8&&decide (1<len)|some (.slice e),none=>IU P e a8&&a8 != 0|_,_=>false)
  | _=>false
 | .ld agg n x'=>match op with | .load t x=>BZ x x'&&RU P t == some agg&&(if agg then IU P t n else n == 1)|_=>false
 | .st n x' v'=>match op with | .store t x v=>BZ x x'&&BZ v v'&&IU P t n|_=>false
 | .mk _ a8 bytes z l' c'=>match op with
  | .makeSlice t l c=>BZ l l'&&BZ c c'&&JF P t (λ e=>IU P e a8&&TK P e bytes&&RL P e z)&&a8 != 0
  | _=>false
 | .ew a8 x' ma q5=>match op with
  | .slice t x lo hi none=>BZ x x'&&N2 lo ma&&N2 hi q5&&JF P t (λ e=>IU P e a8)&&a8 != 0
  | _=>false
 | .ext x' i'=>match op with | .extract x i=>BZ x x'&&i == i'|_=>false
 | .len x'=>match op with
  | .call ⟨.builtin .len,xs,ts⟩=>(match xs.toList,ts.toList with|[x],[t]=>BZ x x'&&JF P t (λ_=>true)|_,_=>false)
  | _=>false
 | .mm max o3=>match op with
  | .call ⟨.builtin .min,xs,_⟩ => !max&&D8 xs.toList o3
  | .call ⟨.builtin .max,xs,_⟩=>max&&D8 xs.toList o3
  | _=>false
 | .app _ a8 bytes x' y'=>match op with
  | .call ⟨.builtin .append,xs,ts⟩=>(match xs.toList,ts.toList with
   | [x,y],[t,u]=>BZ x x'&&BZ y y'&&JF P t (λ e=>IU P e a8&&TK P e bytes&&(match P.info? e with|some i=>(match i.zero with|some z=>z.cells.size == a8|none=>false)|none=>false))&&a8 != 0&&JF P u (λ_=>true)
   | _,_=>false)
  | _=>false
 | .v9 _ a8 bytes x' y'=>match op with
  | .call ⟨.builtin .append,xs,ts⟩=>(match xs.toList,ts.toList with
   | [x,y],[t,u]=>BZ x x'&&BZ y y'&&JF P t (λ e=>IU P e a8&&TK P e bytes&&(match P.info? e with|some i=>(match i.zero with|some z=>z.cells.size == a8|none=>false)|none=>false))&&a8 != 0&&JF P u (λ_=>true)
   | _,_=>false)
  | _=>false
 | .call f' o3=>match op with
  | .call ⟨.value (.func f),xs,_⟩=>f == num f'&&D8 xs.toList o3
  | _=>false
 | .e8 f' o3=>match op with
  | .call ⟨.value (.func f),xs,_⟩=>f == num f'&&D8 xs.toList o3
  | _=>false
 | .bg _ f' o3=>match op with
  | .call ⟨.value (.func f),xs,_⟩=>f == num f'&&D8 xs.toList o3
  | _=>false
 | .oi ne x'=>match op with
  | .binOp op t x (.const (.slice none 0 0)) _=>(if ne then op == .neq else op == .eql)&&JF P t (λ_=>true)&&BZ x x'
  | _=>false
 | .bad=>true
 | .eu tb i'=>match op with
  | .index t (.const (.string s)) i=>(match P.underlying t with|some .string=>true|_=>false)&&s.data.toList.map (λ b=>b.toNat) == tb&&BZ i i'
  | _=>false
 | .mh _ f' o3=>match op with
  | .makeFunc (.func f) first xs=>f == num f'&&first.toList.isEmpty&&D8 xs.toList o3
  | _=>false
 | .l9 f' o3=>match op with
  | .call ⟨.value (.func f),xs,_⟩=>f == num f'&&D8 xs.toList o3
  | _=>false
 | .m6 _ f' o3=>match op with
  | .call ⟨.value (.func f),xs,_⟩=>f == num f'&&D8 xs.toList o3
  | _=>false
 | .kz _ n x' v'=>match op with | .store t x v=>BZ x x'&&BZ v v'&&IU P t n|_=>false
 | .o0 x' o3=>match op with
  | .call ⟨.value x,xs,_⟩=>BZ x x'&&D8 xs.toList o3
  | _=>false
def UQ (ops:Array Oper):Option (Nat × Bool)->Option (Nat × Bool)->Bool
 | none,none=>true
 | some (j,b),some (t,b')=>b == b'&&(match ops[j]? with|some o=>o.dst == some t|none=>false)
 | _,_=>false
def XQ (num:Nat->Nat) (N:Nat) (ops:Array Oper) (o:Oper) (a:AI):Bool :=
 o.dst == a.dst&&(match a.dst with|some d=>decide (d<N)|none=>true)&&UQ ops o.guard a.guard&&BB P num o.op a.op
def OX (num:Nat->Nat) (N:Nat) (ops:Array Oper):List Oper->List AI->Bool
 | [],[]=>true
 | o::r,a::l=>XQ P num N ops o a&&OX num N ops r l
 | _,_=>false
def GR:DT->Bool
 | .st .. | .app .. | .e8 .. | .o0 .. => true
 | _=>false
def U2:DT->Bool
 | .ld .. | .call .. | .m6 .. => true
 | _=>false
def JW (a:DT):Bool:=GR a||U2 a||(EL a).isSome
def C5:AP->List Nat
 | .t n=>[n]
 | .c _=>[]
def cB:Option AP->List Nat
 | some x=>C5 x
 | none=>[]
def HG:DT->List Nat
 | .a9 x=>C5 x
 | .ah _ _=>[]
 | .pick c a b=>C5 c++C5 a++C5 b
 | .bin _ x y=>C5 x++C5 y
 | .beq _ x y=>C5 x++C5 y
 | .un _ x=>C5 x
 | .conv _ x=>C5 x
 | .box _ x=>C5 x
 | .alloc _ _=>[]
 | .build _ ps=>ps.flatMap (λ p=>C5 p.2.2)
 | .c4 _ _ ps=>ps.flatMap C5
 | .a5 x _=>C5 x
 | .lg x _ _ _=>C5 x
 | .a7 _ _ x i=>C5 x++C5 i
 | .ld _ _ x=>C5 x
 | .st _ x v=>C5 x++C5 v
 | .mk _ _ _ _ l c=>C5 l++C5 c
 | .ew _ x lo hi=>C5 x++cB lo++cB hi
 | .ext x _=>C5 x
 | .len x=>C5 x
 | .mm _ xs=>xs.flatMap C5
 | .app _ _ _ x y=>C5 x++C5 y
 | .v9 _ _ _ x y=>C5 x++C5 y
 | .call _ xs=>xs.flatMap C5
 | .e8 _ xs=>xs.flatMap C5
 | .oi _ x=>C5 x
 | .eu _ x=>C5 x
 | .mh _ _ xs=>xs.flatMap C5
 | .o0 x xs=>C5 x++xs.flatMap C5
 | .l9 _ xs=>xs.flatMap C5
 | .kz _ _ x v=>C5 x++C5 v
 | .m6 _ _ xs=>xs.flatMap C5
 | .bg _ _ xs=>xs.flatMap C5
 | .bad=>[]
def SH (x:AI):List Nat:=HG x.op++(match x.guard with|some (g,_)=>[g]|none=>[])++x.dst.toList
def H2 (b:Array Nat) (i j:Nat):Bool:=(b.getD (max i j) 0).testBit (min i j)
def oZ (b:Array Nat) (x:AI) (i:Nat) (y:AI) (j:Nat):Bool :=
 i == j||H2 b i j ||
  ((match y.dst with|some t => !(SH x).contains t|none=>true) &&
   (!GR x.op || !JW y.op) &&
   (!U2 x.op||(match EL y.op with|some s=>x.c5.contains s|none=>true)) )
def QH (ops:Array Oper) (l:List AI):Bool :=
 let b:=Region.before ops
 (l.zipIdx.all λ(x,i)=>l.zipIdx.all λ(y,j)=>oZ b x i y j&&(i == j||H2 b i j||(match EL x.op,EL y.op with|some s,some s'=>s != s'|_,_=>true))) &&
 (ops.toList.zipIdx.all λ(o,i)=>o.after.all λ e=>decide (e.on<i)||(match e.ground with | .gcOnly _=>true|_=>false)) &&
 (!Region.departs ops||(List.range ops.size).all (λ i=>(Region.linearise .gc ops 0).contains i))
def EV (num:Nat->Nat) (N:Nat):Code->BF->Bool
 | c,.dr a _ _=>EV num N c a
 | c',.skip=>match c' with | .skip=>true | .label _=>true|_=>false
 | c',.scope a=>match c' with | .scope c=>EV num N c a|_=>false
 | c',.ops l ni=>match c' with | .region _ ops draw=>draw == ni&&OX P num N ops ops.toList l&&(!draw||QH ops l)|_=>false
 | c',.seq a' b'=>match c' with | .seq a b=>EV num N a a'&&EV num N b b'|_=>false
 | c',.cond x' a' b'=>match c' with | .cond x a b=>BZ x x'&&EV num N a a'&&EV num N b b'|_=>false
 | c',.block i' a=>match c' with | .block i c=>i == i'&&EV num N c a|_=>false
 | c',.loop a=>match c' with | .loop c=>EV num N c a|_=>false
 | c',.exit i'=>match c' with | .exit i=>i == i'|_=>false
 | c',.ret=>match c' with | .ret=>true|_=>false
def LD:List ResultVar->List IV->Bool
 | [],[]=>true
 | .tmp t::r,.tmp t'::l=>t == t'&&LD r l
 | .cell a t::r,.cell a' agg n::l=>a == a'&&RU P t == some agg&&(if agg then IU P t n else n == 1)&&LD r l
 | _,_=>false
def okFn (num:Nat->Nat) (fn:Func) (a:AFn):Bool :=
 fn.params.size+fn.nfree == a.af&&decide (a.af<=fn.ntmps)&&LD P fn.results.toList a.res&&(match fn.body with|some c=>EV P num fn.ntmps c a.body|none=>false)
end
end Go.e9

namespace Go.e9
@[irreducible] def EG (a b : Nat) : Nat := (a + 18446744073709551616 - b) % 18446744073709551616
theorem RJ (a b:Nat):EG a b=(a+18446744073709551616-b)%18446744073709551616:=by unfold EG;rfl
def val:List Nat->Nat
 | []=>0
 | d::l=>d+4294967296*val l
def AY (l:List Nat):Prop := ∀ d∈l,d<4294967296
def dg (n:Nat):List Nat:=if h:n=0 then [] else n%4294967296::dg (n/4294967296)
termination_by n
decreasing_by omega
theorem EZ:dg 0=[]:=by rw[dg];simp
theorem IJ {n:Nat} (h:n≠0):dg n=n%4294967296::dg (n/4294967296):=by rw[dg];simp [h]
theorem IE:val []=0:=rfl
theorem O3 (d:Nat) (l:List Nat):val (d::l)=d+4294967296*val l:=rfl
theorem BS (n:Nat):val (dg n)=n:=by
 induction n using Nat.strongRecOn with
 | ind n ih =>
  by_cases h:n=0
  ·subst h;rw[EZ];rfl
  ·rw[IJ h,O3,ih _ (by omega)]
   omega
theorem DX (n:Nat):AY (dg n):=by
 induction n using Nat.strongRecOn with
 | ind n ih =>
  by_cases h:n=0
  ·subst h;rw[EZ];intro d hd;cases hd
  ·rw[IJ h]
   intro d hd;rcases List.mem_cons.1 hd with rfl|hd
   ·omega
   ·exact ih _ (by omega) d hd
theorem AY.tail {d:Nat} {l:List Nat} (h:AY (d::l)):AY l:=λ x hx=>h x (List.mem_cons_of_mem _ hx)
theorem AY.head {d:Nat} {l:List Nat} (h:AY (d::l)):d<4294967296:=h d List.mem_cons_self
theorem AY.at {l:List Nat} (h:AY l) {i d:Nat} (hd:l[i]? = some d):d<4294967296:=h d (zM hd)
theorem AY.take {l:List Nat} (h:AY l) (n:Nat):AY (l.take n):=λ x hx=>h x (List.mem_of_mem_take hx)
theorem AY.drop {l:List Nat} (h:AY l) (n:Nat):AY (l.drop n):=λ x hx=>h x (List.mem_of_mem_drop hx)
theorem R7:AY []:=λ_ h=>by cases h
theorem AY.append {a b:List Nat} (h:AY a) (h':AY b):AY (a++b):=λ x hx=>(List.mem_append.1 hx).elim (h x) (h' x)
theorem G7 {d:Nat} (h:d<4294967296):AY [d]:=λ x hx=>by simp at hx;omega
theorem AY.set {l:List Nat} (h:AY l) (i:Nat) {d:Nat} (hd:d<4294967296):AY (l.set i d):=λ x hx=>by
 rcases List.mem_or_eq_of_mem_set hx with h1|h1
 ·exact h x h1
 ·omega
theorem IK (n:Nat):AY (List.replicate n 0):=λ x hx=>by rw[(List.mem_replicate.1 hx).2];omega
theorem S2 (a b:List Nat):val (a++b)=val a+4294967296^a.length*val b:=by
 induction a with
 | nil=>simp [val]
 | cons d l ih=>rw[List.cons_append,O3,O3,ih,List.length_cons,Nat.pow_succ];grind
theorem NH (l:List Nat) (v:Nat):val (l++[v])=val l+4294967296^l.length*v:=by
 rw[S2];simp [val]
theorem E2 {l:List Nat} (h:AY l):val l<4294967296^l.length:=by
 induction l with
 | nil=>simp [val]
 | cons d l ih =>
  have h1:=ih h.tail;have h2:=h.head;rw[O3,List.length_cons,Nat.pow_succ];omega
theorem DY {l:List Nat} {i v:Nat} (h:l[i]? = some v):val (l.take (i+1))=val (l.take i)+4294967296^i*v:=by
 have hi:=(zS h).1;rw[List.take_add_one,h,Option.toList_some,NH,List.length_take,Nat.min_eq_left (by omega)]
theorem JN (l:List Nat) (i:Nat) (h:i<=l.length):val l=val (l.take i)+4294967296^i*val (l.drop i):=by
 have:=S2 (l.take i) (l.drop i)
 rw[List.take_append_drop,List.length_take,Nat.min_eq_left h]at this;exact this
theorem YO (n:Nat):val (List.replicate n 0)=0:=by
 induction n with
 | zero=>rfl
 | succ n ih=>rw[List.replicate_succ,O3,ih]
theorem yS {l:List Nat} (h:AY l) (ht:l=[] \/ ∃ d,l[l.length-1]? = some d/\d≠0):dg (val l)=l:=by
 induction l with
 | nil=>exact EZ
 | cons d l ih =>
  have h1:=h.head;by_cases hl:l=[]
  ·subst hl
   rcases ht with ht|⟨x,hx,dz⟩
   ·cases ht
   ·simp at hx
    subst hx;rw[O3,IE,IJ (by omega),show (d+4294967296*0)/4294967296=0 by omega,EZ,show (d+4294967296*0)%4294967296=d by omega]
  ·have lq : ∃ x,l[l.length-1]? = some x/\x≠0:=by
    rcases ht with ht|⟨x,hx,dz⟩
    ·cases ht
    ·refine ⟨x,?_,dz⟩
     have:l.length≠0:=λ e=>hl (List.eq_nil_of_length_eq_zero e)
     rw[List.length_cons,show l.length+1-1=(l.length-1)+1 by omega,List.getElem?_cons_succ]at hx;exact hx
   have Gz:=ih h.tail (Or.inr lq);have oc:val l≠0:=by
    intro e;rw[e,EZ]at Gz;exact hl Gz.symm
   rw[O3,IJ (by omega),show (d+4294967296*val l)/4294967296=val l by omega,Gz,show (d+4294967296*val l)%4294967296=d by omega]
theorem GA {l:List Nat} (h:AY l) {n:Nat} (hn:n<=l.length) (hz : ∀ i,n<=i->i<l.length->l[i]? = some 0) (ht:n=0 \/ ∃ d,l[n-1]? = some d/\d≠0):l.take n=dg (val l):=by
 have hv:val l=val (l.take n):=by
  have h0:l.drop n=List.replicate (l.length-n) 0:=by
   apply List.ext_getElem?;intro i;rw[List.getElem?_drop,List.getElem?_replicate];by_cases hi:n+i<l.length
   ·rw[hz (n+i) (by omega) hi,if_pos (by omega)]
   ·rw[List.getElem?_eq_none (by omega),if_neg (by omega)]
  rw[JN l n hn,h0,YO];omega
 rw[hv];refine (yS (h.take n) ?_).symm;rcases ht with rfl|⟨d,hd,su⟩
 ·exact Or.inl (by simp)
 ·have l7:=(zS hd).1
  by_cases sz:n=0
  ·subst sz;exact Or.inl (by simp)
  ·refine Or.inr ⟨d,?_,su⟩
   rw[List.length_take,Nat.min_eq_left hn,List.getElem?_take,if_pos (by omega)];exact hd
theorem N1 {n k:Nat}:(dg n).length<=k↔n<4294967296^k:=by
 induction k generalizing n with
 | zero =>
  by_cases h:n=0
  ·subst h;simp [EZ]
  ·rw[IJ h];simp;omega
 | succ k ih =>
  by_cases h:n=0
  ·subst h;simp [EZ];exact Nat.pos_of_ne_zero (by simp)
  ·rw[IJ h,List.length_cons,Nat.succ_le_succ_iff,ih,Nat.pow_succ]
   rw[Nat.div_lt_iff_lt_mul (by omega)]
theorem ET {l:List Nat} (h:AY l):(dg (val l)).length<=l.length:=N1.2 (E2 h)
theorem ZN {n:Nat} (h:n≠0) : ∃ d,(dg n)[(dg n).length-1]? = some d/\d≠0:=by
 induction n using Nat.strongRecOn with
 | ind n ih =>
  rw[IJ h];by_cases h2:n/4294967296=0
  ·rw[h2,EZ]
   exact ⟨n%4294967296,by simp,by omega⟩
  ·obtain ⟨d,hd,su⟩:=ih _ (by omega) h2
   refine ⟨d,?_,su⟩;have hl:(dg (n/4294967296)).length≠0:=λ e=>by rw[List.eq_nil_of_length_eq_zero e]at hd;simp at hd
   rw[List.length_cons,show (dg (n/4294967296)).length+1-1=(dg (n/4294967296)).length-1+1 by omega,List.getElem?_cons_succ];exact hd
theorem ZL {n:Nat}:dg n=[]↔n=0:=by
 constructor
 ·intro h
  by_cases h0:n=0
  ·exact h0
  ·rw[IJ h0]at h;cases h
 ·rintro rfl;exact EZ
theorem TV {n:Nat} (h:n≠0):1<=(dg n).length:=by rw[IJ h];simp
theorem Vn {o:List Nat} {i v:Nat} (h:i<o.length):(o.set i v).take (i+1)=o.take i++[v]:=by
 rw[List.take_add_one,List.getElem?_set_self h,List.take_set_of_le (Nat.le_refl i)];rfl
theorem FY {o:List Nat} {i v:Nat} (h:i<o.length):val ((o.set i v).take (i+1))=val (o.take i)+4294967296^i*v:=by
 rw[Vn h,NH,List.length_take,Nat.min_eq_left (by omega)]
theorem OL (V p t:Nat):V+p*(t%4294967296)+p*4294967296*(t/4294967296)=V+p*t:=by
 have h:=Nat.mod_add_div t 4294967296;have:p*(t%4294967296)+p*4294967296*(t/4294967296)=p*t:=by
  rw[Nat.mul_assoc,<-Nat.mul_add,h]
 omega
theorem DD {l:List Nat} {n:Nat} (h:l.length<=n):val (l.take n)=val l:=by rw[zT h]
theorem pD (i:Nat):1<=4294967296^i:=Nat.pos_of_ne_zero (by simp)
theorem G3 {l:List Nat} {i d:Nat} (h:l[i]? = some d):val (l.drop i)=d+4294967296*val (l.drop (i+1)):=by
 obtain ⟨hi,rfl⟩:=zS h;rw[List.drop_eq_getElem_cons hi,O3]
theorem YK {a b:List Nat} (ha:AY a) (hb:AY b) (hl:a.length=b.length) {i:Nat} {x y:Nat} (hx:a[i]? = some x) (hy:b[i]? = some y) (he:a.drop (i+1)=b.drop (i+1)) (h:x<y):val a<val b:=by
 have hia:=(zS hx).1;have Im:=(zS hy).1;rw[JN a i (by omega),JN b i (by omega),G3 hx,G3 hy,he];have h1:=E2 (ha.take i);rw[List.length_take,Nat.min_eq_left (by omega)]at h1;generalize val (b.drop (i+1))=r;generalize 4294967296^i=p at *;have:p*(x+4294967296*r)+p<=p*(y+4294967296*r):=by
  rw[<-Nat.mul_succ];exact Nat.mul_le_mul_left p (by omega)
 omega
theorem YL {o:List Nat} {k v old:Nat} (h:o[k]? = some old):val (o.set k v)+4294967296^k*old=val o+4294967296^k*v:=by
 have hk:=(zS h).1;have h1:val (o.set k v)=val (o.take k)+4294967296^k*(v+4294967296*val (o.drop (k+1))):=by
  rw[JN (o.set k v) k (by simp;omega),List.take_set_of_le (Nat.le_refl k),G3 (l:=o.set k v) (d:=v) (by rw[List.getElem?_set_self hk]),List.drop_set_of_lt (by omega)]
 have h2:val o=val (o.take k)+4294967296^k*(old+4294967296*val (o.drop (k+1))):=by
  rw[JN o k (by omega),G3 h]
 rw[h1,h2,Nat.mul_add,Nat.mul_add];omega
theorem VD {l:List Nat} (h:AY l):l.take (dg (val l)).length=dg (val l):=by
 induction l with
 | nil=>rw[IE,EZ];rfl
 | cons d l ih =>
  have h1:=h.head;by_cases h0:val (d::l)=0
  ·rw[h0,EZ];rfl
  ·rw[IJ h0,O3,show (d+4294967296*val l)/4294967296=val l by omega,show (d+4294967296*val l)%4294967296=d by omega,List.length_cons,List.take_succ_cons,ih h.tail]
theorem S3 {a b:Nat} (h:(dg a).length<(dg b).length):a<b:=by
 have h1:a<4294967296^(dg a).length:=N1.1 (Nat.le_refl _);have h2 : ¬ b<4294967296^((dg b).length-1):=λ h3=>by have:=N1.2 h3;omega
 have h3:4294967296^(dg a).length<=4294967296^((dg b).length-1):=Nat.pow_le_pow_right (by omega) (by omega);omega
def YR (a b c d:Int):Prop:=(0<=a/\b<=0/\c<=0/\0<=d)\/(a<=0/\0<=b/\0<=c/\d<=0)
structure P1 (P Q a b c d p q:Int):Prop where
 hp:p=a*P+b*Q
 hq:q=c*P+d*Q
 sg:YR a b c d
 pa:0<=p+a
 pb:0<=p+b
 qc:0<=q+c
 qd:0<=q+d
theorem P1.start {P Q:Int} (hP:0<=P) (hQ:0<=Q):P1 P Q 1 0 0 1 P Q :=
 ⟨by omega,by omega,Or.inl (by omega),by omega,by omega,by omega,by omega⟩
def S9 (P Q a b c d:Int):Prop := ∀ x y K e1 e2:Int,0<K->x=K*P+e1->y=K*Q+e2->0<=e1->e1<=K->0<=e2->e2<=K ->
 0<=c*x+d*y/\c*x+d*y<a*x+b*y/\a*x+b*y<=y/\Int.gcd (a*x+b*y) (c*x+d*y)=Int.gcd x y
def RP (P Q a b c d:Int):Prop := ∀ x y K e1 e2:Int,0<K->x=K*P+e1->y=K*Q+e2->0<=e1->e1<=K->0<=e2->e2<=K ->
 c*x+d*y<=y/\Int.gcd (a*x+b*y) (c*x+d*y)=Int.gcd x y
theorem RP.start (P Q:Int):RP P Q 1 0 0 1:=by
 intro x y K e1 e2 _ _ _ _ _ _ _;simp
theorem S9.half {P Q a b c d:Int} (h:S9 P Q a b c d):RP P Q a b c d:=λ x y K e1 e2 h1 h2 h3 h4 h5 h6 h7=>by
 obtain ⟨g1,g2,g3,g4⟩:=h x y K e1 e2 h1 h2 h3 h4 h5 h6 h7;exact ⟨by omega,g4⟩
theorem Oa (X Y f:Int):Int.gcd Y (X-f*Y)=Int.gcd X Y:=by
 rw[Int.gcd_comm X Y];exact Int.gcd_sub_mul_right_right Y X f
theorem P1.step {P Q a b c d p q f:Int} (h:P1 P Q a b c d p q) (hc:q+c≠0) (hd:q+d≠0) (h1:f=(p+a)/(q+c)) (h2:f=(p+b)/(q+d)) :
  P1 P Q c d (a-f*c) (b-f*d) q (p-f*q)/\0<=f/\p-f*q<q/\(RP P Q a b c d->S9 P Q c d (a-f*c) (b-f*d)):=by
 have c0:0<q+c:=by have:=h.qc;omega
 have d0:0<q+d:=by have:=h.qd;omega
 have f0:0<=f:=by rw[h1];exact Int.ediv_nonneg h.pa h.qc
 have m1:p-f*q+(a-f*c)=(p+a)%(q+c):=by
  have:=Int.emod_add_mul_ediv (p+a) (q+c)
  rw[<-h1]at this;grind
 have m2:p-f*q+(b-f*d)=(p+b)%(q+d):=by
  have:=Int.emod_add_mul_ediv (p+b) (q+d)
  rw[<-h2]at this;grind
 have n1:0<=p-f*q+(a-f*c):=by rw[m1];exact Int.emod_nonneg _ hc
 have n2:0<=p-f*q+(b-f*d):=by rw[m2];exact Int.emod_nonneg _ hd
 have n3:p-f*q+(a-f*c)<q+c:=by rw[m1];exact Int.emod_lt_of_pos _ c0
 have n4:p-f*q+(b-f*d)<q+d:=by rw[m2];exact Int.emod_lt_of_pos _ d0
 have yo:p-f*q=(a-f*c)*P+(b-f*d)*Q:=by rw[h.hp,h.hq];grind
 have Cv:YR c d (a-f*c) (b-f*d):=by
  rcases h.sg with ⟨s1,s2,s3,s4⟩|⟨s1,s2,s3,s4⟩
  ·have t1:f*c<=0:=Int.mul_nonpos_of_nonneg_of_nonpos f0 s3
   have t2:0<=f*d:=Int.mul_nonneg f0 s4;exact Or.inr (by omega)
  ·have t1:0<=f*c:=Int.mul_nonneg f0 s3
   have t2:f*d<=0:=Int.mul_nonpos_of_nonneg_of_nonpos f0 s4;exact Or.inl (by omega)
 have l7:p-f*q<q:=by
  rcases Cv with ⟨s1,s2,s3,s4⟩|⟨s1,s2,s3,s4⟩
  ·omega
  ·omega
 refine ⟨⟨h.hq,yo,Cv,h.qc,h.qd,n1,n2⟩,f0,l7,λ hh => ?_⟩;intro x y K e1 e2 hK hx hy a1 a2 b1 b2;obtain ⟨k1,k2⟩:=hh x y K e1 e2 hK hx hy a1 a2 b1 b2;have eY:c*x+d*y=K*q+c*e1+d*e2:=by rw[hx,hy,h.hq];grind
 have eX:(a-f*c)*x+(b-f*d)*y=K*(p-f*q)+(a-f*c)*e1+(b-f*d)*e2:=by rw[hx,hy,yo];grind
 have eS:(a-f*c)*x+(b-f*d)*y=(a*x+b*y)-f*(c*x+d*y):=by grind
 generalize hE:a-f*c=E at *;generalize hG:b-f*d=G at *;generalize yp:p-f*q=q2 at *;have key:0<=E*x+G*y/\E*x+G*y<c*x+d*y:=by
  rw[eX,eY];rcases Cv with ⟨s1,s2,s3,s4⟩|⟨s1,s2,s3,s4⟩
  ·-- c≥0,d<=0,E<=0,G≥0
   have t1:E*K<=E*e1:=Int.mul_le_mul_of_nonpos_left s3 a2;have t2:0<=G*e2:=Int.mul_nonneg s4 b1;have t3:0<=K*(q2+E):=Int.mul_nonneg (by omega) n1;have t4:(G-d)*e2<=(G-d)*K:=Int.mul_le_mul_of_nonneg_left b2 (by omega);have t5:(E-c)*e1<=0:=Int.mul_nonpos_of_nonpos_of_nonneg (by omega) a1;have t6:0<K*((q+d)-(q2+G)):=Int.mul_pos hK (by omega);constructor
   ·grind
   ·grind
  ·have t1:G*K<=G*e2:=Int.mul_le_mul_of_nonpos_left s4 b2
   have t2:0<=E*e1:=Int.mul_nonneg s3 a1;have t3:0<=K*(q2+G):=Int.mul_nonneg (by omega) n2;have t4:(E-c)*e1<=(E-c)*K:=Int.mul_le_mul_of_nonneg_left a2 (by omega);have t5:(G-d)*e2<=0:=Int.mul_nonpos_of_nonpos_of_nonneg (by omega) b1;have t6:0<K*((q+c)-(q2+E)):=Int.mul_pos hK (by omega);constructor
   ·grind
   ·grind
 refine ⟨key.1,key.2,k1,?_⟩;rw[<-k2,eS];exact Oa _ _ _
end Go.e9

namespace Go.e9
section
variable {U V UL VL p u0 u1 u2 v1 v2 top q r:Nat}
theorem Ol (hU:U=UL+p*(u2+4294967296*top)) (hV:V=VL+p*(v2+4294967296*v1)) (hl:UL<p) (h2:u2<4294967296) (ae:0<V):U/V*v1<=top:=by
 have h1:U/V*V<=U:=Nat.div_mul_le_self U V;generalize U/V=Q at *;have h3:U<p*(4294967296*(top+1)):=by
  have:p*(u2+4294967296*top)+p<=p*(4294967296*(top+1)):=by
   rw[<-Nat.mul_succ];exact Nat.mul_le_mul_left p (by omega)
  omega
 have h4:p*(4294967296*(Q*v1))<=Q*V:=by
  have e:Q*V=Q*VL+Q*(p*v2)+p*(4294967296*(Q*v1)):=by rw[hV];grind
  omega
 have h5:p*(4294967296*(Q*v1))<p*(4294967296*(top+1)):=by omega
 have:=Nat.lt_of_mul_lt_mul_left h5
 omega
theorem Oj (hU:U=UL+p*(u2+4294967296*top)) (hV:V=VL+p*(v2+4294967296*v1)) (hl:UL<p) (hq:q*v1+r=top) (h:r*4294967296+u2<q*v2) (ae:0<V):U/V<q:=by
 rw[Nat.div_lt_iff_lt_mul ae];have e:q*V=q*VL+p*(q*v2+4294967296*(q*v1)):=by rw[hV];grind
 have h1:p*(u2+4294967296*top)+p<=p*(q*v2+4294967296*(q*v1)):=by
  rw[<-Nat.mul_succ];exact Nat.mul_le_mul_left p (by omega)
 omega
theorem Oi (h:U<4294967296*V) (hq:4294967296<=q) (ae:0<V):U/V<q:=by
 have:U/V<4294967296:=(Nat.div_lt_iff_lt_mul ae).2 h
 omega
theorem lS (hU:U=UL+p*(u2+4294967296*top)) (hV:V=VL+p*(v2+4294967296*v1)) (sd:VL<p) (h1:2147483648<=v1) (hq:q*v1+r=top) (h:q*v2<=r*4294967296+u2) (hqB:q<4294967296):q<=U/V+1:=by
 have ae:0<V:=by
  have:p*4294967296<=p*(v2+4294967296*v1):=Nat.mul_le_mul_left p (by omega)
  omega
 by_cases h0:q=0
 ·subst h0;exact Nat.zero_le _
 have e:q*V=q*VL+p*(q*v2+4294967296*(q*v1)):=by rw[hV];grind
 have h2:p*(q*v2+4294967296*(q*v1))<=p*(u2+4294967296*top):=Nat.mul_le_mul_left p (by omega);have h3:q*VL<V:=by
  have a1:q*VL<=4294967296*VL:=zR _ (by omega);have a2:p*4294967296<=p*(v2+4294967296*v1):=Nat.mul_le_mul_left p (by omega);omega
 have h4:(q-1)*V<U+1:=by
  have:(q-1)*V+V=q*V:=by
   have:q=q-1+1:=by omega
   rw[<-Nat.succ_mul,Nat.succ_eq_add_one,<-this]
  omega
 have h5:q-1<=U/V:=(Nat.le_div_iff_mul_le ae).2 (by omega);omega
end
theorem iF {U V U' q:Nat} (ae:0<V) (h1:U/V<=q) (h:U'+q*V=U):q=U/V/\U'=U%V:=by
 have h2:q*V<=U:=by omega
 have h3:q<=U/V:=(Nat.le_div_iff_mul_le ae).2 h2;have h4:q=U/V:=by omega
 have:=Nat.div_add_mod U V
 rw[Nat.mul_comm,<-h4]at this;exact ⟨h4,by omega⟩
theorem iE {U V U' q P:Nat} (ae:0<V) (h2:q<=U/V+1) (yf:U'<P) (h:U'+q*V=U+P):q-1=U/V/\1<=q/\U'+V=U%V+P:=by
 have h3:U/V*V<=U:=Nat.div_mul_le_self U V;have h4:U/V<q:=by
  rcases Nat.lt_or_ge (U/V) q with h|h
  ·exact h
  ·have:q*V<=U/V*V:=zR _ h
   omega
 have h6:=Nat.div_add_mod U V;rw[Nat.mul_comm]at h6;generalize U/V=Q at *;generalize U%V=R at *;obtain rfl:q=Q+1:=by omega
 rw[Nat.add_mul,Nat.one_mul]at h;exact ⟨by omega,by omega,by omega⟩
theorem YF {u pl bw:Nat} (hu:u<4294967296) (hp:pl<4294967296) (hb:bw<=1):EG (EG u pl) bw%4294967296+pl+bw=u+4294967296*(EG (EG u pl) bw/9223372036854775808)/\EG (EG u pl) bw/9223372036854775808<=1:=by
 rw[RJ,RJ];omega
theorem Uo {d e bw:Nat} (hu:d<4294967296) (hp:e<4294967296) (hb:bw<=1):EG (EG d bw) e%4294967296+e+bw=d+4294967296*(EG (EG d bw) e/9223372036854775808)/\EG (EG d bw) e/9223372036854775808<=1:=by
 rw[RJ,RJ];omega
theorem Un {d bw:Nat} (hu:d<4294967296) (hb:bw<=1):EG d bw%4294967296+bw=d+4294967296*(EG d bw/9223372036854775808)/\EG d bw/9223372036854775808<=1:=by
 rw[RJ];omega
theorem qU {V Y X p D e bw bj d:Nat} (h:V+Y=X+p*bw) (hd:D+e+bw=d+4294967296*bj):V+p*D+(Y+p*e)=X+p*d+p*4294967296*bj:=by
 have h2:p*D+p*e+p*bw=p*d+p*4294967296*bj:=by
  rw[<-Nat.mul_add,<-Nat.mul_add,hd,Nat.mul_add,Nat.mul_assoc]
 omega
theorem SM {a b:Nat} (ha:a<4294967296) (hb:b<4294967296):a*b<=18446744065119617025 :=
 Nat.mul_le_mul (show a<=4294967295 by omega) (show b<=4294967295 by omega)
theorem iG {X Y s:Nat} (hs:0<s):X*s/(Y*s)=X/Y/\X*s%(Y*s)/s=X%Y:=by
 refine ⟨Nat.mul_div_mul_right X Y hs,?_⟩;rw[Nat.mul_mod_mul_right,Nat.mul_div_cancel _ hs]
end Go.e9

namespace Go.e9
@[irreducible] def OZ (d s : Nat) : Nat := d * 2 ^ s % 4294967296
@[irreducible] def Q4 (d s : Nat) : Nat := d * 2 ^ s / 4294967296
theorem cZ (d s:Nat):OZ d s=d*2^s%4294967296:=by unfold OZ;rfl
theorem Q5 (d s:Nat):Q4 d s=d*2^s/4294967296:=by unfold Q4;rfl
theorem PW {s:Nat} (hs:s<=32):4294967296=2^s*2^(32-s):=by
 rw[<-Nat.pow_add,show s+(32-s)=32 by omega]
theorem Vo (d s:Nat):OZ d s+4294967296*Q4 d s=d*2^s:=by
 rw[cZ,Q5];exact Nat.mod_add_div _ _
theorem pY {d s:Nat} (hs:s<=32):OZ d s=2^s*(d%2^(32-s)):=by
 rw[cZ,PW hs,Nat.mul_comm d,Nat.mul_mod_mul_left]
theorem pX {d s:Nat} (hs:s<=32):Q4 d s=d/2^(32-s):=by
 rw[Q5,PW hs,Nat.mul_comm d,Nat.mul_div_mul_left _ _ (Nat.two_pow_pos s)]
theorem Q6 {d s:Nat} (hd:d<4294967296) (hs:s<=32):OZ d s%2^s=0/\Q4 d s<2^s/\OZ d s+2^s<=4294967296/\d*2^s<=18446744073709551615:=by
 refine ⟨by rw[pY hs,Nat.mul_mod_right],?_,?_,?_⟩
 ·rw[pX hs,Nat.div_lt_iff_lt_mul (Nat.two_pow_pos _),<-Nat.pow_add,show s+(32-s)=32 by omega];exact hd
 ·rw[pY hs]
  have h1:d%2^(32-s)+1<=2^(32-s):=Nat.mod_lt _ (Nat.two_pow_pos _);have h2:=Nat.mul_le_mul_left (2^s) h1;rw[Nat.mul_add,Nat.mul_one,<-PW hs]at h2;exact h2
 ·have h1:2^s<=2^32:=Nat.pow_le_pow_right (by omega) hs
  have h2:d*2^s<=4294967295*4294967296:=Nat.mul_le_mul (by omega) h1;omega
theorem UV {s:Nat} (hs:s<=32):2^s<=4294967296:=(Nat.pow_le_pow_right (by omega) hs:2^s<=2^32)
theorem nB {V X p lo s d:Nat} (h:V+p*lo=X*2^s):V+p*(OZ d s+lo)+p*4294967296*Q4 d s=(X+p*d)*2^s:=by
 have h1:=Vo d s;have h2:p*(OZ d s+lo)+p*4294967296*Q4 d s=p*lo+p*(d*2^s):=by
  rw[<-h1];grind
 rw[Nat.add_mul,<-h,Nat.mul_assoc p d];omega
theorem bH {d V s:Nat} (hs:s<=32):(d+4294967296*V)/2^s=d/2^s+V%2^s*2^(32-s)+4294967296*(V/2^s):=by
 have e:4294967296*V=2^s*(2^(32-s)*V):=by rw[<-Nat.mul_assoc,<-PW hs]
 rw[e,Nat.add_mul_div_left _ _ (Nat.two_pow_pos s)];have h:=Nat.mod_add_div V (2^s);have h2:2^(32-s)*V=V%2^s*2^(32-s)+4294967296*(V/2^s):=by
  have h3:2^(32-s)*V=2^(32-s)*(V%2^s+2^s*(V/2^s)):=by rw[h]
  rw[h3,PW hs];grind
 omega
theorem nH {d V s:Nat} (hs:s<=32):(d+4294967296*V)%2^s=d%2^s:=by
 have e:4294967296*V=2^s*(2^(32-s)*V):=by rw[<-Nat.mul_assoc,<-PW hs]
 rw[e,Nat.add_mul_mod_self_left]
theorem Qz {d s:Nat} (hs:s<=32):d*2^(32-s)%4294967296=d%2^s*2^(32-s):=by
 have e:4294967296=2^s*2^(32-s):=PW hs;rw[e,Nat.mul_mod_mul_right]
theorem nG {d V s:Nat} (hd:d<4294967296) (hs:s<=32):d/2^s<2^(32-s)/\V%2^s*2^(32-s)%2^(32-s)=0/\V%2^s*2^(32-s)+2^(32-s)<=4294967296:=by
 refine ⟨?_,Nat.mul_mod_left _ _,?_⟩
 ·rw[Nat.div_lt_iff_lt_mul (Nat.two_pow_pos _),<-Nat.pow_add,show 32-s+s=32 by omega];exact hd
 ·have h1:V%2^s+1<=2^s:=Nat.mod_lt _ (Nat.two_pow_pos _)
  have h2:=zR (2^(32-s)) h1;rw[Nat.add_mul,Nat.one_mul,<-PW hs]at h2;exact h2
def o7 (x:Nat):Nat:=if x=0 then 0 else x.log2+1
theorem fU {x:Nat} (h:x≠0):2^(o7 x-1)<=x/\x<2^o7 x/\1<=o7 x:=by
 unfold o7;rw[if_neg h];exact ⟨Nat.log2_self_le h,Nat.lt_log2_self,by omega⟩
theorem V7 {x k:Nat} (h:x<2^k):o7 x<=k:=by
 by_cases h0:x=0
 ·subst h0;unfold o7;simp
 ·obtain ⟨h1,_,h3⟩:=fU h0
  have h2:2^(o7 x-1)<2^k:=by omega
  have:=(Nat.pow_lt_pow_iff_right (by omega)).1 h2
  omega
theorem TJ {x:Nat} (n:Nat) (h:2^n<=x):o7 (x/2^n)+n=o7 x:=by
 have hp:=Nat.two_pow_pos n;have hx:x≠0:=by omega
 have hq:x/2^n≠0:=by have:=Nat.div_pos h hp;omega
 unfold o7;rw[if_neg hx,if_neg hq];have:(x/2^n).log2+n=x.log2:=by
  symm
  rw[Nat.log2_eq_iff hx];have h1:=Nat.log2_self_le hq;have h2:x/2^n<2^((x/2^n).log2+1):=Nat.lt_log2_self;rw[Nat.le_div_iff_mul_le hp,<-Nat.pow_add]at h1;rw[Nat.div_lt_iff_lt_mul hp,<-Nat.pow_add]at h2;exact ⟨h1,by rw[show (x/2^n).log2+n+1=(x/2^n).log2+1+n by omega];exact h2⟩
 omega
theorem bI {x:Nat} (h0:x≠0) (hx:x<4294967296):o7 x<=32/\1<=o7 x/\2147483648<=x*2^(32-o7 x)/\x*2^(32-o7 x)<4294967296:=by
 obtain ⟨h1,h2,h3⟩:=fU h0;have hk:o7 x<=32:=V7 (k:=32) hx;refine ⟨hk,h3,?_,?_⟩
 ·have:=zR (2^(32-o7 x)) h1
  rw[<-Nat.pow_add,show o7 x-1+(32-o7 x)=31 by omega]at this;exact this
 ·have:=Nat.mul_lt_mul_of_pos_right h2 (Nat.two_pow_pos (32-o7 x))
  rw[<-Nat.pow_add,show o7 x+(32-o7 x)=32 by omega]at this;exact this
end Go.e9



















namespace Go.e9
open Go.RowKit
theorem G5 (b o n:Nat):(⟨b,o,none⟩:Addr).add n=⟨b,o+n,none⟩:=by
 unfold Addr.add;split<;>simp_all
inductive Rd (w:World) (R:Bool->Nat->Prop):AV->Value->Prop
 | int (k:IntKind) (n:Int):Rd w R (.int k n) (.int k n)
 | bool (b:Bool):Rd w R (.bool b) (.bool b)
 | str (s:ByteArray):Rd w R (.bh (.string s)) (.string s)
 | jn:Rd w R (.bh .nilFunc) .nilFunc
 | gn (l:Bool) (a:Option Addr) (cap:Nat):Rd w R (.sl l []) (.slice a 0 cap)
 | emp (b:Bool) (a:Option Addr) (cap:Nat) (h:a.isNone=b):Rd w R (.bh (.bool b)) (.slice a 0 cap)
 | sl (l:Bool) (es:List (List AV)) (b o a8 cap:Nat) (u:Nat->Nat->Value) (m8:es≠[]) (hp:0<a8) (hR:R l b) (aw:es.length<=cap) (hz : ∀ e∈es,e.length=a8)
   (hc : ∀ i e,es[i]? = some e -> ∀ j c,e[j]? = some c->w.cell? ⟨b,o+(i*a8+j),none⟩=some (u i j))
   (hr : ∀ i e,es[i]? = some e -> ∀ j c,e[j]? = some c->Rd w R c (u i j)) :
   Rd w R (.sl l es) (.slice (some ⟨b,o,none⟩) es.length cap)
theorem Rd.one {w:World} {R:Bool->Nat->Prop} {a:AV} {v:Value} (h:Rd w R a v):v.oneCell'=true:=by
 cases h<;>rfl
theorem QB {w:World} {a:Addr} {u:Value} (h:w.cell? a=some u):a.block<w.heap.size:=by
 unfold World.cell? at h;split at h
 ·rename_i hh
  exact (Array.getElem?_eq_some_iff.1 hh).1
 ·cases h
theorem UA {es:List (List AV)} {a8:Nat} (m8:es≠[]) (hp:0<a8) (hz : ∀ e∈es,e.length=a8) : ∃ e c,es[0]? = some e/\e[0]? = some c:=by
 cases es with
 | nil=>exact absurd rfl m8
 | cons e r =>
  have:=hz e (by simp)
  cases e with
  | nil=>simp at this;omega
  | cons c q=>exact ⟨c::q,c,rfl,rfl⟩
theorem Rd.mono {w w':World} {R R':Bool->Nat->Prop} (hR : ∀ l b,b<w.heap.size->R l b->R' l b)
  (hw : ∀ l b,b<w.heap.size->R l b->w'.heap[b]? = w.heap[b]?) {a:AV} {v:Value} (h:Rd w R a v):Rd w' R' a v:=by
 induction h with
 | int k n=>exact .int k n
 | bool b=>exact .bool b
 | str s=>exact .str s
 | jn=>exact .jn
 | gn l a cap=>exact .gn l a cap
 | emp b a cap h=>exact .emp b a cap h
 | sl l es b o a8 cap u m8 hp h1 aw hz hc hr ih =>
  obtain ⟨e,c,he,fy⟩:=UA m8 hp hz;have hb:b<w.heap.size:=QB (hc 0 e he 0 c fy);refine .sl l es b o a8 cap u m8 hp (hR l b hb h1) aw hz (λ i e he j c yi => ?_) ih;rw[World.cell?_of_block (w:=w) (hw l b hb h1)];exact hc i e he j c yi
structure M where
 ν:Nat->Nat->Option Nat
 own:AH
 w:World
section
variable (B:Nat) (S:Nat->Prop)
def safe (m:M) (l:Bool) (b:Nat):Prop :=
 (S b/\b<B)\/(B<=b /\ ∀ s t,(m.own.get s t).isSome=true->m.ν s t≠some b)\/(l=true/\b<B)
inductive CC (m:M):AV->Value->Prop
 | rd {a:AV} {v:Value} (h:Rd m.w (safe B S m) a v):CC m a v
 | nil:CC m .nil (.slice none 0 0)
 | row (s t z off len:Nat) (a:Option Addr) (cap:Nat) (ht:t<m.own.g8 s) (bu:0<z) (lk:len<=cap) (ha:0<len->a.isSome=true)
   (h : ∀ b,m.own.get s t=some b->b.a8=z/\((len=0/\cap=0) \/ ∃ g arr e,m.ν s t=some g/\a=some ⟨g,off*z,none⟩/\m.w.heap[g]? = some (.cells arr e (0,0))/\(off+cap)*z<=arr.size)) :
   CC m (.row s t z off len) (.slice a len cap)
 | ptr (s t i j:Nat) (a:Addr) (ht:t<m.own.g8 s) (h : ∀ b,m.own.get s t=some b -> ∃ g,m.ν s t=some g/\a=⟨g,i*b.a8+j,none⟩):CC m (.ptr s t i j) (.pointer (some a))
 | s8 (cs:List AV) (b o:Nat) (u:Nat->Value) (l:Bool) (hR:cs≠[]->safe B S m l b) (hc : ∀ j c,cs[j]? = some c->m.w.cell? ⟨b,o+j,none⟩=some (u j)) (hr : ∀ j c,cs[j]? = some c->Rd m.w (safe B S m) c (u j)) :
   CC m (.s8 cs) (.pointer (some ⟨b,o,none⟩))
def CL (m:M) (cs:List AV) (vs:List Value):Prop:=cs.length=vs.length /\ ∀ (j:Nat) (c:AV) (v:Value),cs[j]? = some c->vs[j]? = some v->CC B S m c v
inductive CA (m:M):AV->Value->Prop
 | one {a:AV} {v:Value} (h:CC B S m a v):CA m a v
 | agg (cs:List AV) (vs:List Value) (h:CL B S m cs vs):CA m (.agg cs) (.agg vs.toArray)
 | fn (p:Bool) (f g:Nat) (cs:List AV) (vs:List Value) (hp:p=true->cs=[]) (h:CL B S m cs vs):CA m (.fn p f g cs) (.func (.func g) #[] vs.toArray)
 | po (f g:Nat) (cs:List AV) (vs:List Value) (hp:cs≠[]) (h:CL B S m cs vs):CA m (.fn true f g cs) (.func (.func g) #[.agg vs.toArray] #[])
inductive CV (m:M):AV->Value->Prop
 | any (v:Value):CV m .any v
 | ca {a:AV} {v:Value} (h:CA B S m a v):CV m a v
 | j4 (as:List AV) (vs:List Value) (hl:as.length=vs.length) (h : ∀ (j:Nat) (c:AV) (v:Value),as[j]? = some c->vs[j]? = some v->CA B S m c v):CV m (.j4 as) (.tuple vs.toArray)
def tS (m:M) (s t:Nat) (b:DZ):Prop :=
 (∀ e∈b.es,e.length=b.a8)/\match m.ν s t with
  | none=>b.es=[]
  | some g=>B<=g /\ ∃ arr e,m.w.heap[g]? = some (.cells arr e (0,0)) /\
    ∀ i cs,b.es[i]? = some cs -> ∀ j c,cs[j]? = some c -> ∃ u,arr[i*b.a8+j]? = some u/\CC B S m c u
structure BR (w0:World) (m:M):Prop where
 below:Below B w0 m.w
 size:B<=m.w.heap.size
 fresh : ∀ s t,m.own.g8 s<=t->m.own.get s t=none
 e6 : ∀ s t b,m.own.get s t=some b->tS B S m s t b
 inj : ∀ s t s' t' b b' g,m.own.get s t=some b->m.own.get s' t'=some b'->m.ν s t=some g->m.ν s' t'=some g->s=s'/\t=t'
structure DI (m m':M):Prop where
 size:m.w.heap.size<=m'.w.heap.size
 qz : ∀ b,b<m.w.heap.size->safe B S m true b->m'.w.heap[b]? = m.w.heap[b]?
 vi : ∀ l b,b<m.w.heap.size->safe B S m l b->safe B S m' l b
 g8 : ∀ s,m.own.g8 s<=m'.own.g8 s
 name : ∀ s t b',t<m.own.g8 s->m'.own.get s t=some b' -> ∃ b,m.own.get s t=some b/\b'.a8=b.a8/\m'.ν s t=m.ν s t /\
   ∀ g arr e,m.ν s t=some g->m.w.heap[g]? = some (.cells arr e (0,0)) -> ∃ u4,m'.w.heap[g]? = some (.cells u4 e (0,0))/\u4.size=arr.size
end
section
variable {B:Nat} {S:Nat->Prop}
theorem cU {m:M} {l:Bool} {b:Nat} (h:safe B S m l b):safe B S m true b:=by
 rcases h with h|h|⟨_,h⟩
 ·exact .inl h
 ·exact .inr (.inl h)
 ·exact .inr (.inr ⟨rfl,h⟩)
theorem DI.rd {m m':M} (h:DI B S m m') {a:AV} {v:Value} (hr:Rd m.w (safe B S m) a v):Rd m'.w (safe B S m') a v :=
 hr.mono h.vi (λ_ b hb hs=>h.qz b hb (cU hs))
theorem DI.cc {m m':M} (h:DI B S m m') {a:AV} {v:Value} (hc:CC B S m a v):CC B S m' a v:=by
 cases hc with
 | rd hr=>exact .rd (h.rd hr)
 | nil=>exact .nil
 | row s t z off len a cap ht bu lk ha hb =>
  refine .row s t z off len a cap (Nat.lt_of_lt_of_le ht (h.g8 s)) bu lk ha λ b' k8 => ?_
  obtain ⟨b,h1,h2,h3,h4⟩:=h.name s t b' ht k8;obtain ⟨hz,dh⟩:=hb b h1;refine ⟨h2.trans hz,?_⟩;rcases dh with h0|⟨g,arr,e,hg,jc,hh,hle⟩
  ·exact .inl h0
  ·obtain ⟨u4,Ee,xh⟩:=h4 g arr e hg hh
   exact .inr ⟨g,u4,e,h3.trans hg,jc,Ee,xh ▸ hle⟩
 | ptr s t i j a ht hb =>
  refine .ptr s t i j a (Nat.lt_of_lt_of_le ht (h.g8 s)) λ b' k8 => ?_
  obtain ⟨b,h1,h2,h3,_⟩:=h.name s t b' ht k8;obtain ⟨g,hg,jc⟩:=hb b h1;exact ⟨g,h3.trans hg,h2 ▸ jc⟩
 | s8 cs b o u l hR hc hr =>
  have l7:cs≠[]->b<m.w.heap.size:=λ m8=>by
   cases cs with
   | nil=>exact absurd rfl m8
   | cons c r=>exact QB (hc 0 c rfl)
  refine .s8 cs b o u l (λ m8=>h.vi l b (l7 m8) (hR m8)) (λ j c hj => ?_) (λ j c hj=>h.rd (hr j c hj));have m8:cs≠[]:=λ e=>by subst e;simp at hj
  rw[World.cell?_of_block (w:=m.w) (h.qz b (l7 m8) (cU (hR m8)))];exact hc j c hj
theorem DI.cl {m m':M} (h:DI B S m m') {cs:List AV} {vs:List Value} (hc:CL B S m cs vs):CL B S m' cs vs :=
 ⟨hc.1,λ j c v h1 h2=>h.cc (hc.2 j c v h1 h2)⟩
theorem DI.ca {m m':M} (h:DI B S m m') {a:AV} {v:Value} (hc:CA B S m a v):CA B S m' a v:=by
 cases hc with
 | one hc=>exact .one (h.cc hc)
 | agg cs vs hc=>exact .agg cs vs (h.cl hc)
 | fn p f g cs vs hp hc=>exact .fn p f g cs vs hp (h.cl hc)
 | po f g cs vs hp hc=>exact .po f g cs vs hp (h.cl hc)
theorem DI.cv {m m':M} (h:DI B S m m') {a:AV} {v:Value} (hc:CV B S m a v):CV B S m' a v:=by
 cases hc with
 | any v=>exact .any v
 | ca hc=>exact .ca (h.ca hc)
 | j4 as vs hl hc=>exact .j4 as vs hl λ j c v h1 h2=>h.ca (hc j c v h1 h2)
theorem DI.refl (m:M):DI B S m m :=
 ⟨Nat.le_refl _,λ_ _ _=>rfl,λ_ _ _ h=>h,λ_=>Nat.le_refl _,λ_ _ b' _ h=>⟨b',h,rfl,rfl,λ_ arr _ _ h=>⟨arr,h,rfl⟩⟩⟩
theorem DI.trans {m m' Jt:M} (h:DI B S m m') (k:DI B S m' Jt):DI B S m Jt where
 size:=Nat.le_trans h.size k.size
 qz b hb hs:=(k.qz b (Nat.lt_of_lt_of_le hb h.size) (h.vi true b hb hs)).trans (h.qz b hb hs)
 vi l b hb hs:=k.vi l b (Nat.lt_of_lt_of_le hb h.size) (h.vi l b hb hs)
 g8 s:=Nat.le_trans (h.g8 s) (k.g8 s)
 name s t Wk ht En:=by
  obtain ⟨b',h1,h2,h3,h4⟩:=k.name s t Wk (Nat.lt_of_lt_of_le ht (h.g8 s)) En;obtain ⟨b,g1,g2,g3,g4⟩:=h.name s t b' ht h1;refine ⟨b,g1,h2.trans g2,h3.trans g3,λ g arr e hg ha => ?_⟩;obtain ⟨u4,Ee,xh⟩:=g4 g arr e hg ha;obtain ⟨zn,Ef,Gf⟩:=h4 g u4 e (g3.trans hg) Ee;exact ⟨zn,Ef,Gf.trans xh⟩
theorem CC.one {m:M} {a:AV} {v:Value} (h:CC B S m a v):v.oneCell'=true:=by
 cases h with
 | rd h=>exact h.one
 | _=>rfl
end
end Go.e9

namespace Go.e9
open Go.RowKit
section
variable {B:Nat} {S:Nat->Prop} {w0:World}
def live (m:M) (s t:Nat):Prop := ∃ b,m.own.get s t=some b
theorem BR.ge {m:M} (h:BR B S w0 m) {s t g:Nat} (hl:live m s t) (hg:m.ν s t=some g):B<=g /\ ∃ arr e,m.w.heap[g]? = some (.cells arr e (0,0)):=by
 obtain ⟨b,hb⟩:=hl;obtain ⟨_,h2⟩:=h.e6 s t b hb;rw[hg]at h2;obtain ⟨h3,arr,e,h4,_⟩:=h2;exact ⟨h3,arr,e,h4⟩
theorem QP {m m':M} (hm:BR B S w0 m) (hs:m.w.heap.size<=m'.w.heap.size)
  (hk : ∀ b,b<m.w.heap.size->(∀ s t,live m s t->m.ν s t≠some b)->m'.w.heap[b]? = m.w.heap[b]?) (wj : ∀ s,m.own.g8 s<=m'.own.g8 s)
  (Av : ∀ s t b',t<m.own.g8 s->m'.own.get s t=some b' -> ∃ b,m.own.get s t=some b/\b'.a8=b.a8/\m'.ν s t=m.ν s t /\
   ∀ g arr e,m.ν s t=some g->m.w.heap[g]? = some (.cells arr e (0,0)) -> ∃ u4,m'.w.heap[g]? = some (.cells u4 e (0,0))/\u4.size=arr.size)
  (ji : ∀ s t g,live m' s t->m'.ν s t=some g->g<m.w.heap.size -> ∃ s0 t0,live m s0 t0/\m.ν s0 t0=some g):DI B S m m':=by
 have ym : ∀ b,safe B S m true b -> ∀ s t,live m s t->m.ν s t≠some b:=by
  intro b hb s t hl hg;have kg:=(hm.ge hl hg).1;rcases hb with ⟨_,h⟩|⟨_,h⟩|⟨_,h⟩
  ·omega
  ·obtain ⟨b',k8⟩:=hl
   exact h s t (by simp [k8]) hg
  ·omega
 refine ⟨hs,λ b hb qm=>hk b hb (ym b qm),λ l b hb qm => ?_,wj,Av⟩;rcases qm with h|⟨h,hn⟩|h
 ·exact .inl h
 ·refine .inr (.inl ⟨h,λ s t hl hg => ?_⟩)
  obtain ⟨b',k8⟩:=Option.isSome_iff_exists.1 hl;obtain ⟨s0,t0,⟨b0,ov⟩,wx⟩:=ji s t b ⟨b',k8⟩ hg hb;exact hn s0 t0 (by simp [ov]) wx
 ·exact .inr (.inr h)
theorem grow {m:M} (hm:BR B S w0 m) {w':World} (hb:Below m.w.heap.size m.w w') :
  BR B S w0 ⟨m.ν,m.own,w'⟩/\DI B S m ⟨m.ν,m.own,w'⟩:=by
 have he:DI B S m ⟨m.ν,m.own,w'⟩:=by
  refine QP hm hb.size (λ b k8 _=>hb.block b k8) (λ_=>Nat.le_refl _) (λ s t b' _ k8=>⟨b',k8,rfl,rfl,λ g arr e hg ha=>⟨arr,?_,rfl⟩⟩) (λ s t g hl hg _=>⟨s,t,hl,hg⟩);have:g<m.w.heap.size:=(Array.getElem?_eq_some_iff.1 ha).1
  exact (hb.block g this).trans ha
 refine ⟨⟨hm.below.trans (hb.mono hm.size),Nat.le_trans hm.size hb.size,hm.fresh,λ s t b hg => ?_,hm.inj⟩,he⟩;obtain ⟨h1,h2⟩:=hm.e6 s t b hg;refine ⟨h1,?_⟩;show match m.ν s t with|none=>_|some g=>_
 cases hν:m.ν s t with
 | none=>rw[hν]at h2;exact h2
 | some g =>
  rw[hν]at h2;obtain ⟨h3,arr,e,h4,h5⟩:=h2;refine ⟨h3,arr,e,?_,λ i cs hi j c hj => ?_⟩
  ·exact (hb.block g (Array.getElem?_eq_some_iff.1 h4).1).trans h4
  ·obtain ⟨u,hu,y7⟩:=h5 i cs hi j c hj
   exact ⟨u,hu,he.cc y7⟩
theorem F4 (o:AH) (s s' t':Nat) (b:DZ):(o.put s ((o s).new b)).get s' t'=if s'=s/\t'=o.g8 s then some b else o.get s' t':=by
 unfold AH.get AH.put B8.new AH.g8;by_cases h:s'=s
 ·subst h
  by_cases h2:t'=(o s').g8<;>simp [h2]
 ·simp [h]
theorem J7 (o:AH) (s s':Nat) (b:DZ):(o.put s ((o s).new b)).g8 s'=if s'=s then o.g8 s+1 else o.g8 s':=by
 unfold AH.g8 AH.put B8.new;by_cases h:s'=s<;>simp [h]
theorem UE (o:AH) (s t s' t':Nat) (b:Option DZ):(o.put s ((o s).o9 t b)).get s' t'=if s'=s/\t'=t then b else o.get s' t':=by
 unfold AH.get AH.put B8.o9;by_cases h:s'=s
 ·subst h
  by_cases h2:t'=t<;>simp [h2]
 ·simp [h]
theorem gQ (o:AH) (s t s':Nat) (b:Option DZ):(o.put s ((o s).o9 t b)).g8 s'=o.g8 s':=by
 unfold AH.g8 AH.put B8.o9;by_cases h:s'=s<;>simp [h]
def j5 (m:M) (s:Nat) (g:Option Nat):Nat->Nat->Option Nat:=λ s' t'=>if s'=s/\t'=m.own.g8 s then g else m.ν s' t'
theorem XM {m:M} (hm:BR B S w0 m) (s:Nat) : ¬ live m s (m.own.g8 s):=λ⟨b,hb⟩=>by
 rw[hm.fresh s _ (Nat.le_refl _)]at hb;cases hb
theorem Y3 {m:M} (hm:BR B S w0 m) (s:Nat) (b:DZ) (arr:Array Value) (e:TypeId) (hz : ∀ x∈b.es,x.length=b.a8)
  (hc : ∀ i cs,b.es[i]? = some cs -> ∀ j c,cs[j]? = some c -> ∃ u,arr[i*b.a8+j]? = some u/\CC B S m c u) :
  BR B S w0 ⟨j5 m s (some m.w.heap.size),m.own.put s ((m.own s).new b),m.w.alloc (.cells arr e)⟩ /\
  DI B S m ⟨j5 m s (some m.w.heap.size),m.own.put s ((m.own s).new b),m.w.alloc (.cells arr e)⟩:=by
 have v5:(m.w.alloc (.cells arr e)).heap.size=m.w.heap.size+1:=by simp
 have hν : ∀ s' t',live m s' t'->j5 m s (some m.w.heap.size) s' t'=m.ν s' t':=λ s' t' hl=>by
  unfold j5;rw[if_neg];rintro ⟨rfl,rfl⟩
  exact XM hm _ hl
 have he:DI B S m ⟨j5 m s (some m.w.heap.size),m.own.put s ((m.own s).new b),m.w.alloc (.cells arr e)⟩:=by
  refine QP hm (by rw[v5];omega) (λ k hk _=>Below.heap_alloc _ _ _ hk) (λ s' => ?_) (λ s' t' b' ht k8 => ?_) (λ s' t' g hl hg l7 => ?_)
  ·rw[J7];split
   ·rename_i h;subst h;omega
   ·exact Nat.le_refl _
  ·rw[F4]at k8
   rw[if_neg (by rintro ⟨rfl,rfl⟩;omega)]at k8;refine ⟨b',k8,rfl,hν s' t' ⟨b',k8⟩,λ g ar e' hg ha=>⟨ar,?_,rfl⟩⟩;exact (Below.heap_alloc _ _ _ (Array.getElem?_eq_some_iff.1 ha).1).trans ha
  ·obtain ⟨b',k8⟩:=hl
   have q7:=k8;rw[F4]at k8;by_cases h:s'=s/\t'=m.own.g8 s
   ·simp only[j5,if_pos h,Option.some.injEq]at hg
    omega
   ·rw[if_neg h]at k8
    exact ⟨s',t',⟨b',k8⟩,by rw[<-hν s' t' ⟨b',k8⟩];exact hg⟩
 refine ⟨⟨hm.below.alloc hm.size _,by rw[v5];have:=hm.size;omega,λ s' t' ht => ?_,λ s' t' b' k8 => ?_,λ s1 t1 s2 t2 b1 b2 g h1 h2 g1 g2 => ?_⟩,he⟩
 ·rw[J7]at ht
  rw[F4,if_neg]
  ·refine hm.fresh s' t' ?_
   split at ht
   ·rename_i h;subst h;omega
   ·exact ht
  ·rintro ⟨rfl,rfl⟩
   simp at ht;omega
 ·rw[F4]at k8
  by_cases h:s'=s/\t'=m.own.g8 s
  ·rw[if_pos h]at k8
   obtain rfl:b=b':=by simpa using k8
   refine ⟨hz,?_⟩;show match j5 m s (some m.w.heap.size) s' t' with|none=>_|some g=>_
   rw[show j5 m s (some m.w.heap.size) s' t'=some m.w.heap.size by simp [j5,h]];refine ⟨hm.size,arr,e,heap_alloc_new _ _,λ i cs hi j c hj => ?_⟩;obtain ⟨u,hu,y7⟩:=hc i cs hi j c hj;exact ⟨u,hu,he.cc y7⟩
  ·rw[if_neg h]at k8
   obtain ⟨h1,h2⟩:=hm.e6 s' t' b' k8;refine ⟨h1,?_⟩;show match j5 m s (some m.w.heap.size) s' t' with|none=>_|some g=>_
   rw[hν s' t' ⟨b',k8⟩];cases hv:m.ν s' t' with
   | none=>rw[hv]at h2;exact h2
   | some g =>
    rw[hv]at h2;obtain ⟨h3,ar,e',h4,h5⟩:=h2;refine ⟨h3,ar,e',(Below.heap_alloc _ _ _ (Array.getElem?_eq_some_iff.1 h4).1).trans h4,λ i cs hi j c hj => ?_⟩;obtain ⟨u,hu,y7⟩:=h5 i cs hi j c hj;exact ⟨u,hu,he.cc y7⟩
 ·rw[F4]at h1 h2
  have lt : ∀ s' t' b',m.own.get s' t'=some b'->j5 m s (some m.w.heap.size) s' t'=some g->g<m.w.heap.size:=λ s' t' b' hb hg=>by
   rw[hν s' t' ⟨b',hb⟩]at hg;obtain ⟨_,ar,e',h4⟩:=hm.ge ⟨b',hb⟩ hg;exact (Array.getElem?_eq_some_iff.1 h4).1
  have at_ : ∀ s' t',s'=s/\t'=m.own.g8 s->j5 m s (some m.w.heap.size) s' t'=some g->g=m.w.heap.size:=λ s' t' h hg=>by
   simp only[j5,if_pos h,Option.some.injEq]at hg;exact hg.symm
  by_cases p1:s1=s/\t1=m.own.g8 s<;>by_cases p2:s2=s/\t2=m.own.g8 s
  ·exact ⟨p1.1.trans p2.1.symm,p1.2.trans p2.2.symm⟩
  ·rw[if_neg p2]at h2
   have:=lt s2 t2 b2 h2 g2
   have:=at_ s1 t1 p1 g1
   omega
  ·rw[if_neg p1]at h1
   have:=lt s1 t1 b1 h1 g1
   have:=at_ s2 t2 p2 g2
   omega
  ·rw[if_neg p1]at h1
   rw[if_neg p2]at h2;exact hm.inj s1 t1 s2 t2 b1 b2 g h1 h2 (by rw[<-hν s1 t1 ⟨b1,h1⟩];exact g1) (by rw[<-hν s2 t2 ⟨b2,h2⟩];exact g2)
theorem rO {m:M} (hm:BR B S w0 m) (s a8:Nat) :
  BR B S w0 ⟨j5 m s none,m.own.put s ((m.own s).new ⟨a8,[]⟩),m.w⟩/\DI B S m ⟨j5 m s none,m.own.put s ((m.own s).new ⟨a8,[]⟩),m.w⟩:=by
 have hν : ∀ s' t',live m s' t'->j5 m s none s' t'=m.ν s' t':=λ s' t' hl=>by
  unfold j5;rw[if_neg];rintro ⟨rfl,rfl⟩
  exact XM hm _ hl
 have he:DI B S m ⟨j5 m s none,m.own.put s ((m.own s).new ⟨a8,[]⟩),m.w⟩:=by
  refine QP hm (Nat.le_refl _) (λ k hk _=>rfl) (λ s' => ?_) (λ s' t' b' ht k8 => ?_) (λ s' t' g hl hg l7 => ?_)
  ·rw[J7];split
   ·rename_i h;subst h;omega
   ·exact Nat.le_refl _
  ·rw[F4]at k8
   rw[if_neg (by rintro ⟨rfl,rfl⟩;omega)]at k8;exact ⟨b',k8,rfl,hν s' t' ⟨b',k8⟩,λ g ar e' hg ha=>⟨ar,ha,rfl⟩⟩
  ·obtain ⟨b',k8⟩:=hl
   rw[F4]at k8;by_cases h:s'=s/\t'=m.own.g8 s
   ·simp [j5,if_pos h]at hg
   ·rw[if_neg h]at k8
    exact ⟨s',t',⟨b',k8⟩,by rw[<-hν s' t' ⟨b',k8⟩];exact hg⟩
 refine ⟨⟨hm.below,hm.size,λ s' t' ht => ?_,λ s' t' b' k8 => ?_,λ s1 t1 s2 t2 b1 b2 g h1 h2 g1 g2 => ?_⟩,he⟩
 ·rw[J7]at ht
  rw[F4,if_neg]
  ·refine hm.fresh s' t' ?_
   split at ht
   ·rename_i h;subst h;omega
   ·exact ht
  ·rintro ⟨rfl,rfl⟩
   simp at ht;omega
 ·rw[F4]at k8
  by_cases h:s'=s/\t'=m.own.g8 s
  ·rw[if_pos h]at k8
   obtain rfl:(⟨a8,[]⟩:DZ)=b':=by simpa using k8
   refine ⟨by simp,?_⟩;show match j5 m s none s' t' with|none=>_|some g=>_
   rw[show j5 m s none s' t'=none by simp [j5,h]]
  ·rw[if_neg h]at k8
   obtain ⟨h1,h2⟩:=hm.e6 s' t' b' k8;refine ⟨h1,?_⟩;show match j5 m s none s' t' with|none=>_|some g=>_
   rw[hν s' t' ⟨b',k8⟩];cases hv:m.ν s' t' with
   | none=>rw[hv]at h2;exact h2
   | some g =>
    rw[hv]at h2;obtain ⟨h3,ar,e',h4,h5⟩:=h2;refine ⟨h3,ar,e',h4,λ i cs hi j c hj => ?_⟩;obtain ⟨u,hu,y7⟩:=h5 i cs hi j c hj;exact ⟨u,hu,he.cc y7⟩
 ·rw[F4]at h1 h2
  by_cases p1:s1=s/\t1=m.own.g8 s
  ·simp [j5,if_pos p1]at g1
  ·by_cases p2:s2=s/\t2=m.own.g8 s
   ·simp [j5,if_pos p2]at g2
   ·rw[if_neg p1]at h1
    rw[if_neg p2]at h2;exact hm.inj s1 t1 s2 t2 b1 b2 g h1 h2 (by rw[<-hν s1 t1 ⟨b1,h1⟩];exact g1) (by rw[<-hν s2 t2 ⟨b2,h2⟩];exact g2)
theorem Uw {m:M} (hm:BR B S w0 m) (s t:Nat) (b b':DZ) (hb:m.own.get s t=some b) (g:Nat) (hg:m.ν s t=some g) (arr u4:Array Value) (e:TypeId)
  (ha:m.w.heap[g]? = some (.cells arr e (0,0))) (Jm:b'.a8=b.a8) (hz : ∀ x∈b'.es,x.length=b'.a8) (v5:u4.size=arr.size)
  (hc : ∀ i cs,b'.es[i]? = some cs -> ∀ j c,cs[j]? = some c -> ∃ u,u4[i*b'.a8+j]? = some u/\CC B S m c u) (w':World) (fx:Below B w0 w') (ur:w'.heap.size=m.w.heap.size)
  (hk : ∀ k,k≠g->w'.heap[k]? = m.w.heap[k]?) (Ik:w'.heap[g]? = some (.cells u4 e (0,0))) :
  BR B S w0 ⟨m.ν,m.own.put s ((m.own s).o9 t (some b')),w'⟩/\DI B S m ⟨m.ν,m.own.put s ((m.own s).o9 t (some b')),w'⟩:=by
 have l7:t<m.own.g8 s:=by
  rcases Nat.lt_or_ge t (m.own.g8 s) with h|h
  ·exact h
  ·rw[hm.fresh s t h]at hb;cases hb
 have he:DI B S m ⟨m.ν,m.own.put s ((m.own s).o9 t (some b')),w'⟩:=by
  refine QP hm (by rw[ur];exact Nat.le_refl _) (λ k fm hn=>hk k (λ e=>hn s t ⟨b,hb⟩ (e ▸ hg))) (λ s'=>by rw[gQ];exact Nat.le_refl _) (λ s' t' b2 ht q7 => ?_) (λ s' t' g' hl df _ => ?_)
  ·rw[UE]at q7
   by_cases h:s'=s/\t'=t
   ·obtain ⟨rfl,rfl⟩:=h
    rw[if_pos ⟨rfl,rfl⟩]at q7;obtain rfl:b'=b2:=by simpa using q7
    refine ⟨b,hb,Jm,rfl,λ g2 ar e' iu sj => ?_⟩;obtain rfl:g=g2:=by rw[hg]at iu;simpa using iu
    rw[ha]at sj;obtain ⟨rfl,rfl⟩:arr=ar/\e=e':=by simpa using sj
    exact ⟨u4,Ik,v5⟩
   ·rw[if_neg h]at q7
    refine ⟨b2,q7,rfl,rfl,λ g2 ar e' iu sj=>⟨ar,?_,rfl⟩⟩;rw[<-sj];exact hk g2 (λ e2=>h (by
     subst e2;exact hm.inj s' t' s t b2 b g2 q7 hb iu hg))
  ·obtain ⟨b2,q7⟩:=hl
   rw[UE]at q7;by_cases h:s'=s/\t'=t
   ·obtain ⟨rfl,rfl⟩:=h
    exact ⟨s',t',⟨b,hb⟩,df⟩
   ·rw[if_neg h]at q7
    exact ⟨s',t',⟨b2,q7⟩,df⟩
 refine ⟨⟨fx,by rw[ur];exact hm.size,λ s' t' ht => ?_,λ s' t' b2 q7 => ?_,λ s1 t1 s2 t2 b1 b2 g1 h1 h2 e1 e2 => ?_⟩,he⟩
 ·rw[gQ]at ht
  rw[UE,if_neg (by rintro ⟨rfl,rfl⟩;omega)];exact hm.fresh s' t' ht
 ·rw[UE]at q7
  by_cases h:s'=s/\t'=t
  ·obtain ⟨rfl,rfl⟩:=h
   rw[if_pos ⟨rfl,rfl⟩]at q7;obtain rfl:b'=b2:=by simpa using q7
   refine ⟨hz,?_⟩;show match m.ν s' t' with|none=>_|some g=>_
   rw[hg];refine ⟨(hm.ge ⟨b,hb⟩ hg).1,u4,e,Ik,λ i cs hi j c hj => ?_⟩;obtain ⟨u,hu,y7⟩:=hc i cs hi j c hj;exact ⟨u,hu,he.cc y7⟩
  ·rw[if_neg h]at q7
   obtain ⟨h1,h2⟩:=hm.e6 s' t' b2 q7;refine ⟨h1,?_⟩;show match m.ν s' t' with|none=>_|some g=>_
   cases hv:m.ν s' t' with
   | none=>rw[hv]at h2;exact h2
   | some g2 =>
    rw[hv]at h2;obtain ⟨h3,ar,e',h4,h5⟩:=h2;refine ⟨h3,ar,e',?_,λ i cs hi j c hj => ?_⟩
    ·rw[<-h4]
     exact hk g2 (λ e2=>h (by
      subst e2;exact hm.inj s' t' s t b2 b g2 q7 hb hv hg))
    ·obtain ⟨u,hu,y7⟩:=h5 i cs hi j c hj
     exact ⟨u,hu,he.cc y7⟩
 ·have old : ∀ s' t' b2,(m.own.put s ((m.own s).o9 t (some b'))).get s' t'=some b2 -> ∃ b3,m.own.get s' t'=some b3:=λ s' t' b2 h=>by
   rw[UE]at h;by_cases h':s'=s/\t'=t
   ·obtain ⟨rfl,rfl⟩:=h';exact ⟨b,hb⟩
   ·rw[if_neg h']at h;exact ⟨b2,h⟩
  obtain ⟨c1,k1⟩:=old s1 t1 b1 h1;obtain ⟨c2,k2⟩:=old s2 t2 b2 h2;exact hm.inj s1 t1 s2 t2 c1 c2 g1 k1 k2 e1 e2
theorem QQ (o:AH) (s t s' t':Nat) (b:DZ):(o.put s (((o s).o9 t none).new b)).get s' t'=if s'=s/\t'=o.g8 s then some b else if s'=s/\t'=t then none else o.get s' t':=by
 unfold AH.get AH.put B8.new B8.o9 AH.g8;by_cases h:s'=s
 ·subst h
  by_cases h2:t'=(o s').g8<;>by_cases h3:t'=t<;>simp [h2,h3]
 ·simp [h]
theorem WH (o:AH) (s t s':Nat) (b:DZ):(o.put s (((o s).o9 t none).new b)).g8 s'=if s'=s then o.g8 s+1 else o.g8 s':=by
 unfold AH.g8 AH.put B8.new B8.o9;by_cases h:s'=s<;>simp [h]
theorem bS {m:M} (hm:BR B S w0 m) (s t:Nat) (b b':DZ) (hb:m.own.get s t=some b) (cu:Option Nat) (w':World) (fx:Below B w0 w') (v5:m.w.heap.size<=w'.heap.size)
  (hk : ∀ k,k<m.w.heap.size->m.ν s t≠some k->w'.heap[k]? = m.w.heap[k]?) (hz : ∀ x∈b'.es,x.length=b'.a8)
  (Aw:cu=none->b'.es=[])
  (qo : ∀ g,cu=some g->B<=g/\(m.w.heap.size<=g\/m.ν s t=some g) /\ ∃ arr e,w'.heap[g]? = some (.cells arr e (0,0)) /\
   ∀ i cs,b'.es[i]? = some cs -> ∀ j c,cs[j]? = some c -> ∃ u,arr[i*b'.a8+j]? = some u/\CC B S m c u) :
  BR B S w0 ⟨j5 m s cu,m.own.put s (((m.own s).o9 t none).new b'),w'⟩/\DI B S m ⟨j5 m s cu,m.own.put s (((m.own s).o9 t none).new b'),w'⟩:=by
 have l7:t<m.own.g8 s:=by
  rcases Nat.lt_or_ge t (m.own.g8 s) with h|h
  ·exact h
  ·rw[hm.fresh s t h]at hb;cases hb
 have hν : ∀ s' t',live m s' t'->j5 m s cu s' t'=m.ν s' t':=λ s' t' hl=>by
  unfold j5;rw[if_neg];rintro ⟨rfl,rfl⟩
  exact XM hm _ hl
 have he:DI B S m ⟨j5 m s cu,m.own.put s (((m.own s).o9 t none).new b'),w'⟩:=by
  refine QP hm v5 (λ k fm hn=>hk k fm (hn s t ⟨b,hb⟩)) (λ s' => ?_) (λ s' t' b2 ht q7 => ?_) (λ s' t' g' hl df qh => ?_)
  ·rw[WH];split
   ·rename_i h;subst h;omega
   ·exact Nat.le_refl _
  ·rw[QQ]at q7
   rw[if_neg (by rintro ⟨rfl,rfl⟩;omega)]at q7;by_cases h:s'=s/\t'=t
   ·rw[if_pos h]at q7;cases q7
   ·rw[if_neg h]at q7
    refine ⟨b2,q7,rfl,hν s' t' ⟨b2,q7⟩,λ g2 ar e' iu sj=>⟨ar,?_,rfl⟩⟩;rw[<-sj];exact hk g2 (Array.getElem?_eq_some_iff.1 sj).1 (λ e2=>h (hm.inj s' t' s t b2 b g2 q7 hb iu e2))
  ·obtain ⟨b2,q7⟩:=hl
   rw[QQ]at q7;by_cases h0:s'=s/\t'=m.own.g8 s
   ·simp only[j5,if_pos h0]at df
    obtain ⟨_,h2,_⟩:=qo g' df;rcases h2 with h2|h2
    ·omega
    ·exact ⟨s,t,⟨b,hb⟩,h2⟩
   ·rw[if_neg h0]at q7
    by_cases h:s'=s/\t'=t
    ·rw[if_pos h]at q7;cases q7
    ·rw[if_neg h]at q7
     exact ⟨s',t',⟨b2,q7⟩,by rw[<-hν s' t' ⟨b2,q7⟩];exact df⟩
 refine ⟨⟨fx,Nat.le_trans hm.size v5,λ s' t' ht => ?_,λ s' t' b2 q7 => ?_,λ s1 t1 s2 t2 b1 b2 g1 h1 h2 e1 e2 => ?_⟩,he⟩
 ·rw[WH]at ht
  have lq:m.own.g8 s'<=t' /\ ¬ (s'=s/\t'=m.own.g8 s):=by
   by_cases h:s'=s
   ·subst h
    simp at ht;exact ⟨by omega,by omega⟩
   ·simp [h]at ht
    exact ⟨ht,λ h'=>h h'.1⟩
  rw[QQ,if_neg lq.2];split
  ·rfl
  ·exact hm.fresh s' t' lq.1
 ·rw[QQ]at q7
  by_cases h0:s'=s/\t'=m.own.g8 s
  ·rw[if_pos h0]at q7
   obtain rfl:b'=b2:=by simpa using q7
   refine ⟨hz,?_⟩;show match j5 m s cu s' t' with|none=>_|some g=>_
   rw[show j5 m s cu s' t'=cu by simp [j5,h0]];cases cu with
   | none=>exact Aw rfl
   | some g =>
    obtain ⟨h1,_,arr,e,h4,h5⟩:=qo g rfl;refine ⟨h1,arr,e,h4,λ i cs hi j c hj => ?_⟩;obtain ⟨u,hu,y7⟩:=h5 i cs hi j c hj;exact ⟨u,hu,he.cc y7⟩
  ·rw[if_neg h0]at q7
   by_cases h:s'=s/\t'=t
   ·rw[if_pos h]at q7;cases q7
   ·rw[if_neg h]at q7
    obtain ⟨h1,h2⟩:=hm.e6 s' t' b2 q7;refine ⟨h1,?_⟩;show match j5 m s cu s' t' with|none=>_|some g=>_
    rw[hν s' t' ⟨b2,q7⟩];cases hv:m.ν s' t' with
    | none=>rw[hv]at h2;exact h2
    | some g2 =>
     rw[hv]at h2;obtain ⟨h3,ar,e',h4,h5⟩:=h2;refine ⟨h3,ar,e',?_,λ i cs hi j c hj => ?_⟩
     ·rw[<-h4]
      exact hk g2 (Array.getElem?_eq_some_iff.1 h4).1 (λ e2=>h (hm.inj s' t' s t b2 b g2 q7 hb hv e2))
     ·obtain ⟨u,hu,y7⟩:=h5 i cs hi j c hj
      exact ⟨u,hu,he.cc y7⟩
 ·rw[QQ]at h1 h2
  have old : ∀ s' t' b2,(if s'=s/\t'=t then none else m.own.get s' t')=some b2->m.own.get s' t'=some b2 /\ ¬ (s'=s/\t'=t):=λ s' t' b2 h=>by
   by_cases h':s'=s/\t'=t
   ·rw[if_pos h']at h;cases h
   ·rw[if_neg h']at h;exact ⟨h,h'⟩
  have jz : ∀ s' t' b2,m.own.get s' t'=some b2 -> ¬ (s'=s/\t'=t)->j5 m s cu s' t'=some g1->cu=some g1->False:=λ s' t' b2 q7 m8 e1 e2=>by
   rw[hν s' t' ⟨b2,q7⟩]at e1;obtain ⟨_,h2,_⟩:=qo g1 e2;obtain ⟨_,ar,e',h4⟩:=hm.ge ⟨b2,q7⟩ e1;have:=(Array.getElem?_eq_some_iff.1 h4).1
   rcases h2 with h2|h2
   ·omega
   ·exact m8 (hm.inj s' t' s t b2 b g1 q7 hb e1 h2)
  have at_ : ∀ s' t',s'=s/\t'=m.own.g8 s->j5 m s cu s' t'=some g1->cu=some g1:=λ s' t' h hg=>by simpa [j5,if_pos h] using hg
  by_cases p1:s1=s/\t1=m.own.g8 s<;>by_cases p2:s2=s/\t2=m.own.g8 s
  ·exact ⟨p1.1.trans p2.1.symm,p1.2.trans p2.2.symm⟩
  ·rw[if_neg p2]at h2
   obtain ⟨k2,n2⟩:=old s2 t2 b2 h2;exact (jz s2 t2 b2 k2 n2 e2 (at_ s1 t1 p1 e1)).elim
  ·rw[if_neg p1]at h1
   obtain ⟨k1,n1⟩:=old s1 t1 b1 h1;exact (jz s1 t1 b1 k1 n1 e1 (at_ s2 t2 p2 e2)).elim
  ·rw[if_neg p1]at h1
   rw[if_neg p2]at h2;obtain ⟨k1,n1⟩:=old s1 t1 b1 h1;obtain ⟨k2,n2⟩:=old s2 t2 b2 h2;exact hm.inj s1 t1 s2 t2 b1 b2 g1 k1 k2 (by rw[<-hν s1 t1 ⟨b1,k1⟩];exact e1) (by rw[<-hν s2 t2 ⟨b2,k2⟩];exact e2)
theorem lO (o:AH) (l:List Nat) (s t:Nat):(o.drop l).get s t=if s∈l then none else o.get s t:=by
 induction l with
 | nil=>simp [AH.drop]
 | cons x r ih =>
  unfold AH.get at *;by_cases h:s=x
  ·subst h;simp [AH.drop,AH.put]
  ·simp only[AH.drop,AH.put,if_neg h,List.mem_cons]
   rw[ih];by_cases h2:s∈r<;>simp [h,h2]
theorem gP (o:AH) (l:List Nat) (s:Nat):(o.drop l).g8 s=o.g8 s:=by
 induction l with
 | nil=>simp [AH.drop]
 | cons x r ih =>
  unfold AH.g8 at *;by_cases h:s=x
  ·subst h;simp [AH.drop,AH.put]
  ·simp [AH.drop,AH.put,h,ih]
theorem Mt {m:M} (hm:BR B S w0 m) (l:List Nat):BR B S w0 ⟨m.ν,m.own.drop l,m.w⟩/\DI B S m ⟨m.ν,m.own.drop l,m.w⟩:=by
 have old : ∀ s t b,(m.own.drop l).get s t=some b->m.own.get s t=some b:=λ s t b h=>by
  rw[lO]at h;split at h
  ·cases h
  ·exact h
 have he:DI B S m ⟨m.ν,m.own.drop l,m.w⟩:=by
  refine QP hm (Nat.le_refl _) (λ_ _ _=>rfl) (λ s=>by rw[gP];exact Nat.le_refl _) (λ s t b' _ k8=>⟨b',old s t b' k8,rfl,rfl,λ_ ar _ _ ha=>⟨ar,ha,rfl⟩⟩) (λ s t g hl hg _ => ?_);obtain ⟨b,hb⟩:=hl;exact ⟨s,t,⟨b,old s t b hb⟩,hg⟩
 refine ⟨⟨hm.below,hm.size,λ s t ht => ?_,λ s t b hb => ?_,λ s1 t1 s2 t2 b1 b2 g h1 h2=>hm.inj s1 t1 s2 t2 b1 b2 g (old _ _ _ h1) (old _ _ _ h2)⟩,he⟩
 ·rw[gP]at ht
  rw[lO];split
  ·rfl
  ·exact hm.fresh s t ht
 ·obtain ⟨h1,h2⟩:=hm.e6 s t b (old s t b hb)
  refine ⟨h1,?_⟩;show match m.ν s t with|none=>_|some g=>_
  cases hv:m.ν s t with
  | none=>rw[hv]at h2;exact h2
  | some g =>
   rw[hv]at h2;obtain ⟨h3,ar,e',h4,h5⟩:=h2;refine ⟨h3,ar,e',h4,λ i cs hi j c hj => ?_⟩;obtain ⟨u,hu,y7⟩:=h5 i cs hi j c hj;exact ⟨u,hu,he.cc y7⟩
end
end Go.e9
