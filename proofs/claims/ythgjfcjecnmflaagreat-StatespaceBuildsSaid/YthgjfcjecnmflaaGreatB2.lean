/-
  Functions of the program, as the abstract machine reads them (group PolyG). Written by a program (gen.py) off the model's own reading of the translation; the seat's check ties them to it.
-/
import Derived.Test.YthgjfcjecnmflaaGreatB1
import Derived.Calls
import Derived.Below
import Derived.Laws.CopyRow
import Derived.Laws.Cells
import Derived.Laws.MakeOwn
import Derived.Laws.AppendOwn
import Derived.Deep.AppendSrc
import Derived.Deep.Draws
import Derived.ArgAppend
set_option linter.unusedSimpArgs false
set_option linter.unusedVariables false
set_option linter.unnecessarySimpa false
namespace Go.e6.F
open C
namespace SM
def r0:=[o 2 (.a7 (.c .nil))]
def r1:=[m 4 0,o 5 (.len 4),m 3 5]
def r2:=[m 6 3,o 7 (.bin .gtr 6 (k 0)),m 8 7,g 9 8 true (.a7 0),g 10 8 true (.a7 3),g 11 8 true (.bin .sub 10 (k 1)),g 12 8 true (.a9 none 3 9 11),
 g 13 8 true (.ld true 3 12),g 14 8 true (.call 97 [13]),g 15 8 true (.bin .eql 14 (k 0)),o 16 (.pick 8 15 (.c (.bool false)))]
def r3:=[m 17 3,o 18 (.bin .sub 17 (k 1)),m 3 18]
def r4:=[m 19 0,m 20 3,o 21 (.ig 3 19 none (some 20)),m 2 21]
def l1:=(s (s (d r2 [6,7,8,9,10,11,12,13,14,15]) (i 16 .skip (x 0))) (b 1 (d r3 [16,17,18])))
def c:=(s (d r0 [2]) (s (d r1 [4,5]) (s (b 0 (w l1)) (s (d r4 [0,3,16,19,20,21]) .ret))))
end SM
def SM:AFn:=⟨1,SM.c,[.tmp 2],false⟩
structure jj (L:Lib):Prop extends b7 L where
 SM:L 169=some F.SM
end Go.e6.F
namespace Go.e6.F
open C
namespace TV
def r0:=[o 1 (.box 1 0),o 2 (.alloc 2 [(.bool false),.nil,.nil])]
def r1:=[o 3 (.ld true 3 1),o 4 (.call 123 [3]),n (.st 3 1 4)]
def r2:=[o 5 (.a5 1 0),o 6 (.ld true 2 5),o 7 (.call 114 [6]),o 8 (.a5 1 0),n (.st 2 8 7)]
def r3:=[o 9 (.ld true 3 1),n (.st 3 2 9)]
def c:=(s (d r0 [0]) (s (d r1 [3,4]) (s (d r2 [5,6,7,8]) (s (d r3 [1,9]) .ret))))
end TV
def TV:AFn:=⟨1,TV.c,[.cell 2 true 3],false⟩
structure dh (L:Lib):Prop extends a8 L where
 TV:L 152=some F.TV
end Go.e6.F

namespace Go.e6.F
open C
structure kz (L:Lib):Prop extends dh L where
structure te (L:Lib):Prop extends y8 L,af L,jj L,kz L where
end Go.e6.F

namespace Go.e6.F
open C
namespace RH
def r0:=[o 2 (.box 2 0),o 3 (.box 3 1),o 4 (.a7 (k 0))]
def r1:=[o 7 (.ld true 2 2),o 8 (.call 86 [7]),o 9 (.ld true 2 3),o 10 (.call 86 [9]),m 5 8,m 6 10]
def r2:=[m 12 5,m 13 6,o 14 (.bin .lss 12 13),m 11 14]
def r3:=[o 4 (.a7 (k (-1)))]
def r4:=[m 16 5,m 17 6,o 18 (.bin .gtr 16 17),m 15 18]
def r5:=[o 4 (.a7 (k 1))]
def r6:=[m 20 5,o 21 (.bin .eql 20 (k (-1))),m 19 21]
def r7:=[o 22 (.a5 3 1),o 23 (.ld false 1 22),o 24 (.a5 2 1),o 25 (.ld false 1 24),o 26 (.call 67 [23,25]),m 4 26]
def r8:=[o 27 (.a5 2 1),o 28 (.ld false 1 27),o 29 (.a5 3 1),o 30 (.ld false 1 29),o 31 (.call 67 [28,30]),m 4 31]
def c:=(s (d r0 [0,1,4]) (s (e r1 [7,8,9,10]) (s (b 0 (s (d r2 [12,13,14]) (i 11 (s (d r3 [2,3,5,6,11]) .ret) (s (d r4 [6,11,16,17,18]) (i 15 (s (d r5 [2,3,5,15]) .ret) (s (d r6 [5,15,20,21]) (i 19 (s (d r7 [2,3,19,22,23,24,25,26]) .ret) .skip))))))) (s (d r8 [2,3,19,27,28,29,30,31]) .ret))))
end RH
def RH:AFn:=⟨2,RH.c,[.tmp 4],false⟩
namespace PY
def r0:=[o 2 (.box 2 0),o 3 (.box 3 1),o 4 (.a7 (k 0))]
def r1:=[q 7 [5,6] (.ld true 3 2),q 8 [5,6] (.m6 89 [7]),q 9 [5,6] (.ld true 3 3),q 10 [5,6] (.m6 89 [9]),
 o 5 (.alloc 5 [(.bool false),.nil,.nil,(.bool false)]),o 6 (.alloc 6 [(.bool false),.nil,.nil,(.bool false)]),n (.st 4 5 8),n (.st 4 6 10)]
def r2:=[o 11 (.a5 5 3),o 12 (.ld false 1 11),m 13 12,g 14 13 true (.a5 6 3),g 15 13 true (.ld false 1 14),o 16 (.pick 13 15 (.c (.bool false)))]
def r3:=[o 17 (.a5 5 0),o 18 (.a5 17 0),o 19 (.ld true 2 18),o 20 (.a5 6 0),o 21 (.a5 20 0),o 22 (.ld true 2 21),o 23 (.call 197 [19,22]),m 4 23]
def r4:=[o 24 (.a5 5 0),o 25 (.a5 24 0),o 26 (.ld true 2 25),o 27 (.a5 6 0),o 28 (.a5 27 2),o 29 (.ld false 1 28),o 30 (.m6 91 [29]),
 o 31 (.call 88 [26,30]),o 32 (.a5 6 0),o 33 (.a5 32 0),o 34 (.ld true 2 33),o 35 (.a5 5 0),o 36 (.a5 35 2),o 37 (.ld false 1 36),
 o 38 (.m6 91 [37]),o 39 (.call 88 [34,38]),o 40 (.call 197 [31,39]),m 4 40]
def c:=(s (d r0 [0,1,4]) (s (e r1 [2,3,7,8,9,10]) (s (s (d r2 [11,12,13,14,15]) (i 16 (s (d r3 [5,6,16,17,18,19,20,21,22,23]) .ret) .skip)) (s (e r4 [5,6,16,24,25,26,27,28,29,30,31,32,33,34,35,36,37,38,39,40]) .ret))))
end PY
def PY:AFn:=⟨2,PY.c,[.tmp 4],false⟩
namespace SU
def r0:=[o 1 (.box 1 0),o 2 (.alloc 2 [(.bool false),.nil,.nil])]
def r1:=[o 3 (.ld true 3 1),o 4 (.m6 149 [3]),o 5 (.call 95 [4]),n (.st 3 2 5)]
def c:=(s (d r0 [0]) (s (d r1 [1,3,4,5]) .ret))
end SU
def SU:AFn:=⟨1,SU.c,[.cell 2 true 3],false⟩
namespace SL
def r0:=[o 2 (.a7 (k 0))]
def r1:=[m 3 0,o 4 (.g7 169 [3]),o 5 (.len 4),o 6 (.bin .sub 5 (k 1)),m 2 6]
def c:=(s (d r0 [2]) (s (d r1 [0,3,4,5,6]) .ret))
end SL
def SL:AFn:=⟨1,SL.c,[.tmp 2],false⟩
namespace UI
def r0:=[o 1 (.box 1 0),o 2 (.a7 (.c (.bool false)))]
def r1:=[o 3 (.a5 1 0),o 4 (.ld false 1 3),o 5 (.call 200 [4]),o 6 (.bin .gtr 5 (k 48)),m 7 6,g 8 7 false (.a5 1 1),g 9 7 false (.ld false 1 8),
 g 10 7 false (.call 200 [9]),g 11 7 false (.bin .gtr 10 (k 48)),o 12 (.pick 7 (.c (.bool true)) 11)]
def r2:=[o 2 (.a7 (.c (.bool false)))]
def r3:=[o 13 (.a5 1 1),o 14 (.ld false 1 13),o 15 (.len 14),o 16 (.bin .gtr 15 (k 0)),m 17 16,g 18 17 true (.a5 1 1),g 19 17 true (.ld false 1 18),
 g 20 17 true (.a9 none 3 19 (k 0)),g 21 17 true (.ld true 3 20),g 22 17 true (.call 96 [(k 1)]),g 23 17 true (.call 198 [21,22]),
 g 24 17 true (.bin .eql 23 (k 0)),o 25 (.pick 17 24 (.c (.bool false))),m 2 25]
def c:=(s (d r0 [0,2]) (s (s (d r1 [3,4,5,6,7,8,9,10,11]) (i 12 (s (d r2 [1,12]) .ret) .skip)) (s (e r3 [1,12,13,14,15,16,17,18,19,20,21,22,23,24,25]) .ret)))
end UI
def UI:AFn:=⟨1,UI.c,[.tmp 2],false⟩
namespace UP
def r0:=[o 2 (.a7 (k 0))]
def r1:=[m 4 0,o 5 (.len 4),o 6 (.bin .sub 5 (k 1)),m 3 6]
def r2:=[m 7 3,o 8 (.bin .gtr 7 (k 0))]
def r4:=[m 11 0,m 12 3,o 13 (.a9 none 3 11 12),o 14 (.ld true 3 13),o 15 (.call 97 [14]),o 16 (.bin .neq 15 (k 0))]
def r5:=[m 17 3,m 2 17]
def r3:=[m 9 3,o 10 (.bin .sub 9 (k 1)),m 3 10]
def r6:=[o 2 (.a7 (k 0))]
def l1:=(s (s (d r2 [7]) (i 8 .skip (x 0))) (s (b 1 (s (d r4 [8,11,12,13,14,15]) (i 16 (s (d r5 [0,3,16,17]) .ret) .skip))) (d r3 [9,10,16])))
def c:=(s (d r0 [2]) (s (s (d r1 [4,5,6]) (b 0 (w l1))) (s (d r6 [0,3,8]) .ret)))
end UP
def UP:AFn:=⟨1,UP.c,[.tmp 2],false⟩
namespace UO
def r0:=[o 4 (.alloc 4 [(.bool false),.nil,.nil])]
def r1:=[m 5 1,m 6 0,o 7 (.len 6),o 8 (.bin .lss 5 7)]
def r2:=[m 9 0,m 10 1,o 11 (.a9 none 3 9 10),o 12 (.ld true 3 11),o 13 (.call 95 [12]),n (.st 3 4 13)]
def r3:=[o 14 (.call 96 [(k 0)]),n (.st 3 4 14)]
def c:=(s (p r0) (s (s (d r1 [5,6,7]) (i 8 (s (d r2 [0,1,8,9,10,11,12,13]) .ret) .skip)) (s (d r3 [0,1,8,14]) .ret)))
end UO
def UO:AFn:=⟨2,UO.c,[.cell 4 true 3],false⟩
namespace US
def r0:=[o 2 (.a7 (.c .nil))]
def r1:=[m 5 0,o 6 (.mk 6 3 56 [(.bool false),.nil,.nil] 5 5),m 3 6]
def r2:=[m 7 0,o 8 (.a7 (k 0))]
def r3:=[o 9 (.bin .lss 8 7)]
def r4:=[m 10 8,m 4 10]
def r5:=[m 11 3,m 12 4,o 13 (.call 96 [(k 0)]),o 14 (.a9 none 3 11 12),n (.st 3 14 13)]
def r6:=[o 15 (.bin .add 8 (k 1)),m 8 15]
def r7:=[m 16 3,m 2 16]
def l1:=(s (p r3) (s (i 9 .skip (x 0)) (s (b 1 (s (d r4 [9,10]) (d r5 [4,11,12,13,14]))) (d r6 [15]))))
def c:=(s (d r0 [2]) (s (d r1 [5,6]) (s (s (d r2 [0]) (b 0 (w l1))) (s (d r7 [3,7,8,9,16]) .ret))))
end US
def US:AFn:=⟨1,US.c,[.tmp 2],false⟩
namespace P7
def r0:=[o 1 (.box 1 0),o 2 (.alloc 2 [.nil,.nil,.nil,(.bool false),.nil,.nil]),o 3 (.a7 (k 0))]
def r1:=[o 10 (.ld true 2 1),o 11 (.call 201 [10]),o 12 (.un .not 11)]
def r2:=[o 13 (.build [.nil,.nil,.nil,(.bool false),.nil,.nil] []),n (.st 6 2 13),o 3 (.a7 (k 2))]
def r3:=[o 14 (.a5 1 0),o 15 (.ld false 1 14),o 16 (.call 204 [15]),o 17 (.a5 1 1),o 18 (.ld false 1 17),o 19 (.call 204 [18]),o 20 (.mm true [16,19]),
 m 4 20]
def r4:=[m 21 4,o 22 (.bin .gtr 21 (k 16))]
def r5:=[o 23 (.build [.nil,.nil,.nil,(.bool false),.nil,.nil] []),n (.st 6 2 23),o 3 (.a7 (k 12))]
def r6:=[o 24 (.a5 1 0),o 25 (.ld false 1 24),o 26 (.call 205 [25,(k 0)]),m 27 4,o 28 (.o8 28 206 [27]),
 o 29 (.build [.nil,.nil,.nil,(.bool false),.nil,.nil] [(3,3,26),(1,1,28)]),o 5 (.alloc 5 [.nil,.nil,.nil,(.bool false),.nil,.nil]),
 n (.st 6 5 29)]
def r7:=[m 30 4,o 31 (.bin .gtr 30 (k 0))]
def r8:=[o 32 (.a5 5 1),o 33 (.ld false 1 32),o 34 (.call 96 [(k 1)]),o 35 (.a9 none 3 33 (k 0)),n (.st 3 35 34)]
def r9:=[m 36 4,o 37 (.a7 (k 0))]
def DU:=[o 38 (.bin .lss 37 36)]
def DX:=[m 39 37,m 6 39]
def aw:=[m 40 4,o 41 (.o8 41 206 [40]),m 7 41]
def ER:=[m 42 6,o 43 (.bin .gtr 42 (k 0))]
def dj:=[m 44 7,m 45 6,o 46 (.bin .sub 45 (k 1)),o 47 (.call 96 [(k 1)]),o 48 (.a9 none 3 44 46),n (.st 3 48 47)]
def dw:=[m 49 4,o 50 (.a7 (k 0))]
def fb:=[o 51 (.bin .lss 50 49)]
def IB:=[m 52 50,m 8 52]
def fw:=[m 53 7,m 54 8,o 55 (.a5 1 1),o 56 (.ld false 1 55),m 57 8,o 58 (.bin .add 57 (k 1)),o 59 (.call 205 [56,58]),o 60 (.call 199 [59]),
 o 61 (.a9 none 3 53 54),n (.st 3 61 60)]
def jz:=[o 62 (.bin .add 50 (k 1)),m 50 62]
def kv:=[o 63 (.a5 5 0),o 64 (.ld false 1 63),m 65 7,o 66 (.e5 66 1 [65]),o 67 (.app 67 1 24 64 66),o 68 (.a5 5 0),n (.st 1 68 67)]
def nz:=[o 69 (.a5 1 0),q 70 [9] (.ld false 1 69),q 71 [9] (.call 205 [70,(k 0)]),o 72 (.a5 1 1),q 73 [9] (.ld false 1 72),
 m 74 6,o 75 (.bin .add 74 (k 1)),q 76 [9] (.call 205 [73,75]),q 77 [9] (.call 99 [71,76]),
 o 9 (.alloc 9 [(.bool false),.nil,.nil]),n (.st 3 9 77)]
def ta:=[o 78 (.a5 5 2),q 79 [87] (.ld false 1 78),o 80 (.a5 1 0),o 81 (.ld false 1 80),m 82 6,o 83 (.bin .add 82 (k 1)),o 84 (.call 205 [81,83]),
 o 85 (.ld true 3 9),o 86 (.call 150 [84,85]),o 87 (.e5 87 3 [86]),o 88 (.app 88 3 56 79 87),o 89 (.a5 5 2),n (.st 1 89 88)]
def td:=[o 90 (.bin .add 37 (k 1)),m 37 90]
def SN:=[o 91 (.ld true 6 5),n (.st 6 2 91),o 3 (.a7 (k 0))]
def l2:=(s (p fb) (s (i 51 .skip (x 2)) (s (b 3 (s (d IB [51,52]) (d fw [8,53,54,55,56,57,58,59,60,61]))) (d jz [62]))))
def l1:=(s (p DU) (s (i 38 .skip (x 0)) (s (b 1 (s (d DX [38,39]) (s (d aw [40,41]) (s (s (d ER [42]) (i 43 (d dj [43,44,45,46,47,48]) (s (d dw [43]) (b 2 (w l2))))) (s (d kv [7,49,50,51,63,64,65,66,67,68]) (s (e nz [69,70,71,72,73,74,75,76,77]) (e ta [6,9,78,79,80,81,82,83,84,85,86,87,88,89]))))))) (d td [90]))))
def c:=(s (d r0 [0,3]) (s (s (d r1 [10,11]) (i 12 (s (d r2 [1,12,13]) .ret) .skip)) (s (e r3 [12,14,15,16,17,18,19,20]) (s (s (d r4 [21]) (i 22 (s (d r5 [1,4,22,23]) .ret) .skip)) (s (d r6 [22,24,25,26,27,28,29]) (s (s (d r7 [30]) (i 31 (e r8 [31,32,33,34,35]) .skip)) (s (s (d r9 [31]) (b 0 (w l1))) (s (d SN [1,4,5,36,37,38,91]) .ret))))))))
end P7
def P7:AFn:=⟨1,P7.c,[.cell 2 true 6,.tmp 3],false⟩
structure v5 (L:Lib):Prop extends te L where
 RH:L 197=some F.RH
 PY:L 198=some F.PY
 SU:L 199=some F.SU
 SL:L 200=some F.SL
 UI:L 201=some F.UI
 UP:L 204=some F.UP
 UO:L 205=some F.UO
 US:L 206=some F.US
 P7:L 207=some F.P7
end Go.e6.F

namespace Go.e6.F
open C
namespace SP
def r0:=[o 1 (.box 1 0),o 2 (.alloc 2 [(.bool false),.nil,.nil])]
def r1:=[o 3 (.a5 1 0),o 4 (.a5 3 1),o 5 (.ld false 1 4),o 6 (.build [(.bool false),.nil] [(1,1,5)]),o 7 (.a5 1 2),o 8 (.ld false 1 7),
 o 9 (.build [(.bool false),.nil,.nil] [(0,2,6),(2,1,8)]),o 10 (.call 95 [9]),n (.st 3 2 10)]
def c:=(s (d r0 [0]) (s (d r1 [1,3,4,5,6,7,8,9,10]) .ret))
end SP
def SP:AFn:=⟨1,SP.c,[.cell 2 true 3],false⟩
structure fg (L:Lib):Prop extends v5 L where
 SP:L 256=some F.SP
end Go.e6.F

namespace Go.e6.F
open C
structure pn (L:Lib):Prop extends fg L where
end Go.e6.F

namespace Go.e6.F
open C
namespace U0
def r0:=[o 4 (.a7 (k 0))]
def r1:=[m 5 1,o 6 (.bin .lss 5 (k 1))]
def r2:=[o 4 (.a7 (k 0))]
def r3:=[m 7 0,m 8 1,o 9 (.bin .rem 7 8),m 0 9]
def r4:=[m 10 0,o 11 (.bin .lss 10 (k 0))]
def r5:=[m 12 0,m 13 1,o 14 (.bin .add 12 13),m 0 14]
def r6:=[m 15 0,m 4 15]
def c:=(s (d r0 [4]) (s (s (d r1 [5]) (i 6 (s (d r2 [0,1,6]) .ret) .skip)) (s (d r3 [6,7,8,9]) (s (s (d r4 [10]) (i 11 (d r5 [1,11,12,13,14]) .skip)) (s (d r6 [0,1,11,15]) .ret)))))
end U0
def U0:AFn:=⟨2,U0.c,[.tmp 4],false⟩
namespace UU
def r0:=[o 4 (.a7 (k 0))]
def r1:=[m 5 1,o 6 (.bin .geq 5 (k 0)),m 7 6,g 8 7 true (.a7 1),g 9 7 true (.a7 0),g 10 7 true (.len 9),g 11 7 true (.bin .lss 8 10),
 o 12 (.pick 7 11 (.c (.bool false)))]
def r2:=[m 13 0,m 14 1,o 15 (.a9 none 1 13 14),o 16 (.ld false 1 15),m 4 16]
def r3:=[o 4 (.a7 (k 0))]
def c:=(s (d r0 [4]) (s (s (d r1 [5,6,7,8,9,10,11]) (i 12 (s (d r2 [0,1,12,13,14,15,16]) .ret) .skip)) (s (d r3 [0,1,12]) .ret)))
end UU
def UU:AFn:=⟨2,UU.c,[.tmp 4],false⟩
namespace U1
def r0:=[o 8 (.alloc 8 [z,z,z,z])]
def r1:=[m 10 0,o 11 (.call 34 [10,(k 1099511627776)]),m 0 11]
def r2:=[m 12 1,m 13 0,m 14 2,m 15 1,o 16 (.bin .sub 14 15),o 17 (.bin .add 16 (k 1)),o 18 (.bin .rem 13 17),o 19 (.bin .add 12 18),
 o 20 (.build [z,z,z,z] [(0,1,19)]),o 9 (.alloc 9 [z,z,z,z]),n (.st 4 9 20)]
def r3:=[m 21 0,m 22 2,m 23 1,o 24 (.bin .sub 22 23),o 25 (.bin .add 24 (k 1)),o 26 (.bin .quo 21 25),m 0 26]
def r4:=[o 27 (.a5 9 0),o 28 (.ld false 1 27),o 29 (.bin .sub 28 (k 1)),m 30 3,o 31 (.bin .sub 29 30),m 32 0,o 33 (.bin .rem 32 (k 2)),o 34 (.bin .sub 31 33),
 o 35 (.a5 9 1),n (.st 1 35 34)]
def r5:=[m 36 0,o 37 (.bin .quo 36 (k 2)),m 0 37]
def r6:=[o 38 (.a5 9 1),o 39 (.ld false 1 38),o 40 (.mm true [39,(k 0)]),o 41 (.a5 9 1),n (.st 1 41 40)]
def r7:=[m 42 0,o 43 (.bin .rem 42 (k 3)),o 44 (.bin .add (k 1) 43),m 45 0,o 46 (.bin .quo 45 (k 3)),o 47 (.bin .rem 46 (k 2)),o 48 (.bin .add (k 1) 47),
 o 49 (.a5 9 2),n (.st 1 49 44),o 50 (.a5 9 3),n (.st 1 50 48)]
def r8:=[o 51 (.ld true 4 9),n (.st 4 8 51)]
def c:=(s (p r0) (s (d r1 [10,11]) (s (d r2 [12,13,14,15,16,17,18,19,20]) (s (d r3 [1,2,21,22,23,24,25,26]) (s (d r4 [3,27,28,29,30,31,32,33,34,35]) (s (d r5 [36,37]) (s (d r6 [38,39,40,41]) (s (d r7 [0,42,43,44,45,46,47,48,49,50]) (s (d r8 [9,51]) .ret)))))))))
end U1
def U1:AFn:=⟨4,U1.c,[.cell 8 true 4],false⟩
namespace UX
def r0:=[o 2 (.alloc 2 [z,z,z,z])]
def r1:=[m 3 0,o 4 (.call 36 [3,(k 6),(k 12),(k 2)]),n (.st 4 2 4)]
def c:=(s (p r0) (s (d r1 [0,3,4]) .ret))
end UX
def UX:AFn:=⟨1,UX.c,[.cell 2 true 4],false⟩
namespace UW
def r0:=[o 2 (.alloc 2 [z,z,z,z])]
def r1:=[m 3 0,o 4 (.call 36 [3,(k 6),(k 9),(k 1)]),n (.st 4 2 4)]
def c:=(s (p r0) (s (d r1 [0,3,4]) .ret))
end UW
def UW:AFn:=⟨1,UW.c,[.cell 2 true 4],false⟩
namespace UV
def r0:=[o 6 (.a7 (.c .nil))]
def r1:=[o 7 (.cn 7 1)]
def r2:=[o 8 (.a7 (k 0))]
def r3:=[m 9 8,m 10 2,o 11 (.bin .lss 9 10)]
def r5:=[m 14 7,m 15 1,m 16 8,o 17 (.call 35 [15,16]),m 18 0,o 19 (.bin .add 17 18),m 20 0,o 21 (.bin .mul (k 2) 20),o 22 (.bin .add 21 (k 1)),
 o 23 (.call 34 [19,22]),m 24 0,o 25 (.bin .sub 23 24),o 26 (.e5 26 1 [25]),o 27 (.app 27 1 8 14 26),m 7 27]
def r4:=[m 12 8,o 13 (.bin .add 12 (k 1)),m 8 13]
def r6:=[m 28 7,m 6 28]
def l1:=(s (s (d r3 [9,10]) (i 11 .skip (x 0))) (s (b 1 (d r5 [11,14,15,16,17,18,19,20,21,22,23,24,25,26,27])) (d r4 [12,13])))
def c:=(s (d r0 [6]) (s (p r1) (s (s (p r2) (b 0 (w l1))) (s (d r6 [0,1,2,7,8,11,28]) .ret))))
end UV
def UV:AFn:=⟨3,UV.c,[.tmp 6],false⟩
namespace UZ
def r0:=[o 1 (.box 1 0),o 2 (.a7 (k 0))]
def r1:=[o 3 (.a5 1 1),o 4 (.ld false 1 3),o 5 (.conv .u64 4),o 6 (.bin .shl (k 1) 5),m 2 6]
def c:=(s (d r0 [0,2]) (s (d r1 [1,3,4,5,6]) .ret))
end UZ
def UZ:AFn:=⟨1,UZ.c,[.tmp 2],false⟩
structure o4 (L:Lib):Prop extends g9 L where
 U0:L 34=some F.U0
 UU:L 35=some F.UU
 U1:L 36=some F.U1
 UX:L 37=some F.UX
 UW:L 38=some F.UW
 UV:L 40=some F.UV
 UZ:L 41=some F.UZ
end Go.e6.F

namespace Go.e6.F
open C
namespace UY
def r0:=[o 4 (.a7 (.c .nil))]
def r1:=[o 5 (.cn 5 3)]
def r2:=[o 6 (.a7 (k 0))]
def r3:=[m 8 6,m 9 1,o 10 (.bin .lss 8 9)]
def r5:=[m 13 0,m 14 6,o 15 (.call 35 [13,14]),o 16 (.call 34 [15,(k 2000)]),m 7 16]
def r6:=[m 17 5,m 18 7,o 19 (.bin .rem 18 (k 25)),o 20 (.bin .sub 19 (k 12)),m 21 7,o 22 (.bin .quo 21 (k 25)),o 23 (.bin .rem 22 (k 8)),
 o 24 (.bin .add (k 1) 23),o 25 (.call 125 [20,24]),o 26 (.e5 26 3 [25]),o 27 (.app 27 3 56 17 26),m 5 27]
def r4:=[m 11 6,o 12 (.bin .add 11 (k 1)),m 6 12]
def r7:=[m 28 5,m 4 28]
def l1:=(s (s (d r3 [8,9]) (i 10 .skip (x 0))) (s (b 1 (s (d r5 [10,13,14,15,16]) (d r6 [7,17,18,19,20,21,22,23,24,25,26,27]))) (d r4 [11,12])))
def c:=(s (d r0 [4]) (s (p r1) (s (s (p r2) (b 0 (w l1))) (s (d r7 [0,1,5,6,10,28]) .ret))))
end UY
def UY:AFn:=⟨2,UY.c,[.tmp 4],false⟩
structure cj (L:Lib):Prop extends o4 L,a8 L where
 UY:L 141=some F.UY
end Go.e6.F

namespace Go.e6.F
open C
namespace P2
def r0:=[o 2 (.box 2 0),o 3 (.box 3 1),o 4 (.a7 (.c (.bool false)))]
def r1:=[o 6 (.a5 2 0),o 7 (.ld false 1 6),o 8 (.len 7),o 9 (.a5 3 0),o 10 (.ld false 1 9),o 11 (.len 10),o 12 (.bin .neq 8 11),m 13 12,
 g 14 13 false (.a5 2 1),g 15 13 false (.ld false 1 14),g 16 13 false (.a5 3 1),g 17 13 false (.ld false 1 16),g 18 13 false (.call 129 [15,17]),
 g 19 13 false (.un .not 18),o 20 (.pick 13 (.c (.bool true)) 19),m 21 20,g 22 21 false (.a5 2 2),g 23 21 false (.ld false 1 22),
 g 24 21 false (.a5 3 2),g 25 21 false (.ld false 1 24),g 26 21 false (.call 129 [23,25]),g 27 21 false (.un .not 26),
 o 28 (.pick 21 (.c (.bool true)) 27),m 29 28,g 30 29 false (.a5 2 3),g 31 29 false (.ld true 3 30),g 32 29 false (.a5 3 3),
 g 33 29 false (.ld true 3 32),g 34 29 false (.call 127 [31,33]),g 35 29 false (.bin .neq 34 (k 0)),o 36 (.pick 29 (.c (.bool true)) 35)]
def r2:=[o 4 (.a7 (.c (.bool false)))]
def r3:=[o 5 (.a7 (k 0))]
def r4:=[m 37 5,o 38 (.a5 2 0),o 39 (.ld false 1 38),o 40 (.len 39),o 41 (.bin .lss 37 40)]
def r6:=[o 44 (.a5 2 0),o 45 (.ld false 1 44),m 46 5,o 47 (.a9 none 1 45 46),o 48 (.ld false 1 47),o 49 (.a5 3 0),o 50 (.ld false 1 49),m 51 5,
 o 52 (.a9 none 1 50 51),o 53 (.ld false 1 52),o 54 (.call 129 [48,53]),o 55 (.un .not 54)]
def r7:=[o 4 (.a7 (.c (.bool false)))]
def r5:=[m 42 5,o 43 (.bin .add 42 (k 1)),m 5 43]
def r8:=[o 4 (.a7 (.c (.bool true)))]
def l1:=(s (s (d r4 [37,38,39,40]) (i 41 .skip (x 0))) (s (b 1 (s (e r6 [41,44,45,46,47,48,49,50,51,52,53,54]) (i 55 (s (d r7 [2,3,5,55]) .ret) .skip))) (d r5 [42,43,55])))
def c:=(s (d r0 [0,1,4]) (s (s (d r1 [6,7,8,9,10,11,12,13,14,15,16,17,18,19,20,21,22,23,24,25,26,27,28,29,30,31,32,33,34,35]) (i 36 (s (d r2 [2,3,36]) .ret) .skip)) (s (s (d r3 [36]) (b 0 (w l1))) (s (d r8 [2,3,5,41]) .ret))))
end P2
def P2:AFn:=⟨2,P2.c,[.tmp 4],false⟩
structure ct (L:Lib):Prop extends y8 L,af L,dh L where
 P2:L 167=some F.P2
end Go.e6.F

namespace Go.e6.F
open C
structure pt (L:Lib):Prop extends fx L,o4 L where
structure ji (L:Lib):Prop extends pt L where
end Go.e6.F

namespace Go.e6.F
open C
namespace UE
def r0:=[o 2 (.box 2 0),o 3 (.box 3 1),o 4 (.a7 (.c (.bool false)))]
def r1:=[o 7 (.a5 2 0),o 8 (.ld true 4 7),o 9 (.a5 3 0),o 10 (.ld true 4 9),o 11 (.oa true 4 8 10),m 12 11,g 13 12 false (.a5 2 4),
 g 14 12 false (.ld true 4 13),g 15 12 false (.a5 3 4),g 16 12 false (.ld true 4 15),g 17 12 false (.oa true 4 14 16),
 o 18 (.pick 12 (.c (.bool true)) 17),m 19 18,g 20 19 false (.a5 2 8),g 21 19 false (.ld false 1 20),g 22 19 false (.a5 3 8),
 g 23 19 false (.ld false 1 22),g 24 19 false (.bin .neq 21 23),o 25 (.pick 19 (.c (.bool true)) 24),m 26 25,g 27 26 false (.a5 2 11),
 g 28 26 false (.ld false 1 27),g 29 26 false (.a5 3 11),g 30 26 false (.ld false 1 29),g 31 26 false (.bin .neq 28 30),
 o 32 (.pick 26 (.c (.bool true)) 31),m 33 32,g 34 33 false (.a5 2 10),g 35 33 false (.ld false 1 34),g 36 33 false (.a5 3 10),
 g 37 33 false (.ld false 1 36),g 38 33 false (.call 20 [35,37]),g 39 33 false (.un .not 38),o 40 (.pick 33 (.c (.bool true)) 39),m 41 40,
 g 42 41 false (.a5 2 9),g 43 41 false (.ld false 1 42),g 44 41 false (.len 43),g 45 41 false (.a5 3 9),g 46 41 false (.ld false 1 45),
 g 47 41 false (.len 46),g 48 41 false (.bin .neq 44 47),o 49 (.pick 41 (.c (.bool true)) 48)]
def r2:=[o 4 (.a7 (.c (.bool false)))]
def r3:=[o 5 (.a7 (k 0))]
def r4:=[m 50 5,o 51 (.a5 2 9),o 52 (.ld false 1 51),o 53 (.len 52),o 54 (.bin .lss 50 53)]
def r6:=[o 57 (.a5 2 9),o 58 (.ld false 1 57),m 59 5,o 60 (.a9 none 1 58 59),o 61 (.a5 60 0),o 62 (.ld false 1 61),o 63 (.len 62),o 64 (.a5 3 9),
 o 65 (.ld false 1 64),m 66 5,o 67 (.a9 none 1 65 66),o 68 (.a5 67 0),o 69 (.ld false 1 68),o 70 (.len 69),o 71 (.bin .neq 63 70)]
def r7:=[o 4 (.a7 (.c (.bool false)))]
def r8:=[o 6 (.a7 (k 0))]
def r9:=[m 72 6,o 73 (.a5 2 9),o 74 (.ld false 1 73),m 75 5,o 76 (.a9 none 1 74 75),o 77 (.a5 76 0),o 78 (.ld false 1 77),o 79 (.len 78),
 o 80 (.bin .lss 72 79)]
def DX:=[o 83 (.a5 2 9),o 84 (.ld false 1 83),m 85 5,o 86 (.a9 none 1 84 85),o 87 (.a5 86 0),o 88 (.ld false 1 87),m 89 6,o 90 (.a9 none 2 88 89),
 o 91 (.ld true 2 90),o 92 (.a5 3 9),o 93 (.ld false 1 92),m 94 5,o 95 (.a9 none 1 93 94),o 96 (.a5 95 0),o 97 (.ld false 1 96),m 98 6,
 o 99 (.a9 none 2 97 98),o 100 (.ld true 2 99),o 101 (.oa true 2 91 100)]
def aw:=[o 4 (.a7 (.c (.bool false)))]
def DU:=[m 81 6,o 82 (.bin .add 81 (k 1)),m 6 82]
def r5:=[m 55 5,o 56 (.bin .add 55 (k 1)),m 5 56]
def ER:=[o 4 (.a7 (.c (.bool true)))]
def l2:=(s (s (d r9 [72,73,74,75,76,77,78,79]) (i 80 .skip (x 2))) (s (b 3 (s (e DX [80,83,84,85,86,87,88,89,90,91,92,93,94,95,96,97,98,99,100]) (i 101 (s (d aw [2,3,5,6,101]) .ret) .skip))) (d DU [81,82,101])))
def l1:=(s (s (d r4 [50,51,52,53]) (i 54 .skip (x 0))) (s (b 1 (s (s (e r6 [54,57,58,59,60,61,62,63,64,65,66,67,68,69,70]) (i 71 (s (d r7 [2,3,5,71]) .ret) .skip)) (s (d r8 [71]) (b 2 (w l2))))) (d r5 [6,55,56,80])))
def c:=(s (d r0 [0,1,4]) (s (s (d r1 [7,8,9,10,11,12,13,14,15,16,17,18,19,20,21,22,23,24,25,26,27,28,29,30,31,32,33,34,35,36,37,38,39,40,41,42,43,44,45,46,47,48]) (i 49 (s (d r2 [2,3,49]) .ret) .skip)) (s (s (d r3 [49]) (b 0 (w l1))) (s (d ER [2,3,5,54]) .ret))))
end UE
def UE:AFn:=⟨2,UE.c,[.tmp 4],false⟩
structure cr (L:Lib):Prop extends ji L,af L,jj L,kz L where
 UE:L 177=some F.UE
end Go.e6.F

namespace Go.e6.F
open C
namespace RM
def r0:=[o 0 (.a7 (.c (.bool false)))]
def r1:=[o 5 (.call 124 [(k 1)]),o 6 (.call 125 [(k 1),(k 2)]),o 1 (.alloc 1 [(.bool false),.nil,.nil]),o 2 (.alloc 2 [(.bool false),.nil,.nil]),n (.st 3 1 5),
 n (.st 3 2 6)]
def r2:=[q 8 [13,3] (.ld true 3 1),o 9 (.e5 9 3 [8]),q 10 [9,3] (.ld true 3 1),q 11 [9,3] (.ld true 3 2),
 q 12 [9,3] (.call 152 [11]),o 13 (.e5 13 3 [10,12]),o 14 (.build [.nil,.nil] [(0,1,9),(1,1,13)]),q 15 [3] (.call 207 [14]),
 m 7 15,o 16 (.ext 7 0),o 17 (.ext 7 1),o 3 (.alloc 3 [.nil,.nil,.nil,(.bool false),.nil,.nil]),n (.st 6 3 16),m 4 17]
def r3:=[m 18 4,o 19 (.bin .eql 18 (k 0)),m 20 19,g 21 20 true (.ld true 6 3),g 22 20 true (.ld true 3 2),g 23 20 true (.e5 23 3 [22]),
 g 24 20 true (.e5 24 1 [23]),g 25 20 true (.ld true 3 1),g 26 20 true (.e5 26 3 [25]),g 27 20 true (.ld true 3 2),g 28 20 true (.e5 28 3 [27]),
 g 29 20 true (.ld true 3 1),g 30 20 true (.build [.nil,.nil,.nil,(.bool false),.nil,.nil] [(0,1,24),(1,1,26),(2,1,28),(3,3,29)]),
 g 31 20 true (.call 167 [21,30]),o 32 (.pick 20 31 (.c (.bool false))),m 0 32]
def c:=(s (d r0 [0]) (s (d r1 [5,6]) (s (e r2 [7,8,9,10,11,12,13,14,15,16,17]) (s (d r3 [1,2,3,4,18,19,20,21,22,23,24,25,26,27,28,29,30,31,32]) .ret))))
end RM
def RM:AFn:=⟨0,RM.c,[.tmp 0],false⟩
structure fe (L:Lib):Prop extends v5 L,ct L,cr L,cj L where
 RM:L 215=some F.RM
end Go.e6.F

namespace Go.e6.F
open C
structure po (L:Lib):Prop extends dh L where
structure pk (L:Lib):Prop extends po L where
structure pz (L:Lib):Prop extends cj L where
end Go.e6.F

namespace Go.e6.F
open C
namespace UQ
def r0:=[o 1 (.box 1 0),o 2 (.a7 (.c (.bool false)))]
def r1:=[o 3 (.ld true 6 1),o 4 (.call 130 [3]),m 5 4,g 6 5 true (.a5 1 0),g 7 5 true (.ld false 1 6),g 8 5 true (.len 7),g 9 5 true (.bin .leq 8 (k 16)),
 o 10 (.pick 5 9 (.c (.bool false))),m 2 10]
def c:=(s (d r0 [0,2]) (s (d r1 [1,3,4,5,6,7,8,9,10]) .ret))
end UQ
def UQ:AFn:=⟨1,UQ.c,[.tmp 2],false⟩
namespace UG
def r0:=[o 1 (.box 1 0),o 2 (.a7 (.c (.bool false)))]
def r1:=[o 3 (.ld true 6 1),o 4 (.call 136 [3]),m 5 4,g 6 5 true (.a5 1 0),g 7 5 true (.ld false 1 6),g 8 5 true (.len 7),g 9 5 true (.bin .leq 8 (k 16)),
 o 10 (.pick 5 9 (.c (.bool false))),m 2 10]
def c:=(s (d r0 [0,2]) (s (d r1 [1,3,4,5,6,7,8,9,10]) .ret))
end UG
def UG:AFn:=⟨1,UG.c,[.tmp 2],false⟩
structure bj (L:Lib):Prop extends pn L,pk L,pz L,v5 L,fe L where
 UQ:L 281=some F.UQ
 UG:L 284=some F.UG
end Go.e6.F

namespace Go.e6.F
open C
namespace T8
def r0:=[o 1 (.box 1 0),o 2 (.a7 (k 0)),o 3 (.a7 (.c (.bool false)))]
def r1:=[o 7 (.ld true 3 1),o 8 (.call 124 [(k 1099511627776)]),o 9 (.call 127 [7,8]),o 10 (.bin .gtr 9 (k 0)),m 11 10,g 12 11 false (.ld true 3 1),
 g 13 11 false (.call 124 [(k (-1099511627776))]),g 14 11 false (.call 127 [12,13]),g 15 11 false (.bin .lss 14 (k 0)),o 16 (.pick 11 (.c (.bool true)) 15)]
def r2:=[o 2 (.a7 (k 0)),o 3 (.a7 (.c (.bool false)))]
def r3:=[o 4 (.a7 (k (-1099511627776))),o 5 (.a7 (k 1099511627776))]
def r4:=[m 17 4,m 18 5,o 19 (.bin .lss 17 18)]
def r5:=[m 20 4,m 21 5,m 22 4,o 23 (.bin .sub 21 22),o 24 (.bin .add 23 (k 1)),o 25 (.bin .quo 24 (k 2)),o 26 (.bin .add 20 25),m 6 26]
def r6:=[m 27 6,o 28 (.call 124 [27]),o 29 (.ld true 3 1),o 30 (.call 127 [28,29]),o 31 (.bin .leq 30 (k 0))]
def r7:=[m 32 6,m 4 32]
def r8:=[m 33 6,o 34 (.bin .sub 33 (k 1)),m 5 34]
def r9:=[m 35 4,m 2 35,o 3 (.a7 (.c (.bool true)))]
def l1:=(s (s (d r4 [17,18]) (i 19 .skip (x 0))) (b 1 (s (d r5 [19,20,21,22,23,24,25,26]) (s (e r6 [27,28,29,30]) (i 31 (d r7 [6,31,32]) (d r8 [6,31,33,34]))))))
def c:=(s (d r0 [0,2,3]) (s (s (e r1 [7,8,9,10,11,12,13,14,15]) (i 16 (s (d r2 [1,16]) .ret) .skip)) (s (d r3 [16]) (s (b 0 (w l1)) (s (d r9 [1,4,5,19,35]) .ret)))))
end T8
def T8:AFn:=⟨1,T8.c,[.tmp 2,.tmp 3],false⟩
structure de (L:Lib):Prop extends a8 L where
 T8:L 361=some F.T8
end Go.e6.F

namespace Go.e6.F
open C
namespace NW
def r0:=[o 2 (.box 2 0),o 3 (.box 3 1),o 4 (.alloc 4 [(.bool false),.nil]),o 5 (.alloc 5 [(.bool false),.nil]),o 6 (.a7 (k 0))]
def r1:=[o 11 (.a5 2 1),o 12 (.ld false 1 11),o 13 (.a5 3 1),o 14 (.ld false 1 13),o 15 (.call 75 [12,14]),m 10 15,o 16 (.ext 10 0),o 17 (.ext 10 1),
 o 18 (.ext 10 2),m 7 16,m 8 17,m 9 18]
def r2:=[m 19 9,o 20 (.bin .neq 19 (k 0))]
def r3:=[o 21 (.build [(.bool false),.nil] []),o 22 (.build [(.bool false),.nil] []),m 23 9,n (.st 2 4 21),n (.st 2 5 22),m 6 23]
def r4:=[o 24 (.a5 2 0),o 25 (.ld false 1 24),m 26 25,g 27 26 true (.a7 8),g 28 26 true (.len 27),g 29 26 true (.bin .gtr 28 (k 0)),
 o 30 (.pick 26 29 (.c (.bool false)))]
def r5:=[m 31 7,o 32 (.e5 32 1 [(.c (.int .u32 (1)))]),o 33 (.call 68 [31,32]),m 7 33]
def r6:=[o 34 (.a5 3 1),o 35 (.ld false 1 34),m 36 8,o 37 (.call 69 [35,36]),m 8 37]
def r7:=[o 38 (.a5 2 0),o 39 (.ld false 1 38),o 40 (.a5 3 0),o 41 (.ld false 1 40),o 42 (.beq true 39 41),m 43 7,o 44 (.g7 83 [42,43]),m 45 8,
 o 46 (.g7 83 [(.c (.bool false)),45]),n (.st 2 4 44),n (.st 2 5 46),o 6 (.a7 (k 0))]
def c:=(s (d r0 [0,1,6]) (s (d r1 [10,11,12,13,14,15,16,17,18]) (s (s (d r2 [19]) (i 20 (s (d r3 [2,3,7,8,9,20,21,22,23]) .ret) .skip)) (s (s (d r4 [9,20,24,25,26,27,28,29]) (i 30 (s (d r5 [30,31,32,33]) (d r6 [34,35,36,37])) .skip)) (s (d r7 [2,3,7,8,30,38,39,40,41,42,43,44,45,46]) .ret)))))
end NW
def NW:AFn:=⟨2,NW.c,[.cell 4 true 2,.cell 5 true 2,.tmp 6],false⟩
namespace SS
def r0:=[o 1 (.box 1 0),o 2 (.alloc 2 [(.bool false),.nil])]
def r1:=[o 7 (.ld true 3 1),o 8 (.m6 89 [7]),o 3 (.alloc 3 [(.bool false),.nil,.nil,(.bool false)]),n (.st 4 3 8)]
def r2:=[o 10 (.a5 3 0),o 11 (.a5 10 0),q 12 [4,5] (.ld true 2 11),o 13 (.a5 3 0),o 14 (.a5 13 2),q 15 [4,5] (.ld false 1 14),
 q 16 [4,5] (.m6 91 [15]),q 17 [4,5] (.call 383 [12,16]),m 9 17,o 18 (.ext 9 0),o 19 (.ext 9 1),o 20 (.ext 9 2),
 o 4 (.alloc 4 [(.bool false),.nil]),o 5 (.alloc 5 [(.bool false),.nil]),n (.st 2 4 18),n (.st 2 5 19),m 6 20]
def r3:=[o 21 (.ld true 2 4),n (.st 2 2 21)]
def c:=(s (d r0 [0]) (s (d r1 [1,7,8]) (s (e r2 [3,5,6,9,10,11,12,13,14,15,16,17,18,19,20]) (s (d r3 [4,21]) .ret))))
end SS
def SS:AFn:=⟨1,SS.c,[.cell 2 true 2],false⟩
namespace G8
def r0:=[o 2 (.box 2 0),o 3 (.box 3 1),o 4 (.a7 (k 0)),o 5 (.a7 (.c (.bool false)))]
def r1:=[o 9 (.ld true 4 2),o 10 (.call 2 [9]),o 11 (.un .not 10)]
def r2:=[o 4 (.a7 (k 0)),o 5 (.a7 (.c (.bool false)))]
def r3:=[q 12 [6] (.ld true 3 3),o 13 (.a5 2 1),q 14 [6] (.ld false 1 13),o 15 (.bin .shl (k 1) 14),q 16 [6] (.call 96 [15]),
 q 17 [6] (.call 99 [12,16]),o 6 (.alloc 6 [(.bool false),.nil,.nil]),n (.st 3 6 17)]
def r4:=[o 7 (.alloc 7 [(.bool false),.nil])]
def r5:=[o 18 (.a5 2 2),o 19 (.ld false 1 18)]
def r7:=[o 23 (.bin .eql 19 (k 2)),m 22 23]
def r8:=[o 24 (.ld true 3 6),o 25 (.call 151 [(k 1),(k 2)]),o 26 (.call 98 [24,25]),o 27 (.call 384 [26]),n (.st 2 7 27)]
def r9:=[o 29 (.bin .eql 19 (k 3)),m 28 29]
def DU:=[o 30 (.ld true 3 6),o 31 (.call 256 [30]),o 32 (.call 384 [31]),n (.st 2 7 32)]
def DX:=[o 33 (.ld true 3 6),o 34 (.call 97 [33]),o 35 (.bin .lss 34 (k 0)),o 36 (.a5 7 0),n (.st 1 36 35)]
def r6:=[o 20 (.ld true 3 6),o 21 (.call 384 [20]),n (.st 2 7 21)]
def aw:=[o 37 (.a5 7 1),o 38 (.ld false 1 37),o 39 (.len 38),o 40 (.bin .gtr 39 (k 1))]
def ER:=[o 4 (.a7 (k 0)),o 5 (.a7 (.c (.bool false)))]
def dj:=[o 8 (.a7 (k 0))]
def dw:=[o 41 (.a5 7 1),o 42 (.ld false 1 41),o 43 (.len 42),o 44 (.bin .eql 43 (k 1))]
def fb:=[o 45 (.a5 7 1),o 46 (.ld false 1 45),o 47 (.a9 none 1 46 (k 0)),o 48 (.ld false 1 47),o 49 (.conv .i64 48),m 8 49]
def IB:=[o 50 (.a5 7 0),o 51 (.ld false 1 50)]
def fw:=[m 52 8,o 53 (.un .neg 52),m 8 53]
def jz:=[o 54 (.ld true 4 2),m 55 8,o 56 (.call 5 [54,55]),o 57 (.un .not 56)]
def kv:=[o 4 (.a7 (k 0)),o 5 (.a7 (.c (.bool false)))]
def nz:=[m 58 8,m 4 58,o 5 (.a7 (.c (.bool true)))]
def c:=(s (d r0 [0,1,4,5]) (s (s (d r1 [9,10]) (i 11 (s (d r2 [2,3,11]) .ret) .skip)) (s (e r3 [3,11,12,13,14,15,16,17]) (s (p r4) (s (s (d r5 [18]) (b 0 (s (d r7 [23]) (i 22 (e r8 [6,19,22,24,25,26,27]) (s (d r9 [19,22,29]) (i 28 (s (d DU [28,30,31,32]) (d DX [6,33,34,35,36])) (d r6 [6,20,21,28]))))))) (s (s (d aw [37,38,39]) (i 40 (s (d ER [2,7,40]) .ret) .skip)) (s (d dj [40]) (s (s (d dw [41,42,43]) (i 44 (d fb [44,45,46,47,48,49]) .skip)) (s (s (d IB [7,44,50]) (i 51 (d fw [51,52,53]) .skip)) (s (s (d jz [2,51,54,55,56]) (i 57 (s (d kv [8,57]) .ret) .skip)) (s (d nz [8,57,58]) .ret)))))))))))
end G8
def G8:AFn:=⟨2,G8.c,[.tmp 4,.tmp 5],false⟩
namespace UD
def r0:=[o 2 (.alloc 2 [(.bool false),.nil,.nil])]
def r1:=[o 5 (.call 124 [(k 1)]),o 3 (.alloc 3 [(.bool false),.nil,.nil]),n (.st 3 3 5)]
def r2:=[o 4 (.a7 (k 0))]
def r3:=[m 6 4,m 7 0,o 8 (.bin .lss 6 7)]
def r5:=[o 11 (.ld true 3 3),o 12 (.ld true 3 3),o 13 (.call 126 [11,12]),n (.st 3 3 13)]
def r4:=[m 9 4,o 10 (.bin .add 9 (k 1)),m 4 10]
def r6:=[o 14 (.ld true 3 3),n (.st 3 2 14)]
def l1:=(s (s (d r3 [6,7]) (i 8 .skip (x 0))) (s (b 1 (d r5 [8,11,12,13])) (d r4 [9,10])))
def c:=(s (p r0) (s (d r1 [5]) (s (s (p r2) (b 0 (w l1))) (s (d r6 [0,3,4,8,14]) .ret))))
end UD
def UD:AFn:=⟨1,UD.c,[.cell 2 true 3],false⟩
namespace N2
def r0:=[o 2 (.box 2 0),o 3 (.box 3 1),o 4 (.a7 (k 0)),o 5 (.a7 (.c (.bool false)))]
def r1:=[o 9 (.ld true 4 2),o 10 (.call 11 [9]),o 11 (.un .not 10)]
def r2:=[o 4 (.a7 (k 0)),o 5 (.a7 (.c (.bool false)))]
def r3:=[q 12 [6] (.ld true 3 3),o 13 (.a5 2 1),q 14 [6] (.ld false 1 13),q 15 [6] (.call 386 [14]),
 q 16 [6] (.call 128 [12,15]),o 6 (.alloc 6 [(.bool false),.nil,.nil]),n (.st 3 6 16)]
def r4:=[o 17 (.a5 2 2),o 18 (.ld false 1 17),o 19 (.bin .eql 18 (k 2))]
def r5:=[o 20 (.ld true 3 6),o 21 (.call 125 [(k 1),(k 2)]),o 22 (.call 126 [20,21]),n (.st 3 6 22)]
def r6:=[o 24 (.ld true 3 6),o 25 (.call 361 [24]),m 23 25,o 26 (.ext 23 0),o 27 (.ext 23 1),m 7 26,m 8 27]
def r7:=[o 28 (.a5 2 2),o 29 (.ld false 1 28),o 30 (.bin .eql 29 (k 3)),m 31 30,g 32 31 true (.a7 7),g 33 31 true (.bin .lss 32 (k 0)),
 o 34 (.pick 31 33 (.c (.bool false))),m 35 34,g 36 35 true (.a7 7),g 37 35 true (.call 124 [36]),g 38 35 true (.ld true 3 6),
 g 39 35 true (.call 127 [37,38]),g 40 35 true (.bin .lss 39 (k 0)),o 41 (.pick 35 40 (.c (.bool false)))]
def r8:=[m 42 7,o 43 (.bin .add 42 (k 1)),m 7 43]
def r9:=[m 44 8,o 45 (.un .not 44),m 46 45,g 47 46 false (.ld true 4 2),g 48 46 false (.a7 7),g 49 46 false (.call 14 [47,48]),g 50 46 false (.un .not 49),
 o 51 (.pick 46 (.c (.bool true)) 50)]
def DU:=[o 4 (.a7 (k 0)),o 5 (.a7 (.c (.bool false)))]
def DX:=[m 52 7,m 4 52,o 5 (.a7 (.c (.bool true)))]
def c:=(s (d r0 [0,1,4,5]) (s (s (d r1 [9,10]) (i 11 (s (d r2 [2,3,11]) .ret) .skip)) (s (e r3 [3,11,12,13,14,15,16]) (s (s (d r4 [17,18]) (i 19 (e r5 [19,20,21,22]) .skip)) (s (d r6 [19,23,24,25,26,27]) (s (s (e r7 [6,28,29,30,31,32,33,34,35,36,37,38,39,40]) (i 41 (d r8 [41,42,43]) .skip)) (s (s (d r9 [2,8,41,44,45,46,47,48,49,50]) (i 51 (s (d DU [7,51]) .ret) .skip)) (s (d DX [7,51,52]) .ret))))))))
end N2
def N2:AFn:=⟨2,N2.c,[.tmp 4,.tmp 5],false⟩
structure ae (L:Lib):Prop extends fg L,ct L,de L where
 NW:L 383=some F.NW
 SS:L 384=some F.SS
 G8:L 385=some F.G8
 UD:L 386=some F.UD
 N2:L 387=some F.N2
end Go.e6.F

namespace Go.e6.F
open C
namespace UR
def r0:=[o 4 (.box 4 1),o 5 (.box 5 2),o 6 (.alloc 6 [.nil]),o 7 (.a7 (.c (.bool false)))]
def r1:=[o 8 (.alloc 8 [.nil])]
def r2:=[m 14 0,o 15 (.len 14),o 16 (.bin .add 15 (k 1)),o 17 (.a7 (k 0))]
def r3:=[o 18 (.bin .lss 17 16)]
def r4:=[m 19 17,m 9 19]
def r5:=[q 20 [11] (.ld true 3 4),o 11 (.alloc 11 [(.bool false),.nil,.nil]),o 10 (.a7 (k 0)),n (.st 3 11 20)]
def r6:=[m 21 9,m 22 0,o 23 (.len 22),o 24 (.bin .lss 21 23)]
def r7:=[m 25 9,o 26 (.bin .add 25 (k 1)),m 27 0,m 28 9,o 29 (.a9 none 3 27 28),o 30 (.ld true 3 29),m 10 26,n (.st 3 11 30)]
def r8:=[o 32 (.ld true 4 5),o 33 (.ld true 3 11),o 34 (.call 385 [32,33]),m 31 34,o 35 (.ext 31 0),o 36 (.ext 31 1),m 12 35,m 13 36]
def r9:=[m 37 13,o 38 (.un .not 37)]
def DU:=[o 39 (.build [.nil] []),n (.st 1 6 39),o 7 (.a7 (.c (.bool false)))]
def DX:=[m 40 12,o 41 (.bin .neq 40 (k 0))]
def aw:=[o 42 (.a5 8 0),o 43 (.ld false 1 42),m 44 10,m 45 12,o 46 (.build [z,z] [(0,1,44),(1,1,45)]),o 47 (.e5 47 2 [46]),o 48 (.app 48 2 16 43 47),
 o 49 (.a5 8 0),n (.st 1 49 48)]
def ER:=[o 50 (.bin .add 17 (k 1)),m 17 50]
def dj:=[o 51 (.ld true 1 8),n (.st 1 6 51),o 7 (.a7 (.c (.bool true)))]
def l1:=(s (p r3) (s (i 18 .skip (x 0)) (s (b 1 (s (d r4 [18,19]) (s (e r5 [20]) (s (s (d r6 [21,22,23]) (i 24 (e r7 [9,24,25,26,27,28,29,30]) .skip)) (s (d r8 [9,11,24,31,32,33,34,35,36]) (s (s (d r9 [13,37]) (i 38 (s (d DU [0,4,5,8,10,12,16,17,38,39]) .ret) .skip)) (s (d DX [38,40]) (i 41 (d aw [10,12,41,42,43,44,45,46,47,48,49]) .skip)))))))) (d ER [10,12,41,50]))))
def c:=(s (d r0 [1,2,7]) (s (p r1) (s (s (d r2 [14,15]) (b 0 (w l1))) (s (d dj [0,4,5,8,16,17,18,51]) .ret))))
end UR
def UR:AFn:=⟨3,UR.c,[.cell 6 true 1,.tmp 7],false⟩
namespace O7
def r0:=[o 3 (.box 3 0),o 4 (.box 4 1),o 5 (.box 5 2),o 6 (.alloc 6 [z,z,z,z,z,z,z,z,z,.nil,.nil,z]),o 7 (.a7 (k 0))]
def r1:=[o 15 (.ld true 6 3),o 16 (.call 281 [15]),o 17 (.un .not 16),m 18 17,g 19 18 false (.ld true 4 4),g 20 18 false (.call 2 [19]),
 g 21 18 false (.un .not 20),o 22 (.pick 18 (.c (.bool true)) 21),m 23 22,g 24 23 false (.ld true 4 5),g 25 23 false (.call 2 [24]),
 g 26 23 false (.un .not 25),o 27 (.pick 23 (.c (.bool true)) 26)]
def r2:=[o 28 (.build [z,z,z,z,z,z,z,z,z,.nil,.nil,z] []),n (.st 12 6 28),o 7 (.a7 (k 2))]
def r3:=[o 29 (.a5 3 0),o 30 (.ld false 1 29),o 31 (.len 30),m 8 31]
def r4:=[o 32 (.ld true 4 4),o 33 (.ld true 4 5),m 34 8,o 35 (.build [z,z,z,z,z,z,z,z,z,.nil,.nil,z] [(0,4,32),(4,4,33),(8,1,34)]),
 o 9 (.alloc 9 [z,z,z,z,z,z,z,z,z,.nil,.nil,z]),n (.st 12 9 35)]
def r5:=[m 36 8,o 37 (.bin .add 36 (k 1)),o 38 (.a7 (k 0))]
def r6:=[o 39 (.bin .lss 38 37)]
def r7:=[m 40 38,m 10 40]
def r8:=[o 41 (.a5 3 2),q 42 [12] (.ld false 1 41),o 43 (.a5 3 3),q 44 [12] (.ld true 3 43),o 12 (.alloc 12 [(.bool false),.nil,.nil]),
 m 11 42,n (.st 3 12 44)]
def r9:=[m 45 10,m 46 8,o 47 (.bin .lss 45 46)]
def DU:=[o 48 (.a5 3 0),o 49 (.ld false 1 48),m 50 10,o 51 (.a9 none 1 49 50),o 52 (.ld false 1 51),o 53 (.a5 3 1),o 54 (.ld false 1 53),m 55 10,
 o 56 (.a9 none 3 54 55),o 57 (.ld true 3 56),m 11 52,n (.st 3 12 57)]
def DX:=[o 58 (.a5 9 10),o 59 (.ld false 1 58),m 60 8,o 61 (.bin .add (k 1) 60),m 62 10,o 63 (.bin .add 61 62),o 64 (.e5 64 1 [63]),
 o 65 (.app 65 1 8 59 64),o 66 (.a5 9 10),n (.st 1 66 65)]
def aw:=[m 68 11,o 69 (.ld true 3 12),o 70 (.ld true 4 5),o 71 (.call 388 [68,69,70]),m 67 71,o 72 (.ext 67 0),o 73 (.ext 67 1),o 13 (.alloc 13 [.nil]),
 n (.st 1 13 72),m 14 73]
def ER:=[m 74 14,o 75 (.un .not 74)]
def dj:=[o 76 (.build [z,z,z,z,z,z,z,z,z,.nil,.nil,z] []),n (.st 12 6 76),o 7 (.a7 (k 17))]
def dw:=[o 77 (.a5 9 9),o 78 (.ld false 1 77),o 79 (.ld true 1 13),o 80 (.e5 80 1 [79]),o 81 (.app 81 1 24 78 80),o 82 (.a5 9 9),n (.st 1 82 81)]
def fb:=[o 83 (.bin .add 38 (k 1)),m 38 83]
def IB:=[m 84 8,o 85 (.bin .add (k 1) 84),m 86 8,o 87 (.bin .add 85 86),o 88 (.a5 9 11),n (.st 1 88 87)]
def fw:=[o 89 (.ld true 12 9),n (.st 12 6 89),o 7 (.a7 (k 0))]
def l1:=(s (p r6) (s (i 39 .skip (x 0)) (s (b 1 (s (d r7 [39,40]) (s (e r8 [41,42,43,44]) (s (s (d r9 [45,46]) (i 47 (s (e DU [47,48,49,50,51,52,53,54,55,56,57]) (d DX [10,58,59,60,61,62,63,64,65,66])) .skip)) (s (d aw [10,11,12,47,67,68,69,70,71,72,73]) (s (s (d ER [14,74]) (i 75 (s (d dj [3,5,8,9,13,37,38,75,76]) .ret) .skip)) (d dw [13,75,77,78,79,80,81,82]))))))) (d fb [83]))))
def c:=(s (d r0 [0,1,2,7]) (s (s (d r1 [15,16,17,18,19,20,21,22,23,24,25,26]) (i 27 (s (d r2 [3,4,5,27,28]) .ret) .skip)) (s (d r3 [27,29,30,31]) (s (d r4 [4,32,33,34,35]) (s (s (d r5 [36]) (b 0 (w l1))) (s (d IB [3,5,8,37,38,39,84,85,86,87,88]) (s (d fw [9,89]) .ret)))))))
end O7
def O7:AFn:=⟨3,O7.c,[.cell 6 true 12,.tmp 7],false⟩
namespace UH
def r0:=[o 4 (.box 4 1),o 5 (.box 5 2),o 6 (.a7 (.c .nil)),o 7 (.a7 (.c (.bool false)))]
def r1:=[o 8 (.cn 8 2)]
def r2:=[o 9 (.a7 (k 0))]
def r3:=[m 14 9,m 15 0,o 16 (.len 15),o 17 (.bin .leq 14 16)]
def r5:=[o 20 (.ld true 3 4),o 10 (.alloc 10 [(.bool false),.nil,.nil]),n (.st 3 10 20),o 11 (.a7 (k 0))]
def r6:=[m 21 9,m 22 0,o 23 (.len 22),o 24 (.bin .lss 21 23)]
def r7:=[m 25 0,m 26 9,o 27 (.a9 none 3 25 26),o 28 (.ld true 3 27),m 29 9,o 30 (.bin .add (k 1) 29),n (.st 3 10 28),m 11 30]
def r8:=[o 32 (.ld true 4 5),o 33 (.ld true 3 10),o 34 (.call 387 [32,33]),m 31 34,o 35 (.ext 31 0),o 36 (.ext 31 1),m 12 35,m 13 36]
def r9:=[m 37 13,o 38 (.un .not 37)]
def DU:=[o 6 (.a7 (.c .nil)),o 7 (.a7 (.c (.bool false)))]
def DX:=[m 39 12,o 40 (.bin .neq 39 (k 0))]
def aw:=[m 41 8,m 42 11,m 43 12,o 44 (.build [z,z] [(0,1,42),(1,1,43)]),o 45 (.e5 45 2 [44]),o 46 (.app 46 2 16 41 45),m 8 46]
def r4:=[m 18 9,o 19 (.bin .add 18 (k 1)),m 9 19]
def ER:=[m 47 8,m 6 47,o 7 (.a7 (.c (.bool true)))]
def l1:=(s (s (d r3 [14,15,16]) (i 17 .skip (x 0))) (s (b 1 (s (d r5 [17,20]) (s (s (d r6 [21,22,23]) (i 24 (d r7 [24,25,26,27,28,29,30]) .skip)) (s (d r8 [10,24,31,32,33,34,35,36]) (s (s (d r9 [13,37]) (i 38 (s (d DU [0,4,5,8,9,11,12,38]) .ret) .skip)) (s (d DX [38,39]) (i 40 (d aw [11,12,40,41,42,43,44,45,46]) .skip))))))) (d r4 [11,12,18,19,40])))
def c:=(s (d r0 [1,2,6,7]) (s (p r1) (s (s (p r2) (b 0 (w l1))) (s (d ER [0,4,5,8,9,17,47]) .ret))))
end UH
def UH:AFn:=⟨3,UH.c,[.tmp 6,.tmp 7],false⟩
namespace O2
def r0:=[o 3 (.box 3 0),o 4 (.box 4 1),o 5 (.box 5 2),o 6 (.alloc 6 [z,z,z,z,z,z,z,z,z,.nil,.nil,z]),o 7 (.a7 (k 0))]
def r1:=[o 15 (.ld true 6 3),o 16 (.call 284 [15]),o 17 (.un .not 16),m 18 17,g 19 18 false (.ld true 4 4),g 20 18 false (.call 11 [19]),
 g 21 18 false (.un .not 20),o 22 (.pick 18 (.c (.bool true)) 21),m 23 22,g 24 23 false (.ld true 4 5),g 25 23 false (.call 11 [24]),
 g 26 23 false (.un .not 25),o 27 (.pick 23 (.c (.bool true)) 26)]
def r2:=[o 28 (.build [z,z,z,z,z,z,z,z,z,.nil,.nil,z] []),n (.st 12 6 28),o 7 (.a7 (k 2))]
def r3:=[o 29 (.a5 3 0),o 30 (.ld false 1 29),o 31 (.len 30),m 8 31]
def r4:=[o 32 (.ld true 4 4),o 33 (.ld true 4 5),m 34 8,m 35 8,o 36 (.bin .add (k 1) 35),m 37 8,o 38 (.bin .add 36 37),
 o 39 (.build [z,z,z,z,z,z,z,z,z,.nil,.nil,z] [(0,4,32),(4,4,33),(8,1,34),(11,1,38)]),
 o 9 (.alloc 9 [z,z,z,z,z,z,z,z,z,.nil,.nil,z]),n (.st 12 9 39)]
def r5:=[o 10 (.a7 (k 0))]
def r6:=[m 40 10,m 41 8,o 42 (.bin .leq 40 41)]
def r8:=[o 45 (.a5 3 2),q 46 [12] (.ld false 1 45),o 47 (.a5 3 3),q 48 [12] (.ld true 3 47),o 12 (.alloc 12 [(.bool false),.nil,.nil]),
 m 11 46,n (.st 3 12 48)]
def r9:=[m 49 10,m 50 8,o 51 (.bin .lss 49 50)]
def DU:=[o 52 (.a5 3 0),o 53 (.ld false 1 52),m 54 10,o 55 (.a9 none 1 53 54),o 56 (.ld false 1 55),o 57 (.a5 3 1),o 58 (.ld false 1 57),m 59 10,
 o 60 (.a9 none 3 58 59),o 61 (.ld true 3 60),m 11 56,n (.st 3 12 61)]
def DX:=[o 62 (.a5 9 10),o 63 (.ld false 1 62),m 64 8,o 65 (.bin .add (k 1) 64),m 66 10,o 67 (.bin .add 65 66),o 68 (.e5 68 1 [67]),
 o 69 (.app 69 1 8 63 68),o 70 (.a5 9 10),n (.st 1 70 69)]
def aw:=[m 72 11,o 73 (.ld true 3 12),o 74 (.ld true 4 5),o 75 (.call 390 [72,73,74]),m 71 75,o 76 (.ext 71 0),o 77 (.ext 71 1),m 13 76,m 14 77]
def ER:=[m 78 14,o 79 (.un .not 78)]
def dj:=[o 80 (.build [z,z,z,z,z,z,z,z,z,.nil,.nil,z] []),n (.st 12 6 80),o 7 (.a7 (k 17))]
def dw:=[o 81 (.a5 9 9),o 82 (.ld false 1 81),m 83 13,o 84 (.build [.nil] [(0,1,83)]),o 85 (.e5 85 1 [84]),o 86 (.app 86 1 24 82 85),o 87 (.a5 9 9),
 n (.st 1 87 86)]
def r7:=[m 43 10,o 44 (.bin .add 43 (k 1)),m 10 44]
def fb:=[o 88 (.ld true 12 9),n (.st 12 6 88),o 7 (.a7 (k 0))]
def l1:=(s (s (d r6 [40,41]) (i 42 .skip (x 0))) (s (b 1 (s (e r8 [42,45,46,47,48]) (s (s (d r9 [49,50]) (i 51 (s (e DU [51,52,53,54,55,56,57,58,59,60,61]) (d DX [62,63,64,65,66,67,68,69,70])) .skip)) (s (d aw [11,12,51,71,72,73,74,75,76,77]) (s (s (d ER [14,78]) (i 79 (s (d dj [3,5,8,9,10,13,79,80]) .ret) .skip)) (d dw [13,79,81,82,83,84,85,86,87])))))) (d r7 [43,44])))
def c:=(s (d r0 [0,1,2,7]) (s (s (d r1 [15,16,17,18,19,20,21,22,23,24,25,26]) (i 27 (s (d r2 [3,4,5,27,28]) .ret) .skip)) (s (d r3 [27,29,30,31]) (s (d r4 [4,32,33,34,35,36,37,38,39]) (s (s (p r5) (b 0 (w l1))) (s (d fb [3,5,8,9,10,42,88]) .ret))))))
end O2
def O2:AFn:=⟨3,O2.c,[.cell 6 true 12,.tmp 7],false⟩
structure w8 (L:Lib):Prop extends ae L,bj L where
 UR:L 388=some F.UR
 O7:L 389=some F.O7
 UH:L 390=some F.UH
 O2:L 391=some F.O2
end Go.e6.F

namespace Go.e6.F
open C
namespace IE
def r0:=[o 4 (.alloc 316004 [.nil,.nil,.nil,(.bool false),.nil,.nil])]
def r1:=[m 8 0,m 9 1,m 10 1,o 11 (.bin .mul 9 10),m 12 1,o 13 (.bin .mul (k 2) 12),o 14 (.bin .add 11 13),o 15 (.bin .add 14 (k 1)),
 o 16 (.o8 316016 141 [8,15]),m 5 16]
def r2:=[m 17 5,m 18 1,m 19 1,o 20 (.bin .mul 18 19),m 21 1,m 22 1,o 23 (.bin .mul 21 22),m 24 1,o 25 (.bin .add 23 24),o 26 (.ig 3 17 (some 20) (some 25)),
 m 27 5,m 28 1,m 29 1,o 30 (.bin .mul 28 29),m 31 1,o 32 (.bin .add 30 31),m 33 1,m 34 1,o 35 (.bin .mul 33 34),m 36 1,o 37 (.bin .mul (k 2) 36),
 o 38 (.bin .add 35 37),o 39 (.ig 3 27 (some 32) (some 38)),m 40 5,m 41 1,m 42 1,o 43 (.bin .mul 41 42),m 44 1,o 45 (.bin .mul (k 2) 44),
 o 46 (.bin .add 43 45),o 47 (.a9 none 3 40 46),q 48 [316006] (.ld true 3 47),
 o 49 (.build [.nil,.nil,.nil,(.bool false),.nil,.nil] [(1,1,26),(2,1,39),(3,3,48)]),
 o 6 (.alloc 316006 [.nil,.nil,.nil,(.bool false),.nil,.nil]),n (.st 6 6 49)]
def r3:=[o 7 (.a7 (k 0))]
def r4:=[m 50 7,m 51 1,o 52 (.bin .lss 50 51)]
def r6:=[o 55 (.a5 6 0),q 56 [316067] (.ld false 1 55),m 57 5,m 58 7,m 59 1,o 60 (.bin .mul 58 59),m 61 7,m 62 1,o 63 (.bin .mul 61 62),m 64 1,
 o 65 (.bin .add 63 64),o 66 (.ig 3 57 (some 60) (some 65)),o 67 (.e5 316067 1 [66]),o 68 (.app 800068 1 24 56 67),o 69 (.a5 6 0),n (.st 1 69 68)]
def r5:=[m 53 7,o 54 (.bin .add 53 (k 1)),m 7 54]
def r7:=[o 70 (.ld true 6 6),n (.st 6 4 70)]
def l1:=(s (s (d r4 [50,51]) (i 52 .skip (x 0))) (s (b 1 (e r6 [52,55,56,57,58,59,60,61,62,63,64,65,66,67,68,69])) (d r5 [53,54])))
def c:=(s (p r0) (s (d r1 [0,8,9,10,11,12,13,14,15,16]) (s (e r2 [17,18,19,20,21,22,23,24,25,26,27,28,29,30,31,32,33,34,35,36,37,38,39,40,41,42,43,44,45,46,47,48,49]) (s (s (p r3) (b 0 (w l1))) (s (d r7 [1,5,6,7,52,70]) .ret)))))
end IE
def IE:AFn:=⟨2,IE.c,[.cell 4 true 6],false⟩
structure mi (L:Lib):Prop extends cj L where
 IE:L 316=some F.IE
end Go.e6.F

namespace Go.e6.F
open C
namespace IA
def r0:=[o 10 (.a7 (.c (.bool false)))]
def r1:=[m 25 1,o 26 (.call 34 [25,(k 4)]),m 11 26]
def r2:=[m 27 0,m 28 11,o 29 (.g7 316 [27,28]),o 12 (.alloc 12 [.nil,.nil,.nil,(.bool false),.nil,.nil]),n (.st 6 12 29)]
def r3:=[m 30 3,o 31 (.call 38 [30]),m 32 2,o 33 (.call 37 [32]),o 13 (.alloc 13 [z,z,z,z]),o 14 (.alloc 14 [z,z,z,z]),n (.st 4 13 31),n (.st 4 14 33)]
def r4:=[o 34 (.ld true 4 13),o 35 (.call 41 [34]),o 36 (.call 125 [(k 1),35]),o 15 (.alloc 15 [(.bool false),.nil,.nil]),n (.st 3 15 36)]
def r5:=[m 37 4]
def r6:=[o 38 (.a5 13 0),o 39 (.ld false 1 38),o 40 (.bin .sub 39 (k 1)),o 41 (.conv .u64 40),o 42 (.bin .shl (k 1) 41),o 43 (.bin .sub 42 (k 1)),m 44 0,
 m 45 11,m 46 11,o 47 (.bin .mul 45 46),m 48 11,o 49 (.bin .mul (k 2) 48),o 50 (.bin .add 47 49),o 51 (.bin .add 50 (k 1)),o 52 (.call 40 [43,44,51]),
 m 16 52]
def r7:=[o 17 (.a7 (k 0))]
def r8:=[m 53 17,m 54 11,o 55 (.bin .lss 53 54)]
def DU:=[o 18 (.a7 (k 0))]
def DX:=[m 58 18,m 59 11,o 60 (.bin .lss 58 59)]
def ER:=[o 63 (.a5 12 0),o 64 (.ld false 1 63),m 65 17,o 66 (.a9 none 1 64 65),o 67 (.ld false 1 66),m 68 18,o 69 (.ld true 3 15),m 70 16,m 71 17,m 72 11,
 o 73 (.bin .mul 71 72),m 74 18,o 75 (.bin .add 73 74),o 76 (.a9 none 1 70 75),o 77 (.ld false 1 76),o 78 (.call 124 [77]),o 79 (.call 128 [69,78]),
 o 80 (.a9 none 3 67 68),n (.st 3 80 79)]
def aw:=[m 61 18,o 62 (.bin .add 61 (k 1)),m 18 62]
def dj:=[o 81 (.a5 12 1),o 82 (.ld false 1 81),m 83 17,o 84 (.a5 12 2),q 85 [316016] (.ld false 1 84),m 86 17,o 87 (.ld true 3 15),m 88 16,
 m 89 11,m 90 11,o 91 (.bin .mul 89 90),m 92 17,o 93 (.bin .add 91 92),o 94 (.a9 none 1 88 93),o 95 (.ld false 1 94),o 96 (.call 124 [95]),
 o 97 (.call 128 [87,96]),o 98 (.ld true 3 15),m 99 16,m 100 11,m 101 11,o 102 (.bin .mul 100 101),m 103 11,o 104 (.bin .add 102 103),m 105 17,
 o 106 (.bin .add 104 105),o 107 (.a9 none 1 99 106),o 108 (.ld false 1 107),o 109 (.call 124 [108]),o 110 (.call 128 [98,109]),
 o 111 (.a9 none 3 82 83),n (.nr 316016 3 111 97),o 112 (.a9 none 3 85 86),n (.st 3 112 110)]
def r9:=[m 56 17,o 57 (.bin .add 56 (k 1)),m 17 57]
def dw:=[o 113 (.ld true 3 15),m 114 16,m 115 11,m 116 11,o 117 (.bin .mul 115 116),m 118 11,o 119 (.bin .mul (k 2) 118),o 120 (.bin .add 117 119),
 o 121 (.a9 none 1 114 120),o 122 (.ld false 1 121),o 123 (.call 124 [122]),o 124 (.call 128 [113,123]),o 125 (.a5 12 3),n (.st 3 125 124)]
def fb:=[o 127 (.ld true 6 12),o 128 (.ld true 4 14),o 129 (.ld true 4 13),o 130 (.call 389 [127,128,129]),m 126 130,o 131 (.ext 126 0),o 132 (.ext 126 1),
 o 19 (.alloc 19 [z,z,z,z,z,z,z,z,z,.nil,.nil,z]),n (.st 12 19 131),m 20 132]
def IB:=[o 134 (.ld true 6 12),o 135 (.ld true 4 14),o 136 (.ld true 4 13),o 137 (.call 391 [134,135,136]),m 133 137,o 138 (.ext 133 0),o 139 (.ext 133 1),
 o 21 (.alloc 21 [z,z,z,z,z,z,z,z,z,.nil,.nil,z]),n (.st 12 21 138),m 22 139]
def fw:=[m 140 20,m 141 22,o 142 (.bin .neq 140 141),m 143 142,g 144 143 false (.ld true 12 19),g 145 143 false (.ld true 12 21),
 g 146 143 false (.call 177 [144,145]),g 147 143 false (.un .not 146),o 148 (.pick 143 (.c (.bool true)) 147)]
def jz:=[o 10 (.a7 (.c (.bool false)))]
def kv:=[o 150 (.ld true 12 19),o 151 (.call 146 [150]),m 149 151,o 152 (.ext 149 0),o 153 (.ext 149 1),
 o 23 (.alloc 23 [.nil,.nil,.nil,(.bool false),.nil,.nil]),n (.st 6 23 152),m 24 153]
def nz:=[o 154 (.call 215 []),m 155 154,g 156 155 true (.a7 4),g 157 155 true (.un .not 156),g 158 155 true (.a7 157),g 159 158 false (.a7 20),
 g 160 158 false (.bin .eql 159 (k 0)),g 161 158 false (.a7 160),g 162 161 true (.a7 24),g 163 161 true (.bin .eql 162 (k 0)),
 g 164 158 false (.pick 161 163 (.c (.bool false))),g 165 158 false (.a7 164),g 166 165 true (.ld true 6 12),g 167 165 true (.ld true 6 23),
 g 168 165 true (.call 167 [166,167]),g 169 158 false (.pick 165 168 (.c (.bool false))),g 170 155 true (.pick 158 (.c (.bool true)) 169),
 o 171 (.pick 155 170 (.c (.bool false))),m 10 171]
def l2:=(s (s (d DX [58,59]) (i 60 .skip (x 2))) (s (b 3 (e ER [60,63,64,65,66,67,68,69,70,71,72,73,74,75,76,77,78,79,80])) (d aw [61,62])))
def l1:=(s (s (d r8 [53,54]) (i 55 .skip (x 0))) (s (b 1 (s (s (d DU [55]) (b 2 (w l2))) (e dj [18,60,81,82,83,84,85,86,87,88,89,90,91,92,93,94,95,96,97,98,99,100,101,102,103,104,105,106,107,108,109,110,111,112]))) (d r9 [56,57])))
def c:=(s (d r0 [10]) (s (d r1 [1,25,26]) (s (d r2 [27,28,29]) (s (d r3 [2,3,30,31,32,33]) (s (d r4 [34,35,36]) (s (s (p r5) (i 37 (s (d r6 [0,37,38,39,40,41,42,43,44,45,46,47,48,49,50,51,52]) (s (s (p r7) (b 0 (w l1))) (e dw [11,15,16,17,55,113,114,115,116,117,118,119,120,121,122,123,124,125]))) .skip)) (s (d fb [0,11,15,37,126,127,128,129,130,131,132]) (s (d IB [13,14,133,134,135,136,137,138,139]) (s (s (d fw [21,22,140,141,142,143,144,145,146,147]) (i 148 (s (d jz [4,12,19,20,148]) .ret) .skip)) (s (d kv [19,148,149,150,151,152,153]) (s (d nz [4,12,20,23,24,154,155,156,157,158,159,160,161,162,163,164,165,166,167,168,169,170,171]) .ret)))))))))))
end IA
def IA:AFn:=⟨5,IA.c,[.tmp 10],false⟩
structure fc (L:Lib):Prop extends w8 L,y8 L,cr L,mi L,fe L where
 IA:L 392=some F.IA
end Go.e6.F

namespace Go.e6
def gQ:Value->AV->Bool
 | .int k n,.int k' n'=>k == k'&&n == n'
 | .bool b,.bool b'=>b == b'
 | .slice none 0 0,.nil=>true
 | .string s,.da (.string s')=>s.data.toList == s'.data.toList
 | .nilFunc,.da .nilFunc=>true
 | _,_=>false
def WB:List Value->List AV->Bool
 | [],[]=>true
 | v::r,a::l=>gQ v a&&WB r l
 | _,_=>false
def mR:Value->AV->Bool
 | .agg cs,.agg l=>WB cs.toList l
 | v,a=>gQ v a
def DD:Operand->BH->Bool
 | .tmp t,.t n=>t == n
 | .const v,.c a=>mR v a
 | .func g,.c (.fn _ _ g' [])=>g == g'
 | _,_=>false
def GK:List Operand->List BH->Bool
 | [],[]=>true
 | v::r,a::l=>DD v a&&GK r l
 | _,_=>false
def VG:Option Operand->Option BH->Bool
 | none,none=>true
 | some x,some y=>DD x y
 | _,_=>false
section
variable (P:Program)
def ZM (t:TypeId):Option Bool :=
 match P.underlying t with
 | some (.struct _)=>some true
 | some (.array _ _)=>some true
 | some _=>some false
 | none=>none
def P6 (t:TypeId) (n:Nat):Bool:=match P.info? t with|some i=>i.size == n|none=>false
def fW (t:TypeId) (n:Nat):Bool:=match P.info? t with|some i=>i.bytes == n|none=>false
def ZG (t:TypeId) (l:List AV):Bool:=match P.info? t with|some i=>(match i.zero with|some z=>WB z.cells.toList l|none=>false)|none=>false
def UM (t:TypeId) (f:TypeId->Bool):Bool:=match P.underlying t with|some (.slice e)=>f e|_=>false
def xL (t:TypeId) (i off n:Nat):Bool:=match P.underlying t with
 | some (.struct fs)=>(match fs[i]? with|some f=>f.offset == off&&P6 P f.type n&&n != 0|none=>false)
 | _=>false
def xM (t:TypeId) (i:Nat) (agg:Bool):Bool:=match P.underlying t with
 | some (.struct fs)=>(match fs[i]? with|some f=>ZM P f.type == some agg|none=>false)
 | _=>false
def YY (place:Nat->Option (Nat × Nat)):List (Nat × Operand)->List (Nat × Nat × BH)->Bool
 | [],[]=>true
 | (i,x)::r,(off,n,y)::l=>place i == some (off,n)&&DD x y&&YY place r l
 | _,_=>false
def lJ (t:TypeId) (ps:List (Nat × Operand)) (ep:List (Nat × Nat × BH)):Bool:=match P.underlying t with
 | some (.struct fs)=>(match fs.toList.mapM (λ f=>(P.info? f.type).map λ i=>(f.offset,i.size)) with|some places=>YY (places.toArray[·]?) ps ep|none=>false)
 | some (.array _ e)=>(match P.info? e with|some ie=>YY (λ i=>some (i*ie.size,ie.size)) ps ep|none=>false)
 | _=>false
def YG (k:Nat):List (Nat × Operand)->List BH->Bool
 | [],[]=>true
 | (i,x)::r,y::l=>i == k&&DD x y&&YG (k+1) r l
 | _,_=>false
def fieldsI:Nat->List Field->Nat->Bool
 | k,[],n=>k == n
 | k, f :: fs, n => f.name != "_" && f.offset == k && (match P.underlying f.type with | some (.int _) => true | _ => false) && fieldsI (k + 1) fs n
def nY (t:TypeId) (n:Nat):Bool:=(match P.underlying t with|some (.struct fs)=>fieldsI P 0 fs.toList n|_=>false) && !P.stoodInHeld t && !P.eqGuardType P.depth t
def CH (num:Nat->Nat) (op:Op):F5->Bool
 | .a7 y=>match op with | .move x=>DD x y | .assign x=>DD x y|_=>false
 | .cn _ z=>z != 0&&(match op with | .move (.const (.slice none 0 0))=>true | .assign (.const (.slice none 0 0))=>true|_=>false)
 | .pick c' a' b'=>match op with | .pick c a b=>DD c c'&&DD a a'&&DD b b'|_=>false
 | .bin Cc x' y'=>match op with | .binOp op _ x y _=>op == Cc&&DD x x'&&DD y y'|_=>false
 | .beq ne x' y'=>match op with | .binOp op t x y _=>(if ne then op == .neq else op == .eql)&&(match P.underlying t with|some .bool=>true|_=>false)&&DD x x'&&DD y y'|_=>false
 | .un Cc x'=>match op with | .unOp op _ x=>op == Cc&&DD x x'|_=>false
 | .conv k x'=>match op with | .convert s d x=>(P.underlying s).isSome&&(match P.underlying d with|some (.int k')=>k == k'|_=>false)&&DD x x'|_=>false
 | .box _ x'=>match op with | .box _ x=>DD x x'|_=>false
 | .alloc _ z=>match op with | .alloc t=>ZG P t z|_=>false
 | .build z ep=>match op with | .build t ps=>ZG P t z&&lJ P t ps.toList ep|_=>false
 | .e5 _ b9 ep=>match op with
  | .buildSlice t n ps=>UM P t (λ e=>P6 P e b9)&&b9 != 0&&n == ep.length&&decide (n*b9<=16777216)&&YG 0 ps.toList ep&&(n == 0||UM P t (λ e=>match P.info? e with|some i=>(match i.zero with|some z=>z.cells.size == b9|none=>false)|none=>false))
  | _=>false
 | .a5 x' off=>match op with
  | .fieldAddr s x f=>DD x x'&&(match P.underlying s with|some (.struct fs)=>(match fs[f]? with|some fd=>fd.offset == off&&(match P.info? fd.type with|some i=>i.size != 0|none=>false)|none=>false)|_=>false)
  | _=>false
 | .oi x' off n agg=>match op with | .field t x f=>DD x x'&&xL P t f off n&&xM P t f agg|_=>false
 | .a9 arr b9 x' i'=>match op with
  | .indexAddr t x i=>DD x x'&&DD i i'&&(match P.underlying t,arr with|some (.array len e),some rq=>len == rq&&P6 P e b9&&decide (1<len)|some (.slice e),none=>P6 P e b9&&b9 != 0|_,_=>false)
  | _=>false
 | .ld agg n x'=>match op with | .load t x=>DD x x'&&ZM P t == some agg&&(if agg then P6 P t n else n == 1)|_=>false
 | .st n x' v'=>match op with | .store t x v=>DD x x'&&DD v v'&&P6 P t n|_=>false
 | .mk _ b9 bytes z l' c'=>match op with
  | .makeSlice t l c=>DD l l'&&DD c c'&&UM P t (λ e=>P6 P e b9&&fW P e bytes&&ZG P e z)&&b9 != 0
  | _=>false
 | .ig b9 x' nx o9=>match op with
  | .slice t x lo hi none=>DD x x'&&VG lo nx&&VG hi o9&&UM P t (λ e=>P6 P e b9)&&b9 != 0
  | _=>false
 | .ext x' i'=>match op with | .extract x i=>DD x x'&&i == i'|_=>false
 | .len x'=>match op with
  | .call ⟨.builtin .len,xs,ts⟩=>(match xs.toList,ts.toList with|[x],[t]=>DD x x'&&UM P t (λ_=>true)|_,_=>false)
  | _=>false
 | .mm max n9=>match op with
  | .call ⟨.builtin .min,xs,_⟩ => !max&&GK xs.toList n9
  | .call ⟨.builtin .max,xs,_⟩=>max&&GK xs.toList n9
  | _=>false
 | .app _ b9 bytes x' y'=>match op with
  | .call ⟨.builtin .append,xs,ts⟩=>(match xs.toList,ts.toList with
   | [x,y],[t,u]=>DD x x'&&DD y y'&&UM P t (λ e=>P6 P e b9&&fW P e bytes&&(match P.info? e with|some i=>(match i.zero with|some z=>z.cells.size == b9|none=>false)|none=>false))&&b9 != 0&&UM P u (λ_=>true)
   | _,_=>false)
  | _=>false
 | .call f' n9=>match op with
  | .call ⟨.value (.func f),xs,_⟩=>f == num f'&&GK xs.toList n9
  | _=>false
 | .g7 f' n9=>match op with
  | .call ⟨.value (.func f),xs,_⟩=>f == num f'&&GK xs.toList n9
  | _=>false
 | .cw _ f' n9=>match op with
  | .call ⟨.value (.func f),xs,_⟩=>f == num f'&&GK xs.toList n9
  | _=>false
 | .rp ne x'=>match op with
  | .binOp op t x (.const (.slice none 0 0)) _=>(if ne then op == .neq else op == .eql)&&UM P t (λ_=>true)&&DD x x'
  | _=>false
 | .bad=>true
 | .gv tb i'=>match op with
  | .index t (.const (.string s)) i=>(match P.underlying t with|some .string=>true|_=>false)&&s.data.toList.map (λ b=>b.toNat) == tb&&DD i i'
  | _=>false
 | .pe _ f' n9=>match op with
  | .makeFunc (.func f) first xs=>f == num f'&&first.toList.isEmpty&&GK xs.toList n9
  | _=>false
 | .m6 f' n9=>match op with
  | .call ⟨.value (.func f),xs,_⟩=>f == num f'&&GK xs.toList n9
  | _=>false
 | .oa ne n x' y'=>match op with | .binOp op t x y _=>(if ne then op == .neq else op == .eql)&&nY P t n&&DD x x'&&DD y y'|_=>false
 | .o8 _ f' n9=>match op with
  | .call ⟨.value (.func f),xs,_⟩=>f == num f'&&GK xs.toList n9
  | _=>false
 | .nr _ n x' v'=>match op with | .store t x v=>DD x x'&&DD v v'&&P6 P t n|_=>false
 | .o3 x' n9=>match op with
  | .call ⟨.value x,xs,_⟩=>DD x x'&&GK xs.toList n9
  | _=>false
def dO (ops:Array Oper):Option (Nat × Bool)->Option (Nat × Bool)->Bool
 | none,none=>true
 | some (j,b),some (t,b')=>b == b'&&(match ops[j]? with|some o=>o.dst == some t|none=>false)
 | _,_=>false
def iO (num:Nat->Nat) (N:Nat) (ops:Array Oper) (o:Oper) (a:AI):Bool :=
 o.dst == a.dst&&(match a.dst with|some d=>decide (d<N)|none=>true)&&dO ops o.guard a.guard&&CH P num o.op a.op
def WM (num:Nat->Nat) (N:Nat) (ops:Array Oper):List Oper->List AI->Bool
 | [],[]=>true
 | o::r,a::l=>iO P num N ops o a&&WM num N ops r l
 | _,_=>false
def KS:F5->Bool
 | .st .. | .app .. | .g7 .. | .o3 .. => true
 | _=>false
def dW:F5->Bool
 | .ld .. | .call .. | .o8 .. => true
 | _=>false
def QL (a:F5):Bool:=KS a||dW a||(HA a).isSome
def EP:BH->List Nat
 | .t n=>[n]
 | .c _=>[]
def pS:Option BH->List Nat
 | some x=>EP x
 | none=>[]
def N6:F5->List Nat
 | .a7 x=>EP x
 | .cn _ _=>[]
 | .pick c a b=>EP c++EP a++EP b
 | .bin _ x y=>EP x++EP y
 | .beq _ x y=>EP x++EP y
 | .un _ x=>EP x
 | .conv _ x=>EP x
 | .box _ x=>EP x
 | .alloc _ _=>[]
 | .build _ ps=>ps.flatMap (λ p=>EP p.2.2)
 | .e5 _ _ ps=>ps.flatMap EP
 | .a5 x _=>EP x
 | .oi x _ _ _=>EP x
 | .a9 _ _ x i=>EP x++EP i
 | .ld _ _ x=>EP x
 | .st _ x v=>EP x++EP v
 | .mk _ _ _ _ l c=>EP l++EP c
 | .ig _ x lo hi=>EP x++pS lo++pS hi
 | .ext x _=>EP x
 | .len x=>EP x
 | .mm _ xs=>xs.flatMap EP
 | .app _ _ _ x y=>EP x++EP y
 | .call _ xs=>xs.flatMap EP
 | .g7 _ xs=>xs.flatMap EP
 | .rp _ x=>EP x
 | .gv _ x=>EP x
 | .pe _ _ xs=>xs.flatMap EP
 | .o3 x xs=>EP x++xs.flatMap EP
 | .m6 _ xs=>xs.flatMap EP
 | .nr _ _ x v=>EP x++EP v
 | .o8 _ _ xs=>xs.flatMap EP
 | .cw _ _ xs=>xs.flatMap EP
 | .oa _ _ x y=>EP x++EP y
 | .bad=>[]
def Z9 (x:AI):List Nat:=N6 x.op++(match x.guard with|some (g,_)=>[g]|none=>[])++x.dst.toList
def OW (b:Array Nat) (i j:Nat):Bool:=(b.getD (max i j) 0).testBit (min i j)
def Mh (b:Array Nat) (x:AI) (i:Nat) (y:AI) (j:Nat):Bool :=
 i == j||OW b i j ||
  ((match y.dst with|some t => !(Z9 x).contains t|none=>true) &&
   (!KS x.op || !QL y.op) &&
   (!dW x.op||(match HA y.op with|some s=>x.c5.contains s|none=>true)) )
def YE (ops:Array Oper) (l:List AI):Bool :=
 let b:=Region.before ops
 (l.zipIdx.all λ(x,i)=>l.zipIdx.all λ(y,j)=>Mh b x i y j&&(i == j||OW b i j||(match HA x.op,HA y.op with|some s,some s'=>s != s'|_,_=>true))) &&
 (ops.toList.zipIdx.all λ(o,i)=>o.after.all λ e=>decide (e.on<i)||(match e.ground with | .gcOnly _=>true|_=>false)) &&
 (!Region.departs ops||(List.range ops.size).all (λ i=>(Region.linearise .gc ops 0).contains i))
def HK (num:Nat->Nat) (N:Nat):Code->CP->Bool
 | c,.dr a _ _=>HK num N c a
 | c',.skip=>match c' with | .skip=>true | .label _=>true|_=>false
 | c',.scope a=>match c' with | .scope c=>HK num N c a|_=>false
 | c',.ops l qa=>match c' with | .region _ ops draw=>draw == qa&&WM P num N ops ops.toList l&&(!draw||YE ops l)|_=>false
 | c',.seq a' b'=>match c' with | .seq a b=>HK num N a a'&&HK num N b b'|_=>false
 | c',.cond x' a' b'=>match c' with | .cond x a b=>DD x x'&&HK num N a a'&&HK num N b b'|_=>false
 | c',.block i' a=>match c' with | .block i c=>i == i'&&HK num N c a|_=>false
 | c',.loop a=>match c' with | .loop c=>HK num N c a|_=>false
 | c',.exit i'=>match c' with | .exit i=>i == i'|_=>false
 | c',.ret=>match c' with | .ret=>true|_=>false
def SJ:List ResultVar->List PM->Bool
 | [],[]=>true
 | .tmp t::r,.tmp t'::l=>t == t'&&SJ r l
 | .cell a t::r,.cell a' agg n::l=>a == a'&&ZM P t == some agg&&(if agg then P6 P t n else n == 1)&&SJ r l
 | _,_=>false
def okFn (num:Nat->Nat) (fn:Func) (a:AFn):Bool :=
 fn.params.size+fn.nfree == a.cb&&decide (a.cb<=fn.ntmps)&&SJ P fn.results.toList a.res&&(match fn.body with|some c=>HK P num fn.ntmps c a.body|none=>false)
end
end Go.e6

namespace Go.e6
@[irreducible] def GZ (a b : Nat) : Nat := (a + 18446744073709551616 - b) % 18446744073709551616
theorem ZD (a b:Nat):GZ a b=(a+18446744073709551616-b)%18446744073709551616:=by unfold GZ;rfl
def val:List Nat->Nat
 | []=>0
 | d::l=>d+4294967296*val l
def BZ (l:List Nat):Prop := ∀ d∈l,d<4294967296
def dg (n:Nat):List Nat:=if h:n=0 then [] else n%4294967296::dg (n/4294967296)
termination_by n
decreasing_by omega
theorem HP:dg 0=[]:=by rw[dg];simp
theorem PF {n:Nat} (h:n≠0):dg n=n%4294967296::dg (n/4294967296):=by rw[dg];simp [h]
theorem O8:val []=0:=rfl
theorem WR (d:Nat) (l:List Nat):val (d::l)=d+4294967296*val l:=rfl
theorem CX (n:Nat):val (dg n)=n:=by
 induction n using Nat.strongRecOn with
 | ind n ih =>
  by_cases h:n=0
  ·subst h;rw[HP];rfl
  ·rw[PF h,WR,ih _ (by omega)]
   omega
theorem GA (n:Nat):BZ (dg n):=by
 induction n using Nat.strongRecOn with
 | ind n ih =>
  by_cases h:n=0
  ·subst h;rw[HP];intro d hd;cases hd
  ·rw[PF h]
   intro d hd;rcases List.mem_cons.1 hd with rfl|hd
   ·omega
   ·exact ih _ (by omega) d hd
theorem BZ.tail {d:Nat} {l:List Nat} (h:BZ (d::l)):BZ l:=λ x hx=>h x (List.mem_cons_of_mem _ hx)
theorem BZ.head {d:Nat} {l:List Nat} (h:BZ (d::l)):d<4294967296:=h d List.mem_cons_self
theorem BZ.at {l:List Nat} (h:BZ l) {i d:Nat} (hd:l[i]? = some d):d<4294967296:=h d (zM hd)
theorem BZ.take {l:List Nat} (h:BZ l) (n:Nat):BZ (l.take n):=λ x hx=>h x (List.mem_of_mem_take hx)
theorem BZ.drop {l:List Nat} (h:BZ l) (n:Nat):BZ (l.drop n):=λ x hx=>h x (List.mem_of_mem_drop hx)
theorem ZU:BZ []:=λ_ h=>by cases h
theorem BZ.append {a b:List Nat} (h:BZ a) (h':BZ b):BZ (a++b):=λ x hx=>(List.mem_append.1 hx).elim (h x) (h' x)
theorem LE {d:Nat} (h:d<4294967296):BZ [d]:=λ x hx=>by simp at hx;omega
theorem BZ.set {l:List Nat} (h:BZ l) (i:Nat) {d:Nat} (hd:d<4294967296):BZ (l.set i d):=λ x hx=>by
 rcases List.mem_or_eq_of_mem_set hx with h1|h1
 ·exact h x h1
 ·omega
theorem PG (n:Nat):BZ (List.replicate n 0):=λ x hx=>by rw[(List.mem_replicate.1 hx).2];omega
theorem aV (a b:List Nat):val (a++b)=val a+4294967296^a.length*val b:=by
 induction a with
 | nil=>simp [val]
 | cons d l ih=>rw[List.cons_append,WR,WR,ih,List.length_cons,Nat.pow_succ];grind
theorem UT (l:List Nat) (v:Nat):val (l++[v])=val l+4294967296^l.length*v:=by
 rw[aV];simp [val]
theorem HS {l:List Nat} (h:BZ l):val l<4294967296^l.length:=by
 induction l with
 | nil=>simp [val]
 | cons d l ih =>
  have h1:=ih h.tail;have h2:=h.head;rw[WR,List.length_cons,Nat.pow_succ];omega
theorem GD {l:List Nat} {i v:Nat} (h:l[i]? = some v):val (l.take (i+1))=val (l.take i)+4294967296^i*v:=by
 have hi:=(zS h).1;rw[List.take_add_one,h,Option.toList_some,UT,List.length_take,Nat.min_eq_left (by omega)]
theorem QB (l:List Nat) (i:Nat) (h:i<=l.length):val l=val (l.take i)+4294967296^i*val (l.drop i):=by
 have:=aV (l.take i) (l.drop i)
 rw[List.take_append_drop,List.length_take,Nat.min_eq_left h]at this;exact this
theorem kD (n:Nat):val (List.replicate n 0)=0:=by
 induction n with
 | zero=>rfl
 | succ n ih=>rw[List.replicate_succ,WR,ih]
theorem Zg {l:List Nat} (h:BZ l) (ht:l=[] \/ ∃ d,l[l.length-1]? = some d/\d≠0):dg (val l)=l:=by
 induction l with
 | nil=>exact HP
 | cons d l ih =>
  have h1:=h.head;by_cases hl:l=[]
  ·subst hl
   rcases ht with ht|⟨x,hx,rl⟩
   ·cases ht
   ·simp at hx
    subst hx;rw[WR,O8,PF (by omega),show (d+4294967296*0)/4294967296=0 by omega,HP,show (d+4294967296*0)%4294967296=d by omega]
  ·have ni : ∃ x,l[l.length-1]? = some x/\x≠0:=by
    rcases ht with ht|⟨x,hx,rl⟩
    ·cases ht
    ·refine ⟨x,?_,rl⟩
     have:l.length≠0:=λ e=>hl (List.eq_nil_of_length_eq_zero e)
     rw[List.length_cons,show l.length+1-1=(l.length-1)+1 by omega,List.getElem?_cons_succ]at hx;exact hx
   have Lg:=ih h.tail (Or.inr ni);have Kf:val l≠0:=by
    intro e;rw[e,HP]at Lg;exact hl Lg.symm
   rw[WR,PF (by omega),show (d+4294967296*val l)/4294967296=val l by omega,Lg,show (d+4294967296*val l)%4294967296=d by omega]
theorem JX {l:List Nat} (h:BZ l) {n:Nat} (hn:n<=l.length) (hz : ∀ i,n<=i->i<l.length->l[i]? = some 0) (ht:n=0 \/ ∃ d,l[n-1]? = some d/\d≠0):l.take n=dg (val l):=by
 have hv:val l=val (l.take n):=by
  have h0:l.drop n=List.replicate (l.length-n) 0:=by
   apply List.ext_getElem?;intro i;rw[List.getElem?_drop,List.getElem?_replicate];by_cases hi:n+i<l.length
   ·rw[hz (n+i) (by omega) hi,if_pos (by omega)]
   ·rw[List.getElem?_eq_none (by omega),if_neg (by omega)]
  rw[QB l n hn,h0,kD];omega
 rw[hv];refine (Zg (h.take n) ?_).symm;rcases ht with rfl|⟨d,hd,Cs⟩
 ·exact Or.inl (by simp)
 ·have l8:=(zS hd).1
  by_cases xu:n=0
  ·subst xu;exact Or.inl (by simp)
  ·refine Or.inr ⟨d,?_,Cs⟩
   rw[List.length_take,Nat.min_eq_left hn,List.getElem?_take,if_pos (by omega)];exact hd
theorem VD {n k:Nat}:(dg n).length<=k↔n<4294967296^k:=by
 induction k generalizing n with
 | zero =>
  by_cases h:n=0
  ·subst h;simp [HP]
  ·rw[PF h];simp;omega
 | succ k ih =>
  by_cases h:n=0
  ·subst h;simp [HP];exact Nat.pos_of_ne_zero (by simp)
  ·rw[PF h,List.length_cons,Nat.succ_le_succ_iff,ih,Nat.pow_succ]
   rw[Nat.div_lt_iff_lt_mul (by omega)]
theorem HH {l:List Nat} (h:BZ l):(dg (val l)).length<=l.length:=VD.2 (HS h)
theorem mJ {n:Nat} (h:n≠0) : ∃ d,(dg n)[(dg n).length-1]? = some d/\d≠0:=by
 induction n using Nat.strongRecOn with
 | ind n ih =>
  rw[PF h];by_cases h2:n/4294967296=0
  ·rw[h2,HP]
   exact ⟨n%4294967296,by simp,by omega⟩
  ·obtain ⟨d,hd,Cs⟩:=ih _ (by omega) h2
   refine ⟨d,?_,Cs⟩;have hl:(dg (n/4294967296)).length≠0:=λ e=>by rw[List.eq_nil_of_length_eq_zero e]at hd;simp at hd
   rw[List.length_cons,show (dg (n/4294967296)).length+1-1=(dg (n/4294967296)).length-1+1 by omega,List.getElem?_cons_succ];exact hd
theorem mH {n:Nat}:dg n=[]↔n=0:=by
 constructor
 ·intro h
  by_cases h0:n=0
  ·exact h0
  ·rw[PF h0]at h;cases h
 ·rintro rfl;exact HP
theorem cO {n:Nat} (h:n≠0):1<=(dg n).length:=by rw[PF h];simp
theorem AiE {o:List Nat} {i v:Nat} (h:i<o.length):(o.set i v).take (i+1)=o.take i++[v]:=by
 rw[List.take_add_one,List.getElem?_set_self h,List.take_set_of_le (Nat.le_refl i)];rfl
theorem JQ {o:List Nat} {i v:Nat} (h:i<o.length):val ((o.set i v).take (i+1))=val (o.take i)+4294967296^i*v:=by
 rw[AiE h,UT,List.length_take,Nat.min_eq_left (by omega)]
theorem V8 (V p t:Nat):V+p*(t%4294967296)+p*4294967296*(t/4294967296)=V+p*t:=by
 have h:=Nat.mod_add_div t 4294967296;have:p*(t%4294967296)+p*4294967296*(t/4294967296)=p*t:=by
  rw[Nat.mul_assoc,<-Nat.mul_add,h]
 omega
theorem E9 {l:List Nat} {n:Nat} (h:l.length<=n):val (l.take n)=val l:=by rw[zT h]
theorem Mj (i:Nat):1<=4294967296^i:=Nat.pos_of_ne_zero (by simp)
theorem NH {l:List Nat} {i d:Nat} (h:l[i]? = some d):val (l.drop i)=d+4294967296*val (l.drop (i+1)):=by
 obtain ⟨hi,rfl⟩:=zS h;rw[List.drop_eq_getElem_cons hi,WR]
theorem jX {a b:List Nat} (ha:BZ a) (hb:BZ b) (hl:a.length=b.length) {i:Nat} {x y:Nat} (hx:a[i]? = some x) (hy:b[i]? = some y) (he:a.drop (i+1)=b.drop (i+1)) (h:x<y):val a<val b:=by
 have hia:=(zS hx).1;have hib:=(zS hy).1;rw[QB a i (by omega),QB b i (by omega),NH hx,NH hy,he];have h1:=HS (ha.take i);rw[List.length_take,Nat.min_eq_left (by omega)]at h1;generalize val (b.drop (i+1))=r;generalize 4294967296^i=p at *;have:p*(x+4294967296*r)+p<=p*(y+4294967296*r):=by
  rw[<-Nat.mul_succ];exact Nat.mul_le_mul_left p (by omega)
 omega
theorem jY {o:List Nat} {k v old:Nat} (h:o[k]? = some old):val (o.set k v)+4294967296^k*old=val o+4294967296^k*v:=by
 have hk:=(zS h).1;have h1:val (o.set k v)=val (o.take k)+4294967296^k*(v+4294967296*val (o.drop (k+1))):=by
  rw[QB (o.set k v) k (by simp;omega),List.take_set_of_le (Nat.le_refl k),NH (l:=o.set k v) (d:=v) (by rw[List.getElem?_set_self hk]),List.drop_set_of_lt (by omega)]
 have h2:val o=val (o.take k)+4294967296^k*(old+4294967296*val (o.drop (k+1))):=by
  rw[QB o k (by omega),NH h]
 rw[h1,h2,Nat.mul_add,Nat.mul_add];omega
theorem eI {l:List Nat} (h:BZ l):l.take (dg (val l)).length=dg (val l):=by
 induction l with
 | nil=>rw[O8,HP];rfl
 | cons d l ih =>
  have h1:=h.head;by_cases h0:val (d::l)=0
  ·rw[h0,HP];rfl
  ·rw[PF h0,WR,show (d+4294967296*val l)/4294967296=val l by omega,show (d+4294967296*val l)%4294967296=d by omega,List.length_cons,List.take_succ_cons,ih h.tail]
theorem aW {a b:Nat} (h:(dg a).length<(dg b).length):a<b:=by
 have h1:a<4294967296^(dg a).length:=VD.1 (Nat.le_refl _);have h2 : ¬ b<4294967296^((dg b).length-1):=λ h3=>by have:=VD.2 h3;omega
 have h3:4294967296^(dg a).length<=4294967296^((dg b).length-1):=Nat.pow_le_pow_right (by omega) (by omega);omega
end Go.e6

namespace Go.e6
section
variable {U V UL VL p u0 u1 u2 v1 v2 top q r:Nat}
theorem AgA (hU:U=UL+p*(u2+4294967296*top)) (hV:V=VL+p*(v2+4294967296*v1)) (hl:UL<p) (h2:u2<4294967296) (bg:0<V):U/V*v1<=top:=by
 have h1:U/V*V<=U:=Nat.div_mul_le_self U V;generalize U/V=Q at *;have h3:U<p*(4294967296*(top+1)):=by
  have:p*(u2+4294967296*top)+p<=p*(4294967296*(top+1)):=by
   rw[<-Nat.mul_succ];exact Nat.mul_le_mul_left p (by omega)
  omega
 have h4:p*(4294967296*(Q*v1))<=Q*V:=by
  have e:Q*V=Q*VL+Q*(p*v2)+p*(4294967296*(Q*v1)):=by rw[hV];grind
  omega
 have h5:p*(4294967296*(Q*v1))<p*(4294967296*(top+1)):=by omega
 have:=Nat.lt_of_mul_lt_mul_left h5
 omega
theorem Agz (hU:U=UL+p*(u2+4294967296*top)) (hV:V=VL+p*(v2+4294967296*v1)) (hl:UL<p) (hq:q*v1+r=top) (h:r*4294967296+u2<q*v2) (bg:0<V):U/V<q:=by
 rw[Nat.div_lt_iff_lt_mul bg];have e:q*V=q*VL+p*(q*v2+4294967296*(q*v1)):=by rw[hV];grind
 have h1:p*(u2+4294967296*top)+p<=p*(q*v2+4294967296*(q*v1)):=by
  rw[<-Nat.mul_succ];exact Nat.mul_le_mul_left p (by omega)
 omega
theorem Agy (h:U<4294967296*V) (hq:4294967296<=q) (bg:0<V):U/V<q:=by
 have:U/V<4294967296:=(Nat.div_lt_iff_lt_mul bg).2 h
 omega
theorem yE (hU:U=UL+p*(u2+4294967296*top)) (hV:V=VL+p*(v2+4294967296*v1)) (Av:VL<p) (h1:2147483648<=v1) (hq:q*v1+r=top) (h:q*v2<=r*4294967296+u2) (hqB:q<4294967296):q<=U/V+1:=by
 have bg:0<V:=by
  have:p*4294967296<=p*(v2+4294967296*v1):=Nat.mul_le_mul_left p (by omega)
  omega
 by_cases h0:q=0
 ·subst h0;exact Nat.zero_le _
 have e:q*V=q*VL+p*(q*v2+4294967296*(q*v1)):=by rw[hV];grind
 have h2:p*(q*v2+4294967296*(q*v1))<=p*(u2+4294967296*top):=Nat.mul_le_mul_left p (by omega);have h3:q*VL<V:=by
  have a1:q*VL<=4294967296*VL:=zR _ (by omega);have a2:p*4294967296<=p*(v2+4294967296*v1):=Nat.mul_le_mul_left p (by omega);omega
 have h4:(q-1)*V<U+1:=by
  have:(q-1)*V+V=q*V:=by
   have:q=q-1+1:=by omega
   rw[<-Nat.succ_mul,Nat.succ_eq_add_one,<-this]
  omega
 have h5:q-1<=U/V:=(Nat.le_div_iff_mul_le bg).2 (by omega);omega
end
theorem vA {U V U' q:Nat} (bg:0<V) (h1:U/V<=q) (h:U'+q*V=U):q=U/V/\U'=U%V:=by
 have h2:q*V<=U:=by omega
 have h3:q<=U/V:=(Nat.le_div_iff_mul_le bg).2 h2;have h4:q=U/V:=by omega
 have:=Nat.div_add_mod U V
 rw[Nat.mul_comm,<-h4]at this;exact ⟨h4,by omega⟩
theorem uZ {U V U' q P:Nat} (bg:0<V) (h2:q<=U/V+1) (Cm:U'<P) (h:U'+q*V=U+P):q-1=U/V/\1<=q/\U'+V=U%V+P:=by
 have h3:U/V*V<=U:=Nat.div_mul_le_self U V;have h4:U/V<q:=by
  rcases Nat.lt_or_ge (U/V) q with h|h
  ·exact h
  ·have:q*V<=U/V*V:=zR _ h
   omega
 have h6:=Nat.div_add_mod U V;rw[Nat.mul_comm]at h6;generalize U/V=Q at *;generalize U%V=R at *;obtain rfl:q=Q+1:=by omega
 rw[Nat.add_mul,Nat.one_mul]at h;exact ⟨by omega,by omega,by omega⟩
theorem jV {u pl bw:Nat} (hu:u<4294967296) (hp:pl<4294967296) (hb:bw<=1):GZ (GZ u pl) bw%4294967296+pl+bw=u+4294967296*(GZ (GZ u pl) bw/9223372036854775808)/\GZ (GZ u pl) bw/9223372036854775808<=1:=by
 rw[ZD,ZD];omega
theorem Ai7 {d e bw:Nat} (hu:d<4294967296) (hp:e<4294967296) (hb:bw<=1):GZ (GZ d bw) e%4294967296+e+bw=d+4294967296*(GZ (GZ d bw) e/9223372036854775808)/\GZ (GZ d bw) e/9223372036854775808<=1:=by
 rw[ZD,ZD];omega
theorem Ai6 {d bw:Nat} (hu:d<4294967296) (hb:bw<=1):GZ d bw%4294967296+bw=d+4294967296*(GZ d bw/9223372036854775808)/\GZ d bw/9223372036854775808<=1:=by
 rw[ZD];omega
theorem Qh {V Y X p D e bw dc d:Nat} (h:V+Y=X+p*bw) (hd:D+e+bw=d+4294967296*dc):V+p*D+(Y+p*e)=X+p*d+p*4294967296*dc:=by
 have h2:p*D+p*e+p*bw=p*d+p*4294967296*dc:=by
  rw[<-Nat.mul_add,<-Nat.mul_add,hd,Nat.mul_add,Nat.mul_assoc]
 omega
theorem aE {a b:Nat} (ha:a<4294967296) (hb:b<4294967296):a*b<=18446744065119617025 :=
 Nat.mul_le_mul (show a<=4294967295 by omega) (show b<=4294967295 by omega)
theorem vB {X Y s:Nat} (hs:0<s):X*s/(Y*s)=X/Y/\X*s%(Y*s)/s=X%Y:=by
 refine ⟨Nat.mul_div_mul_right X Y hs,?_⟩;rw[Nat.mul_mod_mul_right,Nat.mul_div_cancel _ hs]
end Go.e6

namespace Go.e6
@[irreducible] def WP (d s : Nat) : Nat := d * 2 ^ s % 4294967296
@[irreducible] def Y3 (d s : Nat) : Nat := d * 2 ^ s / 4294967296
theorem qM (d s:Nat):WP d s=d*2^s%4294967296:=by unfold WP;rfl
theorem Y4 (d s:Nat):Y3 d s=d*2^s/4294967296:=by unfold Y3;rfl
theorem XW {s:Nat} (hs:s<=32):4294967296=2^s*2^(32-s):=by
 rw[<-Nat.pow_add,show s+(32-s)=32 by omega]
theorem AiJ (d s:Nat):WP d s+4294967296*Y3 d s=d*2^s:=by
 rw[qM,Y4];exact Nat.mod_add_div _ _
theorem Nu {d s:Nat} (hs:s<=32):WP d s=2^s*(d%2^(32-s)):=by
 rw[qM,XW hs,Nat.mul_comm d,Nat.mul_mod_mul_left]
theorem Ns {d s:Nat} (hs:s<=32):Y3 d s=d/2^(32-s):=by
 rw[Y4,XW hs,Nat.mul_comm d,Nat.mul_div_mul_left _ _ (Nat.two_pow_pos s)]
theorem Y5 {d s:Nat} (hd:d<4294967296) (hs:s<=32):WP d s%2^s=0/\Y3 d s<2^s/\WP d s+2^s<=4294967296/\d*2^s<=18446744073709551615:=by
 refine ⟨by rw[Nu hs,Nat.mul_mod_right],?_,?_,?_⟩
 ·rw[Ns hs,Nat.div_lt_iff_lt_mul (Nat.two_pow_pos _),<-Nat.pow_add,show s+(32-s)=32 by omega];exact hd
 ·rw[Nu hs]
  have h1:d%2^(32-s)+1<=2^(32-s):=Nat.mod_lt _ (Nat.two_pow_pos _);have h2:=Nat.mul_le_mul_left (2^s) h1;rw[Nat.mul_add,Nat.mul_one,<-XW hs]at h2;exact h2
 ·have h1:2^s<=2^32:=Nat.pow_le_pow_right (by omega) hs
  have h2:d*2^s<=4294967295*4294967296:=Nat.mul_le_mul (by omega) h1;omega
theorem dT {s:Nat} (hs:s<=32):2^s<=4294967296:=(Nat.pow_le_pow_right (by omega) hs:2^s<=2^32)
theorem zK {V X p lo s d:Nat} (h:V+p*lo=X*2^s):V+p*(WP d s+lo)+p*4294967296*Y3 d s=(X+p*d)*2^s:=by
 have h1:=AiJ d s;have h2:p*(WP d s+lo)+p*4294967296*Y3 d s=p*lo+p*(d*2^s):=by
  rw[<-h1];grind
 rw[Nat.add_mul,<-h,Nat.mul_assoc p d];omega
theorem pC {d V s:Nat} (hs:s<=32):(d+4294967296*V)/2^s=d/2^s+V%2^s*2^(32-s)+4294967296*(V/2^s):=by
 have e:4294967296*V=2^s*(2^(32-s)*V):=by rw[<-Nat.mul_assoc,<-XW hs]
 rw[e,Nat.add_mul_div_left _ _ (Nat.two_pow_pos s)];have h:=Nat.mod_add_div V (2^s);have h2:2^(32-s)*V=V%2^s*2^(32-s)+4294967296*(V/2^s):=by
  have h3:2^(32-s)*V=2^(32-s)*(V%2^s+2^s*(V/2^s)):=by rw[h]
  rw[h3,XW hs];grind
 omega
theorem zU {d V s:Nat} (hs:s<=32):(d+4294967296*V)%2^s=d%2^s:=by
 have e:4294967296*V=2^s*(2^(32-s)*V):=by rw[<-Nat.mul_assoc,<-XW hs]
 rw[e,Nat.add_mul_mod_self_left]
theorem Ahx {d s:Nat} (hs:s<=32):d*2^(32-s)%4294967296=d%2^s*2^(32-s):=by
 have e:4294967296=2^s*2^(32-s):=XW hs;rw[e,Nat.mul_mod_mul_right]
theorem zQ {d V s:Nat} (hd:d<4294967296) (hs:s<=32):d/2^s<2^(32-s)/\V%2^s*2^(32-s)%2^(32-s)=0/\V%2^s*2^(32-s)+2^(32-s)<=4294967296:=by
 refine ⟨?_,Nat.mul_mod_left _ _,?_⟩
 ·rw[Nat.div_lt_iff_lt_mul (Nat.two_pow_pos _),<-Nat.pow_add,show 32-s+s=32 by omega];exact hd
 ·have h1:V%2^s+1<=2^s:=Nat.mod_lt _ (Nat.two_pow_pos _)
  have h2:=zR (2^(32-s)) h1;rw[Nat.add_mul,Nat.one_mul,<-XW hs]at h2;exact h2
def o5 (x:Nat):Nat:=if x=0 then 0 else x.log2+1
theorem tL {x:Nat} (h:x≠0):2^(o5 x-1)<=x/\x<2^o5 x/\1<=o5 x:=by
 unfold o5;rw[if_neg h];exact ⟨Nat.log2_self_le h,Nat.lt_log2_self,by omega⟩
theorem fS {x k:Nat} (h:x<2^k):o5 x<=k:=by
 by_cases h0:x=0
 ·subst h0;unfold o5;simp
 ·obtain ⟨h1,_,h3⟩:=tL h0
  have h2:2^(o5 x-1)<2^k:=by omega
  have:=(Nat.pow_lt_pow_iff_right (by omega)).1 h2
  omega
theorem bY {x:Nat} (n:Nat) (h:2^n<=x):o5 (x/2^n)+n=o5 x:=by
 have hp:=Nat.two_pow_pos n;have hx:x≠0:=by omega
 have hq:x/2^n≠0:=by have:=Nat.div_pos h hp;omega
 unfold o5;rw[if_neg hx,if_neg hq];have:(x/2^n).log2+n=x.log2:=by
  symm
  rw[Nat.log2_eq_iff hx];have h1:=Nat.log2_self_le hq;have h2:x/2^n<2^((x/2^n).log2+1):=Nat.lt_log2_self;rw[Nat.le_div_iff_mul_le hp,<-Nat.pow_add]at h1;rw[Nat.div_lt_iff_lt_mul hp,<-Nat.pow_add]at h2;exact ⟨h1,by rw[show (x/2^n).log2+n+1=(x/2^n).log2+1+n by omega];exact h2⟩
 omega
theorem pD {x:Nat} (h0:x≠0) (hx:x<4294967296):o5 x<=32/\1<=o5 x/\2147483648<=x*2^(32-o5 x)/\x*2^(32-o5 x)<4294967296:=by
 obtain ⟨h1,h2,h3⟩:=tL h0;have hk:o5 x<=32:=fS (k:=32) hx;refine ⟨hk,h3,?_,?_⟩
 ·have:=zR (2^(32-o5 x)) h1
  rw[<-Nat.pow_add,show o5 x-1+(32-o5 x)=31 by omega]at this;exact this
 ·have:=Nat.mul_lt_mul_of_pos_right h2 (Nat.two_pow_pos (32-o5 x))
  rw[<-Nat.pow_add,show o5 x+(32-o5 x)=32 by omega]at this;exact this
def kH (a b c d:Int):Prop:=(0<=a/\b<=0/\c<=0/\0<=d)\/(a<=0/\0<=b/\0<=c/\d<=0)
structure X0 (P Q a b c d p q:Int):Prop where
 hp:p=a*P+b*Q
 hq:q=c*P+d*Q
 sg:kH a b c d
 pa:0<=p+a
 pb:0<=p+b
 qc:0<=q+c
 qd:0<=q+d
theorem X0.start {P Q:Int} (hP:0<=P) (hQ:0<=Q):X0 P Q 1 0 0 1 P Q :=
 ⟨by omega,by omega,Or.inl (by omega),by omega,by omega,by omega,by omega⟩
def bG (P Q a b c d:Int):Prop := ∀ x y K e1 e2:Int,0<K->x=K*P+e1->y=K*Q+e2->0<=e1->e1<=K->0<=e2->e2<=K ->
 0<=c*x+d*y/\c*x+d*y<a*x+b*y/\a*x+b*y<=y/\Int.gcd (a*x+b*y) (c*x+d*y)=Int.gcd x y
def ZL (P Q a b c d:Int):Prop := ∀ x y K e1 e2:Int,0<K->x=K*P+e1->y=K*Q+e2->0<=e1->e1<=K->0<=e2->e2<=K ->
 c*x+d*y<=y/\Int.gcd (a*x+b*y) (c*x+d*y)=Int.gcd x y
theorem ZL.start (P Q:Int):ZL P Q 1 0 0 1:=by
 intro x y K e1 e2 _ _ _ _ _ _ _;simp
theorem bG.half {P Q a b c d:Int} (h:bG P Q a b c d):ZL P Q a b c d:=λ x y K e1 e2 h1 h2 h3 h4 h5 h6 h7=>by
 obtain ⟨g1,g2,g3,g4⟩:=h x y K e1 e2 h1 h2 h3 h4 h5 h6 h7;exact ⟨by omega,g4⟩
theorem Agt (X Y f:Int):Int.gcd Y (X-f*Y)=Int.gcd X Y:=by
 rw[Int.gcd_comm X Y];exact Int.gcd_sub_mul_right_right Y X f
theorem X0.step {P Q a b c d p q f:Int} (h:X0 P Q a b c d p q) (hc:q+c≠0) (hd:q+d≠0) (h1:f=(p+a)/(q+c)) (h2:f=(p+b)/(q+d)) :
  X0 P Q c d (a-f*c) (b-f*d) q (p-f*q)/\0<=f/\p-f*q<q/\(ZL P Q a b c d->bG P Q c d (a-f*c) (b-f*d)):=by
 have c0:0<q+c:=by have:=h.qc;omega
 have d0:0<q+d:=by have:=h.qd;omega
 have f0:0<=f:=by rw[h1];exact Int.ediv_nonneg h.pa h.qc
 have m1:p-f*q+(a-f*c)=(p+a)%(q+c):=by
  have:=Int.emod_add_mul_ediv (p+a) (q+c)
  rw[<-h1]at this;grind
 have m2:p-f*q+(b-f*d)=(p+b)%(q+d):=by
  have:=Int.emod_add_mul_ediv (p+b) (q+d)
  rw[<-h2]at this;grind
 have n1:0<=p-f*q+(a-f*c):=by rw[m1];exact Int.emod_nonneg _ hc
 have n2:0<=p-f*q+(b-f*d):=by rw[m2];exact Int.emod_nonneg _ hd
 have n3:p-f*q+(a-f*c)<q+c:=by rw[m1];exact Int.emod_lt_of_pos _ c0
 have n4:p-f*q+(b-f*d)<q+d:=by rw[m2];exact Int.emod_lt_of_pos _ d0
 have Cy:p-f*q=(a-f*c)*P+(b-f*d)*Q:=by rw[h.hp,h.hq];grind
 have Hf:kH c d (a-f*c) (b-f*d):=by
  rcases h.sg with ⟨s1,s2,s3,s4⟩|⟨s1,s2,s3,s4⟩
  ·have t1:f*c<=0:=Int.mul_nonpos_of_nonneg_of_nonpos f0 s3
   have t2:0<=f*d:=Int.mul_nonneg f0 s4;exact Or.inr (by omega)
  ·have t1:0<=f*c:=Int.mul_nonneg f0 s3
   have t2:f*d<=0:=Int.mul_nonpos_of_nonneg_of_nonpos f0 s4;exact Or.inl (by omega)
 have l8:p-f*q<q:=by
  rcases Hf with ⟨s1,s2,s3,s4⟩|⟨s1,s2,s3,s4⟩
  ·omega
  ·omega
 refine ⟨⟨h.hq,Cy,Hf,h.qc,h.qd,n1,n2⟩,f0,l8,λ hh => ?_⟩;intro x y K e1 e2 hK hx hy a1 a2 b1 b2;obtain ⟨k1,k2⟩:=hh x y K e1 e2 hK hx hy a1 a2 b1 b2;have eY:c*x+d*y=K*q+c*e1+d*e2:=by rw[hx,hy,h.hq];grind
 have eX:(a-f*c)*x+(b-f*d)*y=K*(p-f*q)+(a-f*c)*e1+(b-f*d)*e2:=by rw[hx,hy,Cy];grind
 have eS:(a-f*c)*x+(b-f*d)*y=(a*x+b*y)-f*(c*x+d*y):=by grind
 generalize hE:a-f*c=E at *;generalize hG:b-f*d=G at *;generalize Cz:p-f*q=q2 at *;have key:0<=E*x+G*y/\E*x+G*y<c*x+d*y:=by
  rw[eX,eY];rcases Hf with ⟨s1,s2,s3,s4⟩|⟨s1,s2,s3,s4⟩
  ·-- c≥0,d<=0,E<=0,G≥0
   have t1:E*K<=E*e1:=Int.mul_le_mul_of_nonpos_left s3 a2;have t2:0<=G*e2:=Int.mul_nonneg s4 b1;have t3:0<=K*(q2+E):=Int.mul_nonneg (by omega) n1;have t4:(G-d)*e2<=(G-d)*K:=Int.mul_le_mul_of_nonneg_left b2 (by omega);have t5:(E-c)*e1<=0:=Int.mul_nonpos_of_nonpos_of_nonneg (by omega) a1;have t6:0<K*((q+d)-(q2+G)):=Int.mul_pos hK (by omega);constructor
   ·grind
   ·grind
  ·have t1:G*K<=G*e2:=Int.mul_le_mul_of_nonpos_left s4 b2
   have t2:0<=E*e1:=Int.mul_nonneg s3 a1;have t3:0<=K*(q2+G):=Int.mul_nonneg (by omega) n2;have t4:(E-c)*e1<=(E-c)*K:=Int.mul_le_mul_of_nonneg_left a2 (by omega);have t5:(G-d)*e2<=0:=Int.mul_nonpos_of_nonpos_of_nonneg (by omega) b1;have t6:0<K*((q+c)-(q2+E)):=Int.mul_pos hK (by omega);constructor
   ·grind
   ·grind
 refine ⟨key.1,key.2,k1,?_⟩;rw[<-k2,eS];exact Agt _ _ _
end Go.e6











namespace Go.e6
open Go.RowKit
theorem NS (b o n:Nat):(⟨b,o,none⟩:Addr).add n=⟨b,o+n,none⟩:=by
 unfold Addr.add;split<;>simp_all
inductive Rd (w:World) (R:Bool->Nat->Prop):AV->Value->Prop
 | int (k:IntKind) (n:Int):Rd w R (.int k n) (.int k n)
 | bool (b:Bool):Rd w R (.bool b) (.bool b)
 | str (s:ByteArray):Rd w R (.da (.string s)) (.string s)
 | lv:Rd w R (.da .nilFunc) .nilFunc
 | jx (l:Bool) (a:Option Addr) (cap:Nat):Rd w R (.sl l []) (.slice a 0 cap)
 | emp (b:Bool) (a:Option Addr) (cap:Nat) (h:a.isNone=b):Rd w R (.da (.bool b)) (.slice a 0 cap)
 | sl (l:Bool) (es:List (List AV)) (b o b9 cap:Nat) (u:Nat->Nat->Value) (m7:es≠[]) (hp:0<b9) (hR:R l b) (ck:es.length<=cap) (hz : ∀ e∈es,e.length=b9)
   (hc : ∀ i e,es[i]? = some e -> ∀ j c,e[j]? = some c->w.cell? ⟨b,o+(i*b9+j),none⟩=some (u i j))
   (hr : ∀ i e,es[i]? = some e -> ∀ j c,e[j]? = some c->Rd w R c (u i j)) :
   Rd w R (.sl l es) (.slice (some ⟨b,o,none⟩) es.length cap)
theorem Rd.one {w:World} {R:Bool->Nat->Prop} {a:AV} {v:Value} (h:Rd w R a v):v.oneCell'=true:=by
 cases h<;>rfl
theorem X8 {w:World} {a:Addr} {u:Value} (h:w.cell? a=some u):a.block<w.heap.size:=by
 unfold World.cell? at h;split at h
 ·rename_i hh
  exact (Array.getElem?_eq_some_iff.1 hh).1
 ·cases h
theorem dA {es:List (List AV)} {b9:Nat} (m7:es≠[]) (hp:0<b9) (hz : ∀ e∈es,e.length=b9) : ∃ e c,es[0]? = some e/\e[0]? = some c:=by
 cases es with
 | nil=>exact absurd rfl m7
 | cons e r =>
  have:=hz e (by simp)
  cases e with
  | nil=>simp at this;omega
  | cons c q=>exact ⟨c::q,c,rfl,rfl⟩
theorem Rd.mono {w w':World} {R R':Bool->Nat->Prop} (hR : ∀ l b,b<w.heap.size->R l b->R' l b)
  (hw : ∀ l b,b<w.heap.size->R l b->w'.heap[b]? = w.heap[b]?) {a:AV} {v:Value} (h:Rd w R a v):Rd w' R' a v:=by
 induction h with
 | int k n=>exact .int k n
 | bool b=>exact .bool b
 | str s=>exact .str s
 | lv=>exact .lv
 | jx l a cap=>exact .jx l a cap
 | emp b a cap h=>exact .emp b a cap h
 | sl l es b o b9 cap u m7 hp h1 ck hz hc hr ih =>
  obtain ⟨e,c,he,jn⟩:=dA m7 hp hz;have hb:b<w.heap.size:=X8 (hc 0 e he 0 c jn);refine .sl l es b o b9 cap u m7 hp (hR l b hb h1) ck hz (λ i e he j c Cr => ?_) ih;rw[World.cell?_of_block (w:=w) (hw l b hb h1)];exact hc i e he j c Cr
structure M where
 ν:Nat->Nat->Option Nat
 own:BC
 w:World
section
variable (B:Nat) (S:Nat->Prop)
def safe (m:M) (l:Bool) (b:Nat):Prop :=
 (S b/\b<B)\/(B<=b /\ ∀ s t,(m.own.get s t).isSome=true->m.ν s t≠some b)\/(l=true/\b<B)
inductive CC (m:M):AV->Value->Prop
 | rd {a:AV} {v:Value} (h:Rd m.w (safe B S m) a v):CC m a v
 | nil:CC m .nil (.slice none 0 0)
 | row (s t z off len:Nat) (a:Option Addr) (cap:Nat) (ht:t<m.own.j5 s) (fv:0<z) (kp:len<=cap) (ha:0<len->a.isSome=true)
   (h : ∀ b,m.own.get s t=some b->b.b9=z/\((len=0/\cap=0) \/ ∃ g arr e,m.ν s t=some g/\a=some ⟨g,off*z,none⟩/\m.w.heap[g]? = some (.cells arr e (0,0))/\(off+cap)*z<=arr.size)) :
   CC m (.row s t z off len) (.slice a len cap)
 | ptr (s t i j:Nat) (a:Addr) (ht:t<m.own.j5 s) (h : ∀ b,m.own.get s t=some b -> ∃ g,m.ν s t=some g/\a=⟨g,i*b.b9+j,none⟩):CC m (.ptr s t i j) (.pointer (some a))
 | u7 (cs:List AV) (b o:Nat) (u:Nat->Value) (l:Bool) (hR:cs≠[]->safe B S m l b) (hc : ∀ j c,cs[j]? = some c->m.w.cell? ⟨b,o+j,none⟩=some (u j)) (hr : ∀ j c,cs[j]? = some c->Rd m.w (safe B S m) c (u j)) :
   CC m (.u7 cs) (.pointer (some ⟨b,o,none⟩))
def CL (m:M) (cs:List AV) (vs:List Value):Prop:=cs.length=vs.length /\ ∀ (j:Nat) (c:AV) (v:Value),cs[j]? = some c->vs[j]? = some v->CC B S m c v
inductive CA (m:M):AV->Value->Prop
 | one {a:AV} {v:Value} (h:CC B S m a v):CA m a v
 | agg (cs:List AV) (vs:List Value) (h:CL B S m cs vs):CA m (.agg cs) (.agg vs.toArray)
 | fn (p:Bool) (f g:Nat) (cs:List AV) (vs:List Value) (hp:p=true->cs=[]) (h:CL B S m cs vs):CA m (.fn p f g cs) (.func (.func g) #[] vs.toArray)
 | tp (f g:Nat) (cs:List AV) (vs:List Value) (hp:cs≠[]) (h:CL B S m cs vs):CA m (.fn true f g cs) (.func (.func g) #[.agg vs.toArray] #[])
inductive CV (m:M):AV->Value->Prop
 | any (v:Value):CV m .any v
 | ca {a:AV} {v:Value} (h:CA B S m a v):CV m a v
 | g8 (as:List AV) (vs:List Value) (hl:as.length=vs.length) (h : ∀ (j:Nat) (c:AV) (v:Value),as[j]? = some c->vs[j]? = some v->CA B S m c v):CV m (.g8 as) (.tuple vs.toArray)
def Yn (m:M) (s t:Nat) (b:GE):Prop :=
 (∀ e∈b.es,e.length=b.b9)/\match m.ν s t with
  | none=>b.es=[]
  | some g=>B<=g /\ ∃ arr e,m.w.heap[g]? = some (.cells arr e (0,0)) /\
    ∀ i cs,b.es[i]? = some cs -> ∀ j c,cs[j]? = some c -> ∃ u,arr[i*b.b9+j]? = some u/\CC B S m c u
structure CY (w0:World) (m:M):Prop where
 below:Below B w0 m.w
 size:B<=m.w.heap.size
 fresh : ∀ s t,m.own.j5 s<=t->m.own.get s t=none
 e7 : ∀ s t b,m.own.get s t=some b->Yn B S m s t b
 inj : ∀ s t s' t' b b' g,m.own.get s t=some b->m.own.get s' t'=some b'->m.ν s t=some g->m.ν s' t'=some g->s=s'/\t=t'
structure FP (m m':M):Prop where
 size:m.w.heap.size<=m'.w.heap.size
 vj : ∀ b,b<m.w.heap.size->safe B S m true b->m'.w.heap[b]? = m.w.heap[b]?
 Am : ∀ l b,b<m.w.heap.size->safe B S m l b->safe B S m' l b
 j5 : ∀ s,m.own.j5 s<=m'.own.j5 s
 name : ∀ s t b',t<m.own.j5 s->m'.own.get s t=some b' -> ∃ b,m.own.get s t=some b/\b'.b9=b.b9/\m'.ν s t=m.ν s t /\
   ∀ g arr e,m.ν s t=some g->m.w.heap[g]? = some (.cells arr e (0,0)) -> ∃ v8,m'.w.heap[g]? = some (.cells v8 e (0,0))/\v8.size=arr.size
end
section
variable {B:Nat} {S:Nat->Prop}
theorem qK {m:M} {l:Bool} {b:Nat} (h:safe B S m l b):safe B S m true b:=by
 rcases h with h|h|⟨_,h⟩
 ·exact .inl h
 ·exact .inr (.inl h)
 ·exact .inr (.inr ⟨rfl,h⟩)
theorem FP.rd {m m':M} (h:FP B S m m') {a:AV} {v:Value} (hr:Rd m.w (safe B S m) a v):Rd m'.w (safe B S m') a v :=
 hr.mono h.Am (λ_ b hb hs=>h.vj b hb (qK hs))
theorem FP.cc {m m':M} (h:FP B S m m') {a:AV} {v:Value} (hc:CC B S m a v):CC B S m' a v:=by
 cases hc with
 | rd hr=>exact .rd (h.rd hr)
 | nil=>exact .nil
 | row s t z off len a cap ht fv kp ha hb =>
  refine .row s t z off len a cap (Nat.lt_of_lt_of_le ht (h.j5 s)) fv kp ha λ b' l7 => ?_
  obtain ⟨b,h1,h2,h3,h4⟩:=h.name s t b' ht l7;obtain ⟨hz,ew⟩:=hb b h1;refine ⟨h2.trans hz,?_⟩;rcases ew with h0|⟨g,arr,e,hg,lf,hh,hle⟩
  ·exact .inl h0
  ·obtain ⟨v8,Ip,Bq⟩:=h4 g arr e hg hh
   exact .inr ⟨g,v8,e,h3.trans hg,lf,Ip,Bq ▸ hle⟩
 | ptr s t i j a ht hb =>
  refine .ptr s t i j a (Nat.lt_of_lt_of_le ht (h.j5 s)) λ b' l7 => ?_
  obtain ⟨b,h1,h2,h3,_⟩:=h.name s t b' ht l7;obtain ⟨g,hg,lf⟩:=hb b h1;exact ⟨g,h3.trans hg,h2 ▸ lf⟩
 | u7 cs b o u l hR hc hr =>
  have l8:cs≠[]->b<m.w.heap.size:=λ m7=>by
   cases cs with
   | nil=>exact absurd rfl m7
   | cons c r=>exact X8 (hc 0 c rfl)
  refine .u7 cs b o u l (λ m7=>h.Am l b (l8 m7) (hR m7)) (λ j c hj => ?_) (λ j c hj=>h.rd (hr j c hj));have m7:cs≠[]:=λ e=>by subst e;simp at hj
  rw[World.cell?_of_block (w:=m.w) (h.vj b (l8 m7) (qK (hR m7)))];exact hc j c hj
theorem FP.cl {m m':M} (h:FP B S m m') {cs:List AV} {vs:List Value} (hc:CL B S m cs vs):CL B S m' cs vs :=
 ⟨hc.1,λ j c v h1 h2=>h.cc (hc.2 j c v h1 h2)⟩
theorem FP.ca {m m':M} (h:FP B S m m') {a:AV} {v:Value} (hc:CA B S m a v):CA B S m' a v:=by
 cases hc with
 | one hc=>exact .one (h.cc hc)
 | agg cs vs hc=>exact .agg cs vs (h.cl hc)
 | fn p f g cs vs hp hc=>exact .fn p f g cs vs hp (h.cl hc)
 | tp f g cs vs hp hc=>exact .tp f g cs vs hp (h.cl hc)
theorem FP.cv {m m':M} (h:FP B S m m') {a:AV} {v:Value} (hc:CV B S m a v):CV B S m' a v:=by
 cases hc with
 | any v=>exact .any v
 | ca hc=>exact .ca (h.ca hc)
 | g8 as vs hl hc=>exact .g8 as vs hl λ j c v h1 h2=>h.ca (hc j c v h1 h2)
theorem FP.refl (m:M):FP B S m m :=
 ⟨Nat.le_refl _,λ_ _ _=>rfl,λ_ _ _ h=>h,λ_=>Nat.le_refl _,λ_ _ b' _ h=>⟨b',h,rfl,rfl,λ_ arr _ _ h=>⟨arr,h,rfl⟩⟩⟩
theorem FP.trans {m m' Ti:M} (h:FP B S m m') (k:FP B S m' Ti):FP B S m Ti where
 size:=Nat.le_trans h.size k.size
 vj b hb hs:=(k.vj b (Nat.lt_of_lt_of_le hb h.size) (h.Am true b hb hs)).trans (h.vj b hb hs)
 Am l b hb hs:=k.Am l b (Nat.lt_of_lt_of_le hb h.size) (h.Am l b hb hs)
 j5 s:=Nat.le_trans (h.j5 s) (k.j5 s)
 name s t b'' ht Iz:=by
  obtain ⟨b',h1,h2,h3,h4⟩:=k.name s t b'' (Nat.lt_of_lt_of_le ht (h.j5 s)) Iz;obtain ⟨b,g1,g2,g3,g4⟩:=h.name s t b' ht h1;refine ⟨b,g1,h2.trans g2,h3.trans g3,λ g arr e hg ha => ?_⟩;obtain ⟨v8,Ip,Bq⟩:=g4 g arr e hg ha;obtain ⟨Dq,Iq,Kt⟩:=h4 g v8 e (g3.trans hg) Ip;exact ⟨Dq,Iq,Kt.trans Bq⟩
theorem CC.one {m:M} {a:AV} {v:Value} (h:CC B S m a v):v.oneCell'=true:=by
 cases h with
 | rd h=>exact h.one
 | _=>rfl
end
end Go.e6

namespace Go.e6
open Go.RowKit
section
variable {B:Nat} {S:Nat->Prop} {w0:World}
def live (m:M) (s t:Nat):Prop := ∃ b,m.own.get s t=some b
theorem CY.ge {m:M} (h:CY B S w0 m) {s t g:Nat} (hl:live m s t) (hg:m.ν s t=some g):B<=g /\ ∃ arr e,m.w.heap[g]? = some (.cells arr e (0,0)):=by
 obtain ⟨b,hb⟩:=hl;obtain ⟨_,h2⟩:=h.e7 s t b hb;rw[hg]at h2;obtain ⟨h3,arr,e,h4,_⟩:=h2;exact ⟨h3,arr,e,h4⟩
theorem YO {m m':M} (hm:CY B S w0 m) (hs:m.w.heap.size<=m'.w.heap.size)
  (hk : ∀ b,b<m.w.heap.size->(∀ s t,live m s t->m.ν s t≠some b)->m'.w.heap[b]? = m.w.heap[b]?) (Az : ∀ s,m.own.j5 s<=m'.own.j5 s)
  (Fg : ∀ s t b',t<m.own.j5 s->m'.own.get s t=some b' -> ∃ b,m.own.get s t=some b/\b'.b9=b.b9/\m'.ν s t=m.ν s t /\
   ∀ g arr e,m.ν s t=some g->m.w.heap[g]? = some (.cells arr e (0,0)) -> ∃ v8,m'.w.heap[g]? = some (.cells v8 e (0,0))/\v8.size=arr.size)
  (lk : ∀ s t g,live m' s t->m'.ν s t=some g->g<m.w.heap.size -> ∃ s0 t0,live m s0 t0/\m.ν s0 t0=some g):FP B S m m':=by
 have nc : ∀ b,safe B S m true b -> ∀ s t,live m s t->m.ν s t≠some b:=by
  intro b hb s t hl hg;have mz:=(hm.ge hl hg).1;rcases hb with ⟨_,h⟩|⟨_,h⟩|⟨_,h⟩
  ·omega
  ·obtain ⟨b',l7⟩:=hl
   exact h s t (by simp [l7]) hg
  ·omega
 refine ⟨hs,λ b hb va=>hk b hb (nc b va),λ l b hb va => ?_,Az,Fg⟩;rcases va with h|⟨h,hn⟩|h
 ·exact .inl h
 ·refine .inr (.inl ⟨h,λ s t hl hg => ?_⟩)
  obtain ⟨b',l7⟩:=Option.isSome_iff_exists.1 hl;obtain ⟨s0,t0,⟨b0,Cq⟩,Bf⟩:=lk s t b ⟨b',l7⟩ hg hb;exact hn s0 t0 (by simp [Cq]) Bf
 ·exact .inr (.inr h)
theorem grow {m:M} (hm:CY B S w0 m) {w':World} (hb:Below m.w.heap.size m.w w') :
  CY B S w0 ⟨m.ν,m.own,w'⟩/\FP B S m ⟨m.ν,m.own,w'⟩:=by
 have he:FP B S m ⟨m.ν,m.own,w'⟩:=by
  refine YO hm hb.size (λ b l7 _=>hb.block b l7) (λ_=>Nat.le_refl _) (λ s t b' _ l7=>⟨b',l7,rfl,rfl,λ g arr e hg ha=>⟨arr,?_,rfl⟩⟩) (λ s t g hl hg _=>⟨s,t,hl,hg⟩);have:g<m.w.heap.size:=(Array.getElem?_eq_some_iff.1 ha).1
  exact (hb.block g this).trans ha
 refine ⟨⟨hm.below.trans (hb.mono hm.size),Nat.le_trans hm.size hb.size,hm.fresh,λ s t b hg => ?_,hm.inj⟩,he⟩;obtain ⟨h1,h2⟩:=hm.e7 s t b hg;refine ⟨h1,?_⟩;show match m.ν s t with|none=>_|some g=>_
 cases hν:m.ν s t with
 | none=>rw[hν]at h2;exact h2
 | some g =>
  rw[hν]at h2;obtain ⟨h3,arr,e,h4,h5⟩:=h2;refine ⟨h3,arr,e,?_,λ i cs hi j c hj => ?_⟩
  ·exact (hb.block g (Array.getElem?_eq_some_iff.1 h4).1).trans h4
  ·obtain ⟨u,hu,ag⟩:=h5 i cs hi j c hj
   exact ⟨u,hu,he.cc ag⟩
theorem JU (o:BC) (s s' t':Nat) (b:GE):(o.put s ((o s).new b)).get s' t'=if s'=s/\t'=o.j5 s then some b else o.get s' t':=by
 unfold BC.get BC.put DM.new BC.j5;by_cases h:s'=s
 ·subst h
  by_cases h2:t'=(o s').j5<;>simp [h2]
 ·simp [h]
theorem Q0 (o:BC) (s s':Nat) (b:GE):(o.put s ((o s).new b)).j5 s'=if s'=s then o.j5 s+1 else o.j5 s':=by
 unfold BC.j5 BC.put DM.new;by_cases h:s'=s<;>simp [h]
theorem dG (o:BC) (s t s' t':Nat) (b:Option GE):(o.put s ((o s).q6 t b)).get s' t'=if s'=s/\t'=t then b else o.get s' t':=by
 unfold BC.get BC.put DM.q6;by_cases h:s'=s
 ·subst h
  by_cases h2:t'=t<;>simp [h2]
 ·simp [h]
theorem uN (o:BC) (s t s':Nat) (b:Option GE):(o.put s ((o s).q6 t b)).j5 s'=o.j5 s':=by
 unfold BC.j5 BC.put DM.q6;by_cases h:s'=s<;>simp [h]
def j8 (m:M) (s:Nat) (g:Option Nat):Nat->Nat->Option Nat:=λ s' t'=>if s'=s/\t'=m.own.j5 s then g else m.ν s' t'
theorem iK {m:M} (hm:CY B S w0 m) (s:Nat) : ¬ live m s (m.own.j5 s):=λ⟨b,hb⟩=>by
 rw[hm.fresh s _ (Nat.le_refl _)]at hb;cases hb
theorem kX {m:M} (hm:CY B S w0 m) (s:Nat) (b:GE) (arr:Array Value) (e:TypeId) (hz : ∀ x∈b.es,x.length=b.b9)
  (hc : ∀ i cs,b.es[i]? = some cs -> ∀ j c,cs[j]? = some c -> ∃ u,arr[i*b.b9+j]? = some u/\CC B S m c u) :
  CY B S w0 ⟨j8 m s (some m.w.heap.size),m.own.put s ((m.own s).new b),m.w.alloc (.cells arr e)⟩ /\
  FP B S m ⟨j8 m s (some m.w.heap.size),m.own.put s ((m.own s).new b),m.w.alloc (.cells arr e)⟩:=by
 have w7:(m.w.alloc (.cells arr e)).heap.size=m.w.heap.size+1:=by simp
 have hν : ∀ s' t',live m s' t'->j8 m s (some m.w.heap.size) s' t'=m.ν s' t':=λ s' t' hl=>by
  unfold j8;rw[if_neg];rintro ⟨rfl,rfl⟩
  exact iK hm _ hl
 have he:FP B S m ⟨j8 m s (some m.w.heap.size),m.own.put s ((m.own s).new b),m.w.alloc (.cells arr e)⟩:=by
  refine YO hm (by rw[w7];omega) (λ k hk _=>Below.heap_alloc _ _ _ hk) (λ s' => ?_) (λ s' t' b' ht l7 => ?_) (λ s' t' g hl hg l8 => ?_)
  ·rw[Q0];split
   ·rename_i h;subst h;omega
   ·exact Nat.le_refl _
  ·rw[JU]at l7
   rw[if_neg (by rintro ⟨rfl,rfl⟩;omega)]at l7;refine ⟨b',l7,rfl,hν s' t' ⟨b',l7⟩,λ g ar e' hg ha=>⟨ar,?_,rfl⟩⟩;exact (Below.heap_alloc _ _ _ (Array.getElem?_eq_some_iff.1 ha).1).trans ha
  ·obtain ⟨b',l7⟩:=hl
   have s8:=l7;rw[JU]at l7;by_cases h:s'=s/\t'=m.own.j5 s
   ·simp only[j8,if_pos h,Option.some.injEq]at hg
    omega
   ·rw[if_neg h]at l7
    exact ⟨s',t',⟨b',l7⟩,by rw[<-hν s' t' ⟨b',l7⟩];exact hg⟩
 refine ⟨⟨hm.below.alloc hm.size _,by rw[w7];have:=hm.size;omega,λ s' t' ht => ?_,λ s' t' b' l7 => ?_,λ s1 t1 s2 t2 b1 b2 g h1 h2 g1 g2 => ?_⟩,he⟩
 ·rw[Q0]at ht
  rw[JU,if_neg]
  ·refine hm.fresh s' t' ?_
   split at ht
   ·rename_i h;subst h;omega
   ·exact ht
  ·rintro ⟨rfl,rfl⟩
   simp at ht;omega
 ·rw[JU]at l7
  by_cases h:s'=s/\t'=m.own.j5 s
  ·rw[if_pos h]at l7
   obtain rfl:b=b':=by simpa using l7
   refine ⟨hz,?_⟩;show match j8 m s (some m.w.heap.size) s' t' with|none=>_|some g=>_
   rw[show j8 m s (some m.w.heap.size) s' t'=some m.w.heap.size by simp [j8,h]];refine ⟨hm.size,arr,e,heap_alloc_new _ _,λ i cs hi j c hj => ?_⟩;obtain ⟨u,hu,ag⟩:=hc i cs hi j c hj;exact ⟨u,hu,he.cc ag⟩
  ·rw[if_neg h]at l7
   obtain ⟨h1,h2⟩:=hm.e7 s' t' b' l7;refine ⟨h1,?_⟩;show match j8 m s (some m.w.heap.size) s' t' with|none=>_|some g=>_
   rw[hν s' t' ⟨b',l7⟩];cases hv:m.ν s' t' with
   | none=>rw[hv]at h2;exact h2
   | some g =>
    rw[hv]at h2;obtain ⟨h3,ar,e',h4,h5⟩:=h2;refine ⟨h3,ar,e',(Below.heap_alloc _ _ _ (Array.getElem?_eq_some_iff.1 h4).1).trans h4,λ i cs hi j c hj => ?_⟩;obtain ⟨u,hu,ag⟩:=h5 i cs hi j c hj;exact ⟨u,hu,he.cc ag⟩
 ·rw[JU]at h1 h2
  have lt : ∀ s' t' b',m.own.get s' t'=some b'->j8 m s (some m.w.heap.size) s' t'=some g->g<m.w.heap.size:=λ s' t' b' hb hg=>by
   rw[hν s' t' ⟨b',hb⟩]at hg;obtain ⟨_,ar,e',h4⟩:=hm.ge ⟨b',hb⟩ hg;exact (Array.getElem?_eq_some_iff.1 h4).1
  have at_ : ∀ s' t',s'=s/\t'=m.own.j5 s->j8 m s (some m.w.heap.size) s' t'=some g->g=m.w.heap.size:=λ s' t' h hg=>by
   simp only[j8,if_pos h,Option.some.injEq]at hg;exact hg.symm
  by_cases p1:s1=s/\t1=m.own.j5 s<;>by_cases p2:s2=s/\t2=m.own.j5 s
  ·exact ⟨p1.1.trans p2.1.symm,p1.2.trans p2.2.symm⟩
  ·rw[if_neg p2]at h2
   have:=lt s2 t2 b2 h2 g2
   have:=at_ s1 t1 p1 g1
   omega
  ·rw[if_neg p1]at h1
   have:=lt s1 t1 b1 h1 g1
   have:=at_ s2 t2 p2 g2
   omega
  ·rw[if_neg p1]at h1
   rw[if_neg p2]at h2;exact hm.inj s1 t1 s2 t2 b1 b2 g h1 h2 (by rw[<-hν s1 t1 ⟨b1,h1⟩];exact g1) (by rw[<-hν s2 t2 ⟨b2,h2⟩];exact g2)
theorem Pk {m:M} (hm:CY B S w0 m) (s b9:Nat) :
  CY B S w0 ⟨j8 m s none,m.own.put s ((m.own s).new ⟨b9,[]⟩),m.w⟩/\FP B S m ⟨j8 m s none,m.own.put s ((m.own s).new ⟨b9,[]⟩),m.w⟩:=by
 have hν : ∀ s' t',live m s' t'->j8 m s none s' t'=m.ν s' t':=λ s' t' hl=>by
  unfold j8;rw[if_neg];rintro ⟨rfl,rfl⟩
  exact iK hm _ hl
 have he:FP B S m ⟨j8 m s none,m.own.put s ((m.own s).new ⟨b9,[]⟩),m.w⟩:=by
  refine YO hm (Nat.le_refl _) (λ k hk _=>rfl) (λ s' => ?_) (λ s' t' b' ht l7 => ?_) (λ s' t' g hl hg l8 => ?_)
  ·rw[Q0];split
   ·rename_i h;subst h;omega
   ·exact Nat.le_refl _
  ·rw[JU]at l7
   rw[if_neg (by rintro ⟨rfl,rfl⟩;omega)]at l7;exact ⟨b',l7,rfl,hν s' t' ⟨b',l7⟩,λ g ar e' hg ha=>⟨ar,ha,rfl⟩⟩
  ·obtain ⟨b',l7⟩:=hl
   rw[JU]at l7;by_cases h:s'=s/\t'=m.own.j5 s
   ·simp [j8,if_pos h]at hg
   ·rw[if_neg h]at l7
    exact ⟨s',t',⟨b',l7⟩,by rw[<-hν s' t' ⟨b',l7⟩];exact hg⟩
 refine ⟨⟨hm.below,hm.size,λ s' t' ht => ?_,λ s' t' b' l7 => ?_,λ s1 t1 s2 t2 b1 b2 g h1 h2 g1 g2 => ?_⟩,he⟩
 ·rw[Q0]at ht
  rw[JU,if_neg]
  ·refine hm.fresh s' t' ?_
   split at ht
   ·rename_i h;subst h;omega
   ·exact ht
  ·rintro ⟨rfl,rfl⟩
   simp at ht;omega
 ·rw[JU]at l7
  by_cases h:s'=s/\t'=m.own.j5 s
  ·rw[if_pos h]at l7
   obtain rfl:(⟨b9,[]⟩:GE)=b':=by simpa using l7
   refine ⟨by simp,?_⟩;show match j8 m s none s' t' with|none=>_|some g=>_
   rw[show j8 m s none s' t'=none by simp [j8,h]]
  ·rw[if_neg h]at l7
   obtain ⟨h1,h2⟩:=hm.e7 s' t' b' l7;refine ⟨h1,?_⟩;show match j8 m s none s' t' with|none=>_|some g=>_
   rw[hν s' t' ⟨b',l7⟩];cases hv:m.ν s' t' with
   | none=>rw[hv]at h2;exact h2
   | some g =>
    rw[hv]at h2;obtain ⟨h3,ar,e',h4,h5⟩:=h2;refine ⟨h3,ar,e',h4,λ i cs hi j c hj => ?_⟩;obtain ⟨u,hu,ag⟩:=h5 i cs hi j c hj;exact ⟨u,hu,he.cc ag⟩
 ·rw[JU]at h1 h2
  by_cases p1:s1=s/\t1=m.own.j5 s
  ·simp [j8,if_pos p1]at g1
  ·by_cases p2:s2=s/\t2=m.own.j5 s
   ·simp [j8,if_pos p2]at g2
   ·rw[if_neg p1]at h1
    rw[if_neg p2]at h2;exact hm.inj s1 t1 s2 t2 b1 b2 g h1 h2 (by rw[<-hν s1 t1 ⟨b1,h1⟩];exact g1) (by rw[<-hν s2 t2 ⟨b2,h2⟩];exact g2)
theorem Aji {m:M} (hm:CY B S w0 m) (s t:Nat) (b b':GE) (hb:m.own.get s t=some b) (g:Nat) (hg:m.ν s t=some g) (arr v8:Array Value) (e:TypeId)
  (ha:m.w.heap[g]? = some (.cells arr e (0,0))) (hz':b'.b9=b.b9) (hz : ∀ x∈b'.es,x.length=b'.b9) (w7:v8.size=arr.size)
  (hc : ∀ i cs,b'.es[i]? = some cs -> ∀ j c,cs[j]? = some c -> ∃ u,v8[i*b'.b9+j]? = some u/\CC B S m c u) (w':World) (jm:Below B w0 w') (Ac:w'.heap.size=m.w.heap.size)
  (hk : ∀ k,k≠g->w'.heap[k]? = m.w.heap[k]?) (Rz:w'.heap[g]? = some (.cells v8 e (0,0))) :
  CY B S w0 ⟨m.ν,m.own.put s ((m.own s).q6 t (some b')),w'⟩/\FP B S m ⟨m.ν,m.own.put s ((m.own s).q6 t (some b')),w'⟩:=by
 have l8:t<m.own.j5 s:=by
  rcases Nat.lt_or_ge t (m.own.j5 s) with h|h
  ·exact h
  ·rw[hm.fresh s t h]at hb;cases hb
 have he:FP B S m ⟨m.ν,m.own.put s ((m.own s).q6 t (some b')),w'⟩:=by
  refine YO hm (by rw[Ac];exact Nat.le_refl _) (λ k jc hn=>hk k (λ e=>hn s t ⟨b,hb⟩ (e ▸ hg))) (λ s'=>by rw[uN];exact Nat.le_refl _) (λ s' t' b2 ht s8 => ?_) (λ s' t' g' hl eu _ => ?_)
  ·rw[dG]at s8
   by_cases h:s'=s/\t'=t
   ·obtain ⟨rfl,rfl⟩:=h
    rw[if_pos ⟨rfl,rfl⟩]at s8;obtain rfl:b'=b2:=by simpa using s8
    refine ⟨b,hb,hz',rfl,λ g2 ar e' ko xg => ?_⟩;obtain rfl:g=g2:=by rw[hg]at ko;simpa using ko
    rw[ha]at xg;obtain ⟨rfl,rfl⟩:arr=ar/\e=e':=by simpa using xg
    exact ⟨v8,Rz,w7⟩
   ·rw[if_neg h]at s8
    refine ⟨b2,s8,rfl,rfl,λ g2 ar e' ko xg=>⟨ar,?_,rfl⟩⟩;rw[<-xg];exact hk g2 (λ e2=>h (by
     subst e2;exact hm.inj s' t' s t b2 b g2 s8 hb ko hg))
  ·obtain ⟨b2,s8⟩:=hl
   rw[dG]at s8;by_cases h:s'=s/\t'=t
   ·obtain ⟨rfl,rfl⟩:=h
    exact ⟨s',t',⟨b,hb⟩,eu⟩
   ·rw[if_neg h]at s8
    exact ⟨s',t',⟨b2,s8⟩,eu⟩
 refine ⟨⟨jm,by rw[Ac];exact hm.size,λ s' t' ht => ?_,λ s' t' b2 s8 => ?_,λ s1 t1 s2 t2 b1 b2 g1 h1 h2 e1 e2 => ?_⟩,he⟩
 ·rw[uN]at ht
  rw[dG,if_neg (by rintro ⟨rfl,rfl⟩;omega)];exact hm.fresh s' t' ht
 ·rw[dG]at s8
  by_cases h:s'=s/\t'=t
  ·obtain ⟨rfl,rfl⟩:=h
   rw[if_pos ⟨rfl,rfl⟩]at s8;obtain rfl:b'=b2:=by simpa using s8
   refine ⟨hz,?_⟩;show match m.ν s' t' with|none=>_|some g=>_
   rw[hg];refine ⟨(hm.ge ⟨b,hb⟩ hg).1,v8,e,Rz,λ i cs hi j c hj => ?_⟩;obtain ⟨u,hu,ag⟩:=hc i cs hi j c hj;exact ⟨u,hu,he.cc ag⟩
  ·rw[if_neg h]at s8
   obtain ⟨h1,h2⟩:=hm.e7 s' t' b2 s8;refine ⟨h1,?_⟩;show match m.ν s' t' with|none=>_|some g=>_
   cases hv:m.ν s' t' with
   | none=>rw[hv]at h2;exact h2
   | some g2 =>
    rw[hv]at h2;obtain ⟨h3,ar,e',h4,h5⟩:=h2;refine ⟨h3,ar,e',?_,λ i cs hi j c hj => ?_⟩
    ·rw[<-h4]
     exact hk g2 (λ e2=>h (by
      subst e2;exact hm.inj s' t' s t b2 b g2 s8 hb hv hg))
    ·obtain ⟨u,hu,ag⟩:=h5 i cs hi j c hj
     exact ⟨u,hu,he.cc ag⟩
 ·have old : ∀ s' t' b2,(m.own.put s ((m.own s).q6 t (some b'))).get s' t'=some b2 -> ∃ b3,m.own.get s' t'=some b3:=λ s' t' b2 h=>by
   rw[dG]at h;by_cases h':s'=s/\t'=t
   ·obtain ⟨rfl,rfl⟩:=h';exact ⟨b,hb⟩
   ·rw[if_neg h']at h;exact ⟨b2,h⟩
  obtain ⟨c1,k1⟩:=old s1 t1 b1 h1;obtain ⟨c2,k2⟩:=old s2 t2 b2 h2;exact hm.inj s1 t1 s2 t2 c1 c2 g1 k1 k2 e1 e2
theorem YP (o:BC) (s t s' t':Nat) (b:GE):(o.put s (((o s).q6 t none).new b)).get s' t'=if s'=s/\t'=o.j5 s then some b else if s'=s/\t'=t then none else o.get s' t':=by
 unfold BC.get BC.put DM.new DM.q6 BC.j5;by_cases h:s'=s
 ·subst h
  by_cases h2:t'=(o s').j5<;>by_cases h3:t'=t<;>simp [h2,h3]
 ·simp [h]
theorem gF (o:BC) (s t s':Nat) (b:GE):(o.put s (((o s).q6 t none).new b)).j5 s'=if s'=s then o.j5 s+1 else o.j5 s':=by
 unfold BC.j5 BC.put DM.new DM.q6;by_cases h:s'=s<;>simp [h]
theorem pK {m:M} (hm:CY B S w0 m) (s t:Nat) (b b':GE) (hb:m.own.get s t=some b) (ea:Option Nat) (w':World) (jm:Below B w0 w') (w7:m.w.heap.size<=w'.heap.size)
  (hk : ∀ k,k<m.w.heap.size->m.ν s t≠some k->w'.heap[k]? = m.w.heap[k]?) (hz : ∀ x∈b'.es,x.length=b'.b9)
  (Fh:ea=none->b'.es=[])
  (vb : ∀ g,ea=some g->B<=g/\(m.w.heap.size<=g\/m.ν s t=some g) /\ ∃ arr e,w'.heap[g]? = some (.cells arr e (0,0)) /\
   ∀ i cs,b'.es[i]? = some cs -> ∀ j c,cs[j]? = some c -> ∃ u,arr[i*b'.b9+j]? = some u/\CC B S m c u) :
  CY B S w0 ⟨j8 m s ea,m.own.put s (((m.own s).q6 t none).new b'),w'⟩/\FP B S m ⟨j8 m s ea,m.own.put s (((m.own s).q6 t none).new b'),w'⟩:=by
 have l8:t<m.own.j5 s:=by
  rcases Nat.lt_or_ge t (m.own.j5 s) with h|h
  ·exact h
  ·rw[hm.fresh s t h]at hb;cases hb
 have hν : ∀ s' t',live m s' t'->j8 m s ea s' t'=m.ν s' t':=λ s' t' hl=>by
  unfold j8;rw[if_neg];rintro ⟨rfl,rfl⟩
  exact iK hm _ hl
 have he:FP B S m ⟨j8 m s ea,m.own.put s (((m.own s).q6 t none).new b'),w'⟩:=by
  refine YO hm w7 (λ k jc hn=>hk k jc (hn s t ⟨b,hb⟩)) (λ s' => ?_) (λ s' t' b2 ht s8 => ?_) (λ s' t' g' hl eu uv => ?_)
  ·rw[gF];split
   ·rename_i h;subst h;omega
   ·exact Nat.le_refl _
  ·rw[YP]at s8
   rw[if_neg (by rintro ⟨rfl,rfl⟩;omega)]at s8;by_cases h:s'=s/\t'=t
   ·rw[if_pos h]at s8;cases s8
   ·rw[if_neg h]at s8
    refine ⟨b2,s8,rfl,hν s' t' ⟨b2,s8⟩,λ g2 ar e' ko xg=>⟨ar,?_,rfl⟩⟩;rw[<-xg];exact hk g2 (Array.getElem?_eq_some_iff.1 xg).1 (λ e2=>h (hm.inj s' t' s t b2 b g2 s8 hb ko e2))
  ·obtain ⟨b2,s8⟩:=hl
   rw[YP]at s8;by_cases h0:s'=s/\t'=m.own.j5 s
   ·simp only[j8,if_pos h0]at eu
    obtain ⟨_,h2,_⟩:=vb g' eu;rcases h2 with h2|h2
    ·omega
    ·exact ⟨s,t,⟨b,hb⟩,h2⟩
   ·rw[if_neg h0]at s8
    by_cases h:s'=s/\t'=t
    ·rw[if_pos h]at s8;cases s8
    ·rw[if_neg h]at s8
     exact ⟨s',t',⟨b2,s8⟩,by rw[<-hν s' t' ⟨b2,s8⟩];exact eu⟩
 refine ⟨⟨jm,Nat.le_trans hm.size w7,λ s' t' ht => ?_,λ s' t' b2 s8 => ?_,λ s1 t1 s2 t2 b1 b2 g1 h1 h2 e1 e2 => ?_⟩,he⟩
 ·rw[gF]at ht
  have ni:m.own.j5 s'<=t' /\ ¬ (s'=s/\t'=m.own.j5 s):=by
   by_cases h:s'=s
   ·subst h
    simp at ht;exact ⟨by omega,by omega⟩
   ·simp [h]at ht
    exact ⟨ht,λ h'=>h h'.1⟩
  rw[YP,if_neg ni.2];split
  ·rfl
  ·exact hm.fresh s' t' ni.1
 ·rw[YP]at s8
  by_cases h0:s'=s/\t'=m.own.j5 s
  ·rw[if_pos h0]at s8
   obtain rfl:b'=b2:=by simpa using s8
   refine ⟨hz,?_⟩;show match j8 m s ea s' t' with|none=>_|some g=>_
   rw[show j8 m s ea s' t'=ea by simp [j8,h0]];cases ea with
   | none=>exact Fh rfl
   | some g =>
    obtain ⟨h1,_,arr,e,h4,h5⟩:=vb g rfl;refine ⟨h1,arr,e,h4,λ i cs hi j c hj => ?_⟩;obtain ⟨u,hu,ag⟩:=h5 i cs hi j c hj;exact ⟨u,hu,he.cc ag⟩
  ·rw[if_neg h0]at s8
   by_cases h:s'=s/\t'=t
   ·rw[if_pos h]at s8;cases s8
   ·rw[if_neg h]at s8
    obtain ⟨h1,h2⟩:=hm.e7 s' t' b2 s8;refine ⟨h1,?_⟩;show match j8 m s ea s' t' with|none=>_|some g=>_
    rw[hν s' t' ⟨b2,s8⟩];cases hv:m.ν s' t' with
    | none=>rw[hv]at h2;exact h2
    | some g2 =>
     rw[hv]at h2;obtain ⟨h3,ar,e',h4,h5⟩:=h2;refine ⟨h3,ar,e',?_,λ i cs hi j c hj => ?_⟩
     ·rw[<-h4]
      exact hk g2 (Array.getElem?_eq_some_iff.1 h4).1 (λ e2=>h (hm.inj s' t' s t b2 b g2 s8 hb hv e2))
     ·obtain ⟨u,hu,ag⟩:=h5 i cs hi j c hj
      exact ⟨u,hu,he.cc ag⟩
 ·rw[YP]at h1 h2
  have old : ∀ s' t' b2,(if s'=s/\t'=t then none else m.own.get s' t')=some b2->m.own.get s' t'=some b2 /\ ¬ (s'=s/\t'=t):=λ s' t' b2 h=>by
   by_cases h':s'=s/\t'=t
   ·rw[if_pos h']at h;cases h
   ·rw[if_neg h']at h;exact ⟨h,h'⟩
  have mj : ∀ s' t' b2,m.own.get s' t'=some b2 -> ¬ (s'=s/\t'=t)->j8 m s ea s' t'=some g1->ea=some g1->False:=λ s' t' b2 s8 m7 e1 e2=>by
   rw[hν s' t' ⟨b2,s8⟩]at e1;obtain ⟨_,h2,_⟩:=vb g1 e2;obtain ⟨_,ar,e',h4⟩:=hm.ge ⟨b2,s8⟩ e1;have:=(Array.getElem?_eq_some_iff.1 h4).1
   rcases h2 with h2|h2
   ·omega
   ·exact m7 (hm.inj s' t' s t b2 b g1 s8 hb e1 h2)
  have at_ : ∀ s' t',s'=s/\t'=m.own.j5 s->j8 m s ea s' t'=some g1->ea=some g1:=λ s' t' h hg=>by simpa [j8,if_pos h] using hg
  by_cases p1:s1=s/\t1=m.own.j5 s<;>by_cases p2:s2=s/\t2=m.own.j5 s
  ·exact ⟨p1.1.trans p2.1.symm,p1.2.trans p2.2.symm⟩
  ·rw[if_neg p2]at h2
   obtain ⟨k2,n2⟩:=old s2 t2 b2 h2;exact (mj s2 t2 b2 k2 n2 e2 (at_ s1 t1 p1 e1)).elim
  ·rw[if_neg p1]at h1
   obtain ⟨k1,n1⟩:=old s1 t1 b1 h1;exact (mj s1 t1 b1 k1 n1 e1 (at_ s2 t2 p2 e2)).elim
  ·rw[if_neg p1]at h1
   rw[if_neg p2]at h2;obtain ⟨k1,n1⟩:=old s1 t1 b1 h1;obtain ⟨k2,n2⟩:=old s2 t2 b2 h2;exact hm.inj s1 t1 s2 t2 b1 b2 g1 k1 k2 (by rw[<-hν s1 t1 ⟨b1,k1⟩];exact e1) (by rw[<-hν s2 t2 ⟨b2,k2⟩];exact e2)
theorem yC (o:BC) (l:List Nat) (s t:Nat):(o.drop l).get s t=if s∈l then none else o.get s t:=by
 induction l with
 | nil=>simp [BC.drop]
 | cons x r ih =>
  unfold BC.get at *;by_cases h:s=x
  ·subst h;simp [BC.drop,BC.put]
  ·simp only[BC.drop,BC.put,if_neg h,List.mem_cons]
   rw[ih];by_cases h2:s∈r<;>simp [h,h2]
theorem uM (o:BC) (l:List Nat) (s:Nat):(o.drop l).j5 s=o.j5 s:=by
 induction l with
 | nil=>simp [BC.drop]
 | cons x r ih =>
  unfold BC.j5 at *;by_cases h:s=x
  ·subst h;simp [BC.drop,BC.put]
  ·simp [BC.drop,BC.put,h,ih]
theorem AeT {m:M} (hm:CY B S w0 m) (l:List Nat):CY B S w0 ⟨m.ν,m.own.drop l,m.w⟩/\FP B S m ⟨m.ν,m.own.drop l,m.w⟩:=by
 have old : ∀ s t b,(m.own.drop l).get s t=some b->m.own.get s t=some b:=λ s t b h=>by
  rw[yC]at h;split at h
  ·cases h
  ·exact h
 have he:FP B S m ⟨m.ν,m.own.drop l,m.w⟩:=by
  refine YO hm (Nat.le_refl _) (λ_ _ _=>rfl) (λ s=>by rw[uM];exact Nat.le_refl _) (λ s t b' _ l7=>⟨b',old s t b' l7,rfl,rfl,λ_ ar _ _ ha=>⟨ar,ha,rfl⟩⟩) (λ s t g hl hg _ => ?_);obtain ⟨b,hb⟩:=hl;exact ⟨s,t,⟨b,old s t b hb⟩,hg⟩
 refine ⟨⟨hm.below,hm.size,λ s t ht => ?_,λ s t b hb => ?_,λ s1 t1 s2 t2 b1 b2 g h1 h2=>hm.inj s1 t1 s2 t2 b1 b2 g (old _ _ _ h1) (old _ _ _ h2)⟩,he⟩
 ·rw[uM]at ht
  rw[yC];split
  ·rfl
  ·exact hm.fresh s t ht
 ·obtain ⟨h1,h2⟩:=hm.e7 s t b (old s t b hb)
  refine ⟨h1,?_⟩;show match m.ν s t with|none=>_|some g=>_
  cases hv:m.ν s t with
  | none=>rw[hv]at h2;exact h2
  | some g =>
   rw[hv]at h2;obtain ⟨h3,ar,e',h4,h5⟩:=h2;refine ⟨h3,ar,e',h4,λ i cs hi j c hj => ?_⟩;obtain ⟨u,hu,ag⟩:=h5 i cs hi j c hj;exact ⟨u,hu,he.cc ag⟩
end
end Go.e6
