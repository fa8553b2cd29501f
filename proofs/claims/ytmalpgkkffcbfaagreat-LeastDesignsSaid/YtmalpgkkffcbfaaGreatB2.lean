/-
  Functions of the program, as the abstract machine reads them (group LsqG). Written by a program (gen.py) off the model's own reading of the translation; the seat's check ties them to it.
-/
import Derived.Test.YtmalpgkkffcbfaaGreatB1
import Derived.Calls
import Derived.Below
import Derived.Laws.CopyRow
import Derived.Laws.Cells
import Derived.Laws.MakeOwn
import Derived.Laws.AppendOwn
import Derived.Deep.AppendSrc
import Derived.Deep.Draws
import Derived.ArgAppend
set_option linter.unusedSimpArgs false
set_option linter.unusedVariables false
set_option linter.unnecessarySimpa false
namespace Go.b8.F
open C
namespace I4
def r0:=[mv 2 kf]
def r1:=[m 5 0,ln 6 5,ls 7 6 k1,m 8 7,g 9 8 false (.n0 0),g 10 8 false (.len 9),g 11 8 false (.bin .gtr 10 (k 200)),
 pk 12 8 kt 11]
def r2:=[mv 2 kf]
def r3:=[m 13 0,ln 14 13,mv 15 k0]
def r4:=[ls 16 15 14]
def r5:=[m 17 15,ia 18 9 13 15,tt 19 9 18,al 4 [(.bool false),.nil,.nil,(.bool false),.nil,.nil,(.bool false),.nil,.nil],
 m 3 17,so 9 4 19]
def r6:=[fa 20 4 6,tt 21 3 20,ca 22 97 [21],bi 23 .leq 22 k0,m 24 23,g 25 24 false (.n0 3),g 26 24 false (.bin .gtr 25 k0),
 g 27 24 false (.n0 26),g 28 27 true (.n0 0),g 29 27 true (.n0 3),g 30 27 true (.bin .sub 29 k1),g 31 27 true (.q7 none 9 28 30),
 g 32 27 true (.u6 31 0),g 33 27 true (.ld true 3 32),g 34 27 true (.u6 4 0),g 35 27 true (.ld true 3 34),g 36 27 true (.call 198 [33,35]),
 g 37 27 true (.bin .geq 36 k0),g 38 24 false (.pick 27 37 kf),pk 39 24 kt 38]
def r7:=[mv 2 kf]
def r8:=[ad 40 15 k1,m 15 40]
def r9:=[mv 2 kt]
def l1:=(s (p r4) (s (i 16 .skip (x 0)) (s (b 1 (s (d r5 (ra 16 4)) (s (e r6 (rl [3,4] 20 19)) (i 39 (s (d r7 [0,13,14,15,39]) .ret) .skip)))) (d r8 [39,40]))))
def c:=(s (d r0 [2]) (s (s (d r1 (ra 5 7)) (i 12 (s (d r2 [0,12]) .ret) .skip)) (s (s (d r3 [12]) (b 0 (w l1))) (s (d r9 (rl [0] 13 4)) .ret))))
end I4
def I4:AFn:=⟨1,I4.c,[.tmp 2],false⟩
namespace I3
def r0:=[al 4 z3,mv 5 k0]
def r1:=[m 10 0,ca 11 261 [10],nt 12 11]
def r2:=[o 13 (.build z3 []),so 3 4 13,mv 5 (k 2)]
def r3:=[ca 14 96 [k0],al 6 z3,so 3 6 14]
def r4:=[m 15 0,ln 16 15,mv 17 k0]
def r5:=[ls 18 17 16]
def r6:=[ia 19 9 15 17,tt 20 9 19,al 8 [(.bool false),.nil,.nil,(.bool false),.nil,.nil,(.bool false),.nil,.nil],
 so 9 8 20]
def r7:=[m 21 1,fa 22 8 0,q 23 [9] (.ld true 3 22),q 24 [9] (.call 260 [21,23]),fa 25 8 3,q 26 [9] (.ld true 3 25),
 q 27 [9] (.call 150 [24,26]),al 9 z3,so 3 9 27]
def r8:=[tt 28 3 6,fa 29 8 6,tt 30 3 29,tt 31 3 9,tt 32 3 9,ca 33 99 [31,32],ca 34 99 [30,33],
 ca 35 98 [28,34],so 3 6 35]
def r9:=[ad 36 17 k1,m 17 36]
def B2:=[tt 37 3 6,so 3 4 37,mv 5 k0]
def l1:=(s (p r5) (s (i 18 .skip (x 0)) (s (b 1 (s (d r6 [18,19,20]) (s (e r7 (ra 21 7)) (e r8 (rl [8,9] 28 8))))) (d r9 [36]))))
def c:=(s (d r0 [5]) (s (s (d r1 [10,11]) (i 12 (s (d r2 [0,1,12,13]) .ret) .skip)) (s (d r3 [12,14]) (s (s (d r4 [0]) (b 0 (w l1))) (s (d B2 [1,6,15,16,17,18,37]) .ret)))))
end I3
def I3:AFn:=⟨2,I3.c,[.cell 4 true 3,.tmp 5],false⟩
namespace K4
def r0:=[mv 2 (.c .nil),al 3 z3]
def r1:=[ca 11 96 [k1],al 4 z3,so 3 4 11]
def r2:=[m 12 0,ln 13 12,mv 14 k0]
def r3:=[ls 15 14 13]
def r4:=[ia 16 3 12 14,tt 17 3 16,al 6 z3,so 3 6 17]
def r5:=[tt 18 3 4,tt 19 3 6,ca 20 99 [18,19],al 7 z3,so 3 7 20]
def r6:=[tt 21 3 4,fa 22 7 2,uu 23 1 22,o 24 (.build [(.bool false),.nil] [(1,1,23)]),o 25 (.b9 25 1 [(.c (.int .u32 (1)))]),
 o 26 (.build z3 [(0,2,24),(2,1,25)]),ca 27 99 [21,26],so 3 4 27]
def r7:=[ad 28 14 k1,m 14 28]
def r8:=[m 29 0,ln 30 29,o 31 (.mk 31 3 56 z3 30 30),m 8 31]
def r9:=[m 32 0,ln 33 32,mv 34 k0]
def B2:=[ls 35 34 33]
def B7:=[m 36 34,ia 37 3 32 34,tt 38 3 37,al 10 z3,m 9 36,so 3 10 38]
def q9:=[m 39 8,m 40 9,tt 41 3 10,tt 42 3 4,ca 43 99 [41,42],ia 44 3 39 40,so 3 44 43]
def CG:=[ad 45 34 k1,m 34 45]
def y7:=[m 46 8,tt 47 3 4,m 2 46,so 3 3 47]
def l1:=(s (p r3) (s (i 15 .skip (x 0)) (s (b 1 (s (d r4 [15,16,17]) (s (d r5 [6,18,19,20]) (d r6 (rl [7] 21 7))))) (d r7 [28]))))
def l2:=(s (p B2) (s (i 35 .skip (x 2)) (s (b 3 (s (d B7 (ra 35 4)) (d q9 (rl [9,10] 39 6)))) (d CG [45]))))
def c:=(s (d r0 [2]) (s (d r1 [11]) (s (s (p r2) (b 0 (w l1))) (s (d r8 [12,13,14,15,29,30,31]) (s (s (d r9 [0]) (b 2 (w l2))) (s (e y7 [4,8,32,33,34,35,46,47]) .ret))))))
end K4
def K4:AFn:=⟨1,K4.c,[.tmp 2,.cell 3 true 3],false⟩
namespace K5
def r0:=[al 2 [.nil,.nil,.nil,(.bool false),.nil,.nil,(.bool false),.nil,.nil]]
def r1:=[al 3 [.nil,.nil,.nil,(.bool false),.nil,.nil,(.bool false),.nil,.nil]]
def r2:=[m 6 0,ln 7 6,mv 8 k0]
def r3:=[ls 9 8 7]
def r4:=[ia 10 9 6 8,tt 11 9 10,al 5 [(.bool false),.nil,.nil,(.bool false),.nil,.nil,(.bool false),.nil,.nil],so 9 5 11]
def r5:=[fa 12 3 0,uu 13 1 12,fa 14 5 0,tt 15 3 14,o 16 (.b9 16 3 [15]),o 17 (.app 17 3 56 13 16),fa 18 3 0,
 so 1 18 17]
def r6:=[fa 19 3 1,uu 20 1 19,fa 21 5 3,tt 22 3 21,o 23 (.b9 23 3 [22]),o 24 (.app 24 3 56 20 23),fa 25 3 1,
 so 1 25 24]
def r7:=[fa 26 3 2,uu 27 1 26,fa 28 5 6,tt 29 3 28,o 30 (.b9 30 3 [29]),o 31 (.app 31 3 56 27 30),fa 32 3 2,
 so 1 32 31]
def r8:=[ad 33 8 k1,m 8 33]
def r9:=[fa 35 3 0,uu 36 1 35,ca 37 263 [36],m 34 37,et 38 34 0,et 39 34 1,fa 40 3 0,so 1 40 38,
 fa 41 3 3,so 3 41 39]
def B2:=[fa 43 3 1,uu 44 1 43,ca 45 263 [44],m 42 45,et 46 42 0,et 47 42 1,fa 48 3 1,so 1 48 46,
 fa 49 3 6,so 3 49 47]
def B7:=[fa 51 3 2,uu 52 1 51,ca 53 263 [52],m 50 53,et 54 50 0,et 55 50 1,fa 56 3 2,so 1 56 54]
def q9:=[tt 57 9 3,so 9 2 57]
def l1:=(s (p r3) (s (i 9 .skip (x 0)) (s (b 1 (s (d r4 [9,10,11]) (s (d r5 (ra 12 7)) (s (d r6 (ra 19 7)) (d r7 (rl [5] 26 7)))))) (d r8 [33]))))
def c:=(s (p r0) (s (p r1) (s (s (d r2 [0]) (b 0 (w l1))) (s (d r9 (rl [6,7,8,9] 34 8)) (s (d B2 (ra 42 8)) (s (d B7 (ra 50 7)) (s (d q9 [3,57]) .ret)))))))
end K5
def K5:AFn:=⟨1,K5.c,[.cell 2 true 9],false⟩
namespace K3
def r0:=[bx 2 0,mv 4 (.c .nil),mv 5 (.c .nil)]
def r1:=[m 18 1,bi 19 .mul (k 2) 18,sb 20 19 k1,o 21 (.mk 21 3 56 z3 20 20),m 22 1,
 o 23 (.mk 23 3 56 z3 22 22),m 6 21,m 7 23]
def r2:=[fa 24 2 2,uu 25 1 24,m 8 25]
def r3:=[m 26 1,bi 27 .mul (k 2) 26,sb 28 27 k1,mv 29 k0]
def r4:=[ls 30 29 28]
def r5:=[m 31 29,m 9 31]
def r6:=[m 32 6,m 33 9,ca 34 96 [k0],ia 35 3 32 33,so 3 35 34]
def r7:=[m 36 8,ln 37 36,o 38 (.mk 38 3 56 z3 37 37),m 10 38]
def r8:=[m 39 8,ln 40 39,mv 41 k0]
def r9:=[ls 42 41 40]
def B2:=[m 43 41,ia 44 3 39 41,tt 45 3 44,al 12 z3,m 11 43,so 3 12 45]
def B7:=[m 46 6,m 47 9,m 48 6,m 49 9,ia 50 3 48 49,tt 51 3 50,tt 52 3 12,ca 53 98 [51,52],ia 54 3 46 47,
 so 3 54 53]
def q9:=[m 55 10,m 56 11,tt 57 3 12,fa 58 2 0,uu 59 1 58,m 60 11,ia 61 3 59 60,tt 62 3 61,
 ca 63 99 [57,62],ia 64 3 55 56,so 3 64 63]
def CG:=[ad 65 41 k1,m 41 65]
def y7:=[m 66 9,m 67 1,ls 68 66 67]
def ak:=[m 69 7,m 70 9,ca 71 96 [k0],ia 72 3 69 70,so 3 72 71]
def br:=[m 73 8,ln 74 73,mv 75 k0]
def D7:=[ls 76 75 74]
def bu:=[m 77 75,ia 78 3 73 75,tt 79 3 78,al 14 z3,m 13 77,so 3 14 79]
def dj:=[m 80 7,m 81 9,m 82 7,m 83 9,ia 84 3 82 83,tt 85 3 84,tt 86 3 14,fa 87 2 1,uu 88 1 87,m 89 13,
 ia 90 3 88 89,tt 91 3 90,ca 92 99 [86,91],ca 93 98 [85,92],ia 94 3 80 81,so 3 94 93]
def gn:=[ad 95 75 k1,m 75 95]
def kn:=[m 96 10,m 8 96]
def mo:=[ad 97 29 k1,m 29 97]
def rb:=[m 98 1,o 99 (.mk 99 1 24 [.nil] 98 98),m 15 99]
def JB:=[m 100 1,mv 101 k0]
def JC:=[ls 102 101 100]
def L7:=[m 103 101,m 16 103]
def L8:=[m 104 1,mv 105 k0]
def PB:=[ls 106 105 104]
def PC:=[m 107 105,m 17 107]
def vz:=[m 108 15,m 109 16,m 110 15,m 111 16,ia 112 1 110 111,q 113 [120] (.ld false 1 112),m 114 6,m 115 16,m 116 17,
 ad 117 115 116,ia 118 3 114 117,tt 119 3 118,o 120 (.b9 120 3 [119]),o 121 (.app 121 3 56 113 120),
 ia 122 1 108 109,so 1 122 121]
def wq:=[ad 123 105 k1,m 105 123]
def fY:=[ad 124 101 k1,m 101 124]
def fZ:=[m 125 15,m 126 7,m 4 125,m 5 126]
def l2:=(s (p r9) (s (i 42 .skip (x 2)) (s (b 3 (s (d B2 (ra 42 4)) (s (e B7 (ra 46 9)) (e q9 (rl [11,12] 55 10))))) (d CG [65]))))
def l3:=(s (p D7) (s (i 76 .skip (x 4)) (s (b 5 (s (d bu (ra 76 4)) (e dj (rl [13,14] 80 15)))) (d gn [95]))))
def l1:=(s (p r4) (s (i 30 .skip (x 0)) (s (b 1 (s (d r5 [30,31]) (s (d r6 (ra 32 4)) (s (d r7 [36,37,38]) (s (s (p r8) (b 2 (w l2))) (s (s (d y7 [39,40,41,42,66,67]) (i 68 (s (d ak (ra 68 5)) (s (d br [8]) (b 4 (w l3)))) .skip)) (d kn [9,10,68,73,74,75,76,96]))))))) (d mo [97]))))
def l5:=(s (p PB) (s (i 106 .skip (x 8)) (s (b 9 (s (d PC [106,107]) (e vz (rl [17] 108 15)))) (d wq [123]))))
def l4:=(s (p JC) (s (i 102 .skip (x 6)) (s (b 7 (s (d L7 [102,103]) (s (p L8) (b 8 (w l5))))) (d fY [16,104,105,106,124]))))
def c:=(s (d r0 [0,4,5]) (s (e r1 (ra 18 6)) (s (d r2 [24,25]) (s (s (d r3 [26,27]) (b 0 (w l1))) (s (d rb [2,8,28,29,30,98,99]) (s (s (p JB) (b 6 (w l4))) (s (d fZ [1,6,7,15,100,101,102,125,126]) .ret)))))))
end K3
def K3:AFn:=⟨2,K3.c,[.tmp 4,.tmp 5],false⟩
namespace G5
def r0:=[mv 4 (.c .nil),al 5 z3,mv 6 k0]
def r1:=[m 18 0,ca 19 261 [18],nt 20 19]
def r2:=[o 21 (.build z3 []),mv 4 (.c .nil),so 3 5 21,mv 6 (k 2)]
def r3:=[m 22 1,ls 23 22 k0,m 24 23,g 25 24 false (.n0 1),g 26 24 false (.bin .gtr 25 (k 51)),pk 27 24 kt 26]
def r4:=[o 28 (.build z3 []),mv 4 (.c .nil),so 3 5 28,mv 6 (k 12)]
def r5:=[m 29 0,ln 30 29,m 31 1,ad 32 31 k1,ls 33 30 32]
def r6:=[o 34 (.build z3 []),mv 4 (.c .nil),so 3 5 34,mv 6 (k 11)]
def r7:=[m 35 0,ca 36 264 [35],al 7 [.nil,.nil,.nil,(.bool false),.nil,.nil,(.bool false),.nil,.nil],so 9 7 36]
def r8:=[tt 38 9 7,m 39 1,ad 40 39 k1,ca 41 265 [38,40],m 37 41,et 42 37 0,et 43 37 1,m 8 42,m 9 43]
def r9:=[m 45 8,m 46 9,ca 47 237 [45,46],m 44 47,et 48 44 0,et 49 44 1,m 10 48,m 11 49]
def B2:=[m 50 11,bi 51 .neq 50 k0]
def B7:=[o 52 (.build z3 []),m 53 11,mv 4 (.c .nil),so 3 5 52,m 6 53]
def q9:=[m 54 1,ad 55 54 k1,o 56 (.mk 56 3 56 z3 55 55),m 12 56]
def CG:=[q 58 [13] (.call 96 [k1]),fa 59 7 6,q 60 [13] (.ld true 3 59),q 61 [13] (.call 100 [58,60]),m 57 61,
 et 62 57 0,et 63 57 1,al 13 z3,so 3 13 62,m 14 63]
def y7:=[m 64 1,ad 65 64 k1,mv 66 k0]
def ak:=[ls 67 66 65]
def br:=[m 68 66,m 15 68]
def D7:=[m 69 12,m 70 15,m 71 10,m 72 15,ia 73 3 71 72,tt 74 3 73,tt 75 3 13,ca 76 99 [74,75],ia 77 3 69 70,
 so 3 77 76]
def bu:=[tt 78 3 13,fa 79 7 3,tt 80 3 79,ca 81 99 [78,80],so 3 13 81]
def dj:=[ad 82 66 k1,m 66 82]
def gn:=[m 83 12,ca 84 170 [83],m 12 84]
def kn:=[m 86 0,m 87 12,ca 88 262 [86,87],m 85 88,et 89 85 0,et 90 85 1,al 16 z3,so 3 16 89,m 17 90]
def mo:=[m 91 12,tt 92 3 16,m 4 91,so 3 5 92,mv 6 k0]
def l1:=(s (p ak) (s (i 67 .skip (x 0)) (s (b 1 (s (d br [67,68]) (s (e D7 (rl [15] 69 9)) (d bu (ra 78 4))))) (d dj [82]))))
def c:=(s (d r0 [4,6]) (s (s (d r1 [18,19]) (i 20 (s (d r2 [0,1,20,21]) .ret) .skip)) (s (s (d r3 (rl [20] 22 5)) (i 27 (s (d r4 [0,1,27,28]) .ret) .skip)) (s (s (d r5 (rl [27] 29 4)) (i 33 (s (d r6 [0,1,33,34]) .ret) .skip)) (s (d r7 [33,35,36]) (s (d r8 (ra 37 7)) (s (d r9 (rl [8,9] 44 6)) (s (s (d B2 [50]) (i 51 (s (d B7 [0,1,7,10,11,51,52,53]) .ret) .skip)) (s (d q9 [11,51,54,55,56]) (s (e CG (rl [14] 57 7)) (s (s (d y7 [1,64]) (b 0 (w l1))) (s (d gn [7,10,13,65,66,67,83,84]) (s (d kn (rl [0,17] 85 6)) (s (e mo [12,16,91,92]) .ret))))))))))))))
end G5
def G5:AFn:=⟨2,G5.c,[.tmp 4,.cell 5 true 3,.tmp 6],false⟩
structure j8 (L:Lib):Prop extends o4 L,w8 L where
 I4:L 261=some F.I4
 I3:L 262=some F.I3
 K4:L 263=some F.K4
 K5:L 264=some F.K5
 K3:L 265=some F.K3
 G5:L 266=some F.G5
end Go.b8.F
namespace Go.b8.F
open C
namespace LE
def r0:=[mv 4 k0]
def r1:=[m 5 1,ls 6 5 k1]
def r2:=[mv 4 k0]
def r3:=[m 7 0,m 8 1,bi 9 .rem 7 8,m 0 9]
def r4:=[m 10 0,ls 11 10 k0]
def r5:=[m 12 0,m 13 1,ad 14 12 13,m 0 14]
def r6:=[m 15 0,m 4 15]
def c:=(s (d r0 [4]) (s (s (d r1 [5]) (i 6 (s (d r2 [0,1,6]) .ret) .skip)) (s (d r3 (ra 6 4)) (s (s (d r4 [10]) (i 11 (d r5 (rl [1] 11 4)) .skip)) (s (d r6 [0,1,11,15]) .ret)))))
end LE
def LE:AFn:=⟨2,LE.c,[.tmp 4],false⟩
namespace DC
def r0:=[mv 4 k0]
def r1:=[m 5 0,o 6 (.mn 5),fa 7 6 1,uu 8 1 7,m 9 0,o 10 (.mn 9),fa 11 10 0,uu 12 1 11,ln 13 12,
 bi 14 .geq 8 13]
def r2:=[mv 4 k0]
def r3:=[m 15 0,o 16 (.mn 15),fa 17 16 1,uu 18 1 17,ad 19 18 k1,o 20 (.mn 15),fa 21 20 1,so 1 21 19]
def r4:=[m 22 0,o 23 (.mn 22),fa 24 23 0,uu 25 1 24,m 26 0,o 27 (.mn 26),fa 28 27 1,uu 29 1 28,sb 30 29 k1,
 ia 31 1 25 30,uu 32 1 31,m 33 1,ca 34 224 [32,33],m 4 34]
def c:=(s (d r0 [4]) (s (s (e r1 (ra 5 9)) (i 14 (s (d r2 [0,1,14]) .ret) .skip)) (s (d r3 (ra 14 8)) (s (e r4 (rl [0,1] 22 13)) .ret))))
end DC
def DC:AFn:=⟨2,DC.c,[.tmp 4],false⟩
structure n9 (L:Lib):Prop extends e7 L where
 LE:L 224=some F.LE
 DC:L 225=some F.DC
end Go.b8.F

namespace Go.b8.F
open C
namespace LF
def r0:=[al 2 z3]
def r1:=[m 3 0,ca 4 224 [3,(k 25)],sb 5 4 (k 12),m 6 0,bi 7 .quo 6 (k 25),ca 8 224 [7,(k 8)],ad 9 k1 8,
 ca 10 125 [5,9],so 3 2 10]
def c:=(s (p r0) (s (d r1 (rl [0] 3 8)) .ret))
end LF
def LF:AFn:=⟨1,LF.c,[.cell 2 true 3],false⟩
namespace LD
def r0:=[mv 2 (.c .nil)]
def r1:=[m 7 0,o 8 (.build [.nil,z] [(0,1,7)]),o 9 (.box 255009 8),m 3 9]
def r2:=[ca 10 124 [(k (-1))],o 4 (.alloc 255004 z3),so 3 4 10]
def r3:=[o 5 (.v9 255005 9)]
def r4:=[m 11 3,o 12 (.x7 255009 225 [11,(k 12)]),ad 13 k1 12,m 6 13]
def r5:=[m 14 6,bi 15 .gtr 14 k0]
def r7:=[m 18 5,q 19 [255009,255009,255009] (.ld true 3 4),m 20 3,o 21 (.x7 255009 225 [20,(k 200)]),ca 22 252 [21],m 23 3,
 o 24 (.x7 255009 225 [23,(k 8)]),ad 25 k1 24,m 26 3,o 27 (.x7 255009 225 [26,(k 4)]),ad 28 k1 27,
 ca 29 125 [25,28],
 o 30 (.build [(.bool false),.nil,.nil,(.bool false),.nil,.nil,(.bool false),.nil,.nil] [(0,3,19),(3,3,22),(6,3,29)]),
 o 31 (.b9 255031 9 [30]),o 32 (.app 255032 9 168 18 31),m 5 32]
def r8:=[q 33 [255009] (.ld true 3 4),m 34 3,o 35 (.x7 255009 225 [34,(k 4)]),ad 36 k1 35,ca 37 125 [36,(k 12)],
 ca 38 126 [33,37],so 3 4 38]
def r6:=[m 16 6,sb 17 16 k1,m 6 17]
def r9:=[m 39 5,m 2 39]
def l1:=(s (s (d r5 [14]) (i 15 .skip (x 0))) (s (b 1 (s (e r7 (rl [15] 18 15)) (e r8 (ra 33 6)))) (d r6 [16,17])))
def c:=(s (d r0 [2]) (s (d r1 [0,7,8,9]) (s (d r2 [10]) (s (p r3) (s (s (d r4 [11,12,13]) (b 0 (w l1))) (s (d r9 [3,4,5,6,15,39]) .ret))))))
end LD
def LD:AFn:=⟨1,LD.c,[.tmp 2],false⟩
structure dw (L:Lib):Prop extends n9 L,v5 L where
 LF:L 252=some F.LF
 LD:L 255=some F.LD
end Go.b8.F

namespace Go.b8.F
open C
namespace NE
def r0:=[bx 3 1,al 4 z3]
def r1:=[ca 7 124 [k0],al 5 z3,so 3 5 7]
def r2:=[m 8 0,ln 9 8,sb 10 9 k1,m 6 10]
def r3:=[m 11 6,bi 12 .geq 11 k0]
def r5:=[tt 15 3 5,tt 16 3 3,ca 17 128 [15,16],m 18 0,m 19 6,ia 20 3 18 19,tt 21 3 20,ca 22 126 [17,21],
 so 3 5 22]
def r4:=[m 13 6,sb 14 13 k1,m 6 14]
def r6:=[tt 23 3 5,so 3 4 23]
def l1:=(s (s (d r3 [11]) (i 12 .skip (x 0))) (s (b 1 (e r5 (rl [12] 15 8))) (d r4 [13,14])))
def c:=(s (d r0 [1]) (s (d r1 [7]) (s (s (d r2 [8,9,10]) (b 0 (w l1))) (s (d r6 [0,3,5,6,12,23]) .ret))))
end NE
def NE:AFn:=⟨2,NE.c,[.cell 4 true 3],false⟩
namespace M7
def r0:=[bx 2 0,bx 3 1,mv 4 kf]
def r1:=[tt 5 3 2,tt 6 3 3,ca 7 127 [5,6],ls 8 7 k0,m 4 8]
def c:=(s (d r0 [0,1,4]) (s (d r1 [2,3,5,6,7,8]) .ret))
end M7
def M7:AFn:=⟨2,M7.c,[.tmp 4],false⟩
structure au (L:Lib):Prop extends z8 L where
 NE:L 267=some F.NE
 M7:L 268=some F.M7
end Go.b8.F

namespace Go.b8.F
open C
namespace K2
def r0:=[mv 0 kf]
def r1:=[ca 11 124 [k0],ca 12 124 [k0],ca 13 124 [k1],
 o 14 (.build [(.bool false),.nil,.nil,(.bool false),.nil,.nil,(.bool false),.nil,.nil] [(0,3,11),(3,3,12),(6,3,13)]),ca 15 124 [k1],
 ca 16 124 [(k 2)],ca 17 124 [k1],
 o 18 (.build [(.bool false),.nil,.nil,(.bool false),.nil,.nil,(.bool false),.nil,.nil] [(0,3,15),(3,3,16),(6,3,17)]),
 o 19 (.b9 19 9 [14,18]),m 1 19]
def r2:=[m 21 1,ca 22 266 [21,k0],m 20 22,et 23 20 0,et 24 20 1,et 25 20 2,al 3 z3,m 2 23,
 so 3 3 24,m 4 25]
def r3:=[m 27 1,ca 28 266 [27,k1],m 26 28,et 29 26 0,et 30 26 1,et 31 26 2,al 6 z3,m 5 29,
 so 3 6 30,m 7 31]
def r4:=[m 33 1,ca 34 266 [33,(k 2)],m 32 34,et 35 32 0,et 36 32 1,et 37 32 2,al 9 z3,m 8 35,
 so 3 9 36,m 10 37]
def r5:=[m 38 4,bi 39 .eql 38 k0,m 40 39,g 41 40 true (.n0 7),g 42 40 true (.bin .eql 41 k0),pk 43 40 42 kf,m 44 43,
 g 45 44 true (.n0 10),g 46 44 true (.bin .eql 45 (k 11)),pk 47 44 46 kf,m 48 47,g 49 48 true (.n0 2),
 g 50 48 true (.call 124 [k1]),g 51 48 true (.b9 51 3 [50]),g 52 48 true (.call 172 [49,51]),pk 53 48 52 kf,m 54 53,
 g 55 54 true (.ld true 3 3),g 56 54 true (.call 124 [(k 2)]),g 57 54 true (.call 158 [55,56]),pk 58 54 57 kf,m 59 58,
 g 60 59 true (.n0 5),g 61 59 true (.call 124 [k0]),g 62 59 true (.call 124 [(k 2)]),g 63 59 true (.b9 63 3 [61,62]),
 g 64 59 true (.call 172 [60,63]),pk 65 59 64 kf,m 66 65,g 67 66 true (.ld true 3 6),g 68 66 true (.call 124 [k0]),
 g 69 66 true (.call 158 [67,68]),pk 70 66 69 kf,m 71 70,g 72 71 true (.n0 1),g 73 71 true (.call 261 [72]),
 pk 74 71 73 kf,m 0 74]
def c:=(s (d r0 [0]) (s (d r1 (ra 11 9)) (s (d r2 (ra 20 6)) (s (d r3 (ra 26 6)) (s (d r4 (rl [8,9] 32 6)) (s (e r5 (rl [1,2,3,4,5,6,7,10] 38 37)) .ret))))))
end K2
def K2:AFn:=⟨0,K2.c,[.tmp 0],false⟩
structure ib (L:Lib):Prop extends j8 L,dw L,au L where
 K2:L 269=some F.K2
end Go.b8.F

namespace Go.b8.F
open C
namespace H4
def r0:=[mv 2 kf]
def r1:=[m 5 0,ln 6 5,ls 7 6 k1,m 8 7,g 9 8 false (.n0 0),g 10 8 false (.len 9),g 11 8 false (.bin .gtr 10 (k 52)),
 pk 12 8 kt 11,m 13 12,g 14 13 false (.n0 0),g 15 13 false (.q7 none 1 14 k0),g 16 13 false (.ld false 1 15),
 g 17 13 false (.len 16),g 18 13 false (.bin .lss 17 k1),pk 19 13 kt 18,m 20 19,g 21 20 false (.n0 0),
 g 22 20 false (.q7 none 1 21 k0),g 23 20 false (.ld false 1 22),g 24 20 false (.len 23),g 25 20 false (.bin .gtr 24 (k 52)),
 pk 26 20 kt 25]
def r2:=[mv 2 kf]
def r3:=[m 27 0,ln 28 27,mv 29 k0]
def r4:=[ls 30 29 28]
def r5:=[ia 31 1 27 29,uu 32 1 31,m 4 32]
def r6:=[m 33 4,ln 34 33,m 35 0,ia 36 1 35 k0,uu 37 1 36,ln 38 37,bi 39 .neq 34 38]
def r7:=[mv 2 kf]
def r8:=[ad 40 29 k1,m 29 40]
def r9:=[mv 2 kt]
def l1:=(s (p r4) (s (i 30 .skip (x 0)) (s (b 1 (s (d r5 [30,31,32]) (s (d r6 (rl [4] 33 6)) (i 39 (s (d r7 [0,27,28,29,39]) .ret) .skip)))) (d r8 [39,40]))))
def c:=(s (d r0 [2]) (s (s (d r1 (ra 5 21)) (i 26 (s (d r2 [0,26]) .ret) .skip)) (s (s (d r3 [26]) (b 0 (w l1))) (s (d r9 (rl [0] 27 4)) .ret))))
end H4
def H4:AFn:=⟨1,H4.c,[.tmp 2],false⟩
structure ea (L:Lib):Prop extends e7 L where
 H4:L 239=some F.H4
end Go.b8.F

namespace Go.b8.F
open C
namespace NA
def r0:=[bx 2 0,bx 3 1,al 4 z3]
def r1:=[tt 8 3 2,tt 9 3 3,ca 10 154 [8,9],m 7 10,et 11 7 0,et 12 7 1,al 5 z3,
 so 3 5 11,m 6 12]
def r2:=[m 13 6,bi 14 .neq 13 k0]
def r3:=[ca 15 124 [k0],so 3 4 15]
def r4:=[tt 16 3 5,so 3 4 16]
def c:=(s (d r0 [0,1]) (s (d r1 (rl [2,3] 7 6)) (s (s (d r2 [6,13]) (i 14 (s (d r3 [5,14,15]) .ret) .skip)) (s (d r4 [5,14,16]) .ret))))
end NA
def NA:AFn:=⟨2,NA.c,[.cell 4 true 3],false⟩
namespace NI
def r0:=[mv 2 (.c .nil)]
def r1:=[o 3 (.v9 277003 1)]
def r2:=[m 9 0,ln 10 9,mv 11 k0]
def r3:=[ls 12 11 10]
def r4:=[ia 13 1 9 11,uu 14 1 13,m 5 14]
def r5:=[o 6 (.v9 277006 3)]
def r6:=[m 15 5,ln 16 15,mv 17 k0]
def r7:=[ls 18 17 16]
def r8:=[ia 19 3 15 17,tt 20 3 19,o 8 (.alloc 277008 z3),so 3 8 20]
def r9:=[m 21 6,tt 22 3 8,ca 23 123 [22],o 24 (.b9 277024 3 [23]),o 25 (.app 277025 3 56 21 24),m 6 25]
def B2:=[ad 26 17 k1,m 17 26]
def B7:=[m 27 3,m 28 6,o 29 (.b9 277029 1 [28]),o 30 (.app 277030 1 24 27 29),m 3 30]
def q9:=[ad 31 11 k1,m 11 31]
def CG:=[m 32 3,m 2 32]
def l2:=(s (p r7) (s (i 18 .skip (x 2)) (s (b 3 (s (d r8 [18,19,20]) (d r9 (rl [8] 21 5)))) (d B2 [26]))))
def l1:=(s (p r3) (s (i 12 .skip (x 0)) (s (b 1 (s (d r4 [12,13,14]) (s (p r5) (s (s (d r6 [5]) (b 2 (w l2))) (d B7 (rl [6,15,16,17,18] 27 4)))))) (d q9 [31]))))
def c:=(s (d r0 [2]) (s (p r1) (s (s (d r2 [0]) (b 0 (w l1))) (s (d CG [3,9,10,11,12,32]) .ret))))
end NI
def NI:AFn:=⟨1,NI.c,[.tmp 2],false⟩
namespace GJ
def r0:=[mv 4 k0,o 5 (.alloc 901005 z3)]
def r1:=[ca 15 124 [k1],o 7 (.alloc 901007 z3),mv 6 k0,so 3 7 15]
def r2:=[mv 8 k0]
def r3:=[m 16 8,m 17 1,ls 18 16 17,m 19 18,g 20 19 true (.n0 6),g 21 19 true (.n0 0),g 22 19 true (.len 21),g 23 19 true (.bin .lss 20 22),
 pk 24 19 23 kf]
def r5:=[m 27 6,m 9 27]
def r6:=[m 28 9,m 29 0,ln 30 29,ls 31 28 30,m 32 31,g 33 32 true (.n0 0),g 34 32 true (.n0 9),g 35 32 true (.q7 none 1 33 34),
 g 36 32 true (.ld false 1 35),g 37 32 true (.n0 8),g 38 32 true (.q7 none 3 36 37),g 39 32 true (.ld true 3 38),g 40 32 true (.call 155 [39]),
 g 41 32 true (.bin .eql 40 k0),pk 42 32 41 kf]
def r7:=[m 43 9,ad 44 43 k1,m 9 44]
def r8:=[m 45 9,m 46 0,ln 47 46,bi 48 .eql 45 47]
def r9:=[m 49 9,m 50 6,bi 51 .neq 49 50]
def B2:=[m 52 0,m 53 9,m 54 0,m 55 6,m 56 0,m 57 6,ia 58 1 56 57,uu 59 1 58,m 60 0,m 61 9,ia 62 1 60 61,
 uu 63 1 62,ia 64 1 52 53,so 1 64 59,ia 65 1 54 55,so 1 65 63]
def B7:=[tt 66 3 7,ca 67 152 [66],so 3 7 67]
def q9:=[m 68 0,m 69 6,ia 70 1 68 69,uu 71 1 70,m 72 8,ia 73 3 71 72,tt 74 3 73,
 o 10 (.alloc 901010 z3),so 3 10 74]
def CG:=[tt 75 3 7,tt 76 3 10,ca 77 128 [75,76],so 3 7 77]
def y7:=[m 78 0,m 79 6,ia 80 1 78 79,uu 81 1 80,ln 82 81,mv 83 k0]
def ak:=[ls 84 83 82]
def br:=[m 85 83,m 11 85]
def D7:=[m 86 0,m 87 6,ia 88 1 86 87,uu 89 1 88,m 90 11,m 91 0,m 92 6,ia 93 1 91 92,uu 94 1 93,m 95 11,
 ia 96 3 94 95,tt 97 3 96,tt 98 3 10,ca 99 276 [97,98],ia 100 3 89 90,so 3 100 99]
def bu:=[ad 101 83 k1,m 83 101]
def dj:=[m 102 0,ln 103 102,mv 104 k0]
def gn:=[ls 105 104 103]
def kn:=[m 106 104,m 12 106]
def mo:=[m 107 0,m 108 12,ia 109 1 107 108,uu 110 1 109,m 111 8,ia 112 3 110 111,tt 113 3 112,
 o 13 (.alloc 901013 z3),so 3 13 113]
def rb:=[m 114 12,m 115 6,bi 116 .eql 114 115,m 117 116,g 118 117 false (.ld true 3 13),g 119 117 false (.call 155 [118]),
 g 120 117 false (.bin .eql 119 k0),pk 121 117 kt 120]
def JB:=[m 122 0,m 123 12,ia 124 1 122 123,uu 125 1 124,ln 126 125,mv 127 k0]
def JC:=[ls 128 127 126]
def L7:=[m 129 127,m 14 129]
def L8:=[m 130 0,m 131 12,ia 132 1 130 131,uu 133 1 132,m 134 14,m 135 0,m 136 12,ia 137 1 135 136,uu 138 1 137,
 m 139 14,ia 140 3 138 139,tt 141 3 140,tt 142 3 13,m 143 0,m 144 6,ia 145 1 143 144,uu 146 1 145,
 m 147 14,ia 148 3 146 147,tt 149 3 148,ca 150 128 [142,149],ca 151 153 [141,150],ia 152 3 133 134,
 so 3 152 151]
def PB:=[ad 153 127 k1,m 127 153]
def PC:=[ad 154 104 k1,m 104 154]
def vz:=[m 155 6,ad 156 155 k1,m 6 156]
def r4:=[m 25 8,ad 26 25 k1,m 8 26]
def wq:=[m 157 6,tt 158 3 7,m 4 157,so 3 5 158]
def l2:=(s (s (d r6 (ra 28 14)) (i 42 .skip (x 2))) (b 3 (d r7 [42,43,44])))
def l3:=(s (p ak) (s (i 84 .skip (x 4)) (s (b 5 (s (d br [84,85]) (e D7 (rl [11] 86 15)))) (d bu [101]))))
def l5:=(s (p JC) (s (i 128 .skip (x 8)) (s (b 9 (s (d L7 [128,129]) (e L8 (rl [14] 130 23)))) (d PB [153]))))
def l4:=(s (p gn) (s (i 105 .skip (x 6)) (s (b 7 (s (d kn [105,106]) (s (d mo (ra 107 7)) (s (s (d rb (ra 114 7)) (i 121 (x 7) .skip)) (s (d JB (ra 121 5)) (b 8 (w l5))))))) (d PC [12,13,121,126,127,128,154]))))
def l1:=(s (s (d r3 (ra 16 8)) (i 24 .skip (x 0))) (s (b 1 (s (d r5 [24,27]) (s (b 2 (w l2)) (s (s (d r8 [42,45,46,47]) (i 48 (x 1) .skip)) (s (s (d r9 [48,49,50]) (i 51 (s (e B2 (rl [9] 51 15)) (d B7 [66,67])) .skip)) (s (d q9 (rl [9,51] 68 7)) (s (d CG [75,76,77]) (s (s (d y7 (ra 78 4)) (b 4 (w l3))) (s (s (d dj [10,82,83,84,102]) (b 6 (w l4))) (d vz [103,104,105,155,156])))))))))) (d r4 [9,25,26,48])))
def c:=(s (d r0 [4]) (s (d r1 [15]) (s (s (p r2) (b 0 (w l1))) (s (e wq [0,1,6,7,8,24,157,158]) .ret))))
end GJ
def GJ:AFn:=⟨2,GJ.c,[.tmp 4,.cell 5 true 3],false⟩
namespace NH
def r0:=[mv 4 (.c .nil),mv 5 k0]
def r1:=[m 15 0,o 16 (.c9 277 [15]),m 6 16]
def r2:=[m 17 6,ln 18 17,mv 19 k0]
def r3:=[ls 20 19 18]
def r4:=[m 21 19,m 7 21]
def r5:=[m 22 6,m 23 7,m 24 6,m 25 7,ia 26 1 24 25,uu 27 1 26,m 28 1,m 29 7,ia 30 1 28 29,uu 31 1 30,
 o 32 (.app 32 3 56 27 31),ia 33 1 22 23,so 1 33 32]
def r6:=[ad 34 19 k1,m 19 34]
def r7:=[m 36 6,m 37 0,ln 38 37,o 39 (.c9 901 [36,38]),m 35 39,et 40 35 0,et 41 35 1,al 9 z3,m 8 40,
 so 3 9 41]
def r8:=[m 42 8,m 43 0,ln 44 43,ls 45 42 44]
def r9:=[mv 4 (.c .nil),mv 5 (k 11)]
def B2:=[o 10 (.v9 10 1)]
def B7:=[m 46 6,ln 47 46,mv 48 k0]
def q9:=[ls 49 48 47]
def CG:=[m 50 48,m 11 50]
def y7:=[o 12 (.v9 12 3)]
def ak:=[m 51 6,m 52 11,ia 53 1 51 52,uu 54 1 53,m 55 0,ln 56 55,o 57 (.fk 3 54 (some 56) none),ln 58 57,mv 59 k0]
def br:=[ls 60 59 58]
def D7:=[ia 61 3 57 59,tt 62 3 61,al 14 z3,so 3 14 62]
def bu:=[m 63 12,tt 64 3 14,ca 65 123 [64],o 66 (.b9 66 3 [65]),o 67 (.app 67 3 56 63 66),m 12 67]
def dj:=[ad 68 59 k1,m 59 68]
def gn:=[m 69 10,m 70 12,o 71 (.b9 71 1 [70]),o 72 (.app 72 1 24 69 71),m 10 72]
def kn:=[ad 73 48 k1,m 48 73]
def mo:=[m 74 10,m 4 74,mv 5 k0]
def l1:=(s (p r3) (s (i 20 .skip (x 0)) (s (b 1 (s (d r4 [20,21]) (e r5 (rl [7] 22 12)))) (d r6 [34]))))
def l3:=(s (p br) (s (i 60 .skip (x 4)) (s (b 5 (s (d D7 [60,61,62]) (d bu (rl [14] 63 5)))) (d dj [68]))))
def l2:=(s (p q9) (s (i 49 .skip (x 2)) (s (b 3 (s (d CG [49,50]) (s (p y7) (s (s (d ak (rl [11] 51 6)) (b 4 (w l3))) (d gn (rl [12,57,58,59,60] 69 4)))))) (d kn [73]))))
def c:=(s (d r0 [4,5]) (s (d r1 [15,16]) (s (s (d r2 [17]) (b 0 (w l1))) (s (s (d r7 (rl [1,9,18,19,20] 35 7)) (s (d r8 [8,42,43,44]) (i 45 (s (d r9 [0,6,45]) .ret) .skip))) (s (d B2 [45]) (s (s (d B7 [46]) (b 2 (w l2))) (s (d mo [0,6,10,47,48,49,74]) .ret)))))))
end NH
def NH:AFn:=⟨2,NH.c,[.tmp 4,.tmp 5],false⟩
structure w7 (L:Lib):Prop extends ea L where
 NA:L 276=some F.NA
 NI:L 277=some F.NI
 GJ:L 901=some F.GJ
 NH:L 278=some F.NH
end Go.b8.F

namespace Go.b8.F
open C
namespace NG
def r0:=[mv 4 (.c .nil),mv 5 k0]
def r1:=[m 15 0,ca 16 239 [15],nt 17 16,m 14 17]
def r2:=[mv 4 (.c .nil),mv 5 (k 2)]
def r3:=[m 19 0,ln 20 19,m 21 0,ia 22 1 21 k0,uu 23 1 22,ln 24 23,bi 25 .neq 20 24,m 26 25,g 27 26 false (.n0 1),
 g 28 26 false (.len 27),g 29 26 false (.n0 0),g 30 26 false (.len 29),g 31 26 false (.bin .neq 28 30),pk 32 26 kt 31,m 18 32]
def r4:=[mv 4 (.c .nil),mv 5 k1]
def r5:=[o 6 (.v9 6 1)]
def r6:=[m 33 1,ln 34 33,mv 35 k0]
def r7:=[ls 36 35 34]
def r8:=[ia 37 3 33 35,tt 38 3 37,al 8 z3,so 3 8 38]
def r9:=[m 39 6,tt 40 3 8,o 41 (.b9 41 3 [40]),o 42 (.b9 42 1 [41]),o 43 (.app 43 1 24 39 42),m 6 43]
def B2:=[ad 44 35 k1,m 35 44]
def B7:=[m 46 0,m 47 6,ca 48 278 [46,47],m 45 48,et 49 45 0,et 50 45 1,m 9 49,m 10 50]
def q9:=[o 11 (.v9 11 3)]
def CG:=[m 51 9,ln 52 51,mv 53 k0]
def y7:=[ls 54 53 52]
def ak:=[ia 55 1 51 53,uu 56 1 55,m 13 56]
def br:=[m 57 11,m 58 13,ia 59 3 58 k0,tt 60 3 59,o 61 (.b9 61 3 [60]),o 62 (.app 62 3 56 57 61),m 11 62]
def D7:=[ad 63 53 k1,m 53 63]
def bu:=[m 64 11,m 65 10,m 4 64,m 5 65]
def l1:=(s (p r7) (s (i 36 .skip (x 1)) (s (b 2 (s (d r8 [36,37,38]) (d r9 (rl [8] 39 5)))) (d B2 [44]))))
def l2:=(s (p y7) (s (i 54 .skip (x 3)) (s (b 4 (s (d ak [54,55,56]) (d br (rl [13] 57 6)))) (d D7 [63]))))
def c:=(s (d r0 [4,5]) (s (b 0 (s (d r1 [15,16,17]) (i 14 (s (d r2 [0,1,14]) .ret) (s (d r3 (rl [14] 19 14)) (i 18 (s (d r4 [0,1,18]) .ret) .skip))))) (s (d r5 [18]) (s (s (d r6 [1]) (b 1 (w l1))) (s (d B7 (rl [0,6,33,34,35,36] 45 6)) (s (p q9) (s (s (d CG [9]) (b 3 (w l2))) (s (d bu [10,11,51,52,53,54,64,65]) .ret))))))))
end NG
def NG:AFn:=⟨2,NG.c,[.tmp 4,.tmp 5],false⟩
structure kp (L:Lib):Prop extends w7 L where
 NG:L 327=some F.NG
end Go.b8.F

namespace Go.b8.F
open C
namespace NJ
def r0:=[mv 2 kf]
def r1:=[m 5 0,ln 6 5,ls 7 6 k1,m 8 7,g 9 8 false (.n0 0),g 10 8 false (.len 9),g 11 8 false (.bin .gtr 10 (k 200)),
 pk 12 8 kt 11]
def r2:=[mv 2 kf]
def r3:=[m 13 0,ln 14 13,mv 15 k0]
def r4:=[ls 16 15 14]
def r5:=[m 17 15,ia 18 9 13 15,tt 19 9 18,al 4 [(.bool false),.nil,.nil,(.bool false),.nil,.nil,(.bool false),.nil,.nil],
 m 3 17,so 9 4 19]
def r6:=[fa 20 4 6,tt 21 3 20,ca 22 155 [21],bi 23 .leq 22 k0,m 24 23,g 25 24 false (.n0 3),g 26 24 false (.bin .gtr 25 k0),
 g 27 24 false (.n0 26),g 28 27 true (.n0 0),g 29 27 true (.n0 3),g 30 27 true (.bin .sub 29 k1),g 31 27 true (.q7 none 9 28 30),
 g 32 27 true (.u6 31 0),g 33 27 true (.ld true 3 32),g 34 27 true (.u6 4 0),g 35 27 true (.ld true 3 34),g 36 27 true (.call 268 [33,35]),
 g 37 27 true (.un .not 36),g 38 24 false (.pick 27 37 kf),pk 39 24 kt 38]
def r7:=[mv 2 kf]
def r8:=[ad 40 15 k1,m 15 40]
def r9:=[mv 2 kt]
def l1:=(s (p r4) (s (i 16 .skip (x 0)) (s (b 1 (s (d r5 (ra 16 4)) (s (e r6 (rl [3,4] 20 19)) (i 39 (s (d r7 [0,13,14,15,39]) .ret) .skip)))) (d r8 [39,40]))))
def c:=(s (d r0 [2]) (s (s (d r1 (ra 5 7)) (i 12 (s (d r2 [0,12]) .ret) .skip)) (s (s (d r3 [12]) (b 0 (w l1))) (s (d r9 (rl [0] 13 4)) .ret))))
end NJ
def NJ:AFn:=⟨1,NJ.c,[.tmp 2],false⟩
namespace NK
def r0:=[al 4 z3]
def r1:=[ca 9 124 [k0],al 5 z3,so 3 5 9]
def r2:=[m 10 0,ln 11 10,mv 12 k0]
def r3:=[ls 13 12 11]
def r4:=[ia 14 9 10 12,tt 15 9 14,al 7 [(.bool false),.nil,.nil,(.bool false),.nil,.nil,(.bool false),.nil,.nil],
 so 9 7 15]
def r5:=[m 16 1,fa 17 7 0,q 18 [8] (.ld true 3 17),q 19 [8] (.call 267 [16,18]),fa 20 7 3,q 21 [8] (.ld true 3 20),
 q 22 [8] (.call 153 [19,21]),al 8 z3,so 3 8 22]
def r6:=[tt 23 3 5,fa 24 7 6,tt 25 3 24,tt 26 3 8,tt 27 3 8,ca 28 128 [26,27],ca 29 128 [25,28],
 ca 30 126 [23,29],so 3 5 30]
def r7:=[ad 31 12 k1,m 12 31]
def r8:=[tt 32 3 5,so 3 4 32]
def l1:=(s (p r3) (s (i 13 .skip (x 0)) (s (b 1 (s (d r4 [13,14,15]) (s (e r5 (ra 16 7)) (e r6 (rl [7,8] 23 8))))) (d r7 [31]))))
def c:=(s (p r0) (s (d r1 [9]) (s (s (d r2 [0]) (b 0 (w l1))) (s (d r8 [1,5,10,11,12,13,32]) .ret))))
end NK
def NK:AFn:=⟨2,NK.c,[.cell 4 true 3],false⟩
namespace JN
def r0:=[al 4 z3,mv 5 k0]
def r1:=[m 6 0,ca 7 412 [6],nt 8 7]
def r2:=[o 9 (.build z3 []),so 3 4 9,mv 5 (k 2)]
def r3:=[m 10 0,m 11 1,ca 12 413 [10,11],so 3 4 12,mv 5 k0]
def c:=(s (d r0 [5]) (s (s (d r1 [6,7]) (i 8 (s (d r2 [0,1,8,9]) .ret) .skip)) (s (d r3 [0,1,8,10,11,12]) .ret)))
end JN
def JN:AFn:=⟨2,JN.c,[.cell 4 true 3,.tmp 5],false⟩
namespace G8
def r0:=[mv 4 (.c .nil),al 5 z3,mv 6 k0]
def r1:=[m 19 0,ca 20 412 [19],nt 21 20,m 18 21]
def r2:=[o 22 (.build z3 []),mv 4 (.c .nil),so 3 5 22,mv 6 (k 2)]
def r3:=[m 24 1,ls 25 24 k0,m 26 25,g 27 26 false (.n0 1),g 28 26 false (.bin .gtr 27 (k 51)),pk 29 26 kt 28,m 23 29]
def r4:=[o 30 (.build z3 []),mv 4 (.c .nil),so 3 5 30,mv 6 (k 12)]
def r5:=[m 32 0,ln 33 32,m 34 1,ad 35 34 k1,ls 36 33 35,m 31 36]
def r6:=[o 37 (.build z3 []),mv 4 (.c .nil),so 3 5 37,mv 6 (k 11)]
def r7:=[m 38 1,bi 39 .mul (k 2) 38,ad 40 39 k1,o 41 (.mk 41 3 56 z3 40 40),m 7 41]
def r8:=[m 42 1,ad 43 42 k1,o 44 (.mk 44 3 56 z3 43 43),m 8 44]
def r9:=[m 45 0,ln 46 45,mv 47 k0]
def B2:=[ls 48 47 46]
def B7:=[ia 49 9 45 47,tt 50 9 49,al 10 [(.bool false),.nil,.nil,(.bool false),.nil,.nil,(.bool false),.nil,.nil],
 so 9 10 50]
def q9:=[fa 51 10 6,tt 52 3 51,al 11 z3,so 3 11 52]
def CG:=[m 53 7,ln 54 53,mv 55 k0]
def y7:=[ls 56 55 54]
def ak:=[m 57 55,m 12 57]
def br:=[m 58 7,m 59 12,m 60 7,m 61 12,ia 62 3 60 61,tt 63 3 62,tt 64 3 11,ca 65 126 [63,64],ia 66 3 58 59,
 so 3 66 65]
def D7:=[m 67 12,m 68 1,bi 69 .leq 67 68]
def bu:=[m 70 8,m 71 12,m 72 8,m 73 12,ia 74 3 72 73,tt 75 3 74,tt 76 3 11,fa 77 10 3,tt 78 3 77,
 ca 79 128 [76,78],ca 80 126 [75,79],ia 81 3 70 71,so 3 81 80]
def dj:=[tt 82 3 11,fa 83 10 0,tt 84 3 83,ca 85 128 [82,84],so 3 11 85]
def gn:=[ad 86 55 k1,m 55 86]
def kn:=[ad 87 47 k1,m 47 87]
def mo:=[o 13 (.v9 13 1)]
def rb:=[mv 14 k0]
def JB:=[m 88 14,m 89 1,bi 90 .leq 88 89]
def L7:=[m 93 13,m 94 7,m 95 14,m 96 14,m 97 1,ad 98 96 97,ad 99 98 k1,o 100 (.fk 3 94 (some 95) (some 99)),
 o 101 (.app 101 3 56 (.c .nil) 100),o 102 (.b9 102 1 [101]),o 103 (.app 103 1 24 93 102),m 13 103]
def JC:=[m 91 14,ad 92 91 k1,m 14 92]
def L8:=[m 105 13,m 106 8,ca 107 327 [105,106],m 104 107,et 108 104 0,et 109 104 1,m 15 108,m 16 109]
def PB:=[m 110 16,bi 111 .neq 110 k0]
def PC:=[o 112 (.build z3 []),m 113 16,mv 4 (.c .nil),so 3 5 112,m 6 113]
def vz:=[m 114 15,ca 115 171 [114],m 17 115]
def wq:=[m 116 17,m 117 0,m 118 17,ca 119 413 [117,118],m 4 116,so 3 5 119,mv 6 k0]
def l2:=(s (p y7) (s (i 56 .skip (x 3)) (s (b 4 (s (d ak [56,57]) (s (e br (ra 58 9)) (s (s (d D7 [67,68]) (i 69 (e bu (rl [12] 69 13)) .skip)) (d dj (rl [12,69] 82 4)))))) (d gn [86]))))
def l1:=(s (p B2) (s (i 48 .skip (x 1)) (s (b 2 (s (d B7 [48,49,50]) (s (d q9 [51,52]) (s (d CG [53]) (b 3 (w l2)))))) (d kn [10,11,54,55,56,87]))))
def l3:=(s (s (d JB [88,89]) (i 90 .skip (x 5))) (s (b 6 (d L7 (rl [90] 93 11))) (d JC [91,92])))
def c:=(s (d r0 [4,6]) (s (b 0 (s (d r1 [19,20,21]) (i 18 (s (d r2 [0,1,18,22]) .ret) (s (d r3 (rl [18] 24 6)) (i 23 (s (d r4 [0,1,23,30]) .ret) (s (d r5 (rl [23] 32 5)) (i 31 (s (d r6 [0,1,31,37]) .ret) .skip))))))) (s (d r7 (rl [31] 38 4)) (s (d r8 [42,43,44]) (s (s (p r9) (b 1 (w l1))) (s (d mo (ra 45 4)) (s (s (p rb) (b 5 (w l3))) (s (d L8 (rl [1,7,8,13,14,90] 104 6)) (s (s (d PB [110]) (i 111 (s (d PC [0,15,16,111,112,113]) .ret) .skip)) (s (d vz [15,16,111,114,115]) (s (d wq (rl [0,17] 116 4)) .ret)))))))))))
end G8
def G8:AFn:=⟨2,G8.c,[.tmp 4,.cell 5 true 3,.tmp 6],false⟩
structure q8 (L:Lib):Prop extends kp L,au L where
 NJ:L 412=some F.NJ
 NK:L 413=some F.NK
 JN:L 414=some F.JN
 G8:L 415=some F.G8
end Go.b8.F

namespace Go.b8.F
open C
namespace I6
def r0:=[mv 2 kf]
def r1:=[m 5 0,ln 6 5,bi 7 .gtr 6 (k 8)]
def r2:=[mv 2 kf]
def r3:=[m 8 0,ln 9 8,mv 10 k0]
def r4:=[ls 11 10 9]
def r5:=[ia 12 3 8 10,tt 13 3 12,al 4 z3,so 3 4 13]
def r6:=[fa 14 4 0,fa 15 14 1,uu 16 1 15,ln 17 16,bi 18 .gtr 17 (k 2),m 19 18,g 20 19 false (.u6 4 2),
 g 21 19 false (.ld false 1 20),g 22 19 false (.len 21),g 23 19 false (.bin .gtr 22 (k 2)),pk 24 19 kt 23]
def r7:=[mv 2 kf]
def r8:=[ad 25 10 k1,m 10 25]
def r9:=[mv 2 kt]
def l1:=(s (p r4) (s (i 11 .skip (x 0)) (s (b 1 (s (d r5 [11,12,13]) (s (d r6 (rl [4] 14 10)) (i 24 (s (d r7 [8,9,10,24]) .ret) .skip)))) (d r8 [24,25]))))
def c:=(s (d r0 [2]) (s (s (d r1 [5,6]) (i 7 (s (d r2 [0,7]) .ret) .skip)) (s (s (d r3 [0,7]) (b 0 (w l1))) (s (d r9 (ra 8 4)) .ret))))
end I6
def I6:AFn:=⟨1,I6.c,[.tmp 2],false⟩
structure eb (L:Lib):Prop extends a5 L where
 I6:L 408=some F.I6
end Go.b8.F

namespace Go.b8.F
open C
namespace I2
def r0:=[mv 2 kf]
def r1:=[m 5 0,ln 6 5,bi 7 .gtr 6 (k 10)]
def r2:=[mv 2 kf]
def r3:=[m 8 0,ln 9 8,mv 10 k0]
def r4:=[ls 11 10 9]
def r5:=[ia 12 9 8 10,tt 13 9 12,al 4 [(.bool false),.nil,.nil,(.bool false),.nil,.nil,(.bool false),.nil,.nil],
 so 9 4 13]
def r6:=[fa 14 4 0,tt 15 3 14,fa 16 4 3,tt 17 3 16,fa 18 4 6,tt 19 3 18,o 20 (.b9 20 3 [15,17,19]),
 ca 21 408 [20],nt 22 21]
def r7:=[mv 2 kf]
def r8:=[ad 23 10 k1,m 10 23]
def r9:=[mv 2 kt]
def l1:=(s (p r4) (s (i 11 .skip (x 0)) (s (b 1 (s (d r5 [11,12,13]) (s (d r6 (rl [4] 14 8)) (i 22 (s (d r7 [8,9,10,22]) .ret) .skip)))) (d r8 [22,23]))))
def c:=(s (d r0 [2]) (s (s (d r1 [5,6]) (i 7 (s (d r2 [0,7]) .ret) .skip)) (s (s (d r3 [0,7]) (b 0 (w l1))) (s (d r9 (ra 8 4)) .ret))))
end I2
def I2:AFn:=⟨1,I2.c,[.tmp 2],false⟩
namespace HU
def r0:=[mv 8 kf]
def r1:=[m 23 0,ca 24 416 [23],nt 25 24,m 26 25,g 27 26 false (.n0 1),g 28 26 false (.call 408 [27]),g 29 26 false (.un .not 28),
 pk 30 26 kt 29]
def r2:=[ca 31 269 [],m 8 31]
def r3:=[m 32 0,m 33 3,ca 34 255 [33],o 35 (.b9 35 1 [32,34]),ln 36 35,mv 37 k0]
def r4:=[ls 38 37 36]
def r5:=[ia 39 1 35 37,uu 40 1 39,m 10 40]
def r6:=[m 42 10,m 43 1,ca 44 262 [42,43],m 41 44,et 45 41 0,et 46 41 1,al 11 z3,so 3 11 45,m 12 46]
def r7:=[m 48 10,m 49 1,ca 50 414 [48,49],m 47 50,et 51 47 0,et 52 47 1,al 13 z3,so 3 13 51,m 14 52]
def r8:=[m 53 12,m 54 14,bi 55 .neq 53 54,m 56 55,g 57 56 false (.ld true 3 11),g 58 56 false (.ld true 3 13),g 59 56 false (.call 158 [57,58]),
 g 60 56 false (.un .not 59),pk 61 56 kt 60,m 62 61,g 63 62 false (.n0 10),g 64 62 false (.call 261 [63]),g 65 62 false (.n0 10),
 g 66 62 false (.call 412 [65]),g 67 62 false (.beq true 64 66),pk 68 62 kt 67]
def r9:=[mv 8 kf]
def B2:=[m 69 2,ca 70 224 [69,(k 6)],o 71 (.b9 71 1 [70,(k (-1)),(k 52)]),ln 72 71,mv 73 k0]
def B7:=[ls 74 73 72]
def q9:=[ia 75 1 71 73,uu 76 1 75,m 16 76]
def CG:=[m 78 10,m 79 16,ca 80 266 [78,79],m 77 80,et 81 77 0,et 82 77 1,et 83 77 2,al 18 z3,
 m 17 81,so 3 18 82,m 19 83]
def y7:=[m 85 10,m 86 16,ca 87 415 [85,86],m 84 87,et 88 84 0,et 89 84 1,et 90 84 2,al 21 z3,
 m 20 88,so 3 21 89,m 22 90]
def ak:=[m 91 19,m 92 22,bi 93 .neq 91 92,m 94 93,g 95 94 false (.n0 17),g 96 94 false (.n0 20),g 97 94 false (.call 172 [95,96]),
 g 98 94 false (.un .not 97),pk 99 94 kt 98,m 100 99,g 101 100 false (.ld true 3 18),g 102 100 false (.ld true 3 21),
 g 103 100 false (.call 158 [101,102]),g 104 100 false (.un .not 103),pk 105 100 kt 104]
def br:=[mv 8 kf]
def D7:=[ad 106 73 k1,m 73 106]
def bu:=[ad 107 37 k1,m 37 107]
def dj:=[ca 108 269 [],m 8 108]
def l2:=(s (p B7) (s (i 74 .skip (x 2)) (s (b 3 (s (d q9 [74,75,76]) (s (d CG (ra 77 7)) (s (d y7 (rl [16] 84 7)) (s (d ak (rl [17,18,19,20,21,22] 91 14)) (i 105 (s (d br [1,2,10,35,36,37,71,72,73,105]) .ret) .skip)))))) (d D7 [105,106]))))
def l1:=(s (p r4) (s (i 38 .skip (x 0)) (s (b 1 (s (d r5 [38,39,40]) (s (d r6 (ra 41 6)) (s (d r7 (ra 47 6)) (s (s (d r8 (rl [11,12,13,14] 53 15)) (i 68 (s (d r9 [1,2,10,35,36,37,68]) .ret) .skip)) (s (d B2 [68,69,70]) (b 2 (w l2)))))))) (d bu [10,71,72,73,74,107]))))
def c:=(s (d r0 [8]) (s (s (d r1 (ra 23 7)) (i 30 (s (d r2 [0,1,2,3,30,31]) .ret) .skip)) (s (s (d r3 [0,3,30,32,33,34]) (b 0 (w l1))) (s (d dj [1,2,35,36,37,38,108]) .ret))))
end HU
def HU:AFn:=⟨4,HU.c,[.tmp 8],false⟩
structure mw (L:Lib):Prop extends ib L,q8 L,eb L where
 I2:L 416=some F.I2
 HU:L 417=some F.HU
end Go.b8.F

namespace Go.b8
def X3:Value->AV->Bool
 | .int k n,.int k' n'=>k == k'&&n == n'
 | .bool b,.bool b'=>b == b'
 | .slice none 0 0,.nil=>true
 | .string s,.bj (.string s')=>s.data.toList == s'.data.toList
 | .nilFunc,.bj .nilFunc=>true
 | _,_=>false
def OZ:List Value->List AV->Bool
 | [],[]=>true
 | v::r,a::l=>X3 v a&&OZ r l
 | _,_=>false
def cF:Value->AV->Bool
 | .agg cs,.agg l=>OZ cs.toList l
 | v,a=>X3 v a
def BZ:Operand->AP->Bool
 | .tmp t,.t n=>t == n
 | .const v,.c a=>cF v a
 | .func g,.c (.fn _ _ g' [])=>g == g'
 | _,_=>false
def D5:List Operand->List AP->Bool
 | [],[]=>true
 | v::r,a::l=>BZ v a&&D5 r l
 | _,_=>false
def OA:Option Operand->Option AP->Bool
 | none,none=>true
 | some x,some y=>BZ x y
 | _,_=>false
section
variable (P:Program)
def SI (t:TypeId):Option Bool :=
 match P.underlying t with
 | some (.struct _)=>some true
 | some (.array _ _)=>some true
 | some _=>some false
 | none=>none
def IP (t:TypeId) (n:Nat):Bool:=match P.info? t with|some i=>i.size == n|none=>false
def UG (t:TypeId) (n:Nat):Bool:=match P.info? t with|some i=>i.bytes == n|none=>false
def R9 (t:TypeId) (l:List AV):Bool:=match P.info? t with|some i=>(match i.zero with|some z=>OZ z.cells.toList l|none=>false)|none=>false
def JP (t:TypeId) (f:TypeId->Bool):Bool:=match P.underlying t with|some (.slice e)=>f e|_=>false
def pE (t:TypeId) (i off n:Nat):Bool:=match P.underlying t with
 | some (.struct fs)=>(match fs[i]? with|some f=>f.offset == off&&IP P f.type n&&n != 0|none=>false)
 | _=>false
def pF (t:TypeId) (i:Nat) (agg:Bool):Bool:=match P.underlying t with
 | some (.struct fs)=>(match fs[i]? with|some f=>SI P f.type == some agg|none=>false)
 | _=>false
def RM (place:Nat->Option (Nat × Nat)):List (Nat × Operand)->List (Nat × Nat × AP)->Bool
 | [],[]=>true
 | (i,x)::r,(off,n,y)::l=>place i == some (off,n)&&BZ x y&&RM place r l
 | _,_=>false
def aV (t:TypeId) (ps:List (Nat × Operand)) (dh:List (Nat × Nat × AP)):Bool:=match P.underlying t with
 | some (.struct fs)=>(match fs.toList.mapM (λ f=>(P.info? f.type).map λ i=>(f.offset,i.size)) with|some places=>RM (places.toArray[·]?) ps dh|none=>false)
 | some (.array _ e)=>(match P.info? e with|some ie=>RM (λ i=>some (i*ie.size,ie.size)) ps dh|none=>false)
 | _=>false
def Q3 (k:Nat):List (Nat × Operand)->List AP->Bool
 | [],[]=>true
 | (i,x)::r,y::l=>i == k&&BZ x y&&Q3 (k+1) r l
 | _,_=>false
def BD (num:Nat->Nat) (op:Op):DT->Bool
 | .n0 y=>match op with | .move x=>BZ x y | .assign x=>BZ x y|_=>false
 | .v9 _ z=>z != 0&&(match op with | .move (.const (.slice none 0 0))=>true | .assign (.const (.slice none 0 0))=>true|_=>false)
 | .pick c' a' b'=>match op with | .pick c a b=>BZ c c'&&BZ a a'&&BZ b b'|_=>false
 | .bin Ct x' y'=>match op with | .binOp op _ x y _=>op == Ct&&BZ x x'&&BZ y y'|_=>false
 | .beq ne x' y'=>match op with | .binOp op t x y _=>(if ne then op == .neq else op == .eql)&&(match P.underlying t with|some .bool=>true|_=>false)&&BZ x x'&&BZ y y'|_=>false
 | .un Ct x'=>match op with | .unOp op _ x=>op == Ct&&BZ x x'|_=>false
 | .conv k x'=>match op with | .convert s d x=>(P.underlying s).isSome&&(match P.underlying d with|some (.int k')=>k == k'|_=>false)&&BZ x x'|_=>false
 | .box _ x'=>match op with | .box _ x=>BZ x x'|_=>false
 | .alloc _ z=>match op with | .alloc t=>R9 P t z|_=>false
 | .build z dh=>match op with | .build t ps=>R9 P t z&&aV P t ps.toList dh|_=>false
 | .b9 _ a6 dh=>match op with
  | .buildSlice t n ps=>JP P t (λ e=>IP P e a6)&&a6 != 0&&n == dh.length&&decide (n*a6<=16777216)&&Q3 0 ps.toList dh&&(n == 0||JP P t (λ e=>match P.info? e with|some i=>(match i.zero with|some z=>z.cells.size == a6|none=>false)|none=>false))
  | _=>false
 | .u6 x' off=>match op with
  | .fieldAddr s x f=>BZ x x'&&(match P.underlying s with|some (.struct fs)=>(match fs[f]? with|some fd=>fd.offset == off&&(match P.info? fd.type with|some i=>i.size != 0|none=>false)|none=>false)|_=>false)
  | _=>false
 | .oz x' off n agg=>match op with | .field t x f=>BZ x x'&&pE P t f off n&&pF P t f agg|_=>false
 | .q7 arr a6 x' i'=>match op with
  | .indexAddr t x i=>BZ x x'&&BZ i i'&&(match P.underlying t,arr with|some (.array len e),some tc=>len == tc&&IP P e a6&&decide (1<len)|some (.slice e),none=>IP P e a6&&a6 != 0|_,_=>false)
  | _=>false
 | .ld agg n x'=>match op with | .load t x=>BZ x x'&&SI P t == some agg&&(if agg then IP P t n else n == 1)|_=>false
 | .st n x' v'=>match op with | .store t x v=>BZ x x'&&BZ v v'&&IP P t n|_=>false
 | .mk _ a6 bytes z l' c'=>match op with
  | .makeSlice t l c=>BZ l l'&&BZ c c'&&JP P t (λ e=>IP P e a6&&UG P e bytes&&R9 P e z)&&a6 != 0
  | _=>false
 | .fk a6 x' ox m8=>match op with
  | .slice t x lo hi none=>BZ x x'&&OA lo ox&&OA hi m8&&JP P t (λ e=>IP P e a6)&&a6 != 0
  | _=>false
 | .ext x' i'=>match op with | .extract x i=>BZ x x'&&i == i'|_=>false
 | .len x'=>match op with
  | .call ⟨.builtin .len,xs,ts⟩=>(match xs.toList,ts.toList with|[x],[t]=>BZ x x'&&JP P t (λ_=>true)|_,_=>false)
  | _=>false
 | .mm max l8=>match op with
  | .call ⟨.builtin .min,xs,_⟩ => !max&&D5 xs.toList l8
  | .call ⟨.builtin .max,xs,_⟩=>max&&D5 xs.toList l8
  | _=>false
 | .app _ a6 bytes x' y'=>match op with
  | .call ⟨.builtin .append,xs,ts⟩=>(match xs.toList,ts.toList with
   | [x,y],[t,u]=>BZ x x'&&BZ y y'&&JP P t (λ e=>IP P e a6&&UG P e bytes&&(match P.info? e with|some i=>(match i.zero with|some z=>z.cells.size == a6|none=>false)|none=>false))&&a6 != 0&&JP P u (λ_=>true)
   | _,_=>false)
  | _=>false
 | .call f' l8=>match op with
  | .call ⟨.value (.func f),xs,_⟩=>f == num f'&&D5 xs.toList l8
  | _=>false
 | .c9 f' l8=>match op with
  | .call ⟨.value (.func f),xs,_⟩=>f == num f'&&D5 xs.toList l8
  | _=>false
 | .x7 _ f' l8=>match op with
  | .call ⟨.value (.func f),xs,_⟩=>f == num f'&&D5 xs.toList l8
  | _=>false
 | .ta ne x'=>match op with
  | .binOp op t x (.const (.slice none 0 0)) _=>(if ne then op == .neq else op == .eql)&&JP P t (λ_=>true)&&BZ x x'
  | _=>false
 | .bad=>true
 | .mn x'=>match op with
  | .nilCheck x=>BZ x x'
  | _=>false
 | .eg x'=>match op with
  | .call ⟨.builtin .cap,xs,ts⟩=>(match xs.toList,ts.toList with|[x],[t]=>BZ x x'&&JP P t (λ_=>true)|_,_=>false)
  | _=>false
 | .oa _ a6 bytes x' y'=>match op with
  | .call ⟨.builtin .append,xs,ts⟩=>(match xs.toList,ts.toList with
   | [x,y],[t,u]=>BZ x x'&&BZ y y'&&JP P t (λ e=>IP P e a6&&UG P e bytes&&(match P.info? e with|some i=>(match i.zero with|some z=>z.cells.size == a6|none=>false)|none=>false))&&a6 != 0&&(match P.underlying u with|some (.int _)=>true|_=>false)
   | _,_=>false)
  | _=>false
 | .gf tb i'=>match op with
  | .index t (.const (.string s)) i=>(match P.underlying t with|some .string=>true|_=>false)&&s.data.toList.map (λ b=>b.toNat) == tb&&BZ i i'
  | _=>false
 | .pz _ f' l8=>match op with
  | .makeFunc (.func f) first xs=>f == num f'&&first.toList.isEmpty&&D5 xs.toList l8
  | _=>false
 | .j5 f' l8=>match op with
  | .call ⟨.value (.func f),xs,_⟩=>f == num f'&&D5 xs.toList l8
  | _=>false
 | .s8 _ f' l8=>match op with
  | .call ⟨.value (.func f),xs,_⟩=>f == num f'&&D5 xs.toList l8
  | _=>false
 | .mq _ n x' v'=>match op with | .store t x v=>BZ x x'&&BZ v v'&&IP P t n|_=>false
 | .m4 x' l8=>match op with
  | .call ⟨.value x,xs,_⟩=>BZ x x'&&D5 xs.toList l8
  | _=>false
def VG (ops:Array Oper):Option (Nat × Bool)->Option (Nat × Bool)->Bool
 | none,none=>true
 | some (j,b),some (t,b')=>b == b'&&(match ops[j]? with|some o=>o.dst == some t|none=>false)
 | _,_=>false
def Y2 (num:Nat->Nat) (N:Nat) (ops:Array Oper) (o:Oper) (a:AI):Bool :=
 o.dst == a.dst&&(match a.dst with|some d=>decide (d<N)|none=>true)&&VG ops o.guard a.guard&&BD P num o.op a.op
def O9 (num:Nat->Nat) (N:Nat) (ops:Array Oper):List Oper->List AI->Bool
 | [],[]=>true
 | o::r,a::l=>Y2 P num N ops o a&&O9 num N ops r l
 | _,_=>false
def F8:DT->Bool
 | .st .. | .app .. | .c9 .. | .m4 .. => true
 | _=>false
def RP:DT->Bool
 | .ld .. | .call .. | .s8 .. => true
 | _=>false
def J3 (a:DT):Bool:=F8 a||RP a||(ED a).isSome
def CU:AP->List Nat
 | .t n=>[n]
 | .c _=>[]
def fR:Option AP->List Nat
 | some x=>CU x
 | none=>[]
def HB:DT->List Nat
 | .n0 x=>CU x
 | .v9 _ _=>[]
 | .pick c a b=>CU c++CU a++CU b
 | .bin _ x y=>CU x++CU y
 | .beq _ x y=>CU x++CU y
 | .un _ x=>CU x
 | .conv _ x=>CU x
 | .box _ x=>CU x
 | .alloc _ _=>[]
 | .build _ ps=>ps.flatMap (λ p=>CU p.2.2)
 | .b9 _ _ ps=>ps.flatMap CU
 | .u6 x _=>CU x
 | .oz x _ _ _=>CU x
 | .q7 _ _ x i=>CU x++CU i
 | .ld _ _ x=>CU x
 | .st _ x v=>CU x++CU v
 | .mk _ _ _ _ l c=>CU l++CU c
 | .fk _ x lo hi=>CU x++fR lo++fR hi
 | .ext x _=>CU x
 | .len x=>CU x
 | .mm _ xs=>xs.flatMap CU
 | .app _ _ _ x y=>CU x++CU y
 | .call _ xs=>xs.flatMap CU
 | .c9 _ xs=>xs.flatMap CU
 | .ta _ x=>CU x
 | .gf _ x=>CU x
 | .pz _ _ xs=>xs.flatMap CU
 | .m4 x xs=>CU x++xs.flatMap CU
 | .j5 _ xs=>xs.flatMap CU
 | .mq _ _ x v=>CU x++CU v
 | .s8 _ _ xs=>xs.flatMap CU
 | .x7 _ _ xs=>xs.flatMap CU
 | .bad=>[]
 | .mn x=>CU x
 | .eg x=>CU x
 | .oa _ _ _ x y=>CU x++CU y
def S7 (x:AI):List Nat:=HB x.op++(match x.guard with|some (g,_)=>[g]|none=>[])++x.dst.toList
def HX (b:Array Nat) (i j:Nat):Bool:=(b.getD (max i j) 0).testBit (min i j)
def OB (x:AI):Option Nat:=match x.op,x.a8 with
 | .c9 _ _,[s]=>some s
 | _,_=>none
def S4 (x y:AI):Bool:=match OB x with
 | some s=>ED y.op == some s&&(!F8 y.op && !RP y.op)
 | none=>false
def tL (b:Array Nat) (x:AI) (i:Nat) (y:AI) (j:Nat):Bool :=
 i == j||HX b i j ||
  ((match y.dst with|some t => !(S7 x).contains t|none=>true) &&
   (!F8 x.op || !J3 y.op||S4 x y) &&
   (!RP x.op||(match ED y.op with|some s=>x.a8.contains s|none=>true)) )
def Q1 (ops:Array Oper) (l:List AI):Bool :=
 let b:=Region.before ops
 (l.zipIdx.all λ(x,i)=>l.zipIdx.all λ(y,j)=>tL b x i y j&&(i == j||HX b i j||(match ED x.op,ED y.op with|some s,some s'=>s != s'|_,_=>true))) &&
 (ops.toList.zipIdx.all λ(o,i)=>o.after.all λ e=>decide (e.on<i)||(match e.ground with | .gcOnly _=>true|_=>false)) &&
 (!Region.departs ops||(List.range ops.size).all (λ i=>(Region.linearise .gc ops 0).contains i))
def ER (num:Nat->Nat) (N:Nat):Code->BH->Bool
 | c,.dr a _ _=>ER num N c a
 | c',.skip=>match c' with | .skip=>true | .label _=>true|_=>false
 | c',.scope a=>match c' with | .scope c=>ER num N c a|_=>false
 | c',.ops l qi=>match c' with | .region _ ops draw=>draw == qi&&O9 P num N ops ops.toList l&&(!draw||Q1 ops l)|_=>false
 | c',.seq a' b'=>match c' with | .seq a b=>ER num N a a'&&ER num N b b'|_=>false
 | c',.cond x' a' b'=>match c' with | .cond x a b=>BZ x x'&&ER num N a a'&&ER num N b b'|_=>false
 | c',.block i' a=>match c' with | .block i c=>i == i'&&ER num N c a|_=>false
 | c',.loop a=>match c' with | .loop c=>ER num N c a|_=>false
 | c',.exit i'=>match c' with | .exit i=>i == i'|_=>false
 | c',.ret=>match c' with | .ret=>true|_=>false
def LZ:List ResultVar->List IR->Bool
 | [],[]=>true
 | .tmp t::r,.tmp t'::l=>t == t'&&LZ r l
 | .cell a t::r,.cell a' agg n::l=>a == a'&&SI P t == some agg&&(if agg then IP P t n else n == 1)&&LZ r l
 | _,_=>false
def okFn (num:Nat->Nat) (fn:Func) (a:AFn):Bool :=
 fn.params.size+fn.nfree == a.ah&&decide (a.ah<=fn.ntmps)&&LZ P fn.results.toList a.res&&(match fn.body with|some c=>ER P num fn.ntmps c a.body|none=>false)
end
end Go.b8

namespace Go.b8
abbrev BB:Nat:=4294967296
@[irreducible] def EH (a b : Nat) : Nat := (a + 18446744073709551616 - b) % 18446744073709551616
theorem R7 (a b:Nat):EH a b=(a+18446744073709551616-b)%18446744073709551616:=by unfold EH;rfl
def val:List Nat->Nat
 | []=>0
 | d::l=>d+4294967296*val l
def A0 (l:List Nat):Prop := ∀ d∈l,d<4294967296
def dg (n:Nat):List Nat:=if h:n=0 then [] else n%4294967296::dg (n/4294967296)
termination_by n
decreasing_by omega
theorem EU:dg 0=[]:=by rw[dg];simp
theorem IE {n:Nat} (h:n≠0):dg n=n%4294967296::dg (n/4294967296):=by rw[dg];simp [h]
theorem IB:val []=0:=rfl
theorem PL (d:Nat) (l:List Nat):val (d::l)=d+4294967296*val l:=rfl
theorem BT (n:Nat):val (dg n)=n:=by
 induction n using Nat.strongRecOn with
 | ind n ih =>
  by_cases h:n=0
  ·subst h;rw[EU];rfl
  ·rw[IE h,PL,ih _ (by omega)]
   omega
theorem DU (n:Nat):A0 (dg n):=by
 induction n using Nat.strongRecOn with
 | ind n ih =>
  by_cases h:n=0
  ·subst h;rw[EU];intro d hd;cases hd
  ·rw[IE h]
   intro d hd;rcases List.mem_cons.1 hd with rfl|hd
   ·omega
   ·exact ih _ (by omega) d hd
theorem A0.tail {d:Nat} {l:List Nat} (h:A0 (d::l)):A0 l:=λ x hx=>h x (List.mem_cons_of_mem _ hx)
theorem A0.head {d:Nat} {l:List Nat} (h:A0 (d::l)):d<4294967296:=h d List.mem_cons_self
theorem A0.at {l:List Nat} (h:A0 l) {i d:Nat} (hd:l[i]? = some d):d<4294967296:=h d (zM hd)
theorem A0.take {l:List Nat} (h:A0 l) (n:Nat):A0 (l.take n):=λ x hx=>h x (List.mem_of_mem_take hx)
theorem A0.drop {l:List Nat} (h:A0 l) (n:Nat):A0 (l.drop n):=λ x hx=>h x (List.mem_of_mem_drop hx)
theorem SR:A0 []:=λ_ h=>by cases h
theorem A0.append {a b:List Nat} (h:A0 a) (h':A0 b):A0 (a++b):=λ x hx=>(List.mem_append.1 hx).elim (h x) (h' x)
theorem G2 {d:Nat} (h:d<4294967296):A0 [d]:=λ x hx=>by simp at hx;omega
theorem A0.set {l:List Nat} (h:A0 l) (i:Nat) {d:Nat} (hd:d<4294967296):A0 (l.set i d):=λ x hx=>by
 rcases List.mem_or_eq_of_mem_set hx with h1|h1
 ·exact h x h1
 ·omega
theorem IG (n:Nat):A0 (List.replicate n 0):=λ x hx=>by rw[(List.mem_replicate.1 hx).2];omega
theorem TV (a b:List Nat):val (a++b)=val a+4294967296^a.length*val b:=by
 induction a with
 | nil=>simp [val]
 | cons d l ih=>rw[List.cons_append,PL,PL,ih,List.length_cons,Nat.pow_succ];grind
theorem NX (l:List Nat) (v:Nat):val (l++[v])=val l+4294967296^l.length*v:=by
 rw[TV];simp [val]
theorem EY {l:List Nat} (h:A0 l):val l<4294967296^l.length:=by
 induction l with
 | nil=>simp [val]
 | cons d l ih =>
  have h1:=ih h.tail;have h2:=h.head;rw[PL,List.length_cons,Nat.pow_succ];omega
theorem DX {l:List Nat} {i v:Nat} (h:l[i]? = some v):val (l.take (i+1))=val (l.take i)+4294967296^i*v:=by
 have hi:=(zS h).1;rw[List.take_add_one,h,Option.toList_some,NX,List.length_take,Nat.min_eq_left (by omega)]
theorem JR (l:List Nat) (i:Nat) (h:i<=l.length):val l=val (l.take i)+4294967296^i*val (l.drop i):=by
 have:=TV (l.take i) (l.drop i)
 rw[List.take_append_drop,List.length_take,Nat.min_eq_left h]at this;exact this
theorem Z8 (n:Nat):val (List.replicate n 0)=0:=by
 induction n with
 | zero=>rfl
 | succ n ih=>rw[List.replicate_succ,PL,ih]
theorem Vc {l:List Nat} (h:A0 l) (ht:l=[] \/ ∃ d,l[l.length-1]? = some d/\d≠0):dg (val l)=l:=by
 induction l with
 | nil=>exact EU
 | cons d l ih =>
  have h1:=h.head;by_cases hl:l=[]
  ·subst hl
   rcases ht with ht|⟨x,hx,mj⟩
   ·cases ht
   ·simp at hx
    subst hx;rw[PL,IB,IE (by omega),show (d+4294967296*0)/4294967296=0 by omega,EU,show (d+4294967296*0)%4294967296=d by omega]
  ·have oi : ∃ x,l[l.length-1]? = some x/\x≠0:=by
    rcases ht with ht|⟨x,hx,mj⟩
    ·cases ht
    ·refine ⟨x,?_,mj⟩
     have:l.length≠0:=λ e=>hl (List.eq_nil_of_length_eq_zero e)
     rw[List.length_cons,show l.length+1-1=(l.length-1)+1 by omega,List.getElem?_cons_succ]at hx;exact hx
   have Ni:=ih h.tail (Or.inr oi);have z9:val l≠0:=by
    intro e;rw[e,EU]at Ni;exact hl Ni.symm
   rw[PL,IE (by omega),show (d+4294967296*val l)/4294967296=val l by omega,Ni,show (d+4294967296*val l)%4294967296=d by omega]
theorem F2 {l:List Nat} (h:A0 l) {n:Nat} (hn:n<=l.length) (hz : ∀ i,n<=i->i<l.length->l[i]? = some 0) (ht:n=0 \/ ∃ d,l[n-1]? = some d/\d≠0):l.take n=dg (val l):=by
 have hv:val l=val (l.take n):=by
  have h0:l.drop n=List.replicate (l.length-n) 0:=by
   apply List.ext_getElem?;intro i;rw[List.getElem?_drop,List.getElem?_replicate];by_cases hi:n+i<l.length
   ·rw[hz (n+i) (by omega) hi,if_pos (by omega)]
   ·rw[List.getElem?_eq_none (by omega),if_neg (by omega)]
  rw[JR l n hn,h0,Z8];omega
 rw[hv];refine (Vc (h.take n) ?_).symm;rcases ht with rfl|⟨d,hd,Df⟩
 ·exact Or.inl (by simp)
 ·have g9:=(zS hd).1
  by_cases Ce:n=0
  ·subst Ce;exact Or.inl (by simp)
  ·refine Or.inr ⟨d,?_,Df⟩
   rw[List.length_take,Nat.min_eq_left hn,List.getElem?_take,if_pos (by omega)];exact hd
theorem N9 {n k:Nat}:(dg n).length<=k↔n<4294967296^k:=by
 induction k generalizing n with
 | zero =>
  by_cases h:n=0
  ·subst h;simp [EU]
  ·rw[IE h];simp;omega
 | succ k ih =>
  by_cases h:n=0
  ·subst h;simp [EU];exact Nat.pos_of_ne_zero (by simp)
  ·rw[IE h,List.length_cons,Nat.succ_le_succ_iff,ih,Nat.pow_succ]
   rw[Nat.div_lt_iff_lt_mul (by omega)]
theorem EO {l:List Nat} (h:A0 l):(dg (val l)).length<=l.length:=N9.2 (EY h)
theorem bP {n:Nat} (h:n≠0) : ∃ d,(dg n)[(dg n).length-1]? = some d/\d≠0:=by
 induction n using Nat.strongRecOn with
 | ind n ih =>
  rw[IE h];by_cases h2:n/4294967296=0
  ·rw[h2,EU]
   exact ⟨n%4294967296,by simp,by omega⟩
  ·obtain ⟨d,hd,Df⟩:=ih _ (by omega) h2
   refine ⟨d,?_,Df⟩;have hl:(dg (n/4294967296)).length≠0:=λ e=>by rw[List.eq_nil_of_length_eq_zero e]at hd;simp at hd
   rw[List.length_cons,show (dg (n/4294967296)).length+1-1=(dg (n/4294967296)).length-1+1 by omega,List.getElem?_cons_succ];exact hd
theorem bL {n:Nat}:dg n=[]↔n=0:=by
 constructor
 ·intro h
  by_cases h0:n=0
  ·exact h0
  ·rw[IE h0]at h;cases h
 ·rintro rfl;exact EU
theorem UQ {n:Nat} (h:n≠0):1<=(dg n).length:=by rw[IE h];simp
theorem AgW {o:List Nat} {i v:Nat} (h:i<o.length):(o.set i v).take (i+1)=o.take i++[v]:=by
 rw[List.take_add_one,List.getElem?_set_self h,List.take_set_of_le (Nat.le_refl i)];rfl
theorem FO {o:List Nat} {i v:Nat} (h:i<o.length):val ((o.set i v).take (i+1))=val (o.take i)+4294967296^i*v:=by
 rw[AgW h,NX,List.length_take,Nat.min_eq_left (by omega)]
theorem OW (V p t:Nat):V+p*(t%4294967296)+p*4294967296*(t/4294967296)=V+p*t:=by
 have h:=Nat.mod_add_div t 4294967296;have:p*(t%4294967296)+p*4294967296*(t/4294967296)=p*t:=by
  rw[Nat.mul_assoc,<-Nat.mul_add,h]
 omega
theorem C3 {l:List Nat} {n:Nat} (h:l.length<=n):val (l.take n)=val l:=by rw[zT h]
theorem tQ (i:Nat):1<=4294967296^i:=Nat.pos_of_ne_zero (by simp)
theorem GX {l:List Nat} {i d:Nat} (h:l[i]? = some d):val (l.drop i)=d+4294967296*val (l.drop (i+1)):=by
 obtain ⟨hi,rfl⟩:=zS h;rw[List.drop_eq_getElem_cons hi,PL]
theorem Z4 {a b:List Nat} (ha:A0 a) (hb:A0 b) (hl:a.length=b.length) {i:Nat} {x y:Nat} (hx:a[i]? = some x) (hy:b[i]? = some y) (he:a.drop (i+1)=b.drop (i+1)) (h:x<y):val a<val b:=by
 have hia:=(zS hx).1;have hib:=(zS hy).1;rw[JR a i (by omega),JR b i (by omega),GX hx,GX hy,he];have h1:=EY (ha.take i);rw[List.length_take,Nat.min_eq_left (by omega)]at h1;generalize val (b.drop (i+1))=r;generalize 4294967296^i=p at *;have:p*(x+4294967296*r)+p<=p*(y+4294967296*r):=by
  rw[<-Nat.mul_succ];exact Nat.mul_le_mul_left p (by omega)
 omega
theorem Z5 {o:List Nat} {k v old:Nat} (h:o[k]? = some old):val (o.set k v)+4294967296^k*old=val o+4294967296^k*v:=by
 have hk:=(zS h).1;have h1:val (o.set k v)=val (o.take k)+4294967296^k*(v+4294967296*val (o.drop (k+1))):=by
  rw[JR (o.set k v) k (by simp;omega),List.take_set_of_le (Nat.le_refl k),GX (l:=o.set k v) (d:=v) (by rw[List.getElem?_set_self hk]),List.drop_set_of_lt (by omega)]
 have h2:val o=val (o.take k)+4294967296^k*(old+4294967296*val (o.drop (k+1))):=by
  rw[JR o k (by omega),GX h]
 rw[h1,h2,Nat.mul_add,Nat.mul_add];omega
theorem V6 {l:List Nat} (h:A0 l):l.take (dg (val l)).length=dg (val l):=by
 induction l with
 | nil=>rw[IB,EU];rfl
 | cons d l ih =>
  have h1:=h.head;by_cases h0:val (d::l)=0
  ·rw[h0,EU];rfl
  ·rw[IE h0,PL,show (d+4294967296*val l)/4294967296=val l by omega,show (d+4294967296*val l)%4294967296=d by omega,List.length_cons,List.take_succ_cons,ih h.tail]
theorem TW {a b:Nat} (h:(dg a).length<(dg b).length):a<b:=by
 have h1:a<4294967296^(dg a).length:=N9.1 (Nat.le_refl _);have h2 : ¬ b<4294967296^((dg b).length-1):=λ h3=>by have:=N9.2 h3;omega
 have h3:4294967296^(dg a).length<=4294967296^((dg b).length-1):=Nat.pow_le_pow_right (by omega) (by omega);omega
end Go.b8

namespace Go.b8
section
variable {U V UL VL p u0 u1 u2 v1 v2 top q r:Nat}
theorem Aeo (hU:U=UL+p*(u2+4294967296*top)) (hV:V=VL+p*(v2+4294967296*v1)) (hl:UL<p) (h2:u2<4294967296) (v7:0<V):U/V*v1<=top:=by
 have h1:U/V*V<=U:=Nat.div_mul_le_self U V;generalize U/V=Q at *;have h3:U<p*(4294967296*(top+1)):=by
  have:p*(u2+4294967296*top)+p<=p*(4294967296*(top+1)):=by
   rw[<-Nat.mul_succ];exact Nat.mul_le_mul_left p (by omega)
  omega
 have h4:p*(4294967296*(Q*v1))<=Q*V:=by
  have e:Q*V=Q*VL+Q*(p*v2)+p*(4294967296*(Q*v1)):=by rw[hV];grind
  omega
 have h5:p*(4294967296*(Q*v1))<p*(4294967296*(top+1)):=by omega
 have:=Nat.lt_of_mul_lt_mul_left h5
 omega
theorem Aen (hU:U=UL+p*(u2+4294967296*top)) (hV:V=VL+p*(v2+4294967296*v1)) (hl:UL<p) (hq:q*v1+r=top) (h:r*4294967296+u2<q*v2) (v7:0<V):U/V<q:=by
 rw[Nat.div_lt_iff_lt_mul v7];have e:q*V=q*VL+p*(q*v2+4294967296*(q*v1)):=by rw[hV];grind
 have h1:p*(u2+4294967296*top)+p<=p*(q*v2+4294967296*(q*v1)):=by
  rw[<-Nat.mul_succ];exact Nat.mul_le_mul_left p (by omega)
 omega
theorem Aem (h:U<4294967296*V) (hq:4294967296<=q) (v7:0<V):U/V<q:=by
 have:U/V<4294967296:=(Nat.div_lt_iff_lt_mul v7).2 h
 omega
theorem pV (hU:U=UL+p*(u2+4294967296*top)) (hV:V=VL+p*(v2+4294967296*v1)) (Bc:VL<p) (h1:2147483648<=v1) (hq:q*v1+r=top) (h:q*v2<=r*4294967296+u2) (hqB:q<4294967296):q<=U/V+1:=by
 have v7:0<V:=by
  have:p*4294967296<=p*(v2+4294967296*v1):=Nat.mul_le_mul_left p (by omega)
  omega
 by_cases h0:q=0
 ·subst h0;exact Nat.zero_le _
 have e:q*V=q*VL+p*(q*v2+4294967296*(q*v1)):=by rw[hV];grind
 have h2:p*(q*v2+4294967296*(q*v1))<=p*(u2+4294967296*top):=Nat.mul_le_mul_left p (by omega);have h3:q*VL<V:=by
  have a1:q*VL<=4294967296*VL:=zR _ (by omega);have a2:p*4294967296<=p*(v2+4294967296*v1):=Nat.mul_le_mul_left p (by omega);omega
 have h4:(q-1)*V<U+1:=by
  have:(q-1)*V+V=q*V:=by
   have:q=q-1+1:=by omega
   rw[<-Nat.succ_mul,Nat.succ_eq_add_one,<-this]
  omega
 have h5:q-1<=U/V:=(Nat.le_div_iff_mul_le v7).2 (by omega);omega
end
theorem mC {U V U' q:Nat} (v7:0<V) (h1:U/V<=q) (h:U'+q*V=U):q=U/V/\U'=U%V:=by
 have h2:q*V<=U:=by omega
 have h3:q<=U/V:=(Nat.le_div_iff_mul_le v7).2 h2;have h4:q=U/V:=by omega
 have:=Nat.div_add_mod U V
 rw[Nat.mul_comm,<-h4]at this;exact ⟨h4,by omega⟩
theorem mB {U V U' q P:Nat} (v7:0<V) (h2:q<=U/V+1) (Dd:U'<P) (h:U'+q*V=U+P):q-1=U/V/\1<=q/\U'+V=U%V+P:=by
 have h3:U/V*V<=U:=Nat.div_mul_le_self U V;have h4:U/V<q:=by
  rcases Nat.lt_or_ge (U/V) q with h|h
  ·exact h
  ·have:q*V<=U/V*V:=zR _ h
   omega
 have h6:=Nat.div_add_mod U V;rw[Nat.mul_comm]at h6;generalize U/V=Q at *;generalize U%V=R at *;obtain rfl:q=Q+1:=by omega
 rw[Nat.add_mul,Nat.one_mul]at h;exact ⟨by omega,by omega,by omega⟩
theorem ZY {u pl bw:Nat} (hu:u<4294967296) (hp:pl<4294967296) (hb:bw<=1):EH (EH u pl) bw%4294967296+pl+bw=u+4294967296*(EH (EH u pl) bw/9223372036854775808)/\EH (EH u pl) bw/9223372036854775808<=1:=by
 rw[R7,R7];omega
theorem Ahr {d e bw:Nat} (hu:d<4294967296) (hp:e<4294967296) (hb:bw<=1):EH (EH d bw) e%4294967296+e+bw=d+4294967296*(EH (EH d bw) e/9223372036854775808)/\EH (EH d bw) e/9223372036854775808<=1:=by
 rw[R7,R7];omega
theorem Ahq {d bw:Nat} (hu:d<4294967296) (hb:bw<=1):EH d bw%4294967296+bw=d+4294967296*(EH d bw/9223372036854775808)/\EH d bw/9223372036854775808<=1:=by
 rw[R7];omega
theorem vU {V Y X p D e bw bq d:Nat} (h:V+Y=X+p*bw) (hd:D+e+bw=d+4294967296*bq):V+p*D+(Y+p*e)=X+p*d+p*4294967296*bq:=by
 have h2:p*D+p*e+p*bw=p*d+p*4294967296*bq:=by
  rw[<-Nat.mul_add,<-Nat.mul_add,hd,Nat.mul_add,Nat.mul_assoc]
 omega
theorem TC {a b:Nat} (ha:a<4294967296) (hb:b<4294967296):a*b<=18446744065119617025 :=
 Nat.mul_le_mul (show a<=4294967295 by omega) (show b<=4294967295 by omega)
theorem mE {X Y s:Nat} (hs:0<s):X*s/(Y*s)=X/Y/\X*s%(Y*s)/s=X%Y:=by
 refine ⟨Nat.mul_div_mul_right X Y hs,?_⟩;rw[Nat.mul_mod_mul_right,Nat.mul_div_cancel _ hs]
end Go.b8

namespace Go.b8
@[irreducible] def PE (d s : Nat) : Nat := d * 2 ^ s % 4294967296
@[irreducible] def RT (d s : Nat) : Nat := d * 2 ^ s / 4294967296
theorem gR (d s:Nat):PE d s=d*2^s%4294967296:=by unfold PE;rfl
theorem RU (d s:Nat):RT d s=d*2^s/4294967296:=by unfold RT;rfl
theorem QH {s:Nat} (hs:s<=32):4294967296=2^s*2^(32-s):=by
 rw[<-Nat.pow_add,show s+(32-s)=32 by omega]
theorem AgY (d s:Nat):PE d s+4294967296*RT d s=d*2^s:=by
 rw[gR,RU];exact Nat.mod_add_div _ _
theorem uU {d s:Nat} (hs:s<=32):PE d s=2^s*(d%2^(32-s)):=by
 rw[gR,QH hs,Nat.mul_comm d,Nat.mul_mod_mul_left]
theorem uT {d s:Nat} (hs:s<=32):RT d s=d/2^(32-s):=by
 rw[RU,QH hs,Nat.mul_comm d,Nat.mul_div_mul_left _ _ (Nat.two_pow_pos s)]
theorem RV {d s:Nat} (hd:d<4294967296) (hs:s<=32):PE d s%2^s=0/\RT d s<2^s/\PE d s+2^s<=4294967296/\d*2^s<=18446744073709551615:=by
 refine ⟨by rw[uU hs,Nat.mul_mod_right],?_,?_,?_⟩
 ·rw[uT hs,Nat.div_lt_iff_lt_mul (Nat.two_pow_pos _),<-Nat.pow_add,show s+(32-s)=32 by omega];exact hd
 ·rw[uU hs]
  have h1:d%2^(32-s)+1<=2^(32-s):=Nat.mod_lt _ (Nat.two_pow_pos _);have h2:=Nat.mul_le_mul_left (2^s) h1;rw[Nat.mul_add,Nat.mul_one,<-QH hs]at h2;exact h2
 ·have h1:2^s<=2^32:=Nat.pow_le_pow_right (by omega) hs
  have h2:d*2^s<=4294967295*4294967296:=Nat.mul_le_mul (by omega) h1;omega
theorem VO {s:Nat} (hs:s<=32):2^s<=4294967296:=(Nat.pow_le_pow_right (by omega) hs:2^s<=2^32)
theorem rD {V X p lo s d:Nat} (h:V+p*lo=X*2^s):V+p*(PE d s+lo)+p*4294967296*RT d s=(X+p*d)*2^s:=by
 have h1:=AgY d s;have h2:p*(PE d s+lo)+p*4294967296*RT d s=p*lo+p*(d*2^s):=by
  rw[<-h1];grind
 rw[Nat.add_mul,<-h,Nat.mul_assoc p d];omega
theorem eH {d V s:Nat} (hs:s<=32):(d+4294967296*V)/2^s=d/2^s+V%2^s*2^(32-s)+4294967296*(V/2^s):=by
 have e:4294967296*V=2^s*(2^(32-s)*V):=by rw[<-Nat.mul_assoc,<-QH hs]
 rw[e,Nat.add_mul_div_left _ _ (Nat.two_pow_pos s)];have h:=Nat.mod_add_div V (2^s);have h2:2^(32-s)*V=V%2^s*2^(32-s)+4294967296*(V/2^s):=by
  have h3:2^(32-s)*V=2^(32-s)*(V%2^s+2^s*(V/2^s)):=by rw[h]
  rw[h3,QH hs];grind
 omega
theorem rI {d V s:Nat} (hs:s<=32):(d+4294967296*V)%2^s=d%2^s:=by
 have e:4294967296*V=2^s*(2^(32-s)*V):=by rw[<-Nat.mul_assoc,<-QH hs]
 rw[e,Nat.add_mul_mod_self_left]
theorem Afu {d s:Nat} (hs:s<=32):d*2^(32-s)%4294967296=d%2^s*2^(32-s):=by
 have e:4294967296=2^s*2^(32-s):=QH hs;rw[e,Nat.mul_mod_mul_right]
theorem rH {d V s:Nat} (hd:d<4294967296) (hs:s<=32):d/2^s<2^(32-s)/\V%2^s*2^(32-s)%2^(32-s)=0/\V%2^s*2^(32-s)+2^(32-s)<=4294967296:=by
 refine ⟨?_,Nat.mul_mod_left _ _,?_⟩
 ·rw[Nat.div_lt_iff_lt_mul (Nat.two_pow_pos _),<-Nat.pow_add,show 32-s+s=32 by omega];exact hd
 ·have h1:V%2^s+1<=2^s:=Nat.mod_lt _ (Nat.two_pow_pos _)
  have h2:=zR (2^(32-s)) h1;rw[Nat.add_mul,Nat.one_mul,<-QH hs]at h2;exact h2
def m6 (x:Nat):Nat:=if x=0 then 0 else x.log2+1
theorem kM {x:Nat} (h:x≠0):2^(m6 x-1)<=x/\x<2^m6 x/\1<=m6 x:=by
 unfold m6;rw[if_neg h];exact ⟨Nat.log2_self_le h,Nat.lt_log2_self,by omega⟩
theorem W9 {x k:Nat} (h:x<2^k):m6 x<=k:=by
 by_cases h0:x=0
 ·subst h0;unfold m6;simp
 ·obtain ⟨h1,_,h3⟩:=kM h0
  have h2:2^(m6 x-1)<2^k:=by omega
  have:=(Nat.pow_lt_pow_iff_right (by omega)).1 h2
  omega
theorem UE {x:Nat} (n:Nat) (h:2^n<=x):m6 (x/2^n)+n=m6 x:=by
 have hp:=Nat.two_pow_pos n;have hx:x≠0:=by omega
 have hq:x/2^n≠0:=by have:=Nat.div_pos h hp;omega
 unfold m6;rw[if_neg hx,if_neg hq];have:(x/2^n).log2+n=x.log2:=by
  symm
  rw[Nat.log2_eq_iff hx];have h1:=Nat.log2_self_le hq;have h2:x/2^n<2^((x/2^n).log2+1):=Nat.lt_log2_self;rw[Nat.le_div_iff_mul_le hp,<-Nat.pow_add]at h1;rw[Nat.div_lt_iff_lt_mul hp,<-Nat.pow_add]at h2;exact ⟨h1,by rw[show (x/2^n).log2+n+1=(x/2^n).log2+1+n by omega];exact h2⟩
 omega
theorem eI {x:Nat} (h0:x≠0) (hx:x<4294967296):m6 x<=32/\1<=m6 x/\2147483648<=x*2^(32-m6 x)/\x*2^(32-m6 x)<4294967296:=by
 obtain ⟨h1,h2,h3⟩:=kM h0;have hk:m6 x<=32:=W9 (k:=32) hx;refine ⟨hk,h3,?_,?_⟩
 ·have:=zR (2^(32-m6 x)) h1
  rw[<-Nat.pow_add,show m6 x-1+(32-m6 x)=31 by omega]at this;exact this
 ·have:=Nat.mul_lt_mul_of_pos_right h2 (Nat.two_pow_pos (32-m6 x))
  rw[<-Nat.pow_add,show m6 x+(32-m6 x)=32 by omega]at this;exact this
def aF (a b c d:Int):Prop:=(0<=a/\b<=0/\c<=0/\0<=d)\/(a<=0/\0<=b/\0<=c/\d<=0)
structure QO (P Q a b c d p q:Int):Prop where
 hp:p=a*P+b*Q
 hq:q=c*P+d*Q
 sg:aF a b c d
 pa:0<=p+a
 pb:0<=p+b
 qc:0<=q+c
 qd:0<=q+d
theorem QO.start {P Q:Int} (hP:0<=P) (hQ:0<=Q):QO P Q 1 0 0 1 P Q :=
 ⟨by omega,by omega,Or.inl (by omega),by omega,by omega,by omega,by omega⟩
def T5 (P Q a b c d:Int):Prop := ∀ x y K e1 e2:Int,0<K->x=K*P+e1->y=K*Q+e2->0<=e1->e1<=K->0<=e2->e2<=K ->
 0<=c*x+d*y/\c*x+d*y<a*x+b*y/\a*x+b*y<=y/\Int.gcd (a*x+b*y) (c*x+d*y)=Int.gcd x y
def SE (P Q a b c d:Int):Prop := ∀ x y K e1 e2:Int,0<K->x=K*P+e1->y=K*Q+e2->0<=e1->e1<=K->0<=e2->e2<=K ->
 c*x+d*y<=y/\Int.gcd (a*x+b*y) (c*x+d*y)=Int.gcd x y
theorem SE.start (P Q:Int):SE P Q 1 0 0 1:=by
 intro x y K e1 e2 _ _ _ _ _ _ _;simp
theorem T5.half {P Q a b c d:Int} (h:T5 P Q a b c d):SE P Q a b c d:=λ x y K e1 e2 h1 h2 h3 h4 h5 h6 h7=>by
 obtain ⟨g1,g2,g3,g4⟩:=h x y K e1 e2 h1 h2 h3 h4 h5 h6 h7;exact ⟨by omega,g4⟩
theorem Aef (X Y f:Int):Int.gcd Y (X-f*Y)=Int.gcd X Y:=by
 rw[Int.gcd_comm X Y];exact Int.gcd_sub_mul_right_right Y X f
theorem QO.step {P Q a b c d p q f:Int} (h:QO P Q a b c d p q) (hc:q+c≠0) (hd:q+d≠0) (h1:f=(p+a)/(q+c)) (h2:f=(p+b)/(q+d)) :
  QO P Q c d (a-f*c) (b-f*d) q (p-f*q)/\0<=f/\p-f*q<q/\(SE P Q a b c d->T5 P Q c d (a-f*c) (b-f*d)):=by
 have c0:0<q+c:=by have:=h.qc;omega
 have d0:0<q+d:=by have:=h.qd;omega
 have f0:0<=f:=by rw[h1];exact Int.ediv_nonneg h.pa h.qc
 have m1:p-f*q+(a-f*c)=(p+a)%(q+c):=by
  have:=Int.emod_add_mul_ediv (p+a) (q+c)
  rw[<-h1]at this;grind
 have m2:p-f*q+(b-f*d)=(p+b)%(q+d):=by
  have:=Int.emod_add_mul_ediv (p+b) (q+d)
  rw[<-h2]at this;grind
 have n1:0<=p-f*q+(a-f*c):=by rw[m1];exact Int.emod_nonneg _ hc
 have n2:0<=p-f*q+(b-f*d):=by rw[m2];exact Int.emod_nonneg _ hd
 have n3:p-f*q+(a-f*c)<q+c:=by rw[m1];exact Int.emod_lt_of_pos _ c0
 have n4:p-f*q+(b-f*d)<q+d:=by rw[m2];exact Int.emod_lt_of_pos _ d0
 have zu:p-f*q=(a-f*c)*P+(b-f*d)*Q:=by rw[h.hp,h.hq];grind
 have sj:aF c d (a-f*c) (b-f*d):=by
  rcases h.sg with ⟨s1,s2,s3,s4⟩|⟨s1,s2,s3,s4⟩
  ·have t1:f*c<=0:=Int.mul_nonpos_of_nonneg_of_nonpos f0 s3
   have t2:0<=f*d:=Int.mul_nonneg f0 s4;exact Or.inr (by omega)
  ·have t1:0<=f*c:=Int.mul_nonneg f0 s3
   have t2:f*d<=0:=Int.mul_nonpos_of_nonneg_of_nonpos f0 s4;exact Or.inl (by omega)
 have g9:p-f*q<q:=by
  rcases sj with ⟨s1,s2,s3,s4⟩|⟨s1,s2,s3,s4⟩
  ·omega
  ·omega
 refine ⟨⟨h.hq,zu,sj,h.qc,h.qd,n1,n2⟩,f0,g9,λ hh => ?_⟩;intro x y K e1 e2 hK hx hy a1 a2 b1 b2;obtain ⟨k1,k2⟩:=hh x y K e1 e2 hK hx hy a1 a2 b1 b2;have eY:c*x+d*y=K*q+c*e1+d*e2:=by rw[hx,hy,h.hq];grind
 have eX:(a-f*c)*x+(b-f*d)*y=K*(p-f*q)+(a-f*c)*e1+(b-f*d)*e2:=by rw[hx,hy,zu];grind
 have eS:(a-f*c)*x+(b-f*d)*y=(a*x+b*y)-f*(c*x+d*y):=by grind
 generalize hE:a-f*c=E at *;generalize hG:b-f*d=G at *;generalize wk:p-f*q=q2 at *;have key:0<=E*x+G*y/\E*x+G*y<c*x+d*y:=by
  rw[eX,eY];rcases sj with ⟨s1,s2,s3,s4⟩|⟨s1,s2,s3,s4⟩
  ·-- c≥0,d<=0,E<=0,G≥0
   have t1:E*K<=E*e1:=Int.mul_le_mul_of_nonpos_left s3 a2;have t2:0<=G*e2:=Int.mul_nonneg s4 b1;have t3:0<=K*(q2+E):=Int.mul_nonneg (by omega) n1;have t4:(G-d)*e2<=(G-d)*K:=Int.mul_le_mul_of_nonneg_left b2 (by omega);have t5:(E-c)*e1<=0:=Int.mul_nonpos_of_nonpos_of_nonneg (by omega) a1;have t6:0<K*((q+d)-(q2+G)):=Int.mul_pos hK (by omega);constructor
   ·grind
   ·grind
  ·have t1:G*K<=G*e2:=Int.mul_le_mul_of_nonpos_left s4 b2
   have t2:0<=E*e1:=Int.mul_nonneg s3 a1;have t3:0<=K*(q2+G):=Int.mul_nonneg (by omega) n2;have t4:(E-c)*e1<=(E-c)*K:=Int.mul_le_mul_of_nonneg_left a2 (by omega);have t5:(G-d)*e2<=0:=Int.mul_nonpos_of_nonpos_of_nonneg (by omega) b1;have t6:0<K*((q+c)-(q2+E)):=Int.mul_pos hK (by omega);constructor
   ·grind
   ·grind
 refine ⟨key.1,key.2,k1,?_⟩;rw[<-k2,eS];exact Aef _ _ _
end Go.b8





























namespace Go.b8
open Go.RowKit
theorem G0 (b o n:Nat):(⟨b,o,none⟩:Addr).add n=⟨b,o+n,none⟩:=by
 unfold Addr.add;split<;>simp_all
inductive Rd (w:World) (R:Bool->Nat->Prop):AV->Value->Prop
 | int (k:IntKind) (n:Int):Rd w R (.int k n) (.int k n)
 | bool (b:Bool):Rd w R (.bool b) (.bool b)
 | str (s:ByteArray):Rd w R (.bj (.string s)) (.string s)
 | lf:Rd w R (.bj .nilFunc) .nilFunc
 | jb (l:Bool) (a:Option Addr) (cap:Nat):Rd w R (.sl l []) (.slice a 0 cap)
 | emp (b:Bool) (a:Option Addr) (cap:Nat) (h:a.isNone=b):Rd w R (.bj (.bool b)) (.slice a 0 cap)
 | sl (l:Bool) (es:List (List AV)) (b o a6 cap:Nat) (u:Nat->Nat->Value) (k8:es≠[]) (hp:0<a6) (hR:R l b) (x9:es.length<=cap) (hz : ∀ e∈es,e.length=a6)
   (hc : ∀ i e,es[i]? = some e -> ∀ j c,e[j]? = some c->w.cell? ⟨b,o+(i*a6+j),none⟩=some (u i j))
   (hr : ∀ i e,es[i]? = some e -> ∀ j c,e[j]? = some c->Rd w R c (u i j)) :
   Rd w R (.sl l es) (.slice (some ⟨b,o,none⟩) es.length cap)
theorem Rd.one {w:World} {R:Bool->Nat->Prop} {a:AV} {v:Value} (h:Rd w R a v):v.oneCell'=true:=by
 cases h<;>rfl
theorem QW {w:World} {a:Addr} {u:Value} (h:w.cell? a=some u):a.block<w.heap.size:=by
 unfold World.cell? at h;split at h
 ·rename_i hh
  exact (Array.getElem?_eq_some_iff.1 hh).1
 ·cases h
theorem U4 {es:List (List AV)} {a6:Nat} (k8:es≠[]) (hp:0<a6) (hz : ∀ e∈es,e.length=a6) : ∃ e c,es[0]? = some e/\e[0]? = some c:=by
 cases es with
 | nil=>exact absurd rfl k8
 | cons e r =>
  have:=hz e (by simp)
  cases e with
  | nil=>simp at this;omega
  | cons c q=>exact ⟨c::q,c,rfl,rfl⟩
theorem Rd.mono {w w':World} {R R':Bool->Nat->Prop} (hR : ∀ l b,b<w.heap.size->R l b->R' l b)
  (hw : ∀ l b,b<w.heap.size->R l b->w'.heap[b]? = w.heap[b]?) {a:AV} {v:Value} (h:Rd w R a v):Rd w' R' a v:=by
 induction h with
 | int k n=>exact .int k n
 | bool b=>exact .bool b
 | str s=>exact .str s
 | lf=>exact .lf
 | jb l a cap=>exact .jb l a cap
 | emp b a cap h=>exact .emp b a cap h
 | sl l es b o a6 cap u k8 hp h1 x9 hz hc hr ih =>
  obtain ⟨e,c,he,bh⟩:=U4 k8 hp hz;have hb:b<w.heap.size:=QW (hc 0 e he 0 c bh);refine .sl l es b o a6 cap u k8 hp (hR l b hb h1) x9 hz (λ i e he j c zm => ?_) ih;rw[World.cell?_of_block (w:=w) (hw l b hb h1)];exact hc i e he j c zm
structure M where
 ν:Nat->Nat->Option Nat
 own:AH
 w:World
section
variable (B:Nat) (S:Nat->Prop)
def safe (m:M) (l:Bool) (b:Nat):Prop :=
 (S b/\b<B)\/(B<=b /\ ∀ s t,(m.own.get s t).isSome=true->m.ν s t≠some b)\/(l=true/\b<B)
inductive CC (m:M):AV->Value->Prop
 | rd {a:AV} {v:Value} (h:Rd m.w (safe B S m) a v):CC m a v
 | nil:CC m .nil (.slice none 0 0)
 | row (s t z off len:Nat) (a:Option Addr) (cap:Nat) (ht:t<m.own.e8 s) (cj:0<z) (oe:len<=cap) (ha:0<len->a.isSome=true)
   (h : ∀ b,m.own.get s t=some b->b.a6=z/\((len=0/\cap=0) \/ ∃ g arr e,m.ν s t=some g/\a=some ⟨g,off*z,none⟩/\m.w.heap[g]? = some (.cells arr e (0,0))/\(off+cap)*z<=arr.size)) :
   CC m (.row s t z off len) (.slice a len cap)
 | ptr (s t i j:Nat) (a:Addr) (ht:t<m.own.e8 s) (h : ∀ b,m.own.get s t=some b -> ∃ g,m.ν s t=some g/\a=⟨g,i*b.a6+j,none⟩):CC m (.ptr s t i j) (.pointer (some a))
 | o5 (cs:List AV) (b o:Nat) (u:Nat->Value) (l:Bool) (hR:cs≠[]->safe B S m l b) (hc : ∀ j c,cs[j]? = some c->m.w.cell? ⟨b,o+j,none⟩=some (u j)) (hr : ∀ j c,cs[j]? = some c->Rd m.w (safe B S m) c (u j)) :
   CC m (.o5 cs) (.pointer (some ⟨b,o,none⟩))
def CL (m:M) (cs:List AV) (vs:List Value):Prop:=cs.length=vs.length /\ ∀ (j:Nat) (c:AV) (v:Value),cs[j]? = some c->vs[j]? = some v->CC B S m c v
inductive CA (m:M):AV->Value->Prop
 | one {a:AV} {v:Value} (h:CC B S m a v):CA m a v
 | agg (cs:List AV) (vs:List Value) (h:CL B S m cs vs):CA m (.agg cs) (.agg vs.toArray)
 | fn (p:Bool) (f g:Nat) (cs:List AV) (vs:List Value) (hp:p=true->cs=[]) (h:CL B S m cs vs):CA m (.fn p f g cs) (.func (.func g) #[] vs.toArray)
 | ub (f g:Nat) (cs:List AV) (vs:List Value) (hp:cs≠[]) (h:CL B S m cs vs):CA m (.fn true f g cs) (.func (.func g) #[.agg vs.toArray] #[])
inductive CV (m:M):AV->Value->Prop
 | any (v:Value):CV m .any v
 | ca {a:AV} {v:Value} (h:CA B S m a v):CV m a v
 | e6 (as:List AV) (vs:List Value) (hl:as.length=vs.length) (h : ∀ (j:Nat) (c:AV) (v:Value),as[j]? = some c->vs[j]? = some v->CA B S m c v):CV m (.e6 as) (.tuple vs.toArray)
def yV (m:M) (s t:Nat) (b:DR):Prop :=
 (∀ e∈b.es,e.length=b.a6)/\match m.ν s t with
  | none=>b.es=[]
  | some g=>B<=g /\ ∃ arr e,m.w.heap[g]? = some (.cells arr e (0,0)) /\
    ∀ i cs,b.es[i]? = some cs -> ∀ j c,cs[j]? = some c -> ∃ u,arr[i*b.a6+j]? = some u/\CC B S m c u
structure BP (w0:World) (m:M):Prop where
 below:Below B w0 m.w
 size:B<=m.w.heap.size
 fresh : ∀ s t,m.own.e8 s<=t->m.own.get s t=none
 c7 : ∀ s t b,m.own.get s t=some b->yV B S m s t b
 inj : ∀ s t s' t' b b' g,m.own.get s t=some b->m.own.get s' t'=some b'->m.ν s t=some g->m.ν s' t'=some g->s=s'/\t=t'
structure DG (m m':M):Prop where
 size:m.w.heap.size<=m'.w.heap.size
 vt : ∀ b,b<m.w.heap.size->safe B S m true b->m'.w.heap[b]? = m.w.heap[b]?
 Ai : ∀ l b,b<m.w.heap.size->safe B S m l b->safe B S m' l b
 e8 : ∀ s,m.own.e8 s<=m'.own.e8 s
 name : ∀ s t b',t<m.own.e8 s->m'.own.get s t=some b' -> ∃ b,m.own.get s t=some b/\b'.a6=b.a6/\m'.ν s t=m.ν s t /\
   ∀ g arr e,m.ν s t=some g->m.w.heap[g]? = some (.cells arr e (0,0)) -> ∃ o9,m'.w.heap[g]? = some (.cells o9 e (0,0))/\o9.size=arr.size
end
section
variable {B:Nat} {S:Nat->Prop}
theorem gL {m:M} {l:Bool} {b:Nat} (h:safe B S m l b):safe B S m true b:=by
 rcases h with h|h|⟨_,h⟩
 ·exact .inl h
 ·exact .inr (.inl h)
 ·exact .inr (.inr ⟨rfl,h⟩)
theorem DG.rd {m m':M} (h:DG B S m m') {a:AV} {v:Value} (hr:Rd m.w (safe B S m) a v):Rd m'.w (safe B S m') a v :=
 hr.mono h.Ai (λ_ b hb hs=>h.vt b hb (gL hs))
theorem DG.cc {m m':M} (h:DG B S m m') {a:AV} {v:Value} (hc:CC B S m a v):CC B S m' a v:=by
 cases hc with
 | rd hr=>exact .rd (h.rd hr)
 | nil=>exact .nil
 | row s t z off len a cap ht cj oe ha hb =>
  refine .row s t z off len a cap (Nat.lt_of_lt_of_le ht (h.e8 s)) cj oe ha λ b' j7 => ?_
  obtain ⟨b,h1,h2,h3,h4⟩:=h.name s t b' ht j7;obtain ⟨hz,bn⟩:=hb b h1;refine ⟨h2.trans hz,?_⟩;rcases bn with h0|⟨g,arr,e,hg,kr,hh,hle⟩
  ·exact .inl h0
  ·obtain ⟨o9,Ki,vd⟩:=h4 g arr e hg hh
   exact .inr ⟨g,o9,e,h3.trans hg,kr,Ki,vd ▸ hle⟩
 | ptr s t i j a ht hb =>
  refine .ptr s t i j a (Nat.lt_of_lt_of_le ht (h.e8 s)) λ b' j7 => ?_
  obtain ⟨b,h1,h2,h3,_⟩:=h.name s t b' ht j7;obtain ⟨g,hg,kr⟩:=hb b h1;exact ⟨g,h3.trans hg,h2 ▸ kr⟩
 | o5 cs b o u l hR hc hr =>
  have g9:cs≠[]->b<m.w.heap.size:=λ k8=>by
   cases cs with
   | nil=>exact absurd rfl k8
   | cons c r=>exact QW (hc 0 c rfl)
  refine .o5 cs b o u l (λ k8=>h.Ai l b (g9 k8) (hR k8)) (λ j c hj => ?_) (λ j c hj=>h.rd (hr j c hj));have k8:cs≠[]:=λ e=>by subst e;simp at hj
  rw[World.cell?_of_block (w:=m.w) (h.vt b (g9 k8) (gL (hR k8)))];exact hc j c hj
theorem DG.cl {m m':M} (h:DG B S m m') {cs:List AV} {vs:List Value} (hc:CL B S m cs vs):CL B S m' cs vs :=
 ⟨hc.1,λ j c v h1 h2=>h.cc (hc.2 j c v h1 h2)⟩
theorem DG.ca {m m':M} (h:DG B S m m') {a:AV} {v:Value} (hc:CA B S m a v):CA B S m' a v:=by
 cases hc with
 | one hc=>exact .one (h.cc hc)
 | agg cs vs hc=>exact .agg cs vs (h.cl hc)
 | fn p f g cs vs hp hc=>exact .fn p f g cs vs hp (h.cl hc)
 | ub f g cs vs hp hc=>exact .ub f g cs vs hp (h.cl hc)
theorem DG.cv {m m':M} (h:DG B S m m') {a:AV} {v:Value} (hc:CV B S m a v):CV B S m' a v:=by
 cases hc with
 | any v=>exact .any v
 | ca hc=>exact .ca (h.ca hc)
 | e6 as vs hl hc=>exact .e6 as vs hl λ j c v h1 h2=>h.ca (hc j c v h1 h2)
theorem DG.refl (m:M):DG B S m m :=
 ⟨Nat.le_refl _,λ_ _ _=>rfl,λ_ _ _ h=>h,λ_=>Nat.le_refl _,λ_ _ b' _ h=>⟨b',h,rfl,rfl,λ_ arr _ _ h=>⟨arr,h,rfl⟩⟩⟩
theorem DG.trans {m m' Qu:M} (h:DG B S m m') (k:DG B S m' Qu):DG B S m Qu where
 size:=Nat.le_trans h.size k.size
 vt b hb hs:=(k.vt b (Nat.lt_of_lt_of_le hb h.size) (h.Ai true b hb hs)).trans (h.vt b hb hs)
 Ai l b hb hs:=k.Ai l b (Nat.lt_of_lt_of_le hb h.size) (h.Ai l b hb hs)
 e8 s:=Nat.le_trans (h.e8 s) (k.e8 s)
 name s t b'' ht Kn:=by
  obtain ⟨b',h1,h2,h3,h4⟩:=k.name s t b'' (Nat.lt_of_lt_of_le ht (h.e8 s)) Kn;obtain ⟨b,g1,g2,g3,g4⟩:=h.name s t b' ht h1;refine ⟨b,g1,h2.trans g2,h3.trans g3,λ g arr e hg ha => ?_⟩;obtain ⟨o9,Ki,vd⟩:=g4 g arr e hg ha;obtain ⟨Ed,Kj,Mg⟩:=h4 g o9 e (g3.trans hg) Ki;exact ⟨Ed,Kj,Mg.trans vd⟩
theorem CC.one {m:M} {a:AV} {v:Value} (h:CC B S m a v):v.oneCell'=true:=by
 cases h with
 | rd h=>exact h.one
 | _=>rfl
end
end Go.b8

namespace Go.b8
open Go.RowKit
section
variable {B:Nat} {S:Nat->Prop} {w0:World}
def live (m:M) (s t:Nat):Prop := ∃ b,m.own.get s t=some b
theorem BP.ge {m:M} (h:BP B S w0 m) {s t g:Nat} (hl:live m s t) (hg:m.ν s t=some g):B<=g /\ ∃ arr e,m.w.heap[g]? = some (.cells arr e (0,0)):=by
 obtain ⟨b,hb⟩:=hl;obtain ⟨_,h2⟩:=h.c7 s t b hb;rw[hg]at h2;obtain ⟨h3,arr,e,h4,_⟩:=h2;exact ⟨h3,arr,e,h4⟩
theorem Q9 {m m':M} (hm:BP B S w0 m) (hs:m.w.heap.size<=m'.w.heap.size)
  (hk : ∀ b,b<m.w.heap.size->(∀ s t,live m s t->m.ν s t≠some b)->m'.w.heap[b]? = m.w.heap[b]?) (Bk : ∀ s,m.own.e8 s<=m'.own.e8 s)
  (Ge : ∀ s t b',t<m.own.e8 s->m'.own.get s t=some b' -> ∃ b,m.own.get s t=some b/\b'.a6=b.a6/\m'.ν s t=m.ν s t /\
   ∀ g arr e,m.ν s t=some g->m.w.heap[g]? = some (.cells arr e (0,0)) -> ∃ o9,m'.w.heap[g]? = some (.cells o9 e (0,0))/\o9.size=arr.size)
  (fu : ∀ s t g,live m' s t->m'.ν s t=some g->g<m.w.heap.size -> ∃ s0 t0,live m s0 t0/\m.ν s0 t0=some g):DG B S m m':=by
 have Dl : ∀ b,safe B S m true b -> ∀ s t,live m s t->m.ν s t≠some b:=by
  intro b hb s t hl hg;have lv:=(hm.ge hl hg).1;rcases hb with ⟨_,h⟩|⟨_,h⟩|⟨_,h⟩
  ·omega
  ·obtain ⟨b',j7⟩:=hl
   exact h s t (by simp [j7]) hg
  ·omega
 refine ⟨hs,λ b hb vf=>hk b hb (Dl b vf),λ l b hb vf => ?_,Bk,Ge⟩;rcases vf with h|⟨h,hn⟩|h
 ·exact .inl h
 ·refine .inr (.inl ⟨h,λ s t hl hg => ?_⟩)
  obtain ⟨b',j7⟩:=Option.isSome_iff_exists.1 hl;obtain ⟨s0,t0,⟨b0,ql⟩,Br⟩:=fu s t b ⟨b',j7⟩ hg hb;exact hn s0 t0 (by simp [ql]) Br
 ·exact .inr (.inr h)
theorem grow {m:M} (hm:BP B S w0 m) {w':World} (hb:Below m.w.heap.size m.w w') :
  BP B S w0 ⟨m.ν,m.own,w'⟩/\DG B S m ⟨m.ν,m.own,w'⟩:=by
 have he:DG B S m ⟨m.ν,m.own,w'⟩:=by
  refine Q9 hm hb.size (λ b j7 _=>hb.block b j7) (λ_=>Nat.le_refl _) (λ s t b' _ j7=>⟨b',j7,rfl,rfl,λ g arr e hg ha=>⟨arr,?_,rfl⟩⟩) (λ s t g hl hg _=>⟨s,t,hl,hg⟩);have:g<m.w.heap.size:=(Array.getElem?_eq_some_iff.1 ha).1
  exact (hb.block g this).trans ha
 refine ⟨⟨hm.below.trans (hb.mono hm.size),Nat.le_trans hm.size hb.size,hm.fresh,λ s t b hg => ?_,hm.inj⟩,he⟩;obtain ⟨h1,h2⟩:=hm.c7 s t b hg;refine ⟨h1,?_⟩;show match m.ν s t with|none=>_|some g=>_
 cases hν:m.ν s t with
 | none=>rw[hν]at h2;exact h2
 | some g =>
  rw[hν]at h2;obtain ⟨h3,arr,e,h4,h5⟩:=h2;refine ⟨h3,arr,e,?_,λ i cs hi j c hj => ?_⟩
  ·exact (hb.block g (Array.getElem?_eq_some_iff.1 h4).1).trans h4
  ·obtain ⟨u,hu,u7⟩:=h5 i cs hi j c hj
   exact ⟨u,hu,he.cc u7⟩
theorem FS (o:AH) (s s' t':Nat) (b:DR):(o.put s ((o s).new b)).get s' t'=if s'=s/\t'=o.e8 s then some b else o.get s' t':=by
 unfold AH.get AH.put CB.new AH.e8;by_cases h:s'=s
 ·subst h
  by_cases h2:t'=(o s').e8<;>simp [h2]
 ·simp [h]
theorem KN (o:AH) (s s':Nat) (b:DR):(o.put s ((o s).new b)).e8 s'=if s'=s then o.e8 s+1 else o.e8 s':=by
 unfold AH.e8 AH.put CB.new;by_cases h:s'=s<;>simp [h]
theorem U7 (o:AH) (s t s' t':Nat) (b:Option DR):(o.put s ((o s).m7 t b)).get s' t'=if s'=s/\t'=t then b else o.get s' t':=by
 unfold AH.get AH.put CB.m7;by_cases h:s'=s
 ·subst h
  by_cases h2:t'=t<;>simp [h2]
 ·simp [h]
theorem lM (o:AH) (s t s':Nat) (b:Option DR):(o.put s ((o s).m7 t b)).e8 s'=o.e8 s':=by
 unfold AH.e8 AH.put CB.m7;by_cases h:s'=s<;>simp [h]
def e9 (m:M) (s:Nat) (g:Option Nat):Nat->Nat->Option Nat:=λ s' t'=>if s'=s/\t'=m.own.e8 s then g else m.ν s' t'
theorem YY {m:M} (hm:BP B S w0 m) (s:Nat) : ¬ live m s (m.own.e8 s):=λ⟨b,hb⟩=>by
 rw[hm.fresh s _ (Nat.le_refl _)]at hb;cases hb
theorem W7 {m:M} (hm:BP B S w0 m) (s:Nat) (b:DR) (arr:Array Value) (e:TypeId) (hz : ∀ x∈b.es,x.length=b.a6)
  (hc : ∀ i cs,b.es[i]? = some cs -> ∀ j c,cs[j]? = some c -> ∃ u,arr[i*b.a6+j]? = some u/\CC B S m c u) :
  BP B S w0 ⟨e9 m s (some m.w.heap.size),m.own.put s ((m.own s).new b),m.w.alloc (.cells arr e)⟩ /\
  DG B S m ⟨e9 m s (some m.w.heap.size),m.own.put s ((m.own s).new b),m.w.alloc (.cells arr e)⟩:=by
 have o7:(m.w.alloc (.cells arr e)).heap.size=m.w.heap.size+1:=by simp
 have hν : ∀ s' t',live m s' t'->e9 m s (some m.w.heap.size) s' t'=m.ν s' t':=λ s' t' hl=>by
  unfold e9;rw[if_neg];rintro ⟨rfl,rfl⟩
  exact YY hm _ hl
 have he:DG B S m ⟨e9 m s (some m.w.heap.size),m.own.put s ((m.own s).new b),m.w.alloc (.cells arr e)⟩:=by
  refine Q9 hm (by rw[o7];omega) (λ k hk _=>Below.heap_alloc _ _ _ hk) (λ s' => ?_) (λ s' t' b' ht j7 => ?_) (λ s' t' g hl hg g9 => ?_)
  ·rw[KN];split
   ·rename_i h;subst h;omega
   ·exact Nat.le_refl _
  ·rw[FS]at j7
   rw[if_neg (by rintro ⟨rfl,rfl⟩;omega)]at j7;refine ⟨b',j7,rfl,hν s' t' ⟨b',j7⟩,λ g ar e' hg ha=>⟨ar,?_,rfl⟩⟩;exact (Below.heap_alloc _ _ _ (Array.getElem?_eq_some_iff.1 ha).1).trans ha
  ·obtain ⟨b',j7⟩:=hl
   have o3:=j7;rw[FS]at j7;by_cases h:s'=s/\t'=m.own.e8 s
   ·simp only[e9,if_pos h,Option.some.injEq]at hg
    omega
   ·rw[if_neg h]at j7
    exact ⟨s',t',⟨b',j7⟩,by rw[<-hν s' t' ⟨b',j7⟩];exact hg⟩
 refine ⟨⟨hm.below.alloc hm.size _,by rw[o7];have:=hm.size;omega,λ s' t' ht => ?_,λ s' t' b' j7 => ?_,λ s1 t1 s2 t2 b1 b2 g h1 h2 g1 g2 => ?_⟩,he⟩
 ·rw[KN]at ht
  rw[FS,if_neg]
  ·refine hm.fresh s' t' ?_
   split at ht
   ·rename_i h;subst h;omega
   ·exact ht
  ·rintro ⟨rfl,rfl⟩
   simp at ht;omega
 ·rw[FS]at j7
  by_cases h:s'=s/\t'=m.own.e8 s
  ·rw[if_pos h]at j7
   obtain rfl:b=b':=by simpa using j7
   refine ⟨hz,?_⟩;show match e9 m s (some m.w.heap.size) s' t' with|none=>_|some g=>_
   rw[show e9 m s (some m.w.heap.size) s' t'=some m.w.heap.size by simp [e9,h]];refine ⟨hm.size,arr,e,heap_alloc_new _ _,λ i cs hi j c hj => ?_⟩;obtain ⟨u,hu,u7⟩:=hc i cs hi j c hj;exact ⟨u,hu,he.cc u7⟩
  ·rw[if_neg h]at j7
   obtain ⟨h1,h2⟩:=hm.c7 s' t' b' j7;refine ⟨h1,?_⟩;show match e9 m s (some m.w.heap.size) s' t' with|none=>_|some g=>_
   rw[hν s' t' ⟨b',j7⟩];cases hv:m.ν s' t' with
   | none=>rw[hv]at h2;exact h2
   | some g =>
    rw[hv]at h2;obtain ⟨h3,ar,e',h4,h5⟩:=h2;refine ⟨h3,ar,e',(Below.heap_alloc _ _ _ (Array.getElem?_eq_some_iff.1 h4).1).trans h4,λ i cs hi j c hj => ?_⟩;obtain ⟨u,hu,u7⟩:=h5 i cs hi j c hj;exact ⟨u,hu,he.cc u7⟩
 ·rw[FS]at h1 h2
  have lt : ∀ s' t' b',m.own.get s' t'=some b'->e9 m s (some m.w.heap.size) s' t'=some g->g<m.w.heap.size:=λ s' t' b' hb hg=>by
   rw[hν s' t' ⟨b',hb⟩]at hg;obtain ⟨_,ar,e',h4⟩:=hm.ge ⟨b',hb⟩ hg;exact (Array.getElem?_eq_some_iff.1 h4).1
  have at_ : ∀ s' t',s'=s/\t'=m.own.e8 s->e9 m s (some m.w.heap.size) s' t'=some g->g=m.w.heap.size:=λ s' t' h hg=>by
   simp only[e9,if_pos h,Option.some.injEq]at hg;exact hg.symm
  by_cases p1:s1=s/\t1=m.own.e8 s<;>by_cases p2:s2=s/\t2=m.own.e8 s
  ·exact ⟨p1.1.trans p2.1.symm,p1.2.trans p2.2.symm⟩
  ·rw[if_neg p2]at h2
   have:=lt s2 t2 b2 h2 g2
   have:=at_ s1 t1 p1 g1
   omega
  ·rw[if_neg p1]at h1
   have:=lt s1 t1 b1 h1 g1
   have:=at_ s2 t2 p2 g2
   omega
  ·rw[if_neg p1]at h1
   rw[if_neg p2]at h2;exact hm.inj s1 t1 s2 t2 b1 b2 g h1 h2 (by rw[<-hν s1 t1 ⟨b1,h1⟩];exact g1) (by rw[<-hν s2 t2 ⟨b2,h2⟩];exact g2)
theorem xB {m:M} (hm:BP B S w0 m) (s a6:Nat) :
  BP B S w0 ⟨e9 m s none,m.own.put s ((m.own s).new ⟨a6,[]⟩),m.w⟩/\DG B S m ⟨e9 m s none,m.own.put s ((m.own s).new ⟨a6,[]⟩),m.w⟩:=by
 have hν : ∀ s' t',live m s' t'->e9 m s none s' t'=m.ν s' t':=λ s' t' hl=>by
  unfold e9;rw[if_neg];rintro ⟨rfl,rfl⟩
  exact YY hm _ hl
 have he:DG B S m ⟨e9 m s none,m.own.put s ((m.own s).new ⟨a6,[]⟩),m.w⟩:=by
  refine Q9 hm (Nat.le_refl _) (λ k hk _=>rfl) (λ s' => ?_) (λ s' t' b' ht j7 => ?_) (λ s' t' g hl hg g9 => ?_)
  ·rw[KN];split
   ·rename_i h;subst h;omega
   ·exact Nat.le_refl _
  ·rw[FS]at j7
   rw[if_neg (by rintro ⟨rfl,rfl⟩;omega)]at j7;exact ⟨b',j7,rfl,hν s' t' ⟨b',j7⟩,λ g ar e' hg ha=>⟨ar,ha,rfl⟩⟩
  ·obtain ⟨b',j7⟩:=hl
   rw[FS]at j7;by_cases h:s'=s/\t'=m.own.e8 s
   ·simp [e9,if_pos h]at hg
   ·rw[if_neg h]at j7
    exact ⟨s',t',⟨b',j7⟩,by rw[<-hν s' t' ⟨b',j7⟩];exact hg⟩
 refine ⟨⟨hm.below,hm.size,λ s' t' ht => ?_,λ s' t' b' j7 => ?_,λ s1 t1 s2 t2 b1 b2 g h1 h2 g1 g2 => ?_⟩,he⟩
 ·rw[KN]at ht
  rw[FS,if_neg]
  ·refine hm.fresh s' t' ?_
   split at ht
   ·rename_i h;subst h;omega
   ·exact ht
  ·rintro ⟨rfl,rfl⟩
   simp at ht;omega
 ·rw[FS]at j7
  by_cases h:s'=s/\t'=m.own.e8 s
  ·rw[if_pos h]at j7
   obtain rfl:(⟨a6,[]⟩:DR)=b':=by simpa using j7
   refine ⟨by simp,?_⟩;show match e9 m s none s' t' with|none=>_|some g=>_
   rw[show e9 m s none s' t'=none by simp [e9,h]]
  ·rw[if_neg h]at j7
   obtain ⟨h1,h2⟩:=hm.c7 s' t' b' j7;refine ⟨h1,?_⟩;show match e9 m s none s' t' with|none=>_|some g=>_
   rw[hν s' t' ⟨b',j7⟩];cases hv:m.ν s' t' with
   | none=>rw[hv]at h2;exact h2
   | some g =>
    rw[hv]at h2;obtain ⟨h3,ar,e',h4,h5⟩:=h2;refine ⟨h3,ar,e',h4,λ i cs hi j c hj => ?_⟩;obtain ⟨u,hu,u7⟩:=h5 i cs hi j c hj;exact ⟨u,hu,he.cc u7⟩
 ·rw[FS]at h1 h2
  by_cases p1:s1=s/\t1=m.own.e8 s
  ·simp [e9,if_pos p1]at g1
  ·by_cases p2:s2=s/\t2=m.own.e8 s
   ·simp [e9,if_pos p2]at g2
   ·rw[if_neg p1]at h1
    rw[if_neg p2]at h2;exact hm.inj s1 t1 s2 t2 b1 b2 g h1 h2 (by rw[<-hν s1 t1 ⟨b1,h1⟩];exact g1) (by rw[<-hν s2 t2 ⟨b2,h2⟩];exact g2)
theorem AhD {m:M} (hm:BP B S w0 m) (s t:Nat) (b b':DR) (hb:m.own.get s t=some b) (g:Nat) (hg:m.ν s t=some g) (arr o9:Array Value) (e:TypeId)
  (ha:m.w.heap[g]? = some (.cells arr e (0,0))) (Qq:b'.a6=b.a6) (hz : ∀ x∈b'.es,x.length=b'.a6) (o7:o9.size=arr.size)
  (hc : ∀ i cs,b'.es[i]? = some cs -> ∀ j c,cs[j]? = some c -> ∃ u,o9[i*b'.a6+j]? = some u/\CC B S m c u) (w':World) (iu:Below B w0 w') (zx:w'.heap.size=m.w.heap.size)
  (hk : ∀ k,k≠g->w'.heap[k]? = m.w.heap[k]?) (ma:w'.heap[g]? = some (.cells o9 e (0,0))) :
  BP B S w0 ⟨m.ν,m.own.put s ((m.own s).m7 t (some b')),w'⟩/\DG B S m ⟨m.ν,m.own.put s ((m.own s).m7 t (some b')),w'⟩:=by
 have g9:t<m.own.e8 s:=by
  rcases Nat.lt_or_ge t (m.own.e8 s) with h|h
  ·exact h
  ·rw[hm.fresh s t h]at hb;cases hb
 have he:DG B S m ⟨m.ν,m.own.put s ((m.own s).m7 t (some b')),w'⟩:=by
  refine Q9 hm (by rw[zx];exact Nat.le_refl _) (λ k ic hn=>hk k (λ e=>hn s t ⟨b,hb⟩ (e ▸ hg))) (λ s'=>by rw[lM];exact Nat.le_refl _) (λ s' t' b2 ht o3 => ?_) (λ s' t' g' hl du _ => ?_)
  ·rw[U7]at o3
   by_cases h:s'=s/\t'=t
   ·obtain ⟨rfl,rfl⟩:=h
    rw[if_pos ⟨rfl,rfl⟩]at o3;obtain rfl:b'=b2:=by simpa using o3
    refine ⟨b,hb,Qq,rfl,λ g2 ar e' jz ue => ?_⟩;obtain rfl:g=g2:=by rw[hg]at jz;simpa using jz
    rw[ha]at ue;obtain ⟨rfl,rfl⟩:arr=ar/\e=e':=by simpa using ue
    exact ⟨o9,ma,o7⟩
   ·rw[if_neg h]at o3
    refine ⟨b2,o3,rfl,rfl,λ g2 ar e' jz ue=>⟨ar,?_,rfl⟩⟩;rw[<-ue];exact hk g2 (λ e2=>h (by
     subst e2;exact hm.inj s' t' s t b2 b g2 o3 hb jz hg))
  ·obtain ⟨b2,o3⟩:=hl
   rw[U7]at o3;by_cases h:s'=s/\t'=t
   ·obtain ⟨rfl,rfl⟩:=h
    exact ⟨s',t',⟨b,hb⟩,du⟩
   ·rw[if_neg h]at o3
    exact ⟨s',t',⟨b2,o3⟩,du⟩
 refine ⟨⟨iu,by rw[zx];exact hm.size,λ s' t' ht => ?_,λ s' t' b2 o3 => ?_,λ s1 t1 s2 t2 b1 b2 g1 h1 h2 e1 e2 => ?_⟩,he⟩
 ·rw[lM]at ht
  rw[U7,if_neg (by rintro ⟨rfl,rfl⟩;omega)];exact hm.fresh s' t' ht
 ·rw[U7]at o3
  by_cases h:s'=s/\t'=t
  ·obtain ⟨rfl,rfl⟩:=h
   rw[if_pos ⟨rfl,rfl⟩]at o3;obtain rfl:b'=b2:=by simpa using o3
   refine ⟨hz,?_⟩;show match m.ν s' t' with|none=>_|some g=>_
   rw[hg];refine ⟨(hm.ge ⟨b,hb⟩ hg).1,o9,e,ma,λ i cs hi j c hj => ?_⟩;obtain ⟨u,hu,u7⟩:=hc i cs hi j c hj;exact ⟨u,hu,he.cc u7⟩
  ·rw[if_neg h]at o3
   obtain ⟨h1,h2⟩:=hm.c7 s' t' b2 o3;refine ⟨h1,?_⟩;show match m.ν s' t' with|none=>_|some g=>_
   cases hv:m.ν s' t' with
   | none=>rw[hv]at h2;exact h2
   | some g2 =>
    rw[hv]at h2;obtain ⟨h3,ar,e',h4,h5⟩:=h2;refine ⟨h3,ar,e',?_,λ i cs hi j c hj => ?_⟩
    ·rw[<-h4]
     exact hk g2 (λ e2=>h (by
      subst e2;exact hm.inj s' t' s t b2 b g2 o3 hb hv hg))
    ·obtain ⟨u,hu,u7⟩:=h5 i cs hi j c hj
     exact ⟨u,hu,he.cc u7⟩
 ·have old : ∀ s' t' b2,(m.own.put s ((m.own s).m7 t (some b'))).get s' t'=some b2 -> ∃ b3,m.own.get s' t'=some b3:=λ s' t' b2 h=>by
   rw[U7]at h;by_cases h':s'=s/\t'=t
   ·obtain ⟨rfl,rfl⟩:=h';exact ⟨b,hb⟩
   ·rw[if_neg h']at h;exact ⟨b2,h⟩
  obtain ⟨c1,k1⟩:=old s1 t1 b1 h1;obtain ⟨c2,k2⟩:=old s2 t2 b2 h2;exact hm.inj s1 t1 s2 t2 c1 c2 g1 k1 k2 e1 e2
theorem RC (o:AH) (s t s' t':Nat) (b:DR):(o.put s (((o s).m7 t none).new b)).get s' t'=if s'=s/\t'=o.e8 s then some b else if s'=s/\t'=t then none else o.get s' t':=by
 unfold AH.get AH.put CB.new CB.m7 AH.e8;by_cases h:s'=s
 ·subst h
  by_cases h2:t'=(o s').e8<;>by_cases h3:t'=t<;>simp [h2,h3]
 ·simp [h]
theorem XN (o:AH) (s t s':Nat) (b:DR):(o.put s (((o s).m7 t none).new b)).e8 s'=if s'=s then o.e8 s+1 else o.e8 s':=by
 unfold AH.e8 AH.put CB.new CB.m7;by_cases h:s'=s<;>simp [h]
theorem eV {m:M} (hm:BP B S w0 m) (s t:Nat) (b b':DR) (hb:m.own.get s t=some b) (cz:Option Nat) (w':World) (iu:Below B w0 w') (o7:m.w.heap.size<=w'.heap.size)
  (hk : ∀ k,k<m.w.heap.size->m.ν s t≠some k->w'.heap[k]? = m.w.heap[k]?) (hz : ∀ x∈b'.es,x.length=b'.a6)
  (nk:cz=none->b'.es=[])
  (vg : ∀ g,cz=some g->B<=g/\(m.w.heap.size<=g\/m.ν s t=some g) /\ ∃ arr e,w'.heap[g]? = some (.cells arr e (0,0)) /\
   ∀ i cs,b'.es[i]? = some cs -> ∀ j c,cs[j]? = some c -> ∃ u,arr[i*b'.a6+j]? = some u/\CC B S m c u) :
  BP B S w0 ⟨e9 m s cz,m.own.put s (((m.own s).m7 t none).new b'),w'⟩/\DG B S m ⟨e9 m s cz,m.own.put s (((m.own s).m7 t none).new b'),w'⟩:=by
 have g9:t<m.own.e8 s:=by
  rcases Nat.lt_or_ge t (m.own.e8 s) with h|h
  ·exact h
  ·rw[hm.fresh s t h]at hb;cases hb
 have hν : ∀ s' t',live m s' t'->e9 m s cz s' t'=m.ν s' t':=λ s' t' hl=>by
  unfold e9;rw[if_neg];rintro ⟨rfl,rfl⟩
  exact YY hm _ hl
 have he:DG B S m ⟨e9 m s cz,m.own.put s (((m.own s).m7 t none).new b'),w'⟩:=by
  refine Q9 hm o7 (λ k ic hn=>hk k ic (hn s t ⟨b,hb⟩)) (λ s' => ?_) (λ s' t' b2 ht o3 => ?_) (λ s' t' g' hl du ur => ?_)
  ·rw[XN];split
   ·rename_i h;subst h;omega
   ·exact Nat.le_refl _
  ·rw[RC]at o3
   rw[if_neg (by rintro ⟨rfl,rfl⟩;omega)]at o3;by_cases h:s'=s/\t'=t
   ·rw[if_pos h]at o3;cases o3
   ·rw[if_neg h]at o3
    refine ⟨b2,o3,rfl,hν s' t' ⟨b2,o3⟩,λ g2 ar e' jz ue=>⟨ar,?_,rfl⟩⟩;rw[<-ue];exact hk g2 (Array.getElem?_eq_some_iff.1 ue).1 (λ e2=>h (hm.inj s' t' s t b2 b g2 o3 hb jz e2))
  ·obtain ⟨b2,o3⟩:=hl
   rw[RC]at o3;by_cases h0:s'=s/\t'=m.own.e8 s
   ·simp only[e9,if_pos h0]at du
    obtain ⟨_,h2,_⟩:=vg g' du;rcases h2 with h2|h2
    ·omega
    ·exact ⟨s,t,⟨b,hb⟩,h2⟩
   ·rw[if_neg h0]at o3
    by_cases h:s'=s/\t'=t
    ·rw[if_pos h]at o3;cases o3
    ·rw[if_neg h]at o3
     exact ⟨s',t',⟨b2,o3⟩,by rw[<-hν s' t' ⟨b2,o3⟩];exact du⟩
 refine ⟨⟨iu,Nat.le_trans hm.size o7,λ s' t' ht => ?_,λ s' t' b2 o3 => ?_,λ s1 t1 s2 t2 b1 b2 g1 h1 h2 e1 e2 => ?_⟩,he⟩
 ·rw[XN]at ht
  have oi:m.own.e8 s'<=t' /\ ¬ (s'=s/\t'=m.own.e8 s):=by
   by_cases h:s'=s
   ·subst h
    simp at ht;exact ⟨by omega,by omega⟩
   ·simp [h]at ht
    exact ⟨ht,λ h'=>h h'.1⟩
  rw[RC,if_neg oi.2];split
  ·rfl
  ·exact hm.fresh s' t' oi.1
 ·rw[RC]at o3
  by_cases h0:s'=s/\t'=m.own.e8 s
  ·rw[if_pos h0]at o3
   obtain rfl:b'=b2:=by simpa using o3
   refine ⟨hz,?_⟩;show match e9 m s cz s' t' with|none=>_|some g=>_
   rw[show e9 m s cz s' t'=cz by simp [e9,h0]];cases cz with
   | none=>exact nk rfl
   | some g =>
    obtain ⟨h1,_,arr,e,h4,h5⟩:=vg g rfl;refine ⟨h1,arr,e,h4,λ i cs hi j c hj => ?_⟩;obtain ⟨u,hu,u7⟩:=h5 i cs hi j c hj;exact ⟨u,hu,he.cc u7⟩
  ·rw[if_neg h0]at o3
   by_cases h:s'=s/\t'=t
   ·rw[if_pos h]at o3;cases o3
   ·rw[if_neg h]at o3
    obtain ⟨h1,h2⟩:=hm.c7 s' t' b2 o3;refine ⟨h1,?_⟩;show match e9 m s cz s' t' with|none=>_|some g=>_
    rw[hν s' t' ⟨b2,o3⟩];cases hv:m.ν s' t' with
    | none=>rw[hv]at h2;exact h2
    | some g2 =>
     rw[hv]at h2;obtain ⟨h3,ar,e',h4,h5⟩:=h2;refine ⟨h3,ar,e',?_,λ i cs hi j c hj => ?_⟩
     ·rw[<-h4]
      exact hk g2 (Array.getElem?_eq_some_iff.1 h4).1 (λ e2=>h (hm.inj s' t' s t b2 b g2 o3 hb hv e2))
     ·obtain ⟨u,hu,u7⟩:=h5 i cs hi j c hj
      exact ⟨u,hu,he.cc u7⟩
 ·rw[RC]at h1 h2
  have old : ∀ s' t' b2,(if s'=s/\t'=t then none else m.own.get s' t')=some b2->m.own.get s' t'=some b2 /\ ¬ (s'=s/\t'=t):=λ s' t' b2 h=>by
   by_cases h':s'=s/\t'=t
   ·rw[if_pos h']at h;cases h
   ·rw[if_neg h']at h;exact ⟨h,h'⟩
  have my : ∀ s' t' b2,m.own.get s' t'=some b2 -> ¬ (s'=s/\t'=t)->e9 m s cz s' t'=some g1->cz=some g1->False:=λ s' t' b2 o3 k8 e1 e2=>by
   rw[hν s' t' ⟨b2,o3⟩]at e1;obtain ⟨_,h2,_⟩:=vg g1 e2;obtain ⟨_,ar,e',h4⟩:=hm.ge ⟨b2,o3⟩ e1;have:=(Array.getElem?_eq_some_iff.1 h4).1
   rcases h2 with h2|h2
   ·omega
   ·exact k8 (hm.inj s' t' s t b2 b g1 o3 hb e1 h2)
  have at_ : ∀ s' t',s'=s/\t'=m.own.e8 s->e9 m s cz s' t'=some g1->cz=some g1:=λ s' t' h hg=>by simpa [e9,if_pos h] using hg
  by_cases p1:s1=s/\t1=m.own.e8 s<;>by_cases p2:s2=s/\t2=m.own.e8 s
  ·exact ⟨p1.1.trans p2.1.symm,p1.2.trans p2.2.symm⟩
  ·rw[if_neg p2]at h2
   obtain ⟨k2,n2⟩:=old s2 t2 b2 h2;exact (my s2 t2 b2 k2 n2 e2 (at_ s1 t1 p1 e1)).elim
  ·rw[if_neg p1]at h1
   obtain ⟨k1,n1⟩:=old s1 t1 b1 h1;exact (my s1 t1 b1 k1 n1 e1 (at_ s2 t2 p2 e2)).elim
  ·rw[if_neg p1]at h1
   rw[if_neg p2]at h2;obtain ⟨k1,n1⟩:=old s1 t1 b1 h1;obtain ⟨k2,n2⟩:=old s2 t2 b2 h2;exact hm.inj s1 t1 s2 t2 b1 b2 g1 k1 k2 (by rw[<-hν s1 t1 ⟨b1,k1⟩];exact e1) (by rw[<-hν s2 t2 ⟨b2,k2⟩];exact e2)
theorem pQ (o:AH) (l:List Nat) (s t:Nat):(o.drop l).get s t=if s∈l then none else o.get s t:=by
 induction l with
 | nil=>simp [AH.drop]
 | cons x r ih =>
  unfold AH.get at *;by_cases h:s=x
  ·subst h;simp [AH.drop,AH.put]
  ·simp only[AH.drop,AH.put,if_neg h,List.mem_cons]
   rw[ih];by_cases h2:s∈r<;>simp [h,h2]
theorem lL (o:AH) (l:List Nat) (s:Nat):(o.drop l).e8 s=o.e8 s:=by
 induction l with
 | nil=>simp [AH.drop]
 | cons x r ih =>
  unfold AH.e8 at *;by_cases h:s=x
  ·subst h;simp [AH.drop,AH.put]
  ·simp [AH.drop,AH.put,h,ih]
theorem Xl {m:M} (hm:BP B S w0 m) (l:List Nat):BP B S w0 ⟨m.ν,m.own.drop l,m.w⟩/\DG B S m ⟨m.ν,m.own.drop l,m.w⟩:=by
 have old : ∀ s t b,(m.own.drop l).get s t=some b->m.own.get s t=some b:=λ s t b h=>by
  rw[pQ]at h;split at h
  ·cases h
  ·exact h
 have he:DG B S m ⟨m.ν,m.own.drop l,m.w⟩:=by
  refine Q9 hm (Nat.le_refl _) (λ_ _ _=>rfl) (λ s=>by rw[lL];exact Nat.le_refl _) (λ s t b' _ j7=>⟨b',old s t b' j7,rfl,rfl,λ_ ar _ _ ha=>⟨ar,ha,rfl⟩⟩) (λ s t g hl hg _ => ?_);obtain ⟨b,hb⟩:=hl;exact ⟨s,t,⟨b,old s t b hb⟩,hg⟩
 refine ⟨⟨hm.below,hm.size,λ s t ht => ?_,λ s t b hb => ?_,λ s1 t1 s2 t2 b1 b2 g h1 h2=>hm.inj s1 t1 s2 t2 b1 b2 g (old _ _ _ h1) (old _ _ _ h2)⟩,he⟩
 ·rw[lL]at ht
  rw[pQ];split
  ·rfl
  ·exact hm.fresh s t ht
 ·obtain ⟨h1,h2⟩:=hm.c7 s t b (old s t b hb)
  refine ⟨h1,?_⟩;show match m.ν s t with|none=>_|some g=>_
  cases hv:m.ν s t with
  | none=>rw[hv]at h2;exact h2
  | some g =>
   rw[hv]at h2;obtain ⟨h3,ar,e',h4,h5⟩:=h2;refine ⟨h3,ar,e',h4,λ i cs hi j c hj => ?_⟩;obtain ⟨u,hu,u7⟩:=h5 i cs hi j c hj;exact ⟨u,hu,he.cc u7⟩
end
end Go.b8

namespace Go.b8
section
variable {P:Program} {num:Nat->Nat} {op:Op}
theorem Afa {y:AP} (h:BD P num op (.n0 y)=true) : ∃ x,(op = .move x\/op = .assign x)/\BZ x y=true:=by
 cases op with
 | move x=>exact ⟨x,.inl rfl,h⟩
 | assign x=>exact ⟨x,.inr rfl,h⟩
 | _=>exact Bool.noConfusion h
theorem Afh {s z:Nat} (h:BD P num op (.v9 s z)=true):(op = .move (.const (.slice none 0 0))\/op = .assign (.const (.slice none 0 0)))/\z≠0:=by
 simp only[BD,Bool.and_eq_true,bne_iff_ne]at h;refine ⟨?_,h.1⟩;have h2:=h.2;split at h2<;>simp_all
theorem Afc {c' a' b':AP} (h:BD P num op (.pick c' a' b')=true) : ∃ c a b,op = .pick c a b/\BZ c c'=true/\BZ a a'=true/\BZ b b'=true:=by
 cases op with
 | pick c a b=>simp only[BD,Bool.and_eq_true]at h;exact ⟨c,a,b,rfl,h.1.1,h.1.2,h.2⟩
 | _=>exact Bool.noConfusion h
theorem AeU {f:BinOp} {x' y':AP} (h:BD P num op (.bin f x' y')=true) : ∃ t x y u,op = .binOp f t x y u/\BZ x x'=true/\BZ y y'=true:=by
 cases op with
 | binOp f' t x y u =>
  simp only[BD,Bool.and_eq_true,beq_iff_eq]at h;exact ⟨t,x,y,u,by rw[h.1.1],h.1.2,h.2⟩
 | _=>exact Bool.noConfusion h
theorem AeT {ne:Bool} {x' y':AP} (h:BD P num op (.beq ne x' y')=true) : ∃ t x y u,op = .binOp (if ne then .neq else .eql) t x y u/\P.underlying t=some .bool/\BZ x x'=true/\BZ y y'=true:=by
 cases op with
 | binOp f' t x y u =>
  simp only[BD,Bool.and_eq_true]at h;obtain ⟨⟨⟨h1,h2⟩,h3⟩,h4⟩:=h;refine ⟨t,x,y,u,?_,?_,h3,h4⟩
  ·cases ne<;>simp_all
  ·split at h2<;>simp_all
 | _=>exact Bool.noConfusion h
theorem Afg {f:UnOp} {x':AP} (h:BD P num op (.un f x')=true) : ∃ t x,op = .unOp f t x/\BZ x x'=true:=by
 cases op with
 | unOp f' t x =>
  simp only[BD,Bool.and_eq_true,beq_iff_eq]at h;exact ⟨t,x,by rw[h.1],h.2⟩
 | _=>exact Bool.noConfusion h
theorem Ae3 {k:IntKind} {x':AP} (h:BD P num op (.conv k x')=true) : ∃ s d x ds,op = .convert s d x/\P.underlying s=some ds/\P.underlying d=some (.int k)/\BZ x x'=true:=by
 cases op with
 | convert s d x =>
  simp only[BD,Bool.and_eq_true]at h;obtain ⟨⟨h1,h2⟩,h3⟩:=h;obtain ⟨ds,Bm⟩:=Option.isSome_iff_exists.1 h1;refine ⟨s,d,x,ds,rfl,Bm,?_,h3⟩;split at h2<;>simp_all
 | _=>exact Bool.noConfusion h
theorem AeV {s:Nat} {x':AP} (h:BD P num op (.box s x')=true) : ∃ t x,op = .box t x/\BZ x x'=true:=by
 cases op with
 | box t x=>exact ⟨t,x,rfl,h⟩
 | _=>exact Bool.noConfusion h
theorem AeR {s:Nat} {z:List AV} (h:BD P num op (.alloc s z)=true) : ∃ t,op = .alloc t/\R9 P t z=true:=by
 cases op with
 | alloc t=>exact ⟨t,rfl,h⟩
 | _=>exact Bool.noConfusion h
theorem AeX {z:List AV} {dh:List (Nat × Nat × AP)} (h:BD P num op (.build z dh)=true) : ∃ t ps,op = .build t ps/\R9 P t z=true/\aV P t ps.toList dh=true:=by
 cases op with
 | build t ps=>simp only[BD,Bool.and_eq_true]at h;exact ⟨t,ps,rfl,h.1,h.2⟩
 | _=>exact Bool.noConfusion h
theorem PF {t:TypeId} {f:TypeId->Bool} (h:JP P t f=true) : ∃ e,P.underlying t=some (.slice e)/\f e=true:=by
 unfold JP at h;split at h
 ·rename_i e he;exact ⟨e,he,h⟩
 ·cases h
theorem NR {t:TypeId} {n:Nat} (h:IP P t n=true) : ∃ i,P.info? t=some i/\i.size=n:=by
 unfold IP at h;split at h
 ·rename_i i hi;exact ⟨i,hi,by simpa using h⟩
 ·cases h
theorem aW {t:TypeId} {n:Nat} (h:UG P t n=true) : ∃ i,P.info? t=some i/\i.bytes=n:=by
 unfold UG at h;split at h
 ·rename_i i hi;exact ⟨i,hi,by simpa using h⟩
 ·cases h
theorem iS {t:TypeId} {l:List AV} (h:R9 P t l=true) : ∃ i z,P.info? t=some i/\i.zero=some z/\OZ z.cells.toList l=true:=by
 unfold R9 at h;split at h
 ·rename_i i hi
  split at h
  ·rename_i z hz;exact ⟨i,z,hi,hz,h⟩
  ·cases h
 ·cases h
theorem aN {t:TypeId} {b:Bool} (h:(SI P t == some b)=true) : ∀ w,(isAgg t).run P w = .ok b w:=by
 intro w;have h':SI P t=some b:=by simpa using h
 unfold SI at h';unfold isAgg;cases hu:P.underlying t with
 | none=>rw[hu]at h';cases h'
 | some d =>
  rw[hu]at h';rw[Sem.run_bind,run_underlying hu];cases d<;>simp_all<;>rfl
theorem iT {e:TypeId} {n:Nat} (h:(match P.info? e with|some i=>(match i.zero with|some z=>z.cells.size == n|none=>false)|none=>false)=true) : ∃ i z,P.info? e=some i/\i.zero=some z/\z.cells.size=n:=by
 split at h
 ·rename_i i hi
  split at h
  ·rename_i z hz;exact ⟨i,z,hi,hz,by simpa using h⟩
  ·cases h
 ·cases h
theorem AeW {s a6:Nat} {dh:List AP} (h:BD P num op (.b9 s a6 dh)=true) : ∃ t n ps e i,op = .buildSlice t n ps/\P.underlying t=some (.slice e)/\P.info? e=some i/\i.size=a6/\a6≠0/\n=dh.length/\n*a6<=16777216/\Q3 0 ps.toList dh=true/\(n=0 \/ ∃ z,i.zero=some z/\z.cells.size=a6):=by
 cases op with
 | buildSlice t n ps =>
  simp only[BD,Bool.and_eq_true,decide_eq_true_eq,bne_iff_ne,beq_iff_eq,Bool.or_eq_true]at h;obtain ⟨⟨⟨⟨⟨h1,h2⟩,h3⟩,h4⟩,h5⟩,h6⟩:=h;obtain ⟨e,he,h1⟩:=PF h1;obtain ⟨i,hi,hs⟩:=NR h1;refine ⟨t,n,ps,e,i,rfl,he,hi,hs,h2,h3,h4,h5,h6.imp id λ h6 => ?_⟩;obtain ⟨e',iv,h6⟩:=PF h6;rw[he]at iv;obtain rfl:e=e':=by simpa using iv
  obtain ⟨i',z,m8,hz,vd⟩:=iT h6;rw[hi]at m8;obtain rfl:i=i':=by simpa using m8
  exact ⟨z,hz,vd⟩
 | _=>exact Bool.noConfusion h
theorem qI {x':AP} {off:Nat} (h:BD P num op (.u6 x' off)=true) : ∃ t x f fs fd i,op = .fieldAddr t x f/\BZ x x'=true/\P.underlying t=some (.struct fs)/\fs[f]? = some fd/\fd.offset=off/\P.info? fd.type=some i/\i.size≠0:=by
 cases op with
 | fieldAddr t x f =>
  simp only[BD,Bool.and_eq_true]at h;obtain ⟨h1,h2⟩:=h;split at h2
  ·rename_i fs rm
   split at h2
   ·rename_i fd Hx
    simp only[Bool.and_eq_true,beq_iff_eq]at h2;obtain ⟨h3,h4⟩:=h2;split at h4
    ·rename_i i hi
     exact ⟨t,x,f,fs,fd,i,rfl,h1,rm,Hx,h3,hi,by simpa using h4⟩
    ·cases h4
   ·cases h2
  ·cases h2
 | _=>exact Bool.noConfusion h
theorem Ae5 {x':AP} {off n:Nat} {agg:Bool} (h:BD P num op (.oz x' off n agg)=true) : ∃ t x f fs fd i,op = .field t x f/\BZ x x'=true/\P.underlying t=some (.struct fs)/\fs[f]? = some fd/\fd.offset=off/\P.info? fd.type=some i/\i.size=n/\(∀ w,(isAgg fd.type).run P w = .ok agg w)/\n≠0:=by
 cases op with
 | field t x f =>
  simp only[BD,Bool.and_eq_true]at h;obtain ⟨⟨h1,h2⟩,h3⟩:=h;unfold pE at h2;unfold pF at h3;split at h2
  ·rename_i fs rm
   split at h2
   ·rename_i fd Hx
    simp only[Bool.and_eq_true,beq_iff_eq,bne_iff_ne]at h2;obtain ⟨⟨h4,h5⟩,h6⟩:=h2;obtain ⟨i,hi,hs⟩:=NR h5;rw[rm]at h3;simp only[Hx]at h3;exact ⟨t,x,f,fs,fd,i,rfl,h1,rm,Hx,h4,hi,hs,aN h3,h6⟩
   ·cases h2
  ·cases h2
 | _=>exact Bool.noConfusion h
theorem YI {arr:Option Nat} {a6:Nat} {x' i':AP} (h:BD P num op (.q7 arr a6 x' i')=true) : ∃ t x i e inf,op = .indexAddr t x i/\BZ x x'=true/\BZ i i'=true/\P.info? e=some inf/\inf.size=a6 /\
  ((∃ len,arr=some len/\P.underlying t=some (.array len e)/\1<len)\/(arr=none/\P.underlying t=some (.slice e)/\a6≠0)):=by
 cases op with
 | indexAddr t x i =>
  simp only[BD,Bool.and_eq_true]at h;obtain ⟨⟨h1,h2⟩,h3⟩:=h;split at h3
  ·rename_i len e tc hu
   simp only[Bool.and_eq_true,beq_iff_eq,decide_eq_true_eq]at h3;obtain ⟨⟨h4,h5⟩,h6⟩:=h3;obtain ⟨inf,hi,hs⟩:=NR h5;exact ⟨t,x,i,e,inf,rfl,h1,h2,hi,hs,.inl ⟨len,by rw[h4],hu,h6⟩⟩
  ·rename_i e hu
   simp only[Bool.and_eq_true,bne_iff_ne]at h3;obtain ⟨inf,hi,hs⟩:=NR h3.1;exact ⟨t,x,i,e,inf,rfl,h1,h2,hi,hs,.inr ⟨rfl,hu,h3.2⟩⟩
  ·cases h3
 | _=>exact Bool.noConfusion h
theorem qJ {agg:Bool} {n:Nat} {x':AP} (h:BD P num op (.ld agg n x')=true) : ∃ t x,op = .load t x/\BZ x x'=true/\(∀ w,(isAgg t).run P w = .ok agg w)/\(if agg then ∃ i,P.info? t=some i/\i.size=n else n=1):=by
 cases op with
 | load t x =>
  simp only[BD,Bool.and_eq_true]at h;obtain ⟨⟨h1,h2⟩,h3⟩:=h;refine ⟨t,x,rfl,h1,aN h2,?_⟩;cases agg
  ·simpa using h3
  ·exact NR (by simpa using h3)
 | _=>exact Bool.noConfusion h
theorem Afe {n:Nat} {x' v':AP} (h:BD P num op (.st n x' v')=true) : ∃ t x v i,op = .store t x v/\BZ x x'=true/\BZ v v'=true/\P.info? t=some i/\i.size=n:=by
 cases op with
 | store t x v =>
  simp only[BD,Bool.and_eq_true]at h;obtain ⟨⟨h1,h2⟩,h3⟩:=h;obtain ⟨i,hi,hs⟩:=NR h3;exact ⟨t,x,v,i,rfl,h1,h2,hi,hs⟩
 | _=>exact Bool.noConfusion h
theorem Ae8 {s a6 bytes:Nat} {zero:List AV} {l' c':AP} (h:BD P num op (.mk s a6 bytes zero l' c')=true) : ∃ t l c e i z,op = .makeSlice t l c/\BZ l l'=true/\BZ c c'=true/\P.underlying t=some (.slice e)/\P.info? e=some i/\i.size=a6/\i.bytes=bytes/\i.zero=some z/\OZ z.cells.toList zero=true/\a6≠0:=by
 cases op with
 | makeSlice t l c =>
  simp only[BD,Bool.and_eq_true,bne_iff_ne]at h;obtain ⟨⟨⟨h1,h2⟩,h3⟩,h4⟩:=h;obtain ⟨e,he,h3⟩:=PF h3;simp only[Bool.and_eq_true]at h3;obtain ⟨⟨h5,h6⟩,h7⟩:=h3;obtain ⟨i,hi,hs⟩:=NR h5;obtain ⟨i2,ru,ve⟩:=aW h6;obtain ⟨i3,z,zp,hz,gd⟩:=iS h7;rw[hi]at ru zp;obtain rfl:i=i2:=by simpa using ru
  obtain rfl:i=i3:=by simpa using zp
  exact ⟨t,l,c,e,i,z,rfl,h1,h2,he,hi,hs,ve,hz,gd,h4⟩
 | _=>exact Bool.noConfusion h
theorem dV {a6:Nat} {x':AP} {ox m8:Option AP} (h:BD P num op (.fk a6 x' ox m8)=true) : ∃ t x lo hi e i,op = .slice t x lo hi none/\BZ x x'=true/\OA lo ox=true/\OA hi m8=true/\P.underlying t=some (.slice e)/\P.info? e=some i/\i.size=a6/\a6≠0:=by
 cases op with
 | slice t x lo hi mx =>
  cases mx with
  | some _=>exact Bool.noConfusion h
  | none =>
   simp only[BD,Bool.and_eq_true,bne_iff_ne]at h;obtain ⟨⟨⟨⟨h1,h2⟩,h3⟩,h4⟩,h5⟩:=h;obtain ⟨e,he,h4⟩:=PF h4;obtain ⟨i,m8,hs⟩:=NR h4;exact ⟨t,x,lo,hi,e,i,rfl,h1,h2,h3,he,m8,hs,h5⟩
 | _=>exact Bool.noConfusion h
theorem Ae4 {x':AP} {i:Nat} (h:BD P num op (.ext x' i)=true) : ∃ x,op = .extract x i/\BZ x x'=true:=by
 cases op with
 | extract x j =>
  simp only[BD,Bool.and_eq_true,beq_iff_eq]at h;exact ⟨x,by rw[h.2],h.1⟩
 | _=>exact Bool.noConfusion h
theorem Z2 {α:Type} {xs:Array α} {x y:α} (h:xs.toList=[x,y]):xs = #[x,y]:=by cases xs;simp_all
theorem Z1 {α:Type} {xs:Array α} {x:α} (h:xs.toList=[x]):xs = #[x]:=by cases xs;simp_all
theorem Ae7 {x':AP} (h:BD P num op (.len x')=true) : ∃ x t e,op = .call ⟨.builtin .len,#[x],#[t]⟩/\BZ x x'=true/\P.underlying t=some (.slice e):=by
 cases op with
 | call c =>
  obtain ⟨cl,xs,ts⟩:=c;cases cl with
  | builtin b =>
   cases b<;>first|exact Bool.noConfusion h|skip
   simp only[BD]at h;split at h
   ·rename_i x t hx ht
    simp only[Bool.and_eq_true]at h;obtain ⟨e,he,_⟩:=PF h.2;exact ⟨x,t,e,by rw[Z1 hx,Z1 ht],h.1,he⟩
   ·cases h
  | value f=>cases f<;>exact Bool.noConfusion h
  | invoke=>exact Bool.noConfusion h
 | _=>exact Bool.noConfusion h
theorem qK {mx:Bool} {l8:List AP} (h:BD P num op (.mm mx l8)=true) : ∃ xs ts,op = .call ⟨.builtin (if mx then .max else .min),xs,ts⟩/\D5 xs.toList l8=true:=by
 cases op with
 | call c =>
  obtain ⟨cl,xs,ts⟩:=c;cases cl with
  | builtin b =>
   cases b<;>first|exact Bool.noConfusion h|skip
   all_goals
    simp only[BD,Bool.and_eq_true]at h;refine ⟨xs,ts,?_,h.2⟩;cases mx<;>simp_all
  | value f=>cases f<;>exact Bool.noConfusion h
  | invoke=>exact Bool.noConfusion h
 | _=>exact Bool.noConfusion h
theorem qH {s a6 bytes:Nat} {x' y':AP} (h:BD P num op (.app s a6 bytes x' y')=true) : ∃ x y t e i z tx ex,op = .call ⟨.builtin .append,#[x,y],#[t,tx]⟩/\BZ x x'=true/\BZ y y'=true/\P.underlying t=some (.slice e)/\P.info? e=some i/\i.size=a6/\i.bytes=bytes/\i.zero=some z/\z.cells.size=a6/\a6≠0/\P.underlying tx=some (.slice ex):=by
 cases op with
 | call c =>
  obtain ⟨cl,xs,ts⟩:=c;cases cl with
  | builtin b =>
   cases b<;>first|exact Bool.noConfusion h|skip
   simp only[BD]at h;split at h
   ·rename_i x y t u hx ht
    simp only[Bool.and_eq_true,beq_iff_eq,bne_iff_ne]at h;obtain ⟨⟨⟨⟨h1,h2⟩,h3⟩,h4⟩,h5⟩:=h;obtain ⟨e,he,h3⟩:=PF h3;simp only[Bool.and_eq_true]at h3;obtain ⟨⟨h6,h7⟩,h8⟩:=h3;obtain ⟨i,hi,hs⟩:=NR h6;obtain ⟨i2,ru,ve⟩:=aW h7;obtain ⟨i3,z,zp,hz,gd⟩:=iT h8;rw[hi]at ru zp;obtain rfl:i=i2:=by simpa using ru
    obtain rfl:i=i3:=by simpa using zp
    obtain ⟨ex,hex,_⟩:=PF h5;exact ⟨x,y,t,e,i,z,u,ex,by rw[Z2 hx,Z2 ht],h1,h2,he,hi,hs,ve,hz,gd,h4,hex⟩
   ·cases h
  | value f=>cases f<;>exact Bool.noConfusion h
  | invoke=>exact Bool.noConfusion h
 | _=>exact Bool.noConfusion h
theorem dT {f:Nat} {l8:List AP} (h:BD P num op (.call f l8)=true) : ∃ xs ts,op = .call ⟨.value (.func (num f)),xs,ts⟩/\D5 xs.toList l8=true:=by
 cases op with
 | call c =>
  obtain ⟨cl,xs,ts⟩:=c;cases cl with
  | builtin b=>cases b<;>exact Bool.noConfusion h
  | value g =>
   cases g with
   | func g =>
    simp only[BD,Bool.and_eq_true,beq_iff_eq]at h;exact ⟨xs,ts,by rw[h.1],h.2⟩
   | _=>exact Bool.noConfusion h
  | invoke=>exact Bool.noConfusion h
 | _=>exact Bool.noConfusion h
theorem AeY {f:Nat} {l8:List AP} (h:BD P num op (.c9 f l8)=true) : ∃ xs ts,op = .call ⟨.value (.func (num f)),xs,ts⟩/\D5 xs.toList l8=true:=by
 cases op with
 | call c =>
  obtain ⟨cl,xs,ts⟩:=c;cases cl with
  | builtin b=>cases b<;>exact Bool.noConfusion h
  | value g =>
   cases g with
   | func g =>
    simp only[BD,Bool.and_eq_true,beq_iff_eq]at h;exact ⟨xs,ts,by rw[h.1],h.2⟩
   | _=>exact Bool.noConfusion h
  | invoke=>exact Bool.noConfusion h
 | _=>exact Bool.noConfusion h
theorem AeZ {f:Nat} {l8:List AP} (h:BD P num op (.j5 f l8)=true):BD P num op (.call f l8)=true:=by
 cases op<;>exact h
theorem Afb {x':AP} (h:BD P num op (.mn x')=true) : ∃ x,op = .nilCheck x/\BZ x x'=true:=by
 cases op with
 | nilCheck x=>exact ⟨x,rfl,h⟩
 | _=>exact Bool.noConfusion h
theorem Ae2 {x':AP} (h:BD P num op (.eg x')=true) : ∃ x t e,op = .call ⟨.builtin .cap,#[x],#[t]⟩/\BZ x x'=true/\P.underlying t=some (.slice e):=by
 cases op with
 | call c =>
  obtain ⟨cl,xs,ts⟩:=c;cases cl with
  | builtin b =>
   cases b<;>first|exact Bool.noConfusion h|skip
   simp only[BD]at h;split at h
   ·rename_i x t hx ht
    simp only[Bool.and_eq_true]at h;obtain ⟨e,he,_⟩:=PF h.2;exact ⟨x,t,e,by rw[Z1 hx,Z1 ht],h.1,he⟩
   ·cases h
  | value f=>cases f<;>exact Bool.noConfusion h
  | invoke=>exact Bool.noConfusion h
 | _=>exact Bool.noConfusion h
theorem AeS {s a6 bytes:Nat} {x' y':AP} (h:BD P num op (.oa s a6 bytes x' y')=true) : ∃ x y t e i z tx k,op = .call ⟨.builtin .append,#[x,y],#[t,tx]⟩/\BZ x x'=true/\BZ y y'=true/\P.underlying t=some (.slice e)/\P.info? e=some i/\i.size=a6/\i.bytes=bytes/\i.zero=some z/\z.cells.size=a6/\a6≠0/\P.underlying tx=some (.int k):=by
 cases op with
 | call c =>
  obtain ⟨cl,xs,ts⟩:=c;cases cl with
  | builtin b =>
   cases b<;>first|exact Bool.noConfusion h|skip
   simp only[BD]at h;split at h
   ·rename_i x y t u hx ht
    simp only[Bool.and_eq_true,bne_iff_ne]at h;obtain ⟨⟨⟨⟨h1,h2⟩,h3⟩,h4⟩,h5⟩:=h;obtain ⟨e,he,h3⟩:=PF h3;simp only[Bool.and_eq_true]at h3;obtain ⟨⟨h6,h7⟩,h8⟩:=h3;obtain ⟨i,hi,hs⟩:=NR h6;obtain ⟨i2,ru,ve⟩:=aW h7;obtain ⟨i3,z,zp,hz,gd⟩:=iT h8;rw[hi]at ru zp;obtain rfl:i=i2:=by simpa using ru
    obtain rfl:i=i3:=by simpa using zp
    split at h5
    ·rename_i k hk
     exact ⟨x,y,t,e,i,z,u,k,by rw[Z2 hx,Z2 ht],h1,h2,he,hi,hs,ve,hz,gd,h4,hk⟩
    ·cases h5
   ·cases h
  | value f=>cases f<;>exact Bool.noConfusion h
  | invoke=>exact Bool.noConfusion h
 | _=>exact Bool.noConfusion h
theorem Ae1 {s f:Nat} {l8:List AP} (h:BD P num op (.x7 s f l8)=true):BD P num op (.c9 f l8)=true:=by
 cases op<;>exact h
theorem Ae0 {s f:Nat} {l8:List AP} (h:BD P num op (.s8 s f l8)=true):BD P num op (.call f l8)=true:=by
 cases op<;>exact h
theorem Aff {s n:Nat} {x' v':AP} (h:BD P num op (.mq s n x' v')=true):BD P num op (.st n x' v')=true:=by
 cases op<;>exact h
theorem Ae6 {ne:Bool} {x':AP} (h:BD P num op (.ta ne x')=true) : ∃ t x u e,op = .binOp (if ne then .neq else .eql) t x (.const (.slice none 0 0)) u/\P.underlying t=some (.slice e)/\BZ x x'=true:=by
 cases op with
 | binOp f' t x y u =>
  simp only[BD]at h;split at h
  ·rename_i heq
   simp only[Op.binOp.injEq]at heq;obtain ⟨rfl,rfl,rfl,rfl,rfl⟩:=heq;simp only[Bool.and_eq_true]at h;obtain ⟨⟨h1,h2⟩,h3⟩:=h;unfold JP at h2;split at h2
   ·rename_i e he
    refine ⟨t,x,u,e,?_,he,h3⟩;cases ne
    ·simp only[Bool.false_eq_true,if_false,beq_iff_eq]at h1;rw[h1];rfl
    ·simp only[if_true,beq_iff_eq]at h1;rw[h1];rfl
   ·cases h2
  ·cases h
 | _=>exact Bool.noConfusion h
theorem Afd {tb:List Nat} {i':AP} (h:BD P num op (.gf tb i')=true) : ∃ t s i,op = .index t (.const (.string s)) i/\P.underlying t=some .string/\s.data.toList.map (λ b=>b.toNat)=tb/\BZ i i'=true:=by
 cases op with
 | index t x i =>
  simp only[BD]at h;split at h
  ·rename_i heq
   simp only[Op.index.injEq]at heq;obtain ⟨rfl,rfl,rfl⟩:=heq;simp only[Bool.and_eq_true,beq_iff_eq]at h;obtain ⟨⟨h1,h2⟩,h3⟩:=h;exact ⟨_,_,_,rfl,by split at h1<;>simp_all,h2,h3⟩
  ·cases h
 | _=>exact Bool.noConfusion h
theorem Ae9 {p:Bool} {f:Nat} {l8:List AP} (h:BD P num op (.pz p f l8)=true) : ∃ first xs,op = .makeFunc (.func (num f)) first xs/\first = #[]/\D5 xs.toList l8=true:=by
 cases op with
 | makeFunc g first xs =>
  cases g with
  | func g =>
   simp only[BD,Bool.and_eq_true,beq_iff_eq]at h;obtain ⟨⟨rfl,h2⟩,h3⟩:=h;refine ⟨first,xs,rfl,?_,h3⟩;obtain ⟨l⟩:=first
   simp at h2;rw[h2]
  | _=>exact Bool.noConfusion h
 | _=>exact Bool.noConfusion h
theorem dU {x':AP} {l8:List AP} (h:BD P num op (.m4 x' l8)=true) : ∃ x xs ts,op = .call ⟨.value x,xs,ts⟩/\BZ x x'=true/\D5 xs.toList l8=true:=by
 cases op with
 | call c =>
  obtain ⟨cl,xs,ts⟩:=c;cases cl with
  | builtin b=>cases b<;>exact Bool.noConfusion h
  | value g =>
   simp only[BD,Bool.and_eq_true]at h;exact ⟨g,xs,ts,rfl,h.1,h.2⟩
  | invoke=>exact Bool.noConfusion h
 | _=>exact Bool.noConfusion h
end
end Go.b8
