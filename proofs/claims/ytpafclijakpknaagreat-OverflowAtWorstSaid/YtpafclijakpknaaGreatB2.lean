/-
  Functions of the program, as the abstract machine reads them (group TrG). Written by a program (gen.py) off the model's own reading of the translation; the seat's check ties them to it.
-/
import Derived.Test.YtpafclijakpknaaGreatB1
import Derived.Calls
set_option linter.unusedSimpArgs false
set_option linter.unusedVariables false
set_option linter.unnecessarySimpa false
namespace Go.b8.F
open C
structure xy (L:Lib):Prop extends dt L,ax L,pq L,ui L where
end Go.b8.F
namespace Go.b8.F
open C
namespace RB
def r0:=[bx 2 0,bx 3 1,mv 4 k0]
def r1:=[tt 7 2 2,ca 8 86 [7],tt 9 2 3,ca 10 86 [9],m 5 8,m 6 10]
def r2:=[m 12 5,m 13 6,ls 14 12 13,m 11 14]
def r3:=[mv 4 (k (-1))]
def r4:=[m 16 5,m 17 6,bi 18 .gtr 16 17,m 15 18]
def r5:=[mv 4 k1]
def r6:=[m 20 5,bi 21 .eql 20 (k (-1)),m 19 21]
def r7:=[fa 22 3 1,uu 23 1 22,fa 24 2 1,uu 25 1 24,ca 26 67 [23,25],m 4 26]
def r8:=[fa 27 2 1,uu 28 1 27,fa 29 3 1,uu 30 1 29,ca 31 67 [28,30],m 4 31]
def c:=(s (d r0 [0,1,4]) (s (e r1 (ra 7 4)) (s (b 0 (s (d r2 [12,13,14]) (i 11 (s (d r3 [2,3,5,6,11]) .ret) (s (d r4 [6,11,16,17,18]) (i 15 (s (d r5 [2,3,5,15]) .ret) (s (d r6 [5,15,20,21]) (i 19 (s (d r7 (rl [2,3,19] 22 5)) .ret) .skip))))))) (s (d r8 (rl [2,3,19] 27 5)) .ret))))
end RB
def RB:AFn:=⟨2,RB.c,[.tmp 4],false⟩
namespace PD
def r0:=[bx 2 0,bx 3 1,mv 4 k0]
def r1:=[q 7 [5,6] (.ld true 3 2),q 8 [5,6] (.n9 89 [7]),q 9 [5,6] (.ld true 3 3),q 10 [5,6] (.n9 89 [9]),
 al 5 [(.bool false),.nil,.nil,(.bool false)],al 6 [(.bool false),.nil,.nil,(.bool false)],so 4 5 8,so 4 6 10]
def r2:=[fa 11 5 3,uu 12 1 11,m 13 12,g 14 13 true (.k7 6 3),g 15 13 true (.ld false 1 14),pk 16 13 15 kf]
def r3:=[fa 17 5 0,fa 18 17 0,tt 19 2 18,fa 20 6 0,fa 21 20 0,tt 22 2 21,ca 23 197 [19,22],m 4 23]
def r4:=[fa 24 5 0,fa 25 24 0,tt 26 2 25,fa 27 6 0,fa 28 27 2,uu 29 1 28,o 30 (.n9 91 [29]),
 ca 31 88 [26,30],fa 32 6 0,fa 33 32 0,tt 34 2 33,fa 35 5 0,fa 36 35 2,uu 37 1 36,
 o 38 (.n9 91 [37]),ca 39 88 [34,38],ca 40 197 [31,39],m 4 40]
def c:=(s (d r0 [0,1,4]) (s (e r1 [2,3,7,8,9,10]) (s (s (d r2 (ra 11 5)) (i 16 (s (d r3 (rl [5,6] 16 8)) .ret) .skip)) (s (e r4 (rl [5,6,16] 24 17)) .ret))))
end PD
def PD:AFn:=⟨2,PD.c,[.tmp 4],false⟩
namespace T5
def r0:=[bx 1 0,al 2 z3]
def r1:=[tt 3 3 1,o 4 (.n9 149 [3]),ca 5 95 [4],so 3 2 5]
def c:=(s (d r0 [0]) (s (d r1 [1,3,4,5]) .ret))
end T5
def T5:AFn:=⟨1,T5.c,[.cell 2 true 3],false⟩
namespace TQ
def r0:=[mv 2 k0]
def r1:=[m 3 0,o 4 (.e8 169 [3]),ln 5 4,sb 6 5 k1,m 2 6]
def c:=(s (d r0 [2]) (s (d r1 [0,3,4,5,6]) .ret))
end TQ
def TQ:AFn:=⟨1,TQ.c,[.tmp 2],false⟩
namespace V2
def r0:=[bx 1 0,mv 2 kf]
def r1:=[fa 3 1 0,uu 4 1 3,ca 5 200 [4],bi 6 .gtr 5 (k 48),m 7 6,g 8 7 false (.k7 1 1),g 9 7 false (.ld false 1 8),
 g 10 7 false (.call 200 [9]),g 11 7 false (.bin .gtr 10 (k 48)),pk 12 7 kt 11]
def r2:=[mv 2 kf]
def r3:=[fa 13 1 1,uu 14 1 13,ln 15 14,bi 16 .gtr 15 k0,m 17 16,g 18 17 true (.k7 1 1),g 19 17 true (.ld false 1 18),
 g 20 17 true (.v7 none 3 19 k0),g 21 17 true (.ld true 3 20),g 22 17 true (.call 96 [k1]),g 23 17 true (.call 198 [21,22]),
 g 24 17 true (.bin .eql 23 k0),pk 25 17 24 kf,m 2 25]
def c:=(s (d r0 [0,2]) (s (s (d r1 (ra 3 9)) (i 12 (s (d r2 [1,12]) .ret) .skip)) (s (e r3 (rl [1] 12 14)) .ret)))
end V2
def V2:AFn:=⟨1,V2.c,[.tmp 2],false⟩
namespace WA
def r0:=[mv 2 k0]
def r1:=[m 4 0,ln 5 4,sb 6 5 k1,m 3 6]
def r2:=[m 7 3,bi 8 .gtr 7 k0]
def r4:=[m 11 0,m 12 3,ia 13 3 11 12,tt 14 3 13,ca 15 97 [14],bi 16 .neq 15 k0]
def r5:=[m 17 3,m 2 17]
def r3:=[m 9 3,sb 10 9 k1,m 3 10]
def r6:=[mv 2 k0]
def l1:=(s (s (d r2 [7]) (i 8 .skip (x 0))) (s (b 1 (s (d r4 (rl [8] 11 5)) (i 16 (s (d r5 [0,3,16,17]) .ret) .skip))) (d r3 [9,10,16])))
def c:=(s (d r0 [2]) (s (s (d r1 [4,5,6]) (b 0 (w l1))) (s (d r6 [0,3,8]) .ret)))
end WA
def WA:AFn:=⟨1,WA.c,[.tmp 2],false⟩
namespace V9
def r0:=[al 4 z3]
def r1:=[m 5 1,m 6 0,ln 7 6,ls 8 5 7]
def r2:=[m 9 0,m 10 1,ia 11 3 9 10,tt 12 3 11,ca 13 95 [12],so 3 4 13]
def r3:=[ca 14 96 [k0],so 3 4 14]
def c:=(s (p r0) (s (s (d r1 [5,6,7]) (i 8 (s (d r2 (rl [0,1] 8 6)) .ret) .skip)) (s (d r3 [0,1,8,14]) .ret)))
end V9
def V9:AFn:=⟨2,V9.c,[.cell 4 true 3],false⟩
namespace WB
def r0:=[mv 2 (.c .nil)]
def r1:=[m 5 0,o 6 (.mk 6 3 56 z3 5 5),m 3 6]
def r2:=[m 7 0,mv 8 k0]
def r3:=[ls 9 8 7]
def r4:=[m 10 8,m 4 10]
def r5:=[m 11 3,m 12 4,ca 13 96 [k0],ia 14 3 11 12,so 3 14 13]
def r6:=[ad 15 8 k1,m 8 15]
def r7:=[m 16 3,m 2 16]
def l1:=(s (p r3) (s (i 9 .skip (x 0)) (s (b 1 (s (d r4 [9,10]) (d r5 (rl [4] 11 4)))) (d r6 [15]))))
def c:=(s (d r0 [2]) (s (d r1 [5,6]) (s (s (d r2 [0]) (b 0 (w l1))) (s (d r7 [3,7,8,9,16]) .ret))))
end WB
def WB:AFn:=⟨1,WB.c,[.tmp 2],false⟩
namespace V8
def r0:=[bx 1 0,al 2 z6,mv 3 k0]
def r1:=[tt 10 2 1,ca 11 201 [10],nt 12 11]
def r2:=[o 13 (.build z6 []),so 6 2 13,mv 3 (k 2)]
def r3:=[fa 14 1 0,uu 15 1 14,ca 16 204 [15],fa 17 1 1,uu 18 1 17,ca 19 204 [18],o 20 (.mm true [16,19]),
 m 4 20]
def r4:=[m 21 4,bi 22 .gtr 21 (k 16)]
def r5:=[o 23 (.build z6 []),so 6 2 23,mv 3 (k 12)]
def r6:=[fa 24 1 0,uu 25 1 24,ca 26 205 [25,k0],m 27 4,o 28 (.q6 28 206 [27]),
 o 29 (.build z6 [(3,3,26),(1,1,28)]),al 5 z6,
 so 6 5 29]
def r7:=[m 30 4,bi 31 .gtr 30 k0]
def r8:=[fa 32 5 1,uu 33 1 32,ca 34 96 [k1],ia 35 3 33 k0,so 3 35 34]
def r9:=[m 36 4,mv 37 k0]
def C9:=[ls 38 37 36]
def DH:=[m 39 37,m 6 39]
def o9:=[m 40 4,o 41 (.q6 41 206 [40]),m 7 41]
def DY:=[m 42 6,bi 43 .gtr 42 k0]
def x9:=[m 44 7,m 45 6,sb 46 45 k1,ca 47 96 [k1],ia 48 3 44 46,so 3 48 47]
def y7:=[m 49 4,mv 50 k0]
def ag:=[ls 51 50 49]
def FG:=[m 52 50,m 8 52]
def bg:=[m 53 7,m 54 8,fa 55 1 1,uu 56 1 55,m 57 8,ad 58 57 k1,ca 59 205 [56,58],ca 60 199 [59],
 ia 61 3 53 54,so 3 61 60]
def cp:=[ad 62 50 k1,m 50 62]
def cz:=[fa 63 5 0,uu 64 1 63,m 65 7,o 66 (.a8 66 1 [65]),o 67 (.app 67 1 24 64 66),fa 68 5 0,so 1 68 67]
def ef:=[fa 69 1 0,q 70 [9] (.ld false 1 69),q 71 [9] (.call 205 [70,k0]),fa 72 1 1,q 73 [9] (.ld false 1 72),
 m 74 6,ad 75 74 k1,q 76 [9] (.call 205 [73,75]),q 77 [9] (.call 99 [71,76]),
 al 9 z3,so 3 9 77]
def iy:=[fa 78 5 2,q 79 [87] (.ld false 1 78),fa 80 1 0,uu 81 1 80,m 82 6,ad 83 82 k1,ca 84 205 [81,83],
 tt 85 3 9,ca 86 150 [84,85],o 87 (.a8 87 3 [86]),o 88 (.app 88 3 56 79 87),fa 89 5 2,so 1 89 88]
def ko:=[ad 90 37 k1,m 37 90]
def K8:=[tt 91 6 5,so 6 2 91,mv 3 k0]
def l2:=(s (p ag) (s (i 51 .skip (x 2)) (s (b 3 (s (d FG [51,52]) (d bg (rl [8] 53 9)))) (d cp [62]))))
def l1:=(s (p C9) (s (i 38 .skip (x 0)) (s (b 1 (s (d DH [38,39]) (s (d o9 [40,41]) (s (s (d DY [42]) (i 43 (d x9 (ra 43 6)) (s (d y7 [43]) (b 2 (w l2))))) (s (d cz (rl [7,49,50,51] 63 6)) (s (e ef (ra 69 9)) (e iy (rl [6,9] 78 12)))))))) (d ko [90]))))
def c:=(s (d r0 [0,3]) (s (s (d r1 [10,11]) (i 12 (s (d r2 [1,12,13]) .ret) .skip)) (s (e r3 (rl [12] 14 7)) (s (s (d r4 [21]) (i 22 (s (d r5 [1,4,22,23]) .ret) .skip)) (s (d r6 (rl [22] 24 6)) (s (s (d r7 [30]) (i 31 (e r8 (ra 31 5)) .skip)) (s (s (d r9 [31]) (b 0 (w l1))) (s (d K8 [1,4,5,36,37,38,91]) .ret))))))))
end V8
def V8:AFn:=⟨1,V8.c,[.cell 2 true 6,.tmp 3],false⟩
structure w9 (L:Lib):Prop extends xy L where
 RB:L 197=some F.RB
 PD:L 198=some F.PD
 T5:L 199=some F.T5
 TQ:L 200=some F.TQ
 V2:L 201=some F.V2
 WA:L 204=some F.WA
 V9:L 205=some F.V9
 WB:L 206=some F.WB
 V8:L 207=some F.V8
end Go.b8.F

namespace Go.b8.F
open C
namespace TV
def r0:=[bx 1 0,al 2 z3]
def r1:=[fa 3 1 0,fa 4 3 1,uu 5 1 4,o 6 (.build [(.bool false),.nil] [(1,1,5)]),fa 7 1 2,uu 8 1 7,
 o 9 (.build z3 [(0,2,6),(2,1,8)]),ca 10 95 [9],so 3 2 10]
def c:=(s (d r0 [0]) (s (d r1 (rl [1] 3 8)) .ret))
end TV
def TV:AFn:=⟨1,TV.c,[.cell 2 true 3],false⟩
structure bq (L:Lib):Prop extends w9 L where
 TV:L 256=some F.TV
end Go.b8.F

namespace Go.b8.F
open C
namespace TB
def r0:=[bx 1 0,al 2 z3]
def r1:=[tt 3 3 1,ca 4 95 [3],o 5 (.rn 4 2 1 false),o 6 (.build [(.bool false),.nil] [(1,1,5)]),o 7 (.a8 7 1 [(.c (.int .u32 (1)))]),
 o 8 (.build z3 [(0,2,6),(2,1,7)]),so 3 2 8]
def c:=(s (d r0 [0]) (s (d r1 (rl [1] 3 6)) .ret))
end TB
def TB:AFn:=⟨1,TB.c,[.cell 2 true 3],false⟩
namespace S9
def r0:=[al 2 z3]
def r1:=[ca 10 96 [k1],al 3 z3,so 3 3 10]
def r2:=[m 11 0,ln 12 11,mv 13 k0]
def r3:=[ls 14 13 12]
def r4:=[ia 15 1 11 13,uu 16 1 15,m 5 16]
def r5:=[m 17 5,ln 18 17,mv 19 k0]
def r6:=[ls 20 19 18]
def r7:=[ia 21 3 17 19,tt 22 3 21,al 7 z3,so 3 7 22]
def r8:=[q 24 [8] (.ld true 3 3),q 25 [8] (.ld true 3 7),q 26 [8] (.call 294 [25]),q 27 [8] (.call 100 [24,26]),m 23 27,
 et 28 23 0,et 29 23 1,al 8 z3,so 3 8 28,m 9 29]
def r9:=[tt 30 3 3,tt 31 3 8,ca 32 294 [31],ca 33 99 [30,32],so 3 3 33]
def C9:=[ad 34 19 k1,m 19 34]
def DH:=[ad 35 13 k1,m 13 35]
def o9:=[tt 36 3 3,so 3 2 36]
def l2:=(s (p r6) (s (i 20 .skip (x 2)) (s (b 3 (s (d r7 [20,21,22]) (s (e r8 (rl [7,9] 23 7)) (e r9 (rl [8] 30 4))))) (d C9 [34]))))
def l1:=(s (p r3) (s (i 14 .skip (x 0)) (s (b 1 (s (d r4 [14,15,16]) (s (d r5 [5]) (b 2 (w l2))))) (d DH [17,18,19,20,35]))))
def c:=(s (p r0) (s (d r1 [10]) (s (s (d r2 [0]) (b 0 (w l1))) (s (d o9 [3,11,12,13,14,36]) .ret))))
end S9
def S9:AFn:=⟨1,S9.c,[.cell 2 true 3],false⟩
namespace TL
def r0:=[bx 3 1,mv 4 (.c .nil)]
def r1:=[m 7 0,ln 8 7,o 9 (.mk 9 3 56 z3 8 8),m 5 9]
def r2:=[m 10 0,ln 11 10,mv 12 k0]
def r3:=[ls 13 12 11]
def r4:=[m 14 12,m 6 14]
def r5:=[m 15 5,m 16 6,m 17 0,m 18 6,ia 19 3 17 18,tt 20 3 19,tt 21 3 3,ca 22 99 [20,21],ia 23 3 15 16,
 so 3 23 22]
def r6:=[ad 24 12 k1,m 12 24]
def r7:=[m 25 5,m 4 25]
def l1:=(s (p r3) (s (i 13 .skip (x 0)) (s (b 1 (s (d r4 [13,14]) (e r5 (rl [6] 15 9)))) (d r6 [24]))))
def c:=(s (d r0 [1,4]) (s (d r1 [7,8,9]) (s (s (d r2 [10]) (b 0 (w l1))) (s (d r7 [0,3,5,11,12,13,25]) .ret))))
end TL
def TL:AFn:=⟨2,TL.c,[.tmp 4],false⟩
namespace TC
def r0:=[al 4 z3]
def r1:=[ca 7 96 [k0],al 5 z3,so 3 5 7]
def r2:=[m 8 0,ln 9 8,mv 10 k0]
def r3:=[ls 11 10 9]
def r4:=[m 12 10,m 6 12]
def r5:=[m 13 0,m 14 6,ia 15 3 13 14,tt 16 3 15,ca 17 97 [16],bi 18 .neq 17 k0,m 19 18,g 20 19 true (.v3 1),
 g 21 19 true (.v3 6),g 22 19 true (.v7 none 3 20 21),g 23 19 true (.ld true 3 22),g 24 19 true (.call 97 [23]),g 25 19 true (.bin .neq 24 k0),
 pk 26 19 25 kf]
def r6:=[tt 27 3 5,m 28 0,m 29 6,ia 30 3 28 29,tt 31 3 30,m 32 1,m 33 6,ia 34 3 32 33,tt 35 3 34,
 ca 36 99 [31,35],ca 37 98 [27,36],so 3 5 37]
def r7:=[ad 38 10 k1,m 10 38]
def r8:=[tt 39 3 5,so 3 4 39]
def l1:=(s (p r3) (s (i 11 .skip (x 0)) (s (b 1 (s (d r4 [11,12]) (s (d r5 (ra 13 13)) (i 26 (e r6 (rl [6] 26 12)) .skip)))) (d r7 [6,26,38]))))
def c:=(s (p r0) (s (d r1 [7]) (s (s (d r2 [8]) (b 0 (w l1))) (s (d r8 [0,1,5,9,10,11,39]) .ret))))
end TC
def TC:AFn:=⟨2,TC.c,[.cell 4 true 3],false⟩
namespace S4
def r0:=[mv 4 (.c .nil)]
def r1:=[m 7 0,ln 8 7,o 9 (.mk 9 3 56 z3 8 8),m 5 9]
def r2:=[m 10 0,ln 11 10,mv 12 k0]
def r3:=[ls 13 12 11]
def r4:=[m 14 12,m 6 14]
def r5:=[m 15 5,m 16 6,m 17 0,m 18 6,ia 19 1 17 18,uu 20 1 19,m 21 1,ca 22 297 [20,21],ia 23 3 15 16,so 3 23 22]
def r6:=[ad 24 12 k1,m 12 24]
def r7:=[m 25 5,m 4 25]
def l1:=(s (p r3) (s (i 13 .skip (x 0)) (s (b 1 (s (d r4 [13,14]) (d r5 (rl [6] 15 9)))) (d r6 [24]))))
def c:=(s (d r0 [4]) (s (d r1 [7,8,9]) (s (s (d r2 [10]) (b 0 (w l1))) (s (d r7 [0,1,5,11,12,13,25]) .ret))))
end S4
def S4:AFn:=⟨2,S4.c,[.tmp 4],false⟩
namespace TJ
def r0:=[mv 2 (.c .nil)]
def r1:=[m 10 0,ln 11 10,m 3 11]
def r2:=[m 12 3,o 13 (.mk 13 1 24 [.nil] 12 12),m 4 13]
def r3:=[m 14 3,mv 15 k0]
def r4:=[ls 16 15 14]
def r5:=[m 17 15,m 5 17]
def r6:=[m 18 4,m 19 5,m 20 3,o 21 (.mk 21 3 56 z3 20 20),ia 22 1 18 19,so 1 22 21]
def r7:=[ad 23 15 k1,m 15 23]
def r8:=[m 24 3,o 25 (.mk 25 3 56 z3 24 24),m 6 25]
def r9:=[m 26 3,mv 27 k0]
def C9:=[ls 28 27 26]
def DH:=[m 29 27,m 7 29]
def o9:=[m 30 3,mv 31 k0]
def DY:=[ls 32 31 30]
def x9:=[m 33 31,m 8 33]
def y7:=[m 34 6,m 35 8,m 36 0,m 37 8,ia 38 1 36 37,uu 39 1 38,m 40 7,ia 41 3 39 40,tt 42 3 41,
 ia 43 3 34 35,so 3 43 42]
def ag:=[ad 44 31 k1,m 31 44]
def FG:=[m 45 3,mv 46 k0]
def bg:=[ls 47 46 45]
def cp:=[m 48 46,m 9 48]
def cz:=[m 49 4,m 50 9,ia 51 1 49 50,uu 52 1 51,m 53 7,m 54 0,m 55 9,ia 56 1 54 55,uu 57 1 56,m 58 6,
 ca 59 297 [57,58],ia 60 3 52 53,so 3 60 59]
def ef:=[ad 61 46 k1,m 46 61]
def iy:=[ad 62 27 k1,m 27 62]
def ko:=[m 63 4,m 2 63]
def l1:=(s (p r4) (s (i 16 .skip (x 0)) (s (b 1 (s (d r5 [16,17]) (d r6 (rl [5] 18 5)))) (d r7 [23]))))
def l3:=(s (p DY) (s (i 32 .skip (x 4)) (s (b 5 (s (d x9 [32,33]) (d y7 (rl [8] 34 10)))) (d ag [44]))))
def l4:=(s (p bg) (s (i 47 .skip (x 6)) (s (b 7 (s (d cp [47,48]) (e cz (rl [9] 49 12)))) (d ef [61]))))
def l2:=(s (p C9) (s (i 28 .skip (x 2)) (s (b 3 (s (d DH [28,29]) (s (s (p o9) (b 4 (w l3))) (s (d FG [30,31,32]) (b 6 (w l4)))))) (d iy [7,45,46,47,62]))))
def c:=(s (d r0 [2]) (s (d r1 [10,11]) (s (d r2 [12,13]) (s (s (p r3) (b 0 (w l1))) (s (d r8 [14,15,16,24,25]) (s (s (p r9) (b 2 (w l2))) (s (d ko [0,3,4,6,26,27,28,63]) .ret)))))))
end TJ
def TJ:AFn:=⟨1,TJ.c,[.tmp 2],false⟩
namespace TM
def r0:=[al 2 z3]
def r1:=[ca 6 96 [k0],al 3 z3,so 3 3 6]
def r2:=[m 7 0,ln 8 7,mv 9 k0]
def r3:=[ls 10 9 8]
def r4:=[ia 11 3 7 9,tt 12 3 11,al 5 z3,so 3 5 12]
def r5:=[tt 13 3 3,tt 14 3 5,ca 15 256 [14],ca 16 98 [13,15],so 3 3 16]
def r6:=[ad 17 9 k1,m 9 17]
def r7:=[tt 18 3 3,so 3 2 18]
def l1:=(s (p r3) (s (i 10 .skip (x 0)) (s (b 1 (s (d r4 [10,11,12]) (e r5 (rl [5] 13 4)))) (d r6 [17]))))
def c:=(s (p r0) (s (d r1 [6]) (s (s (d r2 [0]) (b 0 (w l1))) (s (d r7 [3,7,8,9,10,18]) .ret))))
end TM
def TM:AFn:=⟨1,TM.c,[.cell 2 true 3],false⟩
namespace TG
def r0:=[al 2 z3]
def r1:=[ca 7 96 [k0],al 3 z3,so 3 3 7]
def r2:=[m 8 0,ln 9 8,mv 10 k0]
def r3:=[ls 11 10 9]
def r4:=[ia 12 3 8 10,tt 13 3 12,al 5 z3,so 3 5 13]
def r5:=[tt 14 3 5,ca 15 256 [14],al 6 z3,so 3 6 15]
def r6:=[tt 16 3 6,tt 17 3 3,ca 18 198 [16,17],bi 19 .gtr 18 k0]
def r7:=[tt 20 3 6,so 3 3 20]
def r8:=[ad 21 10 k1,m 10 21]
def r9:=[tt 22 3 3,so 3 2 22]
def l1:=(s (p r3) (s (i 11 .skip (x 0)) (s (b 1 (s (d r4 [11,12,13]) (s (d r5 [5,14,15]) (s (d r6 [16,17,18]) (i 19 (d r7 [6,19,20]) .skip))))) (d r8 [6,19,21]))))
def c:=(s (p r0) (s (d r1 [7]) (s (s (d r2 [0]) (b 0 (w l1))) (s (d r9 [3,8,9,10,11,22]) .ret))))
end TG
def TG:AFn:=⟨1,TG.c,[.cell 2 true 3],false⟩
namespace TA
def r0:=[bx 3 1,mv 4 kf]
def r1:=[m 8 0,ln 9 8,mv 10 k0]
def r2:=[ls 11 10 9]
def r3:=[ia 12 1 8 10,uu 13 1 12,m 6 13]
def r4:=[m 14 6,ca 15 300 [14],al 7 z3,so 3 7 15]
def r5:=[tt 16 3 7,tt 17 3 7,ca 18 98 [16,17],tt 19 3 3,ca 20 198 [18,19],bi 21 .gtr 20 k0]
def r6:=[mv 4 kf]
def r7:=[ad 22 10 k1,m 10 22]
def r8:=[mv 4 kt]
def l1:=(s (p r2) (s (i 11 .skip (x 0)) (s (b 1 (s (d r3 [11,12,13]) (s (d r4 [6,14,15]) (s (e r5 (rl [7] 16 5)) (i 21 (s (d r6 [3,8,9,10,21]) .ret) .skip))))) (d r7 [21,22]))))
def c:=(s (d r0 [1,4]) (s (s (d r1 [0]) (b 0 (w l1))) (s (d r8 (rl [3] 8 4)) .ret)))
end TA
def TA:AFn:=⟨2,TA.c,[.tmp 4],false⟩
namespace TK
def r0:=[al 2 [.nil,(.bool false),.nil,.nil,z,(.bool false),.nil,.nil],mv 3 k0]
def r1:=[m 9 0,ca 10 295 [9],ca 11 96 [k1],
 o 12 (.build [.nil,(.bool false),.nil,.nil,z,(.bool false),.nil,.nil] [(1,3,10),(4,1,k1),(5,3,11)]),
 al 4 [.nil,(.bool false),.nil,.nil,z,(.bool false),.nil,.nil],so 8 4 12]
def r2:=[m 13 0,ln 14 13,mv 15 k0]
def r3:=[ls 16 15 14]
def r4:=[ia 17 1 13 15,uu 18 1 17,m 6 18]
def r5:=[fa 19 4 0,q 20 [25] (.ld false 1 19),m 21 6,fa 22 4 1,tt 23 3 22,ca 24 296 [21,23],o 25 (.a8 25 1 [24]),
 o 26 (.app 26 1 24 20 25),fa 27 4 0,so 1 27 26]
def r6:=[ad 28 15 k1,m 15 28]
def r7:=[fa 29 4 0,q 30 [8] (.ld false 1 29),fa 31 4 1,q 32 [8] (.ld true 3 31),al 8 z3,
 m 7 30,so 3 8 32]
def r8:=[m 33 7,tt 34 3 8,ca 35 302 [33,34],nt 36 35]
def r9:=[fa 37 4 4,uu 38 1 37,bi 39 .eql 38 (k 64)]
def C9:=[o 40 (.build [.nil,(.bool false),.nil,.nil,z,(.bool false),.nil,.nil] []),so 8 2 40,mv 3 (k 14)]
def DH:=[m 41 7,ca 42 299 [41],tt 43 3 8,tt 44 3 8,ca 45 99 [43,44],m 7 42,so 3 8 45]
def o9:=[fa 46 4 4,uu 47 1 46,bi 48 .mul 47 (k 2),fa 49 4 4,so 1 49 48]
def DY:=[fa 50 4 4,uu 51 1 50,bi 52 .mul (k 2) 51,sb 53 52 k1,mv 54 k0]
def x9:=[ls 55 54 53]
def y7:=[fa 56 4 5,tt 57 3 56,fa 58 4 1,tt 59 3 58,ca 60 99 [57,59],fa 61 4 5,so 3 61 60]
def ag:=[ad 62 54 k1,m 54 62]
def FG:=[tt 63 8 4,so 8 2 63,mv 3 k0]
def l1:=(s (p r3) (s (i 16 .skip (x 0)) (s (b 1 (s (d r4 [16,17,18]) (e r5 (rl [6] 19 9)))) (d r6 [28]))))
def l2:=(s (s (d r8 [33,34,35]) (i 36 .skip (x 2))) (b 3 (s (s (d r9 [36,37,38]) (i 39 (s (d C9 [4,7,8,39,40]) .ret) .skip)) (s (e DH (rl [39] 41 5)) (d o9 (ra 46 4))))))
def l3:=(s (p x9) (s (i 55 .skip (x 4)) (s (b 5 (d y7 (ra 55 7))) (d ag [62]))))
def c:=(s (d r0 [3]) (s (d r1 (ra 9 4)) (s (s (d r2 [0]) (b 0 (w l1))) (s (e r7 (rl [13,14,15,16] 29 4)) (s (b 2 (w l2)) (s (s (d DY [7,8,36,50,51,52]) (b 4 (w l3))) (s (d FG [4,53,54,55,63]) .ret)))))))
end TK
def TK:AFn:=⟨1,TK.c,[.cell 2 true 8,.tmp 3],false⟩
namespace TE
def r0:=[bx 2 0,al 4 [.nil,(.bool false),.nil,.nil]]
def r1:=[ca 8 96 [k0],o 9 (.build [.nil,(.bool false),.nil,.nil] [(1,3,8)]),al 5 [.nil,(.bool false),.nil,.nil],so 4 5 9]
def r2:=[m 10 1,m 6 10]
def r3:=[fa 11 2 4,uu 12 1 11,bi 13 .mul (k 2) 12,mv 14 k0]
def r4:=[ls 15 14 13]
def r5:=[m 16 14,m 7 16]
def r6:=[m 17 7,bi 18 .gtr 17 k0]
def r7:=[fa 19 2 0,uu 20 1 19,m 21 6,ca 22 298 [20,21],m 6 22]
def r8:=[fa 23 5 0,uu 24 1 23,m 25 6,o 26 (.a8 26 1 [25]),o 27 (.app 27 1 24 24 26),fa 28 5 0,so 1 28 27]
def r9:=[m 29 7,fa 30 2 4,uu 31 1 30,bi 32 .geq 29 31]
def C9:=[fa 33 5 1,tt 34 3 33,fa 35 2 1,tt 36 3 35,ca 37 99 [34,36],m 38 6,ca 39 301 [38],
 ca 40 98 [37,39],fa 41 5 1,so 3 41 40]
def DH:=[ad 42 14 k1,m 14 42]
def o9:=[tt 43 4 5,so 4 4 43]
def l1:=(s (p r4) (s (i 15 .skip (x 0)) (s (b 1 (s (d r5 [15,16]) (s (s (d r6 [17]) (i 18 (d r7 (ra 18 5)) .skip)) (s (d r8 (rl [18] 23 6)) (s (d r9 [7,29,30,31]) (i 32 (d C9 (ra 32 10)) .skip)))))) (d DH [32,42]))))
def c:=(s (d r0 [0]) (s (d r1 [8,9]) (s (d r2 [1,10]) (s (s (d r3 [11,12]) (b 0 (w l1))) (s (d o9 [2,5,6,13,14,15,43]) .ret)))))
end TE
def TE:AFn:=⟨2,TE.c,[.cell 4 true 4],false⟩
namespace TD
def r0:=[bx 3 0,bx 5 2,al 6 z3]
def r1:=[ca 10 96 [k0],al 7 z3,so 3 7 10]
def r2:=[fa 11 5 0,uu 12 1 11,ln 13 12,mv 14 k0]
def r3:=[ls 15 14 13]
def r4:=[ia 16 1 12 14,uu 17 1 16,m 9 17]
def r5:=[tt 18 3 7,fa 19 3 1,tt 20 3 19,ca 21 99 [18,20],m 22 1,m 23 9,ca 24 297 [22,23],ca 25 256 [24],
 ca 26 98 [21,25],so 3 7 26]
def r6:=[ad 27 14 k1,m 14 27]
def r7:=[tt 28 3 7,m 29 1,ca 30 300 [29],fa 31 5 1,tt 32 3 31,ca 33 99 [30,32],ca 34 98 [28,33],so 3 6 34]
def l1:=(s (p r3) (s (i 15 .skip (x 0)) (s (b 1 (s (d r4 [15,16,17]) (d r5 (rl [9] 18 9)))) (d r6 [27]))))
def c:=(s (d r0 [0,2]) (s (d r1 [10]) (s (s (d r2 [11]) (b 0 (w l1))) (s (e r7 (rl [1,3,5,7,12,13,14,15] 28 7)) .ret))))
end TD
def TD:AFn:=⟨3,TD.c,[.cell 6 true 3],false⟩
namespace S3
def r0:=[bx 1 0,al 2 z3,mv 3 k0]
def r1:=[tt 11 6 1,ca 12 130 [11],nt 13 12,m 14 13,g 15 14 false (.k7 1 0),g 16 14 false (.ld false 1 15),g 17 14 false (.len 16),
 g 18 14 false (.bin .gtr 17 (k 16)),pk 19 14 kt 18]
def r2:=[o 20 (.build z3 []),so 3 2 20,mv 3 (k 2)]
def r3:=[fa 22 1 0,uu 23 1 22,ca 24 303 [23],m 21 24,et 25 21 0,et 26 21 1,
 al 4 [.nil,(.bool false),.nil,.nil,z,(.bool false),.nil,.nil],so 8 4 25,m 5 26]
def r4:=[m 27 5,bi 28 .neq 27 k0]
def r5:=[o 29 (.build z3 []),m 30 5,so 3 2 29,m 3 30]
def r6:=[fa 31 1 1,q 32 [37,6,7] (.ld false 1 31),o 33 (.a8 33 1 [32]),q 34 [37,6,7] (.call 295 [33]),fa 35 1 2,
 q 36 [33,6,7] (.ld false 1 35),o 37 (.a8 37 1 [36]),q 38 [6,7] (.call 295 [37]),al 6 z3,
 al 7 z3,so 3 6 34,so 3 7 38]
def r7:=[q 39 [8] (.ld true 8 4),fa 40 1 2,q 41 [8] (.ld false 1 40),q 42 [8] (.ld true 3 7),
 q 43 [8] (.call 296 [41,42]),q 44 [8] (.ld true 8 4),fa 45 1 1,q 46 [8] (.ld false 1 45),
 q 47 [8] (.ld true 3 6),q 48 [8] (.call 296 [46,47]),q 49 [8] (.n9 304 [44,48]),
 q 50 [8] (.call 305 [39,43,49]),al 8 z3,so 3 8 50]
def r8:=[q 52 [9] (.ld true 3 8),fa 53 4 5,q 54 [9] (.ld true 3 53),q 55 [9] (.ld true 3 6),
 q 56 [9] (.ld true 3 7),q 57 [9] (.call 99 [55,56]),q 58 [9] (.call 99 [54,57]),q 59 [9] (.call 100 [52,58]),
 m 51 59,et 60 51 0,et 61 51 1,al 9 z3,so 3 9 60,m 10 61]
def r9:=[fa 62 1 3,tt 63 3 62,ca 64 256 [63],tt 65 3 9,ca 66 98 [64,65],so 3 2 66,mv 3 k0]
def c:=(s (d r0 [0,3]) (s (s (d r1 (ra 11 8)) (i 19 (s (d r2 [1,19,20]) .ret) .skip)) (s (d r3 (rl [19] 21 6)) (s (s (d r4 [27]) (i 28 (s (d r5 [1,4,5,28,29,30]) .ret) .skip)) (s (e r6 (rl [5,28] 31 8)) (s (e r7 (ra 39 12)) (s (e r8 (rl [4,6,7,8,10] 51 11)) (s (e r9 (rl [1,9] 62 5)) .ret))))))))
end S3
def S3:AFn:=⟨1,S3.c,[.cell 2 true 3,.tmp 3],false⟩
structure n8 (L:Lib):Prop extends bq L where
 TB:L 294=some F.TB
 S9:L 295=some F.S9
 TL:L 296=some F.TL
 TC:L 297=some F.TC
 S4:L 298=some F.S4
 TJ:L 299=some F.TJ
 TM:L 300=some F.TM
 TG:L 301=some F.TG
 TA:L 302=some F.TA
 TK:L 303=some F.TK
 TE:L 304=some F.TE
 TD:L 305=some F.TD
 S3:L 307=some F.S3
end Go.b8.F

namespace Go.b8.F
open C
namespace UN
def r0:=[bx 1 0,al 2 [(.bool false),.nil]]
def r1:=[fa 3 1 1,uu 4 1 3,ca 5 101 [4],o 6 (.build [(.bool false),.nil] [(1,1,5)]),so 2 2 6]
def c:=(s (d r0 [0]) (s (d r1 [1,3,4,5,6]) .ret))
end UN
def UN:AFn:=⟨1,UN.c,[.cell 2 true 2],false⟩
namespace UZ
def r0:=[bx 1 0,al 2 z3]
def r1:=[tt 3 3 1,ca 4 123 [3],so 3 1 4]
def r2:=[fa 5 1 0,tt 6 2 5,ca 7 308 [6],fa 8 1 0,so 2 8 7]
def r3:=[tt 9 3 1,so 3 2 9]
def c:=(s (d r0 [0]) (s (d r1 [3,4]) (s (d r2 (ra 5 4)) (s (d r3 [1,9]) .ret))))
end UZ
def UZ:AFn:=⟨1,UZ.c,[.cell 2 true 3],false⟩
namespace V0
def r0:=[mv 2 kf]
def r1:=[mv 3 k0]
def r2:=[m 4 3,m 5 0,ln 6 5,ls 7 4 6]
def r4:=[m 10 0,m 11 3,ia 12 1 10 11,uu 13 1 12,ln 14 13,m 15 0,ln 16 15,bi 17 .neq 14 16]
def r5:=[mv 2 kf]
def r3:=[m 8 3,ad 9 8 k1,m 3 9]
def r6:=[m 18 0,ln 19 18,bi 20 .leq 19 (k 16),m 2 20]
def l1:=(s (s (d r2 [4,5,6]) (i 7 .skip (x 0))) (s (b 1 (s (d r4 (rl [7] 10 7)) (i 17 (s (d r5 [0,3,17]) .ret) .skip))) (d r3 [8,9,17])))
def c:=(s (d r0 [2]) (s (s (p r1) (b 0 (w l1))) (s (d r6 [0,3,7,18,19,20]) .ret)))
end V0
def V0:AFn:=⟨1,V0.c,[.tmp 2],false⟩
namespace VX
def r0:=[al 2 z3]
def r1:=[ca 5 124 [k0],al 3 z3,so 3 3 5]
def r2:=[mv 4 k0]
def r3:=[m 6 4,m 7 0,ln 8 7,ls 9 6 8]
def r5:=[tt 12 3 3,m 13 0,m 14 4,ia 15 3 13 14,tt 16 3 15,ca 17 309 [16],ca 18 126 [12,17],so 3 3 18]
def r4:=[m 10 4,ad 11 10 k1,m 4 11]
def r6:=[tt 19 3 3,so 3 2 19]
def l1:=(s (s (d r3 [6,7,8]) (i 9 .skip (x 0))) (s (b 1 (e r5 (rl [9] 12 7))) (d r4 [10,11])))
def c:=(s (p r0) (s (d r1 [5]) (s (s (p r2) (b 0 (w l1))) (s (d r6 [0,3,4,9,19]) .ret))))
end VX
def VX:AFn:=⟨1,VX.c,[.cell 2 true 3],false⟩
namespace VS
def r0:=[al 2 z3]
def r1:=[ca 5 124 [k0],al 3 z3,so 3 3 5]
def r2:=[mv 4 k0]
def r3:=[m 6 4,m 7 0,ln 8 7,ls 9 6 8]
def r5:=[m 12 0,m 13 4,ia 14 3 12 13,tt 15 3 14,ca 16 309 [15],tt 17 3 3,ca 18 127 [16,17],
 bi 19 .gtr 18 k0]
def r6:=[m 20 0,m 21 4,ia 22 3 20 21,tt 23 3 22,ca 24 309 [23],so 3 3 24]
def r4:=[m 10 4,ad 11 10 k1,m 4 11]
def r7:=[tt 25 3 3,so 3 2 25]
def l1:=(s (s (d r3 [6,7,8]) (i 9 .skip (x 0))) (s (b 1 (s (e r5 (rl [9] 12 7)) (i 19 (d r6 (ra 19 6)) .skip))) (d r4 [10,11,19])))
def c:=(s (p r0) (s (d r1 [5]) (s (s (p r2) (b 0 (w l1))) (s (d r7 [0,3,4,9,25]) .ret))))
end VS
def VS:AFn:=⟨1,VS.c,[.cell 2 true 3],false⟩
namespace V1
def r0:=[mv 2 (.c .nil)]
def r1:=[m 8 0,ln 9 8,o 10 (.mk 10 1 24 [.nil] 9 9),m 3 10]
def r2:=[mv 4 k0]
def r3:=[m 11 4,m 12 0,ln 13 12,ls 14 11 13]
def r5:=[mv 5 k0]
def r6:=[m 17 5,m 18 0,ln 19 18,ls 20 17 19]
def r8:=[ca 23 124 [k0],al 6 z3,so 3 6 23]
def r9:=[mv 7 k0]
def C9:=[m 24 7,m 25 0,ln 26 25,ls 27 24 26]
def o9:=[tt 30 3 6,m 31 0,m 32 4,ia 33 1 31 32,uu 34 1 33,m 35 7,ia 36 3 34 35,tt 37 3 36,m 38 0,m 39 7,
 ia 40 1 38 39,uu 41 1 40,m 42 5,ia 43 3 41 42,tt 44 3 43,ca 45 128 [37,44],
 ca 46 126 [30,45],so 3 6 46]
def DH:=[m 28 7,ad 29 28 k1,m 7 29]
def DY:=[m 47 3,m 48 4,m 49 3,m 50 4,ia 51 1 49 50,q 52 [54] (.ld false 1 51),tt 53 3 6,o 54 (.a8 54 3 [53]),
 o 55 (.app 55 3 56 52 54),ia 56 1 47 48,so 1 56 55]
def r7:=[m 21 5,ad 22 21 k1,m 5 22]
def r4:=[m 15 4,ad 16 15 k1,m 4 16]
def x9:=[m 57 3,m 2 57]
def l3:=(s (s (d C9 [24,25,26]) (i 27 .skip (x 4))) (s (b 5 (e o9 (rl [27] 30 17))) (d DH [28,29])))
def l2:=(s (s (d r6 [17,18,19]) (i 20 .skip (x 2))) (s (b 3 (s (d r8 [20,23]) (s (s (p r9) (b 4 (w l3))) (e DY (rl [6,7,27] 47 10))))) (d r7 [21,22])))
def l1:=(s (s (d r3 [11,12,13]) (i 14 .skip (x 0))) (s (b 1 (s (d r5 [14]) (b 2 (w l2)))) (d r4 [5,15,16,20])))
def c:=(s (d r0 [2]) (s (d r1 [8,9,10]) (s (s (p r2) (b 0 (w l1))) (s (d x9 [0,3,4,14,57]) .ret))))
end V1
def V1:AFn:=⟨1,V1.c,[.tmp 2],false⟩
namespace VV
def r0:=[mv 2 k0,mv 3 k0]
def r1:=[m 7 0,ca 8 310 [7],nt 9 8]
def r2:=[mv 2 k0,mv 3 (k 2)]
def r3:=[mv 4 k1]
def r4:=[m 10 4,bi 11 .leq 10 (k 64)]
def r6:=[mv 5 kt]
def r7:=[mv 6 k0]
def r8:=[m 14 6,m 15 0,ln 16 15,ls 17 14 16]
def C9:=[m 20 5,m 21 20,g 22 21 true (.v3 0),g 23 21 true (.v3 6),g 24 21 true (.v7 none 1 22 23),g 25 21 true (.ld false 1 24),g 26 21 true (.call 311 [25]),
 g 27 21 true (.call 125 [k1,(k 2)]),g 28 21 true (.call 127 [26,27]),g 29 21 true (.bin .leq 28 k0),pk 30 21 29 kf,m 5 30]
def r9:=[m 18 6,ad 19 18 k1,m 6 19]
def DH:=[m 31 5]
def o9:=[m 32 4,m 2 32,mv 3 k0]
def DY:=[m 33 0,ca 34 313 [33],m 0 34]
def r5:=[m 12 4,bi 13 .mul (k 2) 12,m 4 13]
def x9:=[mv 2 k0,mv 3 (k 14)]
def l2:=(s (s (d r8 [14,15,16]) (i 17 .skip (x 2))) (s (b 3 (d C9 (rl [17] 20 11))) (d r9 [18,19])))
def l1:=(s (s (d r4 [10]) (i 11 .skip (x 0))) (s (b 1 (s (d r6 [11]) (s (s (p r7) (b 2 (w l2))) (s (s (d DH [5,6,17]) (i 31 (s (d o9 [0,4,31,32]) .ret) .skip)) (d DY [31,33,34]))))) (d r5 [12,13])))
def c:=(s (d r0 [2,3]) (s (s (d r1 [7,8]) (i 9 (s (d r2 [0,9]) .ret) .skip)) (s (s (d r3 [9]) (b 0 (w l1))) (s (d x9 [0,4,11]) .ret))))
end VV
def VV:AFn:=⟨1,VV.c,[.tmp 2,.tmp 3],false⟩
namespace VY
def r0:=[bx 1 0,al 2 z3,mv 3 k0]
def r1:=[tt 9 6 1,ca 10 136 [9],nt 11 10,m 12 11,g 13 12 false (.k7 1 0),g 14 12 false (.ld false 1 13),g 15 12 false (.len 14),
 g 16 12 false (.bin .gtr 15 (k 16)),pk 17 12 kt 16]
def r2:=[o 18 (.build z3 []),so 3 2 18,mv 3 (k 2)]
def r3:=[fa 20 1 0,uu 21 1 20,ca 22 314 [21],m 19 22,et 23 19 0,et 24 19 1,m 4 23,m 5 24]
def r4:=[m 25 5,bi 26 .neq 25 k0]
def r5:=[o 27 (.build z3 []),m 28 5,so 3 2 27,m 3 28]
def r6:=[fa 29 1 3,tt 30 3 29,ca 31 309 [30],al 6 z3,so 3 6 31]
def r7:=[fa 32 1 1,uu 33 1 32,m 7 33]
def r8:=[mv 8 k0]
def r9:=[m 34 8,m 35 4,bi 36 .mul (k 2) 35,ls 37 34 36]
def DH:=[tt 40 3 6,fa 41 1 2,uu 42 1 41,m 43 7,ca 44 137 [42,43],ca 45 309 [44],ca 46 126 [40,45],
 so 3 6 46]
def o9:=[m 47 8,m 48 4,bi 49 .geq 47 48]
def DY:=[tt 50 3 6,fa 51 1 2,uu 52 1 51,ca 53 311 [52],m 54 7,ca 55 312 [54],ca 56 128 [53,55],
 ca 57 126 [50,56],so 3 6 57]
def x9:=[fa 58 1 0,uu 59 1 58,m 60 7,ca 61 138 [59,60],m 7 61]
def C9:=[m 38 8,ad 39 38 k1,m 8 39]
def y7:=[tt 62 3 6,so 3 2 62,mv 3 k0]
def l1:=(s (s (d r9 [34,35,36]) (i 37 .skip (x 0))) (s (b 1 (s (e DH (rl [37] 40 7)) (s (s (d o9 [47,48]) (i 49 (e DY (ra 49 9)) .skip)) (d x9 (rl [49] 58 4))))) (d C9 [38,39])))
def c:=(s (d r0 [0,3]) (s (s (d r1 (ra 9 8)) (i 17 (s (d r2 [1,17,18]) .ret) .skip)) (s (d r3 (rl [17] 19 6)) (s (s (d r4 [25]) (i 26 (s (d r5 [1,4,5,26,27,28]) .ret) .skip)) (s (d r6 [5,26,29,30,31]) (s (d r7 [32,33]) (s (s (p r8) (b 0 (w l1))) (s (d y7 [1,4,6,7,8,37,62]) .ret))))))))
end VY
def VY:AFn:=⟨1,VY.c,[.cell 2 true 3,.tmp 3],false⟩
structure cb (L:Lib):Prop extends w9 L where
 UN:L 308=some F.UN
 UZ:L 309=some F.UZ
 V0:L 310=some F.V0
 VX:L 311=some F.VX
 VS:L 312=some F.VS
 V1:L 313=some F.V1
 VV:L 314=some F.VV
 VY:L 315=some F.VY
end Go.b8.F

namespace Go.b8.F
open C
namespace VP
def r0:=[bx 2 0,mv 4 (.c .nil)]
def r1:=[o 5 (.bu 5 1)]
def r2:=[m 12 1,bi 13 .geq 12 k0]
def r3:=[m 14 5,fa 15 2 8,uu 16 1 15,ad 17 16 k1,o 18 (.q6 18 135 [17,(k (-1))]),o 19 (.a8 19 1 [18]),
 o 20 (.app 20 1 24 14 19),m 5 20]
def r4:=[m 21 5,fa 22 2 8,uu 23 1 22,ad 24 23 k1,fa 25 2 8,uu 26 1 25,o 27 (.q6 27 135 [24,26]),
 o 28 (.a8 28 1 [27]),o 29 (.app 29 1 24 21 28),m 5 29]
def r5:=[mv 6 k0]
def r6:=[m 30 6,fa 31 2 8,uu 32 1 31,ls 33 30 32]
def r8:=[m 36 5,fa 37 2 8,uu 38 1 37,ad 39 38 k1,m 40 6,o 41 (.q6 41 135 [39,40]),o 42 (.a8 42 1 [41]),
 o 43 (.app 43 1 24 36 42),m 5 43]
def r7:=[m 34 6,ad 35 34 k1,m 6 35]
def r9:=[mv 7 k0]
def C9:=[m 44 7,fa 45 2 9,uu 46 1 45,ln 47 46,ls 48 44 47]
def o9:=[fa 51 2 8,uu 52 1 51,ad 53 52 k1,o 54 (.q6 54 135 [53,(k (-1))]),m 8 54]
def DY:=[mv 9 k0]
def x9:=[m 55 9,fa 56 2 9,uu 57 1 56,m 58 7,ia 59 1 57 58,fa 60 59 0,uu 61 1 60,ln 62 61,
 ls 63 55 62]
def ag:=[fa 66 2 9,uu 67 1 66,m 68 7,ia 69 1 67 68,fa 70 69 0,uu 71 1 70,m 72 9,ia 73 2 71 72,
 tt 74 2 73,al 10 [z,z],so 2 10 74]
def FG:=[mv 11 k0]
def bg:=[m 75 11,m 76 8,ln 77 76,ls 78 75 77]
def cz:=[m 81 8,m 82 11,m 83 8,m 84 11,ia 85 3 83 84,tt 86 3 85,fa 87 10 1,uu 88 1 87,fa 89 2 4,
 fa 90 89 1,uu 91 1 90,cu 92 91,bi 93 .shl k1 92,ca 94 125 [88,93],m 95 5,fa 96 10 0,
 uu 97 1 96,ia 98 1 95 97,uu 99 1 98,m 100 11,ia 101 3 99 100,tt 102 3 101,
 ca 103 128 [94,102],ca 104 126 [86,103],ia 105 3 81 82,so 3 105 104]
def cp:=[m 79 11,ad 80 79 k1,m 11 80]
def y7:=[m 64 9,ad 65 64 k1,m 9 65]
def ef:=[m 106 7,m 107 1,bi 108 .eql 106 107]
def iy:=[m 109 8,fa 110 2 8,uu 111 1 110,m 112 8,fa 113 2 8,uu 114 1 113,ia 115 3 112 114,tt 116 3 115,
 ca 117 124 [k1],ca 118 126 [116,117],ia 119 3 109 111,so 3 119 118]
def ko:=[m 120 5,m 121 8,o 122 (.a8 122 1 [121]),o 123 (.app 123 1 24 120 122),m 5 123]
def DH:=[m 49 7,ad 50 49 k1,m 7 50]
def K8:=[m 124 5,m 4 124]
def l1:=(s (s (d r6 [30,31,32]) (i 33 .skip (x 0))) (s (b 1 (d r8 (rl [33] 36 8))) (d r7 [34,35])))
def l4:=(s (s (d bg [75,76,77]) (i 78 .skip (x 6))) (s (b 7 (e cz (rl [78] 81 25))) (d cp [79,80])))
def l3:=(s (s (d x9 (ra 55 8)) (i 63 .skip (x 4))) (s (b 5 (s (d ag (rl [63] 66 9)) (s (p FG) (b 6 (w l4))))) (d y7 [10,11,64,65,78])))
def l2:=(s (s (d C9 (ra 44 4)) (i 48 .skip (x 2))) (s (b 3 (s (d o9 (rl [48] 51 4)) (s (s (p DY) (b 4 (w l3))) (s (s (d ef [9,63,106,107]) (i 108 (e iy (ra 108 12)) .skip)) (d ko (rl [8,108] 120 4)))))) (d DH [49,50])))
def c:=(s (d r0 [0,4]) (s (p r1) (s (s (d r2 [12]) (i 13 (d r3 (ra 13 8)) (d r4 (rl [13] 21 9)))) (s (s (p r5) (b 0 (w l1))) (s (s (d r9 [6,33]) (b 2 (w l2))) (s (d K8 [1,2,5,7,48,124]) .ret))))))
end VP
def VP:AFn:=⟨2,VP.c,[.tmp 4],false⟩
namespace VQ
def r0:=[bx 2 0,al 4 z6]
def r1:=[m 7 1,fa 8 2 11,q 9 [5] (.ld false 1 8),ia 10 1 7 9,q 11 [5] (.ld false 1 10),fa 12 2 8,
 q 13 [5] (.ld false 1 12),o 14 (.gn 3 11 none (some 13)),m 15 1,fa 16 2 11,q 17 [5] (.ld false 1 16),
 ia 18 1 15 17,q 19 [5] (.ld false 1 18),fa 20 2 8,q 21 [5] (.ld false 1 20),ia 22 3 19 21,
 q 23 [5] (.ld true 3 22),o 24 (.build z6 [(2,1,14),(3,3,23)]),
 al 5 z6,so 6 5 24]
def r2:=[mv 6 k0]
def r3:=[m 25 6,fa 26 2 8,uu 27 1 26,ls 28 25 27]
def r5:=[fa 31 5 0,q 32 [44] (.ld false 1 31),m 33 1,fa 34 2 10,uu 35 1 34,m 36 6,ia 37 1 35 36,
 uu 38 1 37,ia 39 1 33 38,uu 40 1 39,fa 41 2 8,uu 42 1 41,o 43 (.gn 3 40 none (some 42)),
 o 44 (.a8 44 1 [43]),o 45 (.app 45 1 24 32 44),fa 46 5 0,so 1 46 45]
def r6:=[fa 47 5 1,q 48 [61] (.ld false 1 47),m 49 1,fa 50 2 10,uu 51 1 50,m 52 6,ia 53 1 51 52,
 uu 54 1 53,ia 55 1 49 54,uu 56 1 55,fa 57 2 8,uu 58 1 57,ia 59 3 56 58,
 tt 60 3 59,o 61 (.a8 61 3 [60]),o 62 (.app 62 3 56 48 61),fa 63 5 1,so 1 63 62]
def r4:=[m 29 6,ad 30 29 k1,m 6 30]
def r7:=[tt 64 6 5,so 6 4 64]
def l1:=(s (s (d r3 [25,26,27]) (i 28 .skip (x 0))) (s (b 1 (s (e r5 (rl [28] 31 16)) (e r6 (ra 47 17)))) (d r4 [29,30])))
def c:=(s (d r0 [0]) (s (e r1 (ra 7 18)) (s (s (p r2) (b 0 (w l1))) (s (d r7 [1,2,5,6,28,64]) .ret))))
end VQ
def VQ:AFn:=⟨2,VQ.c,[.cell 4 true 6],false⟩
namespace VI
def r0:=[bx 1 0,al 2 z6,mv 3 k0]
def r1:=[tt 4 12 1,ca 5 27 [4],nt 6 5]
def r2:=[o 7 (.build z6 []),so 6 2 7,mv 3 (k 2)]
def r3:=[tt 8 12 1,tt 9 12 1,ca 10 163 [9,(k (-1))],ca 11 164 [8,10],so 6 2 11,mv 3 k0]
def c:=(s (d r0 [0,3]) (s (s (d r1 [4,5]) (i 6 (s (d r2 [1,6,7]) .ret) .skip)) (s (e r3 (rl [1,6] 8 4)) .ret)))
end VI
def VI:AFn:=⟨1,VI.c,[.cell 2 true 6,.tmp 3],false⟩
namespace VG
def r0:=[bx 2 0,al 4 z6,mv 5 k0]
def r1:=[tt 6 12 2,ca 7 27 [6],nt 8 7]
def r2:=[o 9 (.build z6 []),so 6 4 9,mv 5 (k 2)]
def r3:=[m 10 1,fa 11 2 9,uu 12 1 11,ln 13 12,sb 14 13 k1,ca 15 10 [10,k0,14],nt 16 15]
def r4:=[o 17 (.build z6 []),so 6 4 17,mv 5 k1]
def r5:=[tt 18 12 2,tt 19 12 2,m 20 1,ca 21 163 [19,20],ca 22 164 [18,21],so 6 4 22,mv 5 k0]
def c:=(s (d r0 [0,5]) (s (s (d r1 [6,7]) (i 8 (s (d r2 [1,2,8,9]) .ret) .skip)) (s (s (d r3 (rl [8] 10 6)) (i 16 (s (d r4 [1,2,16,17]) .ret) .skip)) (s (e r5 (rl [1,2,16] 18 5)) .ret))))
end VG
def VG:AFn:=⟨2,VG.c,[.cell 4 true 6,.tmp 5],false⟩
structure bn (L:Lib):Prop extends dt L,ax L,de L where
 VP:L 163=some F.VP
 VQ:L 164=some F.VQ
 VI:L 165=some F.VI
 VG:L 166=some F.VG
end Go.b8.F

namespace Go.b8.F
open C
namespace WO
def r0:=[mv 4 k0]
def r1:=[m 5 1,ls 6 5 k1]
def r2:=[mv 4 k0]
def r3:=[m 7 0,m 8 1,bi 9 .rem 7 8,m 0 9]
def r4:=[m 10 0,ls 11 10 k0]
def r5:=[m 12 0,m 13 1,ad 14 12 13,m 0 14]
def r6:=[m 15 0,m 4 15]
def c:=(s (d r0 [4]) (s (s (d r1 [5]) (i 6 (s (d r2 [0,1,6]) .ret) .skip)) (s (d r3 (ra 6 4)) (s (s (d r4 [10]) (i 11 (d r5 (rl [1] 11 4)) .skip)) (s (d r6 [0,1,11,15]) .ret)))))
end WO
def WO:AFn:=⟨2,WO.c,[.tmp 4],false⟩
namespace WF
def r0:=[mv 4 k0]
def r1:=[m 5 1,bi 6 .geq 5 k0,m 7 6,g 8 7 true (.v3 1),g 9 7 true (.v3 0),g 10 7 true (.len 9),g 11 7 true (.bin .lss 8 10),
 pk 12 7 11 kf]
def r2:=[m 13 0,m 14 1,ia 15 1 13 14,uu 16 1 15,m 4 16]
def r3:=[mv 4 k0]
def c:=(s (d r0 [4]) (s (s (d r1 (ra 5 7)) (i 12 (s (d r2 (rl [0,1] 12 5)) .ret) .skip)) (s (d r3 [0,1,12]) .ret)))
end WF
def WF:AFn:=⟨2,WF.c,[.tmp 4],false⟩
namespace WP
def r0:=[al 8 [z,z,z,z]]
def r1:=[m 10 0,ca 11 34 [10,(k 1099511627776)],m 0 11]
def r2:=[m 12 1,m 13 0,m 14 2,m 15 1,sb 16 14 15,ad 17 16 k1,bi 18 .rem 13 17,ad 19 12 18,
 o 20 (.build [z,z,z,z] [(0,1,19)]),al 9 [z,z,z,z],so 4 9 20]
def r3:=[m 21 0,m 22 2,m 23 1,sb 24 22 23,ad 25 24 k1,bi 26 .quo 21 25,m 0 26]
def r4:=[fa 27 9 0,uu 28 1 27,sb 29 28 k1,m 30 3,sb 31 29 30,m 32 0,bi 33 .rem 32 (k 2),sb 34 31 33,
 fa 35 9 1,so 1 35 34]
def r5:=[m 36 0,bi 37 .quo 36 (k 2),m 0 37]
def r6:=[fa 38 9 1,uu 39 1 38,o 40 (.mm true [39,k0]),fa 41 9 1,so 1 41 40]
def r7:=[m 42 0,bi 43 .rem 42 (k 3),ad 44 k1 43,m 45 0,bi 46 .quo 45 (k 3),bi 47 .rem 46 (k 2),ad 48 k1 47,
 fa 49 9 2,so 1 49 44,fa 50 9 3,so 1 50 48]
def r8:=[tt 51 4 9,so 4 8 51]
def c:=(s (p r0) (s (d r1 [10,11]) (s (d r2 (ra 12 9)) (s (d r3 (rl [1,2] 21 6)) (s (d r4 (rl [3] 27 9)) (s (d r5 [36,37]) (s (d r6 (ra 38 4)) (s (d r7 (rl [0] 42 9)) (s (d r8 [9,51]) .ret)))))))))
end WP
def WP:AFn:=⟨4,WP.c,[.cell 8 true 4],false⟩
namespace WI
def r0:=[al 2 [z,z,z,z]]
def r1:=[m 3 0,ca 4 36 [3,(k 6),(k 12),(k 2)],so 4 2 4]
def c:=(s (p r0) (s (d r1 [0,3,4]) .ret))
end WI
def WI:AFn:=⟨1,WI.c,[.cell 2 true 4],false⟩
namespace WH
def r0:=[al 2 [z,z,z,z]]
def r1:=[m 3 0,ca 4 36 [3,(k 6),(k 9),k1],so 4 2 4]
def c:=(s (p r0) (s (d r1 [0,3,4]) .ret))
end WH
def WH:AFn:=⟨1,WH.c,[.cell 2 true 4],false⟩
namespace WG
def r0:=[mv 6 (.c .nil)]
def r1:=[o 7 (.bu 7 1)]
def r2:=[mv 8 k0]
def r3:=[m 9 8,m 10 2,ls 11 9 10]
def r5:=[m 14 7,m 15 1,m 16 8,ca 17 35 [15,16],m 18 0,ad 19 17 18,m 20 0,bi 21 .mul (k 2) 20,ad 22 21 k1,
 ca 23 34 [19,22],m 24 0,sb 25 23 24,o 26 (.a8 26 1 [25]),o 27 (.app 27 1 8 14 26),m 7 27]
def r4:=[m 12 8,ad 13 12 k1,m 8 13]
def r6:=[m 28 7,m 6 28]
def l1:=(s (s (d r3 [9,10]) (i 11 .skip (x 0))) (s (b 1 (d r5 (rl [11] 14 14))) (d r4 [12,13])))
def c:=(s (d r0 [6]) (s (p r1) (s (s (p r2) (b 0 (w l1))) (s (d r6 [0,1,2,7,8,11,28]) .ret))))
end WG
def WG:AFn:=⟨3,WG.c,[.tmp 6],false⟩
namespace WN
def r0:=[bx 1 0,mv 2 k0]
def r1:=[fa 3 1 1,uu 4 1 3,cu 5 4,bi 6 .shl k1 5,m 2 6]
def c:=(s (d r0 [0,2]) (s (d r1 [1,3,4,5,6]) .ret))
end WN
def WN:AFn:=⟨1,WN.c,[.tmp 2],false⟩
structure x6 (L:Lib):Prop extends c5 L where
 WO:L 34=some F.WO
 WF:L 35=some F.WF
 WP:L 36=some F.WP
 WI:L 37=some F.WI
 WH:L 38=some F.WH
 WG:L 40=some F.WG
 WN:L 41=some F.WN
end Go.b8.F

namespace Go.b8.F
open C
namespace SK
def r0:=[bx 3 0,mv 6 (.c .nil),mv 7 (.c .nil),mv 8 k0,mv 9 k0]
def r1:=[tt 18 12 3,ca 19 21 [18],nt 20 19]
def r2:=[mv 6 (.c .nil),mv 7 (.c .nil),mv 8 k0,mv 9 (k 2)]
def r3:=[m 21 2,ln 22 21,bi 23 .gtr 22 (k 4096)]
def r4:=[mv 6 (.c .nil),mv 7 (.c .nil),mv 8 k0,mv 9 (k 4)]
def r5:=[tt 24 12 3,m 25 1,m 26 2,ca 27 22 [24,25,26],m 10 27]
def r6:=[m 28 10,bi 29 .neq 28 k0]
def r7:=[m 30 10,mv 6 (.c .nil),mv 7 (.c .nil),mv 8 k0,m 9 30]
def r8:=[m 31 1,ln 32 31,o 33 (.mk 33 1 8 [z] 32 32),m 11 33]
def r9:=[m 34 11,m 35 1,o 36 (.pz 1 34 35)]
def C9:=[m 37 2,ln 38 37,o 39 (.mk 39 1 8 [z] k0 38),m 12 39]
def DH:=[mv 13 k0]
def o9:=[m 40 2,ln 41 40,mv 42 k0]
def DY:=[ls 43 42 41]
def x9:=[ia 44 1 40 42,uu 45 1 44,m 15 45]
def y7:=[tt 47 12 3,m 48 11,m 49 15,ca 50 23 [47,48,49],m 46 50,et 51 46 0,et 52 46 1,m 16 51,m 17 52]
def ag:=[m 53 11,tt 54 12 3,m 55 16,ca 56 25 [54,55],o 57 (.pz 1 53 56)]
def FG:=[m 58 12,m 59 16,fa 60 3 11,uu 61 1 60,ia 62 1 59 61,uu 63 1 62,o 64 (.a8 64 1 [63]),
 o 65 (.app 65 1 8 58 64),m 12 65]
def bg:=[m 66 17]
def cp:=[m 67 13,ad 68 67 k1,m 13 68]
def cz:=[ad 69 42 k1,m 42 69]
def ef:=[m 70 12,m 71 11,m 72 13,m 6 70,m 7 71,m 8 72,mv 9 k0]
def l1:=(s (p DY) (s (i 43 .skip (x 0)) (s (b 1 (s (d x9 [43,44,45]) (s (d y7 (rl [15] 46 7)) (s (d ag (ra 53 5)) (s (d FG (rl [16] 58 8)) (s (d bg [17]) (i 66 (d cp [66,67,68]) .skip))))))) (d cz [66,69]))))
def c:=(s (d r0 [0,6,7,8,9]) (s (s (d r1 [18,19]) (i 20 (s (d r2 [1,2,3,20]) .ret) .skip)) (s (s (d r3 [20,21,22]) (i 23 (s (d r4 [1,2,3,23]) .ret) .skip)) (s (s (d r5 (ra 23 5)) (s (d r6 [28]) (i 29 (s (d r7 [1,2,3,10,29,30]) .ret) .skip))) (s (d r8 [10,29,31,32,33]) (s (d r9 [1,34,35,36]) (s (d C9 [37,38,39]) (s (p DH) (s (s (d o9 [2]) (b 0 (w l1))) (s (d ef [3,11,12,13,40,41,42,43,70,71,72]) .ret))))))))))
end SK
def SK:AFn:=⟨3,SK.c,[.tmp 6,.tmp 7,.tmp 8,.tmp 9],false⟩
structure gv (L:Lib):Prop extends y6 L,x6 L where
 SK:L 43=some F.SK
end Go.b8.F

namespace Go.b8.F
open C
namespace QU
def r0:=[bx 6 2,bx 7 3,mv 8 k0]
def r1:=[tt 13 4 6,ca 14 2 [13],nt 15 14,m 16 15,g 17 16 false (.ld true 4 7),g 18 16 false (.call 2 [17]),g 19 16 false (.un .not 18),
 pk 20 16 kt 19]
def r2:=[mv 8 (k 2)]
def r3:=[m 21 0,ln 22 21,bi 23 .eql 22 k0,m 24 23,g 25 24 false (.v3 0),g 26 24 false (.len 25),g 27 24 false (.bin .gtr 26 (k 49)),
 pk 28 24 kt 27,m 29 28,g 30 29 false (.v3 1),g 31 29 false (.len 30),g 32 29 false (.bin .gtr 31 (k 8)),
 pk 33 29 kt 32]
def r4:=[mv 8 (k 12)]
def r5:=[m 34 0,ln 35 34,mv 36 k0]
def r6:=[ls 37 36 35]
def r7:=[ia 38 1 34 36,uu 39 1 38,m 10 39]
def r8:=[tt 40 4 7,m 41 10,ca 42 5 [40,41],nt 43 42]
def r9:=[mv 8 (k 17)]
def C9:=[ad 44 36 k1,m 36 44]
def DH:=[m 45 1,ln 46 45,mv 47 k0]
def o9:=[ls 48 47 46]
def DY:=[ia 49 1 45 47,uu 50 1 49,m 12 50]
def x9:=[tt 51 4 7,m 52 12,ca 53 5 [51,52],nt 54 53,m 55 54,g 56 55 false (.ld true 4 7),g 57 55 false (.v3 12),
 g 58 55 false (.un .neg 57),g 59 55 false (.call 5 [56,58]),g 60 55 false (.un .not 59),pk 61 55 kt 60]
def y7:=[mv 8 (k 17)]
def ag:=[ad 62 47 k1,m 47 62]
def FG:=[mv 8 k0]
def l1:=(s (p r6) (s (i 37 .skip (x 0)) (s (b 1 (s (d r7 [37,38,39]) (s (d r8 [10,40,41,42]) (i 43 (s (d r9 [1,7,34,35,36,43]) .ret) .skip)))) (d C9 [43,44]))))
def l2:=(s (p o9) (s (i 48 .skip (x 2)) (s (b 3 (s (d DY [48,49,50]) (s (d x9 (rl [12] 51 10)) (i 61 (s (d y7 [7,45,46,47,61]) .ret) .skip)))) (d ag [61,62]))))
def c:=(s (d r0 [2,3,8]) (s (s (d r1 (rl [6] 13 7)) (i 20 (s (d r2 [0,1,7,20]) .ret) .skip)) (s (s (d r3 (ra 20 13)) (i 33 (s (d r4 [0,1,7,33]) .ret) .skip)) (s (s (d r5 [0,33]) (b 0 (w l1))) (s (s (d DH (rl [1] 34 4)) (b 2 (w l2))) (s (d FG (rl [7] 45 4)) .ret))))))
end QU
def QU:AFn:=⟨4,QU.c,[.tmp 8],false⟩
namespace QT
def r0:=[mv 6 (.c .nil)]
def r1:=[m 10 0,ln 11 10,o 12 (.mk 12 2 16 [z,z] 11 11),m 7 12]
def r2:=[m 13 0,ln 14 13,mv 15 k0]
def r3:=[ls 16 15 14]
def r4:=[m 17 15,ia 18 1 13 15,uu 19 1 18,m 8 17,m 9 19]
def r5:=[m 20 7,m 21 8,m 22 2,m 23 8,ad 24 22 23,m 25 1,m 26 9,bi 27 .mul 25 26,o 28 (.build [z,z] [(0,1,24),(1,1,27)]),
 ia 29 2 20 21,so 2 29 28]
def r6:=[ad 30 15 k1,m 15 30]
def r7:=[m 31 7,m 6 31]
def l1:=(s (p r3) (s (i 16 .skip (x 0)) (s (b 1 (s (d r4 (ra 16 4)) (d r5 (rl [8,9] 20 10)))) (d r6 [30]))))
def c:=(s (d r0 [6]) (s (d r1 [10,11,12]) (s (s (d r2 [0]) (b 0 (w l1))) (s (d r7 [1,2,7,13,14,15,16,31]) .ret))))
end QT
def QT:AFn:=⟨3,QT.c,[.tmp 6],false⟩
namespace QS
def r0:=[mv 2 (.c .nil)]
def r1:=[o 3 (.bu 3 2)]
def r2:=[m 6 0,ln 7 6,mv 8 k0]
def r3:=[ls 9 8 7]
def r4:=[ia 10 1 6 8,uu 11 1 10,m 5 11]
def r5:=[m 12 3,m 13 5,o 14 (.app 14 2 16 12 13),m 3 14]
def r6:=[ad 15 8 k1,m 8 15]
def r7:=[m 16 3,m 2 16]
def l1:=(s (p r3) (s (i 9 .skip (x 0)) (s (b 1 (s (d r4 [9,10,11]) (d r5 [5,12,13,14]))) (d r6 [15]))))
def c:=(s (d r0 [2]) (s (p r1) (s (s (d r2 [0]) (b 0 (w l1))) (s (d r7 [3,6,7,8,9,16]) .ret))))
end QS
def QS:AFn:=⟨1,QS.c,[.tmp 2],false⟩
namespace NW
def r0:=[m 7 0,ln 8 7,mv 9 k0]
def r1:=[ls 10 9 8]
def r2:=[m 11 9,m 6 11]
def r3:=[m 12 6,bi 13 .eql 12 k0]
def r4:=[m 14 0,m 15 6,m 16 2,ia 17 1 14 15,so 1 17 16]
def r5:=[m 18 0,m 19 6,m 20 1,m 21 6,ad 22 20 21,sb 23 22 k1,ia 24 1 18 19,so 1 24 23]
def r6:=[ad 25 9 k1,m 9 25]
def l1:=(s (p r1) (s (i 10 .skip (x 0)) (s (b 1 (s (d r2 [10,11]) (s (d r3 [12]) (i 13 (d r4 (rl [6] 13 5)) (d r5 (rl [6,13] 18 7)))))) (d r6 [25]))))
def c:=(s (d r0 [7]) (b 0 (w l1)))
end NW
def NW:AFn:=⟨3,NW.c,[],false⟩
namespace QO
def r0:=[bx 6 2,bx 7 3,al 8 [z,z,z,z,z,z,z,z,z,.nil,.nil,z],mv 9 k0]
def r1:=[m 14 0,m 15 1,tt 16 4 6,tt 17 4 7,ca 18 46 [14,15,16,17],m 10 18]
def r2:=[m 19 10,bi 20 .neq 19 k0]
def r3:=[o 21 (.build [z,z,z,z,z,z,z,z,z,.nil,.nil,z] []),m 22 10,so 12 8 21,m 9 22]
def r4:=[m 23 0,ln 24 23,sb 25 24 k1,m 11 25]
def r5:=[m 26 11,m 27 1,ln 28 27,ad 29 26 28,m 12 29]
def r6:=[q 30 [34,13] (.ld true 4 6),q 31 [34,13] (.ld true 4 7),m 32 12,m 33 12,o 34 (.mk 34 1 8 [z] 33 33),m 35 12,
 ad 36 35 k1,o 37 (.build [z,z,z,z,z,z,z,z,z,.nil,.nil,z] [(0,4,30),(4,4,31),(8,1,32),(10,1,34),(11,1,36)]),
 al 13 [z,z,z,z,z,z,z,z,z,.nil,.nil,z],so 12 13 37]
def r7:=[m 38 0,ca 39 47 [38,k1,k0],m 40 1,m 41 11,ad 42 41 k1,ca 43 47 [40,(k (-1)),42],o 44 (.a8 44 1 [39,43]),
 ca 45 48 [44],o 46 (.build [.nil] [(0,1,45)]),o 47 (.a8 47 1 [46]),fa 48 13 9,so 1 48 47]
def r8:=[fa 49 13 10,uu 50 1 49,m 51 11,o 52 (.gn 1 50 none (some 51)),o 53 (.e8 49 [52,k1,k0])]
def r9:=[fa 54 13 10,uu 55 1 54,m 56 11,o 57 (.gn 1 55 (some 56) none),m 58 11,ad 59 58 k1,fa 60 13 11,
 uu 61 1 60,o 62 (.e8 49 [57,59,61])]
def C9:=[tt 63 12 13,so 12 8 63,mv 9 k0]
def c:=(s (d r0 [2,3,9]) (s (s (d r1 (ra 14 5)) (s (d r2 [19]) (i 20 (s (d r3 [0,1,6,7,10,20,21,22]) .ret) .skip))) (s (d r4 [10,20,23,24,25]) (s (d r5 (ra 26 4)) (s (e r6 (rl [6,7,12] 30 8)) (s (d r7 (rl [0,1] 38 11)) (s (d r8 (ra 49 5)) (s (e r9 (rl [11] 54 9)) (s (d C9 [13,63]) .ret)))))))))
end QO
def QO:AFn:=⟨4,QO.c,[.cell 8 true 12,.tmp 9],false⟩
namespace QQ
def r0:=[bx 6 2,bx 7 3,al 8 [z,z,z,z,z,z,z,z,z,.nil,.nil,z],mv 9 k0]
def r1:=[m 15 0,m 16 1,tt 17 4 6,tt 18 4 7,ca 19 46 [15,16,17,18],m 10 19]
def r2:=[m 20 10,bi 21 .neq 20 k0]
def r3:=[o 22 (.build [z,z,z,z,z,z,z,z,z,.nil,.nil,z] []),m 23 10,so 12 8 22,m 9 23]
def r4:=[m 24 0,ln 25 24,sb 26 25 k1,m 27 1,ln 28 27,o 29 (.mm true [26,28]),m 11 29]
def r5:=[m 30 11,ad 31 30 k1,m 12 31]
def r6:=[q 32 [36,13] (.ld true 4 6),q 33 [36,13] (.ld true 4 7),m 34 11,m 35 11,o 36 (.mk 36 1 8 [z] 35 35),m 37 12,
 ad 38 37 k1,o 39 (.build [z,z,z,z,z,z,z,z,z,.nil,.nil,z] [(0,4,32),(4,4,33),(8,1,34),(10,1,36),(11,1,38)]),
 al 13 [z,z,z,z,z,z,z,z,z,.nil,.nil,z],so 12 13 39]
def r7:=[fa 40 7 1,uu 41 1 40,bi 42 .shl k1 41,o 43 (.a8 43 1 [42]),m 14 43]
def r8:=[m 44 14,ca 45 47 [44,k1,k0],m 46 1,ca 47 47 [46,(k (-1)),k1],o 48 (.a8 48 1 [45,47]),ca 49 48 [48],
 o 50 (.build [.nil] [(0,1,49)]),m 51 0,o 52 (.gn 1 51 none (some k1)),m 53 12,ca 54 47 [52,k1,53],m 55 0,
 o 56 (.gn 1 55 (some k1) none),ca 57 47 [56,k1,k1],o 58 (.a8 58 1 [54,57]),ca 59 48 [58],o 60 (.build [.nil] [(0,1,59)]),
 o 61 (.a8 61 1 [50,60]),fa 62 13 9,so 1 62 61]
def r9:=[fa 63 13 10,uu 64 1 63,m 65 12,o 66 (.e8 49 [64,k1,65])]
def C9:=[tt 67 12 13,so 12 8 67,mv 9 k0]
def c:=(s (d r0 [2,3,9]) (s (s (d r1 (ra 15 5)) (s (d r2 [20]) (i 21 (s (d r3 [0,1,6,7,10,21,22,23]) .ret) .skip))) (s (d r4 (rl [10,21] 24 6)) (s (d r5 [30,31]) (s (e r6 (rl [6,11] 32 8)) (s (d r7 (rl [7] 40 4)) (s (e r8 (rl [0,1,14] 44 19)) (s (d r9 (rl [12] 63 4)) (s (d C9 [13,67]) .ret)))))))))
end QQ
def QQ:AFn:=⟨4,QQ.c,[.cell 8 true 12,.tmp 9],false⟩
namespace QR
def r0:=[bx 6 2,bx 7 3,al 8 [z,z,z,z,z,z,z,z,z,.nil,.nil,z],mv 9 k0]
def r1:=[m 17 0,m 18 1,tt 19 4 6,tt 20 4 7,ca 21 46 [17,18,19,20],m 10 21]
def r2:=[m 22 10,bi 23 .neq 22 k0]
def r3:=[o 24 (.build [z,z,z,z,z,z,z,z,z,.nil,.nil,z] []),m 25 10,so 12 8 24,m 9 25]
def r4:=[m 26 0,ln 27 26,sb 28 27 k1,m 29 1,ln 30 29,o 31 (.mm true [28,30]),m 11 31]
def r5:=[m 32 11,ad 33 32 k1,m 12 33]
def r6:=[q 34 [38,13] (.ld true 4 6),q 35 [38,13] (.ld true 4 7),m 36 11,m 37 11,o 38 (.mk 38 1 8 [z] 37 37),m 39 12,
 o 40 (.build [z,z,z,z,z,z,z,z,z,.nil,.nil,z] [(0,4,34),(4,4,35),(8,1,36),(10,1,38),(11,1,39)]),
 al 13 [z,z,z,z,z,z,z,z,z,.nil,.nil,z],so 12 13 40]
def r7:=[fa 41 7 1,uu 42 1 41,bi 43 .shl k1 42,o 44 (.a8 44 1 [43]),m 14 44]
def r8:=[m 45 11,ad 46 45 k1,mv 47 k0]
def r9:=[ls 48 47 46]
def C9:=[m 49 47,m 15 49]
def DH:=[mv 16 (.c .nil)]
def o9:=[m 50 15,m 51 0,ln 52 51,ls 53 50 52]
def DY:=[m 54 16,m 55 0,m 56 15,m 57 15,ad 58 57 k1,o 59 (.gn 1 55 (some 56) (some 58)),ca 60 47 [59,k1,k0],
 o 61 (.a8 61 1 [54,60]),ca 62 48 [61],m 16 62]
def x9:=[m 63 15,bi 64 .geq 63 k1,m 65 64,g 66 65 true (.v3 15),g 67 65 true (.v3 1),g 68 65 true (.len 67),g 69 65 true (.bin .leq 66 68),
 pk 70 65 69 kf]
def y7:=[m 71 16,m 72 1,m 73 15,sb 74 73 k1,m 75 15,o 76 (.gn 1 72 (some 74) (some 75)),m 77 12,ca 78 47 [76,(k (-1)),77],
 o 79 (.a8 79 1 [71,78]),ca 80 48 [79],m 16 80]
def ag:=[m 81 15,m 82 11,ls 83 81 82]
def FG:=[m 84 16,m 85 14,m 86 15,ad 87 86 k1,ca 88 47 [85,k1,87],o 89 (.a8 89 1 [84,88]),ca 90 48 [89],m 16 90]
def bg:=[m 91 15,bi 92 .geq 91 k1]
def cp:=[fa 93 13 10,uu 94 1 93,m 95 15,sb 96 95 k1,m 97 12,m 98 15,ad 99 97 98,ia 100 1 94 96,
 so 1 100 99]
def cz:=[fa 101 13 9,uu 102 1 101,m 103 16,o 104 (.build [.nil] [(0,1,103)]),o 105 (.a8 105 1 [104]),o 106 (.app 106 1 24 102 105),
 fa 107 13 9,so 1 107 106]
def ef:=[ad 108 47 k1,m 47 108]
def iy:=[tt 109 12 13,so 12 8 109,mv 9 k0]
def l1:=(s (p r9) (s (i 48 .skip (x 0)) (s (b 1 (s (d C9 [48,49]) (s (p DH) (s (s (d o9 [50,51,52]) (i 53 (d DY (ra 53 10)) .skip)) (s (s (d x9 (rl [53] 63 7)) (i 70 (d y7 (ra 70 11)) .skip)) (s (s (d ag [70,81,82]) (i 83 (d FG (ra 83 8)) .skip)) (s (s (d bg [83,91]) (i 92 (d cp (rl [15] 92 9)) .skip)) (d cz (rl [15,16,92] 101 7))))))))) (d ef [108]))))
def c:=(s (d r0 [2,3,9]) (s (s (d r1 (ra 17 5)) (s (d r2 [22]) (i 23 (s (d r3 [0,1,6,7,10,23,24,25]) .ret) .skip))) (s (d r4 (rl [10,23] 26 6)) (s (d r5 [32,33]) (s (e r6 (rl [6] 34 7)) (s (d r7 (rl [7] 41 4)) (s (s (d r8 [45]) (b 0 (w l1))) (s (d iy [0,1,11,12,13,14,46,47,48,109]) .ret))))))))
end QR
def QR:AFn:=⟨4,QR.c,[.cell 8 true 12,.tmp 9],false⟩
structure l8 (L:Lib):Prop extends gv L where
 QU:L 46=some F.QU
 QT:L 47=some F.QT
 QS:L 48=some F.QS
 NW:L 49=some F.NW
 QO:L 50=some F.QO
 QQ:L 51=some F.QQ
 QR:L 52=some F.QR
end Go.b8.F

namespace Go.b8.F
open C
namespace RM
def r0:=[bx 5 2,mv 6 k0]
def r1:=[tt 13 4 5,ca 14 2 [13],nt 15 14]
def r2:=[mv 6 (k 2)]
def r3:=[m 16 0,ln 17 16,bi 18 .gtr 17 (k 8),m 19 18,g 20 19 false (.v3 1),g 21 19 false (.len 20),g 22 19 false (.v3 0),g 23 19 false (.len 22),
 g 24 19 false (.bin .add 23 k1),g 25 19 false (.bin .neq 21 24),pk 26 19 kt 25]
def r4:=[mv 6 (k 12)]
def r5:=[m 27 1,ln 28 27,mv 29 k0]
def r6:=[ls 30 29 28]
def r7:=[ia 31 1 27 29,uu 32 1 31,m 8 32]
def r8:=[tt 33 4 5,m 34 8,ca 35 5 [33,34],nt 36 35]
def r9:=[mv 6 (k 17)]
def C9:=[ad 37 29 k1,m 29 37]
def DH:=[m 38 0,ln 39 38,mv 40 k0]
def o9:=[ls 41 40 39]
def DY:=[ia 42 1 38 40,uu 43 1 42,m 10 43]
def x9:=[tt 44 4 5,m 45 10,ca 46 5 [44,45],nt 47 46,m 48 47,g 49 48 false (.ld true 4 5),g 50 48 false (.v3 10),
 g 51 48 false (.un .neg 50),g 52 48 false (.call 5 [49,51]),g 53 48 false (.un .not 52),pk 54 48 kt 53]
def y7:=[mv 6 (k 17)]
def ag:=[ad 55 40 k1,m 40 55]
def FG:=[m 56 0,ln 57 56,mv 58 k0]
def bg:=[ls 59 58 57]
def cp:=[ia 60 1 56 58,uu 61 1 60,m 12 61]
def cz:=[m 62 12,m 63 12,o 64 (.un .neg 63),o 65 (.mm true [62,64]),fa 66 5 1,uu 67 1 66,bi 68 .shl k1 67,bi 69 .geq 65 68]
def ef:=[mv 6 (k 14)]
def iy:=[ad 70 58 k1,m 58 70]
def ko:=[mv 6 k0]
def l1:=(s (p r6) (s (i 30 .skip (x 0)) (s (b 1 (s (d r7 [30,31,32]) (s (d r8 [8,33,34,35]) (i 36 (s (d r9 [0,5,27,28,29,36]) .ret) .skip)))) (d C9 [36,37]))))
def l2:=(s (p o9) (s (i 41 .skip (x 2)) (s (b 3 (s (d DY [41,42,43]) (s (d x9 (rl [10] 44 10)) (i 54 (s (d y7 [0,5,38,39,40,54]) .ret) .skip)))) (d ag [54,55]))))
def l3:=(s (p bg) (s (i 59 .skip (x 4)) (s (b 5 (s (d cp [59,60,61]) (s (d cz (rl [12] 62 7)) (i 69 (s (d ef [5,56,57,58,69]) .ret) .skip)))) (d iy [69,70]))))
def c:=(s (d r0 [2,6]) (s (s (d r1 [13,14]) (i 15 (s (d r2 [0,1,5,15]) .ret) .skip)) (s (s (d r3 (ra 15 11)) (i 26 (s (d r4 [0,1,5,26]) .ret) .skip)) (s (s (d r5 [1,26]) (b 0 (w l1))) (s (s (d DH (ra 27 4)) (b 2 (w l2))) (s (s (d FG (rl [0] 38 4)) (b 4 (w l3))) (s (d ko (rl [5] 56 4)) .ret)))))))
end RM
def RM:AFn:=⟨3,RM.c,[.tmp 6],false⟩
namespace RL
def r0:=[bx 6 2,bx 7 3,al 8 [z,z,z,z,z,z,z,z,z,.nil,.nil,z],mv 9 k0]
def r1:=[tt 19 4 6,ca 20 2 [19],nt 21 20]
def r2:=[o 22 (.build [z,z,z,z,z,z,z,z,z,.nil,.nil,z] []),so 12 8 22,mv 9 (k 2)]
def r3:=[m 23 0,m 24 1,tt 25 4 7,ca 26 345 [23,24,25],m 10 26]
def r4:=[m 27 10,bi 28 .neq 27 k0]
def r5:=[o 29 (.build [z,z,z,z,z,z,z,z,z,.nil,.nil,z] []),m 30 10,so 12 8 29,m 9 30]
def r6:=[m 31 0,ln 32 31,m 11 32]
def r7:=[fa 33 7 1,uu 34 1 33,bi 35 .shl k1 34,m 12 35]
def r8:=[q 36 [40,13] (.ld true 4 6),q 37 [40,13] (.ld true 4 7),m 38 11,m 39 11,o 40 (.mk 40 1 8 [z] 39 39),m 41 11,
 bi 42 .mul (k 3) 41,ad 43 42 k1,
 o 44 (.build [z,z,z,z,z,z,z,z,z,.nil,.nil,z] [(0,4,36),(4,4,37),(8,1,38),(10,1,40),(11,1,43)]),
 al 13 [z,z,z,z,z,z,z,z,z,.nil,.nil,z],so 12 13 44]
def r9:=[m 45 11,ad 46 45 k1,o 47 (.mk 47 1 8 [z] 46 46),m 14 47]
def C9:=[m 48 11,m 15 48]
def DH:=[m 49 15,bi 50 .geq 49 k1]
def DY:=[m 53 14,m 54 15,sb 55 54 k1,m 56 11,ad 57 k1 56,m 58 11,ad 59 57 58,m 60 15,sb 61 59 60,
 ia 62 1 53 55,so 1 62 61]
def x9:=[fa 63 13 9,q 64 [79,81] (.ld false 1 63),m 65 14,m 66 15,ia 67 1 65 66,uu 68 1 67,m 69 12,
 o 70 (.build [z,z] [(0,1,68),(1,1,69)]),m 71 15,m 72 0,m 73 15,sb 74 73 k1,ia 75 1 72 74,uu 76 1 75,
 o 77 (.un .neg 76),o 78 (.build [z,z] [(0,1,71),(1,1,77)]),o 79 (.a8 79 2 [70,78]),o 80 (.build [.nil] [(0,1,79)]),o 81 (.a8 81 1 [80]),
 o 82 (.app 82 1 24 64 81),fa 83 13 9,so 1 83 82]
def o9:=[m 51 15,sb 52 51 k1,m 15 52]
def y7:=[m 84 11,ad 85 84 k1,o 86 (.mk 86 1 8 [z] 85 85),m 16 86]
def ag:=[m 87 16,m 88 14,ia 89 1 88 k0,uu 90 1 89,ia 91 1 87 k0,so 1 91 90]
def FG:=[m 92 14,ia 93 1 92 k0,q 94 [17] (.ld false 1 93),m 95 1,ia 96 1 95 k0,q 97 [17] (.ld false 1 96),
 o 98 (.build [z,z] [(0,1,94),(1,1,97)]),o 99 (.a8 99 2 [98]),o 100 (.build [.nil] [(0,1,99)]),al 17 [.nil],so 1 17 100]
def bg:=[mv 18 k1]
def cp:=[m 101 18,m 102 11,bi 103 .leq 101 102]
def ef:=[m 106 16,m 107 18,m 108 11,bi 109 .mul (k 2) 108,m 110 18,ad 111 109 110,ia 112 1 106 107,so 1 112 111]
def iy:=[fa 113 13 9,q 114 [129,131] (.ld false 1 113),m 115 14,m 116 18,sb 117 116 k1,ia 118 1 115 117,
 uu 119 1 118,m 120 0,m 121 18,sb 122 121 k1,ia 123 1 120 122,uu 124 1 123,
 o 125 (.build [z,z] [(0,1,119),(1,1,124)]),m 126 18,m 127 12,o 128 (.build [z,z] [(0,1,126),(1,1,127)]),o 129 (.a8 129 2 [125,128]),
 o 130 (.build [.nil] [(0,1,129)]),o 131 (.a8 131 1 [130]),o 132 (.app 132 1 24 114 131),fa 133 13 9,so 1 133 132]
def ko:=[fa 134 17 0,q 135 [145] (.ld false 1 134),m 136 16,m 137 18,ia 138 1 136 137,uu 139 1 138,m 140 1,m 141 18,
 ia 142 1 140 141,uu 143 1 142,o 144 (.build [z,z] [(0,1,139),(1,1,143)]),o 145 (.a8 145 2 [144]),
 o 146 (.app 146 2 16 135 145),fa 147 17 0,so 1 147 146]
def K8:=[fa 148 13 10,uu 149 1 148,m 150 18,sb 151 150 k1,m 152 16,m 153 18,sb 154 153 k1,
 ia 155 1 152 154,uu 156 1 155,ia 157 1 149 151,so 1 157 156]
def cz:=[m 104 18,ad 105 104 k1,m 18 105]
def MY:=[fa 158 13 9,uu 159 1 158,tt 160 1 17,o 161 (.a8 161 1 [160]),o 162 (.app 162 1 24 159 161),fa 163 13 9,
 so 1 163 162]
def TS:=[tt 164 12 13,so 12 8 164,mv 9 k0]
def l1:=(s (s (d DH [49]) (i 50 .skip (x 0))) (s (b 1 (s (d DY (rl [50] 53 10)) (e x9 (ra 63 21)))) (d o9 [51,52])))
def l2:=(s (s (d cp [101,102]) (i 103 .skip (x 2))) (s (b 3 (s (d ef (rl [103] 106 7)) (s (e iy (ra 113 21)) (s (e ko (ra 134 14)) (e K8 (ra 148 10)))))) (d cz [104,105])))
def c:=(s (d r0 [2,3,9]) (s (s (d r1 [19,20]) (i 21 (s (d r2 [0,1,6,7,21,22]) .ret) .skip)) (s (s (d r3 (rl [21] 23 4)) (s (d r4 [27]) (i 28 (s (d r5 [0,1,6,7,10,28,29,30]) .ret) .skip))) (s (d r6 [10,28,31,32]) (s (d r7 [33,34,35]) (s (e r8 (rl [6,7] 36 9)) (s (d r9 [45,46,47]) (s (s (d C9 [48]) (b 0 (w l1))) (s (d y7 [15,50,84,85,86]) (s (d ag (ra 87 5)) (s (e FG (ra 92 9)) (s (s (p bg) (b 2 (w l2))) (s (d MY (rl [0,1,11,12,14,16,17,18,103] 158 6)) (s (d TS [13,164]) .ret))))))))))))))
end RL
def RL:AFn:=⟨4,RL.c,[.cell 8 true 12,.tmp 9],false⟩
namespace WM
def r0:=[bx 2 0,mv 4 (.c .nil)]
def r1:=[fa 8 2 1,uu 9 1 8,cu 10 9,bi 11 .shl k1 10,m 5 11]
def r2:=[m 12 1,ca 13 35 [12,k0],ca 14 34 [13,(k 3)]]
def r3:=[bi 16 .eql 14 k0,m 15 16]
def r4:=[mv 4 (.c .nil)]
def r5:=[bi 18 .eql 14 k1,m 17 18]
def r6:=[m 19 5,bi 20 .mul 19 (k 3),bi 21 .quo 20 (k 4),m 22 1,ca 23 35 [22,k1],o 24 (.a8 24 1 [23]),ca 25 40 [21,24,k1],
 m 4 25]
def r7:=[m 26 5,bi 27 .quo 26 (k 2),m 28 1,ca 29 35 [28,k1],o 30 (.a8 30 1 [29]),ca 31 40 [27,30,k1],ia 32 1 31 k0,
 uu 33 1 32,m 6 33]
def r8:=[m 34 5,m 35 6,ad 36 34 35,bi 37 .quo 36 (k 2),m 38 1,ca 39 35 [38,(k 2)],o 40 (.a8 40 1 [39]),
 ca 41 40 [37,40,k1],ia 42 1 41 k0,uu 43 1 42,m 7 43]
def r9:=[m 44 7,m 45 6,o 46 (.a8 46 1 [44,45]),m 4 46]
def c:=(s (d r0 [0,4]) (s (d r1 (rl [2] 8 4)) (s (s (d r2 [12,13]) (b 0 (s (d r3 [16]) (i 15 (s (d r4 [1,5,14,15]) .ret) (s (d r5 [14,15,18]) (i 17 (s (d r6 (rl [1,5,17] 19 7)) .ret) .skip)))))) (s (d r7 (rl [17] 26 8)) (s (d r8 (rl [1,5] 34 10)) (s (d r9 [6,7,44,45,46]) .ret))))))
end WM
def WM:AFn:=⟨2,WM.c,[.tmp 4],false⟩
namespace MU
def r0:=[bx 1 0,al 2 [z,z,z,z,z,z,z,z,z,.nil,.nil,z],mv 3 kf]
def r1:=[fa 11 1 1,q 12 [4,5] (.ld false 1 11),q 13 [4,5] (.call 37 [12]),fa 14 1 2,q 15 [4,5] (.ld false 1 14),
 q 16 [4,5] (.call 38 [15]),al 4 [z,z,z,z],al 5 [z,z,z,z],so 4 4 13,so 4 5 16]
def r2:=[fa 17 5 0,uu 18 1 17,sb 19 18 k1,cu 20 19,bi 21 .shl k1 20,sb 22 21 k1,
 fa 23 1 3,uu 24 1 23,fa 25 1 3,uu 26 1 25,ln 27 26,ca 28 34 [27,(k 3)],ad 29 k1 28,
 ca 30 40 [22,24,29],m 6 30]
def r3:=[tt 31 4 5,fa 32 1 4,uu 33 1 32,ca 34 347 [31,33],m 7 34]
def r4:=[al 8 [z,z,z,z,z,z,z,z,z,.nil,.nil,z]]
def r5:=[mv 9 k0]
def r6:=[fa 35 1 0,uu 36 1 35,ca 37 34 [36,(k 4)]]
def r9:=[bi 69 .eql 37 k0,m 68 69]
def C9:=[m 71 6,m 72 7,tt 73 4 4,tt 74 4 5,ca 75 50 [71,72,73,74],m 70 75,et 76 70 0,et 77 70 1,so 12 8 76,
 m 9 77]
def DH:=[bi 79 .eql 37 k1,m 78 79]
def o9:=[m 81 6,m 82 7,tt 83 4 4,tt 84 4 5,ca 85 51 [81,82,83,84],m 80 85,et 86 80 0,et 87 80 1,so 12 8 86,
 m 9 87]
def DY:=[bi 89 .eql 37 (k 2),m 88 89]
def x9:=[m 91 6,m 92 7,tt 93 4 4,tt 94 4 5,ca 95 52 [91,92,93,94],m 90 95,et 96 90 0,et 97 90 1,so 12 8 96,
 m 9 97]
def r7:=[tt 38 4 5,ca 39 41 [38],bi 40 .mul 39 (k 3),bi 41 .quo 40 (k 4),fa 42 1 4,uu 43 1 42,fa 44 1 4,
 uu 45 1 44,ln 46 45,ca 47 34 [46,(k 3)],ca 48 40 [41,43,47],m 10 48]
def r8:=[m 50 10,fa 51 5 0,uu 52 1 51,sb 53 52 k1,cu 54 53,bi 55 .shl k1 54,sb 56 55 k1,
 fa 57 1 3,uu 58 1 57,m 59 10,ln 60 59,ad 61 60 k1,ca 62 40 [56,58,61],tt 63 4 4,
 tt 64 4 5,ca 65 346 [50,62,63,64],m 49 65,et 66 49 0,et 67 49 1,so 12 8 66,m 9 67]
def y7:=[tt 98 12 8,m 99 9,bi 100 .eql 99 k0,so 12 2 98,m 3 100]
def c:=(s (d r0 [0,3]) (s (e r1 (ra 11 6)) (s (e r2 (ra 17 14)) (s (d r3 (ra 31 4)) (s (p r4) (s (d r5 [9]) (s (s (d r6 [35,36]) (b 0 (s (d r9 [69]) (i 68 (d C9 (rl [1,4,5,6,7,37,68] 70 8)) (s (d DH [68,79]) (i 78 (d o9 (rl [1,4,5,6,7,37,78] 80 8)) (s (d DY [37,78,89]) (i 88 (d x9 (rl [1,4,5,6,7,88] 90 8)) (s (e r7 [6,7,38,39,40,41,42,43,44,45,46,47,48,88]) (e r8 (rl [1,4,5,10] 49 19))))))))))) (s (d y7 [8,9,98,99,100]) .ret))))))))
end MU
def MU:AFn:=⟨1,MU.c,[.cell 2 true 12,.tmp 3],false⟩
structure bp (L:Lib):Prop extends l8 L where
 RM:L 345=some F.RM
 RL:L 346=some F.RL
 WM:L 347=some F.WM
 MU:L 348=some F.MU
end Go.b8.F

namespace Go.b8.F
open C
namespace RO
def r0:=[mv 0 kf]
def r1:=[ca 7 124 [k1],ca 8 125 [k1,(k 2)],al 1 z3,al 2 z3,so 3 1 7,
 so 3 2 8]
def r2:=[q 10 [15,3] (.ld true 3 1),o 11 (.a8 11 3 [10]),q 12 [11,3] (.ld true 3 1),q 13 [11,3] (.ld true 3 2),
 q 14 [11,3] (.call 152 [13]),o 15 (.a8 15 3 [12,14]),o 16 (.build [.nil,.nil] [(0,1,11),(1,1,15)]),
 q 17 [3] (.call 207 [16]),m 9 17,et 18 9 0,et 19 9 1,al 3 z6,so 6 3 18,
 m 4 19]
def r3:=[tt 21 6 3,ca 22 307 [21],m 20 22,et 23 20 0,et 24 20 1,al 5 z3,so 3 5 23,m 6 24]
def r4:=[m 25 4,bi 26 .eql 25 k0,m 27 26,g 28 27 true (.v3 6),g 29 27 true (.bin .eql 28 k0),pk 30 27 29 kf,m 31 30,
 g 32 31 true (.ld true 3 5),g 33 31 true (.call 124 [(k 2)]),g 34 31 true (.call 127 [32,33]),g 35 31 true (.bin .eql 34 k0),
 pk 36 31 35 kf,m 0 36]
def c:=(s (d r0 [0]) (s (d r1 [7,8]) (s (e r2 (rl [1,2] 9 11)) (s (d r3 (rl [3] 20 5)) (s (e r4 (rl [4,5,6] 25 12)) .ret)))))
end RO
def RO:AFn:=⟨0,RO.c,[.tmp 0],false⟩
structure lf (L:Lib):Prop extends n8 L where
 RO:L 318=some F.RO
end Go.b8.F

namespace Go.b8.F
open C
namespace TP
def r0:=[bx 1 0,mv 2 kf]
def r1:=[tt 3 12 1,ca 4 21 [3],m 5 4,g 6 5 true (.k7 1 8),g 7 5 true (.ld false 1 6),g 8 5 true (.bin .leq 7 (k 16)),
 pk 9 5 8 kf,m 2 9]
def c:=(s (d r0 [0,2]) (s (d r1 (rl [1] 3 7)) .ret))
end TP
def TP:AFn:=⟨1,TP.c,[.tmp 2],false⟩
namespace TH
def r0:=[bx 2 0,al 4 z3]
def r1:=[fa 9 2 4,fa 10 9 1,uu 11 1 10,bi 12 .shl k1 11,m 5 12]
def r2:=[mv 6 kt]
def r3:=[fa 13 2 9,uu 14 1 13,m 15 1,ia 16 1 14 15,fa 17 16 0,uu 18 1 17,ln 19 18,mv 20 k0]
def r4:=[ls 21 20 19]
def r5:=[ia 22 2 18 20,tt 23 2 22,al 8 [z,z],so 2 8 23]
def r6:=[fa 24 8 1,uu 25 1 24,m 26 5,bi 27 .rem 25 26,bi 28 .neq 27 k0]
def r7:=[mv 6 kf]
def r8:=[ad 29 20 k1,m 20 29]
def r9:=[m 31 6,m 30 31]
def C9:=[ca 32 96 [k0],so 3 4 32]
def DH:=[fa 34 2 0,fa 35 34 2,uu 36 1 35,bi 37 .eql 36 (k 2),m 33 37]
def o9:=[ca 38 151 [k1,(k 2)],so 3 4 38]
def DY:=[ca 39 96 [k1],so 3 4 39]
def l1:=(s (p r4) (s (i 21 .skip (x 0)) (s (b 1 (s (d r5 [21,22,23]) (s (d r6 (rl [8] 24 4)) (i 28 (d r7 [28]) .skip)))) (d r8 [28,29]))))
def c:=(s (d r0 [0]) (s (d r1 (ra 9 4)) (s (p r2) (s (s (d r3 (rl [1] 13 5)) (b 0 (w l1))) (s (b 2 (s (d r9 [5,6,18,19,20,21,31]) (i 30 (s (d C9 [2,30,32]) .ret) (s (d DH (rl [2,30] 34 4)) (i 33 (s (d o9 [33,38]) .ret) .skip))))) (s (d DY [33,39]) .ret))))))
end TH
def TH:AFn:=⟨2,TH.c,[.cell 4 true 3],false⟩
namespace L4
def r0:=[bx 2 0,mv 4 (.c .nil)]
def r1:=[fa 14 2 8,uu 15 1 14,ad 16 15 k1,m 5 16]
def r2:=[m 17 5,fa 18 2 9,uu 19 1 18,ln 20 19,ad 21 17 20,o 22 (.mk 22 3 56 z3 21 21),m 6 22]
def r3:=[m 23 5,mv 24 k0]
def r4:=[ls 25 24 23]
def r5:=[m 26 24,m 7 26]
def r6:=[m 27 6,m 28 7,ca 29 96 [k0],ia 30 3 27 28,so 3 30 29]
def r7:=[ad 31 24 k1,m 24 31]
def r8:=[m 32 1,m 33 5,ls 34 32 33]
def r9:=[m 35 6,m 36 1,ca 37 96 [k1],ia 38 3 35 36,so 3 38 37]
def C9:=[fa 39 2 4,fa 40 39 1,uu 41 1 40,bi 42 .shl k1 41,ca 43 151 [k1,42],al 8 z3,
 so 3 8 43]
def DH:=[fa 44 2 9,uu 45 1 44,ln 46 45,mv 47 k0]
def o9:=[ls 48 47 46]
def DY:=[m 49 47,ia 50 1 45 47,tt 51 1 50,al 10 [.nil],m 9 49,so 1 10 51]
def x9:=[ca 52 96 [k0],al 11 z3,so 3 11 52]
def y7:=[fa 53 10 0,uu 54 1 53,ln 55 54,mv 56 k0]
def ag:=[ls 57 56 55]
def FG:=[ia 58 2 54 56,tt 59 2 58,al 13 [z,z],so 2 13 59]
def bg:=[m 60 6,fa 61 13 0,uu 62 1 61,ia 63 3 60 62,tt 64 3 63,ca 65 97 [64],bi 66 .neq 65 k0]
def cp:=[tt 67 3 11,m 68 6,fa 69 13 0,uu 70 1 69,ia 71 3 68 70,tt 72 3 71,fa 73 13 1,
 uu 74 1 73,ca 75 96 [74],ca 76 99 [72,75],ca 77 98 [67,76],so 3 11 77]
def cz:=[ad 78 56 k1,m 56 78]
def ef:=[m 79 6,m 80 5,m 81 9,ad 82 80 81,tt 83 3 11,tt 84 3 8,ca 85 99 [83,84],ia 86 3 79 82,so 3 86 85]
def iy:=[m 87 5,m 88 9,ad 89 87 88,m 90 1,bi 91 .eql 89 90]
def ko:=[m 92 6,m 93 1,ca 94 96 [k1],ia 95 3 92 93,so 3 95 94]
def K8:=[ad 96 47 k1,m 47 96]
def MY:=[m 97 6,m 4 97]
def l1:=(s (p r4) (s (i 25 .skip (x 0)) (s (b 1 (s (d r5 [25,26]) (d r6 (rl [7] 27 4)))) (d r7 [31]))))
def l3:=(s (p ag) (s (i 57 .skip (x 4)) (s (b 5 (s (d FG [57,58,59]) (s (d bg (ra 60 6)) (i 66 (e cp (rl [13] 66 12)) .skip)))) (d cz [13,66,78]))))
def l2:=(s (p o9) (s (i 48 .skip (x 2)) (s (b 3 (s (d DY (ra 48 4)) (s (d x9 [52]) (s (s (d y7 [10,53]) (b 4 (w l3))) (s (d ef (rl [11,54,55,56,57] 79 8)) (s (d iy (rl [9] 87 4)) (i 91 (d ko (ra 91 5)) .skip))))))) (d K8 [91,96]))))
def c:=(s (d r0 [0,4]) (s (d r1 [14,15,16]) (s (d r2 (ra 17 6)) (s (s (p r3) (b 0 (w l1))) (s (s (d r8 [23,24,25,32,33]) (i 34 (d r9 (ra 34 5)) .skip)) (s (d C9 (rl [34] 39 5)) (s (s (d DH [2,44]) (b 2 (w l2))) (s (d MY [1,5,6,8,45,46,47,48,97]) .ret))))))))
end L4
def L4:AFn:=⟨2,L4.c,[.tmp 4],false⟩
namespace TI
def r0:=[mv 4 (.c .nil)]
def r1:=[m 7 0,ln 8 7,o 9 (.mk 9 3 56 z3 8 8),m 5 9]
def r2:=[m 10 0,ln 11 10,mv 12 k0]
def r3:=[ls 13 12 11]
def r4:=[m 14 12,m 6 14]
def r5:=[m 15 5,m 16 6,m 17 0,m 18 6,ia 19 1 17 18,uu 20 1 19,m 21 1,ia 22 3 20 21,tt 23 3 22,
 ia 24 3 15 16,so 3 24 23]
def r6:=[ad 25 12 k1,m 12 25]
def r7:=[m 26 5,m 4 26]
def l1:=(s (p r3) (s (i 13 .skip (x 0)) (s (b 1 (s (d r4 [13,14]) (d r5 (rl [6] 15 10)))) (d r6 [25]))))
def c:=(s (d r0 [4]) (s (d r1 [7,8,9]) (s (s (d r2 [10]) (b 0 (w l1))) (s (d r7 [0,1,5,11,12,13,26]) .ret))))
end TI
def TI:AFn:=⟨2,TI.c,[.tmp 4],false⟩
namespace S5
def r0:=[bx 2 0,al 4 z3]
def r1:=[fa 5 2 0,tt 6 3 5,m 7 1,ca 8 96 [7],ca 9 99 [6,8],fa 10 2 3,tt 11 3 10,ca 12 98 [9,11],
 so 3 4 12]
def c:=(s (d r0 [0]) (s (e r1 (rl [1,2] 5 8)) .ret))
end S5
def S5:AFn:=⟨2,S5.c,[.cell 4 true 3],false⟩
namespace S8
def r0:=[o 6 (.alloc 354006 [(.bool false),.nil,.nil,(.bool false),.nil,.nil])]
def r1:=[uu 18 1 1,m 19 0,ca 20 352 [18,19],m 7 20]
def r2:=[m 21 7,o 22 (.a8 354022 1 [21]),ca 23 295 [22],o 8 (.alloc 354008 z3),so 3 8 23]
def r3:=[m 24 7,tt 25 3 8,ca 26 296 [24,25],m 7 26]
def r4:=[fa 27 2 5,q 28 [354009] (.ld true 3 27),q 29 [354009] (.ld true 3 3),q 30 [354009] (.ld true 3 8),
 q 31 [354009] (.call 99 [29,30]),q 32 [354009] (.call 99 [28,31]),o 9 (.alloc 354009 z3),so 3 9 32]
def r5:=[ca 33 96 [k0],ca 34 96 [k0],o 35 (.build [(.bool false),.nil,.nil,(.bool false),.nil,.nil] [(0,3,33),(3,3,34)]),
 o 10 (.alloc 354010 [(.bool false),.nil,.nil,(.bool false),.nil,.nil]),so 6 10 35]
def r6:=[ca 36 96 [k0],ca 37 96 [k0],o 38 (.build [(.bool false),.nil,.nil,(.bool false),.nil,.nil] [(0,3,36),(3,3,37)]),
 o 11 (.alloc 354011 [(.bool false),.nil,.nil,(.bool false),.nil,.nil]),so 6 11 38]
def r7:=[uu 39 1 4,ln 40 39,mv 41 k0]
def r8:=[ls 42 41 40]
def r9:=[m 43 41,ia 44 8 39 41,tt 45 8 44,o 13 (.alloc 354013 [.nil,(.bool false),.nil,.nil,.nil,(.bool false),.nil,.nil]),m 12 43,
 so 8 13 45]
def C9:=[m 46 12,o 47 (.mm false [46,k1]),m 14 47]
def DH:=[m 48 14,m 49 14,o 50 (.v7 (some 2) 3 10 49),tt 51 3 50,fa 52 13 1,tt 53 3 52,fa 54 13 0,uu 55 1 54,
 m 56 0,ia 57 3 55 56,tt 58 3 57,ca 59 256 [58],ca 60 99 [53,59],ca 61 98 [51,60],
 o 62 (.v7 (some 2) 3 10 48),so 3 62 61]
def o9:=[m 63 14,m 64 14,o 65 (.v7 (some 2) 3 11 64),tt 66 3 65,fa 67 13 1,tt 68 3 67,tt 69 8 2,m 70 7,fa 71 13 4,
 tt 72 4 71,ca 73 305 [69,70,72],ca 74 99 [68,73],ca 75 98 [66,74],o 76 (.v7 (some 2) 3 11 63),so 3 76 75]
def DY:=[ad 77 41 k1,m 41 77]
def x9:=[mv 78 k0]
def y7:=[ls 79 78 (k 2)]
def ag:=[m 80 78,m 15 80]
def FG:=[m 82 15,o 83 (.v7 (some 2) 3 11 82),q 84 [354016] (.ld true 3 83),q 85 [354016] (.ld true 3 9),
 q 86 [354016] (.call 100 [84,85]),m 81 86,et 87 81 0,et 88 81 1,o 16 (.alloc 354016 z3),so 3 16 87,
 m 17 88]
def bg:=[m 89 15,m 90 15,o 91 (.v7 (some 2) 3 10 90),tt 92 3 91,tt 93 3 16,ca 94 98 [92,93],o 95 (.v7 (some 2) 3 10 89),
 so 3 95 94]
def cp:=[ad 96 78 k1,m 78 96]
def cz:=[o 97 (.v7 (some 2) 3 10 k0),tt 98 3 97,o 99 (.v7 (some 2) 3 10 k1),tt 100 3 99,
 o 101 (.build [(.bool false),.nil,.nil,(.bool false),.nil,.nil] [(0,3,98),(3,3,100)]),so 6 6 101]
def l1:=(s (p r8) (s (i 42 .skip (x 0)) (s (b 1 (s (d r9 (ra 42 4)) (s (d C9 [12,46,47]) (s (e DH (ra 48 15)) (e o9 (rl [13,14] 63 14)))))) (d DY [77]))))
def l2:=(s (p y7) (s (i 79 .skip (x 2)) (s (b 3 (s (d ag [79,80]) (s (e FG (rl [17] 81 8)) (e bg (rl [15,16] 89 7))))) (d cp [96]))))
def c:=(s (p r0) (s (d r1 [1,18,19,20]) (s (d r2 [21,22,23]) (s (d r3 [24,25,26]) (s (e r4 (rl [3,8] 27 6)) (s (d r5 [33,34,35]) (s (d r6 [36,37,38]) (s (s (d r7 [4]) (b 0 (w l1))) (s (s (d x9 (rl [0,2,7] 39 4)) (b 2 (w l2))) (s (d cz (rl [9,10,11,78,79] 97 5)) .ret))))))))))
end S8
def S8:AFn:=⟨5,S8.c,[.cell 6 true 6],false⟩
namespace TF
def r0:=[o 3 (.box 355003 0),o 4 (.box 355004 1),o 6 (.alloc 355006 z3)]
def r1:=[m 14 2,ln 15 14,o 16 (.mk 355016 1 24 [.nil] 15 15),m 7 16]
def r2:=[m 17 2,ln 18 17,mv 19 k0]
def r3:=[ls 20 19 18]
def r4:=[m 21 19,ia 22 8 17 19,tt 23 8 22,o 9 (.alloc 355009 [.nil,(.bool false),.nil,.nil,.nil,(.bool false),.nil,.nil]),m 8 21,
 so 8 9 23]
def r5:=[fa 24 4 10,uu 25 1 24,ln 26 25,mv 27 k0]
def r6:=[ls 28 27 26]
def r7:=[ia 29 1 25 27,uu 30 1 29,m 11 30]
def r8:=[m 31 7,m 32 8,m 33 7,m 34 8,ia 35 1 33 34,q 36 [355042] (.ld false 1 35),fa 37 9 0,uu 38 1 37,m 39 11,
 ia 40 3 38 39,tt 41 3 40,o 42 (.a8 355042 3 [41]),o 43 (.app 355043 3 56 36 42),ia 44 1 31 32,so 1 44 43]
def r9:=[ad 45 27 k1,m 27 45]
def C9:=[ad 46 19 k1,m 19 46]
def DH:=[m 47 7,ca 48 295 [47],o 12 (.alloc 355012 z3),so 3 12 48]
def o9:=[m 49 2,ln 50 49,mv 51 k0]
def DY:=[ls 52 51 50]
def x9:=[m 53 51,m 13 53]
def y7:=[m 54 2,m 55 13,tt 56 8 3,m 57 7,m 58 13,ia 59 1 57 58,uu 60 1 59,tt 61 3 12,ca 62 296 [60,61],
 o 63 (.n9 304 [56,62]),ia 64 8 54 55,fa 65 64 4,so 4 65 63]
def ag:=[ad 66 51 k1,m 51 66]
def FG:=[tt 67 3 12,so 3 6 67]
def l2:=(s (p r6) (s (i 28 .skip (x 2)) (s (b 3 (s (d r7 [28,29,30]) (e r8 (rl [11] 31 14)))) (d r9 [45]))))
def l1:=(s (p r3) (s (i 20 .skip (x 0)) (s (b 1 (s (d r4 (ra 20 4)) (s (d r5 [24]) (b 2 (w l2))))) (d C9 [8,9,25,26,27,28,46]))))
def l3:=(s (p DY) (s (i 52 .skip (x 4)) (s (b 5 (s (d x9 [52,53]) (e y7 (rl [13] 54 12)))) (d ag [66]))))
def c:=(s (d r0 [0,1]) (s (d r1 [14,15,16]) (s (s (p r2) (b 0 (w l1))) (s (d DH [4,17,18,19,20,47,48]) (s (s (d o9 [49]) (b 4 (w l3))) (s (d FG [2,3,7,12,50,51,52,67]) .ret))))))
end TF
def TF:AFn:=⟨3,TF.c,[.cell 6 true 3],false⟩
namespace S7
def r0:=[o 1 (.box 356001 0),mv 2 (.c (.dc .nilFunc)),mv 3 k0]
def r1:=[fa 15 1 8,uu 16 1 15,o 17 (.mk 356017 1 24 [.nil] 16 16),o 4 (.alloc 356004 [.nil]),so 1 4 17]
def r2:=[uu 18 1 4,ln 19 18,mv 20 k0]
def r3:=[ls 21 20 19]
def r4:=[m 22 20,m 5 22]
def r5:=[q 23 [356028] (.ld false 1 4),m 24 5,tt 25 12 1,m 26 5,ad 27 k1 26,o 28 (.q6 356028 351 [25,27]),
 ia 29 1 23 24,so 1 29 28]
def r6:=[ad 30 20 k1,m 20 30]
def r7:=[o 6 (.bu 356006 1)]
def r8:=[fa 31 1 10,uu 32 1 31,ln 33 32,mv 34 k0]
def r9:=[ls 35 34 33]
def C9:=[ia 36 1 32 34,uu 37 1 36,m 8 37]
def DH:=[m 38 6,uu 39 1 4,m 40 8,ca 41 352 [39,40],o 42 (.a8 356042 1 [41]),o 43 (.app 356043 1 24 38 42),m 6 43]
def o9:=[ad 44 34 k1,m 34 44]
def DY:=[m 46 6,ca 47 303 [46],m 45 47,et 48 45 0,et 49 45 1,o 9 (.alloc 356009 [.nil,(.bool false),.nil,.nil,z,(.bool false),.nil,.nil]),
 so 8 9 48,m 10 49]
def x9:=[m 50 10,bi 51 .neq 50 k0]
def y7:=[m 52 10,mv 2 (.c (.dc .nilFunc)),m 3 52]
def ag:=[tt 53 12 1,ca 54 351 [53,k0],ca 55 96 [k1],
 o 56 (.build [.nil,(.bool false),.nil,.nil,.nil,(.bool false),.nil,.nil] [(0,1,54),(1,3,55)]),o 57 (.a8 356057 8 [56]),
 o 11 (.alloc 356011 [.nil]),so 1 11 57]
def FG:=[fa 58 1 9,uu 59 1 58,ln 60 59,mv 61 k0]
def bg:=[ls 62 61 60]
def cp:=[m 63 61,m 12 63]
def cz:=[tt 64 12 1,m 65 12,ca 66 350 [64,65],o 13 (.alloc 356013 z3),so 3 13 66]
def ef:=[tt 67 3 13,ca 68 97 [67],bi 69 .gtr 68 k0]
def iy:=[q 70 [356080] (.ld false 1 11),tt 71 12 1,fa 72 1 8,uu 73 1 72,ad 74 k1 73,m 75 12,
 ad 76 74 75,ca 77 351 [71,76],tt 78 3 13,
 o 79 (.build [.nil,(.bool false),.nil,.nil,.nil,(.bool false),.nil,.nil] [(0,1,77),(1,3,78)]),o 80 (.a8 356080 8 [79]),
 o 81 (.app 356081 8 160 70 80),so 1 11 81]
def ko:=[ad 82 61 k1,m 61 82]
def K8:=[tt 83 8 9,tt 84 12 1,uu 85 1 11,o 86 (.e8 355 [83,84,85]),o 14 (.alloc 356014 z3),
 so 3 14 86]
def MY:=[o 87 (.td false 354 [4,9,14,11]),m 2 87,mv 3 k0]
def l1:=(s (p r3) (s (i 21 .skip (x 0)) (s (b 1 (s (d r4 [21,22]) (e r5 (rl [5] 23 7)))) (d r6 [30]))))
def l2:=(s (p r9) (s (i 35 .skip (x 2)) (s (b 3 (s (d C9 [35,36,37]) (d DH (rl [8] 38 6)))) (d o9 [44]))))
def l3:=(s (p bg) (s (i 62 .skip (x 4)) (s (b 5 (s (d cp [62,63]) (s (d cz [64,65,66]) (s (d ef [67,68]) (i 69 (e iy (rl [12,13] 69 13)) .skip))))) (d ko [12,13,69,82]))))
def c:=(s (d r0 [0,2,3]) (s (d r1 [15,16,17]) (s (s (d r2 [18]) (b 0 (w l1))) (s (d r7 [19,20,21]) (s (s (d r8 [31]) (b 2 (w l2))) (s (d DY (rl [6,32,33,34,35] 45 5)) (s (s (d x9 [50]) (i 51 (s (d y7 [1,4,9,10,51,52]) .ret) .skip)) (s (d ag (rl [10,51] 53 5)) (s (s (d FG [58,59]) (b 4 (w l3))) (s (d K8 (rl [1,60,61,62] 83 4)) (s (d MY [4,9,11,14,87]) .ret)))))))))))
end S7
def S7:AFn:=⟨1,S7.c,[.tmp 2,.tmp 3],false⟩
namespace S2
def r0:=[bx 1 0,mv 2 k0,mv 3 k0]
def r1:=[tt 12 12 1,ca 13 349 [12],nt 14 13]
def r2:=[mv 2 k0,mv 3 (k 2)]
def r3:=[tt 16 12 1,o 17 (.e8 356 [16]),m 15 17,et 18 15 0,et 19 15 1,m 4 18,m 5 19]
def r4:=[m 20 5,bi 21 .neq 20 k0]
def r5:=[m 22 5,mv 2 k0,m 3 22]
def r6:=[fa 23 1 0,tt 24 4 23,ca 25 4 [24],ca 26 96 [25],al 6 z3,so 3 6 26]
def r7:=[fa 27 1 0,tt 28 4 27,ca 29 4 [28],m 7 29]
def r8:=[fa 30 1 9,uu 31 1 30,ln 32 31,mv 33 k0]
def r9:=[ls 34 33 32]
def C9:=[m 35 33,m 8 35]
def DH:=[m 36 4,fa 37 1 8,uu 38 1 37,ad 39 k1 38,m 40 8,ad 41 39 40,o 42 (.q8 36 [41]),
 al 9 [(.bool false),.nil,.nil,(.bool false),.nil,.nil],so 6 9 42]
def o9:=[fa 43 9 3,tt 44 3 43,tt 45 3 6,ca 46 198 [44,45],bi 47 .gtr 46 k0]
def DY:=[mv 2 k0,mv 3 (k 18)]
def x9:=[mv 10 k0]
def y7:=[m 48 10,m 49 7,ls 50 48 49]
def ag:=[m 51 10,m 52 7,ad 53 51 52,ad 54 53 k1,bi 55 .quo 54 (k 2),m 11 55]
def FG:=[tt 56 6 9,m 57 11,ca 58 353 [56,57],tt 59 3 6,ca 60 198 [58,59],bi 61 .gtr 60 k0]
def bg:=[m 62 11,sb 63 62 k1,m 7 63]
def cp:=[m 64 11,m 10 64]
def cz:=[ad 65 33 k1,m 33 65]
def ef:=[m 66 7,m 2 66,mv 3 k0]
def l2:=(s (s (d y7 [48,49]) (i 50 .skip (x 2))) (b 3 (s (d ag (ra 50 6)) (s (e FG (ra 56 5)) (i 61 (d bg [11,61,62,63]) (d cp [11,61,64]))))))
def l1:=(s (p r9) (s (i 34 .skip (x 0)) (s (b 1 (s (d C9 [34,35]) (s (d DH (rl [8] 36 7)) (s (s (d o9 (ra 43 4)) (i 47 (s (d DY [1,4,6,7,9,32,33,47]) .ret) .skip)) (s (d x9 [47]) (b 2 (w l2))))))) (d cz [9,10,50,65]))))
def c:=(s (d r0 [0,2,3]) (s (s (d r1 [12,13]) (i 14 (s (d r2 [1,14]) .ret) .skip)) (s (d r3 (ra 14 6)) (s (s (d r4 [20]) (i 21 (s (d r5 [1,4,5,21,22]) .ret) .skip)) (s (d r6 (rl [5,21] 23 4)) (s (d r7 [27,28,29]) (s (s (d r8 [30,31]) (b 0 (w l1))) (s (d ef [1,4,6,7,32,33,34,66]) .ret))))))))
end S2
def S2:AFn:=⟨1,S2.c,[.tmp 2,.tmp 3],false⟩
structure w7 (L:Lib):Prop extends n8 L where
 TP:L 349=some F.TP
 TH:L 350=some F.TH
 L4:L 351=some F.L4
 TI:L 352=some F.TI
 S5:L 353=some F.S5
 S8:L 354=some F.S8
 TF:L 355=some F.TF
 S7:L 356=some F.S7
 S2:L 358=some F.S2
end Go.b8.F

namespace Go.b8.F
open C
structure xx (L:Lib):Prop extends w7 L where
end Go.b8.F

namespace Go.b8.F
open C
namespace Y1
def r0:=[bx 1 0,mv 2 k0,mv 3 kf]
def r1:=[tt 7 3 1,ca 8 124 [(k 1099511627776)],ca 9 127 [7,8],bi 10 .gtr 9 k0,m 11 10,g 12 11 false (.ld true 3 1),
 g 13 11 false (.call 124 [(k (-1099511627776))]),g 14 11 false (.call 127 [12,13]),g 15 11 false (.bin .lss 14 k0),pk 16 11 kt 15]
def r2:=[mv 2 k0,mv 3 kf]
def r3:=[mv 4 (k (-1099511627776)),mv 5 (k 1099511627776)]
def r4:=[m 17 4,m 18 5,ls 19 17 18]
def r5:=[m 20 4,m 21 5,m 22 4,sb 23 21 22,ad 24 23 k1,bi 25 .quo 24 (k 2),ad 26 20 25,m 6 26]
def r6:=[m 27 6,ca 28 124 [27],tt 29 3 1,ca 30 127 [28,29],bi 31 .leq 30 k0]
def r7:=[m 32 6,m 4 32]
def r8:=[m 33 6,sb 34 33 k1,m 5 34]
def r9:=[m 35 4,m 2 35,mv 3 kt]
def l1:=(s (s (d r4 [17,18]) (i 19 .skip (x 0))) (b 1 (s (d r5 (ra 19 8)) (s (e r6 (ra 27 4)) (i 31 (d r7 [6,31,32]) (d r8 [6,31,33,34]))))))
def c:=(s (d r0 [0,2,3]) (s (s (e r1 (ra 7 9)) (i 16 (s (d r2 [1,16]) .ret) .skip)) (s (d r3 [16]) (s (b 0 (w l1)) (s (d r9 [1,4,5,19,35]) .ret)))))
end Y1
def Y1:AFn:=⟨1,Y1.c,[.tmp 2,.tmp 3],false⟩
structure pf (L:Lib):Prop extends a6 L where
 Y1:L 361=some F.Y1
end Go.b8.F

namespace Go.b8.F
open C
namespace VU
def r0:=[bx 2 0,al 4 z3,mv 5 k0]
def r1:=[tt 8 12 2,ca 9 27 [8],nt 10 9]
def r2:=[o 11 (.build z3 []),so 3 4 11,mv 5 (k 2)]
def r3:=[m 12 1,fa 13 2 9,uu 14 1 13,ln 15 14,sb 16 15 k1,ca 17 10 [12,k0,16],nt 18 17]
def r4:=[o 19 (.build z3 []),so 3 4 19,mv 5 k1]
def r5:=[mv 6 kt]
def r6:=[mv 7 k0]
def r7:=[m 20 7,fa 21 2 9,uu 22 1 21,m 23 1,ia 24 1 22 23,fa 25 24 0,uu 26 1 25,ln 27 26,
 ls 28 20 27]
def r9:=[m 31 6,m 32 31,g 33 32 true (.k7 2 9),g 34 32 true (.ld false 1 33),g 35 32 true (.v3 1),g 36 32 true (.v7 none 1 34 35),g 37 32 true (.k7 36 0),
 g 38 32 true (.ld false 1 37),g 39 32 true (.v3 7),g 40 32 true (.v7 none 2 38 39),g 41 32 true (.k7 40 1),g 42 32 true (.ld false 1 41),
 g 43 32 true (.k7 2 4),g 44 32 true (.k7 43 1),g 45 32 true (.ld false 1 44),g 46 32 true (.conv .u64 45),g 47 32 true (.bin .shl k1 46),
 g 48 32 true (.bin .rem 42 47),g 49 32 true (.bin .eql 48 k0),pk 50 32 49 kf,m 6 50]
def r8:=[m 29 7,ad 30 29 k1,m 7 30]
def C9:=[m 52 6,m 51 52]
def DH:=[ca 53 124 [k0],so 3 4 53,mv 5 k0]
def o9:=[fa 55 2 0,fa 56 55 2,uu 57 1 56,bi 58 .eql 57 (k 2),m 54 58]
def DY:=[ca 59 125 [k1,(k 2)],so 3 4 59,mv 5 k0]
def x9:=[ca 60 124 [k1],so 3 4 60,mv 5 k0]
def l1:=(s (s (d r7 (ra 20 8)) (i 28 .skip (x 0))) (s (b 1 (e r9 (rl [28] 31 20))) (d r8 [29,30])))
def c:=(s (d r0 [0,5]) (s (s (d r1 [8,9]) (i 10 (s (d r2 [1,2,10,11]) .ret) .skip)) (s (s (d r3 (rl [10] 12 6)) (i 18 (s (d r4 [1,2,18,19]) .ret) .skip)) (s (d r5 [18]) (s (s (p r6) (b 0 (w l1))) (s (b 2 (s (d C9 [1,6,7,28,52]) (i 51 (s (d DH [2,51,53]) .ret) (s (d o9 (rl [2,51] 55 4)) (i 54 (s (d DY [54,59]) .ret) .skip))))) (s (d x9 [54,60]) .ret)))))))
end VU
def VU:AFn:=⟨2,VU.c,[.cell 4 true 3,.tmp 5],false⟩
namespace VZ
def r0:=[bx 1 0,mv 2 kf]
def r1:=[tt 3 12 1,ca 4 27 [3],m 5 4,g 6 5 true (.k7 1 8),g 7 5 true (.ld false 1 6),g 8 5 true (.bin .leq 7 (k 16)),
 pk 9 5 8 kf,m 2 9]
def c:=(s (d r0 [0,2]) (s (d r1 (rl [1] 3 7)) .ret))
end VZ
def VZ:AFn:=⟨1,VZ.c,[.tmp 2],false⟩
namespace VW
def r0:=[bx 3 0,al 6 z3,mv 7 k0]
def r1:=[m 20 1,fa 21 3 11,so 1 21 20]
def r2:=[tt 23 12 3,ca 24 165 [23],m 22 24,et 25 22 0,et 26 22 1,al 8 z6,
 so 6 8 25,m 9 26]
def r3:=[tt 28 6 8,ca 29 315 [28],m 27 29,et 30 27 0,et 31 27 1,al 10 z3,so 3 10 30,m 11 31]
def r4:=[m 32 11,bi 33 .neq 32 k0]
def r5:=[o 34 (.build z3 []),m 35 11,so 3 6 34,m 7 35]
def r6:=[m 36 2,q 37 [12] (.call 124 [36]),q 38 [12] (.ld true 3 10),q 39 [12] (.call 128 [37,38]),
 al 12 z3,so 3 12 39]
def r7:=[mv 13 k0]
def r8:=[m 40 13,fa 41 3 9,uu 42 1 41,ln 43 42,ls 44 40 43]
def C9:=[tt 48 12 3,m 49 13,ca 50 362 [48,49],m 47 50,et 51 47 0,et 52 47 1,al 14 z3,
 so 3 14 51,m 15 52]
def DH:=[tt 54 12 3,m 55 13,ca 56 166 [54,55],m 53 56,et 57 53 0,et 58 53 1,
 al 16 z6,so 6 16 57,m 17 58]
def o9:=[tt 60 6 16,ca 61 315 [60],m 59 61,et 62 59 0,et 63 59 1,al 18 z3,so 3 18 62,
 m 19 63]
def DY:=[m 64 19,bi 65 .neq 64 k0]
def x9:=[o 66 (.build z3 []),m 67 19,so 3 6 66,m 7 67]
def y7:=[tt 68 3 12,tt 69 3 14,tt 70 3 18,ca 71 128 [69,70],ca 72 126 [68,71],so 3 12 72]
def r9:=[m 45 13,ad 46 45 k1,m 13 46]
def ag:=[tt 73 3 12,so 3 6 73,mv 7 k0]
def l1:=(s (s (d r8 (ra 40 4)) (i 44 .skip (x 0))) (s (b 1 (s (d C9 (rl [15,44] 47 6)) (s (d DH (rl [17] 53 6)) (s (d o9 (rl [16] 59 5)) (s (s (d DY [64]) (i 65 (s (d x9 [3,12,13,14,18,19,65,66,67]) .ret) .skip)) (e y7 (rl [14,18,19,65] 68 5))))))) (d r9 [45,46])))
def c:=(s (d r0 [0,7]) (s (d r1 [1,20,21]) (s (d r2 (rl [9] 22 5)) (s (d r3 (rl [8] 27 5)) (s (s (d r4 [32]) (i 33 (s (d r5 [2,3,10,11,33,34,35]) .ret) .skip)) (s (e r6 (rl [2,10,11,33] 36 4)) (s (s (p r7) (b 0 (w l1))) (s (d ag [3,12,13,44,73]) .ret))))))))
end VW
def VW:AFn:=⟨3,VW.c,[.cell 6 true 3,.tmp 7],false⟩
namespace PI
def r0:=[bx 2 0,mv 4 kf,mv 5 k0]
def r1:=[tt 14 12 2,ca 15 363 [14],nt 16 15,m 13 16]
def r2:=[mv 4 kf,mv 5 (k 2)]
def r3:=[m 18 1,fa 19 2 0,tt 20 4 19,ca 21 13 [20],ca 22 10 [18,k0,21],nt 23 22,m 17 23]
def r4:=[mv 4 kf,mv 5 k1]
def r5:=[tt 25 12 2,ca 26 165 [25],m 24 26,et 27 24 0,et 28 24 1,al 6 z6,
 so 6 6 27,m 7 28]
def r6:=[fa 30 6 0,uu 31 1 30,ca 32 314 [31],m 29 32,et 33 29 0,et 34 29 1,m 8 33,m 9 34]
def r7:=[m 35 9,bi 36 .neq 35 k0]
def r8:=[m 37 9,mv 4 kf,m 5 37]
def r9:=[mv 10 k0]
def C9:=[m 38 10,fa 39 2 9,uu 40 1 39,ln 41 40,ls 42 38 41]
def o9:=[tt 46 12 2,fa 47 2 8,uu 48 1 47,ad 49 k1 48,m 50 10,ad 51 49 50,m 52 1,
 ca 53 364 [46,51,52],m 45 53,et 54 45 0,et 55 45 1,al 11 z3,so 3 11 54,m 12 55]
def DY:=[m 56 12,bi 57 .neq 56 k0]
def x9:=[m 58 12,mv 4 kf,m 5 58]
def y7:=[tt 59 3 11,fa 60 2 0,tt 61 4 60,ca 62 13 [61],ca 63 124 [62],ca 64 127 [59,63],bi 65 .gtr 64 k0]
def ag:=[mv 4 kf,mv 5 k0]
def DH:=[m 43 10,ad 44 43 k1,m 10 44]
def FG:=[mv 4 kt,mv 5 k0]
def l1:=(s (s (d C9 (ra 38 4)) (i 42 .skip (x 1))) (s (b 2 (s (d o9 (rl [42] 45 11)) (s (s (d DY [56]) (i 57 (s (d x9 [1,2,10,11,12,57,58]) .ret) .skip)) (s (e y7 (rl [11,12,57] 59 6)) (i 65 (s (d ag [1,2,10,65]) .ret) .skip))))) (d DH [43,44,65])))
def c:=(s (d r0 [0,4,5]) (s (b 0 (s (d r1 [14,15,16]) (i 13 (s (d r2 [1,2,13]) .ret) (s (d r3 (rl [13] 18 6)) (i 17 (s (d r4 [1,2,17]) .ret) .skip))))) (s (d r5 (rl [7,17] 24 5)) (s (s (d r6 (rl [6,8] 29 6)) (s (d r7 [35]) (i 36 (s (d r8 [1,2,9,36,37]) .ret) .skip))) (s (s (d r9 [9,36]) (b 1 (w l1))) (s (d FG [1,2,10,42]) .ret))))))
end PI
def PI:AFn:=⟨2,PI.c,[.tmp 4,.tmp 5],false⟩
namespace PH
def r0:=[bx 1 0,mv 2 k0,mv 3 k0]
def r1:=[tt 18 12 1,ca 19 365 [18,k0],m 17 19,et 20 17 0,et 21 17 1,m 4 20,m 5 21]
def r2:=[m 22 5,bi 23 .neq 22 k0]
def r3:=[m 24 5,mv 2 k0,m 3 24]
def r4:=[m 25 4,nt 26 25]
def r5:=[mv 2 k0,mv 3 (k 18)]
def r6:=[fa 27 1 0,tt 28 4 27,ca 29 13 [28],m 6 29]
def r7:=[mv 7 k0]
def r8:=[m 30 7,fa 31 1 9,uu 32 1 31,ln 33 32,ls 34 30 33]
def C9:=[tt 38 12 1,fa 39 1 8,uu 40 1 39,ad 41 k1 40,m 42 7,ad 43 41 42,ca 44 364 [38,43,k0],
 m 37 44,et 45 37 0,et 46 37 1,al 8 z3,so 3 8 45,m 9 46]
def DH:=[tt 48 12 1,fa 49 1 8,uu 50 1 49,ad 51 k1 50,m 52 7,ad 53 51 52,ca 54 364 [48,53,k1],
 m 47 54,et 55 47 0,et 56 47 1,al 10 z3,so 3 10 55,m 11 56]
def o9:=[tt 57 3 10,tt 58 3 8,ca 59 153 [57,58],al 12 z3,so 3 12 59]
def DY:=[tt 60 3 12,ca 61 155 [60],bi 62 .gtr 61 k0]
def x9:=[fa 64 1 0,q 65 [13] (.ld true 4 64),q 66 [13] (.call 13 [65]),q 67 [13] (.call 124 [66]),
 q 68 [13] (.ld true 3 8),q 69 [13] (.call 153 [67,68]),q 70 [13] (.ld true 3 12),
 q 71 [13] (.call 154 [69,70]),m 63 71,et 72 63 0,et 73 63 1,al 13 z3,so 3 13 72,m 14 73]
def y7:=[tt 75 3 13,ca 76 361 [75],m 74 76,et 77 74 0,et 78 74 1,m 15 77,m 16 78]
def ag:=[m 79 16]
def FG:=[m 80 6,m 81 15,o 82 (.mm false [80,81]),m 6 82]
def r9:=[m 35 7,ad 36 35 k1,m 7 36]
def bg:=[m 83 6,m 2 83,mv 3 k0]
def l1:=(s (s (d r8 (ra 30 4)) (i 34 .skip (x 0))) (s (b 1 (s (d C9 (rl [9,34] 37 10)) (s (d DH (rl [11] 47 10)) (s (d o9 [10,57,58,59]) (s (d DY [60,61]) (i 62 (s (e x9 (rl [8,12,14] 62 12)) (s (d y7 (rl [13] 74 5)) (s (d ag [16]) (i 79 (d FG (rl [15] 79 4)) .skip)))) .skip)))))) (d r9 [8,12,15,35,36,62,79])))
def c:=(s (d r0 [0,2,3]) (s (d r1 (ra 17 5)) (s (s (d r2 [22]) (i 23 (s (d r3 [1,4,5,23,24]) .ret) .skip)) (s (s (d r4 [4,5,23,25]) (i 26 (s (d r5 [1,26]) .ret) .skip)) (s (d r6 (ra 26 4)) (s (s (p r7) (b 0 (w l1))) (s (d bg [1,6,7,34,83]) .ret)))))))
end PH
def PH:AFn:=⟨1,PH.c,[.tmp 2,.tmp 3],false⟩
structure au (L:Lib):Prop extends cb L,bn L,pf L where
 VU:L 362=some F.VU
 VZ:L 363=some F.VZ
 VW:L 364=some F.VW
 PI:L 365=some F.PI
 PH:L 366=some F.PH
end Go.b8.F

namespace Go.b8.F
open C
namespace RN
def r0:=[bx 3 0,mv 6 kf]
def r1:=[tt 25 5 3,ca 26 348 [25],m 24 26,et 27 24 0,et 28 24 1,al 7 [z,z,z,z,z,z,z,z,z,.nil,.nil,z],
 so 12 7 27,m 8 28]
def r2:=[m 29 8,nt 30 29]
def r3:=[mv 6 kf]
def r4:=[tt 32 12 7,ca 33 358 [32],m 31 33,et 34 31 0,et 35 31 1,m 9 34,m 10 35]
def r5:=[m 36 10,bi 37 .neq 36 k0]
def r6:=[tt 39 12 7,ca 40 366 [39],m 38 40,et 41 38 0,et 42 38 1,m 11 41,m 12 42]
def r7:=[ca 43 318 [],m 44 43,g 45 44 true (.v3 10),g 46 44 true (.v3 12),g 47 44 true (.bin .eql 45 46),pk 48 44 47 kf,m 6 48]
def r8:=[tt 49 12 7,al 13 [z,z,z,z,z,z,z,z,z,.nil,.nil,z],so 12 13 49]
def r9:=[m 50 1,fa 51 7 8,uu 52 1 51,ad 53 k1 52,fa 54 7 9,uu 55 1 54,ln 56 55,ad 57 53 56,
 ca 58 34 [50,57],fa 59 13 11,so 1 59 58]
def C9:=[tt 61 12 13,ca 62 146 [61],m 60 62,et 63 60 0,et 64 60 1,al 14 z6,
 so 6 14 63,m 15 64]
def DH:=[m 65 2,ca 66 34 [65,(k 40)],ad 67 k1 66,m 2 67]
def o9:=[tt 69 6 14,m 70 2,ca 71 134 [69,70],m 68 71,et 72 68 0,et 73 68 1,m 16 72,m 17 73]
def DY:=[m 74 15,bi 75 .neq 74 k0,m 76 75,g 77 76 false (.v3 17),g 78 76 false (.bin .neq 77 k0),pk 79 76 kt 78,m 80 79,
 g 81 80 false (.v3 16),g 82 80 false (.len 81),g 83 80 false (.v3 2),g 84 80 false (.bin .neq 82 83),pk 85 80 kt 84]
def x9:=[mv 6 kf]
def y7:=[o 18 (.bu 18 1)]
def ag:=[m 86 2,sb 87 86 k1,m 19 87]
def FG:=[m 88 19,bi 89 .geq 88 k0]
def cp:=[m 92 18,m 93 9,m 94 16,m 95 19,ia 96 3 94 95,tt 97 3 96,ca 98 155 [97],bi 99 .mul 93 98,o 100 (.a8 100 1 [99]),
 o 101 (.app 101 1 8 92 100),m 18 101]
def bg:=[m 90 19,sb 91 90 k1,m 19 91]
def cz:=[q 103 [106] (.ld true 12 7),fa 104 7 8,uu 105 1 104,o 106 (.mk 106 1 8 [z] 105 105),m 107 18,ca 108 43 [103,106,107],
 m 102 108,et 109 102 0,et 110 102 1,et 111 102 2,et 112 102 3,m 20 109,m 21 110,m 22 111,m 23 112]
def ef:=[ca 113 318 [],m 114 113,g 115 114 true (.v3 23),g 116 114 true (.bin .eql 115 k0),pk 117 114 116 kf,m 118 117,
 g 119 118 true (.v3 22),g 120 118 true (.bin .eql 119 k0),pk 121 118 120 kf,m 6 121]
def l1:=(s (s (d FG [88]) (i 89 .skip (x 0))) (s (b 1 (d cp (rl [89] 92 10))) (d bg [90,91])))
def c:=(s (d r0 [0,6]) (s (d r1 (rl [3] 24 5)) (s (s (d r2 [8,29]) (i 30 (s (d r3 [1,2,7,30]) .ret) .skip)) (s (d r4 (ra 30 6)) (s (s (d r5 [36]) (i 37 (s (d r6 (rl [1,2,7,9,11] 37 6)) (s (d r7 (rl [10,12] 43 6)) .ret)) .skip)) (s (d r8 [10,37,49]) (s (d r9 (rl [1] 50 10)) (s (d C9 (rl [13] 60 5)) (s (d DH [65,66,67]) (s (d o9 (rl [14] 68 6)) (s (s (d DY (rl [15,17] 74 11)) (i 85 (s (d x9 [2,7,9,16,85]) .ret) .skip)) (s (d y7 [85]) (s (s (d ag [2,86,87]) (b 0 (w l1))) (s (e cz (rl [7,9,16,18,19,20,21,89] 102 11)) (s (d ef (rl [22,23] 113 9)) .ret)))))))))))))))
end RN
def RN:AFn:=⟨3,RN.c,[.tmp 6],false⟩
structure pn (L:Lib):Prop extends lf L,xx L,au L,bp L where
 RN:L 368=some F.RN
end Go.b8.F

namespace Go.b8
def oI:Value->AV->Bool
 | .int k n,.int k' n'=>k == k'&&n == n'
 | .bool b,.bool b'=>b == b'
 | .slice none 0 0,.nil=>true
 | .string s,.dc (.string s')=>s.data.toList == s'.data.toList
 | .nilFunc,.dc .nilFunc=>true
 | _,_=>false
def YJ:List Value->List AV->Bool
 | [],[]=>true
 | v::r,a::l=>oI v a&&YJ r l
 | _,_=>false
def uP:Value->AV->Bool
 | .agg cs,.agg l=>YJ cs.toList l
 | v,a=>oI v a
def EK:Operand->BL->Bool
 | .tmp t,.t n=>t == n
 | .const v,.c a=>uP v a
 | .func g,.c (.fn _ _ g' [])=>g == g'
 | _,_=>false
def IA:List Operand->List BL->Bool
 | [],[]=>true
 | v::r,a::l=>EK v a&&IA r l
 | _,_=>false
def XB:Option Operand->Option BL->Bool
 | none,none=>true
 | some x,some y=>EK x y
 | _,_=>false
section
variable (P:Program)
def dW (t:TypeId):Option Bool :=
 match P.underlying t with
 | some (.struct _)=>some true
 | some (.array _ _)=>some true
 | some _=>some false
 | none=>none
def OZ (t:TypeId) (n:Nat):Bool:=match P.info? t with|some i=>i.size == n|none=>false
def nL (t:TypeId) (n:Nat):Bool:=match P.info? t with|some i=>i.bytes == n|none=>false
def dJ (t:TypeId) (l:List AV):Bool:=match P.info? t with|some i=>(match i.zero with|some z=>YJ z.cells.toList l|none=>false)|none=>false
def QA (t:TypeId) (f:TypeId->Bool):Bool:=match P.underlying t with|some (.slice e)=>f e|_=>false
def Adp (t:TypeId) (i off n:Nat):Bool:=match P.underlying t with
 | some (.struct fs)=>(match fs[i]? with|some f=>f.offset == off&&OZ P f.type n&&n != 0|none=>false)
 | _=>false
def Adq (t:TypeId) (i:Nat) (agg:Bool):Bool:=match P.underlying t with
 | some (.struct fs)=>(match fs[i]? with|some f=>dW P f.type == some agg|none=>false)
 | _=>false
def cL (place:Nat->Option (Nat × Nat)):List (Nat × Operand)->List (Nat × Nat × BL)->Bool
 | [],[]=>true
 | (i,x)::r,(off,n,y)::l=>place i == some (off,n)&&EK x y&&cL place r l
 | _,_=>false
def tG (t:TypeId) (ps:List (Nat × Operand)) (gk:List (Nat × Nat × BL)):Bool:=match P.underlying t with
 | some (.struct fs)=>(match fs.toList.mapM (λ f=>(P.info? f.type).map λ i=>(f.offset,i.size)) with|some places=>cL (places.toArray[·]?) ps gk|none=>false)
 | some (.array _ e)=>(match P.info? e with|some ie=>cL (λ i=>some (i*ie.size,ie.size)) ps gk|none=>false)
 | _=>false
def bL (k:Nat):List (Nat × Operand)->List BL->Bool
 | [],[]=>true
 | (i,x)::r,y::l=>i == k&&EK x y&&bL (k+1) r l
 | _,_=>false
def C4 (num:Nat->Nat) (op:Op):H0->Bool
 | .v3 y=>match op with | .move x=>EK x y | .assign x=>EK x y|_=>false
 | .bu _ z=>z != 0&&(match op with | .move (.const (.slice none 0 0))=>true | .assign (.const (.slice none 0 0))=>true|_=>false)
 | .pick c' a' b'=>match op with | .pick c a b=>EK c c'&&EK a a'&&EK b b'|_=>false
 | .bin Hh x' y'=>match op with | .binOp op _ x y _=>op == Hh&&EK x x'&&EK y y'|_=>false
 | .beq ne x' y'=>match op with | .binOp op t x y _=>(if ne then op == .neq else op == .eql)&&(match P.underlying t with|some .bool=>true|_=>false)&&EK x x'&&EK y y'|_=>false
 | .un Hh x'=>match op with | .unOp op _ x=>op == Hh&&EK x x'|_=>false
 | .conv k x'=>match op with | .convert s d x=>(P.underlying s).isSome&&(match P.underlying d with|some (.int k')=>k == k'|_=>false)&&EK x x'|_=>false
 | .box _ x'=>match op with | .box _ x=>EK x x'|_=>false
 | .alloc _ z=>match op with | .alloc t=>dJ P t z|_=>false
 | .build z gk=>match op with | .build t ps=>dJ P t z&&tG P t ps.toList gk|_=>false
 | .a8 _ a7 gk=>match op with
  | .buildSlice t n ps=>QA P t (λ e=>OZ P e a7)&&a7 != 0&&n == gk.length&&decide (n*a7<=16777216)&&bL 0 ps.toList gk&&(n == 0||QA P t (λ e=>match P.info? e with|some i=>(match i.zero with|some z=>z.cells.size == a7|none=>false)|none=>false))
  | _=>false
 | .k7 x' off=>match op with
  | .fieldAddr s x f=>EK x x'&&(match P.underlying s with|some (.struct fs)=>(match fs[f]? with|some fd=>fd.offset == off&&(match P.info? fd.type with|some i=>i.size != 0|none=>false)|none=>false)|_=>false)
  | _=>false
 | .rn x' off n agg=>match op with | .field t x f=>EK x x'&&Adp P t f off n&&Adq P t f agg|_=>false
 | .v7 arr a7 x' i'=>match op with
  | .indexAddr t x i=>EK x x'&&EK i i'&&(match P.underlying t,arr with|some (.array len e),some wk=>len == wk&&OZ P e a7&&decide (1<len)|some (.slice e),none=>OZ P e a7&&a7 != 0|_,_=>false)
  | _=>false
 | .ld agg n x'=>match op with | .load t x=>EK x x'&&dW P t == some agg&&(if agg then OZ P t n else n == 1)|_=>false
 | .st n x' v'=>match op with | .store t x v=>EK x x'&&EK v v'&&OZ P t n|_=>false
 | .mk _ a7 bytes z l' c'=>match op with
  | .makeSlice t l c=>EK l l'&&EK c c'&&QA P t (λ e=>OZ P e a7&&nL P e bytes&&dJ P e z)&&a7 != 0
  | _=>false
 | .gn a7 x' ta u5=>match op with
  | .slice t x lo hi none=>EK x x'&&XB lo ta&&XB hi u5&&QA P t (λ e=>OZ P e a7)&&a7 != 0
  | _=>false
 | .ext x' i'=>match op with | .extract x i=>EK x x'&&i == i'|_=>false
 | .len x'=>match op with
  | .call ⟨.builtin .len,xs,ts⟩=>(match xs.toList,ts.toList with|[x],[t]=>EK x x'&&QA P t (λ_=>true)|_,_=>false)
  | _=>false
 | .mm max s8=>match op with
  | .call ⟨.builtin .min,xs,_⟩ => !max&&IA xs.toList s8
  | .call ⟨.builtin .max,xs,_⟩=>max&&IA xs.toList s8
  | _=>false
 | .app _ a7 bytes x' y'=>match op with
  | .call ⟨.builtin .append,xs,ts⟩=>(match xs.toList,ts.toList with
   | [x,y],[t,u]=>EK x x'&&EK y y'&&QA P t (λ e=>OZ P e a7&&nL P e bytes&&(match P.info? e with|some i=>(match i.zero with|some z=>z.cells.size == a7|none=>false)|none=>false))&&a7 != 0&&QA P u (λ_=>true)
   | _,_=>false)
  | _=>false
 | .pz a7 x' y'=>match op with
  | .call ⟨.builtin .copy,xs,ts⟩=>(match xs.toList,ts.toList with
   | [x,y],[t,u]=>EK x x'&&EK y y'&&QA P t (λ e=>OZ P e a7)&&a7 != 0&&u == t
   | _,_=>false)
  | _=>false
 | .call f' s8=>match op with
  | .call ⟨.value (.func f),xs,_⟩=>f == num f'&&IA xs.toList s8
  | _=>false
 | .e8 f' s8=>match op with
  | .call ⟨.value (.func f),xs,_⟩=>f == num f'&&IA xs.toList s8
  | _=>false
 | .dh _ f' s8=>match op with
  | .call ⟨.value (.func f),xs,_⟩=>f == num f'&&IA xs.toList s8
  | _=>false
 | .wh ne x'=>match op with
  | .binOp op t x (.const (.slice none 0 0)) _=>(if ne then op == .neq else op == .eql)&&QA P t (λ_=>true)&&EK x x'
  | _=>false
 | .bad=>true
 | .js tb i'=>match op with
  | .index t (.const (.string s)) i=>(match P.underlying t with|some .string=>true|_=>false)&&s.data.toList.map (λ b=>b.toNat) == tb&&EK i i'
  | _=>false
 | .td _ f' s8=>match op with
  | .makeFunc (.func f) first xs=>f == num f'&&first.toList.isEmpty&&IA xs.toList s8
  | _=>false
 | .n9 f' s8=>match op with
  | .call ⟨.value (.func f),xs,_⟩=>f == num f'&&IA xs.toList s8
  | _=>false
 | .q6 _ f' s8=>match op with
  | .call ⟨.value (.func f),xs,_⟩=>f == num f'&&IA xs.toList s8
  | _=>false
 | .te _ n x' v'=>match op with | .store t x v=>EK x x'&&EK v v'&&OZ P t n|_=>false
 | .q8 x' s8=>match op with
  | .call ⟨.value x,xs,_⟩=>EK x x'&&IA xs.toList s8
  | _=>false
def kR (ops:Array Oper):Option (Nat × Bool)->Option (Nat × Bool)->Bool
 | none,none=>true
 | some (j,b),some (t,b')=>b == b'&&(match ops[j]? with|some o=>o.dst == some t|none=>false)
 | _,_=>false
def qA (num:Nat->Nat) (N:Nat) (ops:Array Oper) (o:Oper) (a:AI):Bool :=
 o.dst == a.dst&&(match a.dst with|some d=>decide (d<N)|none=>true)&&kR ops o.guard a.guard&&C4 P num o.op a.op
def YW (num:Nat->Nat) (N:Nat) (ops:Array Oper):List Oper->List AI->Bool
 | [],[]=>true
 | o::r,a::l=>qA P num N ops o a&&YW num N ops r l
 | _,_=>false
def LT:H0->Bool
 | .st .. | .app .. | .pz .. | .e8 .. | .q8 .. => true
 | _=>false
def lE:H0->Bool
 | .ld .. | .call .. | .q6 .. => true
 | _=>false
def P1 (a:H0):Bool:=LT a||lE a||(I4 a).isSome
def GG:BL->List Nat
 | .t n=>[n]
 | .c _=>[]
def yC:Option BL->List Nat
 | some x=>GG x
 | none=>[]
def M6:H0->List Nat
 | .v3 x=>GG x
 | .bu _ _=>[]
 | .pick c a b=>GG c++GG a++GG b
 | .bin _ x y=>GG x++GG y
 | .beq _ x y=>GG x++GG y
 | .un _ x=>GG x
 | .conv _ x=>GG x
 | .box _ x=>GG x
 | .alloc _ _=>[]
 | .build _ ps=>ps.flatMap (λ p=>GG p.2.2)
 | .a8 _ _ ps=>ps.flatMap GG
 | .k7 x _=>GG x
 | .rn x _ _ _=>GG x
 | .v7 _ _ x i=>GG x++GG i
 | .ld _ _ x=>GG x
 | .st _ x v=>GG x++GG v
 | .mk _ _ _ _ l c=>GG l++GG c
 | .gn _ x lo hi=>GG x++yC lo++yC hi
 | .ext x _=>GG x
 | .len x=>GG x
 | .mm _ xs=>xs.flatMap GG
 | .app _ _ _ x y=>GG x++GG y
 | .pz _ x y=>GG x++GG y
 | .call _ xs=>xs.flatMap GG
 | .e8 _ xs=>xs.flatMap GG
 | .wh _ x=>GG x
 | .js _ x=>GG x
 | .td _ _ xs=>xs.flatMap GG
 | .q8 x xs=>GG x++xs.flatMap GG
 | .n9 _ xs=>xs.flatMap GG
 | .te _ _ x v=>GG x++GG v
 | .q6 _ _ xs=>xs.flatMap GG
 | .dh _ _ xs=>xs.flatMap GG
 | .bad=>[]
def fS (x:AI):List Nat:=M6 x.op++(match x.guard with|some (g,_)=>[g]|none=>[])++x.dst.toList
def N0 (b:Array Nat) (i j:Nat):Bool:=(b.getD (max i j) 0).testBit (min i j)
def Aff (b:Array Nat) (x:AI) (i:Nat) (y:AI) (j:Nat):Bool :=
 i == j||N0 b i j ||
  ((match y.dst with|some t => !(fS x).contains t|none=>true) &&
   (!LT x.op || !P1 y.op) &&
   (!lE x.op||(match I4 y.op with|some s=>x.b7.contains s|none=>true)) )
def bI (ops:Array Oper) (l:List AI):Bool :=
 let b:=Region.before ops
 (l.zipIdx.all λ(x,i)=>l.zipIdx.all λ(y,j)=>Aff b x i y j&&(i == j||N0 b i j||(match I4 x.op,I4 y.op with|some s,some s'=>s != s'|_,_=>true))) &&
 (ops.toList.zipIdx.all λ(o,i)=>o.after.all λ e=>decide (e.on<i)||(match e.ground with | .gcOnly _=>true|_=>false)) &&
 (!Region.departs ops||(List.range ops.size).all (λ i=>(Region.linearise .gc ops 0).contains i))
def JD (num:Nat->Nat) (N:Nat):Code->DD->Bool
 | c,.dr a _ _=>JD num N c a
 | c',.skip=>match c' with | .skip=>true | .label _=>true|_=>false
 | c',.scope a=>match c' with | .scope c=>JD num N c a|_=>false
 | c',.ops l uj=>match c' with | .region _ ops draw=>draw == uj&&YW P num N ops ops.toList l&&(!draw||bI ops l)|_=>false
 | c',.seq a' b'=>match c' with | .seq a b=>JD num N a a'&&JD num N b b'|_=>false
 | c',.cond x' a' b'=>match c' with | .cond x a b=>EK x x'&&JD num N a a'&&JD num N b b'|_=>false
 | c',.block i' a=>match c' with | .block i c=>i == i'&&JD num N c a|_=>false
 | c',.loop a=>match c' with | .loop c=>JD num N c a|_=>false
 | c',.exit i'=>match c' with | .exit i=>i == i'|_=>false
 | c',.ret=>match c' with | .ret=>true|_=>false
def S1:List ResultVar->List O2->Bool
 | [],[]=>true
 | .tmp t::r,.tmp t'::l=>t == t'&&S1 r l
 | .cell a t::r,.cell a' agg n::l=>a == a'&&dW P t == some agg&&(if agg then OZ P t n else n == 1)&&S1 r l
 | _,_=>false
def okFn (num:Nat->Nat) (fn:Func) (a:AFn):Bool :=
 fn.params.size+fn.nfree == a.cr&&decide (a.cr<=fn.ntmps)&&S1 P fn.results.toList a.res&&(match fn.body with|some c=>JD P num fn.ntmps c a.body|none=>false)
end
end Go.b8

namespace Go.b8
@[irreducible] def IQ (a b : Nat) : Nat := (a + 18446744073709551616 - b) % 18446744073709551616
theorem dH (a b:Nat):IQ a b=(a+18446744073709551616-b)%18446744073709551616:=by unfold IQ;rfl
def val:List Nat->Nat
 | []=>0
 | d::l=>d+4294967296*val l
def B9 (l:List Nat):Prop := ∀ d∈l,d<4294967296
def dg (n:Nat):List Nat:=if h:n=0 then [] else n%4294967296::dg (n/4294967296)
termination_by n
decreasing_by omega
theorem JL:dg 0=[]:=by rw[dg];simp
theorem OR {n:Nat} (h:n≠0):dg n=n%4294967296::dg (n/4294967296):=by rw[dg];simp [h]
theorem OH:val []=0:=rfl
theorem Y7 (d:Nat) (l:List Nat):val (d::l)=d+4294967296*val l:=rfl
theorem EA (n:Nat):val (dg n)=n:=by
 induction n using Nat.strongRecOn with
 | ind n ih =>
  by_cases h:n=0
  ·subst h;rw[JL];rfl
  ·rw[OR h,Y7,ih _ (by omega)]
   omega
theorem HW (n:Nat):B9 (dg n):=by
 induction n using Nat.strongRecOn with
 | ind n ih =>
  by_cases h:n=0
  ·subst h;rw[JL];intro d hd;cases hd
  ·rw[OR h]
   intro d hd;rcases List.mem_cons.1 hd with rfl|hd
   ·omega
   ·exact ih _ (by omega) d hd
theorem B9.tail {d:Nat} {l:List Nat} (h:B9 (d::l)):B9 l:=λ x hx=>h x (List.mem_cons_of_mem _ hx)
theorem B9.head {d:Nat} {l:List Nat} (h:B9 (d::l)):d<4294967296:=h d List.mem_cons_self
theorem B9.at {l:List Nat} (h:B9 l) {i d:Nat} (hd:l[i]? = some d):d<4294967296:=h d (zM hd)
theorem B9.take {l:List Nat} (h:B9 l) (n:Nat):B9 (l.take n):=λ x hx=>h x (List.mem_of_mem_take hx)
theorem B9.drop {l:List Nat} (h:B9 l) (n:Nat):B9 (l.drop n):=λ x hx=>h x (List.mem_of_mem_drop hx)
theorem eH:B9 []:=λ_ h=>by cases h
theorem B9.append {a b:List Nat} (h:B9 a) (h':B9 b):B9 (a++b):=λ x hx=>(List.mem_append.1 hx).elim (h x) (h' x)
theorem MS {d:Nat} (h:d<4294967296):B9 [d]:=λ x hx=>by simp at hx;omega
theorem B9.set {l:List Nat} (h:B9 l) (i:Nat) {d:Nat} (hd:d<4294967296):B9 (l.set i d):=λ x hx=>by
 rcases List.mem_or_eq_of_mem_set hx with h1|h1
 ·exact h x h1
 ·omega
theorem OS (n:Nat):B9 (List.replicate n 0):=λ x hx=>by rw[(List.mem_replicate.1 hx).2];omega
theorem iE (a b:List Nat):val (a++b)=val a+4294967296^a.length*val b:=by
 induction a with
 | nil=>simp [val]
 | cons d l ih=>rw[List.cons_append,Y7,Y7,ih,List.length_cons,Nat.pow_succ];grind
theorem WD (l:List Nat) (v:Nat):val (l++[v])=val l+4294967296^l.length*v:=by
 rw[iE];simp [val]
theorem JM {l:List Nat} (h:B9 l):val l<4294967296^l.length:=by
 induction l with
 | nil=>simp [val]
 | cons d l ih =>
  have h1:=ih h.tail;have h2:=h.head;rw[Y7,List.length_cons,Nat.pow_succ];omega
theorem H5 {l:List Nat} {i v:Nat} (h:l[i]? = some v):val (l.take (i+1))=val (l.take i)+4294967296^i*v:=by
 have hi:=(zS h).1;rw[List.take_add_one,h,Option.toList_some,WD,List.length_take,Nat.min_eq_left (by omega)]
theorem PO (l:List Nat) (i:Nat) (h:i<=l.length):val l=val (l.take i)+4294967296^i*val (l.drop i):=by
 have:=iE (l.take i) (l.drop i)
 rw[List.take_append_drop,List.length_take,Nat.min_eq_left h]at this;exact this
theorem rU (n:Nat):val (List.replicate n 0)=0:=by
 induction n with
 | zero=>rfl
 | succ n ih=>rw[List.replicate_succ,Y7,ih]
theorem Akq {l:List Nat} (h:B9 l) (ht:l=[] \/ ∃ d,l[l.length-1]? = some d/\d≠0):dg (val l)=l:=by
 induction l with
 | nil=>exact JL
 | cons d l ih =>
  have h1:=h.head;by_cases hl:l=[]
  ·subst hl
   rcases ht with ht|⟨x,hx,oi⟩
   ·cases ht
   ·simp at hx
    subst hx;rw[Y7,OH,OR (by omega),show (d+4294967296*0)/4294967296=0 by omega,JL,show (d+4294967296*0)%4294967296=d by omega]
  ·have pd : ∃ x,l[l.length-1]? = some x/\x≠0:=by
    rcases ht with ht|⟨x,hx,oi⟩
    ·cases ht
    ·refine ⟨x,?_,oi⟩
     have:l.length≠0:=λ e=>hl (List.eq_nil_of_length_eq_zero e)
     rw[List.length_cons,show l.length+1-1=(l.length-1)+1 by omega,List.getElem?_cons_succ]at hx;exact hx
   have Na:=ih h.tail (Or.inr pd);have Vt:val l≠0:=by
    intro e;rw[e,JL]at Na;exact hl Na.symm
   rw[Y7,OR (by omega),show (d+4294967296*val l)/4294967296=val l by omega,Na,show (d+4294967296*val l)%4294967296=d by omega]
theorem LH {l:List Nat} (h:B9 l) {n:Nat} (hn:n<=l.length) (hz : ∀ i,n<=i->i<l.length->l[i]? = some 0) (ht:n=0 \/ ∃ d,l[n-1]? = some d/\d≠0):l.take n=dg (val l):=by
 have hv:val l=val (l.take n):=by
  have h0:l.drop n=List.replicate (l.length-n) 0:=by
   apply List.ext_getElem?;intro i;rw[List.getElem?_drop,List.getElem?_replicate];by_cases hi:n+i<l.length
   ·rw[hz (n+i) (by omega) hi,if_pos (by omega)]
   ·rw[List.getElem?_eq_none (by omega),if_neg (by omega)]
  rw[PO l n hn,h0,rU];omega
 rw[hv];refine (Akq (h.take n) ?_).symm;rcases ht with rfl|⟨d,hd,uz⟩
 ·exact Or.inl (by simp)
 ·have l7:=(zS hd).1
  by_cases zn:n=0
  ·subst zn;exact Or.inl (by simp)
  ·refine Or.inr ⟨d,?_,uz⟩
   rw[List.length_take,Nat.min_eq_left hn,List.getElem?_take,if_pos (by omega)];exact hd
theorem W9 {n k:Nat}:(dg n).length<=k↔n<4294967296^k:=by
 induction k generalizing n with
 | zero =>
  by_cases h:n=0
  ·subst h;simp [JL]
  ·rw[OR h];simp;omega
 | succ k ih =>
  by_cases h:n=0
  ·subst h;simp [JL];exact Nat.pos_of_ne_zero (by simp)
  ·rw[OR h,List.length_cons,Nat.succ_le_succ_iff,ih,Nat.pow_succ]
   rw[Nat.div_lt_iff_lt_mul (by omega)]
theorem JB {l:List Nat} (h:B9 l):(dg (val l)).length<=l.length:=W9.2 (JM h)
theorem uD {n:Nat} (h:n≠0) : ∃ d,(dg n)[(dg n).length-1]? = some d/\d≠0:=by
 induction n using Nat.strongRecOn with
 | ind n ih =>
  rw[OR h];by_cases h2:n/4294967296=0
  ·rw[h2,JL]
   exact ⟨n%4294967296,by simp,by omega⟩
  ·obtain ⟨d,hd,uz⟩:=ih _ (by omega) h2
   refine ⟨d,?_,uz⟩;have hl:(dg (n/4294967296)).length≠0:=λ e=>by rw[List.eq_nil_of_length_eq_zero e]at hd;simp at hd
   rw[List.length_cons,show (dg (n/4294967296)).length+1-1=(dg (n/4294967296)).length-1+1 by omega,List.getElem?_cons_succ];exact hd
theorem uB {n:Nat}:dg n=[]↔n=0:=by
 constructor
 ·intro h
  by_cases h0:n=0
  ·exact h0
  ·rw[OR h0]at h;cases h
 ·rintro rfl;exact JL
theorem jM {n:Nat} (h:n≠0):1<=(dg n).length:=by rw[OR h];simp
theorem Aqs {o:List Nat} {i v:Nat} (h:i<o.length):(o.set i v).take (i+1)=o.take i++[v]:=by
 rw[List.take_add_one,List.getElem?_set_self h,List.take_set_of_le (Nat.le_refl i)];rfl
theorem KY {o:List Nat} {i v:Nat} (h:i<o.length):val ((o.set i v).take (i+1))=val (o.take i)+4294967296^i*v:=by
 rw[Aqs h,WD,List.length_take,Nat.min_eq_left (by omega)]
theorem YD (V p t:Nat):V+p*(t%4294967296)+p*4294967296*(t/4294967296)=V+p*t:=by
 have h:=Nat.mod_add_div t 4294967296;have:p*(t%4294967296)+p*4294967296*(t/4294967296)=p*t:=by
  rw[Nat.mul_assoc,<-Nat.mul_add,h]
 omega
theorem GV {l:List Nat} {n:Nat} (h:l.length<=n):val (l.take n)=val l:=by rw[zT h]
theorem Afl (i:Nat):1<=4294967296^i:=Nat.pos_of_ne_zero (by simp)
theorem MN {l:List Nat} {i d:Nat} (h:l[i]? = some d):val (l.drop i)=d+4294967296*val (l.drop (i+1)):=by
 obtain ⟨hi,rfl⟩:=zS h;rw[List.drop_eq_getElem_cons hi,Y7]
theorem rP {a b:List Nat} (ha:B9 a) (hb:B9 b) (hl:a.length=b.length) {i:Nat} {x y:Nat} (hx:a[i]? = some x) (hy:b[i]? = some y) (he:a.drop (i+1)=b.drop (i+1)) (h:x<y):val a<val b:=by
 have hia:=(zS hx).1;have hib:=(zS hy).1;rw[PO a i (by omega),PO b i (by omega),MN hx,MN hy,he];have h1:=JM (ha.take i);rw[List.length_take,Nat.min_eq_left (by omega)]at h1;generalize val (b.drop (i+1))=r;generalize 4294967296^i=p at *;have:p*(x+4294967296*r)+p<=p*(y+4294967296*r):=by
  rw[<-Nat.mul_succ];exact Nat.mul_le_mul_left p (by omega)
 omega
theorem rR {o:List Nat} {k v old:Nat} (h:o[k]? = some old):val (o.set k v)+4294967296^k*old=val o+4294967296^k*v:=by
 have hk:=(zS h).1;have h1:val (o.set k v)=val (o.take k)+4294967296^k*(v+4294967296*val (o.drop (k+1))):=by
  rw[PO (o.set k v) k (by simp;omega),List.take_set_of_le (Nat.le_refl k),MN (l:=o.set k v) (d:=v) (by rw[List.getElem?_set_self hk]),List.drop_set_of_lt (by omega)]
 have h2:val o=val (o.take k)+4294967296^k*(old+4294967296*val (o.drop (k+1))):=by
  rw[PO o k (by omega),MN h]
 rw[h1,h2,Nat.mul_add,Nat.mul_add];omega
theorem lX {l:List Nat} (h:B9 l):l.take (dg (val l)).length=dg (val l):=by
 induction l with
 | nil=>rw[OH,JL];rfl
 | cons d l ih =>
  have h1:=h.head;by_cases h0:val (d::l)=0
  ·rw[h0,JL];rfl
  ·rw[OR h0,Y7,show (d+4294967296*val l)/4294967296=val l by omega,show (d+4294967296*val l)%4294967296=d by omega,List.length_cons,List.take_succ_cons,ih h.tail]
theorem iF {a b:Nat} (h:(dg a).length<(dg b).length):a<b:=by
 have h1:a<4294967296^(dg a).length:=W9.1 (Nat.le_refl _);have h2 : ¬ b<4294967296^((dg b).length-1):=λ h3=>by have:=W9.2 h3;omega
 have h3:4294967296^(dg a).length<=4294967296^((dg b).length-1):=Nat.pow_le_pow_right (by omega) (by omega);omega
end Go.b8

namespace Go.b8
section
variable {U V UL VL p u0 u1 u2 v1 v2 top q r:Nat}
theorem AnF (hU:U=UL+p*(u2+4294967296*top)) (hV:V=VL+p*(v2+4294967296*v1)) (hl:UL<p) (h2:u2<4294967296) (cj:0<V):U/V*v1<=top:=by
 have h1:U/V*V<=U:=Nat.div_mul_le_self U V;generalize U/V=Q at *;have h3:U<p*(4294967296*(top+1)):=by
  have:p*(u2+4294967296*top)+p<=p*(4294967296*(top+1)):=by
   rw[<-Nat.mul_succ];exact Nat.mul_le_mul_left p (by omega)
  omega
 have h4:p*(4294967296*(Q*v1))<=Q*V:=by
  have e:Q*V=Q*VL+Q*(p*v2)+p*(4294967296*(Q*v1)):=by rw[hV];grind
  omega
 have h5:p*(4294967296*(Q*v1))<p*(4294967296*(top+1)):=by omega
 have:=Nat.lt_of_mul_lt_mul_left h5
 omega
theorem AnE (hU:U=UL+p*(u2+4294967296*top)) (hV:V=VL+p*(v2+4294967296*v1)) (hl:UL<p) (hq:q*v1+r=top) (h:r*4294967296+u2<q*v2) (cj:0<V):U/V<q:=by
 rw[Nat.div_lt_iff_lt_mul cj];have e:q*V=q*VL+p*(q*v2+4294967296*(q*v1)):=by rw[hV];grind
 have h1:p*(u2+4294967296*top)+p<=p*(q*v2+4294967296*(q*v1)):=by
  rw[<-Nat.mul_succ];exact Nat.mul_le_mul_left p (by omega)
 omega
theorem AnD (h:U<4294967296*V) (hq:4294967296<=q) (cj:0<V):U/V<q:=by
 have:U/V<4294967296:=(Nat.div_lt_iff_lt_mul cj).2 h
 omega
theorem AdM (hU:U=UL+p*(u2+4294967296*top)) (hV:V=VL+p*(v2+4294967296*v1)) (Fg:VL<p) (h1:2147483648<=v1) (hq:q*v1+r=top) (h:q*v2<=r*4294967296+u2) (hqB:q<4294967296):q<=U/V+1:=by
 have cj:0<V:=by
  have:p*4294967296<=p*(v2+4294967296*v1):=Nat.mul_le_mul_left p (by omega)
  omega
 by_cases h0:q=0
 ·subst h0;exact Nat.zero_le _
 have e:q*V=q*VL+p*(q*v2+4294967296*(q*v1)):=by rw[hV];grind
 have h2:p*(q*v2+4294967296*(q*v1))<=p*(u2+4294967296*top):=Nat.mul_le_mul_left p (by omega);have h3:q*VL<V:=by
  have a1:q*VL<=4294967296*VL:=zR _ (by omega);have a2:p*4294967296<=p*(v2+4294967296*v1):=Nat.mul_le_mul_left p (by omega);omega
 have h4:(q-1)*V<U+1:=by
  have:(q-1)*V+V=q*V:=by
   have:q=q-1+1:=by omega
   rw[<-Nat.succ_mul,Nat.succ_eq_add_one,<-this]
  omega
 have h5:q-1<=U/V:=(Nat.le_div_iff_mul_le cj).2 (by omega);omega
end
theorem AbT {U V U' q:Nat} (cj:0<V) (h1:U/V<=q) (h:U'+q*V=U):q=U/V/\U'=U%V:=by
 have h2:q*V<=U:=by omega
 have h3:q<=U/V:=(Nat.le_div_iff_mul_le cj).2 h2;have h4:q=U/V:=by omega
 have:=Nat.div_add_mod U V
 rw[Nat.mul_comm,<-h4]at this;exact ⟨h4,by omega⟩
theorem AbS {U V U' q P:Nat} (cj:0<V) (h2:q<=U/V+1) (Hu:U'<P) (h:U'+q*V=U+P):q-1=U/V/\1<=q/\U'+V=U%V+P:=by
 have h3:U/V*V<=U:=Nat.div_mul_le_self U V;have h4:U/V<q:=by
  rcases Nat.lt_or_ge (U/V) q with h|h
  ·exact h
  ·have:q*V<=U/V*V:=zR _ h
   omega
 have h6:=Nat.div_add_mod U V;rw[Nat.mul_comm]at h6;generalize U/V=Q at *;generalize U%V=R at *;obtain rfl:q=Q+1:=by omega
 rw[Nat.add_mul,Nat.one_mul]at h;exact ⟨by omega,by omega,by omega⟩
theorem rL {u pl bw:Nat} (hu:u<4294967296) (hp:pl<4294967296) (hb:bw<=1):IQ (IQ u pl) bw%4294967296+pl+bw=u+4294967296*(IQ (IQ u pl) bw/9223372036854775808)/\IQ (IQ u pl) bw/9223372036854775808<=1:=by
 rw[dH,dH];omega
theorem AqZ {d e bw:Nat} (hu:d<4294967296) (hp:e<4294967296) (hb:bw<=1):IQ (IQ d bw) e%4294967296+e+bw=d+4294967296*(IQ (IQ d bw) e/9223372036854775808)/\IQ (IQ d bw) e/9223372036854775808<=1:=by
 rw[dH,dH];omega
theorem AqY {d bw:Nat} (hu:d<4294967296) (hb:bw<=1):IQ d bw%4294967296+bw=d+4294967296*(IQ d bw/9223372036854775808)/\IQ d bw/9223372036854775808<=1:=by
 rw[dH];omega
theorem Agm {V Y X p D e bw dn d:Nat} (h:V+Y=X+p*bw) (hd:D+e+bw=d+4294967296*dn):V+p*D+(Y+p*e)=X+p*d+p*4294967296*dn:=by
 have h2:p*D+p*e+p*bw=p*d+p*4294967296*dn:=by
  rw[<-Nat.mul_add,<-Nat.mul_add,hd,Nat.mul_add,Nat.mul_assoc]
 omega
theorem gA {a b:Nat} (ha:a<4294967296) (hb:b<4294967296):a*b<=18446744065119617025 :=
 Nat.mul_le_mul (show a<=4294967295 by omega) (show b<=4294967295 by omega)
theorem AbV {X Y s:Nat} (hs:0<s):X*s/(Y*s)=X/Y/\X*s%(Y*s)/s=X%Y:=by
 refine ⟨Nat.mul_div_mul_right X Y hs,?_⟩;rw[Nat.mul_mod_mul_right,Nat.mul_div_cancel _ hs]
end Go.b8

namespace Go.b8
@[irreducible] def Y3 (d s : Nat) : Nat := d * 2 ^ s % 4294967296
@[irreducible] def cT (d s : Nat) : Nat := d * 2 ^ s / 4294967296
theorem zH (d s:Nat):Y3 d s=d*2^s%4294967296:=by unfold Y3;rfl
theorem cU (d s:Nat):cT d s=d*2^s/4294967296:=by unfold cT;rfl
theorem aJ {s:Nat} (hs:s<=32):4294967296=2^s*2^(32-s):=by
 rw[<-Nat.pow_add,show s+(32-s)=32 by omega]
theorem Aqv (d s:Nat):Y3 d s+4294967296*cT d s=d*2^s:=by
 rw[zH,cU];exact Nat.mod_add_div _ _
theorem AfR {d s:Nat} (hs:s<=32):Y3 d s=2^s*(d%2^(32-s)):=by
 rw[zH,aJ hs,Nat.mul_comm d,Nat.mul_mod_mul_left]
theorem AfQ {d s:Nat} (hs:s<=32):cT d s=d/2^(32-s):=by
 rw[cU,aJ hs,Nat.mul_comm d,Nat.mul_div_mul_left _ _ (Nat.two_pow_pos s)]
theorem cX {d s:Nat} (hd:d<4294967296) (hs:s<=32):Y3 d s%2^s=0/\cT d s<2^s/\Y3 d s+2^s<=4294967296/\d*2^s<=18446744073709551615:=by
 refine ⟨by rw[AfR hs,Nat.mul_mod_right],?_,?_,?_⟩
 ·rw[AfQ hs,Nat.div_lt_iff_lt_mul (Nat.two_pow_pos _),<-Nat.pow_add,show s+(32-s)=32 by omega];exact hd
 ·rw[AfR hs]
  have h1:d%2^(32-s)+1<=2^(32-s):=Nat.mod_lt _ (Nat.two_pow_pos _);have h2:=Nat.mul_le_mul_left (2^s) h1;rw[Nat.mul_add,Nat.mul_one,<-aJ hs]at h2;exact h2
 ·have h1:2^s<=2^32:=Nat.pow_le_pow_right (by omega) hs
  have h2:d*2^s<=4294967295*4294967296:=Nat.mul_le_mul (by omega) h1;omega
theorem kX {s:Nat} (hs:s<=32):2^s<=4294967296:=(Nat.pow_le_pow_right (by omega) hs:2^s<=2^32)
theorem Aep {V X p lo s d:Nat} (h:V+p*lo=X*2^s):V+p*(Y3 d s+lo)+p*4294967296*cT d s=(X+p*d)*2^s:=by
 have h1:=Aqv d s;have h2:p*(Y3 d s+lo)+p*4294967296*cT d s=p*lo+p*(d*2^s):=by
  rw[<-h1];grind
 rw[Nat.add_mul,<-h,Nat.mul_assoc p d];omega
theorem xD {d V s:Nat} (hs:s<=32):(d+4294967296*V)/2^s=d/2^s+V%2^s*2^(32-s)+4294967296*(V/2^s):=by
 have e:4294967296*V=2^s*(2^(32-s)*V):=by rw[<-Nat.mul_assoc,<-aJ hs]
 rw[e,Nat.add_mul_div_left _ _ (Nat.two_pow_pos s)];have h:=Nat.mod_add_div V (2^s);have h2:2^(32-s)*V=V%2^s*2^(32-s)+4294967296*(V/2^s):=by
  have h3:2^(32-s)*V=2^(32-s)*(V%2^s+2^s*(V/2^s)):=by rw[h]
  rw[h3,aJ hs];grind
 omega
theorem Aev {d V s:Nat} (hs:s<=32):(d+4294967296*V)%2^s=d%2^s:=by
 have e:4294967296*V=2^s*(2^(32-s)*V):=by rw[<-Nat.mul_assoc,<-aJ hs]
 rw[e,Nat.add_mul_mod_self_left]
theorem AoM {d s:Nat} (hs:s<=32):d*2^(32-s)%4294967296=d%2^s*2^(32-s):=by
 have e:4294967296=2^s*2^(32-s):=aJ hs;rw[e,Nat.mul_mod_mul_right]
theorem Aeu {d V s:Nat} (hd:d<4294967296) (hs:s<=32):d/2^s<2^(32-s)/\V%2^s*2^(32-s)%2^(32-s)=0/\V%2^s*2^(32-s)+2^(32-s)<=4294967296:=by
 refine ⟨?_,Nat.mul_mod_left _ _,?_⟩
 ·rw[Nat.div_lt_iff_lt_mul (Nat.two_pow_pos _),<-Nat.pow_add,show 32-s+s=32 by omega];exact hd
 ·have h1:V%2^s+1<=2^s:=Nat.mod_lt _ (Nat.two_pow_pos _)
  have h2:=zR (2^(32-s)) h1;rw[Nat.add_mul,Nat.one_mul,<-aJ hs]at h2;exact h2
def v5 (x:Nat):Nat:=if x=0 then 0 else x.log2+1
theorem Abb {x:Nat} (h:x≠0):2^(v5 x-1)<=x/\x<2^v5 x/\1<=v5 x:=by
 unfold v5;rw[if_neg h];exact ⟨Nat.log2_self_le h,Nat.lt_log2_self,by omega⟩
theorem nI {x k:Nat} (h:x<2^k):v5 x<=k:=by
 by_cases h0:x=0
 ·subst h0;unfold v5;simp
 ·obtain ⟨h1,_,h3⟩:=Abb h0
  have h2:2^(v5 x-1)<2^k:=by omega
  have:=(Nat.pow_lt_pow_iff_right (by omega)).1 h2
  omega
theorem iX {x:Nat} (n:Nat) (h:2^n<=x):v5 (x/2^n)+n=v5 x:=by
 have hp:=Nat.two_pow_pos n;have hx:x≠0:=by omega
 have hq:x/2^n≠0:=by have:=Nat.div_pos h hp;omega
 unfold v5;rw[if_neg hx,if_neg hq];have:(x/2^n).log2+n=x.log2:=by
  symm
  rw[Nat.log2_eq_iff hx];have h1:=Nat.log2_self_le hq;have h2:x/2^n<2^((x/2^n).log2+1):=Nat.lt_log2_self;rw[Nat.le_div_iff_mul_le hp,<-Nat.pow_add]at h1;rw[Nat.div_lt_iff_lt_mul hp,<-Nat.pow_add]at h2;exact ⟨h1,by rw[show (x/2^n).log2+n+1=(x/2^n).log2+1+n by omega];exact h2⟩
 omega
theorem xF {x:Nat} (h0:x≠0) (hx:x<4294967296):v5 x<=32/\1<=v5 x/\2147483648<=x*2^(32-v5 x)/\x*2^(32-v5 x)<4294967296:=by
 obtain ⟨h1,h2,h3⟩:=Abb h0;have hk:v5 x<=32:=nI (k:=32) hx;refine ⟨hk,h3,?_,?_⟩
 ·have:=zR (2^(32-v5 x)) h1
  rw[<-Nat.pow_add,show v5 x-1+(32-v5 x)=31 by omega]at this;exact this
 ·have:=Nat.mul_lt_mul_of_pos_right h2 (Nat.two_pow_pos (32-v5 x))
  rw[<-Nat.pow_add,show v5 x+(32-v5 x)=32 by omega]at this;exact this
def sD (a b c d:Int):Prop:=(0<=a/\b<=0/\c<=0/\0<=d)\/(a<=0/\0<=b/\0<=c/\d<=0)
structure aS (P Q a b c d p q:Int):Prop where
 hp:p=a*P+b*Q
 hq:q=c*P+d*Q
 sg:sD a b c d
 pa:0<=p+a
 pb:0<=p+b
 qc:0<=q+c
 qd:0<=q+d
theorem aS.start {P Q:Int} (hP:0<=P) (hQ:0<=Q):aS P Q 1 0 0 1 P Q :=
 ⟨by omega,by omega,Or.inl (by omega),by omega,by omega,by omega,by omega⟩
def iO (P Q a b c d:Int):Prop := ∀ x y K e1 e2:Int,0<K->x=K*P+e1->y=K*Q+e2->0<=e1->e1<=K->0<=e2->e2<=K ->
 0<=c*x+d*y/\c*x+d*y<a*x+b*y/\a*x+b*y<=y/\Int.gcd (a*x+b*y) (c*x+d*y)=Int.gcd x y
def dS (P Q a b c d:Int):Prop := ∀ x y K e1 e2:Int,0<K->x=K*P+e1->y=K*Q+e2->0<=e1->e1<=K->0<=e2->e2<=K ->
 c*x+d*y<=y/\Int.gcd (a*x+b*y) (c*x+d*y)=Int.gcd x y
theorem dS.start (P Q:Int):dS P Q 1 0 0 1:=by
 intro x y K e1 e2 _ _ _ _ _ _ _;simp
theorem iO.half {P Q a b c d:Int} (h:iO P Q a b c d):dS P Q a b c d:=λ x y K e1 e2 h1 h2 h3 h4 h5 h6 h7=>by
 obtain ⟨g1,g2,g3,g4⟩:=h x y K e1 e2 h1 h2 h3 h4 h5 h6 h7;exact ⟨by omega,g4⟩
theorem Anp (X Y f:Int):Int.gcd Y (X-f*Y)=Int.gcd X Y:=by
 rw[Int.gcd_comm X Y];exact Int.gcd_sub_mul_right_right Y X f
theorem aS.step {P Q a b c d p q f:Int} (h:aS P Q a b c d p q) (hc:q+c≠0) (hd:q+d≠0) (h1:f=(p+a)/(q+c)) (h2:f=(p+b)/(q+d)) :
  aS P Q c d (a-f*c) (b-f*d) q (p-f*q)/\0<=f/\p-f*q<q/\(dS P Q a b c d->iO P Q c d (a-f*c) (b-f*d)):=by
 have c0:0<q+c:=by have:=h.qc;omega
 have d0:0<q+d:=by have:=h.qd;omega
 have f0:0<=f:=by rw[h1];exact Int.ediv_nonneg h.pa h.qc
 have m1:p-f*q+(a-f*c)=(p+a)%(q+c):=by
  have:=Int.emod_add_mul_ediv (p+a) (q+c)
  rw[<-h1]at this;grind
 have m2:p-f*q+(b-f*d)=(p+b)%(q+d):=by
  have:=Int.emod_add_mul_ediv (p+b) (q+d)
  rw[<-h2]at this;grind
 have n1:0<=p-f*q+(a-f*c):=by rw[m1];exact Int.emod_nonneg _ hc
 have n2:0<=p-f*q+(b-f*d):=by rw[m2];exact Int.emod_nonneg _ hd
 have n3:p-f*q+(a-f*c)<q+c:=by rw[m1];exact Int.emod_lt_of_pos _ c0
 have n4:p-f*q+(b-f*d)<q+d:=by rw[m2];exact Int.emod_lt_of_pos _ d0
 have Ik:p-f*q=(a-f*c)*P+(b-f*d)*Q:=by rw[h.hp,h.hq];grind
 have xn:sD c d (a-f*c) (b-f*d):=by
  rcases h.sg with ⟨s1,s2,s3,s4⟩|⟨s1,s2,s3,s4⟩
  ·have t1:f*c<=0:=Int.mul_nonpos_of_nonneg_of_nonpos f0 s3
   have t2:0<=f*d:=Int.mul_nonneg f0 s4;exact Or.inr (by omega)
  ·have t1:0<=f*c:=Int.mul_nonneg f0 s3
   have t2:f*d<=0:=Int.mul_nonpos_of_nonneg_of_nonpos f0 s4;exact Or.inl (by omega)
 have l7:p-f*q<q:=by
  rcases xn with ⟨s1,s2,s3,s4⟩|⟨s1,s2,s3,s4⟩
  ·omega
  ·omega
 refine ⟨⟨h.hq,Ik,xn,h.qc,h.qd,n1,n2⟩,f0,l7,λ hh => ?_⟩;intro x y K e1 e2 hK hx hy a1 a2 b1 b2;obtain ⟨k1,k2⟩:=hh x y K e1 e2 hK hx hy a1 a2 b1 b2;have eY:c*x+d*y=K*q+c*e1+d*e2:=by rw[hx,hy,h.hq];grind
 have eX:(a-f*c)*x+(b-f*d)*y=K*(p-f*q)+(a-f*c)*e1+(b-f*d)*e2:=by rw[hx,hy,Ik];grind
 have eS:(a-f*c)*x+(b-f*d)*y=(a*x+b*y)-f*(c*x+d*y):=by grind
 generalize hE:a-f*c=E at *;generalize hG:b-f*d=G at *;generalize Io:p-f*q=q2 at *;have key:0<=E*x+G*y/\E*x+G*y<c*x+d*y:=by
  rw[eX,eY];rcases xn with ⟨s1,s2,s3,s4⟩|⟨s1,s2,s3,s4⟩
  ·-- c≥0,d<=0,E<=0,G≥0
   have t1:E*K<=E*e1:=Int.mul_le_mul_of_nonpos_left s3 a2;have t2:0<=G*e2:=Int.mul_nonneg s4 b1;have t3:0<=K*(q2+E):=Int.mul_nonneg (by omega) n1;have t4:(G-d)*e2<=(G-d)*K:=Int.mul_le_mul_of_nonneg_left b2 (by omega);have t5:(E-c)*e1<=0:=Int.mul_nonpos_of_nonpos_of_nonneg (by omega) a1;have t6:0<K*((q+d)-(q2+G)):=Int.mul_pos hK (by omega);constructor
   ·grind
   ·grind
  ·have t1:G*K<=G*e2:=Int.mul_le_mul_of_nonpos_left s4 b2
   have t2:0<=E*e1:=Int.mul_nonneg s3 a1;have t3:0<=K*(q2+G):=Int.mul_nonneg (by omega) n2;have t4:(E-c)*e1<=(E-c)*K:=Int.mul_le_mul_of_nonneg_left a2 (by omega);have t5:(G-d)*e2<=0:=Int.mul_nonpos_of_nonpos_of_nonneg (by omega) b1;have t6:0<K*((q+c)-(q2+E)):=Int.mul_pos hK (by omega);constructor
   ·grind
   ·grind
 refine ⟨key.1,key.2,k1,?_⟩;rw[<-k2,eS];exact Anp _ _ _
end Go.b8
































