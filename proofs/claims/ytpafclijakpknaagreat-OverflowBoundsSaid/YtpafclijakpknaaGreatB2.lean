/-
  Functions of the program, as the abstract machine reads them (group OvG). Written by a program (gen.py) off the model's own reading of the translation; the seat's check ties them to it.
-/
import Derived.Test.YtpafclijakpknaaGreatB1
import Derived.Calls
set_option linter.unusedSimpArgs false
set_option linter.unusedVariables false
set_option linter.unnecessarySimpa false
namespace Go.c9.F
open C
namespace iE
def r0:=[bx 1 0,al 2 z3]
def r1:=[tt 3 3 1,ca 4 95 [3],o 5 (.ye 4 2 1 false),o 6 (.build [(.bool false),.nil] [(1,1,5)]),o 7 (.a9 7 1 [(.c (.int .u32 (1)))]),
 o 8 (.build z3 [(0,2,6),(2,1,7)]),so 3 2 8]
def c:=(s (d r0 [0]) (s (d r1 (rl [1] 3 6)) .ret))
end iE
def iE:AFn:=⟨1,iE.c,[.cell 2 true 3],false⟩
namespace iC
def r0:=[al 2 z3]
def r1:=[ca 10 96 [k1],al 3 z3,so 3 3 10]
def r2:=[m 11 0,ln 12 11,mv 13 k0]
def r3:=[ls 14 13 12]
def r4:=[ia 15 1 11 13,uu 16 1 15,m 5 16]
def r5:=[m 17 5,ln 18 17,mv 19 k0]
def r6:=[ls 20 19 18]
def r7:=[ia 21 3 17 19,tt 22 3 21,al 7 z3,so 3 7 22]
def r8:=[q 24 [8] (.ld true 3 3),q 25 [8] (.ld true 3 7),q 26 [8] (.call 294 [25]),q 27 [8] (.call 100 [24,26]),m 23 27,
 et 28 23 0,et 29 23 1,al 8 z3,so 3 8 28,m 9 29]
def r9:=[tt 30 3 3,tt 31 3 8,ca 32 294 [31],ca 33 99 [30,32],so 3 3 33]
def F2:=[ad 34 19 k1,m 19 34]
def GC:=[ad 35 13 k1,m 13 35]
def aj:=[tt 36 3 3,so 3 2 36]
def l2:=(s (p r6) (s (i 20 .skip (x 2)) (s (b 3 (s (d r7 [20,21,22]) (s (e r8 (rl [7,9] 23 7)) (e r9 (rl [8] 30 4))))) (d F2 [34]))))
def l1:=(s (p r3) (s (i 14 .skip (x 0)) (s (b 1 (s (d r4 [14,15,16]) (s (d r5 [5]) (b 2 (w l2))))) (d GC [17,18,19,20,35]))))
def c:=(s (p r0) (s (d r1 [10]) (s (s (d r2 [0]) (b 0 (w l1))) (s (d aj [3,11,12,13,14,36]) .ret))))
end iC
def iC:AFn:=⟨1,iC.c,[.cell 2 true 3],false⟩
namespace iS
def r0:=[bx 3 1,mv 4 (.c .nil)]
def r1:=[m 7 0,ln 8 7,o 9 (.mk 9 3 56 z3 8 8),m 5 9]
def r2:=[m 10 0,ln 11 10,mv 12 k0]
def r3:=[ls 13 12 11]
def r4:=[m 14 12,m 6 14]
def r5:=[m 15 5,m 16 6,m 17 0,m 18 6,ia 19 3 17 18,tt 20 3 19,tt 21 3 3,ca 22 99 [20,21],ia 23 3 15 16,
 so 3 23 22]
def r6:=[ad 24 12 k1,m 12 24]
def r7:=[m 25 5,m 4 25]
def l1:=(s (p r3) (s (i 13 .skip (x 0)) (s (b 1 (s (d r4 [13,14]) (e r5 (rl [6] 15 9)))) (d r6 [24]))))
def c:=(s (d r0 [1,4]) (s (d r1 [7,8,9]) (s (s (d r2 [10]) (b 0 (w l1))) (s (d r7 [0,3,5,11,12,13,25]) .ret))))
end iS
def iS:AFn:=⟨2,iS.c,[.tmp 4],false⟩
namespace iF
def r0:=[al 4 z3]
def r1:=[ca 7 96 [k0],al 5 z3,so 3 5 7]
def r2:=[m 8 0,ln 9 8,mv 10 k0]
def r3:=[ls 11 10 9]
def r4:=[m 12 10,m 6 12]
def r5:=[m 13 0,m 14 6,ia 15 3 13 14,tt 16 3 15,ca 17 97 [16],bi 18 .neq 17 k0,m 19 18,g 20 19 true (.y7 1),
 g 21 19 true (.y7 6),g 22 19 true (.ch none 3 20 21),g 23 19 true (.ld true 3 22),g 24 19 true (.call 97 [23]),g 25 19 true (.bin .neq 24 k0),
 pk 26 19 25 kf]
def r6:=[tt 27 3 5,m 28 0,m 29 6,ia 30 3 28 29,tt 31 3 30,m 32 1,m 33 6,ia 34 3 32 33,tt 35 3 34,
 ca 36 99 [31,35],ca 37 98 [27,36],so 3 5 37]
def r7:=[ad 38 10 k1,m 10 38]
def r8:=[tt 39 3 5,so 3 4 39]
def l1:=(s (p r3) (s (i 11 .skip (x 0)) (s (b 1 (s (d r4 [11,12]) (s (d r5 (ra 13 13)) (i 26 (e r6 (rl [6] 26 12)) .skip)))) (d r7 [6,26,38]))))
def c:=(s (p r0) (s (d r1 [7]) (s (s (d r2 [8]) (b 0 (w l1))) (s (d r8 [0,1,5,9,10,11,39]) .ret))))
end iF
def iF:AFn:=⟨2,iF.c,[.cell 4 true 3],false⟩
namespace gQ
def r0:=[mv 4 (.c .nil)]
def r1:=[m 7 0,ln 8 7,o 9 (.mk 9 3 56 z3 8 8),m 5 9]
def r2:=[m 10 0,ln 11 10,mv 12 k0]
def r3:=[ls 13 12 11]
def r4:=[m 14 12,m 6 14]
def r5:=[m 15 5,m 16 6,m 17 0,m 18 6,ia 19 1 17 18,uu 20 1 19,m 21 1,ca 22 297 [20,21],ia 23 3 15 16,so 3 23 22]
def r6:=[ad 24 12 k1,m 12 24]
def r7:=[m 25 5,m 4 25]
def l1:=(s (p r3) (s (i 13 .skip (x 0)) (s (b 1 (s (d r4 [13,14]) (d r5 (rl [6] 15 9)))) (d r6 [24]))))
def c:=(s (d r0 [4]) (s (d r1 [7,8,9]) (s (s (d r2 [10]) (b 0 (w l1))) (s (d r7 [0,1,5,11,12,13,25]) .ret))))
end gQ
def gQ:AFn:=⟨2,gQ.c,[.tmp 4],false⟩
namespace iQ
def r0:=[mv 2 (.c .nil)]
def r1:=[m 10 0,ln 11 10,m 3 11]
def r2:=[m 12 3,o 13 (.mk 13 1 24 [.nil] 12 12),m 4 13]
def r3:=[m 14 3,mv 15 k0]
def r4:=[ls 16 15 14]
def r5:=[m 17 15,m 5 17]
def r6:=[m 18 4,m 19 5,m 20 3,o 21 (.mk 21 3 56 z3 20 20),ia 22 1 18 19,so 1 22 21]
def r7:=[ad 23 15 k1,m 15 23]
def r8:=[m 24 3,o 25 (.mk 25 3 56 z3 24 24),m 6 25]
def r9:=[m 26 3,mv 27 k0]
def F2:=[ls 28 27 26]
def GC:=[m 29 27,m 7 29]
def aj:=[m 30 3,mv 31 k0]
def HC:=[ls 32 31 30]
def dp:=[m 33 31,m 8 33]
def dz:=[m 34 6,m 35 8,m 36 0,m 37 8,ia 38 1 36 37,uu 39 1 38,m 40 7,ia 41 3 39 40,tt 42 3 41,
 ia 43 3 34 35,so 3 43 42]
def fm:=[ad 44 31 k1,m 31 44]
def JG:=[m 45 3,mv 46 k0]
def ib:=[ls 47 46 45]
def je:=[m 48 46,m 9 48]
def js:=[m 49 4,m 50 9,ia 51 1 49 50,uu 52 1 51,m 53 7,m 54 0,m 55 9,ia 56 1 54 55,uu 57 1 56,m 58 6,
 ca 59 297 [57,58],ia 60 3 52 53,so 3 60 59]
def ov:=[ad 61 46 k1,m 46 61]
def qm:=[ad 62 27 k1,m 27 62]
def sz:=[m 63 4,m 2 63]
def l1:=(s (p r4) (s (i 16 .skip (x 0)) (s (b 1 (s (d r5 [16,17]) (d r6 (rl [5] 18 5)))) (d r7 [23]))))
def l3:=(s (p HC) (s (i 32 .skip (x 4)) (s (b 5 (s (d dp [32,33]) (d dz (rl [8] 34 10)))) (d fm [44]))))
def l4:=(s (p ib) (s (i 47 .skip (x 6)) (s (b 7 (s (d je [47,48]) (e js (rl [9] 49 12)))) (d ov [61]))))
def l2:=(s (p F2) (s (i 28 .skip (x 2)) (s (b 3 (s (d GC [28,29]) (s (s (p aj) (b 4 (w l3))) (s (d JG [30,31,32]) (b 6 (w l4)))))) (d qm [7,45,46,47,62]))))
def c:=(s (d r0 [2]) (s (d r1 [10,11]) (s (d r2 [12,13]) (s (s (p r3) (b 0 (w l1))) (s (d r8 [14,15,16,24,25]) (s (s (p r9) (b 2 (w l2))) (s (d sz [0,3,4,6,26,27,28,63]) .ret)))))))
end iQ
def iQ:AFn:=⟨1,iQ.c,[.tmp 2],false⟩
namespace iT
def r0:=[al 2 z3]
def r1:=[ca 6 96 [k0],al 3 z3,so 3 3 6]
def r2:=[m 7 0,ln 8 7,mv 9 k0]
def r3:=[ls 10 9 8]
def r4:=[ia 11 3 7 9,tt 12 3 11,al 5 z3,so 3 5 12]
def r5:=[tt 13 3 3,tt 14 3 5,ca 15 256 [14],ca 16 98 [13,15],so 3 3 16]
def r6:=[ad 17 9 k1,m 9 17]
def r7:=[tt 18 3 3,so 3 2 18]
def l1:=(s (p r3) (s (i 10 .skip (x 0)) (s (b 1 (s (d r4 [10,11,12]) (e r5 (rl [5] 13 4)))) (d r6 [17]))))
def c:=(s (p r0) (s (d r1 [6]) (s (s (d r2 [0]) (b 0 (w l1))) (s (d r7 [3,7,8,9,10,18]) .ret))))
end iT
def iT:AFn:=⟨1,iT.c,[.cell 2 true 3],false⟩
namespace iK
def r0:=[al 2 z3]
def r1:=[ca 7 96 [k0],al 3 z3,so 3 3 7]
def r2:=[m 8 0,ln 9 8,mv 10 k0]
def r3:=[ls 11 10 9]
def r4:=[ia 12 3 8 10,tt 13 3 12,al 5 z3,so 3 5 13]
def r5:=[tt 14 3 5,ca 15 256 [14],al 6 z3,so 3 6 15]
def r6:=[tt 16 3 6,tt 17 3 3,ca 18 198 [16,17],bi 19 .gtr 18 k0]
def r7:=[tt 20 3 6,so 3 3 20]
def r8:=[ad 21 10 k1,m 10 21]
def r9:=[tt 22 3 3,so 3 2 22]
def l1:=(s (p r3) (s (i 11 .skip (x 0)) (s (b 1 (s (d r4 [11,12,13]) (s (d r5 [5,14,15]) (s (d r6 [16,17,18]) (i 19 (d r7 [6,19,20]) .skip))))) (d r8 [6,19,21]))))
def c:=(s (p r0) (s (d r1 [7]) (s (s (d r2 [0]) (b 0 (w l1))) (s (d r9 [3,8,9,10,11,22]) .ret))))
end iK
def iK:AFn:=⟨1,iK.c,[.cell 2 true 3],false⟩
namespace iD
def r0:=[bx 3 1,mv 4 kf]
def r1:=[m 8 0,ln 9 8,mv 10 k0]
def r2:=[ls 11 10 9]
def r3:=[ia 12 1 8 10,uu 13 1 12,m 6 13]
def r4:=[m 14 6,ca 15 300 [14],al 7 z3,so 3 7 15]
def r5:=[tt 16 3 7,tt 17 3 7,ca 18 98 [16,17],tt 19 3 3,ca 20 198 [18,19],bi 21 .gtr 20 k0]
def r6:=[mv 4 kf]
def r7:=[ad 22 10 k1,m 10 22]
def r8:=[mv 4 kt]
def l1:=(s (p r2) (s (i 11 .skip (x 0)) (s (b 1 (s (d r3 [11,12,13]) (s (d r4 [6,14,15]) (s (e r5 (rl [7] 16 5)) (i 21 (s (d r6 [3,8,9,10,21]) .ret) .skip))))) (d r7 [21,22]))))
def c:=(s (d r0 [1,4]) (s (s (d r1 [0]) (b 0 (w l1))) (s (d r8 (rl [3] 8 4)) .ret)))
end iD
def iD:AFn:=⟨2,iD.c,[.tmp 4],false⟩
namespace iR
def r0:=[al 2 [.nil,(.bool false),.nil,.nil,z,(.bool false),.nil,.nil],mv 3 k0]
def r1:=[m 9 0,ca 10 295 [9],ca 11 96 [k1],
 o 12 (.build [.nil,(.bool false),.nil,.nil,z,(.bool false),.nil,.nil] [(1,3,10),(4,1,k1),(5,3,11)]),
 al 4 [.nil,(.bool false),.nil,.nil,z,(.bool false),.nil,.nil],so 8 4 12]
def r2:=[m 13 0,ln 14 13,mv 15 k0]
def r3:=[ls 16 15 14]
def r4:=[ia 17 1 13 15,uu 18 1 17,m 6 18]
def r5:=[fa 19 4 0,q 20 [25] (.ld false 1 19),m 21 6,fa 22 4 1,tt 23 3 22,ca 24 296 [21,23],o 25 (.a9 25 1 [24]),
 o 26 (.app 26 1 24 20 25),fa 27 4 0,so 1 27 26]
def r6:=[ad 28 15 k1,m 15 28]
def r7:=[fa 29 4 0,q 30 [8] (.ld false 1 29),fa 31 4 1,q 32 [8] (.ld true 3 31),al 8 z3,
 m 7 30,so 3 8 32]
def r8:=[m 33 7,tt 34 3 8,ca 35 302 [33,34],nt 36 35]
def r9:=[fa 37 4 4,uu 38 1 37,bi 39 .eql 38 (k 64)]
def F2:=[o 40 (.build [.nil,(.bool false),.nil,.nil,z,(.bool false),.nil,.nil] []),so 8 2 40,mv 3 (k 14)]
def GC:=[m 41 7,ca 42 299 [41],tt 43 3 8,tt 44 3 8,ca 45 99 [43,44],m 7 42,so 3 8 45]
def aj:=[fa 46 4 4,uu 47 1 46,bi 48 .mul 47 (k 2),fa 49 4 4,so 1 49 48]
def HC:=[fa 50 4 4,uu 51 1 50,bi 52 .mul (k 2) 51,sb 53 52 k1,mv 54 k0]
def dp:=[ls 55 54 53]
def dz:=[fa 56 4 5,tt 57 3 56,fa 58 4 1,tt 59 3 58,ca 60 99 [57,59],fa 61 4 5,so 3 61 60]
def fm:=[ad 62 54 k1,m 54 62]
def JG:=[tt 63 8 4,so 8 2 63,mv 3 k0]
def l1:=(s (p r3) (s (i 16 .skip (x 0)) (s (b 1 (s (d r4 [16,17,18]) (e r5 (rl [6] 19 9)))) (d r6 [28]))))
def l2:=(s (s (d r8 [33,34,35]) (i 36 .skip (x 2))) (b 3 (s (s (d r9 [36,37,38]) (i 39 (s (d F2 [4,7,8,39,40]) .ret) .skip)) (s (e GC (rl [39] 41 5)) (d aj (ra 46 4))))))
def l3:=(s (p dp) (s (i 55 .skip (x 4)) (s (b 5 (d dz (ra 55 7))) (d fm [62]))))
def c:=(s (d r0 [3]) (s (d r1 (ra 9 4)) (s (s (d r2 [0]) (b 0 (w l1))) (s (e r7 (rl [13,14,15,16] 29 4)) (s (b 2 (w l2)) (s (s (d HC [7,8,36,50,51,52]) (b 4 (w l3))) (s (d JG [4,53,54,55,63]) .ret)))))))
end iR
def iR:AFn:=⟨1,iR.c,[.cell 2 true 8,.tmp 3],false⟩
namespace iI
def r0:=[bx 2 0,al 4 [.nil,(.bool false),.nil,.nil]]
def r1:=[ca 8 96 [k0],o 9 (.build [.nil,(.bool false),.nil,.nil] [(1,3,8)]),al 5 [.nil,(.bool false),.nil,.nil],so 4 5 9]
def r2:=[m 10 1,m 6 10]
def r3:=[fa 11 2 4,uu 12 1 11,bi 13 .mul (k 2) 12,mv 14 k0]
def r4:=[ls 15 14 13]
def r5:=[m 16 14,m 7 16]
def r6:=[m 17 7,bi 18 .gtr 17 k0]
def r7:=[fa 19 2 0,uu 20 1 19,m 21 6,ca 22 298 [20,21],m 6 22]
def r8:=[fa 23 5 0,uu 24 1 23,m 25 6,o 26 (.a9 26 1 [25]),o 27 (.app 27 1 24 24 26),fa 28 5 0,so 1 28 27]
def r9:=[m 29 7,fa 30 2 4,uu 31 1 30,bi 32 .geq 29 31]
def F2:=[fa 33 5 1,tt 34 3 33,fa 35 2 1,tt 36 3 35,ca 37 99 [34,36],m 38 6,ca 39 301 [38],
 ca 40 98 [37,39],fa 41 5 1,so 3 41 40]
def GC:=[ad 42 14 k1,m 14 42]
def aj:=[tt 43 4 5,so 4 4 43]
def l1:=(s (p r4) (s (i 15 .skip (x 0)) (s (b 1 (s (d r5 [15,16]) (s (s (d r6 [17]) (i 18 (d r7 (ra 18 5)) .skip)) (s (d r8 (rl [18] 23 6)) (s (d r9 [7,29,30,31]) (i 32 (d F2 (ra 32 10)) .skip)))))) (d GC [32,42]))))
def c:=(s (d r0 [0]) (s (d r1 [8,9]) (s (d r2 [1,10]) (s (s (d r3 [11,12]) (b 0 (w l1))) (s (d aj [2,5,6,13,14,15,43]) .ret)))))
end iI
def iI:AFn:=⟨2,iI.c,[.cell 4 true 4],false⟩
namespace iH
def r0:=[bx 3 0,bx 5 2,al 6 z3]
def r1:=[ca 10 96 [k0],al 7 z3,so 3 7 10]
def r2:=[fa 11 5 0,uu 12 1 11,ln 13 12,mv 14 k0]
def r3:=[ls 15 14 13]
def r4:=[ia 16 1 12 14,uu 17 1 16,m 9 17]
def r5:=[tt 18 3 7,fa 19 3 1,tt 20 3 19,ca 21 99 [18,20],m 22 1,m 23 9,ca 24 297 [22,23],ca 25 256 [24],
 ca 26 98 [21,25],so 3 7 26]
def r6:=[ad 27 14 k1,m 14 27]
def r7:=[tt 28 3 7,m 29 1,ca 30 300 [29],fa 31 5 1,tt 32 3 31,ca 33 99 [30,32],ca 34 98 [28,33],so 3 6 34]
def l1:=(s (p r3) (s (i 15 .skip (x 0)) (s (b 1 (s (d r4 [15,16,17]) (d r5 (rl [9] 18 9)))) (d r6 [27]))))
def c:=(s (d r0 [0,2]) (s (d r1 [10]) (s (s (d r2 [11]) (b 0 (w l1))) (s (e r7 (rl [1,3,5,7,12,13,14,15] 28 7)) .ret))))
end iH
def iH:AFn:=⟨3,iH.c,[.cell 6 true 3],false⟩
namespace gP
def r0:=[bx 1 0,al 2 z3,mv 3 k0]
def r1:=[tt 11 6 1,ca 12 130 [11],nt 13 12,m 14 13,g 15 14 false (.m4 1 0),g 16 14 false (.ld false 1 15),g 17 14 false (.len 16),
 g 18 14 false (.bin .gtr 17 (k 16)),pk 19 14 kt 18]
def r2:=[o 20 (.build z3 []),so 3 2 20,mv 3 (k 2)]
def r3:=[fa 22 1 0,uu 23 1 22,ca 24 303 [23],m 21 24,et 25 21 0,et 26 21 1,
 al 4 [.nil,(.bool false),.nil,.nil,z,(.bool false),.nil,.nil],so 8 4 25,m 5 26]
def r4:=[m 27 5,bi 28 .neq 27 k0]
def r5:=[o 29 (.build z3 []),m 30 5,so 3 2 29,m 3 30]
def r6:=[fa 31 1 1,q 32 [37,6,7] (.ld false 1 31),o 33 (.a9 33 1 [32]),q 34 [37,6,7] (.call 295 [33]),fa 35 1 2,
 q 36 [33,6,7] (.ld false 1 35),o 37 (.a9 37 1 [36]),q 38 [6,7] (.call 295 [37]),al 6 z3,
 al 7 z3,so 3 6 34,so 3 7 38]
def r7:=[q 39 [8] (.ld true 8 4),fa 40 1 2,q 41 [8] (.ld false 1 40),q 42 [8] (.ld true 3 7),
 q 43 [8] (.call 296 [41,42]),q 44 [8] (.ld true 8 4),fa 45 1 1,q 46 [8] (.ld false 1 45),
 q 47 [8] (.ld true 3 6),q 48 [8] (.call 296 [46,47]),q 49 [8] (.v7 304 [44,48]),
 q 50 [8] (.call 305 [39,43,49]),al 8 z3,so 3 8 50]
def r8:=[q 52 [9] (.ld true 3 8),fa 53 4 5,q 54 [9] (.ld true 3 53),q 55 [9] (.ld true 3 6),
 q 56 [9] (.ld true 3 7),q 57 [9] (.call 99 [55,56]),q 58 [9] (.call 99 [54,57]),q 59 [9] (.call 100 [52,58]),
 m 51 59,et 60 51 0,et 61 51 1,al 9 z3,so 3 9 60,m 10 61]
def r9:=[fa 62 1 3,tt 63 3 62,ca 64 256 [63],tt 65 3 9,ca 66 98 [64,65],so 3 2 66,mv 3 k0]
def c:=(s (d r0 [0,3]) (s (s (d r1 (ra 11 8)) (i 19 (s (d r2 [1,19,20]) .ret) .skip)) (s (d r3 (rl [19] 21 6)) (s (s (d r4 [27]) (i 28 (s (d r5 [1,4,5,28,29,30]) .ret) .skip)) (s (e r6 (rl [5,28] 31 8)) (s (e r7 (ra 39 12)) (s (e r8 (rl [4,6,7,8,10] 51 11)) (s (e r9 (rl [1,9] 62 5)) .ret))))))))
end gP
def gP:AFn:=⟨1,gP.c,[.cell 2 true 3,.tmp 3],false⟩
structure v5 (L:Lib):Prop extends fp L where
 iE:L 294=some F.iE
 iC:L 295=some F.iC
 iS:L 296=some F.iS
 iF:L 297=some F.iF
 gQ:L 298=some F.gQ
 iQ:L 299=some F.iQ
 iT:L 300=some F.iT
 iK:L 301=some F.iK
 iD:L 302=some F.iD
 iR:L 303=some F.iR
 iI:L 304=some F.iI
 iH:L 305=some F.iH
 gP:L 307=some F.gP
end Go.c9.F
namespace Go.c9.F
open C
namespace jZ
def r0:=[bx 1 0,al 2 [(.bool false),.nil]]
def r1:=[fa 3 1 1,uu 4 1 3,ca 5 101 [4],o 6 (.build [(.bool false),.nil] [(1,1,5)]),so 2 2 6]
def c:=(s (d r0 [0]) (s (d r1 [1,3,4,5,6]) .ret))
end jZ
def jZ:AFn:=⟨1,jZ.c,[.cell 2 true 2],false⟩
namespace kR
def r0:=[bx 1 0,al 2 z3]
def r1:=[tt 3 3 1,ca 4 123 [3],so 3 1 4]
def r2:=[fa 5 1 0,tt 6 2 5,ca 7 308 [6],fa 8 1 0,so 2 8 7]
def r3:=[tt 9 3 1,so 3 2 9]
def c:=(s (d r0 [0]) (s (d r1 [3,4]) (s (d r2 (ra 5 4)) (s (d r3 [1,9]) .ret))))
end kR
def kR:AFn:=⟨1,kR.c,[.cell 2 true 3],false⟩
namespace mF
def r0:=[mv 2 kf]
def r1:=[mv 3 k0]
def r2:=[m 4 3,m 5 0,ln 6 5,ls 7 4 6]
def r4:=[m 10 0,m 11 3,ia 12 1 10 11,uu 13 1 12,ln 14 13,m 15 0,ln 16 15,bi 17 .neq 14 16]
def r5:=[mv 2 kf]
def r3:=[m 8 3,ad 9 8 k1,m 3 9]
def r6:=[m 18 0,ln 19 18,bi 20 .leq 19 (k 16),m 2 20]
def l1:=(s (s (d r2 [4,5,6]) (i 7 .skip (x 0))) (s (b 1 (s (d r4 (rl [7] 10 7)) (i 17 (s (d r5 [0,3,17]) .ret) .skip))) (d r3 [8,9,17])))
def c:=(s (d r0 [2]) (s (s (p r1) (b 0 (w l1))) (s (d r6 [0,3,7,18,19,20]) .ret)))
end mF
def mF:AFn:=⟨1,mF.c,[.tmp 2],false⟩
namespace mC
def r0:=[al 2 z3]
def r1:=[ca 5 124 [k0],al 3 z3,so 3 3 5]
def r2:=[mv 4 k0]
def r3:=[m 6 4,m 7 0,ln 8 7,ls 9 6 8]
def r5:=[tt 12 3 3,m 13 0,m 14 4,ia 15 3 13 14,tt 16 3 15,ca 17 309 [16],ca 18 126 [12,17],so 3 3 18]
def r4:=[m 10 4,ad 11 10 k1,m 4 11]
def r6:=[tt 19 3 3,so 3 2 19]
def l1:=(s (s (d r3 [6,7,8]) (i 9 .skip (x 0))) (s (b 1 (e r5 (rl [9] 12 7))) (d r4 [10,11])))
def c:=(s (p r0) (s (d r1 [5]) (s (s (p r2) (b 0 (w l1))) (s (d r6 [0,3,4,9,19]) .ret))))
end mC
def mC:AFn:=⟨1,mC.c,[.cell 2 true 3],false⟩
namespace lZ
def r0:=[al 2 z3]
def r1:=[ca 5 124 [k0],al 3 z3,so 3 3 5]
def r2:=[mv 4 k0]
def r3:=[m 6 4,m 7 0,ln 8 7,ls 9 6 8]
def r5:=[m 12 0,m 13 4,ia 14 3 12 13,tt 15 3 14,ca 16 309 [15],tt 17 3 3,ca 18 127 [16,17],
 bi 19 .gtr 18 k0]
def r6:=[m 20 0,m 21 4,ia 22 3 20 21,tt 23 3 22,ca 24 309 [23],so 3 3 24]
def r4:=[m 10 4,ad 11 10 k1,m 4 11]
def r7:=[tt 25 3 3,so 3 2 25]
def l1:=(s (s (d r3 [6,7,8]) (i 9 .skip (x 0))) (s (b 1 (s (e r5 (rl [9] 12 7)) (i 19 (d r6 (ra 19 6)) .skip))) (d r4 [10,11,19])))
def c:=(s (p r0) (s (d r1 [5]) (s (s (p r2) (b 0 (w l1))) (s (d r7 [0,3,4,9,25]) .ret))))
end lZ
def lZ:AFn:=⟨1,lZ.c,[.cell 2 true 3],false⟩
namespace mI
def r0:=[mv 2 (.c .nil)]
def r1:=[m 8 0,ln 9 8,o 10 (.mk 10 1 24 [.nil] 9 9),m 3 10]
def r2:=[mv 4 k0]
def r3:=[m 11 4,m 12 0,ln 13 12,ls 14 11 13]
def r5:=[mv 5 k0]
def r6:=[m 17 5,m 18 0,ln 19 18,ls 20 17 19]
def r8:=[ca 23 124 [k0],al 6 z3,so 3 6 23]
def r9:=[mv 7 k0]
def F2:=[m 24 7,m 25 0,ln 26 25,ls 27 24 26]
def aj:=[tt 30 3 6,m 31 0,m 32 4,ia 33 1 31 32,uu 34 1 33,m 35 7,ia 36 3 34 35,tt 37 3 36,m 38 0,m 39 7,
 ia 40 1 38 39,uu 41 1 40,m 42 5,ia 43 3 41 42,tt 44 3 43,ca 45 128 [37,44],
 ca 46 126 [30,45],so 3 6 46]
def GC:=[m 28 7,ad 29 28 k1,m 7 29]
def HC:=[m 47 3,m 48 4,m 49 3,m 50 4,ia 51 1 49 50,q 52 [54] (.ld false 1 51),tt 53 3 6,o 54 (.a9 54 3 [53]),
 o 55 (.app 55 3 56 52 54),ia 56 1 47 48,so 1 56 55]
def r7:=[m 21 5,ad 22 21 k1,m 5 22]
def r4:=[m 15 4,ad 16 15 k1,m 4 16]
def dp:=[m 57 3,m 2 57]
def l3:=(s (s (d F2 [24,25,26]) (i 27 .skip (x 4))) (s (b 5 (e aj (rl [27] 30 17))) (d GC [28,29])))
def l2:=(s (s (d r6 [17,18,19]) (i 20 .skip (x 2))) (s (b 3 (s (d r8 [20,23]) (s (s (p r9) (b 4 (w l3))) (e HC (rl [6,7,27] 47 10))))) (d r7 [21,22])))
def l1:=(s (s (d r3 [11,12,13]) (i 14 .skip (x 0))) (s (b 1 (s (d r5 [14]) (b 2 (w l2)))) (d r4 [5,15,16,20])))
def c:=(s (d r0 [2]) (s (d r1 [8,9,10]) (s (s (p r2) (b 0 (w l1))) (s (d dp [0,3,4,14,57]) .ret))))
end mI
def mI:AFn:=⟨1,mI.c,[.tmp 2],false⟩
namespace mA
def r0:=[mv 2 k0,mv 3 k0]
def r1:=[m 7 0,ca 8 310 [7],nt 9 8]
def r2:=[mv 2 k0,mv 3 (k 2)]
def r3:=[mv 4 k1]
def r4:=[m 10 4,bi 11 .leq 10 (k 64)]
def r6:=[mv 5 kt]
def r7:=[mv 6 k0]
def r8:=[m 14 6,m 15 0,ln 16 15,ls 17 14 16]
def F2:=[m 20 5,m 21 20,g 22 21 true (.y7 0),g 23 21 true (.y7 6),g 24 21 true (.ch none 1 22 23),g 25 21 true (.ld false 1 24),g 26 21 true (.call 311 [25]),
 g 27 21 true (.call 125 [k1,(k 2)]),g 28 21 true (.call 127 [26,27]),g 29 21 true (.bin .leq 28 k0),pk 30 21 29 kf,m 5 30]
def r9:=[m 18 6,ad 19 18 k1,m 6 19]
def GC:=[m 31 5]
def aj:=[m 32 4,m 2 32,mv 3 k0]
def HC:=[m 33 0,ca 34 313 [33],m 0 34]
def r5:=[m 12 4,bi 13 .mul (k 2) 12,m 4 13]
def dp:=[mv 2 k0,mv 3 (k 14)]
def l2:=(s (s (d r8 [14,15,16]) (i 17 .skip (x 2))) (s (b 3 (d F2 (rl [17] 20 11))) (d r9 [18,19])))
def l1:=(s (s (d r4 [10]) (i 11 .skip (x 0))) (s (b 1 (s (d r6 [11]) (s (s (p r7) (b 2 (w l2))) (s (s (d GC [5,6,17]) (i 31 (s (d aj [0,4,31,32]) .ret) .skip)) (d HC [31,33,34]))))) (d r5 [12,13])))
def c:=(s (d r0 [2,3]) (s (s (d r1 [7,8]) (i 9 (s (d r2 [0,9]) .ret) .skip)) (s (s (d r3 [9]) (b 0 (w l1))) (s (d dp [0,4,11]) .ret))))
end mA
def mA:AFn:=⟨1,mA.c,[.tmp 2,.tmp 3],false⟩
namespace mD
def r0:=[bx 1 0,al 2 z3,mv 3 k0]
def r1:=[tt 9 6 1,ca 10 136 [9],nt 11 10,m 12 11,g 13 12 false (.m4 1 0),g 14 12 false (.ld false 1 13),g 15 12 false (.len 14),
 g 16 12 false (.bin .gtr 15 (k 16)),pk 17 12 kt 16]
def r2:=[o 18 (.build z3 []),so 3 2 18,mv 3 (k 2)]
def r3:=[fa 20 1 0,uu 21 1 20,ca 22 314 [21],m 19 22,et 23 19 0,et 24 19 1,m 4 23,m 5 24]
def r4:=[m 25 5,bi 26 .neq 25 k0]
def r5:=[o 27 (.build z3 []),m 28 5,so 3 2 27,m 3 28]
def r6:=[fa 29 1 3,tt 30 3 29,ca 31 309 [30],al 6 z3,so 3 6 31]
def r7:=[fa 32 1 1,uu 33 1 32,m 7 33]
def r8:=[mv 8 k0]
def r9:=[m 34 8,m 35 4,bi 36 .mul (k 2) 35,ls 37 34 36]
def GC:=[tt 40 3 6,fa 41 1 2,uu 42 1 41,m 43 7,ca 44 137 [42,43],ca 45 309 [44],ca 46 126 [40,45],
 so 3 6 46]
def aj:=[m 47 8,m 48 4,bi 49 .geq 47 48]
def HC:=[tt 50 3 6,fa 51 1 2,uu 52 1 51,ca 53 311 [52],m 54 7,ca 55 312 [54],ca 56 128 [53,55],
 ca 57 126 [50,56],so 3 6 57]
def dp:=[fa 58 1 0,uu 59 1 58,m 60 7,ca 61 138 [59,60],m 7 61]
def F2:=[m 38 8,ad 39 38 k1,m 8 39]
def dz:=[tt 62 3 6,so 3 2 62,mv 3 k0]
def l1:=(s (s (d r9 [34,35,36]) (i 37 .skip (x 0))) (s (b 1 (s (e GC (rl [37] 40 7)) (s (s (d aj [47,48]) (i 49 (e HC (ra 49 9)) .skip)) (d dp (rl [49] 58 4))))) (d F2 [38,39])))
def c:=(s (d r0 [0,3]) (s (s (d r1 (ra 9 8)) (i 17 (s (d r2 [1,17,18]) .ret) .skip)) (s (d r3 (rl [17] 19 6)) (s (s (d r4 [25]) (i 26 (s (d r5 [1,4,5,26,27,28]) .ret) .skip)) (s (d r6 [5,26,29,30,31]) (s (d r7 [32,33]) (s (s (p r8) (b 0 (w l1))) (s (d dz [1,4,6,7,8,37,62]) .ret))))))))
end mD
def mD:AFn:=⟨1,mD.c,[.cell 2 true 3,.tmp 3],false⟩
structure fh (L:Lib):Prop extends ak L where
 jZ:L 308=some F.jZ
 kR:L 309=some F.kR
 mF:L 310=some F.mF
 mC:L 311=some F.mC
 lZ:L 312=some F.lZ
 mI:L 313=some F.mI
 mA:L 314=some F.mA
 mD:L 315=some F.mD
end Go.c9.F

namespace Go.c9.F
open C
namespace lU
def r0:=[bx 2 0,mv 4 (.c .nil)]
def r1:=[o 5 (.gj 5 1)]
def r2:=[m 12 1,bi 13 .geq 12 k0]
def r3:=[m 14 5,fa 15 2 8,uu 16 1 15,ad 17 16 k1,o 18 (.ay 18 135 [17,(k (-1))]),o 19 (.a9 19 1 [18]),
 o 20 (.app 20 1 24 14 19),m 5 20]
def r4:=[m 21 5,fa 22 2 8,uu 23 1 22,ad 24 23 k1,fa 25 2 8,uu 26 1 25,o 27 (.ay 27 135 [24,26]),
 o 28 (.a9 28 1 [27]),o 29 (.app 29 1 24 21 28),m 5 29]
def r5:=[mv 6 k0]
def r6:=[m 30 6,fa 31 2 8,uu 32 1 31,ls 33 30 32]
def r8:=[m 36 5,fa 37 2 8,uu 38 1 37,ad 39 38 k1,m 40 6,o 41 (.ay 41 135 [39,40]),o 42 (.a9 42 1 [41]),
 o 43 (.app 43 1 24 36 42),m 5 43]
def r7:=[m 34 6,ad 35 34 k1,m 6 35]
def r9:=[mv 7 k0]
def F2:=[m 44 7,fa 45 2 9,uu 46 1 45,ln 47 46,ls 48 44 47]
def aj:=[fa 51 2 8,uu 52 1 51,ad 53 52 k1,o 54 (.ay 54 135 [53,(k (-1))]),m 8 54]
def HC:=[mv 9 k0]
def dp:=[m 55 9,fa 56 2 9,uu 57 1 56,m 58 7,ia 59 1 57 58,fa 60 59 0,uu 61 1 60,ln 62 61,
 ls 63 55 62]
def fm:=[fa 66 2 9,uu 67 1 66,m 68 7,ia 69 1 67 68,fa 70 69 0,uu 71 1 70,m 72 9,ia 73 2 71 72,
 tt 74 2 73,al 10 [z,z],so 2 10 74]
def JG:=[mv 11 k0]
def ib:=[m 75 11,m 76 8,ln 77 76,ls 78 75 77]
def js:=[m 81 8,m 82 11,m 83 8,m 84 11,ia 85 3 83 84,tt 86 3 85,fa 87 10 1,uu 88 1 87,fa 89 2 4,
 fa 90 89 1,uu 91 1 90,cu 92 91,bi 93 .shl k1 92,ca 94 125 [88,93],m 95 5,fa 96 10 0,
 uu 97 1 96,ia 98 1 95 97,uu 99 1 98,m 100 11,ia 101 3 99 100,tt 102 3 101,
 ca 103 128 [94,102],ca 104 126 [86,103],ia 105 3 81 82,so 3 105 104]
def je:=[m 79 11,ad 80 79 k1,m 11 80]
def dz:=[m 64 9,ad 65 64 k1,m 9 65]
def ov:=[m 106 7,m 107 1,bi 108 .eql 106 107]
def qm:=[m 109 8,fa 110 2 8,uu 111 1 110,m 112 8,fa 113 2 8,uu 114 1 113,ia 115 3 112 114,tt 116 3 115,
 ca 117 124 [k1],ca 118 126 [116,117],ia 119 3 109 111,so 3 119 118]
def sz:=[m 120 5,m 121 8,o 122 (.a9 122 1 [121]),o 123 (.app 123 1 24 120 122),m 5 123]
def GC:=[m 49 7,ad 50 49 k1,m 7 50]
def W8:=[m 124 5,m 4 124]
def l1:=(s (s (d r6 [30,31,32]) (i 33 .skip (x 0))) (s (b 1 (d r8 (rl [33] 36 8))) (d r7 [34,35])))
def l4:=(s (s (d ib [75,76,77]) (i 78 .skip (x 6))) (s (b 7 (e js (rl [78] 81 25))) (d je [79,80])))
def l3:=(s (s (d dp (ra 55 8)) (i 63 .skip (x 4))) (s (b 5 (s (d fm (rl [63] 66 9)) (s (p JG) (b 6 (w l4))))) (d dz [10,11,64,65,78])))
def l2:=(s (s (d F2 (ra 44 4)) (i 48 .skip (x 2))) (s (b 3 (s (d aj (rl [48] 51 4)) (s (s (p HC) (b 4 (w l3))) (s (s (d ov [9,63,106,107]) (i 108 (e qm (ra 108 12)) .skip)) (d sz (rl [8,108] 120 4)))))) (d GC [49,50])))
def c:=(s (d r0 [0,4]) (s (p r1) (s (s (d r2 [12]) (i 13 (d r3 (ra 13 8)) (d r4 (rl [13] 21 9)))) (s (s (p r5) (b 0 (w l1))) (s (s (d r9 [6,33]) (b 2 (w l2))) (s (d W8 [1,2,5,7,48,124]) .ret))))))
end lU
def lU:AFn:=⟨2,lU.c,[.tmp 4],false⟩
namespace lX
def r0:=[bx 2 0,al 4 z6]
def r1:=[m 7 1,fa 8 2 11,q 9 [5] (.ld false 1 8),ia 10 1 7 9,q 11 [5] (.ld false 1 10),fa 12 2 8,
 q 13 [5] (.ld false 1 12),o 14 (.kv 3 11 none (some 13)),m 15 1,fa 16 2 11,q 17 [5] (.ld false 1 16),
 ia 18 1 15 17,q 19 [5] (.ld false 1 18),fa 20 2 8,q 21 [5] (.ld false 1 20),ia 22 3 19 21,
 q 23 [5] (.ld true 3 22),o 24 (.build z6 [(2,1,14),(3,3,23)]),
 al 5 z6,so 6 5 24]
def r2:=[mv 6 k0]
def r3:=[m 25 6,fa 26 2 8,uu 27 1 26,ls 28 25 27]
def r5:=[fa 31 5 0,q 32 [44] (.ld false 1 31),m 33 1,fa 34 2 10,uu 35 1 34,m 36 6,ia 37 1 35 36,
 uu 38 1 37,ia 39 1 33 38,uu 40 1 39,fa 41 2 8,uu 42 1 41,o 43 (.kv 3 40 none (some 42)),
 o 44 (.a9 44 1 [43]),o 45 (.app 45 1 24 32 44),fa 46 5 0,so 1 46 45]
def r6:=[fa 47 5 1,q 48 [61] (.ld false 1 47),m 49 1,fa 50 2 10,uu 51 1 50,m 52 6,ia 53 1 51 52,
 uu 54 1 53,ia 55 1 49 54,uu 56 1 55,fa 57 2 8,uu 58 1 57,ia 59 3 56 58,
 tt 60 3 59,o 61 (.a9 61 3 [60]),o 62 (.app 62 3 56 48 61),fa 63 5 1,so 1 63 62]
def r4:=[m 29 6,ad 30 29 k1,m 6 30]
def r7:=[tt 64 6 5,so 6 4 64]
def l1:=(s (s (d r3 [25,26,27]) (i 28 .skip (x 0))) (s (b 1 (s (e r5 (rl [28] 31 16)) (e r6 (ra 47 17)))) (d r4 [29,30])))
def c:=(s (d r0 [0]) (s (e r1 (ra 7 18)) (s (s (p r2) (b 0 (w l1))) (s (d r7 [1,2,5,6,28,64]) .ret))))
end lX
def lX:AFn:=⟨2,lX.c,[.cell 4 true 6],false⟩
namespace lQ
def r0:=[bx 1 0,al 2 z6,mv 3 k0]
def r1:=[tt 4 12 1,ca 5 27 [4],nt 6 5]
def r2:=[o 7 (.build z6 []),so 6 2 7,mv 3 (k 2)]
def r3:=[tt 8 12 1,tt 9 12 1,ca 10 163 [9,(k (-1))],ca 11 164 [8,10],so 6 2 11,mv 3 k0]
def c:=(s (d r0 [0,3]) (s (s (d r1 [4,5]) (i 6 (s (d r2 [1,6,7]) .ret) .skip)) (s (e r3 (rl [1,6] 8 4)) .ret)))
end lQ
def lQ:AFn:=⟨1,lQ.c,[.cell 2 true 6,.tmp 3],false⟩
namespace lN
def r0:=[bx 2 0,al 4 z6,mv 5 k0]
def r1:=[tt 6 12 2,ca 7 27 [6],nt 8 7]
def r2:=[o 9 (.build z6 []),so 6 4 9,mv 5 (k 2)]
def r3:=[m 10 1,fa 11 2 9,uu 12 1 11,ln 13 12,sb 14 13 k1,ca 15 10 [10,k0,14],nt 16 15]
def r4:=[o 17 (.build z6 []),so 6 4 17,mv 5 k1]
def r5:=[tt 18 12 2,tt 19 12 2,m 20 1,ca 21 163 [19,20],ca 22 164 [18,21],so 6 4 22,mv 5 k0]
def c:=(s (d r0 [0,5]) (s (s (d r1 [6,7]) (i 8 (s (d r2 [1,2,8,9]) .ret) .skip)) (s (s (d r3 (rl [8] 10 6)) (i 16 (s (d r4 [1,2,16,17]) .ret) .skip)) (s (e r5 (rl [1,2,16] 18 5)) .ret))))
end lN
def lN:AFn:=⟨2,lN.c,[.cell 4 true 6,.tmp 5],false⟩
structure eo (L:Lib):Prop extends ug L,er L,dm L where
 lU:L 163=some F.lU
 lX:L 164=some F.lX
 lQ:L 165=some F.lQ
 lN:L 166=some F.lN
end Go.c9.F

namespace Go.c9.F
open C
namespace nG
def r0:=[mv 4 k0]
def r1:=[m 5 1,ls 6 5 k1]
def r2:=[mv 4 k0]
def r3:=[m 7 0,m 8 1,bi 9 .rem 7 8,m 0 9]
def r4:=[m 10 0,ls 11 10 k0]
def r5:=[m 12 0,m 13 1,ad 14 12 13,m 0 14]
def r6:=[m 15 0,m 4 15]
def c:=(s (d r0 [4]) (s (s (d r1 [5]) (i 6 (s (d r2 [0,1,6]) .ret) .skip)) (s (d r3 (ra 6 4)) (s (s (d r4 [10]) (i 11 (d r5 (rl [1] 11 4)) .skip)) (s (d r6 [0,1,11,15]) .ret)))))
end nG
def nG:AFn:=⟨2,nG.c,[.tmp 4],false⟩
namespace mZ
def r0:=[mv 4 k0]
def r1:=[m 5 1,bi 6 .geq 5 k0,m 7 6,g 8 7 true (.y7 1),g 9 7 true (.y7 0),g 10 7 true (.len 9),g 11 7 true (.bin .lss 8 10),
 pk 12 7 11 kf]
def r2:=[m 13 0,m 14 1,ia 15 1 13 14,uu 16 1 15,m 4 16]
def r3:=[mv 4 k0]
def c:=(s (d r0 [4]) (s (s (d r1 (ra 5 7)) (i 12 (s (d r2 (rl [0,1] 12 5)) .ret) .skip)) (s (d r3 [0,1,12]) .ret)))
end mZ
def mZ:AFn:=⟨2,mZ.c,[.tmp 4],false⟩
namespace nI
def r0:=[al 8 [z,z,z,z]]
def r1:=[m 10 0,ca 11 34 [10,(k 1099511627776)],m 0 11]
def r2:=[m 12 1,m 13 0,m 14 2,m 15 1,sb 16 14 15,ad 17 16 k1,bi 18 .rem 13 17,ad 19 12 18,
 o 20 (.build [z,z,z,z] [(0,1,19)]),al 9 [z,z,z,z],so 4 9 20]
def r3:=[m 21 0,m 22 2,m 23 1,sb 24 22 23,ad 25 24 k1,bi 26 .quo 21 25,m 0 26]
def r4:=[fa 27 9 0,uu 28 1 27,sb 29 28 k1,m 30 3,sb 31 29 30,m 32 0,bi 33 .rem 32 (k 2),sb 34 31 33,
 fa 35 9 1,so 1 35 34]
def r5:=[m 36 0,bi 37 .quo 36 (k 2),m 0 37]
def r6:=[fa 38 9 1,uu 39 1 38,o 40 (.mm true [39,k0]),fa 41 9 1,so 1 41 40]
def r7:=[m 42 0,bi 43 .rem 42 (k 3),ad 44 k1 43,m 45 0,bi 46 .quo 45 (k 3),bi 47 .rem 46 (k 2),ad 48 k1 47,
 fa 49 9 2,so 1 49 44,fa 50 9 3,so 1 50 48]
def r8:=[tt 51 4 9,so 4 8 51]
def c:=(s (p r0) (s (d r1 [10,11]) (s (d r2 (ra 12 9)) (s (d r3 (rl [1,2] 21 6)) (s (d r4 (rl [3] 27 9)) (s (d r5 [36,37]) (s (d r6 (ra 38 4)) (s (d r7 (rl [0] 42 9)) (s (d r8 [9,51]) .ret)))))))))
end nI
def nI:AFn:=⟨4,nI.c,[.cell 8 true 4],false⟩
namespace nC
def r0:=[al 2 [z,z,z,z]]
def r1:=[m 3 0,ca 4 36 [3,(k 6),(k 12),(k 2)],so 4 2 4]
def c:=(s (p r0) (s (d r1 [0,3,4]) .ret))
end nC
def nC:AFn:=⟨1,nC.c,[.cell 2 true 4],false⟩
namespace nB
def r0:=[al 2 [z,z,z,z]]
def r1:=[m 3 0,ca 4 36 [3,(k 6),(k 9),k1],so 4 2 4]
def c:=(s (p r0) (s (d r1 [0,3,4]) .ret))
end nB
def nB:AFn:=⟨1,nB.c,[.cell 2 true 4],false⟩
namespace nA
def r0:=[mv 6 (.c .nil)]
def r1:=[o 7 (.gj 7 1)]
def r2:=[mv 8 k0]
def r3:=[m 9 8,m 10 2,ls 11 9 10]
def r5:=[m 14 7,m 15 1,m 16 8,ca 17 35 [15,16],m 18 0,ad 19 17 18,m 20 0,bi 21 .mul (k 2) 20,ad 22 21 k1,
 ca 23 34 [19,22],m 24 0,sb 25 23 24,o 26 (.a9 26 1 [25]),o 27 (.app 27 1 8 14 26),m 7 27]
def r4:=[m 12 8,ad 13 12 k1,m 8 13]
def r6:=[m 28 7,m 6 28]
def l1:=(s (s (d r3 [9,10]) (i 11 .skip (x 0))) (s (b 1 (d r5 (rl [11] 14 14))) (d r4 [12,13])))
def c:=(s (d r0 [6]) (s (p r1) (s (s (p r2) (b 0 (w l1))) (s (d r6 [0,1,2,7,8,11,28]) .ret))))
end nA
def nA:AFn:=⟨3,nA.c,[.tmp 6],false⟩
namespace nE
def r0:=[bx 1 0,mv 2 k0]
def r1:=[fa 3 1 1,uu 4 1 3,cu 5 4,bi 6 .shl k1 5,m 2 6]
def c:=(s (d r0 [0,2]) (s (d r1 [1,3,4,5,6]) .ret))
end nE
def nE:AFn:=⟨1,nE.c,[.tmp 2],false⟩
structure cj (L:Lib):Prop extends e8 L where
 nG:L 34=some F.nG
 mZ:L 35=some F.mZ
 nI:L 36=some F.nI
 nC:L 37=some F.nC
 nB:L 38=some F.nB
 nA:L 40=some F.nA
 nE:L 41=some F.nE
end Go.c9.F

namespace Go.c9.F
open C
structure Aw (L:Lib):Prop extends ff L,cj L where
end Go.c9.F

namespace Go.c9.F
open C
namespace dW
def r0:=[bx 6 2,bx 7 3,mv 8 k0]
def r1:=[tt 13 4 6,ca 14 2 [13],nt 15 14,m 16 15,g 17 16 false (.ld true 4 7),g 18 16 false (.call 2 [17]),g 19 16 false (.un .not 18),
 pk 20 16 kt 19]
def r2:=[mv 8 (k 2)]
def r3:=[m 21 0,ln 22 21,bi 23 .eql 22 k0,m 24 23,g 25 24 false (.y7 0),g 26 24 false (.len 25),g 27 24 false (.bin .gtr 26 (k 49)),
 pk 28 24 kt 27,m 29 28,g 30 29 false (.y7 1),g 31 29 false (.len 30),g 32 29 false (.bin .gtr 31 (k 8)),
 pk 33 29 kt 32]
def r4:=[mv 8 (k 12)]
def r5:=[m 34 0,ln 35 34,mv 36 k0]
def r6:=[ls 37 36 35]
def r7:=[ia 38 1 34 36,uu 39 1 38,m 10 39]
def r8:=[tt 40 4 7,m 41 10,ca 42 5 [40,41],nt 43 42]
def r9:=[mv 8 (k 17)]
def F2:=[ad 44 36 k1,m 36 44]
def GC:=[m 45 1,ln 46 45,mv 47 k0]
def aj:=[ls 48 47 46]
def HC:=[ia 49 1 45 47,uu 50 1 49,m 12 50]
def dp:=[tt 51 4 7,m 52 12,ca 53 5 [51,52],nt 54 53,m 55 54,g 56 55 false (.ld true 4 7),g 57 55 false (.y7 12),
 g 58 55 false (.un .neg 57),g 59 55 false (.call 5 [56,58]),g 60 55 false (.un .not 59),pk 61 55 kt 60]
def dz:=[mv 8 (k 17)]
def fm:=[ad 62 47 k1,m 47 62]
def JG:=[mv 8 k0]
def l1:=(s (p r6) (s (i 37 .skip (x 0)) (s (b 1 (s (d r7 [37,38,39]) (s (d r8 [10,40,41,42]) (i 43 (s (d r9 [1,7,34,35,36,43]) .ret) .skip)))) (d F2 [43,44]))))
def l2:=(s (p aj) (s (i 48 .skip (x 2)) (s (b 3 (s (d HC [48,49,50]) (s (d dp (rl [12] 51 10)) (i 61 (s (d dz [7,45,46,47,61]) .ret) .skip)))) (d fm [61,62]))))
def c:=(s (d r0 [2,3,8]) (s (s (d r1 (rl [6] 13 7)) (i 20 (s (d r2 [0,1,7,20]) .ret) .skip)) (s (s (d r3 (ra 20 13)) (i 33 (s (d r4 [0,1,7,33]) .ret) .skip)) (s (s (d r5 [0,33]) (b 0 (w l1))) (s (s (d GC (rl [1] 34 4)) (b 2 (w l2))) (s (d JG (rl [7] 45 4)) .ret))))))
end dW
def dW:AFn:=⟨4,dW.c,[.tmp 8],false⟩
namespace dS
def r0:=[mv 6 (.c .nil)]
def r1:=[m 10 0,ln 11 10,o 12 (.mk 12 2 16 [z,z] 11 11),m 7 12]
def r2:=[m 13 0,ln 14 13,mv 15 k0]
def r3:=[ls 16 15 14]
def r4:=[m 17 15,ia 18 1 13 15,uu 19 1 18,m 8 17,m 9 19]
def r5:=[m 20 7,m 21 8,m 22 2,m 23 8,ad 24 22 23,m 25 1,m 26 9,bi 27 .mul 25 26,o 28 (.build [z,z] [(0,1,24),(1,1,27)]),
 ia 29 2 20 21,so 2 29 28]
def r6:=[ad 30 15 k1,m 15 30]
def r7:=[m 31 7,m 6 31]
def l1:=(s (p r3) (s (i 16 .skip (x 0)) (s (b 1 (s (d r4 (ra 16 4)) (d r5 (rl [8,9] 20 10)))) (d r6 [30]))))
def c:=(s (d r0 [6]) (s (d r1 [10,11,12]) (s (s (d r2 [0]) (b 0 (w l1))) (s (d r7 [1,2,7,13,14,15,16,31]) .ret))))
end dS
def dS:AFn:=⟨3,dS.c,[.tmp 6],false⟩
namespace dQ
def r0:=[mv 2 (.c .nil)]
def r1:=[o 3 (.gj 3 2)]
def r2:=[m 6 0,ln 7 6,mv 8 k0]
def r3:=[ls 9 8 7]
def r4:=[ia 10 1 6 8,uu 11 1 10,m 5 11]
def r5:=[m 12 3,m 13 5,o 14 (.app 14 2 16 12 13),m 3 14]
def r6:=[ad 15 8 k1,m 8 15]
def r7:=[m 16 3,m 2 16]
def l1:=(s (p r3) (s (i 9 .skip (x 0)) (s (b 1 (s (d r4 [9,10,11]) (d r5 [5,12,13,14]))) (d r6 [15]))))
def c:=(s (d r0 [2]) (s (p r1) (s (s (d r2 [0]) (b 0 (w l1))) (s (d r7 [3,6,7,8,9,16]) .ret))))
end dQ
def dQ:AFn:=⟨1,dQ.c,[.tmp 2],false⟩
namespace YQ
def r0:=[m 7 0,ln 8 7,mv 9 k0]
def r1:=[ls 10 9 8]
def r2:=[m 11 9,m 6 11]
def r3:=[m 12 6,bi 13 .eql 12 k0]
def r4:=[m 14 0,m 15 6,m 16 2,ia 17 1 14 15,so 1 17 16]
def r5:=[m 18 0,m 19 6,m 20 1,m 21 6,ad 22 20 21,sb 23 22 k1,ia 24 1 18 19,so 1 24 23]
def r6:=[ad 25 9 k1,m 9 25]
def l1:=(s (p r1) (s (i 10 .skip (x 0)) (s (b 1 (s (d r2 [10,11]) (s (d r3 [12]) (i 13 (d r4 (rl [6] 13 5)) (d r5 (rl [6,13] 18 7)))))) (d r6 [25]))))
def c:=(s (d r0 [7]) (b 0 (w l1)))
end YQ
def YQ:AFn:=⟨3,YQ.c,[],false⟩
namespace dK
def r0:=[bx 6 2,bx 7 3,al 8 [z,z,z,z,z,z,z,z,z,.nil,.nil,z],mv 9 k0]
def r1:=[m 14 0,m 15 1,tt 16 4 6,tt 17 4 7,ca 18 46 [14,15,16,17],m 10 18]
def r2:=[m 19 10,bi 20 .neq 19 k0]
def r3:=[o 21 (.build [z,z,z,z,z,z,z,z,z,.nil,.nil,z] []),m 22 10,so 12 8 21,m 9 22]
def r4:=[m 23 0,ln 24 23,sb 25 24 k1,m 11 25]
def r5:=[m 26 11,m 27 1,ln 28 27,ad 29 26 28,m 12 29]
def r6:=[q 30 [34,13] (.ld true 4 6),q 31 [34,13] (.ld true 4 7),m 32 12,m 33 12,o 34 (.mk 34 1 8 [z] 33 33),m 35 12,
 ad 36 35 k1,o 37 (.build [z,z,z,z,z,z,z,z,z,.nil,.nil,z] [(0,4,30),(4,4,31),(8,1,32),(10,1,34),(11,1,36)]),
 al 13 [z,z,z,z,z,z,z,z,z,.nil,.nil,z],so 12 13 37]
def r7:=[m 38 0,ca 39 47 [38,k1,k0],m 40 1,m 41 11,ad 42 41 k1,ca 43 47 [40,(k (-1)),42],o 44 (.a9 44 1 [39,43]),
 ca 45 48 [44],o 46 (.build [.nil] [(0,1,45)]),o 47 (.a9 47 1 [46]),fa 48 13 9,so 1 48 47]
def r8:=[fa 49 13 10,uu 50 1 49,m 51 11,o 52 (.kv 1 50 none (some 51)),o 53 (.j6 49 [52,k1,k0])]
def r9:=[fa 54 13 10,uu 55 1 54,m 56 11,o 57 (.kv 1 55 (some 56) none),m 58 11,ad 59 58 k1,fa 60 13 11,
 uu 61 1 60,o 62 (.j6 49 [57,59,61])]
def F2:=[tt 63 12 13,so 12 8 63,mv 9 k0]
def c:=(s (d r0 [2,3,9]) (s (s (d r1 (ra 14 5)) (s (d r2 [19]) (i 20 (s (d r3 [0,1,6,7,10,20,21,22]) .ret) .skip))) (s (d r4 [10,20,23,24,25]) (s (d r5 (ra 26 4)) (s (e r6 (rl [6,7,12] 30 8)) (s (d r7 (rl [0,1] 38 11)) (s (d r8 (ra 49 5)) (s (e r9 (rl [11] 54 9)) (s (d F2 [13,63]) .ret)))))))))
end dK
def dK:AFn:=⟨4,dK.c,[.cell 8 true 12,.tmp 9],false⟩
namespace dO
def r0:=[bx 6 2,bx 7 3,al 8 [z,z,z,z,z,z,z,z,z,.nil,.nil,z],mv 9 k0]
def r1:=[m 15 0,m 16 1,tt 17 4 6,tt 18 4 7,ca 19 46 [15,16,17,18],m 10 19]
def r2:=[m 20 10,bi 21 .neq 20 k0]
def r3:=[o 22 (.build [z,z,z,z,z,z,z,z,z,.nil,.nil,z] []),m 23 10,so 12 8 22,m 9 23]
def r4:=[m 24 0,ln 25 24,sb 26 25 k1,m 27 1,ln 28 27,o 29 (.mm true [26,28]),m 11 29]
def r5:=[m 30 11,ad 31 30 k1,m 12 31]
def r6:=[q 32 [36,13] (.ld true 4 6),q 33 [36,13] (.ld true 4 7),m 34 11,m 35 11,o 36 (.mk 36 1 8 [z] 35 35),m 37 12,
 ad 38 37 k1,o 39 (.build [z,z,z,z,z,z,z,z,z,.nil,.nil,z] [(0,4,32),(4,4,33),(8,1,34),(10,1,36),(11,1,38)]),
 al 13 [z,z,z,z,z,z,z,z,z,.nil,.nil,z],so 12 13 39]
def r7:=[fa 40 7 1,uu 41 1 40,bi 42 .shl k1 41,o 43 (.a9 43 1 [42]),m 14 43]
def r8:=[m 44 14,ca 45 47 [44,k1,k0],m 46 1,ca 47 47 [46,(k (-1)),k1],o 48 (.a9 48 1 [45,47]),ca 49 48 [48],
 o 50 (.build [.nil] [(0,1,49)]),m 51 0,o 52 (.kv 1 51 none (some k1)),m 53 12,ca 54 47 [52,k1,53],m 55 0,
 o 56 (.kv 1 55 (some k1) none),ca 57 47 [56,k1,k1],o 58 (.a9 58 1 [54,57]),ca 59 48 [58],o 60 (.build [.nil] [(0,1,59)]),
 o 61 (.a9 61 1 [50,60]),fa 62 13 9,so 1 62 61]
def r9:=[fa 63 13 10,uu 64 1 63,m 65 12,o 66 (.j6 49 [64,k1,65])]
def F2:=[tt 67 12 13,so 12 8 67,mv 9 k0]
def c:=(s (d r0 [2,3,9]) (s (s (d r1 (ra 15 5)) (s (d r2 [20]) (i 21 (s (d r3 [0,1,6,7,10,21,22,23]) .ret) .skip))) (s (d r4 (rl [10,21] 24 6)) (s (d r5 [30,31]) (s (e r6 (rl [6,11] 32 8)) (s (d r7 (rl [7] 40 4)) (s (e r8 (rl [0,1,14] 44 19)) (s (d r9 (rl [12] 63 4)) (s (d F2 [13,67]) .ret)))))))))
end dO
def dO:AFn:=⟨4,dO.c,[.cell 8 true 12,.tmp 9],false⟩
namespace dP
def r0:=[bx 6 2,bx 7 3,al 8 [z,z,z,z,z,z,z,z,z,.nil,.nil,z],mv 9 k0]
def r1:=[m 17 0,m 18 1,tt 19 4 6,tt 20 4 7,ca 21 46 [17,18,19,20],m 10 21]
def r2:=[m 22 10,bi 23 .neq 22 k0]
def r3:=[o 24 (.build [z,z,z,z,z,z,z,z,z,.nil,.nil,z] []),m 25 10,so 12 8 24,m 9 25]
def r4:=[m 26 0,ln 27 26,sb 28 27 k1,m 29 1,ln 30 29,o 31 (.mm true [28,30]),m 11 31]
def r5:=[m 32 11,ad 33 32 k1,m 12 33]
def r6:=[q 34 [38,13] (.ld true 4 6),q 35 [38,13] (.ld true 4 7),m 36 11,m 37 11,o 38 (.mk 38 1 8 [z] 37 37),m 39 12,
 o 40 (.build [z,z,z,z,z,z,z,z,z,.nil,.nil,z] [(0,4,34),(4,4,35),(8,1,36),(10,1,38),(11,1,39)]),
 al 13 [z,z,z,z,z,z,z,z,z,.nil,.nil,z],so 12 13 40]
def r7:=[fa 41 7 1,uu 42 1 41,bi 43 .shl k1 42,o 44 (.a9 44 1 [43]),m 14 44]
def r8:=[m 45 11,ad 46 45 k1,mv 47 k0]
def r9:=[ls 48 47 46]
def F2:=[m 49 47,m 15 49]
def GC:=[mv 16 (.c .nil)]
def aj:=[m 50 15,m 51 0,ln 52 51,ls 53 50 52]
def HC:=[m 54 16,m 55 0,m 56 15,m 57 15,ad 58 57 k1,o 59 (.kv 1 55 (some 56) (some 58)),ca 60 47 [59,k1,k0],
 o 61 (.a9 61 1 [54,60]),ca 62 48 [61],m 16 62]
def dp:=[m 63 15,bi 64 .geq 63 k1,m 65 64,g 66 65 true (.y7 15),g 67 65 true (.y7 1),g 68 65 true (.len 67),g 69 65 true (.bin .leq 66 68),
 pk 70 65 69 kf]
def dz:=[m 71 16,m 72 1,m 73 15,sb 74 73 k1,m 75 15,o 76 (.kv 1 72 (some 74) (some 75)),m 77 12,ca 78 47 [76,(k (-1)),77],
 o 79 (.a9 79 1 [71,78]),ca 80 48 [79],m 16 80]
def fm:=[m 81 15,m 82 11,ls 83 81 82]
def JG:=[m 84 16,m 85 14,m 86 15,ad 87 86 k1,ca 88 47 [85,k1,87],o 89 (.a9 89 1 [84,88]),ca 90 48 [89],m 16 90]
def ib:=[m 91 15,bi 92 .geq 91 k1]
def je:=[fa 93 13 10,uu 94 1 93,m 95 15,sb 96 95 k1,m 97 12,m 98 15,ad 99 97 98,ia 100 1 94 96,
 so 1 100 99]
def js:=[fa 101 13 9,uu 102 1 101,m 103 16,o 104 (.build [.nil] [(0,1,103)]),o 105 (.a9 105 1 [104]),o 106 (.app 106 1 24 102 105),
 fa 107 13 9,so 1 107 106]
def ov:=[ad 108 47 k1,m 47 108]
def qm:=[tt 109 12 13,so 12 8 109,mv 9 k0]
def l1:=(s (p r9) (s (i 48 .skip (x 0)) (s (b 1 (s (d F2 [48,49]) (s (p GC) (s (s (d aj [50,51,52]) (i 53 (d HC (ra 53 10)) .skip)) (s (s (d dp (rl [53] 63 7)) (i 70 (d dz (ra 70 11)) .skip)) (s (s (d fm [70,81,82]) (i 83 (d JG (ra 83 8)) .skip)) (s (s (d ib [83,91]) (i 92 (d je (rl [15] 92 9)) .skip)) (d js (rl [15,16,92] 101 7))))))))) (d ov [108]))))
def c:=(s (d r0 [2,3,9]) (s (s (d r1 (ra 17 5)) (s (d r2 [22]) (i 23 (s (d r3 [0,1,6,7,10,23,24,25]) .ret) .skip))) (s (d r4 (rl [10,23] 26 6)) (s (d r5 [32,33]) (s (e r6 (rl [6] 34 7)) (s (d r7 (rl [7] 41 4)) (s (s (d r8 [45]) (b 0 (w l1))) (s (d qm [0,1,11,12,13,14,46,47,48,109]) .ret))))))))
end dP
def dP:AFn:=⟨4,dP.c,[.cell 8 true 12,.tmp 9],false⟩
structure w4 (L:Lib):Prop extends Aw L where
 dW:L 46=some F.dW
 dS:L 47=some F.dS
 dQ:L 48=some F.dQ
 YQ:L 49=some F.YQ
 dK:L 50=some F.dK
 dO:L 51=some F.dO
 dP:L 52=some F.dP
end Go.c9.F

namespace Go.c9.F
open C
namespace eT
def r0:=[bx 5 2,mv 6 k0]
def r1:=[tt 13 4 5,ca 14 2 [13],nt 15 14]
def r2:=[mv 6 (k 2)]
def r3:=[m 16 0,ln 17 16,bi 18 .gtr 17 (k 8),m 19 18,g 20 19 false (.y7 1),g 21 19 false (.len 20),g 22 19 false (.y7 0),g 23 19 false (.len 22),
 g 24 19 false (.bin .add 23 k1),g 25 19 false (.bin .neq 21 24),pk 26 19 kt 25]
def r4:=[mv 6 (k 12)]
def r5:=[m 27 1,ln 28 27,mv 29 k0]
def r6:=[ls 30 29 28]
def r7:=[ia 31 1 27 29,uu 32 1 31,m 8 32]
def r8:=[tt 33 4 5,m 34 8,ca 35 5 [33,34],nt 36 35]
def r9:=[mv 6 (k 17)]
def F2:=[ad 37 29 k1,m 29 37]
def GC:=[m 38 0,ln 39 38,mv 40 k0]
def aj:=[ls 41 40 39]
def HC:=[ia 42 1 38 40,uu 43 1 42,m 10 43]
def dp:=[tt 44 4 5,m 45 10,ca 46 5 [44,45],nt 47 46,m 48 47,g 49 48 false (.ld true 4 5),g 50 48 false (.y7 10),
 g 51 48 false (.un .neg 50),g 52 48 false (.call 5 [49,51]),g 53 48 false (.un .not 52),pk 54 48 kt 53]
def dz:=[mv 6 (k 17)]
def fm:=[ad 55 40 k1,m 40 55]
def JG:=[m 56 0,ln 57 56,mv 58 k0]
def ib:=[ls 59 58 57]
def je:=[ia 60 1 56 58,uu 61 1 60,m 12 61]
def js:=[m 62 12,m 63 12,o 64 (.un .neg 63),o 65 (.mm true [62,64]),fa 66 5 1,uu 67 1 66,bi 68 .shl k1 67,bi 69 .geq 65 68]
def ov:=[mv 6 (k 14)]
def qm:=[ad 70 58 k1,m 58 70]
def sz:=[mv 6 k0]
def l1:=(s (p r6) (s (i 30 .skip (x 0)) (s (b 1 (s (d r7 [30,31,32]) (s (d r8 [8,33,34,35]) (i 36 (s (d r9 [0,5,27,28,29,36]) .ret) .skip)))) (d F2 [36,37]))))
def l2:=(s (p aj) (s (i 41 .skip (x 2)) (s (b 3 (s (d HC [41,42,43]) (s (d dp (rl [10] 44 10)) (i 54 (s (d dz [0,5,38,39,40,54]) .ret) .skip)))) (d fm [54,55]))))
def l3:=(s (p ib) (s (i 59 .skip (x 4)) (s (b 5 (s (d je [59,60,61]) (s (d js (rl [12] 62 7)) (i 69 (s (d ov [5,56,57,58,69]) .ret) .skip)))) (d qm [69,70]))))
def c:=(s (d r0 [2,6]) (s (s (d r1 [13,14]) (i 15 (s (d r2 [0,1,5,15]) .ret) .skip)) (s (s (d r3 (ra 15 11)) (i 26 (s (d r4 [0,1,5,26]) .ret) .skip)) (s (s (d r5 [1,26]) (b 0 (w l1))) (s (s (d GC (ra 27 4)) (b 2 (w l2))) (s (s (d JG (rl [0] 38 4)) (b 4 (w l3))) (s (d sz (rl [5] 56 4)) .ret)))))))
end eT
def eT:AFn:=⟨3,eT.c,[.tmp 6],false⟩
namespace eN
def r0:=[bx 6 2,bx 7 3,al 8 [z,z,z,z,z,z,z,z,z,.nil,.nil,z],mv 9 k0]
def r1:=[tt 19 4 6,ca 20 2 [19],nt 21 20]
def r2:=[o 22 (.build [z,z,z,z,z,z,z,z,z,.nil,.nil,z] []),so 12 8 22,mv 9 (k 2)]
def r3:=[m 23 0,m 24 1,tt 25 4 7,ca 26 345 [23,24,25],m 10 26]
def r4:=[m 27 10,bi 28 .neq 27 k0]
def r5:=[o 29 (.build [z,z,z,z,z,z,z,z,z,.nil,.nil,z] []),m 30 10,so 12 8 29,m 9 30]
def r6:=[m 31 0,ln 32 31,m 11 32]
def r7:=[fa 33 7 1,uu 34 1 33,bi 35 .shl k1 34,m 12 35]
def r8:=[q 36 [40,13] (.ld true 4 6),q 37 [40,13] (.ld true 4 7),m 38 11,m 39 11,o 40 (.mk 40 1 8 [z] 39 39),m 41 11,
 bi 42 .mul (k 3) 41,ad 43 42 k1,
 o 44 (.build [z,z,z,z,z,z,z,z,z,.nil,.nil,z] [(0,4,36),(4,4,37),(8,1,38),(10,1,40),(11,1,43)]),
 al 13 [z,z,z,z,z,z,z,z,z,.nil,.nil,z],so 12 13 44]
def r9:=[m 45 11,ad 46 45 k1,o 47 (.mk 47 1 8 [z] 46 46),m 14 47]
def F2:=[m 48 11,m 15 48]
def GC:=[m 49 15,bi 50 .geq 49 k1]
def HC:=[m 53 14,m 54 15,sb 55 54 k1,m 56 11,ad 57 k1 56,m 58 11,ad 59 57 58,m 60 15,sb 61 59 60,
 ia 62 1 53 55,so 1 62 61]
def dp:=[fa 63 13 9,q 64 [79,81] (.ld false 1 63),m 65 14,m 66 15,ia 67 1 65 66,uu 68 1 67,m 69 12,
 o 70 (.build [z,z] [(0,1,68),(1,1,69)]),m 71 15,m 72 0,m 73 15,sb 74 73 k1,ia 75 1 72 74,uu 76 1 75,
 o 77 (.un .neg 76),o 78 (.build [z,z] [(0,1,71),(1,1,77)]),o 79 (.a9 79 2 [70,78]),o 80 (.build [.nil] [(0,1,79)]),o 81 (.a9 81 1 [80]),
 o 82 (.app 82 1 24 64 81),fa 83 13 9,so 1 83 82]
def aj:=[m 51 15,sb 52 51 k1,m 15 52]
def dz:=[m 84 11,ad 85 84 k1,o 86 (.mk 86 1 8 [z] 85 85),m 16 86]
def fm:=[m 87 16,m 88 14,ia 89 1 88 k0,uu 90 1 89,ia 91 1 87 k0,so 1 91 90]
def JG:=[m 92 14,ia 93 1 92 k0,q 94 [17] (.ld false 1 93),m 95 1,ia 96 1 95 k0,q 97 [17] (.ld false 1 96),
 o 98 (.build [z,z] [(0,1,94),(1,1,97)]),o 99 (.a9 99 2 [98]),o 100 (.build [.nil] [(0,1,99)]),al 17 [.nil],so 1 17 100]
def ib:=[mv 18 k1]
def je:=[m 101 18,m 102 11,bi 103 .leq 101 102]
def ov:=[m 106 16,m 107 18,m 108 11,bi 109 .mul (k 2) 108,m 110 18,ad 111 109 110,ia 112 1 106 107,so 1 112 111]
def qm:=[fa 113 13 9,q 114 [129,131] (.ld false 1 113),m 115 14,m 116 18,sb 117 116 k1,ia 118 1 115 117,
 uu 119 1 118,m 120 0,m 121 18,sb 122 121 k1,ia 123 1 120 122,uu 124 1 123,
 o 125 (.build [z,z] [(0,1,119),(1,1,124)]),m 126 18,m 127 12,o 128 (.build [z,z] [(0,1,126),(1,1,127)]),o 129 (.a9 129 2 [125,128]),
 o 130 (.build [.nil] [(0,1,129)]),o 131 (.a9 131 1 [130]),o 132 (.app 132 1 24 114 131),fa 133 13 9,so 1 133 132]
def sz:=[fa 134 17 0,q 135 [145] (.ld false 1 134),m 136 16,m 137 18,ia 138 1 136 137,uu 139 1 138,m 140 1,m 141 18,
 ia 142 1 140 141,uu 143 1 142,o 144 (.build [z,z] [(0,1,139),(1,1,143)]),o 145 (.a9 145 2 [144]),
 o 146 (.app 146 2 16 135 145),fa 147 17 0,so 1 147 146]
def W8:=[fa 148 13 10,uu 149 1 148,m 150 18,sb 151 150 k1,m 152 16,m 153 18,sb 154 153 k1,
 ia 155 1 152 154,uu 156 1 155,ia 157 1 149 151,so 1 157 156]
def js:=[m 104 18,ad 105 104 k1,m 18 105]
def aW:=[fa 158 13 9,uu 159 1 158,tt 160 1 17,o 161 (.a9 161 1 [160]),o 162 (.app 162 1 24 159 161),fa 163 13 9,
 so 1 163 162]
def uR:=[tt 164 12 13,so 12 8 164,mv 9 k0]
def l1:=(s (s (d GC [49]) (i 50 .skip (x 0))) (s (b 1 (s (d HC (rl [50] 53 10)) (e dp (ra 63 21)))) (d aj [51,52])))
def l2:=(s (s (d je [101,102]) (i 103 .skip (x 2))) (s (b 3 (s (d ov (rl [103] 106 7)) (s (e qm (ra 113 21)) (s (e sz (ra 134 14)) (e W8 (ra 148 10)))))) (d js [104,105])))
def c:=(s (d r0 [2,3,9]) (s (s (d r1 [19,20]) (i 21 (s (d r2 [0,1,6,7,21,22]) .ret) .skip)) (s (s (d r3 (rl [21] 23 4)) (s (d r4 [27]) (i 28 (s (d r5 [0,1,6,7,10,28,29,30]) .ret) .skip))) (s (d r6 [10,28,31,32]) (s (d r7 [33,34,35]) (s (e r8 (rl [6,7] 36 9)) (s (d r9 [45,46,47]) (s (s (d F2 [48]) (b 0 (w l1))) (s (d dz [15,50,84,85,86]) (s (d fm (ra 87 5)) (s (e JG (ra 92 9)) (s (s (p ib) (b 2 (w l2))) (s (d aW (rl [0,1,11,12,14,16,17,18,103] 158 6)) (s (d uR [13,164]) .ret))))))))))))))
end eN
def eN:AFn:=⟨4,eN.c,[.cell 8 true 12,.tmp 9],false⟩
namespace nD
def r0:=[bx 2 0,mv 4 (.c .nil)]
def r1:=[fa 8 2 1,uu 9 1 8,cu 10 9,bi 11 .shl k1 10,m 5 11]
def r2:=[m 12 1,ca 13 35 [12,k0],ca 14 34 [13,(k 3)]]
def r3:=[bi 16 .eql 14 k0,m 15 16]
def r4:=[mv 4 (.c .nil)]
def r5:=[bi 18 .eql 14 k1,m 17 18]
def r6:=[m 19 5,bi 20 .mul 19 (k 3),bi 21 .quo 20 (k 4),m 22 1,ca 23 35 [22,k1],o 24 (.a9 24 1 [23]),ca 25 40 [21,24,k1],
 m 4 25]
def r7:=[m 26 5,bi 27 .quo 26 (k 2),m 28 1,ca 29 35 [28,k1],o 30 (.a9 30 1 [29]),ca 31 40 [27,30,k1],ia 32 1 31 k0,
 uu 33 1 32,m 6 33]
def r8:=[m 34 5,m 35 6,ad 36 34 35,bi 37 .quo 36 (k 2),m 38 1,ca 39 35 [38,(k 2)],o 40 (.a9 40 1 [39]),
 ca 41 40 [37,40,k1],ia 42 1 41 k0,uu 43 1 42,m 7 43]
def r9:=[m 44 7,m 45 6,o 46 (.a9 46 1 [44,45]),m 4 46]
def c:=(s (d r0 [0,4]) (s (d r1 (rl [2] 8 4)) (s (s (d r2 [12,13]) (b 0 (s (d r3 [16]) (i 15 (s (d r4 [1,5,14,15]) .ret) (s (d r5 [14,15,18]) (i 17 (s (d r6 (rl [1,5,17] 19 7)) .ret) .skip)))))) (s (d r7 (rl [17] 26 8)) (s (d r8 (rl [1,5] 34 10)) (s (d r9 [6,7,44,45,46]) .ret))))))
end nD
def nD:AFn:=⟨2,nD.c,[.tmp 4],false⟩
namespace W5
def r0:=[bx 1 0,al 2 [z,z,z,z,z,z,z,z,z,.nil,.nil,z],mv 3 kf]
def r1:=[fa 11 1 1,q 12 [4,5] (.ld false 1 11),q 13 [4,5] (.call 37 [12]),fa 14 1 2,q 15 [4,5] (.ld false 1 14),
 q 16 [4,5] (.call 38 [15]),al 4 [z,z,z,z],al 5 [z,z,z,z],so 4 4 13,so 4 5 16]
def r2:=[fa 17 5 0,uu 18 1 17,sb 19 18 k1,cu 20 19,bi 21 .shl k1 20,sb 22 21 k1,
 fa 23 1 3,uu 24 1 23,fa 25 1 3,uu 26 1 25,ln 27 26,ca 28 34 [27,(k 3)],ad 29 k1 28,
 ca 30 40 [22,24,29],m 6 30]
def r3:=[tt 31 4 5,fa 32 1 4,uu 33 1 32,ca 34 347 [31,33],m 7 34]
def r4:=[al 8 [z,z,z,z,z,z,z,z,z,.nil,.nil,z]]
def r5:=[mv 9 k0]
def r6:=[fa 35 1 0,uu 36 1 35,ca 37 34 [36,(k 4)]]
def r9:=[bi 69 .eql 37 k0,m 68 69]
def F2:=[m 71 6,m 72 7,tt 73 4 4,tt 74 4 5,ca 75 50 [71,72,73,74],m 70 75,et 76 70 0,et 77 70 1,so 12 8 76,
 m 9 77]
def GC:=[bi 79 .eql 37 k1,m 78 79]
def aj:=[m 81 6,m 82 7,tt 83 4 4,tt 84 4 5,ca 85 51 [81,82,83,84],m 80 85,et 86 80 0,et 87 80 1,so 12 8 86,
 m 9 87]
def HC:=[bi 89 .eql 37 (k 2),m 88 89]
def dp:=[m 91 6,m 92 7,tt 93 4 4,tt 94 4 5,ca 95 52 [91,92,93,94],m 90 95,et 96 90 0,et 97 90 1,so 12 8 96,
 m 9 97]
def r7:=[tt 38 4 5,ca 39 41 [38],bi 40 .mul 39 (k 3),bi 41 .quo 40 (k 4),fa 42 1 4,uu 43 1 42,fa 44 1 4,
 uu 45 1 44,ln 46 45,ca 47 34 [46,(k 3)],ca 48 40 [41,43,47],m 10 48]
def r8:=[m 50 10,fa 51 5 0,uu 52 1 51,sb 53 52 k1,cu 54 53,bi 55 .shl k1 54,sb 56 55 k1,
 fa 57 1 3,uu 58 1 57,m 59 10,ln 60 59,ad 61 60 k1,ca 62 40 [56,58,61],tt 63 4 4,
 tt 64 4 5,ca 65 346 [50,62,63,64],m 49 65,et 66 49 0,et 67 49 1,so 12 8 66,m 9 67]
def dz:=[tt 98 12 8,m 99 9,bi 100 .eql 99 k0,so 12 2 98,m 3 100]
def c:=(s (d r0 [0,3]) (s (e r1 (ra 11 6)) (s (e r2 (ra 17 14)) (s (d r3 (ra 31 4)) (s (p r4) (s (d r5 [9]) (s (s (d r6 [35,36]) (b 0 (s (d r9 [69]) (i 68 (d F2 (rl [1,4,5,6,7,37,68] 70 8)) (s (d GC [68,79]) (i 78 (d aj (rl [1,4,5,6,7,37,78] 80 8)) (s (d HC [37,78,89]) (i 88 (d dp (rl [1,4,5,6,7,88] 90 8)) (s (e r7 [6,7,38,39,40,41,42,43,44,45,46,47,48,88]) (e r8 (rl [1,4,5,10] 49 19))))))))))) (s (d dz [8,9,98,99,100]) .ret))))))))
end W5
def W5:AFn:=⟨1,W5.c,[.cell 2 true 12,.tmp 3],false⟩
structure il (L:Lib):Prop extends w4 L where
 eT:L 345=some F.eT
 eN:L 346=some F.eN
 nD:L 347=some F.nD
 W5:L 348=some F.W5
end Go.c9.F

namespace Go.c9.F
open C
namespace fD
def r0:=[mv 0 kf]
def r1:=[ca 7 124 [k1],ca 8 125 [k1,(k 2)],al 1 z3,al 2 z3,so 3 1 7,
 so 3 2 8]
def r2:=[q 10 [15,3] (.ld true 3 1),o 11 (.a9 11 3 [10]),q 12 [11,3] (.ld true 3 1),q 13 [11,3] (.ld true 3 2),
 q 14 [11,3] (.call 152 [13]),o 15 (.a9 15 3 [12,14]),o 16 (.build [.nil,.nil] [(0,1,11),(1,1,15)]),
 q 17 [3] (.call 207 [16]),m 9 17,et 18 9 0,et 19 9 1,al 3 z6,so 6 3 18,
 m 4 19]
def r3:=[tt 21 6 3,ca 22 307 [21],m 20 22,et 23 20 0,et 24 20 1,al 5 z3,so 3 5 23,m 6 24]
def r4:=[m 25 4,bi 26 .eql 25 k0,m 27 26,g 28 27 true (.y7 6),g 29 27 true (.bin .eql 28 k0),pk 30 27 29 kf,m 31 30,
 g 32 31 true (.ld true 3 5),g 33 31 true (.call 124 [(k 2)]),g 34 31 true (.call 127 [32,33]),g 35 31 true (.bin .eql 34 k0),
 pk 36 31 35 kf,m 0 36]
def c:=(s (d r0 [0]) (s (d r1 [7,8]) (s (e r2 (rl [1,2] 9 11)) (s (d r3 (rl [3] 20 5)) (s (e r4 (rl [4,5,6] 25 12)) .ret)))))
end fD
def fD:AFn:=⟨0,fD.c,[.tmp 0],false⟩
structure pz (L:Lib):Prop extends v5 L where
 fD:L 318=some F.fD
end Go.c9.F

namespace Go.c9.F
open C
namespace iV
def r0:=[bx 1 0,mv 2 kf]
def r1:=[tt 3 12 1,ca 4 21 [3],m 5 4,g 6 5 true (.m4 1 8),g 7 5 true (.ld false 1 6),g 8 5 true (.bin .leq 7 (k 16)),
 pk 9 5 8 kf,m 2 9]
def c:=(s (d r0 [0,2]) (s (d r1 (rl [1] 3 7)) .ret))
end iV
def iV:AFn:=⟨1,iV.c,[.tmp 2],false⟩
namespace iN
def r0:=[bx 2 0,al 4 z3]
def r1:=[fa 9 2 4,fa 10 9 1,uu 11 1 10,bi 12 .shl k1 11,m 5 12]
def r2:=[mv 6 kt]
def r3:=[fa 13 2 9,uu 14 1 13,m 15 1,ia 16 1 14 15,fa 17 16 0,uu 18 1 17,ln 19 18,mv 20 k0]
def r4:=[ls 21 20 19]
def r5:=[ia 22 2 18 20,tt 23 2 22,al 8 [z,z],so 2 8 23]
def r6:=[fa 24 8 1,uu 25 1 24,m 26 5,bi 27 .rem 25 26,bi 28 .neq 27 k0]
def r7:=[mv 6 kf]
def r8:=[ad 29 20 k1,m 20 29]
def r9:=[m 31 6,m 30 31]
def F2:=[ca 32 96 [k0],so 3 4 32]
def GC:=[fa 34 2 0,fa 35 34 2,uu 36 1 35,bi 37 .eql 36 (k 2),m 33 37]
def aj:=[ca 38 151 [k1,(k 2)],so 3 4 38]
def HC:=[ca 39 96 [k1],so 3 4 39]
def l1:=(s (p r4) (s (i 21 .skip (x 0)) (s (b 1 (s (d r5 [21,22,23]) (s (d r6 (rl [8] 24 4)) (i 28 (d r7 [28]) .skip)))) (d r8 [28,29]))))
def c:=(s (d r0 [0]) (s (d r1 (ra 9 4)) (s (p r2) (s (s (d r3 (rl [1] 13 5)) (b 0 (w l1))) (s (b 2 (s (d r9 [5,6,18,19,20,21,31]) (i 30 (s (d F2 [2,30,32]) .ret) (s (d GC (rl [2,30] 34 4)) (i 33 (s (d aj [33,38]) .ret) .skip))))) (s (d HC [33,39]) .ret))))))
end iN
def iN:AFn:=⟨2,iN.c,[.cell 4 true 3],false⟩
namespace QN
def r0:=[bx 2 0,mv 4 (.c .nil)]
def r1:=[fa 14 2 8,uu 15 1 14,ad 16 15 k1,m 5 16]
def r2:=[m 17 5,fa 18 2 9,uu 19 1 18,ln 20 19,ad 21 17 20,o 22 (.mk 22 3 56 z3 21 21),m 6 22]
def r3:=[m 23 5,mv 24 k0]
def r4:=[ls 25 24 23]
def r5:=[m 26 24,m 7 26]
def r6:=[m 27 6,m 28 7,ca 29 96 [k0],ia 30 3 27 28,so 3 30 29]
def r7:=[ad 31 24 k1,m 24 31]
def r8:=[m 32 1,m 33 5,ls 34 32 33]
def r9:=[m 35 6,m 36 1,ca 37 96 [k1],ia 38 3 35 36,so 3 38 37]
def F2:=[fa 39 2 4,fa 40 39 1,uu 41 1 40,bi 42 .shl k1 41,ca 43 151 [k1,42],al 8 z3,
 so 3 8 43]
def GC:=[fa 44 2 9,uu 45 1 44,ln 46 45,mv 47 k0]
def aj:=[ls 48 47 46]
def HC:=[m 49 47,ia 50 1 45 47,tt 51 1 50,al 10 [.nil],m 9 49,so 1 10 51]
def dp:=[ca 52 96 [k0],al 11 z3,so 3 11 52]
def dz:=[fa 53 10 0,uu 54 1 53,ln 55 54,mv 56 k0]
def fm:=[ls 57 56 55]
def JG:=[ia 58 2 54 56,tt 59 2 58,al 13 [z,z],so 2 13 59]
def ib:=[m 60 6,fa 61 13 0,uu 62 1 61,ia 63 3 60 62,tt 64 3 63,ca 65 97 [64],bi 66 .neq 65 k0]
def je:=[tt 67 3 11,m 68 6,fa 69 13 0,uu 70 1 69,ia 71 3 68 70,tt 72 3 71,fa 73 13 1,
 uu 74 1 73,ca 75 96 [74],ca 76 99 [72,75],ca 77 98 [67,76],so 3 11 77]
def js:=[ad 78 56 k1,m 56 78]
def ov:=[m 79 6,m 80 5,m 81 9,ad 82 80 81,tt 83 3 11,tt 84 3 8,ca 85 99 [83,84],ia 86 3 79 82,so 3 86 85]
def qm:=[m 87 5,m 88 9,ad 89 87 88,m 90 1,bi 91 .eql 89 90]
def sz:=[m 92 6,m 93 1,ca 94 96 [k1],ia 95 3 92 93,so 3 95 94]
def W8:=[ad 96 47 k1,m 47 96]
def aW:=[m 97 6,m 4 97]
def l1:=(s (p r4) (s (i 25 .skip (x 0)) (s (b 1 (s (d r5 [25,26]) (d r6 (rl [7] 27 4)))) (d r7 [31]))))
def l3:=(s (p fm) (s (i 57 .skip (x 4)) (s (b 5 (s (d JG [57,58,59]) (s (d ib (ra 60 6)) (i 66 (e je (rl [13] 66 12)) .skip)))) (d js [13,66,78]))))
def l2:=(s (p aj) (s (i 48 .skip (x 2)) (s (b 3 (s (d HC (ra 48 4)) (s (d dp [52]) (s (s (d dz [10,53]) (b 4 (w l3))) (s (d ov (rl [11,54,55,56,57] 79 8)) (s (d qm (rl [9] 87 4)) (i 91 (d sz (ra 91 5)) .skip))))))) (d W8 [91,96]))))
def c:=(s (d r0 [0,4]) (s (d r1 [14,15,16]) (s (d r2 (ra 17 6)) (s (s (p r3) (b 0 (w l1))) (s (s (d r8 [23,24,25,32,33]) (i 34 (d r9 (ra 34 5)) .skip)) (s (d F2 (rl [34] 39 5)) (s (s (d GC [2,44]) (b 2 (w l2))) (s (d aW [1,5,6,8,45,46,47,48,97]) .ret))))))))
end QN
def QN:AFn:=⟨2,QN.c,[.tmp 4],false⟩
namespace iO
def r0:=[mv 4 (.c .nil)]
def r1:=[m 7 0,ln 8 7,o 9 (.mk 9 3 56 z3 8 8),m 5 9]
def r2:=[m 10 0,ln 11 10,mv 12 k0]
def r3:=[ls 13 12 11]
def r4:=[m 14 12,m 6 14]
def r5:=[m 15 5,m 16 6,m 17 0,m 18 6,ia 19 1 17 18,uu 20 1 19,m 21 1,ia 22 3 20 21,tt 23 3 22,
 ia 24 3 15 16,so 3 24 23]
def r6:=[ad 25 12 k1,m 12 25]
def r7:=[m 26 5,m 4 26]
def l1:=(s (p r3) (s (i 13 .skip (x 0)) (s (b 1 (s (d r4 [13,14]) (d r5 (rl [6] 15 10)))) (d r6 [25]))))
def c:=(s (d r0 [4]) (s (d r1 [7,8,9]) (s (s (d r2 [10]) (b 0 (w l1))) (s (d r7 [0,1,5,11,12,13,26]) .ret))))
end iO
def iO:AFn:=⟨2,iO.c,[.tmp 4],false⟩
namespace gT
def r0:=[bx 2 0,al 4 z3]
def r1:=[fa 5 2 0,tt 6 3 5,m 7 1,ca 8 96 [7],ca 9 99 [6,8],fa 10 2 3,tt 11 3 10,ca 12 98 [9,11],
 so 3 4 12]
def c:=(s (d r0 [0]) (s (e r1 (rl [1,2] 5 8)) .ret))
end gT
def gT:AFn:=⟨2,gT.c,[.cell 4 true 3],false⟩
namespace hJ
def r0:=[o 6 (.alloc 354006 [(.bool false),.nil,.nil,(.bool false),.nil,.nil])]
def r1:=[uu 18 1 1,m 19 0,ca 20 352 [18,19],m 7 20]
def r2:=[m 21 7,o 22 (.a9 354022 1 [21]),ca 23 295 [22],o 8 (.alloc 354008 z3),so 3 8 23]
def r3:=[m 24 7,tt 25 3 8,ca 26 296 [24,25],m 7 26]
def r4:=[fa 27 2 5,q 28 [354009] (.ld true 3 27),q 29 [354009] (.ld true 3 3),q 30 [354009] (.ld true 3 8),
 q 31 [354009] (.call 99 [29,30]),q 32 [354009] (.call 99 [28,31]),o 9 (.alloc 354009 z3),so 3 9 32]
def r5:=[ca 33 96 [k0],ca 34 96 [k0],o 35 (.build [(.bool false),.nil,.nil,(.bool false),.nil,.nil] [(0,3,33),(3,3,34)]),
 o 10 (.alloc 354010 [(.bool false),.nil,.nil,(.bool false),.nil,.nil]),so 6 10 35]
def r6:=[ca 36 96 [k0],ca 37 96 [k0],o 38 (.build [(.bool false),.nil,.nil,(.bool false),.nil,.nil] [(0,3,36),(3,3,37)]),
 o 11 (.alloc 354011 [(.bool false),.nil,.nil,(.bool false),.nil,.nil]),so 6 11 38]
def r7:=[uu 39 1 4,ln 40 39,mv 41 k0]
def r8:=[ls 42 41 40]
def r9:=[m 43 41,ia 44 8 39 41,tt 45 8 44,o 13 (.alloc 354013 [.nil,(.bool false),.nil,.nil,.nil,(.bool false),.nil,.nil]),m 12 43,
 so 8 13 45]
def F2:=[m 46 12,o 47 (.mm false [46,k1]),m 14 47]
def GC:=[m 48 14,m 49 14,o 50 (.ch (some 2) 3 10 49),tt 51 3 50,fa 52 13 1,tt 53 3 52,fa 54 13 0,uu 55 1 54,
 m 56 0,ia 57 3 55 56,tt 58 3 57,ca 59 256 [58],ca 60 99 [53,59],ca 61 98 [51,60],
 o 62 (.ch (some 2) 3 10 48),so 3 62 61]
def aj:=[m 63 14,m 64 14,o 65 (.ch (some 2) 3 11 64),tt 66 3 65,fa 67 13 1,tt 68 3 67,tt 69 8 2,m 70 7,fa 71 13 4,
 tt 72 4 71,ca 73 305 [69,70,72],ca 74 99 [68,73],ca 75 98 [66,74],o 76 (.ch (some 2) 3 11 63),so 3 76 75]
def HC:=[ad 77 41 k1,m 41 77]
def dp:=[mv 78 k0]
def dz:=[ls 79 78 (k 2)]
def fm:=[m 80 78,m 15 80]
def JG:=[m 82 15,o 83 (.ch (some 2) 3 11 82),q 84 [354016] (.ld true 3 83),q 85 [354016] (.ld true 3 9),
 q 86 [354016] (.call 100 [84,85]),m 81 86,et 87 81 0,et 88 81 1,o 16 (.alloc 354016 z3),so 3 16 87,
 m 17 88]
def ib:=[m 89 15,m 90 15,o 91 (.ch (some 2) 3 10 90),tt 92 3 91,tt 93 3 16,ca 94 98 [92,93],o 95 (.ch (some 2) 3 10 89),
 so 3 95 94]
def je:=[ad 96 78 k1,m 78 96]
def js:=[o 97 (.ch (some 2) 3 10 k0),tt 98 3 97,o 99 (.ch (some 2) 3 10 k1),tt 100 3 99,
 o 101 (.build [(.bool false),.nil,.nil,(.bool false),.nil,.nil] [(0,3,98),(3,3,100)]),so 6 6 101]
def l1:=(s (p r8) (s (i 42 .skip (x 0)) (s (b 1 (s (d r9 (ra 42 4)) (s (d F2 [12,46,47]) (s (e GC (ra 48 15)) (e aj (rl [13,14] 63 14)))))) (d HC [77]))))
def l2:=(s (p dz) (s (i 79 .skip (x 2)) (s (b 3 (s (d fm [79,80]) (s (e JG (rl [17] 81 8)) (e ib (rl [15,16] 89 7))))) (d je [96]))))
def c:=(s (p r0) (s (d r1 [1,18,19,20]) (s (d r2 [21,22,23]) (s (d r3 [24,25,26]) (s (e r4 (rl [3,8] 27 6)) (s (d r5 [33,34,35]) (s (d r6 [36,37,38]) (s (s (d r7 [4]) (b 0 (w l1))) (s (s (d dp (rl [0,2,7] 39 4)) (b 2 (w l2))) (s (d js (rl [9,10,11,78,79] 97 5)) .ret))))))))))
end hJ
def hJ:AFn:=⟨5,hJ.c,[.cell 6 true 6],false⟩
namespace iJ
def r0:=[o 3 (.box 355003 0),o 4 (.box 355004 1),o 6 (.alloc 355006 z3)]
def r1:=[m 14 2,ln 15 14,o 16 (.mk 355016 1 24 [.nil] 15 15),m 7 16]
def r2:=[m 17 2,ln 18 17,mv 19 k0]
def r3:=[ls 20 19 18]
def r4:=[m 21 19,ia 22 8 17 19,tt 23 8 22,o 9 (.alloc 355009 [.nil,(.bool false),.nil,.nil,.nil,(.bool false),.nil,.nil]),m 8 21,
 so 8 9 23]
def r5:=[fa 24 4 10,uu 25 1 24,ln 26 25,mv 27 k0]
def r6:=[ls 28 27 26]
def r7:=[ia 29 1 25 27,uu 30 1 29,m 11 30]
def r8:=[m 31 7,m 32 8,m 33 7,m 34 8,ia 35 1 33 34,q 36 [355042] (.ld false 1 35),fa 37 9 0,uu 38 1 37,m 39 11,
 ia 40 3 38 39,tt 41 3 40,o 42 (.a9 355042 3 [41]),o 43 (.app 355043 3 56 36 42),ia 44 1 31 32,so 1 44 43]
def r9:=[ad 45 27 k1,m 27 45]
def F2:=[ad 46 19 k1,m 19 46]
def GC:=[m 47 7,ca 48 295 [47],o 12 (.alloc 355012 z3),so 3 12 48]
def aj:=[m 49 2,ln 50 49,mv 51 k0]
def HC:=[ls 52 51 50]
def dp:=[m 53 51,m 13 53]
def dz:=[m 54 2,m 55 13,tt 56 8 3,m 57 7,m 58 13,ia 59 1 57 58,uu 60 1 59,tt 61 3 12,ca 62 296 [60,61],
 o 63 (.v7 304 [56,62]),ia 64 8 54 55,fa 65 64 4,so 4 65 63]
def fm:=[ad 66 51 k1,m 51 66]
def JG:=[tt 67 3 12,so 3 6 67]
def l2:=(s (p r6) (s (i 28 .skip (x 2)) (s (b 3 (s (d r7 [28,29,30]) (e r8 (rl [11] 31 14)))) (d r9 [45]))))
def l1:=(s (p r3) (s (i 20 .skip (x 0)) (s (b 1 (s (d r4 (ra 20 4)) (s (d r5 [24]) (b 2 (w l2))))) (d F2 [8,9,25,26,27,28,46]))))
def l3:=(s (p HC) (s (i 52 .skip (x 4)) (s (b 5 (s (d dp [52,53]) (e dz (rl [13] 54 12)))) (d fm [66]))))
def c:=(s (d r0 [0,1]) (s (d r1 [14,15,16]) (s (s (p r2) (b 0 (w l1))) (s (d GC [4,17,18,19,20,47,48]) (s (s (d aj [49]) (b 4 (w l3))) (s (d JG [2,3,7,12,50,51,52,67]) .ret))))))
end iJ
def iJ:AFn:=⟨3,iJ.c,[.cell 6 true 3],false⟩
namespace gV
def r0:=[o 1 (.box 356001 0),mv 2 (.c (.gx .nilFunc)),mv 3 k0]
def r1:=[fa 15 1 8,uu 16 1 15,o 17 (.mk 356017 1 24 [.nil] 16 16),o 4 (.alloc 356004 [.nil]),so 1 4 17]
def r2:=[uu 18 1 4,ln 19 18,mv 20 k0]
def r3:=[ls 21 20 19]
def r4:=[m 22 20,m 5 22]
def r5:=[q 23 [356028] (.ld false 1 4),m 24 5,tt 25 12 1,m 26 5,ad 27 k1 26,o 28 (.ay 356028 351 [25,27]),
 ia 29 1 23 24,so 1 29 28]
def r6:=[ad 30 20 k1,m 20 30]
def r7:=[o 6 (.gj 356006 1)]
def r8:=[fa 31 1 10,uu 32 1 31,ln 33 32,mv 34 k0]
def r9:=[ls 35 34 33]
def F2:=[ia 36 1 32 34,uu 37 1 36,m 8 37]
def GC:=[m 38 6,uu 39 1 4,m 40 8,ca 41 352 [39,40],o 42 (.a9 356042 1 [41]),o 43 (.app 356043 1 24 38 42),m 6 43]
def aj:=[ad 44 34 k1,m 34 44]
def HC:=[m 46 6,ca 47 303 [46],m 45 47,et 48 45 0,et 49 45 1,o 9 (.alloc 356009 [.nil,(.bool false),.nil,.nil,z,(.bool false),.nil,.nil]),
 so 8 9 48,m 10 49]
def dp:=[m 50 10,bi 51 .neq 50 k0]
def dz:=[m 52 10,mv 2 (.c (.gx .nilFunc)),m 3 52]
def fm:=[tt 53 12 1,ca 54 351 [53,k0],ca 55 96 [k1],
 o 56 (.build [.nil,(.bool false),.nil,.nil,.nil,(.bool false),.nil,.nil] [(0,1,54),(1,3,55)]),o 57 (.a9 356057 8 [56]),
 o 11 (.alloc 356011 [.nil]),so 1 11 57]
def JG:=[fa 58 1 9,uu 59 1 58,ln 60 59,mv 61 k0]
def ib:=[ls 62 61 60]
def je:=[m 63 61,m 12 63]
def js:=[tt 64 12 1,m 65 12,ca 66 350 [64,65],o 13 (.alloc 356013 z3),so 3 13 66]
def ov:=[tt 67 3 13,ca 68 97 [67],bi 69 .gtr 68 k0]
def qm:=[q 70 [356080] (.ld false 1 11),tt 71 12 1,fa 72 1 8,uu 73 1 72,ad 74 k1 73,m 75 12,
 ad 76 74 75,ca 77 351 [71,76],tt 78 3 13,
 o 79 (.build [.nil,(.bool false),.nil,.nil,.nil,(.bool false),.nil,.nil] [(0,1,77),(1,3,78)]),o 80 (.a9 356080 8 [79]),
 o 81 (.app 356081 8 160 70 80),so 1 11 81]
def sz:=[ad 82 61 k1,m 61 82]
def W8:=[tt 83 8 9,tt 84 12 1,uu 85 1 11,o 86 (.j6 355 [83,84,85]),o 14 (.alloc 356014 z3),
 so 3 14 86]
def aW:=[o 87 (.zh false 354 [4,9,14,11]),m 2 87,mv 3 k0]
def l1:=(s (p r3) (s (i 21 .skip (x 0)) (s (b 1 (s (d r4 [21,22]) (e r5 (rl [5] 23 7)))) (d r6 [30]))))
def l2:=(s (p r9) (s (i 35 .skip (x 2)) (s (b 3 (s (d F2 [35,36,37]) (d GC (rl [8] 38 6)))) (d aj [44]))))
def l3:=(s (p ib) (s (i 62 .skip (x 4)) (s (b 5 (s (d je [62,63]) (s (d js [64,65,66]) (s (d ov [67,68]) (i 69 (e qm (rl [12,13] 69 13)) .skip))))) (d sz [12,13,69,82]))))
def c:=(s (d r0 [0,2,3]) (s (d r1 [15,16,17]) (s (s (d r2 [18]) (b 0 (w l1))) (s (d r7 [19,20,21]) (s (s (d r8 [31]) (b 2 (w l2))) (s (d HC (rl [6,32,33,34,35] 45 5)) (s (s (d dp [50]) (i 51 (s (d dz [1,4,9,10,51,52]) .ret) .skip)) (s (d fm (rl [10,51] 53 5)) (s (s (d JG [58,59]) (b 4 (w l3))) (s (d W8 (rl [1,60,61,62] 83 4)) (s (d aW [4,9,11,14,87]) .ret)))))))))))
end gV
def gV:AFn:=⟨1,gV.c,[.tmp 2,.tmp 3],false⟩
namespace aU
def r0:=[bx 2 0,mv 4 kf,mv 5 k0]
def r1:=[tt 10 12 2,ca 11 349 [10],nt 12 11]
def r2:=[mv 4 kf,mv 5 (k 2)]
def r3:=[fa 13 2 0,tt 14 4 13,ca 15 4 [14],m 6 15]
def r4:=[m 16 1,ls 17 16 k0,m 18 17,g 19 18 false (.y7 1),g 20 18 false (.y7 6),g 21 18 false (.bin .gtr 19 20),
 pk 22 18 kt 21]
def r5:=[mv 4 kf,mv 5 k1]
def r6:=[tt 24 12 2,o 25 (.j6 356 [24]),m 23 25,et 26 23 0,et 27 23 1,m 7 26,m 8 27]
def r7:=[m 28 8,bi 29 .neq 28 k0]
def r8:=[m 30 8,mv 4 kf,m 5 30]
def r9:=[fa 31 2 9,uu 32 1 31,ln 33 32,mv 34 k0]
def F2:=[ls 35 34 33]
def GC:=[m 36 34,m 9 36]
def aj:=[m 37 7,fa 38 2 8,uu 39 1 38,ad 40 k1 39,m 41 9,ad 42 40 41,o 43 (.w5 37 [42]),m 44 1,
 ca 45 353 [43,44],m 46 6,ca 47 96 [46],ca 48 198 [45,47],bi 49 .gtr 48 k0]
def HC:=[mv 4 kf,mv 5 k0]
def dp:=[ad 50 34 k1,m 34 50]
def dz:=[mv 4 kt,mv 5 k0]
def l1:=(s (p F2) (s (i 35 .skip (x 0)) (s (b 1 (s (d GC [35,36]) (s (d aj (rl [9] 37 12)) (i 49 (s (d HC [1,2,6,7,33,34,49]) .ret) .skip)))) (d dp [49,50]))))
def c:=(s (d r0 [0,4,5]) (s (s (d r1 [10,11]) (i 12 (s (d r2 [1,2,12]) .ret) .skip)) (s (d r3 (ra 12 4)) (s (s (d r4 (ra 16 6)) (i 22 (s (d r5 [1,2,6,22]) .ret) .skip)) (s (d r6 (ra 22 6)) (s (s (d r7 [28]) (i 29 (s (d r8 [1,2,6,7,8,29,30]) .ret) .skip)) (s (s (d r9 [8,29,31,32]) (b 0 (w l1))) (s (d dz [1,2,6,7,33,34,35]) .ret))))))))
end aU
def aU:AFn:=⟨2,aU.c,[.tmp 4,.tmp 5],false⟩
namespace gO
def r0:=[bx 1 0,mv 2 k0,mv 3 k0]
def r1:=[tt 12 12 1,ca 13 349 [12],nt 14 13]
def r2:=[mv 2 k0,mv 3 (k 2)]
def r3:=[tt 16 12 1,o 17 (.j6 356 [16]),m 15 17,et 18 15 0,et 19 15 1,m 4 18,m 5 19]
def r4:=[m 20 5,bi 21 .neq 20 k0]
def r5:=[m 22 5,mv 2 k0,m 3 22]
def r6:=[fa 23 1 0,tt 24 4 23,ca 25 4 [24],ca 26 96 [25],al 6 z3,so 3 6 26]
def r7:=[fa 27 1 0,tt 28 4 27,ca 29 4 [28],m 7 29]
def r8:=[fa 30 1 9,uu 31 1 30,ln 32 31,mv 33 k0]
def r9:=[ls 34 33 32]
def F2:=[m 35 33,m 8 35]
def GC:=[m 36 4,fa 37 1 8,uu 38 1 37,ad 39 k1 38,m 40 8,ad 41 39 40,o 42 (.w5 36 [41]),
 al 9 [(.bool false),.nil,.nil,(.bool false),.nil,.nil],so 6 9 42]
def aj:=[fa 43 9 3,tt 44 3 43,tt 45 3 6,ca 46 198 [44,45],bi 47 .gtr 46 k0]
def HC:=[mv 2 k0,mv 3 (k 18)]
def dp:=[mv 10 k0]
def dz:=[m 48 10,m 49 7,ls 50 48 49]
def fm:=[m 51 10,m 52 7,ad 53 51 52,ad 54 53 k1,bi 55 .quo 54 (k 2),m 11 55]
def JG:=[tt 56 6 9,m 57 11,ca 58 353 [56,57],tt 59 3 6,ca 60 198 [58,59],bi 61 .gtr 60 k0]
def ib:=[m 62 11,sb 63 62 k1,m 7 63]
def je:=[m 64 11,m 10 64]
def js:=[ad 65 33 k1,m 33 65]
def ov:=[m 66 7,m 2 66,mv 3 k0]
def l2:=(s (s (d dz [48,49]) (i 50 .skip (x 2))) (b 3 (s (d fm (ra 50 6)) (s (e JG (ra 56 5)) (i 61 (d ib [11,61,62,63]) (d je [11,61,64]))))))
def l1:=(s (p r9) (s (i 34 .skip (x 0)) (s (b 1 (s (d F2 [34,35]) (s (d GC (rl [8] 36 7)) (s (s (d aj (ra 43 4)) (i 47 (s (d HC [1,4,6,7,9,32,33,47]) .ret) .skip)) (s (d dp [47]) (b 2 (w l2))))))) (d js [9,10,50,65]))))
def c:=(s (d r0 [0,2,3]) (s (s (d r1 [12,13]) (i 14 (s (d r2 [1,14]) .ret) .skip)) (s (d r3 (ra 14 6)) (s (s (d r4 [20]) (i 21 (s (d r5 [1,4,5,21,22]) .ret) .skip)) (s (d r6 (rl [5,21] 23 4)) (s (d r7 [27,28,29]) (s (s (d r8 [30,31]) (b 0 (w l1))) (s (d ov [1,4,6,7,32,33,34,66]) .ret))))))))
end gO
def gO:AFn:=⟨1,gO.c,[.tmp 2,.tmp 3],false⟩
structure s8 (L:Lib):Prop extends v5 L where
 iV:L 349=some F.iV
 iN:L 350=some F.iN
 QN:L 351=some F.QN
 iO:L 352=some F.iO
 gT:L 353=some F.gT
 hJ:L 354=some F.hJ
 iJ:L 355=some F.iJ
 gV:L 356=some F.gV
 aU:L 357=some F.aU
 gO:L 358=some F.gO
end Go.c9.F

namespace Go.c9.F
open C
namespace Y3
def r0:=[bx 3 0,al 6 z3,mv 7 k0]
def r1:=[tt 10 12 3,ca 11 349 [10],nt 12 11]
def r2:=[o 13 (.build z3 []),so 3 6 13,mv 7 (k 2)]
def r3:=[m 14 1,ls 15 14 k0,m 16 15,g 17 16 false (.y7 1),g 18 16 false (.m4 3 8),g 19 16 false (.ld false 1 18),g 20 16 false (.m4 3 9),
 g 21 16 false (.ld false 1 20),g 22 16 false (.len 21),g 23 16 false (.bin .add 19 22),g 24 16 false (.bin .gtr 17 23),
 pk 25 16 kt 24,m 26 25,g 27 26 false (.y7 2),g 28 26 false (.bin .lss 27 k0),pk 29 26 kt 28,m 30 29,
 g 31 30 false (.y7 2),g 32 30 false (.m4 3 0),g 33 30 false (.ld true 4 32),g 34 30 false (.call 4 [33]),g 35 30 false (.bin .gtr 31 34),
 pk 36 30 kt 35]
def r4:=[o 37 (.build z3 []),so 3 6 37,mv 7 k1]
def r5:=[tt 39 12 3,o 40 (.j6 356 [39]),m 38 40,et 41 38 0,et 42 38 1,m 8 41,m 9 42]
def r6:=[m 43 9,bi 44 .neq 43 k0]
def r7:=[o 45 (.build z3 []),m 46 9,so 3 6 45,m 7 46]
def r8:=[m 47 8,m 48 1,o 49 (.w5 47 [48]),m 50 2,ca 51 353 [49,50],so 3 6 51,mv 7 k0]
def c:=(s (d r0 [0,7]) (s (s (d r1 [10,11]) (i 12 (s (d r2 [1,2,3,12,13]) .ret) .skip)) (s (s (d r3 (rl [12] 14 22)) (i 36 (s (d r4 [1,2,3,36,37]) .ret) .skip)) (s (d r5 (rl [3,36] 38 5)) (s (s (d r6 [43]) (i 44 (s (d r7 [1,2,8,9,44,45,46]) .ret) .skip)) (s (d r8 (rl [1,2,8,9,44] 47 5)) .ret))))))
end Y3
def Y3:AFn:=⟨3,Y3.c,[.cell 6 true 3,.tmp 7],false⟩
structure uf (L:Lib):Prop extends s8 L where
 Y3:L 360=some F.Y3
end Go.c9.F

namespace Go.c9.F
open C
namespace bF
def r0:=[bx 1 0,mv 2 k0,mv 3 kf]
def r1:=[tt 7 3 1,ca 8 124 [(k 1099511627776)],ca 9 127 [7,8],bi 10 .gtr 9 k0,m 11 10,g 12 11 false (.ld true 3 1),
 g 13 11 false (.call 124 [(k (-1099511627776))]),g 14 11 false (.call 127 [12,13]),g 15 11 false (.bin .lss 14 k0),pk 16 11 kt 15]
def r2:=[mv 2 k0,mv 3 kf]
def r3:=[mv 4 (k (-1099511627776)),mv 5 (k 1099511627776)]
def r4:=[m 17 4,m 18 5,ls 19 17 18]
def r5:=[m 20 4,m 21 5,m 22 4,sb 23 21 22,ad 24 23 k1,bi 25 .quo 24 (k 2),ad 26 20 25,m 6 26]
def r6:=[m 27 6,ca 28 124 [27],tt 29 3 1,ca 30 127 [28,29],bi 31 .leq 30 k0]
def r7:=[m 32 6,m 4 32]
def r8:=[m 33 6,sb 34 33 k1,m 5 34]
def r9:=[m 35 4,m 2 35,mv 3 kt]
def l1:=(s (s (d r4 [17,18]) (i 19 .skip (x 0))) (b 1 (s (d r5 (ra 19 8)) (s (e r6 (ra 27 4)) (i 31 (d r7 [6,31,32]) (d r8 [6,31,33,34]))))))
def c:=(s (d r0 [0,2,3]) (s (s (e r1 (ra 7 9)) (i 16 (s (d r2 [1,16]) .ret) .skip)) (s (d r3 [16]) (s (b 0 (w l1)) (s (d r9 [1,4,5,19,35]) .ret)))))
end bF
def bF:AFn:=⟨1,bF.c,[.tmp 2,.tmp 3],false⟩
structure ma (L:Lib):Prop extends a8 L where
 bF:L 361=some F.bF
end Go.c9.F

namespace Go.c9.F
open C
namespace bG
def r0:=[bx 2 0,al 4 z3,mv 5 k0]
def r1:=[tt 8 12 2,ca 9 27 [8],nt 10 9]
def r2:=[o 11 (.build z3 []),so 3 4 11,mv 5 (k 2)]
def r3:=[m 12 1,fa 13 2 9,uu 14 1 13,ln 15 14,sb 16 15 k1,ca 17 10 [12,k0,16],nt 18 17]
def r4:=[o 19 (.build z3 []),so 3 4 19,mv 5 k1]
def r5:=[mv 6 kt]
def r6:=[mv 7 k0]
def r7:=[m 20 7,fa 21 2 9,uu 22 1 21,m 23 1,ia 24 1 22 23,fa 25 24 0,uu 26 1 25,ln 27 26,
 ls 28 20 27]
def r9:=[m 31 6,m 32 31,g 33 32 true (.m4 2 9),g 34 32 true (.ld false 1 33),g 35 32 true (.y7 1),g 36 32 true (.ch none 1 34 35),g 37 32 true (.m4 36 0),
 g 38 32 true (.ld false 1 37),g 39 32 true (.y7 7),g 40 32 true (.ch none 2 38 39),g 41 32 true (.m4 40 1),g 42 32 true (.ld false 1 41),
 g 43 32 true (.m4 2 4),g 44 32 true (.m4 43 1),g 45 32 true (.ld false 1 44),g 46 32 true (.conv .u64 45),g 47 32 true (.bin .shl k1 46),
 g 48 32 true (.bin .rem 42 47),g 49 32 true (.bin .eql 48 k0),pk 50 32 49 kf,m 6 50]
def r8:=[m 29 7,ad 30 29 k1,m 7 30]
def F2:=[m 52 6,m 51 52]
def GC:=[ca 53 124 [k0],so 3 4 53,mv 5 k0]
def aj:=[fa 55 2 0,fa 56 55 2,uu 57 1 56,bi 58 .eql 57 (k 2),m 54 58]
def HC:=[ca 59 125 [k1,(k 2)],so 3 4 59,mv 5 k0]
def dp:=[ca 60 124 [k1],so 3 4 60,mv 5 k0]
def l1:=(s (s (d r7 (ra 20 8)) (i 28 .skip (x 0))) (s (b 1 (e r9 (rl [28] 31 20))) (d r8 [29,30])))
def c:=(s (d r0 [0,5]) (s (s (d r1 [8,9]) (i 10 (s (d r2 [1,2,10,11]) .ret) .skip)) (s (s (d r3 (rl [10] 12 6)) (i 18 (s (d r4 [1,2,18,19]) .ret) .skip)) (s (d r5 [18]) (s (s (p r6) (b 0 (w l1))) (s (b 2 (s (d F2 [1,6,7,28,52]) (i 51 (s (d GC [2,51,53]) .ret) (s (d aj (rl [2,51] 55 4)) (i 54 (s (d HC [54,59]) .ret) .skip))))) (s (d dp [54,60]) .ret)))))))
end bG
def bG:AFn:=⟨2,bG.c,[.cell 4 true 3,.tmp 5],false⟩
namespace mE
def r0:=[bx 1 0,mv 2 kf]
def r1:=[tt 3 12 1,ca 4 27 [3],m 5 4,g 6 5 true (.m4 1 8),g 7 5 true (.ld false 1 6),g 8 5 true (.bin .leq 7 (k 16)),
 pk 9 5 8 kf,m 2 9]
def c:=(s (d r0 [0,2]) (s (d r1 (rl [1] 3 7)) .ret))
end mE
def mE:AFn:=⟨1,mE.c,[.tmp 2],false⟩
namespace bH
def r0:=[bx 3 0,al 6 z3,mv 7 k0]
def r1:=[m 20 1,fa 21 3 11,so 1 21 20]
def r2:=[tt 23 12 3,ca 24 165 [23],m 22 24,et 25 22 0,et 26 22 1,al 8 z6,
 so 6 8 25,m 9 26]
def r3:=[tt 28 6 8,ca 29 315 [28],m 27 29,et 30 27 0,et 31 27 1,al 10 z3,so 3 10 30,m 11 31]
def r4:=[m 32 11,bi 33 .neq 32 k0]
def r5:=[o 34 (.build z3 []),m 35 11,so 3 6 34,m 7 35]
def r6:=[m 36 2,q 37 [12] (.call 124 [36]),q 38 [12] (.ld true 3 10),q 39 [12] (.call 128 [37,38]),
 al 12 z3,so 3 12 39]
def r7:=[mv 13 k0]
def r8:=[m 40 13,fa 41 3 9,uu 42 1 41,ln 43 42,ls 44 40 43]
def F2:=[tt 48 12 3,m 49 13,ca 50 362 [48,49],m 47 50,et 51 47 0,et 52 47 1,al 14 z3,
 so 3 14 51,m 15 52]
def GC:=[tt 54 12 3,m 55 13,ca 56 166 [54,55],m 53 56,et 57 53 0,et 58 53 1,
 al 16 z6,so 6 16 57,m 17 58]
def aj:=[tt 60 6 16,ca 61 315 [60],m 59 61,et 62 59 0,et 63 59 1,al 18 z3,so 3 18 62,
 m 19 63]
def HC:=[m 64 19,bi 65 .neq 64 k0]
def dp:=[o 66 (.build z3 []),m 67 19,so 3 6 66,m 7 67]
def dz:=[tt 68 3 12,tt 69 3 14,tt 70 3 18,ca 71 128 [69,70],ca 72 126 [68,71],so 3 12 72]
def r9:=[m 45 13,ad 46 45 k1,m 13 46]
def fm:=[tt 73 3 12,so 3 6 73,mv 7 k0]
def l1:=(s (s (d r8 (ra 40 4)) (i 44 .skip (x 0))) (s (b 1 (s (d F2 (rl [15,44] 47 6)) (s (d GC (rl [17] 53 6)) (s (d aj (rl [16] 59 5)) (s (s (d HC [64]) (i 65 (s (d dp [3,12,13,14,18,19,65,66,67]) .ret) .skip)) (e dz (rl [14,18,19,65] 68 5))))))) (d r9 [45,46])))
def c:=(s (d r0 [0,7]) (s (d r1 [1,20,21]) (s (d r2 (rl [9] 22 5)) (s (d r3 (rl [8] 27 5)) (s (s (d r4 [32]) (i 33 (s (d r5 [2,3,10,11,33,34,35]) .ret) .skip)) (s (e r6 (rl [2,10,11,33] 36 4)) (s (s (p r7) (b 0 (w l1))) (s (d fm [3,12,13,44,73]) .ret))))))))
end bH
def bH:AFn:=⟨3,bH.c,[.cell 6 true 3,.tmp 7],false⟩
namespace ZG
def r0:=[bx 2 0,mv 4 kf,mv 5 k0]
def r1:=[tt 14 12 2,ca 15 363 [14],nt 16 15,m 13 16]
def r2:=[mv 4 kf,mv 5 (k 2)]
def r3:=[m 18 1,fa 19 2 0,tt 20 4 19,ca 21 13 [20],ca 22 10 [18,k0,21],nt 23 22,m 17 23]
def r4:=[mv 4 kf,mv 5 k1]
def r5:=[tt 25 12 2,ca 26 165 [25],m 24 26,et 27 24 0,et 28 24 1,al 6 z6,
 so 6 6 27,m 7 28]
def r6:=[fa 30 6 0,uu 31 1 30,ca 32 314 [31],m 29 32,et 33 29 0,et 34 29 1,m 8 33,m 9 34]
def r7:=[m 35 9,bi 36 .neq 35 k0]
def r8:=[m 37 9,mv 4 kf,m 5 37]
def r9:=[mv 10 k0]
def F2:=[m 38 10,fa 39 2 9,uu 40 1 39,ln 41 40,ls 42 38 41]
def aj:=[tt 46 12 2,fa 47 2 8,uu 48 1 47,ad 49 k1 48,m 50 10,ad 51 49 50,m 52 1,
 ca 53 364 [46,51,52],m 45 53,et 54 45 0,et 55 45 1,al 11 z3,so 3 11 54,m 12 55]
def HC:=[m 56 12,bi 57 .neq 56 k0]
def dp:=[m 58 12,mv 4 kf,m 5 58]
def dz:=[tt 59 3 11,fa 60 2 0,tt 61 4 60,ca 62 13 [61],ca 63 124 [62],ca 64 127 [59,63],bi 65 .gtr 64 k0]
def fm:=[mv 4 kf,mv 5 k0]
def GC:=[m 43 10,ad 44 43 k1,m 10 44]
def JG:=[mv 4 kt,mv 5 k0]
def l1:=(s (s (d F2 (ra 38 4)) (i 42 .skip (x 1))) (s (b 2 (s (d aj (rl [42] 45 11)) (s (s (d HC [56]) (i 57 (s (d dp [1,2,10,11,12,57,58]) .ret) .skip)) (s (e dz (rl [11,12,57] 59 6)) (i 65 (s (d fm [1,2,10,65]) .ret) .skip))))) (d GC [43,44,65])))
def c:=(s (d r0 [0,4,5]) (s (b 0 (s (d r1 [14,15,16]) (i 13 (s (d r2 [1,2,13]) .ret) (s (d r3 (rl [13] 18 6)) (i 17 (s (d r4 [1,2,17]) .ret) .skip))))) (s (d r5 (rl [7,17] 24 5)) (s (s (d r6 (rl [6,8] 29 6)) (s (d r7 [35]) (i 36 (s (d r8 [1,2,9,36,37]) .ret) .skip))) (s (s (d r9 [9,36]) (b 1 (w l1))) (s (d JG [1,2,10,42]) .ret))))))
end ZG
def ZG:AFn:=⟨2,ZG.c,[.tmp 4,.tmp 5],false⟩
namespace ZF
def r0:=[bx 1 0,mv 2 k0,mv 3 k0]
def r1:=[tt 18 12 1,ca 19 365 [18,k0],m 17 19,et 20 17 0,et 21 17 1,m 4 20,m 5 21]
def r2:=[m 22 5,bi 23 .neq 22 k0]
def r3:=[m 24 5,mv 2 k0,m 3 24]
def r4:=[m 25 4,nt 26 25]
def r5:=[mv 2 k0,mv 3 (k 18)]
def r6:=[fa 27 1 0,tt 28 4 27,ca 29 13 [28],m 6 29]
def r7:=[mv 7 k0]
def r8:=[m 30 7,fa 31 1 9,uu 32 1 31,ln 33 32,ls 34 30 33]
def F2:=[tt 38 12 1,fa 39 1 8,uu 40 1 39,ad 41 k1 40,m 42 7,ad 43 41 42,ca 44 364 [38,43,k0],
 m 37 44,et 45 37 0,et 46 37 1,al 8 z3,so 3 8 45,m 9 46]
def GC:=[tt 48 12 1,fa 49 1 8,uu 50 1 49,ad 51 k1 50,m 52 7,ad 53 51 52,ca 54 364 [48,53,k1],
 m 47 54,et 55 47 0,et 56 47 1,al 10 z3,so 3 10 55,m 11 56]
def aj:=[tt 57 3 10,tt 58 3 8,ca 59 153 [57,58],al 12 z3,so 3 12 59]
def HC:=[tt 60 3 12,ca 61 155 [60],bi 62 .gtr 61 k0]
def dp:=[fa 64 1 0,q 65 [13] (.ld true 4 64),q 66 [13] (.call 13 [65]),q 67 [13] (.call 124 [66]),
 q 68 [13] (.ld true 3 8),q 69 [13] (.call 153 [67,68]),q 70 [13] (.ld true 3 12),
 q 71 [13] (.call 154 [69,70]),m 63 71,et 72 63 0,et 73 63 1,al 13 z3,so 3 13 72,m 14 73]
def dz:=[tt 75 3 13,ca 76 361 [75],m 74 76,et 77 74 0,et 78 74 1,m 15 77,m 16 78]
def fm:=[m 79 16]
def JG:=[m 80 6,m 81 15,o 82 (.mm false [80,81]),m 6 82]
def r9:=[m 35 7,ad 36 35 k1,m 7 36]
def ib:=[m 83 6,m 2 83,mv 3 k0]
def l1:=(s (s (d r8 (ra 30 4)) (i 34 .skip (x 0))) (s (b 1 (s (d F2 (rl [9,34] 37 10)) (s (d GC (rl [11] 47 10)) (s (d aj [10,57,58,59]) (s (d HC [60,61]) (i 62 (s (e dp (rl [8,12,14] 62 12)) (s (d dz (rl [13] 74 5)) (s (d fm [16]) (i 79 (d JG (rl [15] 79 4)) .skip)))) .skip)))))) (d r9 [8,12,15,35,36,62,79])))
def c:=(s (d r0 [0,2,3]) (s (d r1 (ra 17 5)) (s (s (d r2 [22]) (i 23 (s (d r3 [1,4,5,23,24]) .ret) .skip)) (s (s (d r4 [4,5,23,25]) (i 26 (s (d r5 [1,26]) .ret) .skip)) (s (d r6 (ra 26 4)) (s (s (p r7) (b 0 (w l1))) (s (d ib [1,6,7,34,83]) .ret)))))))
end ZF
def ZF:AFn:=⟨1,ZF.c,[.tmp 2,.tmp 3],false⟩
structure z7 (L:Lib):Prop extends fh L,eo L,ma L where
 bG:L 362=some F.bG
 mE:L 363=some F.mE
 bH:L 364=some F.bH
 ZG:L 365=some F.ZG
 ZF:L 366=some F.ZF
end Go.c9.F

namespace Go.c9.F
open C
namespace aS
def r0:=[bx 2 0,al 4 z3,mv 5 k0]
def r1:=[tt 6 12 2,ca 7 21 [6],nt 8 7]
def r2:=[o 9 (.build z3 []),so 3 4 9,mv 5 (k 2)]
def r3:=[m 10 1,ls 11 10 k0,m 12 11,g 13 12 false (.y7 1),g 14 12 false (.m4 2 9),g 15 12 false (.ld false 1 14),g 16 12 false (.len 15),
 g 17 12 false (.bin .geq 13 16),pk 18 12 kt 17]
def r4:=[o 19 (.build z3 []),so 3 4 19,mv 5 k1]
def r5:=[tt 20 12 2,m 21 1,ca 22 350 [20,21],so 3 4 22,mv 5 k0]
def c:=(s (d r0 [0,5]) (s (s (d r1 [6,7]) (i 8 (s (d r2 [1,2,8,9]) .ret) .skip)) (s (s (d r3 (rl [8] 10 8)) (i 18 (s (d r4 [1,2,18,19]) .ret) .skip)) (s (d r5 [1,2,18,20,21,22]) .ret))))
end aS
def aS:AFn:=⟨2,aS.c,[.cell 4 true 3,.tmp 5],false⟩
namespace XB
def r0:=[bx 3 0,al 6 z3,mv 7 k0]
def r1:=[tt 9 12 3,ca 10 363 [9],nt 11 10,m 8 11]
def r2:=[o 12 (.build z3 []),so 3 6 12,mv 7 (k 2)]
def r3:=[m 14 1,fa 15 3 8,uu 16 1 15,fa 17 3 9,uu 18 1 17,ln 19 18,ad 20 16 19,
 ca 21 10 [14,k0,20],nt 22 21,m 23 22,g 24 23 false (.y7 2),g 25 23 false (.m4 3 0),g 26 23 false (.ld true 4 25),
 g 27 23 false (.call 13 [26]),g 28 23 false (.call 10 [24,k0,27]),g 29 23 false (.un .not 28),pk 30 23 kt 29,m 13 30]
def r4:=[o 31 (.build z3 []),so 3 6 31,mv 7 k1]
def r5:=[tt 32 12 3,m 33 1,m 34 2,ca 35 364 [32,33,34],et 36 35 0,et 37 35 1,so 3 6 36,m 7 37]
def c:=(s (d r0 [0,7]) (s (b 0 (s (d r1 [9,10,11]) (i 8 (s (d r2 [1,2,3,8,12]) .ret) (s (d r3 (rl [8] 14 17)) (i 13 (s (d r4 [1,2,3,13,31]) .ret) .skip))))) (s (d r5 (rl [1,2,3,13] 32 6)) .ret)))
end XB
def XB:AFn:=⟨3,XB.c,[.cell 6 true 3,.tmp 7],false⟩
structure gn (L:Lib):Prop extends uf L,z7 L where
 aS:L 402=some F.aS
 XB:L 403=some F.XB
end Go.c9.F

namespace Go.c9.F
open C
namespace W4
def r0:=[bx 4 0,mv 8 kf]
def r1:=[tt 28 5 4,ca 29 348 [28],m 27 29,et 30 27 0,et 31 27 1,al 9 [z,z,z,z,z,z,z,z,z,.nil,.nil,z],
 so 12 9 30,m 10 31]
def r2:=[m 32 10,nt 33 32]
def r3:=[mv 8 kf]
def r4:=[m 34 3,ca 35 34 [34,(k 40)],sb 36 35 (k 2),m 3 36]
def r5:=[tt 38 12 9,m 39 2,ca 40 402 [38,39],m 37 40,et 41 37 0,et 42 37 1,al 11 z3,
 so 3 11 41,m 12 42]
def r6:=[tt 44 12 9,m 45 2,ca 46 362 [44,45],m 43 46,et 47 43 0,et 48 43 1,al 13 z3,
 so 3 13 47,m 14 48]
def r7:=[tt 50 12 9,m 51 1,m 52 3,ca 53 360 [50,51,52],m 49 53,et 54 49 0,et 55 49 1,al 15 z3,
 so 3 15 54,m 16 55]
def r8:=[tt 57 12 9,m 58 1,m 59 3,ca 60 403 [57,58,59],m 56 60,et 61 56 0,et 62 56 1,al 17 z3,
 so 3 17 61,m 18 62]
def r9:=[tt 64 12 9,m 65 3,ca 66 357 [64,65],m 63 66,et 67 63 0,et 68 63 1,m 19 67,m 20 68]
def F2:=[tt 70 12 9,m 71 3,ca 72 365 [70,71],m 69 72,et 73 69 0,et 74 69 1,m 21 73,m 22 74]
def GC:=[tt 76 12 9,ca 77 358 [76],m 75 77,et 78 75 0,et 79 75 1,m 23 78,m 24 79]
def aj:=[tt 81 12 9,ca 82 366 [81],m 80 82,et 83 80 0,et 84 80 1,m 25 83,m 26 84]
def HC:=[ca 85 318 [],m 86 85,g 87 86 true (.y7 12),g 88 86 true (.y7 14),g 89 86 true (.bin .eql 87 88),pk 90 86 89 kf,m 91 90,
 g 92 91 true (.ld true 3 11),g 93 91 true (.ld true 3 13),g 94 91 true (.call 127 [92,93]),g 95 91 true (.bin .eql 94 k0),
 pk 96 91 95 kf,m 97 96,g 98 97 true (.y7 16),g 99 97 true (.y7 18),g 100 97 true (.bin .eql 98 99),
 pk 101 97 100 kf,m 102 101,g 103 102 true (.ld true 3 15),g 104 102 true (.ld true 3 17),g 105 102 true (.call 127 [103,104]),
 g 106 102 true (.bin .eql 105 k0),pk 107 102 106 kf,m 108 107,g 109 108 true (.y7 19),g 110 108 true (.y7 21),
 g 111 108 true (.beq false 109 110),pk 112 108 111 kf,m 113 112,g 114 113 true (.y7 20),g 115 113 true (.y7 22),
 g 116 113 true (.bin .eql 114 115),pk 117 113 116 kf,m 118 117,g 119 118 true (.y7 23),g 120 118 true (.y7 25),
 g 121 118 true (.bin .eql 119 120),pk 122 118 121 kf,m 123 122,g 124 123 true (.y7 24),g 125 123 true (.y7 26),
 g 126 123 true (.bin .eql 124 125),pk 127 123 126 kf,m 8 127]
def c:=(s (d r0 [0,8]) (s (d r1 (rl [4] 27 5)) (s (s (d r2 [10,32]) (i 33 (s (d r3 [1,2,3,9,33]) .ret) .skip)) (s (d r4 (ra 33 4)) (s (d r5 (ra 37 6)) (s (d r6 (rl [2] 43 6)) (s (d r7 (ra 49 7)) (s (d r8 (rl [1] 56 7)) (s (d r9 (ra 63 6)) (s (d F2 (rl [3] 69 6)) (s (d GC (ra 75 5)) (s (d aj (rl [9] 80 5)) (s (d HC (rl [11,12,13,14,15,16,17,18,19,20,21,22,23,24,25,26] 85 43)) .ret)))))))))))))
end W4
def W4:AFn:=⟨4,W4.c,[.tmp 8],false⟩
structure vz (L:Lib):Prop extends pz L,gn L,il L where
 W4:L 404=some F.W4
end Go.c9.F

namespace Go.c9
def AbT:Value->AV->Bool
 | .int k n,.int k' n'=>k == k'&&n == n'
 | .bool b,.bool b'=>b == b'
 | .slice none 0 0,.nil=>true
 | .string s,.gx (.string s')=>s.data.toList == s'.data.toList
 | .nilFunc,.gx .nilFunc=>true
 | _,_=>false
def pW:List Value->List AV->Bool
 | [],[]=>true
 | v::r,a::l=>AbT v a&&pW r l
 | _,_=>false
def AeI:Value->AV->Bool
 | .agg cs,.agg l=>pW cs.toList l
 | v,a=>AbT v a
def HO:Operand->C4->Bool
 | .tmp t,.t n=>t == n
 | .const v,.c a=>AeI v a
 | .func g,.c (.fn _ _ g' [])=>g == g'
 | _,_=>false
def LY:List Operand->List C4->Bool
 | [],[]=>true
 | v::r,a::l=>HO v a&&LY r l
 | _,_=>false
def nX:Option Operand->Option C4->Bool
 | none,none=>true
 | some x,some y=>HO x y
 | _,_=>false
section
variable (P:Program)
def vZ (t:TypeId):Option Bool :=
 match P.underlying t with
 | some (.struct _)=>some true
 | some (.array _ _)=>some true
 | some _=>some false
 | none=>none
def bL (t:TypeId) (n:Nat):Bool:=match P.info? t with|some i=>i.size == n|none=>false
def Abz (t:TypeId) (n:Nat):Bool:=match P.info? t with|some i=>i.bytes == n|none=>false
def vM (t:TypeId) (l:List AV):Bool:=match P.info? t with|some i=>(match i.zero with|some z=>pW z.cells.toList l|none=>false)|none=>false
def mP (t:TypeId) (f:TypeId->Bool):Bool:=match P.underlying t with|some (.slice e)=>f e|_=>false
def AkA (t:TypeId) (i off n:Nat):Bool:=match P.underlying t with
 | some (.struct fs)=>(match fs[i]? with|some f=>f.offset == off&&bL P f.type n&&n != 0|none=>false)
 | _=>false
def AkC (t:TypeId) (i:Nat) (agg:Bool):Bool:=match P.underlying t with
 | some (.struct fs)=>(match fs[i]? with|some f=>vZ P f.type == some agg|none=>false)
 | _=>false
def uP (place:Nat->Option (Nat × Nat)):List (Nat × Operand)->List (Nat × Nat × C4)->Bool
 | [],[]=>true
 | (i,x)::r,(off,n,y)::l=>place i == some (off,n)&&HO x y&&uP place r l
 | _,_=>false
def AdM (t:TypeId) (ps:List (Nat × Operand)) (ko:List (Nat × Nat × C4)):Bool:=match P.underlying t with
 | some (.struct fs)=>(match fs.toList.mapM (λ f=>(P.info? f.type).map λ i=>(f.offset,i.size)) with|some places=>uP (places.toArray[·]?) ps ko|none=>false)
 | some (.array _ e)=>(match P.info? e with|some ie=>uP (λ i=>some (i*ie.size,ie.size)) ps ko|none=>false)
 | _=>false
def tT (k:Nat):List (Nat × Operand)->List C4->Bool
 | [],[]=>true
 | (i,x)::r,y::l=>i == k&&HO x y&&tT (k+1) r l
 | _,_=>false
def FW (num:Nat->Nat) (op:Op):K8->Bool
 | .y7 y=>match op with | .move x=>HO x y | .assign x=>HO x y|_=>false
 | .gj _ z=>z != 0&&(match op with | .move (.const (.slice none 0 0))=>true | .assign (.const (.slice none 0 0))=>true|_=>false)
 | .pick c' a' b'=>match op with | .pick c a b=>HO c c'&&HO a a'&&HO b b'|_=>false
 | .bin Pa x' y'=>match op with | .binOp op _ x y _=>op == Pa&&HO x x'&&HO y y'|_=>false
 | .beq ne x' y'=>match op with | .binOp op t x y _=>(if ne then op == .neq else op == .eql)&&(match P.underlying t with|some .bool=>true|_=>false)&&HO x x'&&HO y y'|_=>false
 | .un Pa x'=>match op with | .unOp op _ x=>op == Pa&&HO x x'|_=>false
 | .conv k x'=>match op with | .convert s d x=>(P.underlying s).isSome&&(match P.underlying d with|some (.int k')=>k == k'|_=>false)&&HO x x'|_=>false
 | .box _ x'=>match op with | .box _ x=>HO x x'|_=>false
 | .alloc _ z=>match op with | .alloc t=>vM P t z|_=>false
 | .build z ko=>match op with | .build t ps=>vM P t z&&AdM P t ps.toList ko|_=>false
 | .a9 _ b7 ko=>match op with
  | .buildSlice t n ps=>mP P t (λ e=>bL P e b7)&&b7 != 0&&n == ko.length&&decide (n*b7<=16777216)&&tT 0 ps.toList ko&&(n == 0||mP P t (λ e=>match P.info? e with|some i=>(match i.zero with|some z=>z.cells.size == b7|none=>false)|none=>false))
  | _=>false
 | .m4 x' off=>match op with
  | .fieldAddr s x f=>HO x x'&&(match P.underlying s with|some (.struct fs)=>(match fs[f]? with|some fd=>fd.offset == off&&(match P.info? fd.type with|some i=>i.size != 0|none=>false)|none=>false)|_=>false)
  | _=>false
 | .ye x' off n agg=>match op with | .field t x f=>HO x x'&&AkA P t f off n&&AkC P t f agg|_=>false
 | .ch arr b7 x' i'=>match op with
  | .indexAddr t x i=>HO x x'&&HO i i'&&(match P.underlying t,arr with|some (.array len e),some Cz=>len == Cz&&bL P e b7&&decide (1<len)|some (.slice e),none=>bL P e b7&&b7 != 0|_,_=>false)
  | _=>false
 | .ld agg n x'=>match op with | .load t x=>HO x x'&&vZ P t == some agg&&(if agg then bL P t n else n == 1)|_=>false
 | .st n x' v'=>match op with | .store t x v=>HO x x'&&HO v v'&&bL P t n|_=>false
 | .mk _ b7 bytes z l' c'=>match op with
  | .makeSlice t l c=>HO l l'&&HO c c'&&mP P t (λ e=>bL P e b7&&Abz P e bytes&&vM P e z)&&b7 != 0
  | _=>false
 | .kv b7 x' yz bu=>match op with
  | .slice t x lo hi none=>HO x x'&&nX lo yz&&nX hi bu&&mP P t (λ e=>bL P e b7)&&b7 != 0
  | _=>false
 | .ext x' i'=>match op with | .extract x i=>HO x x'&&i == i'|_=>false
 | .len x'=>match op with
  | .call ⟨.builtin .len,xs,ts⟩=>(match xs.toList,ts.toList with|[x],[t]=>HO x x'&&mP P t (λ_=>true)|_,_=>false)
  | _=>false
 | .mm max y9=>match op with
  | .call ⟨.builtin .min,xs,_⟩ => !max&&LY xs.toList y9
  | .call ⟨.builtin .max,xs,_⟩=>max&&LY xs.toList y9
  | _=>false
 | .app _ b7 bytes x' y'=>match op with
  | .call ⟨.builtin .append,xs,ts⟩=>(match xs.toList,ts.toList with
   | [x,y],[t,u]=>HO x x'&&HO y y'&&mP P t (λ e=>bL P e b7&&Abz P e bytes&&(match P.info? e with|some i=>(match i.zero with|some z=>z.cells.size == b7|none=>false)|none=>false))&&b7 != 0&&mP P u (λ_=>true)
   | _,_=>false)
  | _=>false
 | .call f' y9=>match op with
  | .call ⟨.value (.func f),xs,_⟩=>f == num f'&&LY xs.toList y9
  | _=>false
 | .j6 f' y9=>match op with
  | .call ⟨.value (.func f),xs,_⟩=>f == num f'&&LY xs.toList y9
  | _=>false
 | .iy _ f' y9=>match op with
  | .call ⟨.value (.func f),xs,_⟩=>f == num f'&&LY xs.toList y9
  | _=>false
 | .Cq ne x'=>match op with
  | .binOp op t x (.const (.slice none 0 0)) _=>(if ne then op == .neq else op == .eql)&&mP P t (λ_=>true)&&HO x x'
  | _=>false
 | .bad=>true
 | .nw tb i'=>match op with
  | .index t (.const (.string s)) i=>(match P.underlying t with|some .string=>true|_=>false)&&s.data.toList.map (λ b=>b.toNat) == tb&&HO i i'
  | _=>false
 | .zh _ f' y9=>match op with
  | .makeFunc (.func f) first xs=>f == num f'&&first.toList.isEmpty&&LY xs.toList y9
  | _=>false
 | .v7 f' y9=>match op with
  | .call ⟨.value (.func f),xs,_⟩=>f == num f'&&LY xs.toList y9
  | _=>false
 | .ay _ f' y9=>match op with
  | .call ⟨.value (.func f),xs,_⟩=>f == num f'&&LY xs.toList y9
  | _=>false
 | .zi _ n x' v'=>match op with | .store t x v=>HO x x'&&HO v v'&&bL P t n|_=>false
 | .w5 x' y9=>match op with
  | .call ⟨.value x,xs,_⟩=>HO x x'&&LY xs.toList y9
  | _=>false
def Sb (ops:Array Oper):Option (Nat × Bool)->Option (Nat × Bool)->Bool
 | none,none=>true
 | some (j,b),some (t,b')=>b == b'&&(match ops[j]? with|some o=>o.dst == some t|none=>false)
 | _,_=>false
def okI (num:Nat->Nat) (N:Nat) (ops:Array Oper) (o:Oper) (a:AI):Bool :=
 o.dst == a.dst&&(match a.dst with|some d=>decide (d<N)|none=>true)&&Sb ops o.guard a.guard&&FW P num o.op a.op
def qN (num:Nat->Nat) (N:Nat) (ops:Array Oper):List Oper->List AI->Bool
 | [],[]=>true
 | o::r,a::l=>okI P num N ops o a&&qN num N ops r l
 | _,_=>false
def QW:K8->Bool
 | .st .. | .app .. | .j6 .. | .w5 .. => true
 | _=>false
def Sz:K8->Bool
 | .ld .. | .call .. | .ay .. => true
 | _=>false
def cM (a:K8):Bool:=QW a||Sz a||(MQ a).isSome
def JS:C4->List Nat
 | .t n=>[n]
 | .c _=>[]
def Af3:Option C4->List Nat
 | some x=>JS x
 | none=>[]
def YB:K8->List Nat
 | .y7 x=>JS x
 | .gj _ _=>[]
 | .pick c a b=>JS c++JS a++JS b
 | .bin _ x y=>JS x++JS y
 | .beq _ x y=>JS x++JS y
 | .un _ x=>JS x
 | .conv _ x=>JS x
 | .box _ x=>JS x
 | .alloc _ _=>[]
 | .build _ ps=>ps.flatMap (λ p=>JS p.2.2)
 | .a9 _ _ ps=>ps.flatMap JS
 | .m4 x _=>JS x
 | .ye x _ _ _=>JS x
 | .ch _ _ x i=>JS x++JS i
 | .ld _ _ x=>JS x
 | .st _ x v=>JS x++JS v
 | .mk _ _ _ _ l c=>JS l++JS c
 | .kv _ x lo hi=>JS x++Af3 lo++Af3 hi
 | .ext x _=>JS x
 | .len x=>JS x
 | .mm _ xs=>xs.flatMap JS
 | .app _ _ _ x y=>JS x++JS y
 | .call _ xs=>xs.flatMap JS
 | .j6 _ xs=>xs.flatMap JS
 | .Cq _ x=>JS x
 | .nw _ x=>JS x
 | .zh _ _ xs=>xs.flatMap JS
 | .w5 x xs=>JS x++xs.flatMap JS
 | .v7 _ xs=>xs.flatMap JS
 | .zi _ _ x v=>JS x++JS v
 | .ay _ _ xs=>xs.flatMap JS
 | .iy _ _ xs=>xs.flatMap JS
 | .bad=>[]
def xT (x:AI):List Nat:=YB x.op++(match x.guard with|some (g,_)=>[g]|none=>[])++x.dst.toList
def Y2 (b:Array Nat) (i j:Nat):Bool:=(b.getD (max i j) 0).testBit (min i j)
def AmB (b:Array Nat) (x:AI) (i:Nat) (y:AI) (j:Nat):Bool :=
 i == j||Y2 b i j ||
  ((match y.dst with|some t => !(xT x).contains t|none=>true) &&
   (!QW x.op || !cM y.op) &&
   (!Sz x.op||(match MQ y.op with|some s=>x.c4.contains s|none=>true)) )
def tQ (ops:Array Oper) (l:List AI):Bool :=
 let b:=Region.before ops
 (l.zipIdx.all λ(x,i)=>l.zipIdx.all λ(y,j)=>AmB b x i y j&&(i == j||Y2 b i j||(match MQ x.op,MQ y.op with|some s,some s'=>s != s'|_,_=>true))) &&
 (ops.toList.zipIdx.all λ(o,i)=>o.after.all λ e=>decide (e.on<i)||(match e.ground with | .gcOnly _=>true|_=>false)) &&
 (!Region.departs ops||(List.range ops.size).all (λ i=>(Region.linearise .gc ops 0).contains i))
def MW (num:Nat->Nat) (N:Nat):Code->FX->Bool
 | c,.dr a _ _=>MW num N c a
 | c',.skip=>match c' with | .skip=>true | .label _=>true|_=>false
 | c',.scope a=>match c' with | .scope c=>MW num N c a|_=>false
 | c',.ops l Ax=>match c' with | .region _ ops draw=>draw == Ax&&qN P num N ops ops.toList l&&(!draw||tQ ops l)|_=>false
 | c',.seq a' b'=>match c' with | .seq a b=>MW num N a a'&&MW num N b b'|_=>false
 | c',.cond x' a' b'=>match c' with | .cond x a b=>HO x x'&&MW num N a a'&&MW num N b b'|_=>false
 | c',.block i' a=>match c' with | .block i c=>i == i'&&MW num N c a|_=>false
 | c',.loop a=>match c' with | .loop c=>MW num N c a|_=>false
 | c',.exit i'=>match c' with | .exit i=>i == i'|_=>false
 | c',.ret=>match c' with | .ret=>true|_=>false
def gN:List ResultVar->List aG->Bool
 | [],[]=>true
 | .tmp t::r,.tmp t'::l=>t == t'&&gN r l
 | .cell a t::r,.cell a' agg n::l=>a == a'&&vZ P t == some agg&&(if agg then bL P t n else n == 1)&&gN r l
 | _,_=>false
def okFn (num:Nat->Nat) (fn:Func) (a:AFn):Bool :=
 fn.params.size+fn.nfree == a.gp&&decide (a.gp<=fn.ntmps)&&gN P fn.results.toList a.res&&(match fn.body with|some c=>MW P num fn.ntmps c a.body|none=>false)
end
end Go.c9

namespace Go.c9
@[irreducible] def MD (a b : Nat) : Nat := (a + 18446744073709551616 - b) % 18446744073709551616
theorem vI (a b:Nat):MD a b=(a+18446744073709551616-b)%18446744073709551616:=by unfold MD;rfl
def val:List Nat->Nat
 | []=>0
 | d::l=>d+4294967296*val l
def EK (l:List Nat):Prop := ∀ d∈l,d<4294967296
def dg (n:Nat):List Nat:=if h:n=0 then [] else n%4294967296::dg (n/4294967296)
termination_by n
decreasing_by omega
theorem NE:dg 0=[]:=by rw[dg];simp
theorem Z6 {n:Nat} (h:n≠0):dg n=n%4294967296::dg (n/4294967296):=by rw[dg];simp [h]
theorem ZT:val []=0:=rfl
theorem qS (d:Nat) (l:List Nat):val (d::l)=d+4294967296*val l:=rfl
theorem GO (n:Nat):val (dg n)=n:=by
 induction n using Nat.strongRecOn with
 | ind n ih =>
  by_cases h:n=0
  ·subst h;rw[NE];rfl
  ·rw[Z6 h,qS,ih _ (by omega)]
   omega
theorem K0 (n:Nat):EK (dg n):=by
 induction n using Nat.strongRecOn with
 | ind n ih =>
  by_cases h:n=0
  ·subst h;rw[NE];intro d hd;cases hd
  ·rw[Z6 h]
   intro d hd;rcases List.mem_cons.1 hd with rfl|hd
   ·omega
   ·exact ih _ (by omega) d hd
theorem EK.tail {d:Nat} {l:List Nat} (h:EK (d::l)):EK l:=λ x hx=>h x (List.mem_cons_of_mem _ hx)
theorem EK.head {d:Nat} {l:List Nat} (h:EK (d::l)):d<4294967296:=h d List.mem_cons_self
theorem EK.at {l:List Nat} (h:EK l) {i d:Nat} (hd:l[i]? = some d):d<4294967296:=h d (zM hd)
theorem EK.take {l:List Nat} (h:EK l) (n:Nat):EK (l.take n):=λ x hx=>h x (List.mem_of_mem_take hx)
theorem EK.drop {l:List Nat} (h:EK l) (n:Nat):EK (l.drop n):=λ x hx=>h x (List.mem_of_mem_drop hx)
theorem wW:EK []:=λ_ h=>by cases h
theorem EK.append {a b:List Nat} (h:EK a) (h':EK b):EK (a++b):=λ x hx=>(List.mem_append.1 hx).elim (h x) (h' x)
theorem WU {d:Nat} (h:d<4294967296):EK [d]:=λ x hx=>by simp at hx;omega
theorem EK.set {l:List Nat} (h:EK l) (i:Nat) {d:Nat} (hd:d<4294967296):EK (l.set i d):=λ x hx=>by
 rcases List.mem_or_eq_of_mem_set hx with h1|h1
 ·exact h x h1
 ·omega
theorem Z9 (n:Nat):EK (List.replicate n 0):=λ x hx=>by rw[(List.mem_replicate.1 hx).2];omega
theorem yZ (a b:List Nat):val (a++b)=val a+4294967296^a.length*val b:=by
 induction a with
 | nil=>simp [val]
 | cons d l ih=>rw[List.cons_append,qS,qS,ih,List.length_cons,Nat.pow_succ];grind
theorem mY (l:List Nat) (v:Nat):val (l++[v])=val l+4294967296^l.length*v:=by
 rw[yZ];simp [val]
theorem NH {l:List Nat} (h:EK l):val l<4294967296^l.length:=by
 induction l with
 | nil=>simp [val]
 | cons d l ih =>
  have h1:=ih h.tail;have h2:=h.head;rw[qS,List.length_cons,Nat.pow_succ];omega
theorem LR {l:List Nat} {i v:Nat} (h:l[i]? = some v):val (l.take (i+1))=val (l.take i)+4294967296^i*v:=by
 have hi:=(zS h).1;rw[List.take_add_one,h,Option.toList_some,mY,List.length_take,Nat.min_eq_left (by omega)]
theorem bR (l:List Nat) (i:Nat) (h:i<=l.length):val l=val (l.take i)+4294967296^i*val (l.drop i):=by
 have:=yZ (l.take i) (l.drop i)
 rw[List.take_append_drop,List.length_take,Nat.min_eq_left h]at this;exact this
theorem Ada (n:Nat):val (List.replicate n 0)=0:=by
 induction n with
 | zero=>rfl
 | succ n ih=>rw[List.replicate_succ,qS,ih]
theorem ArG {l:List Nat} (h:EK l) (ht:l=[] \/ ∃ d,l[l.length-1]? = some d/\d≠0):dg (val l)=l:=by
 induction l with
 | nil=>exact NE
 | cons d l ih =>
  have h1:=h.head;by_cases hl:l=[]
  ·subst hl
   rcases ht with ht|⟨x,hx,Am⟩
   ·cases ht
   ·simp at hx
    subst hx;rw[qS,ZT,Z6 (by omega),show (d+4294967296*0)/4294967296=0 by omega,NE,show (d+4294967296*0)%4294967296=d by omega]
  ·have vq : ∃ x,l[l.length-1]? = some x/\x≠0:=by
    rcases ht with ht|⟨x,hx,Am⟩
    ·cases ht
    ·refine ⟨x,?_,Am⟩
     have:l.length≠0:=λ e=>hl (List.eq_nil_of_length_eq_zero e)
     rw[List.length_cons,show l.length+1-1=(l.length-1)+1 by omega,List.getElem?_cons_succ]at hx;exact hx
   have Zq:=ih h.tail (Or.inr vq);have AEw:val l≠0:=by
    intro e;rw[e,NE]at Zq;exact hl Zq.symm
   rw[qS,Z6 (by omega),show (d+4294967296*val l)/4294967296=val l by omega,Zq,show (d+4294967296*val l)%4294967296=d by omega]
theorem PZ {l:List Nat} (h:EK l) {n:Nat} (hn:n<=l.length) (hz : ∀ i,n<=i->i<l.length->l[i]? = some 0) (ht:n=0 \/ ∃ d,l[n-1]? = some d/\d≠0):l.take n=dg (val l):=by
 have hv:val l=val (l.take n):=by
  have h0:l.drop n=List.replicate (l.length-n) 0:=by
   apply List.ext_getElem?;intro i;rw[List.getElem?_drop,List.getElem?_replicate];by_cases hi:n+i<l.length
   ·rw[hz (n+i) (by omega) hi,if_pos (by omega)]
   ·rw[List.getElem?_eq_none (by omega),if_neg (by omega)]
  rw[bR l n hn,h0,Ada];omega
 rw[hv];refine (ArG (h.take n) ?_).symm;rcases ht with rfl|⟨d,hd,Bg⟩
 ·exact Or.inl (by simp)
 ·have o5:=(zS hd).1
  by_cases Ac:n=0
  ·subst Ac;exact Or.inl (by simp)
  ·refine Or.inr ⟨d,?_,Bg⟩
   rw[List.length_take,Nat.min_eq_left hn,List.getElem?_take,if_pos (by omega)];exact hd
theorem nV {n k:Nat}:(dg n).length<=k↔n<4294967296^k:=by
 induction k generalizing n with
 | zero =>
  by_cases h:n=0
  ·subst h;simp [NE]
  ·rw[Z6 h];simp;omega
 | succ k ih =>
  by_cases h:n=0
  ·subst h;simp [NE];exact Nat.pos_of_ne_zero (by simp)
  ·rw[Z6 h,List.length_cons,Nat.succ_le_succ_iff,ih,Nat.pow_succ]
   rw[Nat.div_lt_iff_lt_mul (by omega)]
theorem MT {l:List Nat} (h:EK l):(dg (val l)).length<=l.length:=nV.2 (NH h)
theorem Aer {n:Nat} (h:n≠0) : ∃ d,(dg n)[(dg n).length-1]? = some d/\d≠0:=by
 induction n using Nat.strongRecOn with
 | ind n ih =>
  rw[Z6 h];by_cases h2:n/4294967296=0
  ·rw[h2,NE]
   exact ⟨n%4294967296,by simp,by omega⟩
  ·obtain ⟨d,hd,Bg⟩:=ih _ (by omega) h2
   refine ⟨d,?_,Bg⟩;have hl:(dg (n/4294967296)).length≠0:=λ e=>by rw[List.eq_nil_of_length_eq_zero e]at hd;simp at hd
   rw[List.length_cons,show (dg (n/4294967296)).length+1-1=(dg (n/4294967296)).length-1+1 by omega,List.getElem?_cons_succ];exact hd
theorem Aep {n:Nat}:dg n=[]↔n=0:=by
 constructor
 ·intro h
  by_cases h0:n=0
  ·exact h0
  ·rw[Z6 h0]at h;cases h
 ·rintro rfl;exact NE
theorem Tw {n:Nat} (h:n≠0):1<=(dg n).length:=by rw[Z6 h];simp
theorem AwX {o:List Nat} {i v:Nat} (h:i<o.length):(o.set i v).take (i+1)=o.take i++[v]:=by
 rw[List.take_add_one,List.getElem?_set_self h,List.take_set_of_le (Nat.le_refl i)];rfl
theorem PQ {o:List Nat} {i v:Nat} (h:i<o.length):val ((o.set i v).take (i+1))=val (o.take i)+4294967296^i*v:=by
 rw[AwX h,mY,List.length_take,Nat.min_eq_left (by omega)]
theorem pQ (V p t:Nat):V+p*(t%4294967296)+p*4294967296*(t/4294967296)=V+p*t:=by
 have h:=Nat.mod_add_div t 4294967296;have:p*(t%4294967296)+p*4294967296*(t/4294967296)=p*t:=by
  rw[Nat.mul_assoc,<-Nat.mul_add,h]
 omega
theorem JT {l:List Nat} {n:Nat} (h:l.length<=n):val (l.take n)=val l:=by rw[zT h]
theorem AmG (i:Nat):1<=4294967296^i:=Nat.pos_of_ne_zero (by simp)
theorem V7 {l:List Nat} {i d:Nat} (h:l[i]? = some d):val (l.drop i)=d+4294967296*val (l.drop (i+1)):=by
 obtain ⟨hi,rfl⟩:=zS h;rw[List.drop_eq_getElem_cons hi,qS]
theorem Ac5 {a b:List Nat} (ha:EK a) (hb:EK b) (hl:a.length=b.length) {i:Nat} {x y:Nat} (hx:a[i]? = some x) (hy:b[i]? = some y) (he:a.drop (i+1)=b.drop (i+1)) (h:x<y):val a<val b:=by
 have hia:=(zS hx).1;have hib:=(zS hy).1;rw[bR a i (by omega),bR b i (by omega),V7 hx,V7 hy,he];have h1:=NH (ha.take i);rw[List.length_take,Nat.min_eq_left (by omega)]at h1;generalize val (b.drop (i+1))=r;generalize 4294967296^i=p at *;have:p*(x+4294967296*r)+p<=p*(y+4294967296*r):=by
  rw[<-Nat.mul_succ];exact Nat.mul_le_mul_left p (by omega)
 omega
theorem Ac6 {o:List Nat} {k v old:Nat} (h:o[k]? = some old):val (o.set k v)+4294967296^k*old=val o+4294967296^k*v:=by
 have hk:=(zS h).1;have h1:val (o.set k v)=val (o.take k)+4294967296^k*(v+4294967296*val (o.drop (k+1))):=by
  rw[bR (o.set k v) k (by simp;omega),List.take_set_of_le (Nat.le_refl k),V7 (l:=o.set k v) (d:=v) (by rw[List.getElem?_set_self hk]),List.drop_set_of_lt (by omega)]
 have h2:val o=val (o.take k)+4294967296^k*(old+4294967296*val (o.drop (k+1))):=by
  rw[bR o k (by omega),V7 h]
 rw[h1,h2,Nat.mul_add,Nat.mul_add];omega
theorem Rg {l:List Nat} (h:EK l):l.take (dg (val l)).length=dg (val l):=by
 induction l with
 | nil=>rw[ZT,NE];rfl
 | cons d l ih =>
  have h1:=h.head;by_cases h0:val (d::l)=0
  ·rw[h0,NE];rfl
  ·rw[Z6 h0,qS,show (d+4294967296*val l)/4294967296=val l by omega,show (d+4294967296*val l)%4294967296=d by omega,List.length_cons,List.take_succ_cons,ih h.tail]
theorem zA {a b:Nat} (h:(dg a).length<(dg b).length):a<b:=by
 have h1:a<4294967296^(dg a).length:=nV.1 (Nat.le_refl _);have h2 : ¬ b<4294967296^((dg b).length-1):=λ h3=>by have:=nV.2 h3;omega
 have h3:4294967296^(dg a).length<=4294967296^((dg b).length-1):=Nat.pow_le_pow_right (by omega) (by omega);omega
end Go.c9

namespace Go.c9
section
variable {U V UL VL p u0 u1 u2 v1 v2 top q r:Nat}
theorem Auu (hU:U=UL+p*(u2+4294967296*top)) (hV:V=VL+p*(v2+4294967296*v1)) (hl:UL<p) (h2:u2<4294967296) (gk:0<V):U/V*v1<=top:=by
 have h1:U/V*V<=U:=Nat.div_mul_le_self U V;generalize U/V=Q at *;have h3:U<p*(4294967296*(top+1)):=by
  have:p*(u2+4294967296*top)+p<=p*(4294967296*(top+1)):=by
   rw[<-Nat.mul_succ];exact Nat.mul_le_mul_left p (by omega)
  omega
 have h4:p*(4294967296*(Q*v1))<=Q*V:=by
  have e:Q*V=Q*VL+Q*(p*v2)+p*(4294967296*(Q*v1)):=by rw[hV];grind
  omega
 have h5:p*(4294967296*(Q*v1))<p*(4294967296*(top+1)):=by omega
 have:=Nat.lt_of_mul_lt_mul_left h5
 omega
theorem Aut (hU:U=UL+p*(u2+4294967296*top)) (hV:V=VL+p*(v2+4294967296*v1)) (hl:UL<p) (hq:q*v1+r=top) (h:r*4294967296+u2<q*v2) (gk:0<V):U/V<q:=by
 rw[Nat.div_lt_iff_lt_mul gk];have e:q*V=q*VL+p*(q*v2+4294967296*(q*v1)):=by rw[hV];grind
 have h1:p*(u2+4294967296*top)+p<=p*(q*v2+4294967296*(q*v1)):=by
  rw[<-Nat.mul_succ];exact Nat.mul_le_mul_left p (by omega)
 omega
theorem Aus (h:U<4294967296*V) (hq:4294967296<=q) (gk:0<V):U/V<q:=by
 have:U/V<4294967296:=(Nat.div_lt_iff_lt_mul gk).2 h
 omega
theorem Ak4 (hU:U=UL+p*(u2+4294967296*top)) (hV:V=VL+p*(v2+4294967296*v1)) (Mn:VL<p) (h1:2147483648<=v1) (hq:q*v1+r=top) (h:q*v2<=r*4294967296+u2) (hqB:q<4294967296):q<=U/V+1:=by
 have gk:0<V:=by
  have:p*4294967296<=p*(v2+4294967296*v1):=Nat.mul_le_mul_left p (by omega)
  omega
 by_cases h0:q=0
 ·subst h0;exact Nat.zero_le _
 have e:q*V=q*VL+p*(q*v2+4294967296*(q*v1)):=by rw[hV];grind
 have h2:p*(q*v2+4294967296*(q*v1))<=p*(u2+4294967296*top):=Nat.mul_le_mul_left p (by omega);have h3:q*VL<V:=by
  have a1:q*VL<=4294967296*VL:=zR _ (by omega);have a2:p*4294967296<=p*(v2+4294967296*v1):=Nat.mul_le_mul_left p (by omega);omega
 have h4:(q-1)*V<U+1:=by
  have:(q-1)*V+V=q*V:=by
   have:q=q-1+1:=by omega
   rw[<-Nat.succ_mul,Nat.succ_eq_add_one,<-this]
  omega
 have h5:q-1<=U/V:=(Nat.le_div_iff_mul_le gk).2 (by omega);omega
end
theorem AiY {U V U' q:Nat} (gk:0<V) (h1:U/V<=q) (h:U'+q*V=U):q=U/V/\U'=U%V:=by
 have h2:q*V<=U:=by omega
 have h3:q<=U/V:=(Nat.le_div_iff_mul_le gk).2 h2;have h4:q=U/V:=by omega
 have:=Nat.div_add_mod U V
 rw[Nat.mul_comm,<-h4]at this;exact ⟨h4,by omega⟩
theorem AiX {U V U' q P:Nat} (gk:0<V) (h2:q<=U/V+1) (Po:U'<P) (h:U'+q*V=U+P):q-1=U/V/\1<=q/\U'+V=U%V+P:=by
 have h3:U/V*V<=U:=Nat.div_mul_le_self U V;have h4:U/V<q:=by
  rcases Nat.lt_or_ge (U/V) q with h|h
  ·exact h
  ·have:q*V<=U/V*V:=zR _ h
   omega
 have h6:=Nat.div_add_mod U V;rw[Nat.mul_comm]at h6;generalize U/V=Q at *;generalize U%V=R at *;obtain rfl:q=Q+1:=by omega
 rw[Nat.add_mul,Nat.one_mul]at h;exact ⟨by omega,by omega,by omega⟩
theorem Ac3 {u pl bw:Nat} (hu:u<4294967296) (hp:pl<4294967296) (hb:bw<=1):MD (MD u pl) bw%4294967296+pl+bw=u+4294967296*(MD (MD u pl) bw/9223372036854775808)/\MD (MD u pl) bw/9223372036854775808<=1:=by
 rw[vI,vI];omega
theorem Axu {d e bw:Nat} (hu:d<4294967296) (hp:e<4294967296) (hb:bw<=1):MD (MD d bw) e%4294967296+e+bw=d+4294967296*(MD (MD d bw) e/9223372036854775808)/\MD (MD d bw) e/9223372036854775808<=1:=by
 rw[vI,vI];omega
theorem Axt {d bw:Nat} (hu:d<4294967296) (hb:bw<=1):MD d bw%4294967296+bw=d+4294967296*(MD d bw/9223372036854775808)/\MD d bw/9223372036854775808<=1:=by
 rw[vI];omega
theorem An3 {V Y X p D e bw ja d:Nat} (h:V+Y=X+p*bw) (hd:D+e+bw=d+4294967296*ja):V+p*D+(Y+p*e)=X+p*d+p*4294967296*ja:=by
 have h2:p*D+p*e+p*bw=p*d+p*4294967296*ja:=by
  rw[<-Nat.mul_add,<-Nat.mul_add,hd,Nat.mul_add,Nat.mul_assoc]
 omega
theorem yA {a b:Nat} (ha:a<4294967296) (hb:b<4294967296):a*b<=18446744065119617025 :=
 Nat.mul_le_mul (show a<=4294967295 by omega) (show b<=4294967295 by omega)
theorem Ai2 {X Y s:Nat} (hs:0<s):X*s/(Y*s)=X/Y/\X*s%(Y*s)/s=X%Y:=by
 refine ⟨Nat.mul_div_mul_right X Y hs,?_⟩;rw[Nat.mul_mod_mul_right,Nat.mul_div_cancel _ hs]
end Go.c9

namespace Go.c9
@[irreducible] def qP (d s : Nat) : Nat := d * 2 ^ s % 4294967296
@[irreducible] def uX (d s : Nat) : Nat := d * 2 ^ s / 4294967296
theorem AgF (d s:Nat):qP d s=d*2^s%4294967296:=by unfold qP;rfl
theorem uY (d s:Nat):uX d s=d*2^s/4294967296:=by unfold uX;rfl
theorem sR {s:Nat} (hs:s<=32):4294967296=2^s*2^(32-s):=by
 rw[<-Nat.pow_add,show s+(32-s)=32 by omega]
theorem Aw3 (d s:Nat):qP d s+4294967296*uX d s=d*2^s:=by
 rw[AgF,uY];exact Nat.mod_add_div _ _
theorem Ang {d s:Nat} (hs:s<=32):qP d s=2^s*(d%2^(32-s)):=by
 rw[AgF,sR hs,Nat.mul_comm d,Nat.mul_mod_mul_left]
theorem Anf {d s:Nat} (hs:s<=32):uX d s=d/2^(32-s):=by
 rw[uY,sR hs,Nat.mul_comm d,Nat.mul_div_mul_left _ _ (Nat.two_pow_pos s)]
theorem uZ {d s:Nat} (hd:d<4294967296) (hs:s<=32):qP d s%2^s=0/\uX d s<2^s/\qP d s+2^s<=4294967296/\d*2^s<=18446744073709551615:=by
 refine ⟨by rw[Ang hs,Nat.mul_mod_right],?_,?_,?_⟩
 ·rw[Anf hs,Nat.div_lt_iff_lt_mul (Nat.two_pow_pos _),<-Nat.pow_add,show s+(32-s)=32 by omega];exact hd
 ·rw[Ang hs]
  have h1:d%2^(32-s)+1<=2^(32-s):=Nat.mod_lt _ (Nat.two_pow_pos _);have h2:=Nat.mul_le_mul_left (2^s) h1;rw[Nat.mul_add,Nat.mul_one,<-sR hs]at h2;exact h2
 ·have h1:2^s<=2^32:=Nat.pow_le_pow_right (by omega) hs
  have h2:d*2^s<=4294967295*4294967296:=Nat.mul_le_mul (by omega) h1;omega
theorem Sx {s:Nat} (hs:s<=32):2^s<=4294967296:=(Nat.pow_le_pow_right (by omega) hs:2^s<=2^32)
theorem AlF {V X p lo s d:Nat} (h:V+p*lo=X*2^s):V+p*(qP d s+lo)+p*4294967296*uX d s=(X+p*d)*2^s:=by
 have h1:=Aw3 d s;have h2:p*(qP d s+lo)+p*4294967296*uX d s=p*lo+p*(d*2^s):=by
  rw[<-h1];grind
 rw[Nat.add_mul,<-h,Nat.mul_assoc p d];omega
theorem Afy {d V s:Nat} (hs:s<=32):(d+4294967296*V)/2^s=d/2^s+V%2^s*2^(32-s)+4294967296*(V/2^s):=by
 have e:4294967296*V=2^s*(2^(32-s)*V):=by rw[<-Nat.mul_assoc,<-sR hs]
 rw[e,Nat.add_mul_div_left _ _ (Nat.two_pow_pos s)];have h:=Nat.mod_add_div V (2^s);have h2:2^(32-s)*V=V%2^s*2^(32-s)+4294967296*(V/2^s):=by
  have h3:2^(32-s)*V=2^(32-s)*(V%2^s+2^s*(V/2^s)):=by rw[h]
  rw[h3,sR hs];grind
 omega
theorem AlU {d V s:Nat} (hs:s<=32):(d+4294967296*V)%2^s=d%2^s:=by
 have e:4294967296*V=2^s*(2^(32-s)*V):=by rw[<-Nat.mul_assoc,<-sR hs]
 rw[e,Nat.add_mul_mod_self_left]
theorem Avv {d s:Nat} (hs:s<=32):d*2^(32-s)%4294967296=d%2^s*2^(32-s):=by
 have e:4294967296=2^s*2^(32-s):=sR hs;rw[e,Nat.mul_mod_mul_right]
theorem AlO {d V s:Nat} (hd:d<4294967296) (hs:s<=32):d/2^s<2^(32-s)/\V%2^s*2^(32-s)%2^(32-s)=0/\V%2^s*2^(32-s)+2^(32-s)<=4294967296:=by
 refine ⟨?_,Nat.mul_mod_left _ _,?_⟩
 ·rw[Nat.div_lt_iff_lt_mul (Nat.two_pow_pos _),<-Nat.pow_add,show 32-s+s=32 by omega];exact hd
 ·have h1:V%2^s+1<=2^s:=Nat.mod_lt _ (Nat.two_pow_pos _)
  have h2:=zR (2^(32-s)) h1;rw[Nat.add_mul,Nat.one_mul,<-sR hs]at h2;exact h2
def ae (x:Nat):Nat:=if x=0 then 0 else x.log2+1
theorem Aik {x:Nat} (h:x≠0):2^(ae x-1)<=x/\x<2^ae x/\1<=ae x:=by
 unfold ae;rw[if_neg h];exact ⟨Nat.log2_self_le h,Nat.lt_log2_self,by omega⟩
theorem Abx {x k:Nat} (h:x<2^k):ae x<=k:=by
 by_cases h0:x=0
 ·subst h0;unfold ae;simp
 ·obtain ⟨h1,_,h3⟩:=Aik h0
  have h2:2^(ae x-1)<2^k:=by omega
  have:=(Nat.pow_lt_pow_iff_right (by omega)).1 h2
  omega
theorem zX {x:Nat} (n:Nat) (h:2^n<=x):ae (x/2^n)+n=ae x:=by
 have hp:=Nat.two_pow_pos n;have hx:x≠0:=by omega
 have hq:x/2^n≠0:=by have:=Nat.div_pos h hp;omega
 unfold ae;rw[if_neg hx,if_neg hq];have:(x/2^n).log2+n=x.log2:=by
  symm
  rw[Nat.log2_eq_iff hx];have h1:=Nat.log2_self_le hq;have h2:x/2^n<2^((x/2^n).log2+1):=Nat.lt_log2_self;rw[Nat.le_div_iff_mul_le hp,<-Nat.pow_add]at h1;rw[Nat.div_lt_iff_lt_mul hp,<-Nat.pow_add]at h2;exact ⟨h1,by rw[show (x/2^n).log2+n+1=(x/2^n).log2+1+n by omega];exact h2⟩
 omega
theorem Afz {x:Nat} (h0:x≠0) (hx:x<4294967296):ae x<=32/\1<=ae x/\2147483648<=x*2^(32-ae x)/\x*2^(32-ae x)<4294967296:=by
 obtain ⟨h1,h2,h3⟩:=Aik h0;have hk:ae x<=32:=Abx (k:=32) hx;refine ⟨hk,h3,?_,?_⟩
 ·have:=zR (2^(32-ae x)) h1
  rw[<-Nat.pow_add,show ae x-1+(32-ae x)=31 by omega]at this;exact this
 ·have:=Nat.mul_lt_mul_of_pos_right h2 (Nat.two_pow_pos (32-ae x))
  rw[<-Nat.pow_add,show ae x+(32-ae x)=32 by omega]at this;exact this
def LSg (a b c d:Int):Prop:=(0<=a/\b<=0/\c<=0/\0<=d)\/(a<=0/\0<=b/\0<=c/\d<=0)
structure tD (P Q a b c d p q:Int):Prop where
 hp:p=a*P+b*Q
 hq:q=c*P+d*Q
 sg:LSg a b c d
 pa:0<=p+a
 pb:0<=p+b
 qc:0<=q+c
 qd:0<=q+d
theorem tD.start {P Q:Int} (hP:0<=P) (hQ:0<=Q):tD P Q 1 0 0 1 P Q :=
 ⟨by omega,by omega,Or.inl (by omega),by omega,by omega,by omega,by omega⟩
def zH (P Q a b c d:Int):Prop := ∀ x y K e1 e2:Int,0<K->x=K*P+e1->y=K*Q+e2->0<=e1->e1<=K->0<=e2->e2<=K ->
 0<=c*x+d*y/\c*x+d*y<a*x+b*y/\a*x+b*y<=y/\Int.gcd (a*x+b*y) (c*x+d*y)=Int.gcd x y
def vV (P Q a b c d:Int):Prop := ∀ x y K e1 e2:Int,0<K->x=K*P+e1->y=K*Q+e2->0<=e1->e1<=K->0<=e2->e2<=K ->
 c*x+d*y<=y/\Int.gcd (a*x+b*y) (c*x+d*y)=Int.gcd x y
theorem vV.start (P Q:Int):vV P Q 1 0 0 1:=by
 intro x y K e1 e2 _ _ _ _ _ _ _;simp
theorem zH.half {P Q a b c d:Int} (h:zH P Q a b c d):vV P Q a b c d:=λ x y K e1 e2 h1 h2 h3 h4 h5 h6 h7=>by
 obtain ⟨g1,g2,g3,g4⟩:=h x y K e1 e2 h1 h2 h3 h4 h5 h6 h7;exact ⟨by omega,g4⟩
theorem Aud (X Y f:Int):Int.gcd Y (X-f*Y)=Int.gcd X Y:=by
 rw[Int.gcd_comm X Y];exact Int.gcd_sub_mul_right_right Y X f
theorem tD.step {P Q a b c d p q f:Int} (h:tD P Q a b c d p q) (hc:q+c≠0) (hd:q+d≠0) (h1:f=(p+a)/(q+c)) (h2:f=(p+b)/(q+d)) :
  tD P Q c d (a-f*c) (b-f*d) q (p-f*q)/\0<=f/\p-f*q<q/\(vV P Q a b c d->zH P Q c d (a-f*c) (b-f*d)):=by
 have c0:0<q+c:=by have:=h.qc;omega
 have d0:0<q+d:=by have:=h.qd;omega
 have f0:0<=f:=by rw[h1];exact Int.ediv_nonneg h.pa h.qc
 have m1:p-f*q+(a-f*c)=(p+a)%(q+c):=by
  have:=Int.emod_add_mul_ediv (p+a) (q+c)
  rw[<-h1]at this;grind
 have m2:p-f*q+(b-f*d)=(p+b)%(q+d):=by
  have:=Int.emod_add_mul_ediv (p+b) (q+d)
  rw[<-h2]at this;grind
 have n1:0<=p-f*q+(a-f*c):=by rw[m1];exact Int.emod_nonneg _ hc
 have n2:0<=p-f*q+(b-f*d):=by rw[m2];exact Int.emod_nonneg _ hd
 have n3:p-f*q+(a-f*c)<q+c:=by rw[m1];exact Int.emod_lt_of_pos _ c0
 have n4:p-f*q+(b-f*d)<q+d:=by rw[m2];exact Int.emod_lt_of_pos _ d0
 have Qh:p-f*q=(a-f*c)*P+(b-f*d)*Q:=by rw[h.hp,h.hq];grind
 have yq:LSg c d (a-f*c) (b-f*d):=by
  rcases h.sg with ⟨s1,s2,s3,s4⟩|⟨s1,s2,s3,s4⟩
  ·have t1:f*c<=0:=Int.mul_nonpos_of_nonneg_of_nonpos f0 s3
   have t2:0<=f*d:=Int.mul_nonneg f0 s4;exact Or.inr (by omega)
  ·have t1:0<=f*c:=Int.mul_nonneg f0 s3
   have t2:f*d<=0:=Int.mul_nonpos_of_nonneg_of_nonpos f0 s4;exact Or.inl (by omega)
 have o5:p-f*q<q:=by
  rcases yq with ⟨s1,s2,s3,s4⟩|⟨s1,s2,s3,s4⟩
  ·omega
  ·omega
 refine ⟨⟨h.hq,Qh,yq,h.qc,h.qd,n1,n2⟩,f0,o5,λ hh => ?_⟩;intro x y K e1 e2 hK hx hy a1 a2 b1 b2;obtain ⟨k1,k2⟩:=hh x y K e1 e2 hK hx hy a1 a2 b1 b2;have eY:c*x+d*y=K*q+c*e1+d*e2:=by rw[hx,hy,h.hq];grind
 have eX:(a-f*c)*x+(b-f*d)*y=K*(p-f*q)+(a-f*c)*e1+(b-f*d)*e2:=by rw[hx,hy,Qh];grind
 have eS:(a-f*c)*x+(b-f*d)*y=(a*x+b*y)-f*(c*x+d*y):=by grind
 generalize hE:a-f*c=E at *;generalize hG:b-f*d=G at *;generalize Qk:p-f*q=q2 at *;have key:0<=E*x+G*y/\E*x+G*y<c*x+d*y:=by
  rw[eX,eY];rcases yq with ⟨s1,s2,s3,s4⟩|⟨s1,s2,s3,s4⟩
  ·-- c≥0,d<=0,E<=0,G≥0
   have t1:E*K<=E*e1:=Int.mul_le_mul_of_nonpos_left s3 a2;have t2:0<=G*e2:=Int.mul_nonneg s4 b1;have t3:0<=K*(q2+E):=Int.mul_nonneg (by omega) n1;have t4:(G-d)*e2<=(G-d)*K:=Int.mul_le_mul_of_nonneg_left b2 (by omega);have t5:(E-c)*e1<=0:=Int.mul_nonpos_of_nonpos_of_nonneg (by omega) a1;have t6:0<K*((q+d)-(q2+G)):=Int.mul_pos hK (by omega);constructor
   ·grind
   ·grind
  ·have t1:G*K<=G*e2:=Int.mul_le_mul_of_nonpos_left s4 b2
   have t2:0<=E*e1:=Int.mul_nonneg s3 a1;have t3:0<=K*(q2+G):=Int.mul_nonneg (by omega) n2;have t4:(E-c)*e1<=(E-c)*K:=Int.mul_le_mul_of_nonneg_left a2 (by omega);have t5:(G-d)*e2<=0:=Int.mul_nonpos_of_nonpos_of_nonneg (by omega) b1;have t6:0<K*((q+c)-(q2+E)):=Int.mul_pos hK (by omega);constructor
   ·grind
   ·grind
 refine ⟨key.1,key.2,k1,?_⟩;rw[<-k2,eS];exact Aud _ _ _
end Go.c9


































