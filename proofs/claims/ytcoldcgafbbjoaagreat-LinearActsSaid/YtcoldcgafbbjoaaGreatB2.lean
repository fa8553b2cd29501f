/-
  Functions of the program, as the abstract machine reads them (group MatH). Written by a program (gen.py) off the model's own reading of the translation; the seat's check ties them to it.
-/
import Derived.Test.YtcoldcgafbbjoaaGreatB1
import Derived.Calls
import Derived.Below
import Derived.Laws.CopyRow
import Derived.Laws.Cells
import Derived.Laws.MakeOwn
import Derived.Laws.AppendOwn
import Derived.Deep.AppendSrc
import Derived.Deep.Draws
import Derived.ArgAppend
set_option linter.unusedSimpArgs false
set_option linter.unusedVariables false
set_option linter.unnecessarySimpa false
namespace Go.g6.F
open C
namespace LP
def r0:=[mv 2 (.c .nil)]
def r1:=[m 6 0,ia 7 1 6 k0,uu 8 1 7,ln 9 8,o 10 (.mk 10 1 24 [.nil] 9 9),m 3 10]
def r2:=[m 11 3,ln 12 11,mv 13 k0]
def r3:=[ls 14 13 12]
def r4:=[m 15 13,m 4 15]
def r5:=[m 16 0,ln 17 16,mv 18 k0]
def r6:=[ls 19 18 17]
def r7:=[m 20 18,m 5 20]
def r8:=[m 21 3,m 22 4,m 23 3,m 24 4,ia 25 1 23 24,q 26 [35] (.ld false 1 25),m 27 0,m 28 5,ia 29 1 27 28,
 uu 30 1 29,m 31 4,ia 32 3 30 31,tt 33 3 32,ca 34 95 [33],o 35 (.c7 35 3 [34]),o 36 (.app 36 3 56 26 35),
 ia 37 1 21 22,so 1 37 36]
def r9:=[ad 38 18 k1,m 18 38]
def B4:=[ad 39 13 k1,m 13 39]
def B7:=[m 40 3,m 2 40]
def l2:=(s (p r6) (s (i 19 .skip (x 2)) (s (b 3 (s (d r7 [19,20]) (e r8 (rl [5] 21 17)))) (d r9 [38]))))
def l1:=(s (p r3) (s (i 14 .skip (x 0)) (s (b 1 (s (d r4 [14,15]) (s (d r5 [16]) (b 2 (w l2))))) (d B4 [4,17,18,19,39]))))
def c:=(s (d r0 [2]) (s (d r1 (ra 6 5)) (s (s (d r2 [11]) (b 0 (w l1))) (s (d B7 [0,3,12,13,14,40]) .ret))))
end LP
def LP:AFn:=⟨1,LP.c,[.tmp 2],false⟩
namespace JQ
def r0:=[mv 2 (.c .nil),mv 3 k0]
def r1:=[m 4 0,ca 5 229 [4],nt 6 5]
def r2:=[mv 2 (.c .nil),mv 3 (k 2)]
def r3:=[m 7 0,ca 8 246 [7],m 2 8,mv 3 k0]
def c:=(s (d r0 [2,3]) (s (s (d r1 [4,5]) (i 6 (s (d r2 [0,6]) .ret) .skip)) (s (d r3 [0,6,7,8]) .ret)))
end JQ
def JQ:AFn:=⟨1,JQ.c,[.tmp 2,.tmp 3],false⟩
namespace HF
def r0:=[mv 4 (.c .nil),mv 5 k0]
def r1:=[m 17 0,ca 18 229 [17],nt 19 18,m 20 19,g 21 20 false (.q6 1),g 22 20 false (.call 229 [21]),g 23 20 false (.un .not 22),
 pk 24 20 kt 23]
def r2:=[mv 4 (.c .nil),mv 5 (k 2)]
def r3:=[m 25 0,ia 26 1 25 k0,uu 27 1 26,ln 28 27,m 29 1,ln 30 29,bi 31 .neq 28 30]
def r4:=[mv 4 (.c .nil),mv 5 k1]
def r5:=[m 33 0,o 34 (.c9 231 [33]),m 32 34,et 35 32 0,et 36 32 1,m 6 35,m 7 36]
def r6:=[m 38 1,ca 39 246 [38],o 40 (.c9 231 [39]),m 37 40,et 41 37 0,et 42 37 1,m 8 41,m 9 42]
def r7:=[m 43 6,ln 44 43,o 45 (.mk 45 1 24 [.nil] 44 44),m 10 45]
def r8:=[m 46 6,ln 47 46,mv 48 k0]
def r9:=[ls 49 48 47]
def B4:=[m 50 48,ia 51 1 46 48,uu 52 1 51,m 11 50,m 12 52]
def B7:=[m 53 8,ln 54 53,mv 55 k0]
def af:=[ls 56 55 54]
def CG:=[m 57 55,ia 58 1 53 55,uu 59 1 58,m 13 57,m 14 59]
def cf:=[ca 60 96 [k0],al 15 z3,so 3 15 60]
def cg:=[m 61 12,ln 62 61,mv 63 k0]
def dv:=[ls 64 63 62]
def EF:=[m 65 63,m 16 65]
def fk:=[tt 66 3 15,m 67 12,m 68 16,ia 69 3 67 68,tt 70 3 69,m 71 14,m 72 16,ia 73 3 71 72,tt 74 3 73,
 ca 75 99 [70,74],ca 76 98 [66,75],so 3 15 76]
def iv:=[ad 77 63 k1,m 63 77]
def jl:=[tt 79 3 15,m 80 7,m 81 11,ia 82 3 80 81,tt 83 3 82,m 84 9,m 85 13,ia 86 3 84 85,tt 87 3 86,
 ca 88 99 [83,87],ca 89 100 [79,88],m 78 89,et 90 78 0,et 91 78 1,so 3 15 90]
def nn:=[m 92 10,m 93 11,m 94 10,m 95 11,ia 96 1 94 95,q 97 [99] (.ld false 1 96),tt 98 3 15,o 99 (.c7 99 3 [98]),
 o 100 (.app 100 3 56 97 99),ia 101 1 92 93,so 1 101 100]
def pz:=[ad 102 55 k1,m 55 102]
def tn:=[ad 103 48 k1,m 48 103]
def ME:=[m 104 10,m 4 104,mv 5 k0]
def l3:=(s (p dv) (s (i 64 .skip (x 4)) (s (b 5 (s (d EF [64,65]) (e fk (rl [16] 66 11)))) (d iv [77]))))
def l2:=(s (p af) (s (i 56 .skip (x 2)) (s (b 3 (s (d CG (ra 56 4)) (s (d cf [60]) (s (s (d cg [61]) (b 4 (w l3))) (s (e jl (rl [13,14,62,63,64] 78 14)) (e nn (rl [15] 92 10))))))) (d pz [102]))))
def l1:=(s (p r9) (s (i 49 .skip (x 0)) (s (b 1 (s (d B4 (ra 49 4)) (s (p B7) (b 2 (w l2))))) (d tn [11,12,53,54,55,56,103]))))
def c:=(s (d r0 [4,5]) (s (s (d r1 (ra 17 7)) (i 24 (s (d r2 [0,1,24]) .ret) .skip)) (s (s (d r3 (ra 24 7)) (i 31 (s (d r4 [0,1,31]) .ret) .skip)) (s (d r5 (rl [0] 31 6)) (s (d r6 (rl [1] 37 6)) (s (d r7 [43,44,45]) (s (s (d r8 [6]) (b 0 (w l1))) (s (d ME [7,8,9,10,46,47,48,49,104]) .ret))))))))
end HF
def HF:AFn:=⟨2,HF.c,[.tmp 4,.tmp 5],false⟩
namespace JP
def r0:=[mv 2 k0,mv 3 k0]
def r1:=[m 9 0,ca 10 229 [9],nt 11 10]
def r2:=[mv 2 k0,mv 3 (k 2)]
def r3:=[m 13 0,o 14 (.c9 231 [13]),m 12 14,et 15 12 0,et 16 12 1,m 4 15,m 5 16]
def r4:=[m 18 4,m 19 0,ia 20 1 19 k0,uu 21 1 20,ln 22 21,o 23 (.c9 233 [18,22]),m 17 23,et 24 17 0,et 25 17 1,
 et 26 17 2,al 7 z3,m 6 24,so 3 7 25,m 8 26]
def r5:=[m 27 6,m 2 27,mv 3 k0]
def c:=(s (d r0 [2,3]) (s (s (d r1 [9,10]) (i 11 (s (d r2 [0,11]) .ret) .skip)) (s (d r3 (rl [5] 11 6)) (s (d r4 (rl [0,4,7,8] 17 10)) (s (d r5 [6,27]) .ret)))))
end JP
def JP:AFn:=⟨1,JP.c,[.tmp 2,.tmp 3],false⟩
structure bh (L:Lib):Prop extends e8 L where
 LP:L 246=some F.LP
 JQ:L 247=some F.JQ
 HF:L 248=some F.HF
 JP:L 249=some F.JP
end Go.g6.F
namespace Go.g6.F
open C
namespace NF
def r0:=[bx 2 0,bx 3 1,al 4 z3]
def r1:=[tt 8 3 2,tt 9 3 3,ca 10 154 [8,9],m 7 10,et 11 7 0,et 12 7 1,al 5 z3,
 so 3 5 11,m 6 12]
def r2:=[m 13 6,bi 14 .neq 13 k0]
def r3:=[ca 15 124 [k0],so 3 4 15]
def r4:=[tt 16 3 5,so 3 4 16]
def c:=(s (d r0 [0,1]) (s (d r1 (rl [2,3] 7 6)) (s (s (d r2 [6,13]) (i 14 (s (d r3 [5,14,15]) .ret) .skip)) (s (d r4 [5,14,16]) .ret))))
end NF
def NF:AFn:=⟨2,NF.c,[.cell 4 true 3],false⟩
namespace J4
def r0:=[mv 2 (.c .nil)]
def r1:=[o 3 (.ak 277003 1)]
def r2:=[m 9 0,ln 10 9,mv 11 k0]
def r3:=[ls 12 11 10]
def r4:=[ia 13 1 9 11,uu 14 1 13,m 5 14]
def r5:=[o 6 (.ak 277006 3)]
def r6:=[m 15 5,ln 16 15,mv 17 k0]
def r7:=[ls 18 17 16]
def r8:=[ia 19 3 15 17,tt 20 3 19,o 8 (.alloc 277008 z3),so 3 8 20]
def r9:=[m 21 6,tt 22 3 8,ca 23 123 [22],o 24 (.c7 277024 3 [23]),o 25 (.app 277025 3 56 21 24),m 6 25]
def B4:=[ad 26 17 k1,m 17 26]
def B7:=[m 27 3,m 28 6,o 29 (.c7 277029 1 [28]),o 30 (.app 277030 1 24 27 29),m 3 30]
def af:=[ad 31 11 k1,m 11 31]
def CG:=[m 32 3,m 2 32]
def l2:=(s (p r7) (s (i 18 .skip (x 2)) (s (b 3 (s (d r8 [18,19,20]) (d r9 (rl [8] 21 5)))) (d B4 [26]))))
def l1:=(s (p r3) (s (i 12 .skip (x 0)) (s (b 1 (s (d r4 [12,13,14]) (s (p r5) (s (s (d r6 [5]) (b 2 (w l2))) (d B7 (rl [6,15,16,17,18] 27 4)))))) (d af [31]))))
def c:=(s (d r0 [2]) (s (p r1) (s (s (d r2 [0]) (b 0 (w l1))) (s (d CG [3,9,10,11,12,32]) .ret))))
end J4
def J4:AFn:=⟨1,J4.c,[.tmp 2],false⟩
namespace F8
def r0:=[mv 4 k0,o 5 (.alloc 901005 z3)]
def r1:=[ca 15 124 [k1],o 7 (.alloc 901007 z3),mv 6 k0,so 3 7 15]
def r2:=[mv 8 k0]
def r3:=[m 16 8,m 17 1,ls 18 16 17,m 19 18,g 20 19 true (.q6 6),g 21 19 true (.q6 0),g 22 19 true (.len 21),g 23 19 true (.bin .lss 20 22),
 pk 24 19 23 kf]
def r5:=[m 27 6,m 9 27]
def r6:=[m 28 9,m 29 0,ln 30 29,ls 31 28 30,m 32 31,g 33 32 true (.q6 0),g 34 32 true (.q6 9),g 35 32 true (.aq none 1 33 34),
 g 36 32 true (.ld false 1 35),g 37 32 true (.q6 8),g 38 32 true (.aq none 3 36 37),g 39 32 true (.ld true 3 38),g 40 32 true (.call 155 [39]),
 g 41 32 true (.bin .eql 40 k0),pk 42 32 41 kf]
def r7:=[m 43 9,ad 44 43 k1,m 9 44]
def r8:=[m 45 9,m 46 0,ln 47 46,bi 48 .eql 45 47]
def r9:=[m 49 9,m 50 6,bi 51 .neq 49 50]
def B4:=[m 52 0,m 53 9,m 54 0,m 55 6,m 56 0,m 57 6,ia 58 1 56 57,uu 59 1 58,m 60 0,m 61 9,ia 62 1 60 61,
 uu 63 1 62,ia 64 1 52 53,so 1 64 59,ia 65 1 54 55,so 1 65 63]
def B7:=[tt 66 3 7,ca 67 152 [66],so 3 7 67]
def af:=[m 68 0,m 69 6,ia 70 1 68 69,uu 71 1 70,m 72 8,ia 73 3 71 72,tt 74 3 73,
 o 10 (.alloc 901010 z3),so 3 10 74]
def CG:=[tt 75 3 7,tt 76 3 10,ca 77 128 [75,76],so 3 7 77]
def cf:=[m 78 0,m 79 6,ia 80 1 78 79,uu 81 1 80,ln 82 81,mv 83 k0]
def cg:=[ls 84 83 82]
def dv:=[m 85 83,m 11 85]
def EF:=[m 86 0,m 87 6,ia 88 1 86 87,uu 89 1 88,m 90 11,m 91 0,m 92 6,ia 93 1 91 92,uu 94 1 93,m 95 11,
 ia 96 3 94 95,tt 97 3 96,tt 98 3 10,ca 99 276 [97,98],ia 100 3 89 90,so 3 100 99]
def fk:=[ad 101 83 k1,m 83 101]
def iv:=[m 102 0,ln 103 102,mv 104 k0]
def jl:=[ls 105 104 103]
def nn:=[m 106 104,m 12 106]
def pz:=[m 107 0,m 108 12,ia 109 1 107 108,uu 110 1 109,m 111 8,ia 112 3 110 111,tt 113 3 112,
 o 13 (.alloc 901013 z3),so 3 13 113]
def tn:=[m 114 12,m 115 6,bi 116 .eql 114 115,m 117 116,g 118 117 false (.ld true 3 13),g 119 117 false (.call 155 [118]),
 g 120 117 false (.bin .eql 119 k0),pk 121 117 kt 120]
def ME:=[m 122 0,m 123 12,ia 124 1 122 123,uu 125 1 124,ln 126 125,mv 127 k0]
def O6:=[ls 128 127 126]
def RU:=[m 129 127,m 14 129]
def RV:=[m 130 0,m 131 12,ia 132 1 130 131,uu 133 1 132,m 134 14,m 135 0,m 136 12,ia 137 1 135 136,uu 138 1 137,
 m 139 14,ia 140 3 138 139,tt 141 3 140,tt 142 3 13,m 143 0,m 144 6,ia 145 1 143 144,uu 146 1 145,
 m 147 14,ia 148 3 146 147,tt 149 3 148,ca 150 128 [142,149],ca 151 153 [141,150],ia 152 3 133 134,
 so 3 152 151]
def V3:=[ad 153 127 k1,m 127 153]
def V4:=[ad 154 104 k1,m 104 154]
def Dk:=[m 155 6,ad 156 155 k1,m 6 156]
def r4:=[m 25 8,ad 26 25 k1,m 8 26]
def Ei:=[m 157 6,tt 158 3 7,m 4 157,so 3 5 158]
def l2:=(s (s (d r6 (ra 28 14)) (i 42 .skip (x 2))) (b 3 (d r7 [42,43,44])))
def l3:=(s (p cg) (s (i 84 .skip (x 4)) (s (b 5 (s (d dv [84,85]) (e EF (rl [11] 86 15)))) (d fk [101]))))
def l5:=(s (p O6) (s (i 128 .skip (x 8)) (s (b 9 (s (d RU [128,129]) (e RV (rl [14] 130 23)))) (d V3 [153]))))
def l4:=(s (p jl) (s (i 105 .skip (x 6)) (s (b 7 (s (d nn [105,106]) (s (d pz (ra 107 7)) (s (s (d tn (ra 114 7)) (i 121 (x 7) .skip)) (s (d ME (ra 121 5)) (b 8 (w l5))))))) (d V4 [12,13,121,126,127,128,154]))))
def l1:=(s (s (d r3 (ra 16 8)) (i 24 .skip (x 0))) (s (b 1 (s (d r5 [24,27]) (s (b 2 (w l2)) (s (s (d r8 [42,45,46,47]) (i 48 (x 1) .skip)) (s (s (d r9 [48,49,50]) (i 51 (s (e B4 (rl [9] 51 15)) (d B7 [66,67])) .skip)) (s (d af (rl [9,51] 68 7)) (s (d CG [75,76,77]) (s (s (d cf (ra 78 4)) (b 4 (w l3))) (s (s (d iv [10,82,83,84,102]) (b 6 (w l4))) (d Dk [103,104,105,155,156])))))))))) (d r4 [9,25,26,48])))
def c:=(s (d r0 [4]) (s (d r1 [15]) (s (s (p r2) (b 0 (w l1))) (s (e Ei [0,1,6,7,8,24,157,158]) .ret))))
end F8
def F8:AFn:=⟨2,F8.c,[.tmp 4,.cell 5 true 3],false⟩
namespace NL
def r0:=[mv 4 (.c .nil),mv 5 k0]
def r1:=[m 15 0,o 16 (.c9 277 [15]),m 6 16]
def r2:=[m 17 6,ln 18 17,mv 19 k0]
def r3:=[ls 20 19 18]
def r4:=[m 21 19,m 7 21]
def r5:=[m 22 6,m 23 7,m 24 6,m 25 7,ia 26 1 24 25,uu 27 1 26,m 28 1,m 29 7,ia 30 1 28 29,uu 31 1 30,
 o 32 (.app 32 3 56 27 31),ia 33 1 22 23,so 1 33 32]
def r6:=[ad 34 19 k1,m 19 34]
def r7:=[m 36 6,m 37 0,ln 38 37,o 39 (.c9 901 [36,38]),m 35 39,et 40 35 0,et 41 35 1,al 9 z3,m 8 40,
 so 3 9 41]
def r8:=[m 42 8,m 43 0,ln 44 43,ls 45 42 44]
def r9:=[mv 4 (.c .nil),mv 5 (k 11)]
def B4:=[o 10 (.ak 10 1)]
def B7:=[m 46 6,ln 47 46,mv 48 k0]
def af:=[ls 49 48 47]
def CG:=[m 50 48,m 11 50]
def cf:=[o 12 (.ak 12 3)]
def cg:=[m 51 6,m 52 11,ia 53 1 51 52,uu 54 1 53,m 55 0,ln 56 55,o 57 (.jg 3 54 (some 56) none),ln 58 57,mv 59 k0]
def dv:=[ls 60 59 58]
def EF:=[ia 61 3 57 59,tt 62 3 61,al 14 z3,so 3 14 62]
def fk:=[m 63 12,tt 64 3 14,ca 65 123 [64],o 66 (.c7 66 3 [65]),o 67 (.app 67 3 56 63 66),m 12 67]
def iv:=[ad 68 59 k1,m 59 68]
def jl:=[m 69 10,m 70 12,o 71 (.c7 71 1 [70]),o 72 (.app 72 1 24 69 71),m 10 72]
def nn:=[ad 73 48 k1,m 48 73]
def pz:=[m 74 10,m 4 74,mv 5 k0]
def l1:=(s (p r3) (s (i 20 .skip (x 0)) (s (b 1 (s (d r4 [20,21]) (e r5 (rl [7] 22 12)))) (d r6 [34]))))
def l3:=(s (p dv) (s (i 60 .skip (x 4)) (s (b 5 (s (d EF [60,61,62]) (d fk (rl [14] 63 5)))) (d iv [68]))))
def l2:=(s (p af) (s (i 49 .skip (x 2)) (s (b 3 (s (d CG [49,50]) (s (p cf) (s (s (d cg (rl [11] 51 6)) (b 4 (w l3))) (d jl (rl [12,57,58,59,60] 69 4)))))) (d nn [73]))))
def c:=(s (d r0 [4,5]) (s (d r1 [15,16]) (s (s (d r2 [17]) (b 0 (w l1))) (s (s (d r7 (rl [1,9,18,19,20] 35 7)) (s (d r8 [8,42,43,44]) (i 45 (s (d r9 [0,6,45]) .ret) .skip))) (s (d B4 [45]) (s (s (d B7 [46]) (b 2 (w l2))) (s (d pz [0,6,10,47,48,49,74]) .ret)))))))
end NL
def NL:AFn:=⟨2,NL.c,[.tmp 4,.tmp 5],false⟩
namespace HI
def r0:=[mv 2 (.c .nil),mv 3 k0]
def r1:=[m 7 0,ca 8 239 [7],nt 9 8,m 6 9]
def r2:=[mv 2 (.c .nil),mv 3 (k 2)]
def r3:=[m 11 0,ln 12 11,m 13 0,ia 14 1 13 k0,uu 15 1 14,ln 16 15,bi 17 .neq 12 16,m 10 17]
def r4:=[mv 2 (.c .nil),mv 3 k1]
def r5:=[m 19 0,ln 20 19,ca 21 240 [20],m 18 21,et 22 18 0,et 23 18 1,m 4 22,m 5 23]
def r6:=[m 24 0,m 25 4,ca 26 278 [24,25],et 27 26 0,et 28 26 1,m 2 27,m 3 28]
def c:=(s (d r0 [2,3]) (s (b 0 (s (d r1 [7,8,9]) (i 6 (s (d r2 [0,6]) .ret) (s (d r3 (rl [6] 11 7)) (i 10 (s (d r4 [0,10]) .ret) .skip))))) (s (d r5 (rl [5,10] 18 6)) (s (d r6 (rl [0,4] 24 5)) .ret))))
end HI
def HI:AFn:=⟨1,HI.c,[.tmp 2,.tmp 3],false⟩
structure w5 (L:Lib):Prop extends m5 L where
 NF:L 276=some F.NF
 J4:L 277=some F.J4
 F8:L 901=some F.F8
 NL:L 278=some F.NL
 HI:L 279=some F.HI
end Go.g6.F

namespace Go.g6.F
open C
namespace J3
def r0:=[mv 2 (.c .nil),mv 3 k0]
def r1:=[m 8 0,ca 9 239 [8],nt 10 9]
def r2:=[mv 2 (.c .nil),mv 3 (k 2)]
def r3:=[o 4 (.ak 4 1)]
def r4:=[m 11 0,ia 12 1 11 k0,uu 13 1 12,ln 14 13,mv 15 k0]
def r5:=[ls 16 15 14]
def r6:=[m 17 15,m 5 17]
def r7:=[o 6 (.ak 6 3)]
def r8:=[m 18 0,ln 19 18,mv 20 k0]
def r9:=[ls 21 20 19]
def B4:=[m 22 20,m 7 22]
def B7:=[m 23 6,m 24 0,m 25 7,ia 26 1 24 25,uu 27 1 26,m 28 5,ia 29 3 27 28,tt 30 3 29,ca 31 123 [30],
 o 32 (.c7 32 3 [31]),o 33 (.app 33 3 56 23 32),m 6 33]
def af:=[ad 34 20 k1,m 20 34]
def CG:=[m 35 4,m 36 6,o 37 (.c7 37 1 [36]),o 38 (.app 38 1 24 35 37),m 4 38]
def cf:=[ad 39 15 k1,m 15 39]
def cg:=[m 40 4,m 2 40,mv 3 k0]
def l2:=(s (p r9) (s (i 21 .skip (x 2)) (s (b 3 (s (d B4 [21,22]) (d B7 (rl [7] 23 11)))) (d af [34]))))
def l1:=(s (p r5) (s (i 16 .skip (x 0)) (s (b 1 (s (d r6 [16,17]) (s (p r7) (s (s (d r8 [18]) (b 2 (w l2))) (d CG (rl [5,6,19,20,21] 35 4)))))) (d cf [39]))))
def c:=(s (d r0 [2,3]) (s (s (d r1 [8,9]) (i 10 (s (d r2 [0,10]) .ret) .skip)) (s (d r3 [10]) (s (s (d r4 [11,12,13]) (b 0 (w l1))) (s (d cg [0,4,14,15,16,40]) .ret)))))
end J3
def J3:AFn:=⟨1,J3.c,[.tmp 2,.tmp 3],false⟩
namespace IL
def r0:=[al 2 z3,mv 3 k0]
def r1:=[m 7 0,ca 8 239 [7],nt 9 8,m 6 9]
def r2:=[o 10 (.build z3 []),so 3 2 10,mv 3 (k 2)]
def r3:=[m 12 0,ln 13 12,m 14 0,ia 15 1 14 k0,uu 16 1 15,ln 17 16,bi 18 .neq 13 17,m 11 18]
def r4:=[o 19 (.build z3 []),so 3 2 19,mv 3 k1]
def r5:=[m 21 0,o 22 (.c9 277 [21]),m 23 0,ln 24 23,o 25 (.c9 901 [22,24]),m 20 25,et 26 20 0,et 27 20 1,
 al 5 z3,m 4 26,so 3 5 27]
def r6:=[m 28 4,m 29 0,ln 30 29,ls 31 28 30]
def r7:=[ca 32 124 [k0],so 3 2 32,mv 3 k0]
def r8:=[tt 33 3 5,so 3 2 33,mv 3 k0]
def c:=(s (d r0 [3]) (s (b 0 (s (d r1 [7,8,9]) (i 6 (s (d r2 [0,6,10]) .ret) (s (d r3 (rl [6] 12 7)) (i 11 (s (d r4 [0,11,19]) .ret) .skip))))) (s (d r5 (rl [11] 20 8)) (s (s (d r6 [0,4,28,29,30]) (i 31 (s (d r7 [5,31,32]) .ret) .skip)) (s (d r8 [5,31,33]) .ret)))))
end IL
def IL:AFn:=⟨1,IL.c,[.cell 2 true 3,.tmp 3],false⟩
namespace J2
def r0:=[mv 2 k0,mv 3 k0]
def r1:=[m 6 0,ca 7 239 [6],nt 8 7]
def r2:=[mv 2 k0,mv 3 (k 2)]
def r3:=[m 10 0,q 11 [902005] (.c9 277 [10]),m 12 0,ia 13 1 12 k0,o 14 (.ya false 1 13),ln 15 14,
 q 16 [902005] (.c9 901 [11,15]),m 9 16,et 17 9 0,et 18 9 1,o 5 (.alloc 902005 z3),m 4 17,
 so 3 5 18]
def r4:=[m 19 4,m 2 19,mv 3 k0]
def c:=(s (d r0 [2,3]) (s (s (d r1 [6,7]) (i 8 (s (d r2 [0,8]) .ret) .skip)) (s (e r3 (rl [0,5] 8 11)) (s (d r4 [4,19]) .ret))))
end J2
def J2:AFn:=⟨1,J2.c,[.tmp 2,.tmp 3],false⟩
namespace IM
def r0:=[mv 4 (.c .nil),mv 5 k0]
def r1:=[m 15 0,ca 16 239 [15],nt 17 16,m 14 17]
def r2:=[mv 4 (.c .nil),mv 5 (k 2)]
def r3:=[m 19 0,ln 20 19,m 21 0,ia 22 1 21 k0,uu 23 1 22,ln 24 23,bi 25 .neq 20 24,m 26 25,g 27 26 false (.q6 1),
 g 28 26 false (.len 27),g 29 26 false (.q6 0),g 30 26 false (.len 29),g 31 26 false (.bin .neq 28 30),pk 32 26 kt 31,m 18 32]
def r4:=[mv 4 (.c .nil),mv 5 k1]
def r5:=[o 6 (.ak 6 1)]
def r6:=[m 33 1,ln 34 33,mv 35 k0]
def r7:=[ls 36 35 34]
def r8:=[ia 37 3 33 35,tt 38 3 37,al 8 z3,so 3 8 38]
def r9:=[m 39 6,tt 40 3 8,o 41 (.c7 41 3 [40]),o 42 (.c7 42 1 [41]),o 43 (.app 43 1 24 39 42),m 6 43]
def B4:=[ad 44 35 k1,m 35 44]
def B7:=[m 46 0,m 47 6,ca 48 278 [46,47],m 45 48,et 49 45 0,et 50 45 1,m 9 49,m 10 50]
def af:=[o 11 (.ak 11 3)]
def CG:=[m 51 9,ln 52 51,mv 53 k0]
def cf:=[ls 54 53 52]
def cg:=[ia 55 1 51 53,uu 56 1 55,m 13 56]
def dv:=[m 57 11,m 58 13,ia 59 3 58 k0,tt 60 3 59,o 61 (.c7 61 3 [60]),o 62 (.app 62 3 56 57 61),m 11 62]
def EF:=[ad 63 53 k1,m 53 63]
def fk:=[m 64 11,m 65 10,m 4 64,m 5 65]
def l1:=(s (p r7) (s (i 36 .skip (x 1)) (s (b 2 (s (d r8 [36,37,38]) (d r9 (rl [8] 39 5)))) (d B4 [44]))))
def l2:=(s (p cf) (s (i 54 .skip (x 3)) (s (b 4 (s (d cg [54,55,56]) (d dv (rl [13] 57 6)))) (d EF [63]))))
def c:=(s (d r0 [4,5]) (s (b 0 (s (d r1 [15,16,17]) (i 14 (s (d r2 [0,1,14]) .ret) (s (d r3 (rl [14] 19 14)) (i 18 (s (d r4 [0,1,18]) .ret) .skip))))) (s (d r5 [18]) (s (s (d r6 [1]) (b 1 (w l1))) (s (d B7 (rl [0,6,33,34,35,36] 45 6)) (s (p af) (s (s (d CG [9]) (b 3 (w l2))) (s (d fk [10,11,51,52,53,54,64,65]) .ret))))))))
end IM
def IM:AFn:=⟨2,IM.c,[.tmp 4,.tmp 5],false⟩
structure cp (L:Lib):Prop extends w5 L where
 J3:L 405=some F.J3
 IL:L 406=some F.IL
 J2:L 407=some F.J2
 IM:L 327=some F.IM
end Go.g6.F

namespace Go.g6.F
open C
namespace JS
def r0:=[mv 2 kf]
def r1:=[m 5 0,ln 6 5,bi 7 .gtr 6 (k 8)]
def r2:=[mv 2 kf]
def r3:=[m 8 0,ln 9 8,mv 10 k0]
def r4:=[ls 11 10 9]
def r5:=[ia 12 3 8 10,tt 13 3 12,al 4 z3,so 3 4 13]
def r6:=[fa 14 4 0,fa 15 14 1,uu 16 1 15,ln 17 16,bi 18 .gtr 17 (k 2),m 19 18,g 20 19 false (.bn 4 2),
 g 21 19 false (.ld false 1 20),g 22 19 false (.len 21),g 23 19 false (.bin .gtr 22 (k 2)),pk 24 19 kt 23]
def r7:=[mv 2 kf]
def r8:=[ad 25 10 k1,m 10 25]
def r9:=[mv 2 kt]
def l1:=(s (p r4) (s (i 11 .skip (x 0)) (s (b 1 (s (d r5 [11,12,13]) (s (d r6 (rl [4] 14 10)) (i 24 (s (d r7 [8,9,10,24]) .ret) .skip)))) (d r8 [24,25]))))
def c:=(s (d r0 [2]) (s (s (d r1 [5,6]) (i 7 (s (d r2 [0,7]) .ret) .skip)) (s (s (d r3 [0,7]) (b 0 (w l1))) (s (d r9 (ra 8 4)) .ret))))
end JS
def JS:AFn:=⟨1,JS.c,[.tmp 2],false⟩
namespace JN
def r0:=[mv 2 kf]
def r1:=[m 5 0,ln 6 5,bi 7 .gtr 6 (k 4)]
def r2:=[mv 2 kf]
def r3:=[m 8 0,ln 9 8,mv 10 k0]
def r4:=[ls 11 10 9]
def r5:=[ia 12 1 8 10,uu 13 1 12,m 4 13]
def r6:=[m 14 4,ca 15 408 [14],nt 16 15,m 17 16,g 18 17 false (.q6 4),g 19 17 false (.len 18),g 20 17 false (.bin .gtr 19 (k 5)),
 pk 21 17 kt 20]
def r7:=[mv 2 kf]
def r8:=[ad 22 10 k1,m 10 22]
def r9:=[mv 2 kt]
def l1:=(s (p r4) (s (i 11 .skip (x 0)) (s (b 1 (s (d r5 [11,12,13]) (s (d r6 (rl [4] 14 7)) (i 21 (s (d r7 [8,9,10,21]) .ret) .skip)))) (d r8 [21,22]))))
def c:=(s (d r0 [2]) (s (s (d r1 [5,6]) (i 7 (s (d r2 [0,7]) .ret) .skip)) (s (s (d r3 [0,7]) (b 0 (w l1))) (s (d r9 (ra 8 4)) .ret))))
end JN
def JN:AFn:=⟨1,JN.c,[.tmp 2],false⟩
namespace LM
def r0:=[mv 6 kf]
def r1:=[m 24 0,m 25 1,ca 26 248 [24,25],m 23 26,et 27 23 0,et 28 23 1,m 7 27,m 8 28]
def r2:=[m 30 0,m 31 1,ca 32 241 [30,31],m 29 32,et 33 29 0,et 34 29 1,m 9 33,m 10 34]
def r3:=[m 36 0,ca 37 247 [36],m 35 37,et 38 35 0,et 39 35 1,m 11 38,m 12 39]
def r4:=[m 41 0,ca 42 405 [41],m 40 42,et 43 40 0,et 44 40 1,m 13 43,m 14 44]
def r5:=[m 45 8,m 46 10,bi 47 .neq 45 46,m 48 47,g 49 48 false (.q6 12),g 50 48 false (.q6 14),g 51 48 false (.bin .neq 49 50),
 pk 52 48 kt 51,m 53 52,g 54 53 false (.q6 7),g 55 53 false (.q6 9),g 56 53 false (.call 242 [54,55]),g 57 53 false (.un .not 56),
 pk 58 53 kt 57,m 59 58,g 60 59 false (.q6 11),g 61 59 false (.q6 13),g 62 59 false (.call 242 [60,61]),
 g 63 59 false (.un .not 62),pk 64 59 kt 63,m 65 64,g 66 65 false (.q6 0),g 67 65 false (.call 229 [66]),g 68 65 false (.q6 0),
 g 69 65 false (.call 239 [68]),g 70 65 false (.beq true 67 69),pk 71 65 kt 70]
def r6:=[mv 6 kf]
def r7:=[m 73 0,ca 74 236 [73],m 72 74,et 75 72 0,et 76 72 1,al 15 z3,so 3 15 75,m 8 76]
def r8:=[m 78 0,ca 79 406 [78],m 77 79,et 80 77 0,et 81 77 1,al 16 z3,so 3 16 80,m 10 81]
def r9:=[m 83 0,ca 84 249 [83],m 82 84,et 85 82 0,et 86 82 1,m 17 85,m 12 86]
def B4:=[m 88 0,ca 89 407 [88],m 87 89,et 90 87 0,et 91 87 1,m 18 90,m 14 91]
def B7:=[m 92 8,m 93 10,bi 94 .neq 92 93,m 95 94,g 96 95 false (.q6 12),g 97 95 false (.q6 14),g 98 95 false (.bin .neq 96 97),
 pk 99 95 kt 98,m 100 99,g 101 100 false (.q6 17),g 102 100 false (.q6 18),g 103 100 false (.bin .neq 101 102),
 pk 104 100 kt 103,m 105 104,g 106 105 false (.ld true 3 15),g 107 105 false (.ld true 3 16),g 108 105 false (.call 158 [106,107]),
 g 109 105 false (.un .not 108),pk 110 105 kt 109]
def af:=[mv 6 kf]
def CG:=[m 112 0,m 113 2,ca 114 237 [112,113],m 111 114,et 115 111 0,et 116 111 1,m 19 115,m 8 116]
def cf:=[m 118 0,m 119 2,ca 120 327 [118,119],m 117 120,et 121 117 0,et 122 117 1,m 20 121,m 10 122]
def cg:=[m 124 0,ca 125 238 [124],m 123 125,et 126 123 0,et 127 123 1,m 21 126,m 12 127]
def dv:=[m 129 0,ca 130 279 [129],m 128 130,et 131 128 0,et 132 128 1,m 22 131,m 14 132]
def EF:=[m 133 8,m 134 10,bi 135 .eql 133 134,m 136 135,g 137 136 true (.q6 12),g 138 136 true (.q6 14),g 139 136 true (.bin .eql 137 138),
 pk 140 136 139 kf,m 141 140,g 142 141 true (.q6 19),g 143 141 true (.q6 20),g 144 141 true (.call 159 [142,143]),
 pk 145 141 144 kf,m 146 145,g 147 146 true (.q6 21),g 148 146 true (.q6 22),g 149 146 true (.call 242 [147,148]),
 pk 150 146 149 kf,m 6 150]
def c:=(s (d r0 [6]) (s (d r1 (ra 23 6)) (s (d r2 (rl [1] 29 6)) (s (d r3 (ra 35 5)) (s (d r4 (ra 40 5)) (s (s (d r5 (rl [7,8,9,10,11,12,13,14] 45 26)) (i 71 (s (d r6 [0,2,71]) .ret) .skip)) (s (d r7 (ra 71 6)) (s (d r8 (ra 77 5)) (s (d r9 (ra 82 5)) (s (d B4 (ra 87 5)) (s (s (d B7 (rl [8,10,12,14,15,16,17,18] 92 18)) (i 110 (s (d af [0,2,110]) .ret) .skip)) (s (d CG (ra 110 7)) (s (d cf (rl [2] 117 6)) (s (d cg (ra 123 5)) (s (d dv (rl [0] 128 5)) (s (d EF (rl [8,10,12,14,19,20,21,22] 133 18)) .ret))))))))))))))))
end LM
def LM:AFn:=⟨3,LM.c,[.tmp 6],false⟩
namespace HE
def r0:=[mv 12 kf]
def r1:=[m 21 0,ca 22 409 [21],nt 23 22,m 24 23,g 25 24 false (.q6 1),g 26 24 false (.call 409 [25]),g 27 24 false (.un .not 26),
 pk 28 24 kt 27,m 29 28,g 30 29 false (.q6 2),g 31 29 false (.call 408 [30]),g 32 29 false (.un .not 31),
 pk 33 29 kt 32]
def r2:=[ca 34 243 [],m 12 34]
def r3:=[m 36 5,ca 37 230 [36],m 35 37,et 38 35 0,et 39 35 1,m 13 38,m 14 39]
def r4:=[m 41 5,ca 42 240 [41],m 40 42,et 43 40 0,et 44 40 1,m 15 43,m 16 44]
def r5:=[m 45 5,ca 46 224 [45,(k 4)],ad 47 k1 46,m 48 5,bi 49 .quo 48 (k 4),ca 50 224 [49,(k 4)],ad 51 k1 50,
 m 17 47,m 18 51]
def r6:=[m 52 3,m 53 17,m 54 17,ca 55 226 [52,53,54],m 56 4,m 57 17,m 58 18,ca 59 226 [56,57,58],m 19 55,m 20 59]
def r7:=[ca 60 243 [],m 61 60,g 62 61 true (.q6 14),g 63 61 true (.q6 16),g 64 61 true (.bin .eql 62 63),pk 65 61 64 kf,m 66 65,
 g 67 66 true (.q6 13),g 68 66 true (.q6 15),g 69 66 true (.call 242 [67,68]),pk 70 66 69 kf,m 71 70,g 72 71 true (.q6 0),
 g 73 71 true (.q6 1),g 74 71 true (.q6 2),g 75 71 true (.call 410 [72,73,74]),pk 76 71 75 kf,m 77 76,g 78 77 true (.q6 19),
 g 79 77 true (.q6 20),g 80 77 true (.q6 4),g 81 77 true (.q6 17),g 82 77 true (.call 226 [80,k1,81]),g 83 77 true (.aq none 1 82 k0),
 g 84 77 true (.ld false 1 83),g 85 77 true (.call 410 [78,79,84]),pk 86 77 85 kf,m 87 86,g 88 87 true (.q6 20),
 g 89 87 true (.q6 19),g 90 87 true (.q6 2),g 91 87 true (.call 410 [88,89,90]),pk 92 87 91 kf,m 12 92]
def c:=(s (d r0 [12]) (s (s (d r1 (ra 21 12)) (i 33 (s (d r2 [0,1,2,3,4,5,33,34]) .ret) .skip)) (s (d r3 (rl [33] 35 5)) (s (d r4 (ra 40 5)) (s (d r5 (rl [5] 45 7)) (s (d r6 (rl [3,18] 52 8)) (s (d r7 (rl [0,1,2,4,13,14,15,16,17,19,20] 60 33)) .ret)))))))
end HE
def HE:AFn:=⟨6,HE.c,[.tmp 12],false⟩
structure jn (L:Lib):Prop extends ji L,bh L,cp L where
 JS:L 408=some F.JS
 JN:L 409=some F.JN
 LM:L 410=some F.LM
 HE:L 411=some F.HE
end Go.g6.F

namespace Go.g6
def YE:Value->AV->Bool
 | .int k n,.int k' n'=>k == k'&&n == n'
 | .bool b,.bool b'=>b == b'
 | .slice none 0 0,.nil=>true
 | .string s,.dm (.string s')=>s.data.toList == s'.data.toList
 | .nilFunc,.dm .nilFunc=>true
 | _,_=>false
def OV:List Value->List AV->Bool
 | [],[]=>true
 | v::r,a::l=>YE v a&&OV r l
 | _,_=>false
def cT:Value->AV->Bool
 | .agg cs,.agg l=>OV cs.toList l
 | v,a=>YE v a
def BZ:Operand->AP->Bool
 | .tmp t,.t n=>t == n
 | .const v,.c a=>cT v a
 | .func g,.c (.fn _ _ g' [])=>g == g'
 | _,_=>false
def ED:List Operand->List AP->Bool
 | [],[]=>true
 | v::r,a::l=>BZ v a&&ED r l
 | _,_=>false
def N8:Option Operand->Option AP->Bool
 | none,none=>true
 | some x,some y=>BZ x y
 | _,_=>false
section
variable (P:Program)
def QX (t:TypeId):Option Bool :=
 match P.underlying t with
 | some (.struct _)=>some true
 | some (.array _ _)=>some true
 | some _=>some false
 | none=>none
def IY (t:TypeId) (n:Nat):Bool:=match P.info? t with|some i=>i.size == n|none=>false
def UR (t:TypeId) (n:Nat):Bool:=match P.info? t with|some i=>i.bytes == n|none=>false
def SK (t:TypeId) (l:List AV):Bool:=match P.info? t with|some i=>(match i.zero with|some z=>OV z.cells.toList l|none=>false)|none=>false
def J7 (t:TypeId) (f:TypeId->Bool):Bool:=match P.underlying t with|some (.slice e)=>f e|_=>false
def pE (t:TypeId) (i off n:Nat):Bool:=match P.underlying t with
 | some (.struct fs)=>(match fs[i]? with|some f=>f.offset == off&&IY P f.type n&&n != 0|none=>false)
 | _=>false
def pF (t:TypeId) (i:Nat) (agg:Bool):Bool:=match P.underlying t with
 | some (.struct fs)=>(match fs[i]? with|some f=>QX P f.type == some agg|none=>false)
 | _=>false
def RS (place:Nat->Option (Nat × Nat)):List (Nat × Operand)->List (Nat × Nat × AP)->Bool
 | [],[]=>true
 | (i,x)::r,(off,n,y)::l=>place i == some (off,n)&&BZ x y&&RS place r l
 | _,_=>false
def bL (t:TypeId) (ps:List (Nat × Operand)) (fq:List (Nat × Nat × AP)):Bool:=match P.underlying t with
 | some (.struct fs)=>(match fs.toList.mapM (λ f=>(P.info? f.type).map λ i=>(f.offset,i.size)) with|some places=>RS (places.toArray[·]?) ps fq|none=>false)
 | some (.array _ e)=>(match P.info? e with|some ie=>RS (λ i=>some (i*ie.size,ie.size)) ps fq|none=>false)
 | _=>false
def Q7 (k:Nat):List (Nat × Operand)->List AP->Bool
 | [],[]=>true
 | (i,x)::r,y::l=>i == k&&BZ x y&&Q7 (k+1) r l
 | _,_=>false
def BI (num:Nat->Nat) (op:Op):DP->Bool
 | .q6 y=>match op with | .move x=>BZ x y | .assign x=>BZ x y|_=>false
 | .ak _ z=>z != 0&&(match op with | .move (.const (.slice none 0 0))=>true | .assign (.const (.slice none 0 0))=>true|_=>false)
 | .pick c' a' b'=>match op with | .pick c a b=>BZ c c'&&BZ a a'&&BZ b b'|_=>false
 | .bin Dj x' y'=>match op with | .binOp op _ x y _=>op == Dj&&BZ x x'&&BZ y y'|_=>false
 | .beq ne x' y'=>match op with | .binOp op t x y _=>(if ne then op == .neq else op == .eql)&&(match P.underlying t with|some .bool=>true|_=>false)&&BZ x x'&&BZ y y'|_=>false
 | .un Dj x'=>match op with | .unOp op _ x=>op == Dj&&BZ x x'|_=>false
 | .conv k x'=>match op with | .convert s d x=>(P.underlying s).isSome&&(match P.underlying d with|some (.int k')=>k == k'|_=>false)&&BZ x x'|_=>false
 | .box _ x'=>match op with | .box _ x=>BZ x x'|_=>false
 | .alloc _ z=>match op with | .alloc t=>SK P t z|_=>false
 | .build z fq=>match op with | .build t ps=>SK P t z&&bL P t ps.toList fq|_=>false
 | .c7 _ a9 fq=>match op with
  | .buildSlice t n ps=>J7 P t (λ e=>IY P e a9)&&a9 != 0&&n == fq.length&&decide (n*a9<=16777216)&&Q7 0 ps.toList fq&&(n == 0||J7 P t (λ e=>match P.info? e with|some i=>(match i.zero with|some z=>z.cells.size == a9|none=>false)|none=>false))
  | _=>false
 | .bn x' off=>match op with
  | .fieldAddr s x f=>BZ x x'&&(match P.underlying s with|some (.struct fs)=>(match fs[f]? with|some fd=>fd.offset == off&&(match P.info? fd.type with|some i=>i.size != 0|none=>false)|none=>false)|_=>false)
  | _=>false
 | .qf x' off n agg=>match op with | .field t x f=>BZ x x'&&pE P t f off n&&pF P t f agg|_=>false
 | .aq arr a9 x' i'=>match op with
  | .indexAddr t x i=>BZ x x'&&BZ i i'&&(match P.underlying t,arr with|some (.array len e),some ui=>len == ui&&IY P e a9&&decide (1<len)|some (.slice e),none=>IY P e a9&&a9 != 0|_,_=>false)
  | _=>false
 | .ld agg n x'=>match op with | .load t x=>BZ x x'&&QX P t == some agg&&(if agg then IY P t n else n == 1)|_=>false
 | .ya agg n x'=>match op with | .load t x=>BZ x x'&&QX P t == some agg&&(if agg then IY P t n else n == 1)|_=>false
 | .st n x' v'=>match op with | .store t x v=>BZ x x'&&BZ v v'&&IY P t n|_=>false
 | .mk _ a9 bytes z l' c'=>match op with
  | .makeSlice t l c=>BZ l l'&&BZ c c'&&J7 P t (λ e=>IY P e a9&&UR P e bytes&&SK P e z)&&a9 != 0
  | _=>false
 | .jg a9 x' px v9=>match op with
  | .slice t x lo hi none=>BZ x x'&&N8 lo px&&N8 hi v9&&J7 P t (λ e=>IY P e a9)&&a9 != 0
  | _=>false
 | .ext x' i'=>match op with | .extract x i=>BZ x x'&&i == i'|_=>false
 | .len x'=>match op with
  | .call ⟨.builtin .len,xs,ts⟩=>(match xs.toList,ts.toList with|[x],[t]=>BZ x x'&&J7 P t (λ_=>true)|_,_=>false)
  | _=>false
 | .mm max q9=>match op with
  | .call ⟨.builtin .min,xs,_⟩ => !max&&ED xs.toList q9
  | .call ⟨.builtin .max,xs,_⟩=>max&&ED xs.toList q9
  | _=>false
 | .app _ a9 bytes x' y'=>match op with
  | .call ⟨.builtin .append,xs,ts⟩=>(match xs.toList,ts.toList with
   | [x,y],[t,u]=>BZ x x'&&BZ y y'&&J7 P t (λ e=>IY P e a9&&UR P e bytes&&(match P.info? e with|some i=>(match i.zero with|some z=>z.cells.size == a9|none=>false)|none=>false))&&a9 != 0&&J7 P u (λ_=>true)
   | _,_=>false)
  | _=>false
 | .call f' q9=>match op with
  | .call ⟨.value (.func f),xs,_⟩=>f == num f'&&ED xs.toList q9
  | _=>false
 | .c9 f' q9=>match op with
  | .call ⟨.value (.func f),xs,_⟩=>f == num f'&&ED xs.toList q9
  | _=>false
 | .di _ f' q9=>match op with
  | .call ⟨.value (.func f),xs,_⟩=>f == num f'&&ED xs.toList q9
  | _=>false
 | .ug ne x'=>match op with
  | .binOp op t x (.const (.slice none 0 0)) _=>(if ne then op == .neq else op == .eql)&&J7 P t (λ_=>true)&&BZ x x'
  | _=>false
 | .bad=>true
 | .nm x'=>match op with
  | .nilCheck x=>BZ x x'
  | _=>false
 | .gd x'=>match op with
  | .call ⟨.builtin .cap,xs,ts⟩=>(match xs.toList,ts.toList with|[x],[t]=>BZ x x'&&J7 P t (λ_=>true)|_,_=>false)
  | _=>false
 | .oy _ a9 bytes x' y'=>match op with
  | .call ⟨.builtin .append,xs,ts⟩=>(match xs.toList,ts.toList with
   | [x,y],[t,u]=>BZ x x'&&BZ y y'&&J7 P t (λ e=>IY P e a9&&UR P e bytes&&(match P.info? e with|some i=>(match i.zero with|some z=>z.cells.size == a9|none=>false)|none=>false))&&a9 != 0&&(match P.underlying u with|some (.int _)=>true|_=>false)
   | _,_=>false)
  | _=>false
 | .iw tb i'=>match op with
  | .index t (.const (.string s)) i=>(match P.underlying t with|some .string=>true|_=>false)&&s.data.toList.map (λ b=>b.toNat) == tb&&BZ i i'
  | _=>false
 | .rj _ f' q9=>match op with
  | .makeFunc (.func f) first xs=>f == num f'&&first.toList.isEmpty&&ED xs.toList q9
  | _=>false
 | .n7 f' q9=>match op with
  | .call ⟨.value (.func f),xs,_⟩=>f == num f'&&ED xs.toList q9
  | _=>false
 | .z0 _ f' q9=>match op with
  | .call ⟨.value (.func f),xs,_⟩=>f == num f'&&ED xs.toList q9
  | _=>false
 | .ou _ n x' v'=>match op with | .store t x v=>BZ x x'&&BZ v v'&&IY P t n|_=>false
 | .q8 x' q9=>match op with
  | .call ⟨.value x,xs,_⟩=>BZ x x'&&ED xs.toList q9
  | _=>false
def VU (ops:Array Oper):Option (Nat × Bool)->Option (Nat × Bool)->Bool
 | none,none=>true
 | some (j,b),some (t,b')=>b == b'&&(match ops[j]? with|some o=>o.dst == some t|none=>false)
 | _,_=>false
def ZB (num:Nat->Nat) (N:Nat) (ops:Array Oper) (o:Oper) (a:AI):Bool :=
 o.dst == a.dst&&(match a.dst with|some d=>decide (d<N)|none=>true)&&VU ops o.guard a.guard&&BI P num o.op a.op
def O4 (num:Nat->Nat) (N:Nat) (ops:Array Oper):List Oper->List AI->Bool
 | [],[]=>true
 | o::r,a::l=>ZB P num N ops o a&&O4 num N ops r l
 | _,_=>false
def FN:DP->Bool
 | .st .. | .app .. | .c9 .. | .q8 .. => true
 | _=>false
def OE:DP->Bool
 | .ld .. | .call .. | .z0 .. => true
 | _=>false
def KP (a:DP):Bool:=FN a||OE a||(D6 a).isSome
def C0:AP->List Nat
 | .t n=>[n]
 | .c _=>[]
def gH:Option AP->List Nat
 | some x=>C0 x
 | none=>[]
def HL:DP->List Nat
 | .q6 x=>C0 x
 | .ak _ _=>[]
 | .pick c a b=>C0 c++C0 a++C0 b
 | .bin _ x y=>C0 x++C0 y
 | .beq _ x y=>C0 x++C0 y
 | .un _ x=>C0 x
 | .conv _ x=>C0 x
 | .box _ x=>C0 x
 | .alloc _ _=>[]
 | .build _ ps=>ps.flatMap (λ p=>C0 p.2.2)
 | .c7 _ _ ps=>ps.flatMap C0
 | .bn x _=>C0 x
 | .qf x _ _ _=>C0 x
 | .aq _ _ x i=>C0 x++C0 i
 | .ld _ _ x=>C0 x
 | .ya _ _ x=>C0 x
 | .st _ x v=>C0 x++C0 v
 | .mk _ _ _ _ l c=>C0 l++C0 c
 | .jg _ x lo hi=>C0 x++gH lo++gH hi
 | .ext x _=>C0 x
 | .len x=>C0 x
 | .mm _ xs=>xs.flatMap C0
 | .app _ _ _ x y=>C0 x++C0 y
 | .call _ xs=>xs.flatMap C0
 | .c9 _ xs=>xs.flatMap C0
 | .ug _ x=>C0 x
 | .iw _ x=>C0 x
 | .rj _ _ xs=>xs.flatMap C0
 | .q8 x xs=>C0 x++xs.flatMap C0
 | .n7 _ xs=>xs.flatMap C0
 | .ou _ _ x v=>C0 x++C0 v
 | .z0 _ _ xs=>xs.flatMap C0
 | .di _ _ xs=>xs.flatMap C0
 | .bad=>[]
 | .nm x=>C0 x
 | .gd x=>C0 x
 | .oy _ _ _ x y=>C0 x++C0 y
def TG (x:AI):List Nat:=HL x.op++(match x.guard with|some (g,_)=>[g]|none=>[])++x.dst.toList
def IE (b:Array Nat) (i j:Nat):Bool:=(b.getD (max i j) 0).testBit (min i j)
def N9 (x:AI):Option Nat:=match x.op,x.b9 with
 | .c9 _ _,[s]=>some s
 | _,_=>none
def TE (x y:AI):Bool:=match N9 x with
 | some s=>D6 y.op == some s&&(!FN y.op && !OE y.op)
 | none=>false
def sV (b:Array Nat) (x:AI) (i:Nat) (y:AI) (j:Nat):Bool :=
 i == j||IE b i j ||
  ((match y.dst with|some t => !(TG x).contains t|none=>true) &&
   (!FN x.op || !KP y.op||TE x y) &&
   (!OE x.op||(match D6 y.op with|some s=>x.b9.contains s|none=>true)) )
def Q5 (ops:Array Oper) (l:List AI):Bool :=
 let b:=Region.before ops
 (l.zipIdx.all λ(x,i)=>l.zipIdx.all λ(y,j)=>sV b x i y j&&(i == j||IE b i j||(match D6 x.op,D6 y.op with|some s,some s'=>s != s'|_,_=>true))) &&
 (ops.toList.zipIdx.all λ(o,i)=>o.after.all λ e=>decide (e.on<i)||(match e.ground with | .gcOnly _=>true|_=>false)) &&
 (!Region.departs ops||(List.range ops.size).all (λ i=>(Region.linearise .gc ops 0).contains i))
def E1 (num:Nat->Nat) (N:Nat):Code->BK->Bool
 | c,.dr a _ _=>E1 num N c a
 | c',.skip=>match c' with | .skip=>true | .label _=>true|_=>false
 | c',.scope a=>match c' with | .scope c=>E1 num N c a|_=>false
 | c',.ops l sn=>match c' with | .region _ ops draw=>draw == sn&&O4 P num N ops ops.toList l&&(!draw||Q5 ops l)|_=>false
 | c',.seq a' b'=>match c' with | .seq a b=>E1 num N a a'&&E1 num N b b'|_=>false
 | c',.cond x' a' b'=>match c' with | .cond x a b=>BZ x x'&&E1 num N a a'&&E1 num N b b'|_=>false
 | c',.block i' a=>match c' with | .block i c=>i == i'&&E1 num N c a|_=>false
 | c',.loop a=>match c' with | .loop c=>E1 num N c a|_=>false
 | c',.exit i'=>match c' with | .exit i=>i == i'|_=>false
 | c',.ret=>match c' with | .ret=>true|_=>false
def MC:List ResultVar->List I0->Bool
 | [],[]=>true
 | .tmp t::r,.tmp t'::l=>t == t'&&MC r l
 | .cell a t::r,.cell a' agg n::l=>a == a'&&QX P t == some agg&&(if agg then IY P t n else n == 1)&&MC r l
 | _,_=>false
def okFn (num:Nat->Nat) (fn:Func) (a:AFn):Bool :=
 fn.params.size+fn.nfree == a.de&&decide (a.de<=fn.ntmps)&&MC P fn.results.toList a.res&&(match fn.body with|some c=>E1 P num fn.ntmps c a.body|none=>false)
end
end Go.g6

namespace Go.g6
abbrev BB:Nat:=4294967296
@[irreducible] def EP (a b : Nat) : Nat := (a + 18446744073709551616 - b) % 18446744073709551616
theorem SF (a b:Nat):EP a b=(a+18446744073709551616-b)%18446744073709551616:=by unfold EP;rfl
def val:List Nat->Nat
 | []=>0
 | d::l=>d+4294967296*val l
def A1 (l:List Nat):Prop := ∀ d∈l,d<4294967296
def dg (n:Nat):List Nat:=if h:n=0 then [] else n%4294967296::dg (n/4294967296)
termination_by n
decreasing_by omega
theorem E4:dg 0=[]:=by rw[dg];simp
theorem I4 {n:Nat} (h:n≠0):dg n=n%4294967296::dg (n/4294967296):=by rw[dg];simp [h]
theorem IZ:val []=0:=rfl
theorem PB (d:Nat) (l:List Nat):val (d::l)=d+4294967296*val l:=rfl
theorem BW (n:Nat):val (dg n)=n:=by
 induction n using Nat.strongRecOn with
 | ind n ih =>
  by_cases h:n=0
  ·subst h;rw[E4];rfl
  ·rw[I4 h,PB,ih _ (by omega)]
   omega
theorem EA (n:Nat):A1 (dg n):=by
 induction n using Nat.strongRecOn with
 | ind n ih =>
  by_cases h:n=0
  ·subst h;rw[E4];intro d hd;cases hd
  ·rw[I4 h]
   intro d hd;rcases List.mem_cons.1 hd with rfl|hd
   ·omega
   ·exact ih _ (by omega) d hd
theorem A1.tail {d:Nat} {l:List Nat} (h:A1 (d::l)):A1 l:=λ x hx=>h x (List.mem_cons_of_mem _ hx)
theorem A1.head {d:Nat} {l:List Nat} (h:A1 (d::l)):d<4294967296:=h d List.mem_cons_self
theorem A1.at {l:List Nat} (h:A1 l) {i d:Nat} (hd:l[i]? = some d):d<4294967296:=h d (zM hd)
theorem A1.take {l:List Nat} (h:A1 l) (n:Nat):A1 (l.take n):=λ x hx=>h x (List.mem_of_mem_take hx)
theorem A1.drop {l:List Nat} (h:A1 l) (n:Nat):A1 (l.drop n):=λ x hx=>h x (List.mem_of_mem_drop hx)
theorem S0:A1 []:=λ_ h=>by cases h
theorem A1.append {a b:List Nat} (h:A1 a) (h':A1 b):A1 (a++b):=λ x hx=>(List.mem_append.1 hx).elim (h x) (h' x)
theorem HD {d:Nat} (h:d<4294967296):A1 [d]:=λ x hx=>by simp at hx;omega
theorem A1.set {l:List Nat} (h:A1 l) (i:Nat) {d:Nat} (hd:d<4294967296):A1 (l.set i d):=λ x hx=>by
 rcases List.mem_or_eq_of_mem_set hx with h1|h1
 ·exact h x h1
 ·omega
theorem I5 (n:Nat):A1 (List.replicate n 0):=λ x hx=>by rw[(List.mem_replicate.1 hx).2];omega
theorem T4 (a b:List Nat):val (a++b)=val a+4294967296^a.length*val b:=by
 induction a with
 | nil=>simp [val]
 | cons d l ih=>rw[List.cons_append,PB,PB,ih,List.length_cons,Nat.pow_succ];grind
theorem NV (l:List Nat) (v:Nat):val (l++[v])=val l+4294967296^l.length*v:=by
 rw[T4];simp [val]
theorem E5 {l:List Nat} (h:A1 l):val l<4294967296^l.length:=by
 induction l with
 | nil=>simp [val]
 | cons d l ih =>
  have h1:=ih h.tail;have h2:=h.head;rw[PB,List.length_cons,Nat.pow_succ];omega
theorem EB {l:List Nat} {i v:Nat} (h:l[i]? = some v):val (l.take (i+1))=val (l.take i)+4294967296^i*v:=by
 have hi:=(zS h).1;rw[List.take_add_one,h,Option.toList_some,NV,List.length_take,Nat.min_eq_left (by omega)]
theorem J9 (l:List Nat) (i:Nat) (h:i<=l.length):val l=val (l.take i)+4294967296^i*val (l.drop i):=by
 have:=T4 (l.take i) (l.drop i)
 rw[List.take_append_drop,List.length_take,Nat.min_eq_left h]at this;exact this
theorem aK (n:Nat):val (List.replicate n 0)=0:=by
 induction n with
 | zero=>rfl
 | succ n ih=>rw[List.replicate_succ,PB,ih]
theorem Wo {l:List Nat} (h:A1 l) (ht:l=[] \/ ∃ d,l[l.length-1]? = some d/\d≠0):dg (val l)=l:=by
 induction l with
 | nil=>exact E4
 | cons d l ih =>
  have h1:=h.head;by_cases hl:l=[]
  ·subst hl
   rcases ht with ht|⟨x,hx,zu⟩
   ·cases ht
   ·simp at hx
    subst hx;rw[PB,IZ,I4 (by omega),show (d+4294967296*0)/4294967296=0 by omega,E4,show (d+4294967296*0)%4294967296=d by omega]
  ·have pn : ∃ x,l[l.length-1]? = some x/\x≠0:=by
    rcases ht with ht|⟨x,hx,zu⟩
    ·cases ht
    ·refine ⟨x,?_,zu⟩
     have:l.length≠0:=λ e=>hl (List.eq_nil_of_length_eq_zero e)
     rw[List.length_cons,show l.length+1-1=(l.length-1)+1 by omega,List.getElem?_cons_succ]at hx;exact hx
   have Nw:=ih h.tail (Or.inr pn);have Mh:val l≠0:=by
    intro e;rw[e,E4]at Nw;exact hl Nw.symm
   rw[PB,I4 (by omega),show (d+4294967296*val l)/4294967296=val l by omega,Nw,show (d+4294967296*val l)%4294967296=d by omega]
theorem GE {l:List Nat} (h:A1 l) {n:Nat} (hn:n<=l.length) (hz : ∀ i,n<=i->i<l.length->l[i]? = some 0) (ht:n=0 \/ ∃ d,l[n-1]? = some d/\d≠0):l.take n=dg (val l):=by
 have hv:val l=val (l.take n):=by
  have h0:l.drop n=List.replicate (l.length-n) 0:=by
   apply List.ext_getElem?;intro i;rw[List.getElem?_drop,List.getElem?_replicate];by_cases hi:n+i<l.length
   ·rw[hz (n+i) (by omega) hi,if_pos (by omega)]
   ·rw[List.getElem?_eq_none (by omega),if_neg (by omega)]
  rw[J9 l n hn,h0,aK];omega
 rw[hv];refine (Wo (h.take n) ?_).symm;rcases ht with rfl|⟨d,hd,Dv⟩
 ·exact Or.inl (by simp)
 ·have o7:=(zS hd).1
  by_cases Gp:n=0
  ·subst Gp;exact Or.inl (by simp)
  ·refine Or.inr ⟨d,?_,Dv⟩
   rw[List.length_take,Nat.min_eq_left hn,List.getElem?_take,if_pos (by omega)];exact hd
theorem N6 {n k:Nat}:(dg n).length<=k↔n<4294967296^k:=by
 induction k generalizing n with
 | zero =>
  by_cases h:n=0
  ·subst h;simp [E4]
  ·rw[I4 h];simp;omega
 | succ k ih =>
  by_cases h:n=0
  ·subst h;simp [E4];exact Nat.pos_of_ne_zero (by simp)
  ·rw[I4 h,List.length_cons,Nat.succ_le_succ_iff,ih,Nat.pow_succ]
   rw[Nat.div_lt_iff_lt_mul (by omega)]
theorem EX {l:List Nat} (h:A1 l):(dg (val l)).length<=l.length:=N6.2 (E5 h)
theorem cG {n:Nat} (h:n≠0) : ∃ d,(dg n)[(dg n).length-1]? = some d/\d≠0:=by
 induction n using Nat.strongRecOn with
 | ind n ih =>
  rw[I4 h];by_cases h2:n/4294967296=0
  ·rw[h2,E4]
   exact ⟨n%4294967296,by simp,by omega⟩
  ·obtain ⟨d,hd,Dv⟩:=ih _ (by omega) h2
   refine ⟨d,?_,Dv⟩;have hl:(dg (n/4294967296)).length≠0:=λ e=>by rw[List.eq_nil_of_length_eq_zero e]at hd;simp at hd
   rw[List.length_cons,show (dg (n/4294967296)).length+1-1=(dg (n/4294967296)).length-1+1 by omega,List.getElem?_cons_succ];exact hd
theorem cE {n:Nat}:dg n=[]↔n=0:=by
 constructor
 ·intro h
  by_cases h0:n=0
  ·exact h0
  ·rw[I4 h0]at h;cases h
 ·rintro rfl;exact E4
theorem U4 {n:Nat} (h:n≠0):1<=(dg n).length:=by rw[I4 h];simp
theorem AgV {o:List Nat} {i v:Nat} (h:i<o.length):(o.set i v).take (i+1)=o.take i++[v]:=by
 rw[List.take_add_one,List.getElem?_set_self h,List.take_set_of_le (Nat.le_refl i)];rfl
theorem F3 {o:List Nat} {i v:Nat} (h:i<o.length):val ((o.set i v).take (i+1))=val (o.take i)+4294967296^i*v:=by
 rw[AgV h,NV,List.length_take,Nat.min_eq_left (by omega)]
theorem OR (V p t:Nat):V+p*(t%4294967296)+p*4294967296*(t/4294967296)=V+p*t:=by
 have h:=Nat.mod_add_div t 4294967296;have:p*(t%4294967296)+p*4294967296*(t/4294967296)=p*t:=by
  rw[Nat.mul_assoc,<-Nat.mul_add,h]
 omega
theorem DB {l:List Nat} {n:Nat} (h:l.length<=n):val (l.take n)=val l:=by rw[zT h]
theorem sY (i:Nat):1<=4294967296^i:=Nat.pos_of_ne_zero (by simp)
theorem G8 {l:List Nat} {i d:Nat} (h:l[i]? = some d):val (l.drop i)=d+4294967296*val (l.drop (i+1)):=by
 obtain ⟨hi,rfl⟩:=zS h;rw[List.drop_eq_getElem_cons hi,PB]
theorem aG {a b:List Nat} (ha:A1 a) (hb:A1 b) (hl:a.length=b.length) {i:Nat} {x y:Nat} (hx:a[i]? = some x) (hy:b[i]? = some y) (he:a.drop (i+1)=b.drop (i+1)) (h:x<y):val a<val b:=by
 have hia:=(zS hx).1;have hib:=(zS hy).1;rw[J9 a i (by omega),J9 b i (by omega),G8 hx,G8 hy,he];have h1:=E5 (ha.take i);rw[List.length_take,Nat.min_eq_left (by omega)]at h1;generalize val (b.drop (i+1))=r;generalize 4294967296^i=p at *;have:p*(x+4294967296*r)+p<=p*(y+4294967296*r):=by
  rw[<-Nat.mul_succ];exact Nat.mul_le_mul_left p (by omega)
 omega
theorem aH {o:List Nat} {k v old:Nat} (h:o[k]? = some old):val (o.set k v)+4294967296^k*old=val o+4294967296^k*v:=by
 have hk:=(zS h).1;have h1:val (o.set k v)=val (o.take k)+4294967296^k*(v+4294967296*val (o.drop (k+1))):=by
  rw[J9 (o.set k v) k (by simp;omega),List.take_set_of_le (Nat.le_refl k),G8 (l:=o.set k v) (d:=v) (by rw[List.getElem?_set_self hk]),List.drop_set_of_lt (by omega)]
 have h2:val o=val (o.take k)+4294967296^k*(old+4294967296*val (o.drop (k+1))):=by
  rw[J9 o k (by omega),G8 h]
 rw[h1,h2,Nat.mul_add,Nat.mul_add];omega
theorem WJ {l:List Nat} (h:A1 l):l.take (dg (val l)).length=dg (val l):=by
 induction l with
 | nil=>rw[IZ,E4];rfl
 | cons d l ih =>
  have h1:=h.head;by_cases h0:val (d::l)=0
  ·rw[h0,E4];rfl
  ·rw[I4 h0,PB,show (d+4294967296*val l)/4294967296=val l by omega,show (d+4294967296*val l)%4294967296=d by omega,List.length_cons,List.take_succ_cons,ih h.tail]
theorem T5 {a b:Nat} (h:(dg a).length<(dg b).length):a<b:=by
 have h1:a<4294967296^(dg a).length:=N6.1 (Nat.le_refl _);have h2 : ¬ b<4294967296^((dg b).length-1):=λ h3=>by have:=N6.2 h3;omega
 have h3:4294967296^(dg a).length<=4294967296^((dg b).length-1):=Nat.pow_le_pow_right (by omega) (by omega);omega
def aS (a b c d:Int):Prop:=(0<=a/\b<=0/\c<=0/\0<=d)\/(a<=0/\0<=b/\0<=c/\d<=0)
structure QP (P Q a b c d p q:Int):Prop where
 hp:p=a*P+b*Q
 hq:q=c*P+d*Q
 sg:aS a b c d
 pa:0<=p+a
 pb:0<=p+b
 qc:0<=q+c
 qd:0<=q+d
theorem QP.start {P Q:Int} (hP:0<=P) (hQ:0<=Q):QP P Q 1 0 0 1 P Q :=
 ⟨by omega,by omega,Or.inl (by omega),by omega,by omega,by omega,by omega⟩
def UC (P Q a b c d:Int):Prop := ∀ x y K e1 e2:Int,0<K->x=K*P+e1->y=K*Q+e2->0<=e1->e1<=K->0<=e2->e2<=K ->
 0<=c*x+d*y/\c*x+d*y<a*x+b*y/\a*x+b*y<=y/\Int.gcd (a*x+b*y) (c*x+d*y)=Int.gcd x y
def SP (P Q a b c d:Int):Prop := ∀ x y K e1 e2:Int,0<K->x=K*P+e1->y=K*Q+e2->0<=e1->e1<=K->0<=e2->e2<=K ->
 c*x+d*y<=y/\Int.gcd (a*x+b*y) (c*x+d*y)=Int.gcd x y
theorem SP.start (P Q:Int):SP P Q 1 0 0 1:=by
 intro x y K e1 e2 _ _ _ _ _ _ _;simp
theorem UC.half {P Q a b c d:Int} (h:UC P Q a b c d):SP P Q a b c d:=λ x y K e1 e2 h1 h2 h3 h4 h5 h6 h7=>by
 obtain ⟨g1,g2,g3,g4⟩:=h x y K e1 e2 h1 h2 h3 h4 h5 h6 h7;exact ⟨by omega,g4⟩
theorem Zp (X Y f:Int):Int.gcd Y (X-f*Y)=Int.gcd X Y:=by
 rw[Int.gcd_comm X Y];exact Int.gcd_sub_mul_right_right Y X f
theorem QP.step {P Q a b c d p q f:Int} (h:QP P Q a b c d p q) (hc:q+c≠0) (hd:q+d≠0) (h1:f=(p+a)/(q+c)) (h2:f=(p+b)/(q+d)) :
  QP P Q c d (a-f*c) (b-f*d) q (p-f*q)/\0<=f/\p-f*q<q/\(SP P Q a b c d->UC P Q c d (a-f*c) (b-f*d)):=by
 have c0:0<q+c:=by have:=h.qc;omega
 have d0:0<q+d:=by have:=h.qd;omega
 have f0:0<=f:=by rw[h1];exact Int.ediv_nonneg h.pa h.qc
 have m1:p-f*q+(a-f*c)=(p+a)%(q+c):=by
  have:=Int.emod_add_mul_ediv (p+a) (q+c)
  rw[<-h1]at this;grind
 have m2:p-f*q+(b-f*d)=(p+b)%(q+d):=by
  have:=Int.emod_add_mul_ediv (p+b) (q+d)
  rw[<-h2]at this;grind
 have n1:0<=p-f*q+(a-f*c):=by rw[m1];exact Int.emod_nonneg _ hc
 have n2:0<=p-f*q+(b-f*d):=by rw[m2];exact Int.emod_nonneg _ hd
 have n3:p-f*q+(a-f*c)<q+c:=by rw[m1];exact Int.emod_lt_of_pos _ c0
 have n4:p-f*q+(b-f*d)<q+d:=by rw[m2];exact Int.emod_lt_of_pos _ d0
 have Ea:p-f*q=(a-f*c)*P+(b-f*d)*Q:=by rw[h.hp,h.hq];grind
 have mq:aS c d (a-f*c) (b-f*d):=by
  rcases h.sg with ⟨s1,s2,s3,s4⟩|⟨s1,s2,s3,s4⟩
  ·have t1:f*c<=0:=Int.mul_nonpos_of_nonneg_of_nonpos f0 s3
   have t2:0<=f*d:=Int.mul_nonneg f0 s4;exact Or.inr (by omega)
  ·have t1:0<=f*c:=Int.mul_nonneg f0 s3
   have t2:f*d<=0:=Int.mul_nonpos_of_nonneg_of_nonpos f0 s4;exact Or.inl (by omega)
 have o7:p-f*q<q:=by
  rcases mq with ⟨s1,s2,s3,s4⟩|⟨s1,s2,s3,s4⟩
  ·omega
  ·omega
 refine ⟨⟨h.hq,Ea,mq,h.qc,h.qd,n1,n2⟩,f0,o7,λ hh => ?_⟩;intro x y K e1 e2 hK hx hy a1 a2 b1 b2;obtain ⟨k1,k2⟩:=hh x y K e1 e2 hK hx hy a1 a2 b1 b2;have eY:c*x+d*y=K*q+c*e1+d*e2:=by rw[hx,hy,h.hq];grind
 have eX:(a-f*c)*x+(b-f*d)*y=K*(p-f*q)+(a-f*c)*e1+(b-f*d)*e2:=by rw[hx,hy,Ea];grind
 have eS:(a-f*c)*x+(b-f*d)*y=(a*x+b*y)-f*(c*x+d*y):=by grind
 generalize hE:a-f*c=E at *;generalize hG:b-f*d=G at *;generalize Eb:p-f*q=q2 at *;have key:0<=E*x+G*y/\E*x+G*y<c*x+d*y:=by
  rw[eX,eY];rcases mq with ⟨s1,s2,s3,s4⟩|⟨s1,s2,s3,s4⟩
  ·-- c≥0,d<=0,E<=0,G≥0
   have t1:E*K<=E*e1:=Int.mul_le_mul_of_nonpos_left s3 a2;have t2:0<=G*e2:=Int.mul_nonneg s4 b1;have t3:0<=K*(q2+E):=Int.mul_nonneg (by omega) n1;have t4:(G-d)*e2<=(G-d)*K:=Int.mul_le_mul_of_nonneg_left b2 (by omega);have t5:(E-c)*e1<=0:=Int.mul_nonpos_of_nonpos_of_nonneg (by omega) a1;have t6:0<K*((q+d)-(q2+G)):=Int.mul_pos hK (by omega);constructor
   ·grind
   ·grind
  ·have t1:G*K<=G*e2:=Int.mul_le_mul_of_nonpos_left s4 b2
   have t2:0<=E*e1:=Int.mul_nonneg s3 a1;have t3:0<=K*(q2+G):=Int.mul_nonneg (by omega) n2;have t4:(E-c)*e1<=(E-c)*K:=Int.mul_le_mul_of_nonneg_left a2 (by omega);have t5:(G-d)*e2<=0:=Int.mul_nonpos_of_nonpos_of_nonneg (by omega) b1;have t6:0<K*((q+c)-(q2+E)):=Int.mul_pos hK (by omega);constructor
   ·grind
   ·grind
 refine ⟨key.1,key.2,k1,?_⟩;rw[<-k2,eS];exact Zp _ _ _
end Go.g6

namespace Go.g6
section
variable {U V UL VL p u0 u1 u2 v1 v2 top q r:Nat}
theorem Zx (hU:U=UL+p*(u2+4294967296*top)) (hV:V=VL+p*(v2+4294967296*v1)) (hl:UL<p) (h2:u2<4294967296) (bu:0<V):U/V*v1<=top:=by
 have h1:U/V*V<=U:=Nat.div_mul_le_self U V;generalize U/V=Q at *;have h3:U<p*(4294967296*(top+1)):=by
  have:p*(u2+4294967296*top)+p<=p*(4294967296*(top+1)):=by
   rw[<-Nat.mul_succ];exact Nat.mul_le_mul_left p (by omega)
  omega
 have h4:p*(4294967296*(Q*v1))<=Q*V:=by
  have e:Q*V=Q*VL+Q*(p*v2)+p*(4294967296*(Q*v1)):=by rw[hV];grind
  omega
 have h5:p*(4294967296*(Q*v1))<p*(4294967296*(top+1)):=by omega
 have:=Nat.lt_of_mul_lt_mul_left h5
 omega
theorem Zw (hU:U=UL+p*(u2+4294967296*top)) (hV:V=VL+p*(v2+4294967296*v1)) (hl:UL<p) (hq:q*v1+r=top) (h:r*4294967296+u2<q*v2) (bu:0<V):U/V<q:=by
 rw[Nat.div_lt_iff_lt_mul bu];have e:q*V=q*VL+p*(q*v2+4294967296*(q*v1)):=by rw[hV];grind
 have h1:p*(u2+4294967296*top)+p<=p*(q*v2+4294967296*(q*v1)):=by
  rw[<-Nat.mul_succ];exact Nat.mul_le_mul_left p (by omega)
 omega
theorem Zv (h:U<4294967296*V) (hq:4294967296<=q) (bu:0<V):U/V<q:=by
 have:U/V<4294967296:=(Nat.div_lt_iff_lt_mul bu).2 h
 omega
theorem pQ (hU:U=UL+p*(u2+4294967296*top)) (hV:V=VL+p*(v2+4294967296*v1)) (Cb:VL<p) (h1:2147483648<=v1) (hq:q*v1+r=top) (h:q*v2<=r*4294967296+u2) (hqB:q<4294967296):q<=U/V+1:=by
 have bu:0<V:=by
  have:p*4294967296<=p*(v2+4294967296*v1):=Nat.mul_le_mul_left p (by omega)
  omega
 by_cases h0:q=0
 ·subst h0;exact Nat.zero_le _
 have e:q*V=q*VL+p*(q*v2+4294967296*(q*v1)):=by rw[hV];grind
 have h2:p*(q*v2+4294967296*(q*v1))<=p*(u2+4294967296*top):=Nat.mul_le_mul_left p (by omega);have h3:q*VL<V:=by
  have a1:q*VL<=4294967296*VL:=zR _ (by omega);have a2:p*4294967296<=p*(v2+4294967296*v1):=Nat.mul_le_mul_left p (by omega);omega
 have h4:(q-1)*V<U+1:=by
  have:(q-1)*V+V=q*V:=by
   have:q=q-1+1:=by omega
   rw[<-Nat.succ_mul,Nat.succ_eq_add_one,<-this]
  omega
 have h5:q-1<=U/V:=(Nat.le_div_iff_mul_le bu).2 (by omega);omega
end
theorem mF {U V U' q:Nat} (bu:0<V) (h1:U/V<=q) (h:U'+q*V=U):q=U/V/\U'=U%V:=by
 have h2:q*V<=U:=by omega
 have h3:q<=U/V:=(Nat.le_div_iff_mul_le bu).2 h2;have h4:q=U/V:=by omega
 have:=Nat.div_add_mod U V
 rw[Nat.mul_comm,<-h4]at this;exact ⟨h4,by omega⟩
theorem mE {U V U' q P:Nat} (bu:0<V) (h2:q<=U/V+1) (Dt:U'<P) (h:U'+q*V=U+P):q-1=U/V/\1<=q/\U'+V=U%V+P:=by
 have h3:U/V*V<=U:=Nat.div_mul_le_self U V;have h4:U/V<q:=by
  rcases Nat.lt_or_ge (U/V) q with h|h
  ·exact h
  ·have:q*V<=U/V*V:=zR _ h
   omega
 have h6:=Nat.div_add_mod U V;rw[Nat.mul_comm]at h6;generalize U/V=Q at *;generalize U%V=R at *;obtain rfl:q=Q+1:=by omega
 rw[Nat.add_mul,Nat.one_mul]at h;exact ⟨by omega,by omega,by omega⟩
theorem Z7 {u pl bw:Nat} (hu:u<4294967296) (hp:pl<4294967296) (hb:bw<=1):EP (EP u pl) bw%4294967296+pl+bw=u+4294967296*(EP (EP u pl) bw/9223372036854775808)/\EP (EP u pl) bw/9223372036854775808<=1:=by
 rw[SF,SF];omega
theorem Ahp {d e bw:Nat} (hu:d<4294967296) (hp:e<4294967296) (hb:bw<=1):EP (EP d bw) e%4294967296+e+bw=d+4294967296*(EP (EP d bw) e/9223372036854775808)/\EP (EP d bw) e/9223372036854775808<=1:=by
 rw[SF,SF];omega
theorem Aho {d bw:Nat} (hu:d<4294967296) (hb:bw<=1):EP d bw%4294967296+bw=d+4294967296*(EP d bw/9223372036854775808)/\EP d bw/9223372036854775808<=1:=by
 rw[SF];omega
theorem vL {V Y X p D e bw du d:Nat} (h:V+Y=X+p*bw) (hd:D+e+bw=d+4294967296*du):V+p*D+(Y+p*e)=X+p*d+p*4294967296*du:=by
 have h2:p*D+p*e+p*bw=p*d+p*4294967296*du:=by
  rw[<-Nat.mul_add,<-Nat.mul_add,hd,Nat.mul_add,Nat.mul_assoc]
 omega
theorem TK {a b:Nat} (ha:a<4294967296) (hb:b<4294967296):a*b<=18446744065119617025 :=
 Nat.mul_le_mul (show a<=4294967295 by omega) (show b<=4294967295 by omega)
theorem mH {X Y s:Nat} (hs:0<s):X*s/(Y*s)=X/Y/\X*s%(Y*s)/s=X%Y:=by
 refine ⟨Nat.mul_div_mul_right X Y hs,?_⟩;rw[Nat.mul_mod_mul_right,Nat.mul_div_cancel _ hs]
end Go.g6

namespace Go.g6
@[irreducible] def O8 (d s : Nat) : Nat := d * 2 ^ s % 4294967296
@[irreducible] def R4 (d s : Nat) : Nat := d * 2 ^ s / 4294967296
theorem gW (d s:Nat):O8 d s=d*2^s%4294967296:=by unfold O8;rfl
theorem R5 (d s:Nat):R4 d s=d*2^s/4294967296:=by unfold R4;rfl
theorem QE {s:Nat} (hs:s<=32):4294967296=2^s*2^(32-s):=by
 rw[<-Nat.pow_add,show s+(32-s)=32 by omega]
theorem AgY (d s:Nat):O8 d s+4294967296*R4 d s=d*2^s:=by
 rw[gW,R5];exact Nat.mod_add_div _ _
theorem uJ {d s:Nat} (hs:s<=32):O8 d s=2^s*(d%2^(32-s)):=by
 rw[gW,QE hs,Nat.mul_comm d,Nat.mul_mod_mul_left]
theorem uI {d s:Nat} (hs:s<=32):R4 d s=d/2^(32-s):=by
 rw[R5,QE hs,Nat.mul_comm d,Nat.mul_div_mul_left _ _ (Nat.two_pow_pos s)]
theorem R6 {d s:Nat} (hd:d<4294967296) (hs:s<=32):O8 d s%2^s=0/\R4 d s<2^s/\O8 d s+2^s<=4294967296/\d*2^s<=18446744073709551615:=by
 refine ⟨by rw[uJ hs,Nat.mul_mod_right],?_,?_,?_⟩
 ·rw[uI hs,Nat.div_lt_iff_lt_mul (Nat.two_pow_pos _),<-Nat.pow_add,show s+(32-s)=32 by omega];exact hd
 ·rw[uJ hs]
  have h1:d%2^(32-s)+1<=2^(32-s):=Nat.mod_lt _ (Nat.two_pow_pos _);have h2:=Nat.mul_le_mul_left (2^s) h1;rw[Nat.mul_add,Nat.mul_one,<-QE hs]at h2;exact h2
 ·have h1:2^s<=2^32:=Nat.pow_le_pow_right (by omega) hs
  have h2:d*2^s<=4294967295*4294967296:=Nat.mul_le_mul (by omega) h1;omega
theorem V0 {s:Nat} (hs:s<=32):2^s<=4294967296:=(Nat.pow_le_pow_right (by omega) hs:2^s<=2^32)
theorem rB {V X p lo s d:Nat} (h:V+p*lo=X*2^s):V+p*(O8 d s+lo)+p*4294967296*R4 d s=(X+p*d)*2^s:=by
 have h1:=AgY d s;have h2:p*(O8 d s+lo)+p*4294967296*R4 d s=p*lo+p*(d*2^s):=by
  rw[<-h1];grind
 rw[Nat.add_mul,<-h,Nat.mul_assoc p d];omega
theorem eT {d V s:Nat} (hs:s<=32):(d+4294967296*V)/2^s=d/2^s+V%2^s*2^(32-s)+4294967296*(V/2^s):=by
 have e:4294967296*V=2^s*(2^(32-s)*V):=by rw[<-Nat.mul_assoc,<-QE hs]
 rw[e,Nat.add_mul_div_left _ _ (Nat.two_pow_pos s)];have h:=Nat.mod_add_div V (2^s);have h2:2^(32-s)*V=V%2^s*2^(32-s)+4294967296*(V/2^s):=by
  have h3:2^(32-s)*V=2^(32-s)*(V%2^s+2^s*(V/2^s)):=by rw[h]
  rw[h3,QE hs];grind
 omega
theorem rG {d V s:Nat} (hs:s<=32):(d+4294967296*V)%2^s=d%2^s:=by
 have e:4294967296*V=2^s*(2^(32-s)*V):=by rw[<-Nat.mul_assoc,<-QE hs]
 rw[e,Nat.add_mul_mod_self_left]
theorem AeS {d s:Nat} (hs:s<=32):d*2^(32-s)%4294967296=d%2^s*2^(32-s):=by
 have e:4294967296=2^s*2^(32-s):=QE hs;rw[e,Nat.mul_mod_mul_right]
theorem rF {d V s:Nat} (hd:d<4294967296) (hs:s<=32):d/2^s<2^(32-s)/\V%2^s*2^(32-s)%2^(32-s)=0/\V%2^s*2^(32-s)+2^(32-s)<=4294967296:=by
 refine ⟨?_,Nat.mul_mod_left _ _,?_⟩
 ·rw[Nat.div_lt_iff_lt_mul (Nat.two_pow_pos _),<-Nat.pow_add,show 32-s+s=32 by omega];exact hd
 ·have h1:V%2^s+1<=2^s:=Nat.mod_lt _ (Nat.two_pow_pos _)
  have h2:=zR (2^(32-s)) h1;rw[Nat.add_mul,Nat.one_mul,<-QE hs]at h2;exact h2
def u7 (x:Nat):Nat:=if x=0 then 0 else x.log2+1
theorem kO {x:Nat} (h:x≠0):2^(u7 x-1)<=x/\x<2^u7 x/\1<=u7 x:=by
 unfold u7;rw[if_neg h];exact ⟨Nat.log2_self_le h,Nat.lt_log2_self,by omega⟩
theorem XH {x k:Nat} (h:x<2^k):u7 x<=k:=by
 by_cases h0:x=0
 ·subst h0;unfold u7;simp
 ·obtain ⟨h1,_,h3⟩:=kO h0
  have h2:2^(u7 x-1)<2^k:=by omega
  have:=(Nat.pow_lt_pow_iff_right (by omega)).1 h2
  omega
theorem UQ {x:Nat} (n:Nat) (h:2^n<=x):u7 (x/2^n)+n=u7 x:=by
 have hp:=Nat.two_pow_pos n;have hx:x≠0:=by omega
 have hq:x/2^n≠0:=by have:=Nat.div_pos h hp;omega
 unfold u7;rw[if_neg hx,if_neg hq];have:(x/2^n).log2+n=x.log2:=by
  symm
  rw[Nat.log2_eq_iff hx];have h1:=Nat.log2_self_le hq;have h2:x/2^n<2^((x/2^n).log2+1):=Nat.lt_log2_self;rw[Nat.le_div_iff_mul_le hp,<-Nat.pow_add]at h1;rw[Nat.div_lt_iff_lt_mul hp,<-Nat.pow_add]at h2;exact ⟨h1,by rw[show (x/2^n).log2+n+1=(x/2^n).log2+1+n by omega];exact h2⟩
 omega
theorem eU {x:Nat} (h0:x≠0) (hx:x<4294967296):u7 x<=32/\1<=u7 x/\2147483648<=x*2^(32-u7 x)/\x*2^(32-u7 x)<4294967296:=by
 obtain ⟨h1,h2,h3⟩:=kO h0;have hk:u7 x<=32:=XH (k:=32) hx;refine ⟨hk,h3,?_,?_⟩
 ·have:=zR (2^(32-u7 x)) h1
  rw[<-Nat.pow_add,show u7 x-1+(32-u7 x)=31 by omega]at this;exact this
 ·have:=Nat.mul_lt_mul_of_pos_right h2 (Nat.two_pow_pos (32-u7 x))
  rw[<-Nat.pow_add,show u7 x+(32-u7 x)=32 by omega]at this;exact this
end Go.g6

































namespace Go.g6
open Go.RowKit
theorem HB (b o n:Nat):(⟨b,o,none⟩:Addr).add n=⟨b,o+n,none⟩:=by
 unfold Addr.add;split<;>simp_all
inductive Rd (w:World) (R:Bool->Nat->Prop):AV->Value->Prop
 | int (k:IntKind) (n:Int):Rd w R (.int k n) (.int k n)
 | bool (b:Bool):Rd w R (.bool b) (.bool b)
 | str (s:ByteArray):Rd w R (.dm (.string s)) (.string s)
 | my:Rd w R (.dm .nilFunc) .nilFunc
 | ke (l:Bool) (a:Option Addr) (cap:Nat):Rd w R (.sl l []) (.slice a 0 cap)
 | emp (b:Bool) (a:Option Addr) (cap:Nat) (h:a.isNone=b):Rd w R (.dm (.bool b)) (.slice a 0 cap)
 | sl (l:Bool) (es:List (List AV)) (b o a9 cap:Nat) (u:Nat->Nat->Value) (n9:es≠[]) (hp:0<a9) (hR:R l b) (bq:es.length<=cap) (hz : ∀ e∈es,e.length=a9)
   (hc : ∀ i e,es[i]? = some e -> ∀ j c,e[j]? = some c->w.cell? ⟨b,o+(i*a9+j),none⟩=some (u i j))
   (hr : ∀ i e,es[i]? = some e -> ∀ j c,e[j]? = some c->Rd w R c (u i j)) :
   Rd w R (.sl l es) (.slice (some ⟨b,o,none⟩) es.length cap)
theorem Rd.one {w:World} {R:Bool->Nat->Prop} {a:AV} {v:Value} (h:Rd w R a v):v.oneCell'=true:=by
 cases h<;>rfl
theorem Q0 {w:World} {a:Addr} {u:Value} (h:w.cell? a=some u):a.block<w.heap.size:=by
 unfold World.cell? at h;split at h
 ·rename_i hh
  exact (Array.getElem?_eq_some_iff.1 hh).1
 ·cases h
theorem VK {es:List (List AV)} {a9:Nat} (n9:es≠[]) (hp:0<a9) (hz : ∀ e∈es,e.length=a9) : ∃ e c,es[0]? = some e/\e[0]? = some c:=by
 cases es with
 | nil=>exact absurd rfl n9
 | cons e r =>
  have:=hz e (by simp)
  cases e with
  | nil=>simp at this;omega
  | cons c q=>exact ⟨c::q,c,rfl,rfl⟩
theorem Rd.mono {w w':World} {R R':Bool->Nat->Prop} (hR : ∀ l b,b<w.heap.size->R l b->R' l b)
  (hw : ∀ l b,b<w.heap.size->R l b->w'.heap[b]? = w.heap[b]?) {a:AV} {v:Value} (h:Rd w R a v):Rd w' R' a v:=by
 induction h with
 | int k n=>exact .int k n
 | bool b=>exact .bool b
 | str s=>exact .str s
 | my=>exact .my
 | ke l a cap=>exact .ke l a cap
 | emp b a cap h=>exact .emp b a cap h
 | sl l es b o a9 cap u n9 hp h1 bq hz hc hr ih =>
  obtain ⟨e,c,he,gi⟩:=VK n9 hp hz;have hb:b<w.heap.size:=Q0 (hc 0 e he 0 c gi);refine .sl l es b o a9 cap u n9 hp (hR l b hb h1) bq hz (λ i e he j c uv => ?_) ih;rw[World.cell?_of_block (w:=w) (hw l b hb h1)];exact hc i e he j c uv
structure M where
 ν:Nat->Nat->Option Nat
 own:AH
 w:World
section
variable (B:Nat) (S:Nat->Prop)
def safe (m:M) (l:Bool) (b:Nat):Prop :=
 (S b/\b<B)\/(B<=b /\ ∀ s t,(m.own.get s t).isSome=true->m.ν s t≠some b)\/(l=true/\b<B)
inductive CC (m:M):AV->Value->Prop
 | rd {a:AV} {v:Value} (h:Rd m.w (safe B S m) a v):CC m a v
 | nil:CC m .nil (.slice none 0 0)
 | row (s t z off len:Nat) (a:Option Addr) (cap:Nat) (ht:t<m.own.j6 s) (ep:0<z) (pf:len<=cap) (ha:0<len->a.isSome=true)
   (h : ∀ b,m.own.get s t=some b->b.a9=z/\((len=0/\cap=0) \/ ∃ g arr e,m.ν s t=some g/\a=some ⟨g,off*z,none⟩/\m.w.heap[g]? = some (.cells arr e (0,0))/\(off+cap)*z<=arr.size)) :
   CC m (.row s t z off len) (.slice a len cap)
 | ptr (s t i j:Nat) (a:Addr) (ht:t<m.own.j6 s) (h : ∀ b,m.own.get s t=some b -> ∃ g,m.ν s t=some g/\a=⟨g,i*b.a9+j,none⟩):CC m (.ptr s t i j) (.pointer (some a))
 | w6 (cs:List AV) (b o:Nat) (u:Nat->Value) (l:Bool) (hR:cs≠[]->safe B S m l b) (hc : ∀ j c,cs[j]? = some c->m.w.cell? ⟨b,o+j,none⟩=some (u j)) (hr : ∀ j c,cs[j]? = some c->Rd m.w (safe B S m) c (u j)) :
   CC m (.w6 cs) (.pointer (some ⟨b,o,none⟩))
def CL (m:M) (cs:List AV) (vs:List Value):Prop:=cs.length=vs.length /\ ∀ (j:Nat) (c:AV) (v:Value),cs[j]? = some c->vs[j]? = some v->CC B S m c v
inductive CA (m:M):AV->Value->Prop
 | one {a:AV} {v:Value} (h:CC B S m a v):CA m a v
 | agg (cs:List AV) (vs:List Value) (h:CL B S m cs vs):CA m (.agg cs) (.agg vs.toArray)
 | fn (p:Bool) (f g:Nat) (cs:List AV) (vs:List Value) (hp:p=true->cs=[]) (h:CL B S m cs vs):CA m (.fn p f g cs) (.func (.func g) #[] vs.toArray)
 | wg (f g:Nat) (cs:List AV) (vs:List Value) (hp:cs≠[]) (h:CL B S m cs vs):CA m (.fn true f g cs) (.func (.func g) #[.agg vs.toArray] #[])
inductive CV (m:M):AV->Value->Prop
 | any (v:Value):CV m .any v
 | ca {a:AV} {v:Value} (h:CA B S m a v):CV m a v
 | g9 (as:List AV) (vs:List Value) (hl:as.length=vs.length) (h : ∀ (j:Nat) (c:AV) (v:Value),as[j]? = some c->vs[j]? = some v->CA B S m c v):CV m (.g9 as) (.tuple vs.toArray)
def yA (m:M) (s t:Nat) (b:D7):Prop :=
 (∀ e∈b.es,e.length=b.a9)/\match m.ν s t with
  | none=>b.es=[]
  | some g=>B<=g /\ ∃ arr e,m.w.heap[g]? = some (.cells arr e (0,0)) /\
    ∀ i cs,b.es[i]? = some cs -> ∀ j c,cs[j]? = some c -> ∃ u,arr[i*b.a9+j]? = some u/\CC B S m c u
structure BP (w0:World) (m:M):Prop where
 below:Below B w0 m.w
 size:B<=m.w.heap.size
 fresh : ∀ s t,m.own.j6 s<=t->m.own.get s t=none
 g8 : ∀ s t b,m.own.get s t=some b->yA B S m s t b
 inj : ∀ s t s' t' b b' g,m.own.get s t=some b->m.own.get s' t'=some b'->m.ν s t=some g->m.ν s' t'=some g->s=s'/\t=t'
structure DM (m m':M):Prop where
 size:m.w.heap.size<=m'.w.heap.size
 xx : ∀ b,b<m.w.heap.size->safe B S m true b->m'.w.heap[b]? = m.w.heap[b]?
 Bl : ∀ l b,b<m.w.heap.size->safe B S m l b->safe B S m' l b
 j6 : ∀ s,m.own.j6 s<=m'.own.j6 s
 name : ∀ s t b',t<m.own.j6 s->m'.own.get s t=some b' -> ∃ b,m.own.get s t=some b/\b'.a9=b.a9/\m'.ν s t=m.ν s t /\
   ∀ g arr e,m.ν s t=some g->m.w.heap[g]? = some (.cells arr e (0,0)) -> ∃ x9,m'.w.heap[g]? = some (.cells x9 e (0,0))/\x9.size=arr.size
end
section
variable {B:Nat} {S:Nat->Prop}
theorem gV {m:M} {l:Bool} {b:Nat} (h:safe B S m l b):safe B S m true b:=by
 rcases h with h|h|⟨_,h⟩
 ·exact .inl h
 ·exact .inr (.inl h)
 ·exact .inr (.inr ⟨rfl,h⟩)
theorem DM.rd {m m':M} (h:DM B S m m') {a:AV} {v:Value} (hr:Rd m.w (safe B S m) a v):Rd m'.w (safe B S m') a v :=
 hr.mono h.Bl (λ_ b hb hs=>h.xx b hb (gV hs))
theorem DM.cc {m m':M} (h:DM B S m m') {a:AV} {v:Value} (hc:CC B S m a v):CC B S m' a v:=by
 cases hc with
 | rd hr=>exact .rd (h.rd hr)
 | nil=>exact .nil
 | row s t z off len a cap ht ep pf ha hb =>
  refine .row s t z off len a cap (Nat.lt_of_lt_of_le ht (h.j6 s)) ep pf ha λ b' n6 => ?_
  obtain ⟨b,h1,h2,h3,h4⟩:=h.name s t b' ht n6;obtain ⟨hz,df⟩:=hb b h1;refine ⟨h2.trans hz,?_⟩;rcases df with h0|⟨g,arr,e,hg,mi,hh,hle⟩
  ·exact .inl h0
  ·obtain ⟨x9,Kj,qy⟩:=h4 g arr e hg hh
   exact .inr ⟨g,x9,e,h3.trans hg,mi,Kj,qy ▸ hle⟩
 | ptr s t i j a ht hb =>
  refine .ptr s t i j a (Nat.lt_of_lt_of_le ht (h.j6 s)) λ b' n6 => ?_
  obtain ⟨b,h1,h2,h3,_⟩:=h.name s t b' ht n6;obtain ⟨g,hg,mi⟩:=hb b h1;exact ⟨g,h3.trans hg,h2 ▸ mi⟩
 | w6 cs b o u l hR hc hr =>
  have o7:cs≠[]->b<m.w.heap.size:=λ n9=>by
   cases cs with
   | nil=>exact absurd rfl n9
   | cons c r=>exact Q0 (hc 0 c rfl)
  refine .w6 cs b o u l (λ n9=>h.Bl l b (o7 n9) (hR n9)) (λ j c hj => ?_) (λ j c hj=>h.rd (hr j c hj));have n9:cs≠[]:=λ e=>by subst e;simp at hj
  rw[World.cell?_of_block (w:=m.w) (h.xx b (o7 n9) (gV (hR n9)))];exact hc j c hj
theorem DM.cl {m m':M} (h:DM B S m m') {cs:List AV} {vs:List Value} (hc:CL B S m cs vs):CL B S m' cs vs :=
 ⟨hc.1,λ j c v h1 h2=>h.cc (hc.2 j c v h1 h2)⟩
theorem DM.ca {m m':M} (h:DM B S m m') {a:AV} {v:Value} (hc:CA B S m a v):CA B S m' a v:=by
 cases hc with
 | one hc=>exact .one (h.cc hc)
 | agg cs vs hc=>exact .agg cs vs (h.cl hc)
 | fn p f g cs vs hp hc=>exact .fn p f g cs vs hp (h.cl hc)
 | wg f g cs vs hp hc=>exact .wg f g cs vs hp (h.cl hc)
theorem DM.cv {m m':M} (h:DM B S m m') {a:AV} {v:Value} (hc:CV B S m a v):CV B S m' a v:=by
 cases hc with
 | any v=>exact .any v
 | ca hc=>exact .ca (h.ca hc)
 | g9 as vs hl hc=>exact .g9 as vs hl λ j c v h1 h2=>h.ca (hc j c v h1 h2)
theorem DM.refl (m:M):DM B S m m :=
 ⟨Nat.le_refl _,λ_ _ _=>rfl,λ_ _ _ h=>h,λ_=>Nat.le_refl _,λ_ _ b' _ h=>⟨b',h,rfl,rfl,λ_ arr _ _ h=>⟨arr,h,rfl⟩⟩⟩
theorem DM.trans {m m' Qp:M} (h:DM B S m m') (k:DM B S m' Qp):DM B S m Qp where
 size:=Nat.le_trans h.size k.size
 xx b hb hs:=(k.xx b (Nat.lt_of_lt_of_le hb h.size) (h.Bl true b hb hs)).trans (h.xx b hb hs)
 Bl l b hb hs:=k.Bl l b (Nat.lt_of_lt_of_le hb h.size) (h.Bl l b hb hs)
 j6 s:=Nat.le_trans (h.j6 s) (k.j6 s)
 name s t b'' ht Ks:=by
  obtain ⟨b',h1,h2,h3,h4⟩:=k.name s t b'' (Nat.lt_of_lt_of_le ht (h.j6 s)) Ks;obtain ⟨b,g1,g2,g3,g4⟩:=h.name s t b' ht h1;refine ⟨b,g1,h2.trans g2,h3.trans g3,λ g arr e hg ha => ?_⟩;obtain ⟨x9,Kj,qy⟩:=g4 g arr e hg ha;obtain ⟨Ew,Kk,Mt⟩:=h4 g x9 e (g3.trans hg) Kj;exact ⟨Ew,Kk,Mt.trans qy⟩
theorem CC.one {m:M} {a:AV} {v:Value} (h:CC B S m a v):v.oneCell'=true:=by
 cases h with
 | rd h=>exact h.one
 | _=>rfl
end
end Go.g6

namespace Go.g6
open Go.RowKit
section
variable {B:Nat} {S:Nat->Prop} {w0:World}
def live (m:M) (s t:Nat):Prop := ∃ b,m.own.get s t=some b
theorem BP.ge {m:M} (h:BP B S w0 m) {s t g:Nat} (hl:live m s t) (hg:m.ν s t=some g):B<=g /\ ∃ arr e,m.w.heap[g]? = some (.cells arr e (0,0)):=by
 obtain ⟨b,hb⟩:=hl;obtain ⟨_,h2⟩:=h.g8 s t b hb;rw[hg]at h2;obtain ⟨h3,arr,e,h4,_⟩:=h2;exact ⟨h3,arr,e,h4⟩
theorem RE {m m':M} (hm:BP B S w0 m) (hs:m.w.heap.size<=m'.w.heap.size)
  (hk : ∀ b,b<m.w.heap.size->(∀ s t,live m s t->m.ν s t≠some b)->m'.w.heap[b]? = m.w.heap[b]?) (Ci : ∀ s,m.own.j6 s<=m'.own.j6 s)
  (Gr : ∀ s t b',t<m.own.j6 s->m'.own.get s t=some b' -> ∃ b,m.own.get s t=some b/\b'.a9=b.a9/\m'.ν s t=m.ν s t /\
   ∀ g arr e,m.ν s t=some g->m.w.heap[g]? = some (.cells arr e (0,0)) -> ∃ x9,m'.w.heap[g]? = some (.cells x9 e (0,0))/\x9.size=arr.size)
  (ml : ∀ s t g,live m' s t->m'.ν s t=some g->g<m.w.heap.size -> ∃ s0 t0,live m s0 t0/\m.ν s0 t0=some g):DM B S m m':=by
 have Dy : ∀ b,safe B S m true b -> ∀ s t,live m s t->m.ν s t≠some b:=by
  intro b hb s t hl hg;have qo:=(hm.ge hl hg).1;rcases hb with ⟨_,h⟩|⟨_,h⟩|⟨_,h⟩
  ·omega
  ·obtain ⟨b',n6⟩:=hl
   exact h s t (by simp [n6]) hg
  ·omega
 refine ⟨hs,λ b hb xh=>hk b hb (Dy b xh),λ l b hb xh => ?_,Ci,Gr⟩;rcases xh with h|⟨h,hn⟩|h
 ·exact .inl h
 ·refine .inr (.inl ⟨h,λ s t hl hg => ?_⟩)
  obtain ⟨b',n6⟩:=Option.isSome_iff_exists.1 hl;obtain ⟨s0,t0,⟨b0,Ao⟩,Cq⟩:=ml s t b ⟨b',n6⟩ hg hb;exact hn s0 t0 (by simp [Ao]) Cq
 ·exact .inr (.inr h)
theorem grow {m:M} (hm:BP B S w0 m) {w':World} (hb:Below m.w.heap.size m.w w') :
  BP B S w0 ⟨m.ν,m.own,w'⟩/\DM B S m ⟨m.ν,m.own,w'⟩:=by
 have he:DM B S m ⟨m.ν,m.own,w'⟩:=by
  refine RE hm hb.size (λ b n6 _=>hb.block b n6) (λ_=>Nat.le_refl _) (λ s t b' _ n6=>⟨b',n6,rfl,rfl,λ g arr e hg ha=>⟨arr,?_,rfl⟩⟩) (λ s t g hl hg _=>⟨s,t,hl,hg⟩);have:g<m.w.heap.size:=(Array.getElem?_eq_some_iff.1 ha).1
  exact (hb.block g this).trans ha
 refine ⟨⟨hm.below.trans (hb.mono hm.size),Nat.le_trans hm.size hb.size,hm.fresh,λ s t b hg => ?_,hm.inj⟩,he⟩;obtain ⟨h1,h2⟩:=hm.g8 s t b hg;refine ⟨h1,?_⟩;show match m.ν s t with|none=>_|some g=>_
 cases hν:m.ν s t with
 | none=>rw[hν]at h2;exact h2
 | some g =>
  rw[hν]at h2;obtain ⟨h3,arr,e,h4,h5⟩:=h2;refine ⟨h3,arr,e,?_,λ i cs hi j c hj => ?_⟩
  ·exact (hb.block g (Array.getElem?_eq_some_iff.1 h4).1).trans h4
  ·obtain ⟨u,hu,ax⟩:=h5 i cs hi j c hj
   exact ⟨u,hu,he.cc ax⟩
theorem F7 (o:AH) (s s' t':Nat) (b:D7):(o.put s ((o s).new b)).get s' t'=if s'=s/\t'=o.j6 s then some b else o.get s' t':=by
 unfold AH.get AH.put CB.new AH.j6;by_cases h:s'=s
 ·subst h
  by_cases h2:t'=(o s').j6<;>simp [h2]
 ·simp [h]
theorem LB (o:AH) (s s':Nat) (b:D7):(o.put s ((o s).new b)).j6 s'=if s'=s then o.j6 s+1 else o.j6 s':=by
 unfold AH.j6 AH.put CB.new;by_cases h:s'=s<;>simp [h]
theorem VO (o:AH) (s t s' t':Nat) (b:Option D7):(o.put s ((o s).v7 t b)).get s' t'=if s'=s/\t'=t then b else o.get s' t':=by
 unfold AH.get AH.put CB.v7;by_cases h:s'=s
 ·subst h
  by_cases h2:t'=t<;>simp [h2]
 ·simp [h]
theorem lO (o:AH) (s t s':Nat) (b:Option D7):(o.put s ((o s).v7 t b)).j6 s'=o.j6 s':=by
 unfold AH.j6 AH.put CB.v7;by_cases h:s'=s<;>simp [h]
def j7 (m:M) (s:Nat) (g:Option Nat):Nat->Nat->Option Nat:=λ s' t'=>if s'=s/\t'=m.own.j6 s then g else m.ν s' t'
theorem Y7 {m:M} (hm:BP B S w0 m) (s:Nat) : ¬ live m s (m.own.j6 s):=λ⟨b,hb⟩=>by
 rw[hm.fresh s _ (Nat.le_refl _)]at hb;cases hb
theorem XG {m:M} (hm:BP B S w0 m) (s:Nat) (b:D7) (arr:Array Value) (e:TypeId) (hz : ∀ x∈b.es,x.length=b.a9)
  (hc : ∀ i cs,b.es[i]? = some cs -> ∀ j c,cs[j]? = some c -> ∃ u,arr[i*b.a9+j]? = some u/\CC B S m c u) :
  BP B S w0 ⟨j7 m s (some m.w.heap.size),m.own.put s ((m.own s).new b),m.w.alloc (.cells arr e)⟩ /\
  DM B S m ⟨j7 m s (some m.w.heap.size),m.own.put s ((m.own s).new b),m.w.alloc (.cells arr e)⟩:=by
 have ag:(m.w.alloc (.cells arr e)).heap.size=m.w.heap.size+1:=by simp
 have hν : ∀ s' t',live m s' t'->j7 m s (some m.w.heap.size) s' t'=m.ν s' t':=λ s' t' hl=>by
  unfold j7;rw[if_neg];rintro ⟨rfl,rfl⟩
  exact Y7 hm _ hl
 have he:DM B S m ⟨j7 m s (some m.w.heap.size),m.own.put s ((m.own s).new b),m.w.alloc (.cells arr e)⟩:=by
  refine RE hm (by rw[ag];omega) (λ k hk _=>Below.heap_alloc _ _ _ hk) (λ s' => ?_) (λ s' t' b' ht n6 => ?_) (λ s' t' g hl hg o7 => ?_)
  ·rw[LB];split
   ·rename_i h;subst h;omega
   ·exact Nat.le_refl _
  ·rw[F7]at n6
   rw[if_neg (by rintro ⟨rfl,rfl⟩;omega)]at n6;refine ⟨b',n6,rfl,hν s' t' ⟨b',n6⟩,λ g ar e' hg ha=>⟨ar,?_,rfl⟩⟩;exact (Below.heap_alloc _ _ _ (Array.getElem?_eq_some_iff.1 ha).1).trans ha
  ·obtain ⟨b',n6⟩:=hl
   have w9:=n6;rw[F7]at n6;by_cases h:s'=s/\t'=m.own.j6 s
   ·simp only[j7,if_pos h,Option.some.injEq]at hg
    omega
   ·rw[if_neg h]at n6
    exact ⟨s',t',⟨b',n6⟩,by rw[<-hν s' t' ⟨b',n6⟩];exact hg⟩
 refine ⟨⟨hm.below.alloc hm.size _,by rw[ag];have:=hm.size;omega,λ s' t' ht => ?_,λ s' t' b' n6 => ?_,λ s1 t1 s2 t2 b1 b2 g h1 h2 g1 g2 => ?_⟩,he⟩
 ·rw[LB]at ht
  rw[F7,if_neg]
  ·refine hm.fresh s' t' ?_
   split at ht
   ·rename_i h;subst h;omega
   ·exact ht
  ·rintro ⟨rfl,rfl⟩
   simp at ht;omega
 ·rw[F7]at n6
  by_cases h:s'=s/\t'=m.own.j6 s
  ·rw[if_pos h]at n6
   obtain rfl:b=b':=by simpa using n6
   refine ⟨hz,?_⟩;show match j7 m s (some m.w.heap.size) s' t' with|none=>_|some g=>_
   rw[show j7 m s (some m.w.heap.size) s' t'=some m.w.heap.size by simp [j7,h]];refine ⟨hm.size,arr,e,heap_alloc_new _ _,λ i cs hi j c hj => ?_⟩;obtain ⟨u,hu,ax⟩:=hc i cs hi j c hj;exact ⟨u,hu,he.cc ax⟩
  ·rw[if_neg h]at n6
   obtain ⟨h1,h2⟩:=hm.g8 s' t' b' n6;refine ⟨h1,?_⟩;show match j7 m s (some m.w.heap.size) s' t' with|none=>_|some g=>_
   rw[hν s' t' ⟨b',n6⟩];cases hv:m.ν s' t' with
   | none=>rw[hv]at h2;exact h2
   | some g =>
    rw[hv]at h2;obtain ⟨h3,ar,e',h4,h5⟩:=h2;refine ⟨h3,ar,e',(Below.heap_alloc _ _ _ (Array.getElem?_eq_some_iff.1 h4).1).trans h4,λ i cs hi j c hj => ?_⟩;obtain ⟨u,hu,ax⟩:=h5 i cs hi j c hj;exact ⟨u,hu,he.cc ax⟩
 ·rw[F7]at h1 h2
  have lt : ∀ s' t' b',m.own.get s' t'=some b'->j7 m s (some m.w.heap.size) s' t'=some g->g<m.w.heap.size:=λ s' t' b' hb hg=>by
   rw[hν s' t' ⟨b',hb⟩]at hg;obtain ⟨_,ar,e',h4⟩:=hm.ge ⟨b',hb⟩ hg;exact (Array.getElem?_eq_some_iff.1 h4).1
  have at_ : ∀ s' t',s'=s/\t'=m.own.j6 s->j7 m s (some m.w.heap.size) s' t'=some g->g=m.w.heap.size:=λ s' t' h hg=>by
   simp only[j7,if_pos h,Option.some.injEq]at hg;exact hg.symm
  by_cases p1:s1=s/\t1=m.own.j6 s<;>by_cases p2:s2=s/\t2=m.own.j6 s
  ·exact ⟨p1.1.trans p2.1.symm,p1.2.trans p2.2.symm⟩
  ·rw[if_neg p2]at h2
   have:=lt s2 t2 b2 h2 g2
   have:=at_ s1 t1 p1 g1
   omega
  ·rw[if_neg p1]at h1
   have:=lt s1 t1 b1 h1 g1
   have:=at_ s2 t2 p2 g2
   omega
  ·rw[if_neg p1]at h1
   rw[if_neg p2]at h2;exact hm.inj s1 t1 s2 t2 b1 b2 g h1 h2 (by rw[<-hν s1 t1 ⟨b1,h1⟩];exact g1) (by rw[<-hν s2 t2 ⟨b2,h2⟩];exact g2)
theorem wI {m:M} (hm:BP B S w0 m) (s a9:Nat) :
  BP B S w0 ⟨j7 m s none,m.own.put s ((m.own s).new ⟨a9,[]⟩),m.w⟩/\DM B S m ⟨j7 m s none,m.own.put s ((m.own s).new ⟨a9,[]⟩),m.w⟩:=by
 have hν : ∀ s' t',live m s' t'->j7 m s none s' t'=m.ν s' t':=λ s' t' hl=>by
  unfold j7;rw[if_neg];rintro ⟨rfl,rfl⟩
  exact Y7 hm _ hl
 have he:DM B S m ⟨j7 m s none,m.own.put s ((m.own s).new ⟨a9,[]⟩),m.w⟩:=by
  refine RE hm (Nat.le_refl _) (λ k hk _=>rfl) (λ s' => ?_) (λ s' t' b' ht n6 => ?_) (λ s' t' g hl hg o7 => ?_)
  ·rw[LB];split
   ·rename_i h;subst h;omega
   ·exact Nat.le_refl _
  ·rw[F7]at n6
   rw[if_neg (by rintro ⟨rfl,rfl⟩;omega)]at n6;exact ⟨b',n6,rfl,hν s' t' ⟨b',n6⟩,λ g ar e' hg ha=>⟨ar,ha,rfl⟩⟩
  ·obtain ⟨b',n6⟩:=hl
   rw[F7]at n6;by_cases h:s'=s/\t'=m.own.j6 s
   ·simp [j7,if_pos h]at hg
   ·rw[if_neg h]at n6
    exact ⟨s',t',⟨b',n6⟩,by rw[<-hν s' t' ⟨b',n6⟩];exact hg⟩
 refine ⟨⟨hm.below,hm.size,λ s' t' ht => ?_,λ s' t' b' n6 => ?_,λ s1 t1 s2 t2 b1 b2 g h1 h2 g1 g2 => ?_⟩,he⟩
 ·rw[LB]at ht
  rw[F7,if_neg]
  ·refine hm.fresh s' t' ?_
   split at ht
   ·rename_i h;subst h;omega
   ·exact ht
  ·rintro ⟨rfl,rfl⟩
   simp at ht;omega
 ·rw[F7]at n6
  by_cases h:s'=s/\t'=m.own.j6 s
  ·rw[if_pos h]at n6
   obtain rfl:(⟨a9,[]⟩:D7)=b':=by simpa using n6
   refine ⟨by simp,?_⟩;show match j7 m s none s' t' with|none=>_|some g=>_
   rw[show j7 m s none s' t'=none by simp [j7,h]]
  ·rw[if_neg h]at n6
   obtain ⟨h1,h2⟩:=hm.g8 s' t' b' n6;refine ⟨h1,?_⟩;show match j7 m s none s' t' with|none=>_|some g=>_
   rw[hν s' t' ⟨b',n6⟩];cases hv:m.ν s' t' with
   | none=>rw[hv]at h2;exact h2
   | some g =>
    rw[hv]at h2;obtain ⟨h3,ar,e',h4,h5⟩:=h2;refine ⟨h3,ar,e',h4,λ i cs hi j c hj => ?_⟩;obtain ⟨u,hu,ax⟩:=h5 i cs hi j c hj;exact ⟨u,hu,he.cc ax⟩
 ·rw[F7]at h1 h2
  by_cases p1:s1=s/\t1=m.own.j6 s
  ·simp [j7,if_pos p1]at g1
  ·by_cases p2:s2=s/\t2=m.own.j6 s
   ·simp [j7,if_pos p2]at g2
   ·rw[if_neg p1]at h1
    rw[if_neg p2]at h2;exact hm.inj s1 t1 s2 t2 b1 b2 g h1 h2 (by rw[<-hν s1 t1 ⟨b1,h1⟩];exact g1) (by rw[<-hν s2 t2 ⟨b2,h2⟩];exact g2)
theorem AhA {m:M} (hm:BP B S w0 m) (s t:Nat) (b b':D7) (hb:m.own.get s t=some b) (g:Nat) (hg:m.ν s t=some g) (arr x9:Array Value) (e:TypeId)
  (ha:m.w.heap[g]? = some (.cells arr e (0,0))) (hz':b'.a9=b.a9) (hz : ∀ x∈b'.es,x.length=b'.a9) (ag:x9.size=arr.size)
  (hc : ∀ i cs,b'.es[i]? = some cs -> ∀ j c,cs[j]? = some c -> ∃ u,x9[i*b'.a9+j]? = some u/\CC B S m c u) (w':World) (jr:Below B w0 w') (Bb:w'.heap.size=m.w.heap.size)
  (hk : ∀ k,k≠g->w'.heap[k]? = m.w.heap[k]?) (kj:w'.heap[g]? = some (.cells x9 e (0,0))) :
  BP B S w0 ⟨m.ν,m.own.put s ((m.own s).v7 t (some b')),w'⟩/\DM B S m ⟨m.ν,m.own.put s ((m.own s).v7 t (some b')),w'⟩:=by
 have o7:t<m.own.j6 s:=by
  rcases Nat.lt_or_ge t (m.own.j6 s) with h|h
  ·exact h
  ·rw[hm.fresh s t h]at hb;cases hb
 have he:DM B S m ⟨m.ν,m.own.put s ((m.own s).v7 t (some b')),w'⟩:=by
  refine RE hm (by rw[Bb];exact Nat.le_refl _) (λ k iy hn=>hk k (λ e=>hn s t ⟨b,hb⟩ (e ▸ hg))) (λ s'=>by rw[lO];exact Nat.le_refl _) (λ s' t' b2 ht w9 => ?_) (λ s' t' g' hl fy _ => ?_)
  ·rw[VO]at w9
   by_cases h:s'=s/\t'=t
   ·obtain ⟨rfl,rfl⟩:=h
    rw[if_pos ⟨rfl,rfl⟩]at w9;obtain rfl:b'=b2:=by simpa using w9
    refine ⟨b,hb,hz',rfl,λ g2 ar e' jk za => ?_⟩;obtain rfl:g=g2:=by rw[hg]at jk;simpa using jk
    rw[ha]at za;obtain ⟨rfl,rfl⟩:arr=ar/\e=e':=by simpa using za
    exact ⟨x9,kj,ag⟩
   ·rw[if_neg h]at w9
    refine ⟨b2,w9,rfl,rfl,λ g2 ar e' jk za=>⟨ar,?_,rfl⟩⟩;rw[<-za];exact hk g2 (λ e2=>h (by
     subst e2;exact hm.inj s' t' s t b2 b g2 w9 hb jk hg))
  ·obtain ⟨b2,w9⟩:=hl
   rw[VO]at w9;by_cases h:s'=s/\t'=t
   ·obtain ⟨rfl,rfl⟩:=h
    exact ⟨s',t',⟨b,hb⟩,fy⟩
   ·rw[if_neg h]at w9
    exact ⟨s',t',⟨b2,w9⟩,fy⟩
 refine ⟨⟨jr,by rw[Bb];exact hm.size,λ s' t' ht => ?_,λ s' t' b2 w9 => ?_,λ s1 t1 s2 t2 b1 b2 g1 h1 h2 e1 e2 => ?_⟩,he⟩
 ·rw[lO]at ht
  rw[VO,if_neg (by rintro ⟨rfl,rfl⟩;omega)];exact hm.fresh s' t' ht
 ·rw[VO]at w9
  by_cases h:s'=s/\t'=t
  ·obtain ⟨rfl,rfl⟩:=h
   rw[if_pos ⟨rfl,rfl⟩]at w9;obtain rfl:b'=b2:=by simpa using w9
   refine ⟨hz,?_⟩;show match m.ν s' t' with|none=>_|some g=>_
   rw[hg];refine ⟨(hm.ge ⟨b,hb⟩ hg).1,x9,e,kj,λ i cs hi j c hj => ?_⟩;obtain ⟨u,hu,ax⟩:=hc i cs hi j c hj;exact ⟨u,hu,he.cc ax⟩
  ·rw[if_neg h]at w9
   obtain ⟨h1,h2⟩:=hm.g8 s' t' b2 w9;refine ⟨h1,?_⟩;show match m.ν s' t' with|none=>_|some g=>_
   cases hv:m.ν s' t' with
   | none=>rw[hv]at h2;exact h2
   | some g2 =>
    rw[hv]at h2;obtain ⟨h3,ar,e',h4,h5⟩:=h2;refine ⟨h3,ar,e',?_,λ i cs hi j c hj => ?_⟩
    ·rw[<-h4]
     exact hk g2 (λ e2=>h (by
      subst e2;exact hm.inj s' t' s t b2 b g2 w9 hb hv hg))
    ·obtain ⟨u,hu,ax⟩:=h5 i cs hi j c hj
     exact ⟨u,hu,he.cc ax⟩
 ·have old : ∀ s' t' b2,(m.own.put s ((m.own s).v7 t (some b'))).get s' t'=some b2 -> ∃ b3,m.own.get s' t'=some b3:=λ s' t' b2 h=>by
   rw[VO]at h;by_cases h':s'=s/\t'=t
   ·obtain ⟨rfl,rfl⟩:=h';exact ⟨b,hb⟩
   ·rw[if_neg h']at h;exact ⟨b2,h⟩
  obtain ⟨c1,k1⟩:=old s1 t1 b1 h1;obtain ⟨c2,k2⟩:=old s2 t2 b2 h2;exact hm.inj s1 t1 s2 t2 c1 c2 g1 k1 k2 e1 e2
theorem RG (o:AH) (s t s' t':Nat) (b:D7):(o.put s (((o s).v7 t none).new b)).get s' t'=if s'=s/\t'=o.j6 s then some b else if s'=s/\t'=t then none else o.get s' t':=by
 unfold AH.get AH.put CB.new CB.v7 AH.j6;by_cases h:s'=s
 ·subst h
  by_cases h2:t'=(o s').j6<;>by_cases h3:t'=t<;>simp [h2,h3]
 ·simp [h]
theorem XZ (o:AH) (s t s':Nat) (b:D7):(o.put s (((o s).v7 t none).new b)).j6 s'=if s'=s then o.j6 s+1 else o.j6 s':=by
 unfold AH.j6 AH.put CB.new CB.v7;by_cases h:s'=s<;>simp [h]
theorem fQ {m:M} (hm:BP B S w0 m) (s t:Nat) (b b':D7) (hb:m.own.get s t=some b) (fl:Option Nat) (w':World) (jr:Below B w0 w') (ag:m.w.heap.size<=w'.heap.size)
  (hk : ∀ k,k<m.w.heap.size->m.ν s t≠some k->w'.heap[k]? = m.w.heap[k]?) (hz : ∀ x∈b'.es,x.length=b'.a9)
  (jz:fl=none->b'.es=[])
  (xi : ∀ g,fl=some g->B<=g/\(m.w.heap.size<=g\/m.ν s t=some g) /\ ∃ arr e,w'.heap[g]? = some (.cells arr e (0,0)) /\
   ∀ i cs,b'.es[i]? = some cs -> ∀ j c,cs[j]? = some c -> ∃ u,arr[i*b'.a9+j]? = some u/\CC B S m c u) :
  BP B S w0 ⟨j7 m s fl,m.own.put s (((m.own s).v7 t none).new b'),w'⟩/\DM B S m ⟨j7 m s fl,m.own.put s (((m.own s).v7 t none).new b'),w'⟩:=by
 have o7:t<m.own.j6 s:=by
  rcases Nat.lt_or_ge t (m.own.j6 s) with h|h
  ·exact h
  ·rw[hm.fresh s t h]at hb;cases hb
 have hν : ∀ s' t',live m s' t'->j7 m s fl s' t'=m.ν s' t':=λ s' t' hl=>by
  unfold j7;rw[if_neg];rintro ⟨rfl,rfl⟩
  exact Y7 hm _ hl
 have he:DM B S m ⟨j7 m s fl,m.own.put s (((m.own s).v7 t none).new b'),w'⟩:=by
  refine RE hm ag (λ k iy hn=>hk k iy (hn s t ⟨b,hb⟩)) (λ s' => ?_) (λ s' t' b2 ht w9 => ?_) (λ s' t' g' hl fy xd => ?_)
  ·rw[XZ];split
   ·rename_i h;subst h;omega
   ·exact Nat.le_refl _
  ·rw[RG]at w9
   rw[if_neg (by rintro ⟨rfl,rfl⟩;omega)]at w9;by_cases h:s'=s/\t'=t
   ·rw[if_pos h]at w9;cases w9
   ·rw[if_neg h]at w9
    refine ⟨b2,w9,rfl,hν s' t' ⟨b2,w9⟩,λ g2 ar e' jk za=>⟨ar,?_,rfl⟩⟩;rw[<-za];exact hk g2 (Array.getElem?_eq_some_iff.1 za).1 (λ e2=>h (hm.inj s' t' s t b2 b g2 w9 hb jk e2))
  ·obtain ⟨b2,w9⟩:=hl
   rw[RG]at w9;by_cases h0:s'=s/\t'=m.own.j6 s
   ·simp only[j7,if_pos h0]at fy
    obtain ⟨_,h2,_⟩:=xi g' fy;rcases h2 with h2|h2
    ·omega
    ·exact ⟨s,t,⟨b,hb⟩,h2⟩
   ·rw[if_neg h0]at w9
    by_cases h:s'=s/\t'=t
    ·rw[if_pos h]at w9;cases w9
    ·rw[if_neg h]at w9
     exact ⟨s',t',⟨b2,w9⟩,by rw[<-hν s' t' ⟨b2,w9⟩];exact fy⟩
 refine ⟨⟨jr,Nat.le_trans hm.size ag,λ s' t' ht => ?_,λ s' t' b2 w9 => ?_,λ s1 t1 s2 t2 b1 b2 g1 h1 h2 e1 e2 => ?_⟩,he⟩
 ·rw[XZ]at ht
  have pn:m.own.j6 s'<=t' /\ ¬ (s'=s/\t'=m.own.j6 s):=by
   by_cases h:s'=s
   ·subst h
    simp at ht;exact ⟨by omega,by omega⟩
   ·simp [h]at ht
    exact ⟨ht,λ h'=>h h'.1⟩
  rw[RG,if_neg pn.2];split
  ·rfl
  ·exact hm.fresh s' t' pn.1
 ·rw[RG]at w9
  by_cases h0:s'=s/\t'=m.own.j6 s
  ·rw[if_pos h0]at w9
   obtain rfl:b'=b2:=by simpa using w9
   refine ⟨hz,?_⟩;show match j7 m s fl s' t' with|none=>_|some g=>_
   rw[show j7 m s fl s' t'=fl by simp [j7,h0]];cases fl with
   | none=>exact jz rfl
   | some g =>
    obtain ⟨h1,_,arr,e,h4,h5⟩:=xi g rfl;refine ⟨h1,arr,e,h4,λ i cs hi j c hj => ?_⟩;obtain ⟨u,hu,ax⟩:=h5 i cs hi j c hj;exact ⟨u,hu,he.cc ax⟩
  ·rw[if_neg h0]at w9
   by_cases h:s'=s/\t'=t
   ·rw[if_pos h]at w9;cases w9
   ·rw[if_neg h]at w9
    obtain ⟨h1,h2⟩:=hm.g8 s' t' b2 w9;refine ⟨h1,?_⟩;show match j7 m s fl s' t' with|none=>_|some g=>_
    rw[hν s' t' ⟨b2,w9⟩];cases hv:m.ν s' t' with
    | none=>rw[hv]at h2;exact h2
    | some g2 =>
     rw[hv]at h2;obtain ⟨h3,ar,e',h4,h5⟩:=h2;refine ⟨h3,ar,e',?_,λ i cs hi j c hj => ?_⟩
     ·rw[<-h4]
      exact hk g2 (Array.getElem?_eq_some_iff.1 h4).1 (λ e2=>h (hm.inj s' t' s t b2 b g2 w9 hb hv e2))
     ·obtain ⟨u,hu,ax⟩:=h5 i cs hi j c hj
      exact ⟨u,hu,he.cc ax⟩
 ·rw[RG]at h1 h2
  have old : ∀ s' t' b2,(if s'=s/\t'=t then none else m.own.get s' t')=some b2->m.own.get s' t'=some b2 /\ ¬ (s'=s/\t'=t):=λ s' t' b2 h=>by
   by_cases h':s'=s/\t'=t
   ·rw[if_pos h']at h;cases h
   ·rw[if_neg h']at h;exact ⟨h,h'⟩
  have nu : ∀ s' t' b2,m.own.get s' t'=some b2 -> ¬ (s'=s/\t'=t)->j7 m s fl s' t'=some g1->fl=some g1->False:=λ s' t' b2 w9 n9 e1 e2=>by
   rw[hν s' t' ⟨b2,w9⟩]at e1;obtain ⟨_,h2,_⟩:=xi g1 e2;obtain ⟨_,ar,e',h4⟩:=hm.ge ⟨b2,w9⟩ e1;have:=(Array.getElem?_eq_some_iff.1 h4).1
   rcases h2 with h2|h2
   ·omega
   ·exact n9 (hm.inj s' t' s t b2 b g1 w9 hb e1 h2)
  have at_ : ∀ s' t',s'=s/\t'=m.own.j6 s->j7 m s fl s' t'=some g1->fl=some g1:=λ s' t' h hg=>by simpa [j7,if_pos h] using hg
  by_cases p1:s1=s/\t1=m.own.j6 s<;>by_cases p2:s2=s/\t2=m.own.j6 s
  ·exact ⟨p1.1.trans p2.1.symm,p1.2.trans p2.2.symm⟩
  ·rw[if_neg p2]at h2
   obtain ⟨k2,n2⟩:=old s2 t2 b2 h2;exact (nu s2 t2 b2 k2 n2 e2 (at_ s1 t1 p1 e1)).elim
  ·rw[if_neg p1]at h1
   obtain ⟨k1,n1⟩:=old s1 t1 b1 h1;exact (nu s1 t1 b1 k1 n1 e1 (at_ s2 t2 p2 e2)).elim
  ·rw[if_neg p1]at h1
   rw[if_neg p2]at h2;obtain ⟨k1,n1⟩:=old s1 t1 b1 h1;obtain ⟨k2,n2⟩:=old s2 t2 b2 h2;exact hm.inj s1 t1 s2 t2 b1 b2 g1 k1 k2 (by rw[<-hν s1 t1 ⟨b1,k1⟩];exact e1) (by rw[<-hν s2 t2 ⟨b2,k2⟩];exact e2)
theorem pO (o:AH) (l:List Nat) (s t:Nat):(o.drop l).get s t=if s∈l then none else o.get s t:=by
 induction l with
 | nil=>simp [AH.drop]
 | cons x r ih =>
  unfold AH.get at *;by_cases h:s=x
  ·subst h;simp [AH.drop,AH.put]
  ·simp only[AH.drop,AH.put,if_neg h,List.mem_cons]
   rw[ih];by_cases h2:s∈r<;>simp [h,h2]
theorem lN (o:AH) (l:List Nat) (s:Nat):(o.drop l).j6 s=o.j6 s:=by
 induction l with
 | nil=>simp [AH.drop]
 | cons x r ih =>
  unfold AH.j6 at *;by_cases h:s=x
  ·subst h;simp [AH.drop,AH.put]
  ·simp [AH.drop,AH.put,h,ih]
theorem Yr {m:M} (hm:BP B S w0 m) (l:List Nat):BP B S w0 ⟨m.ν,m.own.drop l,m.w⟩/\DM B S m ⟨m.ν,m.own.drop l,m.w⟩:=by
 have old : ∀ s t b,(m.own.drop l).get s t=some b->m.own.get s t=some b:=λ s t b h=>by
  rw[pO]at h;split at h
  ·cases h
  ·exact h
 have he:DM B S m ⟨m.ν,m.own.drop l,m.w⟩:=by
  refine RE hm (Nat.le_refl _) (λ_ _ _=>rfl) (λ s=>by rw[lN];exact Nat.le_refl _) (λ s t b' _ n6=>⟨b',old s t b' n6,rfl,rfl,λ_ ar _ _ ha=>⟨ar,ha,rfl⟩⟩) (λ s t g hl hg _ => ?_);obtain ⟨b,hb⟩:=hl;exact ⟨s,t,⟨b,old s t b hb⟩,hg⟩
 refine ⟨⟨hm.below,hm.size,λ s t ht => ?_,λ s t b hb => ?_,λ s1 t1 s2 t2 b1 b2 g h1 h2=>hm.inj s1 t1 s2 t2 b1 b2 g (old _ _ _ h1) (old _ _ _ h2)⟩,he⟩
 ·rw[lN]at ht
  rw[pO];split
  ·rfl
  ·exact hm.fresh s t ht
 ·obtain ⟨h1,h2⟩:=hm.g8 s t b (old s t b hb)
  refine ⟨h1,?_⟩;show match m.ν s t with|none=>_|some g=>_
  cases hv:m.ν s t with
  | none=>rw[hv]at h2;exact h2
  | some g =>
   rw[hv]at h2;obtain ⟨h3,ar,e',h4,h5⟩:=h2;refine ⟨h3,ar,e',h4,λ i cs hi j c hj => ?_⟩;obtain ⟨u,hu,ax⟩:=h5 i cs hi j c hj;exact ⟨u,hu,he.cc ax⟩
end
end Go.g6

namespace Go.g6
section
variable {P:Program} {num:Nat->Nat} {op:Op}
theorem Aey {y:AP} (h:BI P num op (.q6 y)=true) : ∃ x,(op = .move x\/op = .assign x)/\BZ x y=true:=by
 cases op with
 | move x=>exact ⟨x,.inl rfl,h⟩
 | assign x=>exact ⟨x,.inr rfl,h⟩
 | _=>exact Bool.noConfusion h
theorem AeG {s z:Nat} (h:BI P num op (.ak s z)=true):(op = .move (.const (.slice none 0 0))\/op = .assign (.const (.slice none 0 0)))/\z≠0:=by
 simp only[BI,Bool.and_eq_true,bne_iff_ne]at h;refine ⟨?_,h.1⟩;have h2:=h.2;split at h2<;>simp_all
theorem AeA {c' a' b':AP} (h:BI P num op (.pick c' a' b')=true) : ∃ c a b,op = .pick c a b/\BZ c c'=true/\BZ a a'=true/\BZ b b'=true:=by
 cases op with
 | pick c a b=>simp only[BI,Bool.and_eq_true]at h;exact ⟨c,a,b,rfl,h.1.1,h.1.2,h.2⟩
 | _=>exact Bool.noConfusion h
theorem Aeg {f:BinOp} {x' y':AP} (h:BI P num op (.bin f x' y')=true) : ∃ t x y u,op = .binOp f t x y u/\BZ x x'=true/\BZ y y'=true:=by
 cases op with
 | binOp f' t x y u =>
  simp only[BI,Bool.and_eq_true,beq_iff_eq]at h;exact ⟨t,x,y,u,by rw[h.1.1],h.1.2,h.2⟩
 | _=>exact Bool.noConfusion h
theorem Aef {ne:Bool} {x' y':AP} (h:BI P num op (.beq ne x' y')=true) : ∃ t x y u,op = .binOp (if ne then .neq else .eql) t x y u/\P.underlying t=some .bool/\BZ x x'=true/\BZ y y'=true:=by
 cases op with
 | binOp f' t x y u =>
  simp only[BI,Bool.and_eq_true]at h;obtain ⟨⟨⟨h1,h2⟩,h3⟩,h4⟩:=h;refine ⟨t,x,y,u,?_,?_,h3,h4⟩
  ·cases ne<;>simp_all
  ·split at h2<;>simp_all
 | _=>exact Bool.noConfusion h
theorem AeF {f:UnOp} {x':AP} (h:BI P num op (.un f x')=true) : ∃ t x,op = .unOp f t x/\BZ x x'=true:=by
 cases op with
 | unOp f' t x =>
  simp only[BI,Bool.and_eq_true,beq_iff_eq]at h;exact ⟨t,x,by rw[h.1],h.2⟩
 | _=>exact Bool.noConfusion h
theorem Aep {k:IntKind} {x':AP} (h:BI P num op (.conv k x')=true) : ∃ s d x ds,op = .convert s d x/\P.underlying s=some ds/\P.underlying d=some (.int k)/\BZ x x'=true:=by
 cases op with
 | convert s d x =>
  simp only[BI,Bool.and_eq_true]at h;obtain ⟨⟨h1,h2⟩,h3⟩:=h;obtain ⟨ds,Cm⟩:=Option.isSome_iff_exists.1 h1;refine ⟨s,d,x,ds,rfl,Cm,?_,h3⟩;split at h2<;>simp_all
 | _=>exact Bool.noConfusion h
theorem Aeh {s:Nat} {x':AP} (h:BI P num op (.box s x')=true) : ∃ t x,op = .box t x/\BZ x x'=true:=by
 cases op with
 | box t x=>exact ⟨t,x,rfl,h⟩
 | _=>exact Bool.noConfusion h
theorem Aed {s:Nat} {z:List AV} (h:BI P num op (.alloc s z)=true) : ∃ t,op = .alloc t/\SK P t z=true:=by
 cases op with
 | alloc t=>exact ⟨t,rfl,h⟩
 | _=>exact Bool.noConfusion h
theorem Aej {z:List AV} {fq:List (Nat × Nat × AP)} (h:BI P num op (.build z fq)=true) : ∃ t ps,op = .build t ps/\SK P t z=true/\bL P t ps.toList fq=true:=by
 cases op with
 | build t ps=>simp only[BI,Bool.and_eq_true]at h;exact ⟨t,ps,rfl,h.1,h.2⟩
 | _=>exact Bool.noConfusion h
theorem O9 {t:TypeId} {f:TypeId->Bool} (h:J7 P t f=true) : ∃ e,P.underlying t=some (.slice e)/\f e=true:=by
 unfold J7 at h;split at h
 ·rename_i e he;exact ⟨e,he,h⟩
 ·cases h
theorem NQ {t:TypeId} {n:Nat} (h:IY P t n=true) : ∃ i,P.info? t=some i/\i.size=n:=by
 unfold IY at h;split at h
 ·rename_i i hi;exact ⟨i,hi,by simpa using h⟩
 ·cases h
theorem bN {t:TypeId} {n:Nat} (h:UR P t n=true) : ∃ i,P.info? t=some i/\i.bytes=n:=by
 unfold UR at h;split at h
 ·rename_i i hi;exact ⟨i,hi,by simpa using h⟩
 ·cases h
theorem iV {t:TypeId} {l:List AV} (h:SK P t l=true) : ∃ i z,P.info? t=some i/\i.zero=some z/\OV z.cells.toList l=true:=by
 unfold SK at h;split at h
 ·rename_i i hi
  split at h
  ·rename_i z hz;exact ⟨i,z,hi,hz,h⟩
  ·cases h
 ·cases h
theorem bB {t:TypeId} {b:Bool} (h:(QX P t == some b)=true) : ∀ w,(isAgg t).run P w = .ok b w:=by
 intro w;have h':QX P t=some b:=by simpa using h
 unfold QX at h';unfold isAgg;cases hu:P.underlying t with
 | none=>rw[hu]at h';cases h'
 | some d =>
  rw[hu]at h';rw[Sem.run_bind,run_underlying hu];cases d<;>simp_all<;>rfl
theorem iW {e:TypeId} {n:Nat} (h:(match P.info? e with|some i=>(match i.zero with|some z=>z.cells.size == n|none=>false)|none=>false)=true) : ∃ i z,P.info? e=some i/\i.zero=some z/\z.cells.size=n:=by
 split at h
 ·rename_i i hi
  split at h
  ·rename_i z hz;exact ⟨i,z,hi,hz,by simpa using h⟩
  ·cases h
 ·cases h
theorem Aei {s a9:Nat} {fq:List AP} (h:BI P num op (.c7 s a9 fq)=true) : ∃ t n ps e i,op = .buildSlice t n ps/\P.underlying t=some (.slice e)/\P.info? e=some i/\i.size=a9/\a9≠0/\n=fq.length/\n*a9<=16777216/\Q7 0 ps.toList fq=true/\(n=0 \/ ∃ z,i.zero=some z/\z.cells.size=a9):=by
 cases op with
 | buildSlice t n ps =>
  simp only[BI,Bool.and_eq_true,decide_eq_true_eq,bne_iff_ne,beq_iff_eq,Bool.or_eq_true]at h;obtain ⟨⟨⟨⟨⟨h1,h2⟩,h3⟩,h4⟩,h5⟩,h6⟩:=h;obtain ⟨e,he,h1⟩:=O9 h1;obtain ⟨i,hi,hs⟩:=NQ h1;refine ⟨t,n,ps,e,i,rfl,he,hi,hs,h2,h3,h4,h5,h6.imp id λ h6 => ?_⟩;obtain ⟨e',ju,h6⟩:=O9 h6;rw[he]at ju;obtain rfl:e=e':=by simpa using ju
  obtain ⟨i',z,v9,hz,qy⟩:=iW h6;rw[hi]at v9;obtain rfl:i=i':=by simpa using v9
  exact ⟨z,hz,qy⟩
 | _=>exact Bool.noConfusion h
theorem qG {x':AP} {off:Nat} (h:BI P num op (.bn x' off)=true) : ∃ t x f fs fd i,op = .fieldAddr t x f/\BZ x x'=true/\P.underlying t=some (.struct fs)/\fs[f]? = some fd/\fd.offset=off/\P.info? fd.type=some i/\i.size≠0:=by
 cases op with
 | fieldAddr t x f =>
  simp only[BI,Bool.and_eq_true]at h;obtain ⟨h1,h2⟩:=h;split at h2
  ·rename_i fs jc
   split at h2
   ·rename_i fd Iq
    simp only[Bool.and_eq_true,beq_iff_eq]at h2;obtain ⟨h3,h4⟩:=h2;split at h4
    ·rename_i i hi
     exact ⟨t,x,f,fs,fd,i,rfl,h1,jc,Iq,h3,hi,by simpa using h4⟩
    ·cases h4
   ·cases h2
  ·cases h2
 | _=>exact Bool.noConfusion h
theorem Aer {x':AP} {off n:Nat} {agg:Bool} (h:BI P num op (.qf x' off n agg)=true) : ∃ t x f fs fd i,op = .field t x f/\BZ x x'=true/\P.underlying t=some (.struct fs)/\fs[f]? = some fd/\fd.offset=off/\P.info? fd.type=some i/\i.size=n/\(∀ w,(isAgg fd.type).run P w = .ok agg w)/\n≠0:=by
 cases op with
 | field t x f =>
  simp only[BI,Bool.and_eq_true]at h;obtain ⟨⟨h1,h2⟩,h3⟩:=h;unfold pE at h2;unfold pF at h3;split at h2
  ·rename_i fs jc
   split at h2
   ·rename_i fd Iq
    simp only[Bool.and_eq_true,beq_iff_eq,bne_iff_ne]at h2;obtain ⟨⟨h4,h5⟩,h6⟩:=h2;obtain ⟨i,hi,hs⟩:=NQ h5;rw[jc]at h3;simp only[Iq]at h3;exact ⟨t,x,f,fs,fd,i,rfl,h1,jc,Iq,h4,hi,hs,bB h3,h6⟩
   ·cases h2
  ·cases h2
 | _=>exact Bool.noConfusion h
theorem YS {arr:Option Nat} {a9:Nat} {x' i':AP} (h:BI P num op (.aq arr a9 x' i')=true) : ∃ t x i e inf,op = .indexAddr t x i/\BZ x x'=true/\BZ i i'=true/\P.info? e=some inf/\inf.size=a9 /\
  ((∃ len,arr=some len/\P.underlying t=some (.array len e)/\1<len)\/(arr=none/\P.underlying t=some (.slice e)/\a9≠0)):=by
 cases op with
 | indexAddr t x i =>
  simp only[BI,Bool.and_eq_true]at h;obtain ⟨⟨h1,h2⟩,h3⟩:=h;split at h3
  ·rename_i len e ui hu
   simp only[Bool.and_eq_true,beq_iff_eq,decide_eq_true_eq]at h3;obtain ⟨⟨h4,h5⟩,h6⟩:=h3;obtain ⟨inf,hi,hs⟩:=NQ h5;exact ⟨t,x,i,e,inf,rfl,h1,h2,hi,hs,.inl ⟨len,by rw[h4],hu,h6⟩⟩
  ·rename_i e hu
   simp only[Bool.and_eq_true,bne_iff_ne]at h3;obtain ⟨inf,hi,hs⟩:=NQ h3.1;exact ⟨t,x,i,e,inf,rfl,h1,h2,hi,hs,.inr ⟨rfl,hu,h3.2⟩⟩
  ·cases h3
 | _=>exact Bool.noConfusion h
theorem qH {agg:Bool} {n:Nat} {x':AP} (h:BI P num op (.ld agg n x')=true) : ∃ t x,op = .load t x/\BZ x x'=true/\(∀ w,(isAgg t).run P w = .ok agg w)/\(if agg then ∃ i,P.info? t=some i/\i.size=n else n=1):=by
 cases op with
 | load t x =>
  simp only[BI,Bool.and_eq_true]at h;obtain ⟨⟨h1,h2⟩,h3⟩:=h;refine ⟨t,x,rfl,h1,bB h2,?_⟩;cases agg
  ·simpa using h3
  ·exact NQ (by simpa using h3)
 | _=>exact Bool.noConfusion h
theorem AeD {n:Nat} {x' v':AP} (h:BI P num op (.st n x' v')=true) : ∃ t x v i,op = .store t x v/\BZ x x'=true/\BZ v v'=true/\P.info? t=some i/\i.size=n:=by
 cases op with
 | store t x v =>
  simp only[BI,Bool.and_eq_true]at h;obtain ⟨⟨h1,h2⟩,h3⟩:=h;obtain ⟨i,hi,hs⟩:=NQ h3;exact ⟨t,x,v,i,rfl,h1,h2,hi,hs⟩
 | _=>exact Bool.noConfusion h
theorem Aew {s a9 bytes:Nat} {zero:List AV} {l' c':AP} (h:BI P num op (.mk s a9 bytes zero l' c')=true) : ∃ t l c e i z,op = .makeSlice t l c/\BZ l l'=true/\BZ c c'=true/\P.underlying t=some (.slice e)/\P.info? e=some i/\i.size=a9/\i.bytes=bytes/\i.zero=some z/\OV z.cells.toList zero=true/\a9≠0:=by
 cases op with
 | makeSlice t l c =>
  simp only[BI,Bool.and_eq_true,bne_iff_ne]at h;obtain ⟨⟨⟨h1,h2⟩,h3⟩,h4⟩:=h;obtain ⟨e,he,h3⟩:=O9 h3;simp only[Bool.and_eq_true]at h3;obtain ⟨⟨h5,h6⟩,h7⟩:=h3;obtain ⟨i,hi,hs⟩:=NQ h5;obtain ⟨i2,ub,qz⟩:=bN h6;obtain ⟨i3,z,Av,hz,iq⟩:=iV h7;rw[hi]at ub Av;obtain rfl:i=i2:=by simpa using ub
  obtain rfl:i=i3:=by simpa using Av
  exact ⟨t,l,c,e,i,z,rfl,h1,h2,he,hi,hs,qz,hz,iq,h4⟩
 | _=>exact Bool.noConfusion h
theorem eB {a9:Nat} {x':AP} {px v9:Option AP} (h:BI P num op (.jg a9 x' px v9)=true) : ∃ t x lo hi e i,op = .slice t x lo hi none/\BZ x x'=true/\N8 lo px=true/\N8 hi v9=true/\P.underlying t=some (.slice e)/\P.info? e=some i/\i.size=a9/\a9≠0:=by
 cases op with
 | slice t x lo hi mx =>
  cases mx with
  | some _=>exact Bool.noConfusion h
  | none =>
   simp only[BI,Bool.and_eq_true,bne_iff_ne]at h;obtain ⟨⟨⟨⟨h1,h2⟩,h3⟩,h4⟩,h5⟩:=h;obtain ⟨e,he,h4⟩:=O9 h4;obtain ⟨i,v9,hs⟩:=NQ h4;exact ⟨t,x,lo,hi,e,i,rfl,h1,h2,h3,he,v9,hs,h5⟩
 | _=>exact Bool.noConfusion h
theorem Aeq {x':AP} {i:Nat} (h:BI P num op (.ext x' i)=true) : ∃ x,op = .extract x i/\BZ x x'=true:=by
 cases op with
 | extract x j =>
  simp only[BI,Bool.and_eq_true,beq_iff_eq]at h;exact ⟨x,by rw[h.2],h.1⟩
 | _=>exact Bool.noConfusion h
theorem aB {α:Type} {xs:Array α} {x y:α} (h:xs.toList=[x,y]):xs = #[x,y]:=by cases xs;simp_all
theorem aA {α:Type} {xs:Array α} {x:α} (h:xs.toList=[x]):xs = #[x]:=by cases xs;simp_all
theorem Aeu {x':AP} (h:BI P num op (.len x')=true) : ∃ x t e,op = .call ⟨.builtin .len,#[x],#[t]⟩/\BZ x x'=true/\P.underlying t=some (.slice e):=by
 cases op with
 | call c =>
  obtain ⟨cl,xs,ts⟩:=c;cases cl with
  | builtin b =>
   cases b<;>first|exact Bool.noConfusion h|skip
   simp only[BI]at h;split at h
   ·rename_i x t hx ht
    simp only[Bool.and_eq_true]at h;obtain ⟨e,he,_⟩:=O9 h.2;exact ⟨x,t,e,by rw[aA hx,aA ht],h.1,he⟩
   ·cases h
  | value f=>cases f<;>exact Bool.noConfusion h
  | invoke=>exact Bool.noConfusion h
 | _=>exact Bool.noConfusion h
theorem qI {mx:Bool} {q9:List AP} (h:BI P num op (.mm mx q9)=true) : ∃ xs ts,op = .call ⟨.builtin (if mx then .max else .min),xs,ts⟩/\ED xs.toList q9=true:=by
 cases op with
 | call c =>
  obtain ⟨cl,xs,ts⟩:=c;cases cl with
  | builtin b =>
   cases b<;>first|exact Bool.noConfusion h|skip
   all_goals
    simp only[BI,Bool.and_eq_true]at h;refine ⟨xs,ts,?_,h.2⟩;cases mx<;>simp_all
  | value f=>cases f<;>exact Bool.noConfusion h
  | invoke=>exact Bool.noConfusion h
 | _=>exact Bool.noConfusion h
theorem qF {s a9 bytes:Nat} {x' y':AP} (h:BI P num op (.app s a9 bytes x' y')=true) : ∃ x y t e i z tx ex,op = .call ⟨.builtin .append,#[x,y],#[t,tx]⟩/\BZ x x'=true/\BZ y y'=true/\P.underlying t=some (.slice e)/\P.info? e=some i/\i.size=a9/\i.bytes=bytes/\i.zero=some z/\z.cells.size=a9/\a9≠0/\P.underlying tx=some (.slice ex):=by
 cases op with
 | call c =>
  obtain ⟨cl,xs,ts⟩:=c;cases cl with
  | builtin b =>
   cases b<;>first|exact Bool.noConfusion h|skip
   simp only[BI]at h;split at h
   ·rename_i x y t u hx ht
    simp only[Bool.and_eq_true,beq_iff_eq,bne_iff_ne]at h;obtain ⟨⟨⟨⟨h1,h2⟩,h3⟩,h4⟩,h5⟩:=h;obtain ⟨e,he,h3⟩:=O9 h3;simp only[Bool.and_eq_true]at h3;obtain ⟨⟨h6,h7⟩,h8⟩:=h3;obtain ⟨i,hi,hs⟩:=NQ h6;obtain ⟨i2,ub,qz⟩:=bN h7;obtain ⟨i3,z,Av,hz,iq⟩:=iW h8;rw[hi]at ub Av;obtain rfl:i=i2:=by simpa using ub
    obtain rfl:i=i3:=by simpa using Av
    obtain ⟨ex,hex,_⟩:=O9 h5;exact ⟨x,y,t,e,i,z,u,ex,by rw[aB hx,aB ht],h1,h2,he,hi,hs,qz,hz,iq,h4,hex⟩
   ·cases h
  | value f=>cases f<;>exact Bool.noConfusion h
  | invoke=>exact Bool.noConfusion h
 | _=>exact Bool.noConfusion h
theorem dZ {f:Nat} {q9:List AP} (h:BI P num op (.call f q9)=true) : ∃ xs ts,op = .call ⟨.value (.func (num f)),xs,ts⟩/\ED xs.toList q9=true:=by
 cases op with
 | call c =>
  obtain ⟨cl,xs,ts⟩:=c;cases cl with
  | builtin b=>cases b<;>exact Bool.noConfusion h
  | value g =>
   cases g with
   | func g =>
    simp only[BI,Bool.and_eq_true,beq_iff_eq]at h;exact ⟨xs,ts,by rw[h.1],h.2⟩
   | _=>exact Bool.noConfusion h
  | invoke=>exact Bool.noConfusion h
 | _=>exact Bool.noConfusion h
theorem Aek {f:Nat} {q9:List AP} (h:BI P num op (.c9 f q9)=true) : ∃ xs ts,op = .call ⟨.value (.func (num f)),xs,ts⟩/\ED xs.toList q9=true:=by
 cases op with
 | call c =>
  obtain ⟨cl,xs,ts⟩:=c;cases cl with
  | builtin b=>cases b<;>exact Bool.noConfusion h
  | value g =>
   cases g with
   | func g =>
    simp only[BI,Bool.and_eq_true,beq_iff_eq]at h;exact ⟨xs,ts,by rw[h.1],h.2⟩
   | _=>exact Bool.noConfusion h
  | invoke=>exact Bool.noConfusion h
 | _=>exact Bool.noConfusion h
theorem Ael {f:Nat} {q9:List AP} (h:BI P num op (.n7 f q9)=true):BI P num op (.call f q9)=true:=by
 cases op<;>exact h
theorem Aez {x':AP} (h:BI P num op (.nm x')=true) : ∃ x,op = .nilCheck x/\BZ x x'=true:=by
 cases op with
 | nilCheck x=>exact ⟨x,rfl,h⟩
 | _=>exact Bool.noConfusion h
theorem Aeo {x':AP} (h:BI P num op (.gd x')=true) : ∃ x t e,op = .call ⟨.builtin .cap,#[x],#[t]⟩/\BZ x x'=true/\P.underlying t=some (.slice e):=by
 cases op with
 | call c =>
  obtain ⟨cl,xs,ts⟩:=c;cases cl with
  | builtin b =>
   cases b<;>first|exact Bool.noConfusion h|skip
   simp only[BI]at h;split at h
   ·rename_i x t hx ht
    simp only[Bool.and_eq_true]at h;obtain ⟨e,he,_⟩:=O9 h.2;exact ⟨x,t,e,by rw[aA hx,aA ht],h.1,he⟩
   ·cases h
  | value f=>cases f<;>exact Bool.noConfusion h
  | invoke=>exact Bool.noConfusion h
 | _=>exact Bool.noConfusion h
theorem Aee {s a9 bytes:Nat} {x' y':AP} (h:BI P num op (.oy s a9 bytes x' y')=true) : ∃ x y t e i z tx k,op = .call ⟨.builtin .append,#[x,y],#[t,tx]⟩/\BZ x x'=true/\BZ y y'=true/\P.underlying t=some (.slice e)/\P.info? e=some i/\i.size=a9/\i.bytes=bytes/\i.zero=some z/\z.cells.size=a9/\a9≠0/\P.underlying tx=some (.int k):=by
 cases op with
 | call c =>
  obtain ⟨cl,xs,ts⟩:=c;cases cl with
  | builtin b =>
   cases b<;>first|exact Bool.noConfusion h|skip
   simp only[BI]at h;split at h
   ·rename_i x y t u hx ht
    simp only[Bool.and_eq_true,bne_iff_ne]at h;obtain ⟨⟨⟨⟨h1,h2⟩,h3⟩,h4⟩,h5⟩:=h;obtain ⟨e,he,h3⟩:=O9 h3;simp only[Bool.and_eq_true]at h3;obtain ⟨⟨h6,h7⟩,h8⟩:=h3;obtain ⟨i,hi,hs⟩:=NQ h6;obtain ⟨i2,ub,qz⟩:=bN h7;obtain ⟨i3,z,Av,hz,iq⟩:=iW h8;rw[hi]at ub Av;obtain rfl:i=i2:=by simpa using ub
    obtain rfl:i=i3:=by simpa using Av
    split at h5
    ·rename_i k hk
     exact ⟨x,y,t,e,i,z,u,k,by rw[aB hx,aB ht],h1,h2,he,hi,hs,qz,hz,iq,h4,hk⟩
    ·cases h5
   ·cases h
  | value f=>cases f<;>exact Bool.noConfusion h
  | invoke=>exact Bool.noConfusion h
 | _=>exact Bool.noConfusion h
theorem Aen {s f:Nat} {q9:List AP} (h:BI P num op (.di s f q9)=true):BI P num op (.c9 f q9)=true:=by
 cases op<;>exact h
theorem Aem {s f:Nat} {q9:List AP} (h:BI P num op (.z0 s f q9)=true):BI P num op (.call f q9)=true:=by
 cases op<;>exact h
theorem AeE {s n:Nat} {x' v':AP} (h:BI P num op (.ou s n x' v')=true):BI P num op (.st n x' v')=true:=by
 cases op<;>exact h
theorem Aes {ne:Bool} {x':AP} (h:BI P num op (.ug ne x')=true) : ∃ t x u e,op = .binOp (if ne then .neq else .eql) t x (.const (.slice none 0 0)) u/\P.underlying t=some (.slice e)/\BZ x x'=true:=by
 cases op with
 | binOp f' t x y u =>
  simp only[BI]at h;split at h
  ·rename_i heq
   simp only[Op.binOp.injEq]at heq;obtain ⟨rfl,rfl,rfl,rfl,rfl⟩:=heq;simp only[Bool.and_eq_true]at h;obtain ⟨⟨h1,h2⟩,h3⟩:=h;unfold J7 at h2;split at h2
   ·rename_i e he
    refine ⟨t,x,u,e,?_,he,h3⟩;cases ne
    ·simp only[Bool.false_eq_true,if_false,beq_iff_eq]at h1;rw[h1];rfl
    ·simp only[if_true,beq_iff_eq]at h1;rw[h1];rfl
   ·cases h2
  ·cases h
 | _=>exact Bool.noConfusion h
theorem AeC {tb:List Nat} {i':AP} (h:BI P num op (.iw tb i')=true) : ∃ t s i,op = .index t (.const (.string s)) i/\P.underlying t=some .string/\s.data.toList.map (λ b=>b.toNat)=tb/\BZ i i'=true:=by
 cases op with
 | index t x i =>
  simp only[BI]at h;split at h
  ·rename_i heq
   simp only[Op.index.injEq]at heq;obtain ⟨rfl,rfl,rfl⟩:=heq;simp only[Bool.and_eq_true,beq_iff_eq]at h;obtain ⟨⟨h1,h2⟩,h3⟩:=h;exact ⟨_,_,_,rfl,by split at h1<;>simp_all,h2,h3⟩
  ·cases h
 | _=>exact Bool.noConfusion h
theorem Aex {p:Bool} {f:Nat} {q9:List AP} (h:BI P num op (.rj p f q9)=true) : ∃ first xs,op = .makeFunc (.func (num f)) first xs/\first = #[]/\ED xs.toList q9=true:=by
 cases op with
 | makeFunc g first xs =>
  cases g with
  | func g =>
   simp only[BI,Bool.and_eq_true,beq_iff_eq]at h;obtain ⟨⟨rfl,h2⟩,h3⟩:=h;refine ⟨first,xs,rfl,?_,h3⟩;obtain ⟨l⟩:=first
   simp at h2;rw[h2]
  | _=>exact Bool.noConfusion h
 | _=>exact Bool.noConfusion h
theorem eA {x':AP} {q9:List AP} (h:BI P num op (.q8 x' q9)=true) : ∃ x xs ts,op = .call ⟨.value x,xs,ts⟩/\BZ x x'=true/\ED xs.toList q9=true:=by
 cases op with
 | call c =>
  obtain ⟨cl,xs,ts⟩:=c;cases cl with
  | builtin b=>cases b<;>exact Bool.noConfusion h
  | value g =>
   simp only[BI,Bool.and_eq_true]at h;exact ⟨g,xs,ts,rfl,h.1,h.2⟩
  | invoke=>exact Bool.noConfusion h
 | _=>exact Bool.noConfusion h
end
end Go.g6
