/-
  Functions of the program, as the abstract machine reads them (group EnyG). Written by a program (gen.py) off the model's own reading of the translation; the seat's check ties them to it.
-/
import Derived.Test.YtfnglkabkfmjcaaGreatB1
import Derived.Test.YtfnglkabkfmjcaaGreatB4
import Derived.IntWalk
set_option linter.unusedSimpArgs false
set_option linter.unusedVariables false
set_option linter.unnecessarySimpa false
namespace Go.c9.F
open C
namespace QE
def r0:=[o 1 (.box 1 0),o 2 (.b7 (.c (.bool false)))]
def r1:=[o 3 (.ld true 6 1),o 4 (.call 130 [3]),m 5 4,g 6 5 true (.a7 1 0),g 7 5 true (.ld false 1 6),g 8 5 true (.len 7),g 9 5 true (.bin .leq 8 (k 8)),
 o 10 (.pick 5 9 (.c (.bool false))),m 2 10]
def c:=(s (d r0 [0,2]) (s (d r1 [1,3,4,5,6,7,8,9,10]) .ret))
end QE
def QE:AFn:=⟨1,QE.c,[.tmp 2],false⟩
namespace QA
def r0:=[o 4 (.alloc 4 [(.bool false),.nil,.nil])]
def r1:=[o 8 (.call 96 [(k 0)]),o 5 (.alloc 5 [(.bool false),.nil,.nil]),n (.st 3 5 8)]
def r2:=[m 9 0,o 10 (.len 9),o 11 (.b7 (k 0))]
def r3:=[o 12 (.bin .lss 11 10)]
def r4:=[m 13 11,m 6 13]
def r5:=[m 14 0,m 15 6,o 16 (.a5 none 1 14 15),o 17 (.ld false 1 16),o 18 (.len 17),o 19 (.b7 (k 0))]
def r6:=[o 20 (.bin .lss 19 18)]
def r7:=[m 21 19,m 7 21]
def r8:=[o 22 (.ld true 3 5),m 23 0,m 24 6,o 25 (.a5 none 1 23 24),o 26 (.ld false 1 25),m 27 7,o 28 (.a5 none 3 26 27),o 29 (.ld true 3 28),m 30 1,m 31 6,
 o 32 (.a5 none 3 30 31),o 33 (.ld true 3 32),m 34 1,m 35 7,o 36 (.a5 none 3 34 35),o 37 (.ld true 3 36),o 38 (.call 99 [33,37]),
 o 39 (.call 99 [29,38]),o 40 (.call 98 [22,39]),n (.st 3 5 40)]
def r9:=[o 41 (.bin .add 19 (k 1)),m 19 41]
def BN:=[o 42 (.bin .add 11 (k 1)),m 11 42]
def BZ:=[o 43 (.ld true 3 5),n (.st 3 4 43)]
def l2:=(s (p r6) (s (i 20 .skip (x 2)) (s (b 3 (s (d r7 [20,21]) (e r8 [7,22,23,24,25,26,27,28,29,30,31,32,33,34,35,36,37,38,39,40]))) (d r9 [41]))))
def l1:=(s (p r3) (s (i 12 .skip (x 0)) (s (b 1 (s (d r4 [12,13]) (s (d r5 [14,15,16,17]) (b 2 (w l2))))) (d BN [6,18,19,20,42]))))
def c:=(s (p r0) (s (d r1 [8]) (s (s (d r2 [9]) (b 0 (w l1))) (s (d BZ [0,1,5,10,11,12,43]) .ret))))
end QA
def QA:AFn:=⟨2,QA.c,[.cell 4 true 3],false⟩
namespace P9
def r0:=[o 4 (.b7 (.c .nil))]
def r1:=[m 9 0,o 10 (.len 9),o 11 (.mk 11 3 56 [(.bool false),.nil,.nil] 10 10),m 5 11]
def r2:=[m 12 5,o 13 (.len 12),o 14 (.b7 (k 0))]
def r3:=[o 15 (.bin .lss 14 13)]
def r4:=[m 16 14,m 6 16]
def r5:=[o 17 (.call 96 [(k 0)]),o 7 (.alloc 7 [(.bool false),.nil,.nil]),n (.st 3 7 17)]
def r6:=[m 18 0,o 19 (.len 18),o 20 (.b7 (k 0))]
def r7:=[o 21 (.bin .lss 20 19)]
def r8:=[m 22 20,m 8 22]
def r9:=[o 23 (.ld true 3 7),m 24 0,m 25 8,o 26 (.a5 none 3 24 25),o 27 (.ld true 3 26),m 28 1,m 29 8,o 30 (.a5 none 1 28 29),o 31 (.ld false 1 30),m 32 6,
 o 33 (.a5 none 3 31 32),o 34 (.ld true 3 33),o 35 (.call 99 [27,34]),o 36 (.call 98 [23,35]),n (.st 3 7 36)]
def BN:=[o 37 (.bin .add 20 (k 1)),m 20 37]
def BZ:=[m 38 5,m 39 6,o 40 (.ld true 3 7),o 41 (.a5 none 3 38 39),n (.st 3 41 40)]
def s8:=[o 42 (.bin .add 14 (k 1)),m 14 42]
def CB:=[m 43 5,m 4 43]
def l2:=(s (p r7) (s (i 21 .skip (x 2)) (s (b 3 (s (d r8 [21,22]) (e r9 [8,23,24,25,26,27,28,29,30,31,32,33,34,35,36]))) (d BN [37]))))
def l1:=(s (p r3) (s (i 15 .skip (x 0)) (s (b 1 (s (d r4 [15,16]) (s (d r5 [17]) (s (s (d r6 [18]) (b 2 (w l2))) (d BZ [6,7,19,20,21,38,39,40,41]))))) (d s8 [42]))))
def c:=(s (d r0 [4]) (s (d r1 [9,10,11]) (s (s (d r2 [12]) (b 0 (w l1))) (s (d CB [0,1,5,13,14,15,43]) .ret))))
end P9
def P9:AFn:=⟨2,P9.c,[.tmp 4],false⟩
namespace IY
def r0:=[o 2 (.box 2 0),o 4 (.alloc 4 [(.bool false),.nil,.nil]),o 5 (.b7 (k 0))]
def r1:=[o 9 (.ld true 6 2),o 10 (.call 328 [9]),o 11 (.un .not 10)]
def r2:=[o 12 (.build [(.bool false),.nil,.nil] []),n (.st 3 4 12),o 5 (.b7 (k 2))]
def r3:=[m 13 1,o 14 (.bin .lss 13 (k 0)),m 15 14,g 16 15 false (.b7 1),g 17 15 false (.bin .gtr 16 (k 64)),o 18 (.pick 15 (.c (.bool true)) 17)]
def r4:=[o 19 (.build [(.bool false),.nil,.nil] []),n (.st 3 4 19),o 5 (.b7 (k 1))]
def r5:=[o 21 (.a7 2 0),o 22 (.ld false 1 21),o 23 (.a7 2 1),o 24 (.ld false 1 23),o 25 (.call 324 [22,24]),m 20 25,o 26 (.ext 20 0),o 27 (.ext 20 1),
 m 6 26,m 7 27]
def r6:=[m 28 7,o 29 (.bin .neq 28 (k 0))]
def r7:=[o 30 (.build [(.bool false),.nil,.nil] []),m 31 7,n (.st 3 4 30),m 5 31]
def r8:=[m 32 1,o 33 (.bin .eql 32 (k 0))]
def r9:=[o 34 (.a7 2 3),o 35 (.ld true 3 34),o 36 (.a7 2 3),o 37 (.ld true 3 36),o 38 (.call 99 [35,37]),m 39 6,o 40 (.a7 2 2),o 41 (.ld false 1 40),
 o 42 (.call 329 [39,41]),o 43 (.call 98 [38,42]),n (.st 3 4 43),o 5 (.b7 (k 0))]
def BN:=[o 44 (.a7 2 2),o 45 (.ld false 1 44),m 8 45]
def BZ:=[m 46 1,o 47 (.bin .sub 46 (k 1)),o 48 (.b7 (k 0))]
def s8:=[o 49 (.bin .lss 48 47)]
def CB:=[m 50 8,o 51 (.a7 2 0),o 52 (.ld false 1 51),o 53 (.call 330 [50,52]),m 8 53]
def z8:=[o 54 (.bin .add 48 (k 1)),m 48 54]
def aw:=[m 55 6,m 56 8,o 57 (.call 329 [55,56]),n (.st 3 4 57),o 5 (.b7 (k 0))]
def l1:=(s (p s8) (s (i 49 .skip (x 0)) (s (b 1 (d CB [49,50,51,52,53])) (d z8 [54]))))
def c:=(s (d r0 [0,5]) (s (s (d r1 [9,10]) (i 11 (s (d r2 [1,2,11,12]) .ret) .skip)) (s (s (d r3 [11,13,14,15,16,17]) (i 18 (s (d r4 [1,2,18,19]) .ret) .skip)) (s (d r5 [18,20,21,22,23,24,25,26,27]) (s (s (d r6 [28]) (i 29 (s (d r7 [1,2,6,7,29,30,31]) .ret) .skip)) (s (s (d r8 [7,29,32]) (i 33 (s (e r9 [1,2,6,33,34,35,36,37,38,39,40,41,42,43]) .ret) .skip)) (s (d BN [33,44,45]) (s (s (d BZ [1,46]) (b 0 (w l1))) (s (d aw [2,6,8,47,48,49,55,56,57]) .ret)))))))))
end IY
def IY:AFn:=⟨2,IY.c,[.cell 4 true 3,.tmp 5],false⟩
namespace KC
def r0:=[o 1 (.box 1 0),o 2 (.alloc 2 [(.bool false),.nil,.nil]),o 3 (.b7 (k 0))]
def r1:=[o 4 (.ld true 6 1),o 5 (.call 331 [4,(k 0)]),o 6 (.ext 5 0),o 7 (.ext 5 1),n (.st 3 2 6),m 3 7]
def c:=(s (d r0 [0,3]) (s (d r1 [1,4,5,6,7]) .ret))
end KC
def KC:AFn:=⟨1,KC.c,[.cell 2 true 3,.tmp 3],false⟩
namespace SD
def r0:=[o 1 (.box 1 0),o 2 (.b7 (.c (.bool false)))]
def r1:=[o 3 (.ld true 6 1),o 4 (.call 136 [3]),m 5 4,g 6 5 true (.a7 1 0),g 7 5 true (.ld false 1 6),g 8 5 true (.len 7),g 9 5 true (.bin .leq 8 (k 8)),
 o 10 (.pick 5 9 (.c (.bool false))),m 2 10]
def c:=(s (d r0 [0,2]) (s (d r1 [1,3,4,5,6,7,8,9,10]) .ret))
end SD
def SD:AFn:=⟨1,SD.c,[.tmp 2],false⟩
namespace KQ
def r0:=[o 1 (.box 1 0),o 2 (.alloc 2 [(.bool false),.nil,.nil]),o 3 (.b7 (k 0))]
def r1:=[o 6 (.ld true 6 1),o 7 (.call 333 [6]),o 8 (.un .not 7)]
def r2:=[o 9 (.build [(.bool false),.nil,.nil] []),n (.st 3 2 9),o 3 (.b7 (k 2))]
def r3:=[o 11 (.a7 1 0),o 12 (.ld false 1 11),o 13 (.a7 1 1),o 14 (.ld false 1 13),o 15 (.call 326 [12,14]),m 10 15,o 16 (.ext 10 0),o 17 (.ext 10 1),
 m 4 16,m 5 17]
def r4:=[m 18 5,o 19 (.bin .neq 18 (k 0))]
def r5:=[o 20 (.build [(.bool false),.nil,.nil] []),m 21 5,n (.st 3 2 20),m 3 21]
def r6:=[o 22 (.a7 1 3),o 23 (.ld true 3 22),o 24 (.a7 1 3),o 25 (.ld true 3 24),o 26 (.call 128 [23,25]),o 27 (.a7 1 2),o 28 (.ld false 1 27),m 29 4,
 o 30 (.a7 1 2),o 31 (.ld false 1 30),o 32 (.call 138 [29,31]),o 33 (.call 137 [28,32]),o 34 (.call 126 [26,33]),n (.st 3 2 34),o 3 (.b7 (k 0))]
def c:=(s (d r0 [0,3]) (s (s (d r1 [6,7]) (i 8 (s (d r2 [1,8,9]) .ret) .skip)) (s (d r3 [8,10,11,12,13,14,15,16,17]) (s (s (d r4 [18]) (i 19 (s (d r5 [1,4,5,19,20,21]) .ret) .skip)) (s (e r6 [1,4,5,19,22,23,24,25,26,27,28,29,30,31,32,33,34]) .ret)))))
end KQ
def KQ:AFn:=⟨1,KQ.c,[.cell 2 true 3,.tmp 3],false⟩
structure l8 (L:Lib):Prop extends v7 L where
 QE:L 328=some F.QE
 QA:L 329=some F.QA
 P9:L 330=some F.P9
 IY:L 331=some F.IY
 KC:L 332=some F.KC
 SD:L 333=some F.SD
 KQ:L 334=some F.KQ
end Go.c9.F
namespace Go.c9.F
open C
namespace PF
def r0:=[o 0 (.b7 (.c (.bool false)))]
def r1:=[o 9 (.call 124 [(k 1)]),o 10 (.call 125 [(k 1),(k 2)]),o 1 (.alloc 1 [(.bool false),.nil,.nil]),o 2 (.alloc 2 [(.bool false),.nil,.nil]),n (.st 3 1 9),
 n (.st 3 2 10)]
def r2:=[q 12 [17,3] (.ld true 3 1),o 13 (.e9 13 3 [12]),q 14 [13,3] (.ld true 3 1),q 15 [13,3] (.ld true 3 2),
 q 16 [13,3] (.call 152 [15]),o 17 (.e9 17 3 [14,16]),o 18 (.build [.nil,.nil] [(0,1,13),(1,1,17)]),
 q 19 [3] (.call 207 [18]),m 11 19,o 20 (.ext 11 0),o 21 (.ext 11 1),o 3 (.alloc 3 [.nil,.nil,.nil,(.bool false),.nil,.nil]),
 n (.st 6 3 20),m 4 21]
def r3:=[o 23 (.ld true 6 3),o 24 (.call 332 [23]),m 22 24,o 25 (.ext 22 0),o 26 (.ext 22 1),o 5 (.alloc 5 [(.bool false),.nil,.nil]),n (.st 3 5 25),m 6 26]
def r4:=[o 28 (.ld true 6 3),o 29 (.call 331 [28,(k 1)]),m 27 29,o 30 (.ext 27 0),o 31 (.ext 27 1),o 7 (.alloc 7 [(.bool false),.nil,.nil]),n (.st 3 7 30),
 m 8 31]
def r5:=[m 32 4,o 33 (.bin .eql 32 (k 0)),m 34 33,g 35 34 true (.b7 6),g 36 34 true (.bin .eql 35 (k 0)),o 37 (.pick 34 36 (.c (.bool false))),m 38 37,
 g 39 38 true (.b7 8),g 40 38 true (.bin .eql 39 (k 0)),o 41 (.pick 38 40 (.c (.bool false))),m 42 41,g 43 42 true (.ld true 3 5),
 g 44 42 true (.call 125 [(k 4),(k 3)]),g 45 42 true (.call 127 [43,44]),g 46 42 true (.bin .eql 45 (k 0)),o 47 (.pick 42 46 (.c (.bool false))),m 48 47,
 g 49 48 true (.ld true 3 7),g 50 48 true (.call 125 [(k 1),(k 3)]),g 51 48 true (.call 127 [49,50]),g 52 48 true (.bin .eql 51 (k 0)),
 o 53 (.pick 48 52 (.c (.bool false))),m 0 53]
def c:=(s (d r0 [0]) (s (d r1 [9,10]) (s (e r2 [1,2,11,12,13,14,15,16,17,18,19,20,21]) (s (d r3 [22,23,24,25,26]) (s (d r4 [3,27,28,29,30,31]) (s (e r5 [4,5,6,7,8,32,33,34,35,36,37,38,39,40,41,42,43,44,45,46,47,48,49,50,51,52,53]) .ret))))))
end PF
def PF:AFn:=⟨0,PF.c,[.tmp 0],false⟩
namespace PE
def r0:=[o 6 (.b7 (.c (.bool false)))]
def r1:=[m 19 1,o 20 (.call 34 [19,(k 4)]),m 7 20]
def r2:=[m 21 0,m 22 7,o 23 (.call 317 [21,22]),o 8 (.alloc 8 [.nil,.nil,.nil,(.bool false),.nil,.nil]),n (.st 6 8 23)]
def r3:=[m 24 2,o 25 (.call 34 [24,(k 6)]),m 2 25]
def r4:=[o 27 (.ld true 6 8),o 28 (.call 332 [27]),m 26 28,o 29 (.ext 26 0),o 30 (.ext 26 1),o 9 (.alloc 9 [(.bool false),.nil,.nil]),n (.st 3 9 29),m 10 30]
def r5:=[o 32 (.ld true 6 8),o 33 (.call 334 [32]),m 31 33,o 34 (.ext 31 0),o 35 (.ext 31 1),o 11 (.alloc 11 [(.bool false),.nil,.nil]),n (.st 3 11 34),m 12 35]
def r6:=[o 37 (.ld true 6 8),m 38 2,o 39 (.call 331 [37,38]),m 36 39,o 40 (.ext 36 0),o 41 (.ext 36 1),o 13 (.alloc 13 [(.bool false),.nil,.nil]),
 n (.st 3 13 40),m 14 41]
def r7:=[o 43 (.ld true 6 8),m 44 2,o 45 (.bin .add 44 (k 1)),o 46 (.call 331 [43,45]),m 42 46,o 47 (.ext 42 0),o 48 (.ext 42 1),
 o 15 (.alloc 15 [(.bool false),.nil,.nil]),n (.st 3 15 47),m 16 48]
def r8:=[m 49 10,m 50 12,o 51 (.bin .neq 49 50)]
def r9:=[o 6 (.b7 (.c (.bool false)))]
def BN:=[m 52 10,o 53 (.bin .neq 52 (k 0))]
def BZ:=[o 54 (.call 336 []),m 55 54,g 56 55 true (.b7 14),g 57 55 true (.b7 10),g 58 55 true (.bin .eql 56 57),o 59 (.pick 55 58 (.c (.bool false))),m 60 59,
 g 61 60 true (.b7 16),g 62 60 true (.b7 10),g 63 60 true (.bin .eql 61 62),o 64 (.pick 60 63 (.c (.bool false))),m 6 64]
def s8:=[o 66 (.ld true 6 8),m 67 2,o 68 (.call 134 [66,67]),m 65 68,o 69 (.ext 65 0),o 70 (.ext 65 1),m 17 69,m 18 70]
def CB:=[o 71 (.call 336 []),m 72 71,g 73 72 true (.b7 14),g 74 72 true (.bin .eql 73 (k 0)),o 75 (.pick 72 74 (.c (.bool false))),m 76 75,g 77 76 true (.b7 16),
 g 78 76 true (.bin .eql 77 (k 0)),o 79 (.pick 76 78 (.c (.bool false))),m 80 79,g 81 80 true (.b7 18),g 82 80 true (.bin .eql 81 (k 0)),
 o 83 (.pick 80 82 (.c (.bool false))),m 84 83,g 85 84 true (.ld true 3 9),g 86 84 true (.ld true 3 11),g 87 84 true (.call 127 [85,86]),
 g 88 84 true (.bin .eql 87 (k 0)),o 89 (.pick 84 88 (.c (.bool false))),m 90 89,g 91 90 true (.b7 17),g 92 90 true (.b7 17),
 g 93 90 true (.call 137 [91,92]),g 94 90 true (.ld true 3 13),g 95 90 true (.call 126 [93,94]),g 96 90 true (.ld true 3 9),
 g 97 90 true (.call 127 [95,96]),g 98 90 true (.bin .eql 97 (k 0)),o 99 (.pick 90 98 (.c (.bool false))),m 100 99,g 101 100 true (.ld true 3 15),
 g 102 100 true (.call 155 [101]),g 103 100 true (.bin .geq 102 (k 0)),o 104 (.pick 100 103 (.c (.bool false))),m 105 104,g 106 105 true (.ld true 3 15),
 g 107 105 true (.ld true 3 13),g 108 105 true (.call 127 [106,107]),g 109 105 true (.bin .leq 108 (k 0)),o 110 (.pick 105 109 (.c (.bool false))),m 6 110]
def c:=(s (d r0 [6]) (s (d r1 [1,19,20]) (s (d r2 [0,7,21,22,23]) (s (d r3 [24,25]) (s (d r4 [26,27,28,29,30]) (s (d r5 [31,32,33,34,35]) (s (d r6 [36,37,38,39,40,41]) (s (d r7 [42,43,44,45,46,47,48]) (s (s (d r8 [12,49,50]) (i 51 (s (d r9 [2,8,9,10,11,13,14,15,16,51]) .ret) .skip)) (s (s (d BN [51,52]) (i 53 (s (d BZ [2,8,9,10,11,13,14,15,16,53,54,55,56,57,58,59,60,61,62,63,64]) .ret) .skip)) (s (d s8 [2,8,10,53,65,66,67,68,69,70]) (s (e CB [9,11,13,14,15,16,17,18,71,72,73,74,75,76,77,78,79,80,81,82,83,84,85,86,87,88,89,90,91,92,93,94,95,96,97,98,99,100,101,102,103,104,105,106,107,108,109,110]) .ret))))))))))))
end PE
def PE:AFn:=⟨3,PE.c,[.tmp 6],false⟩
structure iy (L:Lib):Prop extends l8 L where
 PF:L 336=some F.PF
 PE:L 338=some F.PE
end Go.c9.F

namespace Go.c9
section
variable {L:Lib}
def Cl.le (C C':Cl):Prop:=(∀ f vs r,C.pure f vs=some r->C'.pure f vs=some r)/\(∀ f vs o r,C.ix f vs o=some r->C'.ix f vs o=some r)/\C.num=C'.num
theorem rT {x y:Option (AV × AH)} {r:Nat × List (List AV)} (h : ∀ q,x=some q->y=some q) (hr:SZ x=some r):SZ y=some r:=by
 cases x with
 | none=>simp [SZ]at hr
 | some q=>rw[h q rfl];exact hr
theorem AfY {C C':Cl} (h:C.le C') {c7:List Nat} {ρ:AQ->AV} {own:AH} {op:D6} {E:CE} (he:g8 C c7 ρ own op=some E):g8 C' c7 ρ own op=some E:=by
 cases op with
 | call f xs =>
  simp only[g8]at he ⊢;split at he
  ·rename_i vs il
   simp only[Option.map_eq_some_iff]at he ⊢;obtain ⟨r,hr,rfl⟩:=he;exact ⟨r,h.1 f vs r hr,rfl⟩
  ·cases he
 | g9 f xs =>
  simp only[g8,Option.map_eq_some_iff]at he ⊢;obtain ⟨r,hr,rfl⟩:=he;exact ⟨r,h.2.1 f _ own r hr,rfl⟩
 | qo p f xs=>simp only[g8]at he ⊢;rw[<-h.2.2];exact he
 | sd f x=>simp only[g8]at he ⊢;rw[<-h.2.2];exact he
 | cu s f xs =>
  simp only[g8,Option.map_eq_some_iff]at he ⊢;obtain ⟨p,hp,rfl⟩:=he;exact ⟨p,dD.2 λ o ho=>h.2.1 f _ o _ (dD.1 hp o ho),rfl⟩
 | u6 s f xs =>
  simp only[g8]at he ⊢;split at he
  ·rename_i vs il
   simp only[Option.map_eq_some_iff]at he ⊢;obtain ⟨r,hr,rfl⟩:=he;exact ⟨r,rT (h.2.1 f vs AH.emp) hr,rfl⟩
  ·cases he
 | m7 f xs =>
  simp only[g8]at he ⊢;split at he
  ·rename_i hq
   rw[if_pos hq];split at he
   ·rename_i r hr
    rw[h.1 _ _ r hr];exact he
   ·cases he
  ·cases he
 | n0 x xs =>
  simp only[g8]at he ⊢;rw[<-h.2.2];split at he
  ·split at he
   ·rename_i hg
    rw[if_pos hg];split at he
    ·split at he
     ·rename_i vs il
      simp only[Option.map_eq_some_iff]at he ⊢;obtain ⟨r,hr,rfl⟩:=he;exact ⟨r,h.1 _ vs r hr,rfl⟩
     ·cases he
    ·simp only[Option.map_eq_some_iff]at he ⊢
     obtain ⟨r,hr,rfl⟩:=he;exact ⟨r,h.2.1 _ _ own r hr,rfl⟩
    ·split at he
     ·rename_i vs il
      simp only[Option.map_eq_some_iff]at he ⊢;obtain ⟨r,hr,rfl⟩:=he;exact ⟨r,h.1 _ vs r hr,rfl⟩
     ·cases he
   ·cases he
  ·cases he
 | _=>exact he
theorem AkV {C C':Cl} (h:C.le C') {o:AI} {st k7:St} (he:C7 C o st=some k7):C7 C' o st=some k7:=by
 unfold C7 at he ⊢;split at he
 ·simp only[Option.map_eq_some_iff]at he ⊢
  obtain ⟨E,h1,h2⟩:=he;exact ⟨E,AfY h h1,h2⟩
 ·exact he
 ·exact he
theorem TM {C C':Cl} (h:C.le C') : ∀ {l:List AI} {st k7:St},DD C l st=some k7->DD C' l st=some k7
 | [],st,k7,he=>he
 | o::r,st,k7,he=>by
  simp only[DD]at he ⊢;cases hs:C7 C o st with
  | none=>simp [hs]at he
  | some A9 =>
   rw[AkV h hs];simp only[hs]at he;exact TM h he
theorem K6 {C C':Cl} (h:C.le C') : ∀ {n n':Nat} {k:List It} {st k7:St},n<=n'->run C n k st=some k7->run C' n' k st=some k7:=by
 intro n;induction n with
 | zero=>intro n' k st k7 _ hr;simp [run]at hr
 | succ n ih =>
  intro n' k st k7 hn hr;obtain ⟨q,rfl⟩ : ∃ q,n'=q+1:=⟨n'-1,by omega⟩;have hq:n<=q:=by omega
  cases k with
  | nil=>exact hr
  | cons it k =>
   cases it with
   | g7 id=>simp only[run]at hr ⊢;exact ih hq hr
   | kv ts ss=>simp only[run]at hr ⊢;exact ih hq hr
   | lp c=>simp only[run]at hr ⊢;exact ih hq hr
   | code c =>
    cases c with
    | skip=>simp only[run]at hr ⊢;exact ih hq hr
    | ops l d =>
     simp only[run]at hr ⊢;cases hs:DD C l st with
     | none=>simp [hs]at hr
     | some A9 =>
      rw[TM h hs];simp only[hs]at hr;exact ih hq hr
    | dr c ts ss=>simp only[run]at hr ⊢;exact ih hq hr
    | scope c=>simp only[run]at hr ⊢;exact ih hq hr
    | seq a b=>simp only[run]at hr ⊢;exact ih hq hr
    | cond x a b =>
     simp only[run]at hr ⊢;split at hr
     ·exact ih hq hr
     ·exact ih hq hr
     ·cases hr
    | block id c=>simp only[run]at hr ⊢;exact ih hq hr
    | loop c=>simp only[run]at hr ⊢;exact ih hq hr
    | exit id =>
     simp only[run]at hr ⊢;split at hr
     ·exact ih hq hr
     ·cases hr
    | ret=>exact hr
theorem aZ {I I':List AV->Option (AV × AH)} (hI : ∀ vs r,I vs=some r->I' vs=some r) {vs:List AV} {r:AV} (h:I1 I vs=some r):I1 I' vs=some r:=by
 unfold I1 at h ⊢;cases he:I vs with
 | none=>simp [he]at h
 | some x=>rw[hI vs _ he];simpa [he] using h
theorem AjQ {b:Bool} {I I':List AV->Option (AV × AH)} (hI : ∀ vs r,I vs=some r->I' vs=some r) {vs:List AV} {r:AV} (h:OP b I vs=some r):OP b I' vs=some r:=by
 unfold OP at h ⊢;split at h
 ·split at h
  ·rename_i r1 r2 h1 h2
   rw[aZ hI h1,aZ hI h2];exact h
  ·cases h
 ·exact aZ hI h
theorem vO : ∀ (n:Nat),(C4 L n).le (C4 L (n+1)):=by
 have ix : ∀ n,(∀ f vs o r,DQ L n f vs o=some r->DQ L (n+1) f vs o=some r) -> ∀ f vs r,G4 L n f vs=some r->G4 L (n+1) f vs=some r:=by
  intro n hI f vs r h;exact AjQ (λ vs r h=>hI f vs _ r h) h
 intro n;induction n with
 | zero =>
  have : ∀ f vs o r,DQ L 0 f vs o=some r->DQ L 1 f vs o=some r:=λ f vs o r h=>by simp [DQ]at h
  exact ⟨ix 0 this,this,rfl⟩
 | succ n ih =>
  have : ∀ f vs o r,DQ L (n+1) f vs o=some r->DQ L (n+2) f vs o=some r:=λ f vs o r h=>by
   rw[Z4]at h ⊢;cases hL:L f with
   | none=>simp [hL]at h
   | some fn =>
    simp only[hL]at h ⊢;split at h
    ·rename_i hp
     rw[if_pos hp];cases hr:run (C4 L n) n [.code fn.body] ⟨CZ 0 vs,o⟩ with
     | none=>simp [hr]at h
     | some st =>
      rw[K6 ih (Nat.le_succ n) hr];simpa [hr] using h
    ·cases h
  exact ⟨ix (n+1) this,this,rfl⟩
theorem FH {n n':Nat} (h:n<=n'):(C4 L n).le (C4 L n'):=by
 induction h with
 | refl=>exact ⟨λ_ _ _ h=>h,λ_ _ _ _ h=>h,rfl⟩
 | step _ ih=>exact ⟨λ f vs r h=>(vO _).1 f vs r (ih.1 f vs r h),λ f vs o r h=>(vO _).2.1 f vs o r (ih.2.1 f vs o r h),rfl⟩
def Ev (L:Lib) (f:Nat) (vs:List AV) (r:AV):Prop := ∃ n,G4 L n f vs=some r
def FX (L:Lib) (f:Nat) (vs:List AV) (r:AV):Prop := ∃ n,I1 (λ vs=>DQ L n f vs AH.emp) vs=some r
def GS (L:Lib) (f:Nat) (vs:List AV) (o:AH) (r:AV) (o':AH):Prop := ∃ n,DQ L n f vs o=some (r,o')
def TS (L:Lib) (f:Nat) (vs:List AV) (z:Nat) (es:List (List AV)):Prop := ∃ n,SZ (DQ L n f vs AH.emp)=some (z,es)
theorem Ev.Bk {f:Nat} {vs:List AV} {r r':AV} (h:Ev L f vs r) (h':Ev L f vs r'):r=r':=by
 obtain ⟨n,hn⟩:=h;obtain ⟨n',ry⟩:=h';have h1:=(FH (L:=L) (Nat.le_max_left n n')).1 f vs r hn;have h2:=(FH (L:=L) (Nat.le_max_right n n')).1 f vs r' ry;rw[h1]at h2;exact Option.some.inj h2
theorem GS.Bk {f:Nat} {vs:List AV} {o:AH} {r r':AV} {o1 o2:AH} (h:GS L f vs o r o1) (h':GS L f vs o r' o2):r=r'/\o1=o2:=by
 obtain ⟨n,hn⟩:=h;obtain ⟨n',ry⟩:=h';have h1:=(FH (L:=L) (Nat.le_max_left n n')).2.1 f vs o _ hn;have h2:=(FH (L:=L) (Nat.le_max_right n n')).2.1 f vs o _ ry;rw[h1]at h2;simpa using h2
def AK (L:Lib) (k:List It) (st:St) (Q:St->Prop):Prop := ∃ n c k7,run (C4 L c) n k st=some k7/\Q k7
def AO (L:Lib) (l:List AI) (k:List It) (st:St) (Q:St->Prop):Prop := ∃ n c A9 k7,DD (C4 L c) l st=some A9/\run (C4 L c) n k A9=some k7/\Q k7
variable {k:List It} {st:St} {Q:St->Prop}
theorem L0 {it:It} {k':List It} {A9:St} (h : ∀ (C:Cl) (n:Nat),run C (n+1) (it::k) st=run C n k' A9):AK L (it::k) st Q↔AK L k' A9 Q:=by
 constructor
 ·rintro ⟨n,c,k7,hr,hq⟩
  cases n with
  | zero=>simp [run]at hr
  | succ n=>exact ⟨n,c,k7,by rw[<-h];exact hr,hq⟩
 ·rintro ⟨n,c,k7,hr,hq⟩
  exact ⟨n+1,c,k7,by rw[h];exact hr,hq⟩
theorem Acd:AK L [] st Q↔Q st:=by
 constructor
 ·rintro ⟨n,c,k7,hr,hq⟩
  cases n with
  | zero=>simp [run]at hr
  | succ n=>simp only[run,Option.some.injEq]at hr;exact hr ▸ hq
 ·exact λ h=>⟨1,0,st,rfl,h⟩
theorem Yb {id:Nat}:AK L (.g7 id::k) st Q↔AK L k st Q:=L0 λ_ _=>rfl
theorem Yf {ts ss:List Nat}:AK L (.kv ts ss::k) st Q↔AK L k ⟨al st.tm ts,st.own.drop ss⟩ Q:=L0 λ_ _=>rfl
theorem qL {c:BJ}:AK L (.lp c::k) st Q↔AK L (.code c :: .lp c::k) st Q:=L0 λ_ _=>rfl
theorem Aci:AK L (.code .skip::k) st Q↔AK L k st Q:=L0 λ_ _=>rfl
theorem Ye {c:BJ} {ts ss:List Nat}:AK L (.code (.dr c ts ss)::k) st Q↔AK L (.code c :: .kv ts ss::k) st Q:=L0 λ_ _=>rfl
theorem Acg {c:BJ}:AK L (.code (.scope c)::k) st Q↔AK L (.code c::k) st Q:=L0 λ_ _=>rfl
theorem Ach {a b:BJ}:AK L (.code (.seq a b)::k) st Q↔AK L (.code a :: .code b::k) st Q:=L0 λ_ _=>rfl
theorem Yc {id:Nat} {c:BJ}:AK L (.code (.block id c)::k) st Q↔AK L (.code c :: .g7 id::k) st Q:=L0 λ_ _=>rfl
theorem Zw {c:BJ}:AK L (.code (.loop c)::k) st Q↔AK L (.code c :: .lp c::k) st Q:=L0 λ_ _=>rfl
theorem Zv {id:Nat} {k':List It} (h:DY id k=some k'):AK L (.code (.exit id)::k) st Q↔AK L k' st Q:=L0 λ C n=>by simp [run,h]
theorem Acf:AK L (.code .ret::k) st Q↔Q st:=by
 constructor
 ·rintro ⟨n,c,k7,hr,hq⟩
  cases n with
  | zero=>simp [run]at hr
  | succ n=>simp only[run,Option.some.injEq]at hr;exact hr ▸ hq
 ·exact λ h=>⟨1,0,st,rfl,h⟩
theorem Yd {x:AQ} {a b:BJ} {t:Bool} (h:st.ev x = .bool t):AK L (.code (.cond x a b)::k) st Q↔if t=true then AK L (.code a::k) st Q else AK L (.code b::k) st Q:=by
 cases t
 ·simpa using L0 (k' := .code b::k) (A9:=st) λ C n=>by simp [run,h]
 ·simpa using L0 (k' := .code a::k) (A9:=st) λ C n=>by simp [run,h]
theorem Ace {l:List AI} {d:Bool}:AK L (.code (.ops l d)::k) st Q↔AO L l k st Q:=by
 constructor
 ·rintro ⟨n,c,k7,hr,hq⟩
  cases n with
  | zero=>simp [run]at hr
  | succ n =>
   simp only[run]at hr;split at hr
   ·rename_i A9 hs
    exact ⟨n,c,A9,k7,hs,hr,hq⟩
   ·cases hr
 ·rintro ⟨n,c,A9,k7,hs,hr,hq⟩
  exact ⟨n+1,c,k7,by simp [run,hs,hr],hq⟩
theorem Acr:AO L [] k st Q↔AK L k st Q:=by
 constructor
 ·rintro ⟨n,c,A9,k7,hs,hr,hq⟩
  simp only[DD,Option.some.injEq]at hs;exact ⟨n,c,k7,hs ▸ hr,hq⟩
 ·rintro ⟨n,c,k7,hr,hq⟩
  exact ⟨n,c,st,k7,rfl,hr,hq⟩
theorem Acv {o:AI} {l:List AI} {A9:St} (h : ∀ C,C7 C o st=some A9):AO L (o::l) k st Q↔AO L l k A9 Q:=by
 constructor
 ·rintro ⟨n,c,BV,k7,hs,hr,hq⟩
  simp only[DD,h]at hs;exact ⟨n,c,BV,k7,hs,hr,hq⟩
 ·rintro ⟨n,c,BV,k7,hs,hr,hq⟩
  exact ⟨n,c,BV,k7,by simpa only[DD,h] using hs,hr,hq⟩
theorem Acs {d:Option Nat} {op:D6} {g:Option (Nat × Bool)} {c7:List Nat} {l:List AI} (h:FN st g=some false):AO L (⟨d,op,g,c7⟩::l) k st Q↔AO L l k (st.dst d (.j5 [])) Q :=
 Acv λ C=>by simp [C7,h]
theorem X4 (c:Nat):(C4 L c).num=L.num:=rfl
theorem Acu {d:Option Nat} {op:D6} {g:Option (Nat × Bool)} {c7:List Nat} {l:List AI} {E:CE} (h:FN st g=some true) (he : ∀ c,g8 (C4 L c) c7 st.ev st.own op=some E):AO L (⟨d,op,g,c7⟩::l) k st Q↔AO L l k (st.app d E) Q:=by
 have h : ∀ c,C7 (C4 L c) ⟨d,op,g,c7⟩ st=some (st.app d E):=λ c=>by simp [C7,h,he]
 constructor
 ·rintro ⟨n,c,BV,k7,hs,hr,hq⟩
  simp only[DD,h]at hs;exact ⟨n,c,BV,k7,hs,hr,hq⟩
 ·rintro ⟨n,c,BV,k7,hs,hr,hq⟩
  exact ⟨n,c,BV,k7,by simpa only[DD,h] using hs,hr,hq⟩
theorem Acj {d:Option Nat} {f:Nat} {xs:List AQ} {g:Option (Nat × Bool)} {c7:List Nat} {l:List AI} {vs:List AV} {r:AV} (h:FN st g=some true) (hv:(xs.map st.ev).mapM (C6 (st.own.m8 c7) true)=some vs) (hr:Ev L f vs r) :
  AO L (⟨d,.call f xs,g,c7⟩::l) k st Q↔AO L l k (st.dst d r) Q:=by
 have k6 : ∀ c r',G4 L c f vs=some r'->C7 (C4 L c) ⟨d,.call f xs,g,c7⟩ st=some (st.dst d r'):=λ c r' hc=>by
  have w8:(C4 L c).pure f vs=some r':=hc;simp [C7,h,g8,hv,w8,St.app]
 constructor
 ·rintro ⟨n,c,BV,k7,hs,gd,hq⟩
  simp only[DD]at hs;cases hI:C7 (C4 L c) ⟨d,.call f xs,g,c7⟩ st with
  | none=>simp [hI]at hs
  | some A9 =>
   simp only[hI]at hs;cases hp:G4 L c f vs with
   | none =>
    have w8:(C4 L c).pure f vs=none:=hp;simp [C7,h,g8,hv,w8]at hI
   | some r' =>
    obtain rfl:r'=r:=Ev.Bk ⟨c,hp⟩ hr;rw[k6 c r' hp]at hI;obtain rfl:=Option.some.inj hI;exact ⟨n,c,BV,k7,hs,gd,hq⟩
 ·rintro ⟨n,c,BV,k7,hs,gd,hq⟩
  obtain ⟨c',w8⟩:=hr;have l1:=FH (L:=L) (Nat.le_max_left c c');have l2:=FH (L:=L) (Nat.le_max_right c c');refine ⟨n,max c c',BV,k7,?_,K6 l1 (Nat.le_refl n) gd,hq⟩;simp only[DD];rw[k6 (max c c') r (l2.1 f vs r w8)];exact TM l1 hs
theorem Acm {d:Option Nat} {f:Nat} {x:AQ} {xs:List AQ} {g:Option (Nat × Bool)} {c7:List Nat} {l:List AI} {vs:List AV} {r:AV} (h:FN st g=some true) (hx:st.ev x = .fn true f (L.num f) []) (hv:(xs.map st.ev).mapM (C6 st.own true)=some vs) (hr:Ev L f vs r) :
  AO L (⟨d,.n0 x xs,g,c7⟩::l) k st Q↔AO L l k (st.dst d r) Q:=by
 have k6 : ∀ c r',G4 L c f vs=some r'->C7 (C4 L c) ⟨d,.n0 x xs,g,c7⟩ st=some (st.dst d r'):=λ c r' hc=>by
  have w8:(C4 L c).pure f vs=some r':=hc;simp [C7,h,g8,hx,X4,hv,w8,St.app]
 constructor
 ·rintro ⟨n,c,BV,k7,hs,gd,hq⟩
  simp only[DD]at hs;cases hI:C7 (C4 L c) ⟨d,.n0 x xs,g,c7⟩ st with
  | none=>simp [hI]at hs
  | some A9 =>
   simp only[hI]at hs;cases hp:G4 L c f vs with
   | none =>
    have w8:(C4 L c).pure f vs=none:=hp;simp [C7,h,g8,hx,X4,hv,w8]at hI
   | some r' =>
    obtain rfl:r'=r:=Ev.Bk ⟨c,hp⟩ hr;rw[k6 c r' hp]at hI;obtain rfl:=Option.some.inj hI;exact ⟨n,c,BV,k7,hs,gd,hq⟩
 ·rintro ⟨n,c,BV,k7,hs,gd,hq⟩
  obtain ⟨c',w8⟩:=hr;have l1:=FH (L:=L) (Nat.le_max_left c c');have l2:=FH (L:=L) (Nat.le_max_right c c');refine ⟨n,max c c',BV,k7,?_,K6 l1 (Nat.le_refl n) gd,hq⟩;simp only[DD];rw[k6 (max c c') r (l2.1 f vs r w8)];exact TM l1 hs
theorem Ack {d:Option Nat} {f:Nat} {w:AV} {cs:List AV} {x:AQ} {xs:List AQ} {g:Option (Nat × Bool)} {c7:List Nat} {l:List AI} {vs:List AV} {r:AV} (h:FN st g=some true) (hx:st.ev x = .fn true f (L.num f) (w::cs)) (hv:(AV.agg (w::cs)::xs.map st.ev).mapM (C6 st.own true)=some vs) (hr:Ev L f vs r) :
  AO L (⟨d,.n0 x xs,g,c7⟩::l) k st Q↔AO L l k (st.dst d r) Q:=by
 have k6 : ∀ c r',G4 L c f vs=some r'->C7 (C4 L c) ⟨d,.n0 x xs,g,c7⟩ st=some (st.dst d r'):=λ c r' hc=>by
  have w8:(C4 L c).pure f vs=some r':=hc;simp [C7,h,g8,hx,X4,hv,w8,St.app]
 constructor
 ·rintro ⟨n,c,BV,k7,hs,gd,hq⟩
  simp only[DD]at hs;cases hI:C7 (C4 L c) ⟨d,.n0 x xs,g,c7⟩ st with
  | none=>simp [hI]at hs
  | some A9 =>
   simp only[hI]at hs;cases hp:G4 L c f vs with
   | none =>
    have w8:(C4 L c).pure f vs=none:=hp;simp [C7,h,g8,hx,X4,hv,w8]at hI
   | some r' =>
    obtain rfl:r'=r:=Ev.Bk ⟨c,hp⟩ hr;rw[k6 c r' hp]at hI;obtain rfl:=Option.some.inj hI;exact ⟨n,c,BV,k7,hs,gd,hq⟩
 ·rintro ⟨n,c,BV,k7,hs,gd,hq⟩
  obtain ⟨c',w8⟩:=hr;have l1:=FH (L:=L) (Nat.le_max_left c c');have l2:=FH (L:=L) (Nat.le_max_right c c');refine ⟨n,max c c',BV,k7,?_,K6 l1 (Nat.le_refl n) gd,hq⟩;simp only[DD];rw[k6 (max c c') r (l2.1 f vs r w8)];exact TM l1 hs
theorem Acn {d:Option Nat} {f:Nat} {xs:List AQ} {g:Option (Nat × Bool)} {c7:List Nat} {l:List AI} {r:AV} (h:FN st g=some true) (hq:(xs.map st.ev).all dq=true) (hr:Ev L f ((xs.map st.ev).map yc) r) (eg:NX r\/XT r) :
  AO L (⟨d,.m7 f xs,g,c7⟩::l) k st Q↔AO L l k (st.dst d (PM r)) Q:=by
 have k6 : ∀ c,G4 L c f ((xs.map st.ev).map yc)=some r->C7 (C4 L c) ⟨d,.m7 f xs,g,c7⟩ st=some (st.dst d (PM r)):=λ c hc=>by
  have w8:(C4 L c).pure f ((xs.map st.ev).map yc)=some r:=hc;simp only[C7,h,g8];rw[if_pos hq,w8];simp only[if_pos eg,Option.map_some,St.app]
 constructor
 ·rintro ⟨n,c,BV,k7,hs,gd,Ef⟩
  simp only[DD]at hs;cases hp:G4 L c f ((xs.map st.ev).map yc) with
  | none =>
   have w8:(C4 L c).pure f ((xs.map st.ev).map yc)=none:=hp;simp only[C7,h,g8]at hs;rw[if_pos hq,w8]at hs;simp at hs
  | some r' =>
   obtain rfl:r'=r:=Ev.Bk ⟨c,hp⟩ hr;rw[k6 c hp]at hs;exact ⟨n,c,BV,k7,hs,gd,Ef⟩
 ·rintro ⟨n,c,BV,k7,hs,gd,Ef⟩
  obtain ⟨c',w8⟩:=hr;have l1:=FH (L:=L) (Nat.le_max_left c c');have l2:=FH (L:=L) (Nat.le_max_right c c');refine ⟨n,max c c',BV,k7,?_,K6 l1 (Nat.le_refl n) gd,Ef⟩;simp only[DD];rw[k6 (max c c') (l2.1 f _ r w8)];exact TM l1 hs
theorem Aco {d:Option Nat} {s f:Nat} {xs:List AQ} {g:Option (Nat × Bool)} {c7:List Nat} {l:List AI} {vs:List AV} {z:Nat} {es:List (List AV)} (h:FN st g=some true) (hv:(xs.map st.ev).mapM (TL (st.own.m8 c7) true)=some vs) (hr:TS L f vs z es)
  (ha:AO L l k (st.app d (.new s ⟨z,es⟩ (λ t => .row s t z 0 es.length))) Q):AO L (⟨d,.u6 s f xs,g,c7⟩::l) k st Q:=by
 obtain ⟨n,c,BV,k7,hs,gd,hq⟩:=ha;obtain ⟨c',w8⟩:=hr;have l1:=FH (L:=L) (Nat.le_max_left c c');have l2:=FH (L:=L) (Nat.le_max_right c c');have rl:SZ ((C4 L (max c c')).ix f vs AH.emp)=some (z,es):=rT (l2.2.1 f vs AH.emp) w8;refine ⟨n,max c c',BV,k7,?_,K6 l1 (Nat.le_refl n) gd,hq⟩;simp only[DD];have:C7 (C4 L (max c c')) ⟨d,.u6 s f xs,g,c7⟩ st=some (st.app d (.new s ⟨z,es⟩ (λ t => .row s t z 0 es.length))):=by
  simp only[C7,h,g8,hv,rl,Option.map_some]
 rw[this];exact TM l1 hs
def qT (L:Lib) (s f:Nat) (vs:List AV) (q:CF) (r:AV) (q':CF):Prop := ∃ n,∀ o:AH,o s=q->DQ L n f vs o=some (r,o.put s q')
theorem Acq {d:Option Nat} {s f:Nat} {xs:List AQ} {g:Option (Nat × Bool)} {c7:List Nat} {l:List AI} {r:AV} {q':CF} (h:FN st g=some true) (hr:qT L s f (xs.map st.ev) (st.own s) r q')
  (ha:AO L l k (st.app d (.yd s q' r)) Q):AO L (⟨d,.cu s f xs,g,c7⟩::l) k st Q:=by
 obtain ⟨n,c,BV,k7,hs,gd,hq⟩:=ha;obtain ⟨c',w8⟩:=hr;have l1:=FH (L:=L) (Nat.le_max_left c c');have l2:=FH (L:=L) (Nat.le_max_right c c');have rl:dC (C4 L (max c c')) f (xs.map st.ev) s (st.own s)=some (r,q'):=dD.2 λ o ho=>l2.2.1 f _ o _ (w8 o ho)
 refine ⟨n,max c c',BV,k7,?_,K6 l1 (Nat.le_refl n) gd,hq⟩;simp only[DD];have:C7 (C4 L (max c c')) ⟨d,.cu s f xs,g,c7⟩ st=some (st.app d (.yd s q' r)):=by
  simp only[C7,h,g8,rl,Option.map_some]
 rw[this];exact TM l1 hs
theorem Acl {d:Option Nat} {f:Nat} {xs:List AQ} {g:Option (Nat × Bool)} {c7:List Nat} {l:List AI} {r:AV} {o':AH} (h:FN st g=some true) (hr:GS L f (xs.map st.ev) st.own r o') :
  AO L (⟨d,.g9 f xs,g,c7⟩::l) k st Q↔AO L l k { (st.dst d r) with own:=o' } Q:=by
 have k6 : ∀ c r' o1,DQ L c f (xs.map st.ev) st.own=some (r',o1)->C7 (C4 L c) ⟨d,.g9 f xs,g,c7⟩ st=some { (st.dst d r') with own:=o1 }:=λ c r' o1 hc=>by
  have w8:(C4 L c).ix f (xs.map st.ev) st.own=some (r',o1):=hc;simp [C7,h,g8,w8,St.app]
 constructor
 ·rintro ⟨n,c,BV,k7,hs,gd,hq⟩
  simp only[DD]at hs;cases hI:C7 (C4 L c) ⟨d,.g9 f xs,g,c7⟩ st with
  | none=>simp [hI]at hs
  | some A9 =>
   simp only[hI]at hs;cases hp:DQ L c f (xs.map st.ev) st.own with
   | none =>
    have w8:(C4 L c).ix f (xs.map st.ev) st.own=none:=hp;simp [C7,h,g8,w8]at hI
   | some x =>
    obtain ⟨r',o1⟩:=x;obtain ⟨rfl,rfl⟩:=GS.Bk ⟨c,hp⟩ hr;rw[k6 c r' o1 hp]at hI;obtain rfl:=Option.some.inj hI;exact ⟨n,c,BV,k7,hs,gd,hq⟩
 ·rintro ⟨n,c,BV,k7,hs,gd,hq⟩
  obtain ⟨c',w8⟩:=hr;have l1:=FH (L:=L) (Nat.le_max_left c c');have l2:=FH (L:=L) (Nat.le_max_right c c');refine ⟨n,max c c',BV,k7,?_,K6 l1 (Nat.le_refl n) gd,hq⟩;simp only[DD];rw[k6 (max c c') r o' (l2.2.1 f _ _ _ w8)];exact TM l1 hs
theorem Acp {d:Option Nat} {f:Nat} {cs:List AV} {x:AQ} {xs:List AQ} {g:Option (Nat × Bool)} {c7:List Nat} {l:List AI} {r:AV} {o':AH} (h:FN st g=some true) (hx:st.ev x = .fn false f (L.num f) cs) (hr:GS L f (xs.map st.ev++cs) st.own r o') :
  AO L (⟨d,.n0 x xs,g,c7⟩::l) k st Q↔AO L l k { (st.dst d r) with own:=o' } Q:=by
 have k6 : ∀ c r' o1,DQ L c f (xs.map st.ev++cs) st.own=some (r',o1)->C7 (C4 L c) ⟨d,.n0 x xs,g,c7⟩ st=some { (st.dst d r') with own:=o1 }:=λ c r' o1 hc=>by
  have w8:(C4 L c).ix f (xs.map st.ev++cs) st.own=some (r',o1):=hc;simp [C7,h,g8,hx,X4,w8,St.app]
 constructor
 ·rintro ⟨n,c,BV,k7,hs,gd,hq⟩
  simp only[DD]at hs;cases hI:C7 (C4 L c) ⟨d,.n0 x xs,g,c7⟩ st with
  | none=>simp [hI]at hs
  | some A9 =>
   simp only[hI]at hs;cases hp:DQ L c f (xs.map st.ev++cs) st.own with
   | none =>
    have w8:(C4 L c).ix f (xs.map st.ev++cs) st.own=none:=hp;simp [C7,h,g8,hx,X4,w8]at hI
   | some x =>
    obtain ⟨r',o1⟩:=x;obtain ⟨rfl,rfl⟩:=GS.Bk ⟨c,hp⟩ hr;rw[k6 c r' o1 hp]at hI;obtain rfl:=Option.some.inj hI;exact ⟨n,c,BV,k7,hs,gd,hq⟩
 ·rintro ⟨n,c,BV,k7,hs,gd,hq⟩
  obtain ⟨c',w8⟩:=hr;have l1:=FH (L:=L) (Nat.le_max_left c c');have l2:=FH (L:=L) (Nat.le_max_right c c');refine ⟨n,max c c',BV,k7,?_,K6 l1 (Nat.le_refl n) gd,hq⟩;simp only[DD];rw[k6 (max c c') r o' (l2.2.1 f _ _ _ w8)];exact TM l1 hs
theorem Acc {Q':St->Prop} (h:AK L k st Q) (hq : ∀ s,Q s->Q' s):AK L k st Q':=by
 obtain ⟨n,c,k7,hr,hh⟩:=h;exact ⟨n,c,k7,hr,hq _ hh⟩
theorem GS.intro {f:Nat} {fn:AFn} {vs:List AV} {o:AH} {r:AV} {o':AH} (hL:L f=some fn) (hp:vs.length=fn.ay) (h:AK L [.code fn.body] ⟨CZ 0 vs,o⟩ (λ st=>(fn.res.mapM (FB st)).map IE=some r/\st.own=o')):GS L f vs o r o':=by
 obtain ⟨n,c,k7,hr,h1,h2⟩:=h;refine ⟨max n c+1,?_⟩;rw[Z4];simp only[hL,hp,if_true];rw[K6 (FH (L:=L) (Nat.le_max_right n c)) (Nat.le_max_left n c) hr];cases hm:fn.res.mapM (FB k7) with
 | none=>rw[hm]at h1;cases h1
 | some rs =>
  rw[hm]at h1;simp only[Option.map_some,Option.some.injEq]at h1;simp [hm,h1,h2]
theorem FX.intro {f:Nat} {fn:AFn} {vs:List AV} {r:AV} (hL:L f=some fn) (hp:vs.length=fn.ay) (h:AK L [.code fn.body] ⟨CZ 0 vs,AH.emp⟩ (λ st=>((fn.res.mapM (FB st)).map IE).bind (VW st.own false)=some r/\A3 r)):FX L f vs r:=by
 obtain ⟨n,c,k7,hr,h1,h2⟩:=h;cases hm:(fn.res.mapM (FB k7)).map IE with
 | none=>rw[hm]at h1;cases h1
 | some r0 =>
  rw[hm]at h1;simp only[Option.bind_some]at h1;obtain ⟨q,hq⟩:=GS.intro (o:=AH.emp) (r:=r0) (o':=k7.own) hL hp ⟨n,c,k7,hr,hm,rfl⟩;refine ⟨q,?_⟩;unfold I1;simp [hq,h1,h2]
theorem FX.ev {f:Nat} {fn:AFn} {vs:List AV} {r:AV} (hL:L f=some fn) (h:FX L f vs r) (hs:fn.qu=false:=by rfl):Ev L f vs r:=by
 obtain ⟨n,h⟩:=h;have hs:L.qu f=false:=by simp only[Lib.qu,hL,hs]
 exact ⟨n,by unfold G4 OP;rw[hs];exact h⟩
theorem FX.cons {f:Nat} {q:Bool} {e:List AV} {es:List (List AV)} {vs:List AV} {r:AV} (h:FX L f (.sl q (e::es)::vs) r):Ev L f (.sl q (e::es)::vs) r:=by
 obtain ⟨n,h⟩:=h;refine ⟨n,?_⟩;unfold G4 OP;split
 ·rename_i heq;simp at heq
 ·exact h
theorem FX.nil {f:Nat} {fn:AFn} {q:Bool} {vs:List AV} {r:AV} (hL:L f=some fn) (h1:FX L f (.dh (.bool true)::vs) r) (h2:FX L f (.dh (.bool false)::vs) r) (hs:fn.qu=true:=by rfl):Ev L f (.sl q []::vs) r:=by
 obtain ⟨n,h1⟩:=h1;obtain ⟨n',h2⟩:=h2;have hs:L.qu f=true:=by simp only[Lib.qu,hL,hs]
 have k1:=aZ (λ vs r h=>(FH (L:=L) (Nat.le_max_left n n')).2.1 f vs AH.emp r h) h1;have k2:=aZ (λ vs r h=>(FH (L:=L) (Nat.le_max_right n n')).2.1 f vs AH.emp r h) h2;refine ⟨max n n',?_⟩;unfold G4 OP;rw[hs];simp only;have k1':I1 (λ vs=>DQ L (max n n') f vs AH.emp) (.dh (.bool true)::vs)=some r:=k1;have k2':I1 (λ vs=>DQ L (max n n') f vs AH.emp) (.dh (.bool false)::vs)=some r:=k2;rw[k1',k2'];simp
theorem Ev.intro {f:Nat} {fn:AFn} {vs:List AV} {r:AV} (hL:L f=some fn) (hp:vs.length=fn.ay) (h:AK L [.code fn.body] ⟨CZ 0 vs,AH.emp⟩ (λ st=>((fn.res.mapM (FB st)).map IE).bind (VW st.own false)=some r/\A3 r)) (hs:fn.qu=false:=by rfl):Ev L f vs r :=
 (FX.intro hL hp h).ev hL hs
end
end Go.c9

namespace Go.c9
section
variable {L:Lib} {k:List It} {tm:Tm} {own:AH} {Q:St->Prop} {l:List AI} {c7:List Nat} {d:Nat}
theorem bU (i:Nat) (v:AV) (r:Tm) (j:Nat):j4 ((i,v)::r) j=if j=i then v else j4 r j:=rfl
theorem Ak9 (j:Nat):j4 [] j = .any:=rfl
theorem Ak6 (i:Nat) (v:AV) (r:Tm) (l:List Nat):al ((i,v)::r) l=if l.contains i then al r l else (i,v)::al r l:=rfl
theorem Ak7 (l:List Nat):al [] l=[]:=rfl
theorem Aii (i:Nat) (v:AV) (r:List AV):CZ i (v::r)=(i,v)::CZ (i+1) r:=rfl
end
end Go.c9

namespace Go.c9
section
variable {L:Lib} {k:List It} {tm:Tm} {own:AH} {st:St} {Q:St->Prop} {l:List AI} {c7:List Nat} {d:Nat} {dst:Option Nat}
section
variable {x y:AQ} {kd:IntKind} {a b:Int}
end
def ZJ (fn:AFn) (r:AV) (st:St):Prop:=((fn.res.mapM (FB st)).map IE).bind (VW st.own false)=some r/\A3 r
theorem Ev.fwd {f:Nat} {fn:AFn} {vs:List AV} {r:AV} (hL:L f=some fn) (hp:vs.length=fn.ay) (h:AK L [.code fn.body] ⟨CZ 0 vs,AH.emp⟩ (ZJ fn r)) (hs:fn.qu=false:=by rfl):Ev L f vs r:=Ev.intro hL hp h hs
theorem FX.fwd {f:Nat} {fn:AFn} {vs:List AV} {r:AV} (hL:L f=some fn) (hp:vs.length=fn.ay) (h:AK L [.code fn.body] ⟨CZ 0 vs,AH.emp⟩ (ZJ fn r)):FX L f vs r:=FX.intro hL hp h
end
attribute [irreducible] ZJ
end Go.c9

namespace Go.c9
def pw (n:Int):Int:=2^n.toNat
theorem AjR (n:Int):1<=pw n:=by
 have:0<pw n:=Int.pow_pos (by decide)
 omega
theorem AkB {k2:IntKind} {a n:Int} (h:0<=n/\n<=63):DM .shr .i64 a k2 n=some (.int .i64 (a/pw n)):=by
 have h2:=AjR n;have e:(2:Int)^(min n.toNat IntKind.i64.bits)=pw n:=by
  have:min n.toNat IntKind.i64.bits=n.toNat:=by simp only[IntKind.bits];omega
  rw[this];rfl
 simp only[DM];rw[if_neg (by omega),e,Int.fdiv_eq_ediv_of_nonneg _ (by omega)]
theorem Rv {a m:Int} (hm:0<m):a.tmod m=if 0<=a\/a%m=0 then a%m else a%m-m:=by
 have h:=Int.tmod_eq_emod (a:=a) (b:=m);rw[h];have hd:m ∣ a↔a%m=0:=Int.dvd_iff_emod_eq_zero;by_cases h0:0<=a\/a%m=0
 ·rw[if_pos h0,if_pos (by rcases h0 with h0|h0;exact Or.inl h0;exact Or.inr (hd.2 h0))];omega
 ·rw[if_neg h0,if_neg (λ h=>h0 (h.imp id hd.1))]
  have:(m.natAbs:Int)=m:=by omega
  omega
theorem Tw {a m:Int} (hm:0<m):a.tdiv m=if 0<=a\/a%m=0 then a/m else a/m+1:=by
 have h:=Int.tdiv_eq_ediv (a:=a) (b:=m);rw[h];have hd:m ∣ a↔a%m=0:=Int.dvd_iff_emod_eq_zero;by_cases h0:0<=a\/a%m=0
 ·rw[if_pos h0,if_pos (by rcases h0 with h0|h0;exact Or.inl h0;exact Or.inr (hd.2 h0))];omega
 ·rw[if_neg h0,if_neg (λ h=>h0 (h.imp id hd.1)),Int.sign_eq_one_of_pos hm]
theorem AfV {a m:Int} (hm:1<=m) (h : -9223372036854775808<=a/\a<=9223372036854775807) : -9223372036854775808<=a/m/\a/m<=9223372036854775807:=by
 constructor
 ·rw[Int.le_ediv_iff_mul_le (by omega)]
  have:=Int.mul_le_mul_of_nonpos_left (a := -9223372036854775808) (b:=m) (c:=1) (by omega) hm
  omega
 ·have:a/m<9223372036854775808:=by
   rw[Int.ediv_lt_iff_lt_mul (by omega)];have:=Int.mul_le_mul_of_nonneg_left (c:=9223372036854775808) (a:=1) (b:=m) hm (by omega)
   omega
  omega
section
variable {L:Lib} {k:List It} {tm:Tm} {own:AH} {Q:St->Prop} {l:List AI} {c7:List Nat} {d:Nat} {x y:AQ} {a b n p:Int} {k2:IntKind}
end
end Go.c9

namespace Go.c9
theorem Y8 (ts:List Nat) (j:Nat) : ∀ tm:Tm,j4 (al tm ts) j=if ts.contains j then .any else j4 tm j
 | []=>by simp [Ak7,Ak9]
 | (i,u)::r=>by
  rw[Ak6];by_cases h:ts.contains i=true
  ·rw[if_pos h,Y8 ts j r,bU]
   by_cases h2:j=i
   ·subst h2;rw[if_pos h,if_pos h]
   ·rw[if_neg h2]
  ·rw[if_neg h,bU,bU,Y8 ts j r]
   by_cases h2:j=i
   ·subst h2;rw[if_pos rfl,if_pos rfl,if_neg h]
   ·rw[if_neg h2,if_neg h2]
def UG (j:Nat):List Nat->Bool
 | []=>false
 | i::r=>bif Nat.beq j i then true else UG j r
abbrev YC (n:Int):List AV:=[.int .i64 n]
section
variable {L:Lib} {k:List It} {tm:Tm} {own:AH} {Q:St->Prop} {l:List AI} {c7:List Nat} {d:Nat} {x i:AQ} {kd:IntKind} {a:Int} {q:Bool} {α:Type} {es:List α} {enc:α->List AV} {z:Nat}
end
end Go.c9

namespace Go.c9
inductive A8 where
 | bx (cs:List AV)
 | rw (z:Nat) (es:List (List AV))
 | bs (z:Nat) (es:List (List AV))
 | mx (rows:List (Option (Nat × List (List AV))))
 | hx (i:Nat) (v:AV) (rows:List (Option (Nat × List (List AV))))
 | vw (w:List Nat) (rows:List (Option (Nat × List (List AV))))
abbrev Mem:=List (Nat × Nat × A8)
def e8:Mem->Nat->Option (Nat × A8)
 | [],_=>none
 | (k,s,c)::r,j=>bif Nat.beq j k then some (s,c) else e8 r j
def c4 (M:Mem) (k t:Nat):Option A8:=match e8 M k with
 | none=>none
 | some (_,c)=>match t with
  | 0=>some c
  | i+1=>match c with
   | .mx rows=>match rows[i]? with
    | some (some (z,es))=>some (.rw z es)
    | _=>none
   | .hx _ _ rows=>match rows[i]? with
    | some (some (z,es))=>some (.rw z es)
    | _=>none
   | .vw _ rows=>match rows[i]? with
    | some (some (z,es))=>some (.rw z es)
    | _=>none
   | _=>none
def o5 (j:Nat):Mem->Mem
 | []=>[]
 | (k,s,c)::r=>bif Nat.beq j k then o5 j r else (k,s,c)::o5 j r
def tg:Tm->Nat->AV
 | [],_ => .any
 | (i,v)::r,j=>bif Nat.beq j i then v else tg r j
def bit (m i:Nat):Bool:=Nat.beq (Nat.land (Nat.shiftRight m i) 1) 1
def mask:Nat->List Nat->Nat
 | m,[]=>m
 | m,t::ts=>mask (Nat.lor m (Nat.shiftLeft 1 t)) ts
def wz (m:Nat):Tm->Tm
 | []=>[]
 | (i,v)::r=>bif bit m i then wz m r else (i,v)::wz (Nat.lor m (Nat.shiftLeft 1 i)) r
def fN (n:Nat) (K:Nat->Prop):Prop:=match n with
 | 0=>K 0
 | k+1=>K (k+1)
def ux:AV->Bool
 | .int _ _=>true | .bool _=>true | .dh _=>true | .sl _ _=>true | .nil=>true
 | _=>false
def D8:List AV->Bool
 | []=>true
 | v::r=>bif ux v then D8 r else false
def Z1:List (List AV)->Bool
 | []=>true
 | v::r=>bif D8 v then Z1 r else false
def SF (s:Nat):AV->Bool
 | .row k _ _ _ _=>Nat.beq k s | .ptr k _ _ _=>Nat.beq k s
 | _=>false
def IG (s:Nat):List AV->Bool
 | []=>false
 | v::r=>bif SF s v then true else IG s r
def JW (s:Nat):List (List AV)->Bool
 | []=>false
 | v::r=>bif IG s v then true else JW s r
def UR (s:Nat):AV->Bool
 | .agg cs=>IG s cs
 | .fn _ _ _ cs=>IG s cs
 | v=>SF s v
def Y1 (s:Nat):List AV->Bool
 | []=>false
 | v::r=>bif UR s v then true else Y1 s r
def SG (s:Nat):AV->Bool
 | .j5 vs=>Y1 s vs
 | v=>UR s v
def IH (s:Nat):Tm->Bool
 | []=>false
 | (_,v)::r=>bif SG s v then true else IH s r
def G7 (s:Nat):A8->Bool
 | .bx cs=>IG s cs
 | .rw _ _=>false
 | .bs _ es=>JW s es
 | .mx _=>false
 | .hx _ _ _=>false
 | .vw _ _=>false
def GY (s:Nat):Mem->Bool
 | []=>false
 | (k,_,c)::r=>bif Nat.beq s k then true else bif G7 s c then true else GY s r
def T6 (s:Nat):AV->Bool
 | .row k t _ _ _=>bif Nat.beq k s then (match t with|0=>false|_+1=>true) else false
 | .ptr k t _ _=>bif Nat.beq k s then (match t with|0=>false|_+1=>true) else false
 | _=>false
def S6 (s:Nat):List AV->Bool
 | []=>false
 | v::r=>bif T6 s v then true else S6 s r
def WF (s:Nat):AV->Bool
 | .agg cs=>S6 s cs
 | .fn _ _ _ cs=>S6 s cs
 | v=>T6 s v
def X2 (s:Nat):List AV->Bool
 | []=>false
 | v::r=>bif WF s v then true else X2 s r
def U7 (s:Nat):AV->Bool
 | .j5 vs=>X2 s vs
 | v=>WF s v
def J6 (s:Nat):Tm->Bool
 | []=>false
 | (_,v)::r=>bif U7 s v then true else J6 s r
def X3 (s:Nat):List (List AV)->Bool
 | []=>false
 | v::r=>bif S6 s v then true else X3 s r
def S5 (s:Nat):A8->Bool
 | .bx cs=>S6 s cs
 | .bs _ es=>X3 s es
 | _=>false
def IO (s:Nat):Mem->Bool
 | []=>false
 | (_,_,c)::r=>bif S5 s c then true else IO s r
def used (k:Nat) (tm:Tm) (M:Mem):Bool:=bif GY k M then true else IH k tm
def fS (tm:Tm) (M:Mem):List Nat->(Nat->Prop)->Prop
 | [],_=>False
 | k::r,K=>bif used k tm M then fS tm M r K else K k
def GA (s:Nat) (tm:Tm) (M:Mem) (K:Nat->Prop):Prop:=fS tm M [s,s+1000000,s+2000000,s+3000000] K
def fL:List AV->(List AV->Prop)->Prop
 | [],K=>K []
 | v::r,K=>fL r λ r'=>K (v::r')
def fV (v:AV) (K:AV->Prop):Prop:=match v with
 | .int k n=>K (.int k n) | .bool b=>K (.bool b) | .sl l es=>K (.sl l es) | .row s t z o n=>K (.row s t z o n)
 | .nil=>K .nil | .ptr s t i j=>K (.ptr s t i j) | .u5 cs=>K (.u5 cs) | .agg cs=>fL cs λ cs=>K (.agg cs)
 | .fn p f g cs=>fL cs λ cs=>K (.fn p f g cs)
 | .j5 vs=>fL vs λ vs=>K (.j5 vs) | .dh c=>K (.dh c) | .any=>False
def fC (v:AV) (K:List AV->Prop):Prop:=match v with
 | .agg cs=>fL cs K
 | .fn _ _ _ _=>False
 | .j5 _=>False
 | .any=>False
 | v=>fV v λ v=>K [v]
def fB (b:Bool) (K:Bool->Prop):Prop:=match b with
 | true=>K true
 | false=>K false
def fT:Tm->(Tm->Prop)->Prop
 | [],K=>K []
 | (i,v)::r,K=>fT r λ r'=>K ((i,v)::r')
def fM:Mem->(Mem->Prop)->Prop
 | [],K=>K []
 | (k,s,c)::r,K=>fM r λ r'=>K ((k,s,c)::r')
def fF (v:AV) (K:AV->Prop):Prop:=match v with
 | .int k n=>K (.int k n) | .bool b=>K (.bool b) | .sl l es=>K (.sl l es) | .row s t z o n=>K (.row s t z o n)
 | .nil=>K .nil | .ptr s t i j=>K (.ptr s t i j) | .dh c=>K (.dh c)|_=>False
def f2 (v:AV) (K:AV->Prop):Prop:=match v with
 | .int k n=>K (.int k n) | .bool b=>K (.bool b) | .sl l es=>K (.sl l es) | .row s t z o n=>K (.row s t z o n)
 | .nil=>K .nil | .ptr s t i j=>K (.ptr s t i j) | .dh c=>K (.dh c) | .agg cs=>fL cs λ cs=>K (.agg cs) | .fn p f g cs=>fL cs λ cs=>K (.fn p f g cs)|_=>False
def qp (agg:Bool) (ds:List AV) (K:AV->Prop):Prop:=match agg with
 | true=>K (.agg ds)
 | false=>match ds with
  | [c]=>fF c K
  | _=>False
def AF (p q A B:Prop):Prop:=(p->A)/\(q->B)
def AP (p A:Prop):Prop:=p/\A
def AD (op:BinOp) (k:IntKind) (a:Int) (k':IntKind) (b:Int) (K:AV->Prop):Prop := ∃ v,DM op k a k' b=some v/\K v
def CI (op:UnOp) (k:IntKind) (n:Int) (K:AV->Prop):Prop := ∃ v,VZ op (.int k n)=some v/\K v
def AY (k:IntKind) (n:Int) (K:Int->Prop):Prop:=K (k.wrap n)
def AW (es:List (List AV)) (a:Int) (z:Nat) (K:List AV->Prop):Prop:=0<=a /\ ∃ cs,es[a.toNat]? = some cs/\cs.length=z/\K cs
def A6 (es:List (List AV)) (i j n:Nat) (K:List AV->Prop):Prop := ∃ cs ds,es[i]? = some cs/\part cs j n=some ds/\K ds
def A5 (es:List (List AV)) (i j:Nat) (vs:List AV) (K:List (List AV)->Prop):Prop := ∃ cs,es[i]? = some cs/\j+vs.length<=cs.length/\K (es.set i (splice cs j vs))
def B2 (a b:Int) (bytes:Nat) (zero:List AV) (K:List (List AV)->Nat->Prop):Prop:=(0<=a/\a<=b/\b*bytes<=EA/\b<=9223372036854775807)/\K (List.replicate a.toNat zero) a.toNat
def AM (es:List (List AV)) (K:Nat->Prop):Prop:=K es.length
def BQ (es:List (List AV)) (len:Nat) (ys:List (List AV)) (z bytes:Nat) (K:List (List AV)->Nat->Prop):Prop :=
 len<=es.length/\(∀ e∈ys,e.length=z)/\(len+ys.length)*bytes<=EA/\len+ys.length<=9223372036854775807/\K (es.take len++ys) (len+ys.length)
def B8 (ys:List (List AV)) (z bytes:Nat) (K:List (List AV)->Nat->Prop):Prop :=
 (∀ e∈ys,e.length=z)/\ys.length*bytes<=EA/\ys.length<=9223372036854775807/\K ys ys.length
def C8 (es:List (List AV)) (off len:Nat) (ys:List (List AV)) (z:Nat) (K:List (List AV)->Nat->Prop):Prop :=
 off+len<=es.length/\(∀ e∈ys,e.length=z)/\K (es.take off++ys.take len++es.drop (off+min ys.length len)) (min ys.length len)
def BM (es:List (List AV)) (off len:Nat) (K:List (List AV)->Prop):Prop:=off+len<=es.length/\K ((es.drop off).take len)
def FU:List AV->Bool
 | []=>true
 | v::r=>match v with
  | .int _ _=>FU r | .bool _=>FU r | .dh _=>FU r | .sl _ _=>FU r
  | _=>false
def nl:AV->AV
 | .nil => .sl false []
 | v=>v
def QF:List AV->Bool
 | []=>true
 | v::r=>match v with
  | .int _ _=>QF r | .bool _=>QF r | .dh _=>QF r | .sl _ _=>QF r | .nil=>QF r
  | _=>false
def A1 (es:List (List AV)) (off len:Nat) (K:List (List AV)->Prop):Prop:=off+len<=es.length/\(∀ e∈es,QF e=true)/\K (((es.drop off).take len).map λ e=>e.map nl)
def BO (rows:List (Option (Nat × List (List AV)))) (i:Nat) (K:Option (Nat × List (List AV))->Prop):Prop := ∃ r,rows[i]? = some r/\K r
def BH (rows:List (Option (Nat × List (List AV)))) (i:Nat) (K:Nat->List (List AV)->Prop):Prop := ∃ z es,rows[i]? = some (some (z,es))/\K z es
def CH (rows:List (Option (Nat × List (List AV)))) (i z:Nat) (es:List (List AV)) (K:List (Option (Nat × List (List AV)))->Prop):Prop:=i<rows.length/\K (rows.set i (some (z,es)))
def CK (rows:List (Option (Nat × List (List AV)))) (i z:Nat) (es es':List (List AV)) (K:List (Option (Nat × List (List AV)))->Prop):Prop:=es'.length=es.length/\K (rows.set i (some (z,es')))
def CS (a b:Int) (bytes:Nat) (K:List (Option (Nat × List (List AV)))->Nat->Prop):Prop:=(0<=a/\a<=b/\b*bytes<=EA/\b<=9223372036854775807)/\K (List.replicate a.toNat none) a.toNat
def CP (rows:List (Option (Nat × List (List AV)))) (len:Nat) (r:Option (Nat × List (List AV))) (bytes:Nat) (K:List (Option (Nat × List (List AV)))->Nat->Prop):Prop :=
 len=rows.length/\(len+1)*bytes<=EA/\len+1<=9223372036854775807/\K (rows++[r]) (len+1)
def VV (q:Bool):List (Option (Nat × List (List AV)))->List (List AV)
 | []=>[]
 | none::r=>[.sl false []]::VV q r
 | some (_,es)::r=>[.sl q es]::VV q r
def CD (q:Bool) (rows:List (Option (Nat × List (List AV)))) (off len:Nat) (K:List (List AV)->Prop):Prop :=
 off=0/\len=rows.length/\(∀ z es,some (z,es)∈rows -> ∀ e∈es,FU e=true)/\K (VV q rows)
def BR (lo hi:Option Int) (len:Nat) (K:Nat->Nat->Prop):Prop :=
 ∃ a h:Nat,(match lo with|none=>a=0|some x=>0<=x/\a=x.toNat)/\(match hi with|none=>h=len|some x=>0<=x/\x<=len/\h=x.toNat)/\a<=h/\K a h
def B9 (z:Nat) (es:List (List AV)) (lo hi:Option Int) (K:List (List AV)->Prop):Prop:=(∀ e∈es,e.length=z)/\BR lo hi es.length λ a h=>K ((es.take h).drop a)
def AB (L:Lib) (f:Nat) (vs:List AV) (K:AV->Prop):Prop := ∃ r,Ev L f vs r/\K r
def OU (n:Nat) (cs ds:List AV) (K:Bool->Prop):Prop := ∃ a b,H8 cs=some a/\H8 ds=some b/\a.length=n/\b.length=n/\K (decide (a=b))
def eL:List AV->Bool
 | []=>true
 | .int _ _::r=>eL r
 | _=>false
def CJ (L:Lib) (f:Nat) (vs:List AV) (K:Nat->List (List AV)->Nat->Prop):Prop := ∃ z es n,TS L f vs z es/\n=es.length/\K z es n
abbrev FR:=Nat->Nat->Nat × Nat
def A9 (σ:FR):AV->AV
 | .row k t z o n => .row (σ k t).1 (σ k t).2 z o n
 | .ptr k t i j => .ptr (σ k t).1 (σ k t).2 i j
 | v=>v
def BV (σ:FR):AV->AV
 | .agg cs => .agg (cs.map (A9 σ))
 | .fn p f g cs => .fn p f g (cs.map (A9 σ))
 | v=>A9 σ v
def BI (σ:FR):AV->AV
 | .j5 vs => .j5 (vs.map (BV σ))
 | v=>BV σ v
def B5 (σ:FR) (k:Nat):Nat->List (Option (Nat × List (List AV)))->List (List AV)
 | _,[]=>[]
 | i,none::r=>[.nil]::B5 σ k (i+1) r
 | i,some (z,es)::r=>[.row (σ k (i+1)).1 (σ k (i+1)).2 z 0 es.length]::B5 σ k (i+1) r
def A8.g7 (σ:FR) (k:Nat):A8->EC
 | .bx cs=>⟨cs.length,[cs.map (A9 σ)]⟩
 | .rw z es=>⟨z,es⟩
 | .bs z es=>⟨z,es.map λ cs=>cs.map (A9 σ)⟩
 | .mx rows=>⟨1,B5 σ k 0 rows⟩
 | .hx i v rows=>⟨1,(B5 σ k 0 rows).set i [v]⟩
 | .vw w rows=>⟨1,w.map λ t=>((B5 σ k 0 rows)[t]?).getD []⟩
def A8.oa:A8->Bool
 | .bx _=>false
 | _=>true
def EY (s:Nat):Bool:=Nat.blt s 900000
structure NZ (σ:FR) (own:AH) (M:Mem):Prop where
 site : ∀ k s c,e8 M k=some (s,c)->(σ k 0).1=s
 g7 : ∀ k t c,c4 M k t=some c->(own (σ k t).1).g7 (σ k t).2=some (c.g7 σ k)
 old : ∀ k t c,c4 M k t=some c->(σ k t).2<(own (σ k t).1).j7
 inj : ∀ k t k' t' c c',c4 M k t=some c->c4 M k' t'=some c'->σ k t=σ k' t'->k=k'/\t=t'
 low : ∀ k t c,c4 M k t=some c->c.oa=true->EY (σ k t).1=true
structure RX (σ:FR) (tm:Tm) (M:Mem) (st:St):Prop where
 tm : ∀ j,tg tm j = .any\/j4 st.tm j=BI σ (tg tm j)
 sat:NZ σ st.own M
def SQ (Q:Tm->Mem->Prop) (st:St):Prop := ∃ σ tm M,RX σ tm M st/\Q tm M
def AA (L:Lib) (k:List It) (tm:Tm) (M:Mem) (Q:Tm->Mem->Prop):Prop := ∀ σ st,RX σ tm M st->AK L k st (SQ Q)
def qM (L:Lib) (l:List AI) (k:List It) (tm:Tm) (M:Mem) (Q:Tm->Mem->Prop):Prop := ∀ σ st,RX σ tm M st->AO L l k st (SQ Q)
def A7 (L:Lib) (f:Nat) (vs:List AV) (tm:Tm) (M:Mem) (K:AV->Mem->Prop):Prop :=
 ∀ σ own,NZ σ own M -> ∃ r m6 σ' M',GS L f (vs.map (BI σ)) own (BI σ' r) m6/\NZ σ' m6 M'/\(∀ j,BI σ' (tg tm j)=BI σ (tg tm j))/\K r M'
def Acz (L:Lib) (s f key:Nat) (rest:List AV) (M:Mem) (K:AV->Mem->Prop):Prop :=
 ∃ (cells gf:List AV) (kd:IntKind) (n:Int),e8 M key=some (s,.bx cells)/\D8 cells=true/\D8 gf=true/\(∀ (t:Nat) (q:CF),q.g7 t=some ⟨cells.length,[cells]⟩->qT L s f (.ptr s t 0 0::rest) q (.int kd n) (q.q5 t (some ⟨gf.length,[gf]⟩)))/\K (.int kd n) ((key,s,.bx gf)::M)
def cv:AV->AV
 | .agg cs=>bif D8 cs then .agg cs else .any
 | .j5 [] => .j5 []
 | .u5 _ => .any
 | .fn p f g [] => .fn p f g []
 | v=>bif ux v then v else .any
def ex (tm:Tm):AQ->AV
 | .t n=>tg tm n
 | .c v=>cv v
def kq (k k':IntKind):Bool:=decide (k=k')
def jC (op:BinOp) (k:IntKind) (a:Int) (k':IntKind) (b:Int) (K:AV->Prop):Prop:=match op with
 | .lss=>bif kq k k' then AF (a<b) (b<=a) (K (.bool true)) (K (.bool false)) else False
 | .leq=>bif kq k k' then AF (a<=b) (b<a) (K (.bool true)) (K (.bool false)) else False
 | .gtr=>bif kq k k' then AF (b<a) (a<=b) (K (.bool true)) (K (.bool false)) else False
 | .geq=>bif kq k k' then AF (b<=a) (a<b) (K (.bool true)) (K (.bool false)) else False
 | .eql=>bif kq k k' then AF (a=b) (a≠b) (K (.bool true)) (K (.bool false)) else False
 | .neq=>bif kq k k' then AF (a≠b) (a=b) (K (.bool true)) (K (.bool false)) else False
 | op=>AD op k a k' b K
noncomputable def WZ (mx:Bool) (k:IntKind) (K:AV->Prop) (a:Int) (l:List AV):Prop :=
 List.rec (motive:=λ_=>Int->Prop) (λ a=>K (.int k a)) (λ v _ ih a=>match v with
  | .int _ b=>bif mx then AF (a<b) (b<=a) (ih b) (ih a) else AF (b<a) (a<=b) (ih b) (ih a)
  | _=>False) l a
def zm:List AV->Nat->AV
 | [],_ => .any
 | v::_,0=>v
 | _::r,n+1=>zm r n
def VR (s:Nat):List Nat->Bool
 | []=>true
 | c7 => !(UG s c7)
def W2:List Nat->Bool
 | []=>true
 | s::r=>bif EY s then false else W2 r
def oI (M:Mem) (k t:Nat) (K:Nat->List (List AV)->Prop):Prop:=match e8 M k with
 | some (_,c)=>match t with
  | 0=>match c with
   | .rw z es=>K z es
   | _=>False
  | i+1=>match c with
   | .mx rows=>BH rows i K
   | _=>False
 | none=>False
def dV (M:Mem) (v:AV) (K:List (List AV)->Prop):Prop:=match v with
 | .sl _ es=>K es
 | .nil=>K []
 | .dh (.bool _)=>K []
 | .row key t z off len=>oI M key t λ z' es=>bif Nat.beq z z' then BM es off len K else False
 | _=>False
def XB (q:Bool) (M:Mem) (c7:List Nat) (v:AV) (K:AV->Prop):Prop:=match v with
 | .int k n=>K (.int k n)
 | .bool b=>K (.bool b)
 | .sl l es=>K (.sl l es)
 | .dh c=>K (.dh c)
 | .nil=>K (.sl false [])
 | .row key t z off len=>match e8 M key with
  | some (s,.rw z' es)=>match t with
   | 0=>bif Nat.beq z z' then bif VR s c7 then A1 es off len λ es=>K (.sl q es) else False else False
   | _+1=>False
  | some (_,.mx rows)=>match t with
   | 0=>False
   | i+1=>match c7 with
    | []=>BH rows i λ z' es=>bif Nat.beq z z' then A1 es off len λ es=>K (.sl q es) else False
    | b::r=>bif W2 (b::r) then BH rows i λ z' es=>bif Nat.beq z z' then A1 es off len λ es=>K (.sl q es) else False else False
  | _=>False
 | _=>False
noncomputable def gU (q:Bool) (M:Mem) (c7:List Nat) (l:List AV):(List AV->Prop)->Prop :=
 List.rec (motive:=λ_=>(List AV->Prop)->Prop) (λ K=>K []) (λ v _ ih K=>XB q M c7 v λ v'=>ih λ r'=>K (v'::r')) l
noncomputable def oV (q:Bool) (M:Mem) (c7:List Nat) (l:List (List AV)):(List (List AV)->Prop)->Prop :=
 List.rec (motive:=λ_=>(List (List AV)->Prop)->Prop) (λ K=>K []) (λ v _ ih K=>gU q M c7 v λ v'=>ih λ r'=>K (v'::r')) l
noncomputable def bL (q:Bool) (M:Mem) (c7:List Nat) (v:AV) (K:AV->Prop):Prop:=match v with
 | .row key 0 z off len=>match e8 M key with
  | some (s,.bs z' es)=>bif Nat.beq z z' then bif VR s c7 then bif Nat.beq off 0 then AP (len=es.length) (oV q M c7 es λ es=>K (.sl q es)) else False else False else False
  | some (_,.mx rows)=>match c7 with
   | []=>bif Nat.beq z 1 then CD q rows off len λ es=>K (.sl q es) else False
   | _::_=>False
  | _=>XB q M c7 (.row key 0 z off len) K
 | v=>XB q M c7 v K
noncomputable def oW (q:Bool) (M:Mem) (c7:List Nat) (l:List AV):(List AV->Prop)->Prop :=
 List.rec (motive:=λ_=>(List AV->Prop)->Prop) (λ K=>K []) (λ v _ ih K=>bL q M c7 v λ v'=>ih λ r'=>K (v'::r')) l
noncomputable def UV (q:Bool) (M:Mem) (c7:List Nat) (v:AV) (K:AV->Prop):Prop:=match v with
 | .agg cs=>oW q M c7 cs λ cs=>K (.agg cs)
 | v=>bL q M c7 v K
noncomputable def bM (tm:Tm) (M:Mem) (c7:List Nat) (l:List AQ):(List AV->Prop)->Prop :=
 List.rec (motive:=λ_=>(List AV->Prop)->Prop) (λ K=>K []) (λ x _ ih K=>UV true M c7 (ex tm x) λ v=>ih λ vs=>K (v::vs)) l
noncomputable def gV (M:Mem) (c7:List Nat) (v:AV) (K:AV->Prop):Prop:=match v with
 | .nil=>K .nil
 | v=>UV true M c7 v K
noncomputable def oX (tm:Tm) (M:Mem) (c7:List Nat) (l:List AQ):(List AV->Prop)->Prop :=
 List.rec (motive:=λ_=>(List AV->Prop)->Prop) (λ K=>K []) (λ x _ ih K=>gV M c7 (ex tm x) λ v=>ih λ vs=>K (v::vs)) l
noncomputable def YI (tm:Tm) (l:List AQ):(List AV->Prop)->Prop :=
 List.rec (motive:=λ_=>(List AV->Prop)->Prop) (λ K=>K []) (λ x _ ih K=>fV (ex tm x) λ v=>ih λ vs=>K (v::vs)) l
def fI (tm:Tm) (o:Option AQ) (K:Option Int->Prop):Prop:=match o with
 | none=>K none
 | some x=>match ex tm x with
  | .int _ n=>K (some n)
  | _=>False
def aO (es:List (List AV)) (K:Nat->Prop):Prop:=match es with
 | []=>K 0
 | [_]=>K 1
 | [_,_]=>K 2
 | [_,_,_]=>K 3
 | [_,_,_,_]=>K 4
 | es=>K es.length
noncomputable def jF (tm:Tm) (z:Nat) (l:List AQ):(List (List AV)->Prop)->Prop :=
 List.rec (motive:=λ_=>(List (List AV)->Prop)->Prop) (λ K=>K []) (λ x _ ih K=>fC (ex tm x) λ cs=>bif Nat.beq cs.length z then ih λ es=>K (cs::es) else False) l
noncomputable def lN (tm:Tm) (ps:List (Nat × Nat × AQ)):List AV->(List AV->Prop)->Prop :=
 List.rec (motive:=λ_=>List AV->(List AV->Prop)->Prop) (λ cells K=>K cells) (λ p _ ih cells K=>fC (ex tm p.2.2) λ vs=>bif Nat.beq vs.length p.2.1 then bif Nat.ble (p.1+p.2.1) cells.length then fL (splice cells p.1 vs) λ cells=>ih cells K else False else False) ps
def VH (tm:Tm):List AQ->List AV
 | []=>[]
 | x::r=>ex tm x::VH tm r
def WA (tb:List Nat) (n:Int) (K:Nat->Prop):Prop:=0<=n /\ ∃ v,tb[n.toNat]? = some v/\K v
noncomputable def nF (tm:Tm) (l:List AQ):(List AV->Prop)->Prop :=
 List.rec (motive:=λ_=>(List AV->Prop)->Prop) (λ K=>K []) (λ x _ ih K=>fF (ex tm x) λ v=>ih λ cs=>K (v::cs)) l
def nK:AV->Bool
 | .agg _=>false | .fn _ _ _ _=>false | .j5 _=>false | .any=>false
 | _=>true
def aU:List AV->Bool
 | []=>true
 | v::r=>bif nK v then aU r else false
def WC (M:Mem) (v:AV):Option (Nat × Option (Nat × Nat × Nat)):=match v with
 | .row ky 0 1 0 1=>match e8 M ky with
  | some (_,.bs 1 [[.row k2 0 z 0 n]])=>some (ky,some (k2,z,n))
  | some (_,.rw 1 [[.nil]])=>some (ky,none)
  | _=>none
 | _=>none
def aM (z:Nat):List (List AV)->Bool
 | []=>true
 | e::r=>bif Nat.beq e.length z then aM z r else false
def iZ (tm:Tm) (M:Mem) (s z bytes:Nat) (x y:AQ) (K:AV->Mem->Prop):Prop:=match ex tm y with
 | .row ky 0 zy 0 ny=>match e8 M ky with
  | some (_,.bs z2 lf)=>bif Nat.beq zy z then bif Nat.beq z2 z then bif Nat.beq ny lf.length then bif aM z lf then (match ex tm x with
   | .nil=>bif EY s then aO lf λ n=>AP (n*bytes<=140737488355328/\n<=9223372036854775807) (GA s tm M λ k=>K (.row k 0 z 0 n) ((k,s,.bs z lf)::M)) else False
   | .row kx 0 zx 0 len=>bif Nat.beq zx z then (match e8 M kx with
    | some (s',.bs z1 xg)=>bif Nat.beq z1 z then bif Nat.beq len xg.length then fM (o5 kx M) λ M'=>aO (xg++lf) λ n=>AP (n*bytes<=140737488355328/\n<=9223372036854775807) (GA s tm M λ k=>K (.row k 0 z 0 n) ((k,s',.bs z (xg++lf))::M')) else False else False
    | _=>False) else False
   | _=>False) else False else False else False else False
  | _=>False
 | _=>False
def pL (tm:Tm) (M:Mem) (K:AV->Mem->Prop) (n:Nat) (x v:AQ):Prop:=match ex tm x with
 | .ptr key t i j=>fC (ex tm v) λ vs=>bif Nat.beq vs.length n then (match e8 M key with
  | some (s,c)=>match t with
   | 0=>match c with
    | .bx cs=>bif Nat.beq i 0 then bif Nat.ble (j+vs.length) cs.length then fL (splice cs j vs) λ fe=>K (.j5 []) ((key,s,.bx fe)::M) else False else False
    | .rw z es=>bif D8 vs then A5 es i j vs λ es'=>K (.j5 []) ((key,s,.rw z es')::M) else False
    | .bs _ _=>False
    | .mx rows=>match vs with
     | [.row y7 0 z 0 m]=>bif Nat.beq key y7 then False else bif J6 key tm then False else bif IO key M then False else bif Nat.beq j 0 then (match e8 M y7 with
      | some (_,.rw z' es)=>bif Nat.beq z z' then fM (o5 y7 M) λ M'=>AP (m=es.length) (CH rows i z es λ q7=>K (.j5 []) ((key,s,.mx q7)::M')) else False
      | _=>False) else False
     | [.row y7 (t2+1) z 0 m]=>bif Nat.beq key y7 then bif Nat.beq j 0 then BH rows t2 λ z' es=>bif Nat.beq z z' then AP (m=es.length/\i<rows.length) (K (.j5 []) ((key,s,.vw ((List.range rows.length).set i t2) rows)::M)) else False else False else False
     | _=>False
    | .hx i0 _ rows=>match vs with
     | [.row y7 0 z 0 m]=>bif Nat.beq key y7 then False else bif J6 key tm then False else bif IO key M then False else bif Nat.beq j 0 then (match e8 M y7 with
      | some (_,.rw z' es)=>bif Nat.beq z z' then fM (o5 y7 M) λ M'=>AP (i=i0/\m=es.length) (CH rows i z es λ q7=>K (.j5 []) ((key,s,.mx q7)::M')) else False
      | _=>False) else False
     | _=>False
    | .vw w rows=>match vs with
     | [.row y7 (t2+1) z 0 m]=>bif Nat.beq key y7 then bif Nat.beq j 0 then BH rows t2 λ z' es=>bif Nat.beq z z' then AP (m=es.length/\i<w.length /\ ∀ t∈w,t<rows.length) (K (.j5 []) ((key,s,.vw (w.set i t2) rows)::M)) else False else False else False
     | _=>False
   | i'+1=>match c with
    | .mx rows=>bif D8 vs then BH rows i' λ z es=>A5 es i j vs λ es'=>CK rows i' z es es' λ q7=>K (.j5 []) ((key,s,.mx q7)::M) else False
    | _=>False
  | none=>False) else False
 | _=>False
def BT (r:AV) (K:AV->Prop):Prop:=(NX r\/XT r)/\K (PM r)
noncomputable def XE (L:Lib) (tm:Tm) (M:Mem) (c7:List Nat) (K:AV->Mem->Prop):D6->Prop
 | .b7 x=>fV (ex tm x) λ v=>K v M
 | .w4 s z=>bif EY s then GA s tm M λ k=>K (.row k 0 z 0 0) ((k,s,.rw z [])::M) else False
 | .pick c a b=>match ex tm c with
  | .bool true=>fV (ex tm a) λ v=>K v M
  | .bool false=>fV (ex tm b) λ v=>K v M
  | _=>False
 | .bin op x y=>match ex tm x,ex tm y with
  | .int k a,.int k' b=>jC op k a k' b λ v=>K v M
  | _,_=>False
 | .sf ne n x y=>match ex tm x,ex tm y with
  | .agg cs,.agg ds=>OU n cs ds λ b=>fB (bif ne then !b else b) λ c=>K (.bool c) M
  | _,_=>False
 | .beq ne x y=>match ex tm x,ex tm y with
  | .bool a,.bool b=>fB (bif ne then !(a == b) else a == b) λ c=>K (.bool c) M
  | _,_=>False
 | .un op x=>match ex tm x with
  | .int k n=>CI op k n λ v=>K v M
  | .bool b=>match op with
   | .not=>fB (!b) λ c=>K (.bool c) M
   | _=>False
  | _=>False
 | .conv k x=>match ex tm x with
  | .int _ n=>AY k n λ v=>K (.int k v) M
  | _=>False
 | .box s x=>fC (ex tm x) λ cs=>GA s tm M λ k=>K (.ptr k 0 0 0) ((k,s,.bx cs)::M)
 | .alloc s zero=>bif D8 zero then (GA s tm M λ k=>K (.ptr k 0 0 0) ((k,s,.bx zero)::M)) else False
 | .build zero parts=>bif D8 zero then lN tm parts zero λ cs=>K (.agg cs) M else False
 | .e9 s z parts=>bif EY s then jF tm z parts λ es=>aO es λ n=>GA s tm M λ k=>bif Z1 es then K (.row k 0 z 0 n) ((k,s,.rw z es)::M) else K (.row k 0 z 0 n) ((k,s,.bs z es)::M) else False
 | .a7 x off=>match ex tm x with
  | .ptr key t i j=>K (.ptr key t i (j+off)) M
  | .u5 cs=>fL (cs.drop off) λ cs=>K (.u5 cs) M
  | _=>False
 | .om x off n agg=>match ex tm x with
  | .agg cs=>match part cs off n with
   | some ds=>fL ds λ ds=>qp agg ds λ v=>K v M
   | none=>False
  | _=>False
 | .a5 arr z x i=>match ex tm i with
  | .int _ n=>match arr,ex tm x with
   | some len,.ptr key t i' j=>AP (0<=n/\n<(len:Int)) (K (.ptr key t i' (j+n.toNat*z)) M)
   | some len,.u5 cs=>AP (0<=n/\n<(len:Int)) (fL (cs.drop (n.toNat*z)) λ cs=>K (.u5 cs) M)
   | none,.row key t z' off len=>bif Nat.beq z' z then AP (0<=n/\n<(len:Int)) (K (.ptr key t (off+n.toNat) 0) M) else False
   | none,.sl _ es=>AW es n z λ cs=>K (.u5 cs) M
   | _,_=>False
  | _=>False
 | .ld agg n x=>match ex tm x with
  | .ptr key t i j=>match e8 M key with
   | some (s,c)=>match t with
    | 0=>bif VR s c7 then (match c with
     | .bx cs=>bif Nat.beq i 0 then (match part cs j n with
      | some ds=>fL ds λ ds=>qp agg ds λ v=>K v M
      | none=>False) else False
     | .rw _ es=>A6 es i j n λ ds=>fL ds λ ds=>bif D8 ds then qp agg ds λ v=>K v M else False
     | .bs _ es=>(match es[i]? with
      | some cs=>(match part cs j n with
       | some ds=>fL ds λ ds=>qp agg ds λ v=>K v M
       | none=>False)
      | none=>False)
     | .mx rows=>bif Nat.beq j 0 then bif Nat.beq n 1 then BO rows i λ r=>match r with
      | some (z,es)=>qp agg [.row key (i+1) z 0 es.length] λ v=>K v M
      | none=>qp agg [.nil] λ v=>K v M else False else False
     | .hx _ _ _=>False
     | .vw _ _=>False) else False
    | i'+1=>match c,c7 with
     | .mx rows,[]=>BH rows i' λ_ es=>A6 es i j n λ ds=>fL ds λ ds=>bif D8 ds then qp agg ds λ v=>K v M else False
     | .mx rows,b::r=>bif W2 (b::r) then BH rows i' λ_ es=>A6 es i j n λ ds=>fL ds λ ds=>bif D8 ds then qp agg ds λ v=>K v M else False else False
     | _,_=>False
   | none=>False
  | .u5 cs=>match part cs 0 n with
   | some ds=>fL ds λ ds=>bif D8 ds then qp agg ds λ v=>K v M else False
   | none=>False
  | _=>False
 | .uq agg n x=>match ex tm x with
  | .u5 cs=>match part cs 0 n with
   | some ds=>fL ds λ ds=>bif D8 ds then qp agg ds λ v=>K v M else False
   | none=>False
  | _=>False
 | .st n x v=>pL tm M K n x v
 | .oh s n x v=>match ex tm x with
  | .ptr key 0 _ _=>(match e8 M key with
   | some (s',_)=>bif Nat.beq s' s then pL tm M K n x v else False
   | none=>False)
  | _=>False
 | .m7 f xs=>YI tm xs λ vs=>bif vs.all dq then AB L f (vs.map yc) λ r=>BT r λ r=>K r M else False
 | .mk s z bytes zero l c=>match ex tm l,ex tm c with
  | .int _ a,.int _ b=>bif Nat.beq zero.length z then bif D8 zero then match zero with
   | [.nil]=>bif EY s then CS a b bytes λ rows n=>GA s tm M λ k=>K (.row k 0 z 0 n) ((k,s,.mx rows)::M) else False
   | zero=>bif EY s then (B2 a b bytes zero λ es n=>GA s tm M λ k=>K (.row k 0 z 0 n) ((k,s,.rw z es)::M)) else False else False else False
  | _,_=>False
 | .fx z x lo hi=>fI tm lo λ lo=>fI tm hi λ hi=>match ex tm x with
  | .sl l es=>B9 z es lo hi λ es=>K (.sl l es) M
  | .row key t z' off len=>bif Nat.beq z' z then BR lo hi len λ a h=>K (.row key t z (off+a) (h-a)) M else False
  | .nil=>(match lo,hi with
   | none,none=>K .nil M
   | some a,none=>AP (a=0) (K .nil M)
   | none,some h=>AP (h=0) (K .nil M)
   | some a,some h=>AP (a=0/\h=0) (K .nil M))
  | _=>False
 | .ext x i=>match ex tm x with
  | .j5 vs=>f2 (zm vs i) λ v=>K v M
  | _=>False
 | .len x=>match ex tm x with
  | .sl _ es=>AM es λ n=>K (.int .i64 (n:Int)) M
  | .nil=>K (.int .i64 0) M
  | .row _ _ _ _ n=>K (.int .i64 (n:Int)) M
  | _=>False
 | .mm mx xs=>match VH tm xs with
  | .int k a::r=>WZ mx k (λ v=>K v M) a r
  | _=>False
 | .app s z bytes x y=>bif Nat.ble 800000 s then iZ tm M s z bytes x y K else (
  match WC M (ex tm y) with
  | some (ky,some (k2,z2,n2))=>match ex tm x with
   | .row key 0 z' off len=>bif Nat.beq off 0 then bif Nat.beq z' 1 then bif Nat.beq z 1 then bif Nat.beq key k2 then False else bif Nat.beq key ky then False else bif Nat.beq k2 ky then False else (match e8 M k2 with
    | some (_,.rw z3 es)=>bif Nat.beq z2 z3 then (match e8 M key with
     | some (s',.mx rows)=>fM (o5 key (o5 k2 (o5 ky M))) λ M'=>AP (n2=es.length) (CP rows len (some (z2,es)) bytes λ q7 n=>GA s tm M λ k=>K (.row k 0 z 0 n) ((k,s',.mx q7)::M'))
     | _=>False) else False
    | _=>False) else False else False else False
   | .nil=>bif EY s then bif Nat.beq z 1 then (match e8 M k2 with
    | some (_,.rw z3 es)=>bif Nat.beq z2 z3 then fM (o5 k2 M) λ M'=>AP (n2=es.length/\bytes<=140737488355328) (GA s tm M λ k=>K (.row k 0 z 0 1) ((k,s,.mx [some (z2,es)])::M')) else False
    | _=>False) else False else False
   | _=>False
  | some (ky,none)=>match ex tm x with
   | .row key 0 z' off len=>bif Nat.beq off 0 then bif Nat.beq z' 1 then bif Nat.beq z 1 then bif Nat.beq key ky then False else (match e8 M key with
     | some (s',.mx rows)=>fM (o5 key M) λ M'=>CP rows len none bytes λ q7 n=>GA s tm M λ k=>K (.row k 0 z 0 n) ((k,s',.mx q7)::M')
     | _=>False) else False else False else False
   | .nil=>bif EY s then bif Nat.beq z 1 then AP (bytes<=140737488355328) (GA s tm M λ k=>K (.row k 0 z 0 1) ((k,s,.mx [none])::M)) else False else False
   | _=>False
  | none=>dV M (ex tm y) λ ys=>match ex tm x with
   | .row key 0 z' off len=>bif Nat.beq off 0 then bif Nat.beq z' z then (match e8 M key with
    | some (s',.rw iq es)=>bif Nat.beq iq z then fM (o5 key M) λ M'=>(BQ es len ys z bytes λ es' n=>GA s tm M λ k=>K (.row k 0 z 0 n) ((k,s',.rw z es')::M')) else False
    | _=>False) else False else False
   | .row key (i+1) z' off len=>bif Nat.beq off 0 then bif Nat.beq z' z then (match e8 M key with
    | some (sk,.mx rows)=>fM (o5 key M) λ M'=>BH rows i λ iq es=>bif Nat.beq iq z then (BQ es len ys z bytes λ es' n => ∀ s' v,GA s tm M λ k=>K (.row k 0 z 0 n) ((k,s',.rw z es')::(key,sk,.hx i v (rows.set i none))::M')) else False
    | _=>False) else False else False
   | .nil=>bif EY s then B8 ys z bytes λ es n=>GA s tm M λ k=>K (.row k 0 z 0 n) ((k,s,.rw z es)::M) else False
   | _=>False)
 | .call f xs=>bM tm M c7 xs λ vs=>AB L f vs λ r=>K r M
 | .g9 f xs=>YI tm xs λ vs=>A7 L f vs tm M K
 | .u6 s f xs=>bif EY s then oX tm M c7 xs λ vs=>CJ L f vs λ z es n=>GA s tm M λ k=>K (.row k 0 z 0 n) ((k,s,.rw z es)::M) else False
 | .tu ne x=>match ex tm x with
  | .nil=>fB (xor true ne) λ c=>K (.bool c) M
  | .dh (.bool b)=>fB (xor b ne) λ c=>K (.bool c) M
  | .sl _ es=>AP (es≠[]) (fB (xor false ne) λ c=>K (.bool c) M)
  | .row _ _ _ _ n=>AP (0<n) (fB (xor false ne) λ c=>K (.bool c) M)
  | _=>False
 | .bad=>False
 | .fm x=>match ex tm x with
  | .nil=>K (.int .i64 0) M
  | _=>False
 | .oi s z bytes x y=>match ex tm x,ex tm y with
  | .nil,.int _ n=>bif EY s then AP (0<n/\n*bytes<=EA/\n<=9223372036854775807) (GA s tm M λ k=>K (.row k 0 z 0 n.toNat) ((k,s,.rw z [])::M)) else False
  | _,_=>False
 | .cu s f xs=>YI tm xs λ vs=>match vs with
  | .ptr key 0 0 0::rest=>bif eL rest then Acz L s f key rest M K else False
  | _=>False
 | .gv tb x=>match ex tm x with
  | .int _ n=>WA tb n λ v=>K (.int .u8 v) M
  | _=>False
 | .qo p f xs=>nF tm xs λ cs=>K (.fn (p&&cs.isEmpty) f (L.num f) cs) M
 | .sd f x=>match ex tm x with
  | .agg (c::cs)=>K (.fn true f (L.num f) (c::cs)) M
  | _=>False
 | .n0 x xs=>match ex tm x with
  | .fn true f g []=>AP (g=L.num f) (bM tm M [] xs λ vs=>AB L f vs λ r=>K r M)
  | .fn true f g (c::cs)=>AP (g=L.num f) (UV true M [] (.agg (c::cs)) λ v=>bM tm M [] xs λ vs=>AB L f (v::vs) λ r=>K r M)
  | .fn false f g cs=>bif aU cs then AP (g=L.num f) (YI tm xs λ vs=>fL (vs++cs) λ vs=>A7 L f vs tm M K) else False
  | _=>False
def Eo (key:Nat):Tm->Tm
 | []=>[]
 | (j,v)::r=>bif U7 key v then (j,.any)::Eo key r else (j,v)::Eo key r
def xk (v:AV) (tm:Tm) (K:Tm->Prop):Prop:=match v with
 | .row key (_+1) _ _ _=>fT (Eo key tm) K
 | _=>K tm
noncomputable def XI (L:Lib) (o:AI) (ih:(Tm->Mem->Prop)->Tm->Mem->Prop) (K:Tm->Mem->Prop) (tm:Tm) (M:Mem):Prop:=match o with
 | ⟨some d,.app s z b x y,none,c7⟩=>XE L tm M c7 (λ v M=>xk (ex tm x) tm λ tm=>ih K ((d,v)::tm) M) (.app s z b x y)
 | ⟨some d,op,none,c7⟩=>XE L tm M c7 (λ v M=>ih K ((d,v)::tm) M) op
 | ⟨none,op,none,c7⟩=>XE L tm M c7 (λ_ M=>ih K tm M) op
 | ⟨dst,op,some (g,w),c7⟩=>match tg tm g with
  | .bool b=>fB (b == w) λ c=>match c,dst with
   | true,some d=>XE L tm M c7 (λ v M=>ih K ((d,v)::tm) M) op
   | true,none=>XE L tm M c7 (λ_ M=>ih K tm M) op
   | false,some d=>ih K ((d,.j5 [])::tm) M
   | false,none=>ih K tm M
  | .j5 []=>match dst with
   | some d=>ih K ((d,.j5 [])::tm) M
   | none=>ih K tm M
  | _=>False
noncomputable def XO (L:Lib) (l:List AI):(Tm->Mem->Prop)->Tm->Mem->Prop :=
 List.rec (motive:=λ_=>(Tm->Mem->Prop)->Tm->Mem->Prop) (λ K tm M=>K tm M) (λ o _ ih K tm M=>XI L o ih K tm M) l
noncomputable def XS (L:Lib) (Q:Tm->Mem->Prop) (ih:List It->Tm->Mem->Prop) (k:List It) (tm:Tm) (M:Mem):Prop:=match k with
 | []=>Q tm M
 | it::k=>match it with
  | .g7 _=>ih k tm M
  | .kv ts ss=>fN (mask 0 ts) λ m=>fT (wz m tm) λ tm=>match ss with
   | []=>ih k tm M
   | _::_=>False
  | .lp c=>AA L (.lp c::k) tm M Q
  | .code c=>match c with
   | .skip=>ih k tm M
   | .ops l _=>XO L l (λ tm M=>ih k tm M) tm M
   | .dr c ts ss=>ih (.code c :: .kv ts ss::k) tm M
   | .scope c=>ih (.code c::k) tm M
   | .seq a b=>ih (.code a :: .code b::k) tm M
   | .cond x a b=>match ex tm x with
    | .bool b'=>fB b' λ c=>match c with
     | true=>ih (.code a::k) tm M
     | false=>ih (.code b::k) tm M
    | _=>False
   | .block id c=>ih (.code c :: .g7 id::k) tm M
   | .loop c=>AA L (.lp c::k) tm M Q
   | .exit id=>match DY id k with
    | some k'=>ih k' tm M
    | none=>False
   | .ret=>Q tm M
noncomputable def XK (L:Lib) (Q:Tm->Mem->Prop) (n:Nat):List It->Tm->Mem->Prop :=
 Nat.rec (motive:=λ_=>List It->Tm->Mem->Prop) (λ k tm M=>AA L k tm M Q) (λ_ ih k tm M=>XS L Q ih k tm M) n
def bF (tm:Tm) (M:Mem) (r:J0) (K:AV->Prop):Prop:=match r with
 | .tmp t=>f2 (tg tm t) K
 | .cell t agg n=>match tg tm t with
  | .ptr key 0 i j=>match e8 M key with
   | some (_,.bx cs)=>bif Nat.beq i 0 then (match part cs j n with
    | some ds=>fL ds λ ds=>qp agg ds K
    | none=>False) else False
   | _=>False
  | _=>False
noncomputable def gB (tm:Tm) (M:Mem) (l:List J0):(List AV->Prop)->Prop :=
 List.rec (motive:=λ_=>(List AV->Prop)->Prop) (λ K=>K []) (λ x _ ih K=>bF tm M x λ v=>ih λ vs=>K (v::vs)) l
noncomputable def oU (q:Bool) (M:Mem) (l:List AV):(List AV->Prop)->Prop :=
 List.rec (motive:=λ_=>(List AV->Prop)->Prop) (λ K=>K []) (λ x _ ih K=>UV q M [] x λ v=>ih λ vs=>K (v::vs)) l
def Xq (vs:List AV) (K:AV->Prop):Prop:=match vs with
 | [v]=>K v
 | vs=>K (.j5 vs)
def AJ (a r:AV):Prop:=a=r/\A3 r
noncomputable def U5 (fn:AFn) (r:AV) (tm:Tm) (M:Mem):Prop:=gB tm M fn.res λ vs=>oU false M vs λ vs=>Xq vs λ v=>AJ v r
end Go.c9
