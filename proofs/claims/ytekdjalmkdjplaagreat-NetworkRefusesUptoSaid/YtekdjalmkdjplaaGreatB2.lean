/-
  Functions of the program, as the abstract machine reads them (group TrG). Written by a program (gen.py) off the model's own reading of the translation; the seat's check ties them to it.
-/
import Derived.Test.YtekdjalmkdjplaaGreatB1
import Derived.Calls
import Derived.Below
import Derived.Laws.CopyRow
import Derived.Laws.Cells
import Derived.Laws.MakeOwn
import Derived.Laws.AppendOwn
import Derived.Deep.AppendSrc
import Derived.Deep.Draws
import Derived.ArgAppend
import Derived.Laws.StructEq
import Derived.ChangeKeysEq
set_option linter.unusedSimpArgs false
set_option linter.unusedVariables false
set_option linter.unnecessarySimpa false
namespace Go.c8.F
open C
namespace KG
def r0:=[mv 4 (.c .nil)]
def r1:=[m 11 0,ln 12 11,o 13 (.mk 188013 1 24 [.nil] 12 12),m 5 13]
def r2:=[m 14 0,ln 15 14,o 16 (.mk 188016 3 56 z3 15 15),m 6 16]
def r3:=[m 17 0,ln 18 17,mv 19 k0]
def r4:=[ls 20 19 18]
def r5:=[m 21 19,m 7 21]
def r6:=[m 22 5,m 23 7,m 24 0,ln 25 24,o 26 (.mk 188026 3 56 z3 25 25),ia 27 1 22 23,so 1 27 26]
def r7:=[ad 28 19 k1,m 19 28]
def r8:=[m 29 0,ln 30 29,mv 31 k0]
def r9:=[ls 32 31 30]
def BW:=[m 33 31,m 8 33]
def BZ:=[m 34 0,ln 35 34,mv 36 k0]
def s9:=[ls 37 36 35]
def CT:=[m 38 36,m 9 38]
def x7:=[m 39 6,m 40 9,m 41 1,m 42 9,ia 43 1 41 42,uu 44 1 43,m 45 8,ia 46 3 44 45,tt 47 3 46,
 ia 48 3 39 40,so 3 48 47]
def ah:=[ad 49 36 k1,m 36 49]
def br:=[m 50 0,ln 51 50,mv 52 k0]
def EP:=[ls 53 52 51]
def bu:=[m 54 52,m 10 54]
def fc:=[m 55 5,m 56 10,ia 57 1 55 56,uu 58 1 57,m 59 8,m 60 0,m 61 10,ia 62 1 60 61,uu 63 1 62,m 64 6,
 ca 65 132 [63,64],ia 66 3 58 59,so 3 66 65]
def fr:=[ad 67 52 k1,m 52 67]
def ij:=[ad 68 31 k1,m 31 68]
def ik:=[m 69 5,m 4 69]
def l1:=(s (p r4) (s (i 20 .skip (x 0)) (s (b 1 (s (d r5 [20,21]) (d r6 (rl [7] 22 6)))) (d r7 [28]))))
def l3:=(s (p s9) (s (i 37 .skip (x 4)) (s (b 5 (s (d CT [37,38]) (d x7 (rl [9] 39 10)))) (d ah [49]))))
def l4:=(s (p EP) (s (i 53 .skip (x 6)) (s (b 7 (s (d bu [53,54]) (e fc (rl [10] 55 12)))) (d fr [67]))))
def l2:=(s (p r9) (s (i 32 .skip (x 2)) (s (b 3 (s (d BW [32,33]) (s (s (d BZ [34]) (b 4 (w l3))) (s (d br [35,36,37,50]) (b 6 (w l4)))))) (d ij [8,51,52,53,68]))))
def c:=(s (d r0 [4]) (s (d r1 [11,12,13]) (s (d r2 [14,15,16]) (s (s (d r3 [17]) (b 0 (w l1))) (s (s (d r8 [18,19,20,29]) (b 2 (w l2))) (s (d ik [0,1,5,6,30,31,32,69]) .ret))))))
end KG
def KG:AFn:=⟨2,KG.c,[.tmp 4],false⟩
namespace G3
def r0:=[bx 1 0,al 2 [.nil,.nil],mv 3 k0]
def r1:=[tt 16 6 1,ca 17 130 [16],nt 18 17]
def r2:=[o 19 (.build [.nil,.nil] []),so 2 2 19,mv 3 (k 2)]
def r3:=[fa 20 1 0,uu 21 1 20,ln 22 21,m 4 22]
def r4:=[m 23 4,bi 24 .gtr 23 (k 16)]
def r5:=[o 25 (.build [.nil,.nil] []),so 2 2 25,mv 3 (k 12)]
def r6:=[ca 26 96 [k1],o 27 (.b9 27 3 [26]),m 5 27]
def r7:=[ca 28 96 [k0],o 29 (.b9 29 3 [28]),m 6 29]
def r8:=[m 30 4,o 31 (.c4 145 [30]),o 32 (.gu 31 0 1 false),m 7 32]
def r9:=[m 33 4,mv 34 k0]
def BW:=[ls 35 34 33]
def BZ:=[m 36 34,m 8 36]
def s9:=[m 37 7,m 38 8,ia 39 1 37 38,uu 40 1 39,m 41 8,ca 42 96 [k1],ia 43 3 40 41,so 3 43 42]
def CT:=[ad 44 34 k1,m 34 44]
def x7:=[mv 9 k1]
def ah:=[m 45 9,m 46 4,bi 47 .leq 45 46]
def EP:=[m 50 4,o 51 (.mk 51 3 56 z3 50 50),m 10 51]
def bu:=[m 52 4,mv 53 k0]
def fc:=[ls 54 53 52]
def fr:=[m 55 53,m 11 55]
def ij:=[m 56 10,m 57 11,m 58 7,m 59 11,ia 60 1 58 59,uu 61 1 60,fa 62 1 1,uu 63 1 62,ca 64 132 [61,63],
 ia 65 3 56 57,so 3 65 64]
def ik:=[ad 66 53 k1,m 53 66]
def jv:=[m 67 6,fa 68 1 2,uu 69 1 68,m 70 10,ca 71 132 [69,70],o 72 (.b9 72 3 [71]),o 73 (.app 73 3 56 67 72),m 6 73]
def KP:=[fa 74 1 0,uu 75 1 74,m 76 7,o 77 (.c4 188 [75,76]),m 7 77]
def KQ:=[ca 78 96 [k0],al 12 z3,so 3 12 78]
def MY:=[m 79 4,mv 80 k0]
def SH:=[ls 81 80 79]
def SI:=[m 82 80,m 13 82]
def SJ:=[tt 83 3 12,m 84 7,m 85 13,ia 86 1 84 85,uu 87 1 86,m 88 13,ia 89 3 87 88,tt 90 3 89,
 ca 91 98 [83,90],so 3 12 91]
def vu:=[ad 92 80 k1,m 80 92]
def vy:=[q 93 [14] (.ld true 3 12),m 94 9,q 95 [14] (.call 151 [(k (-1)),94]),q 96 [14] (.call 99 [93,95]),
 al 14 z3,so 3 14 96]
def Y2:=[m 97 4,mv 98 k0]
def Y3:=[ls 99 98 97]
def Y4:=[m 100 98,m 15 100]
def Y5:=[m 101 7,m 102 15,ia 103 1 101 102,uu 104 1 103,m 105 15,m 106 7,m 107 15,ia 108 1 106 107,uu 109 1 108,
 m 110 15,ia 111 3 109 110,tt 112 3 111,tt 113 3 14,ca 114 98 [112,113],ia 115 3 104 105,
 so 3 115 114]
def Y6:=[ad 116 98 k1,m 98 116]
def Y7:=[m 117 5,tt 118 3 14,o 119 (.b9 119 3 [118]),o 120 (.app 120 3 56 117 119),m 5 120]
def br:=[m 48 9,ad 49 48 k1,m 9 49]
def Y8:=[m 121 6,m 122 5,fa 123 1 3,tt 124 3 123,ca 125 190 [122,124],ca 126 191 [121,125],m 127 5,ca 128 170 [127],
 o 129 (.build [.nil,.nil] [(0,1,126),(1,1,128)]),so 2 2 129,mv 3 k0]
def l1:=(s (p BW) (s (i 35 .skip (x 0)) (s (b 1 (s (d BZ [35,36]) (e s9 (rl [8] 37 7)))) (d CT [44]))))
def l3:=(s (p fc) (s (i 54 .skip (x 4)) (s (b 5 (s (d fr [54,55]) (e ij (rl [11] 56 10)))) (d ik [66]))))
def l4:=(s (p SH) (s (i 81 .skip (x 6)) (s (b 7 (s (d SI [81,82]) (e SJ (rl [13] 83 9)))) (d vu [92]))))
def l5:=(s (p Y3) (s (i 99 .skip (x 8)) (s (b 9 (s (d Y4 [99,100]) (e Y5 (rl [15] 101 15)))) (d Y6 [116]))))
def l2:=(s (s (d ah [45,46]) (i 47 .skip (x 2))) (s (b 3 (s (d EP [47,50,51]) (s (s (p bu) (b 4 (w l3))) (s (d jv (rl [10,52,53,54] 67 7)) (s (d KP (ra 74 4)) (s (d KQ [78]) (s (s (p MY) (b 6 (w l4))) (s (e vy (rl [12,79,80,81] 93 4)) (s (s (p Y2) (b 8 (w l5))) (d Y7 (rl [14,97,98,99] 117 4))))))))))) (d br [48,49])))
def c:=(s (d r0 [0,3]) (s (s (d r1 [16,17]) (i 18 (s (d r2 [1,18,19]) .ret) .skip)) (s (d r3 [18,20,21,22]) (s (s (d r4 [23]) (i 24 (s (d r5 [1,4,24,25]) .ret) .skip)) (s (d r6 [24,26,27]) (s (d r7 [28,29]) (s (d r8 [30,31,32]) (s (s (p r9) (b 0 (w l1))) (s (s (d x7 [33,34,35]) (b 2 (w l2))) (s (d Y8 (rl [1,4,5,6,7,9,47] 121 9)) .ret))))))))))
end G3
def G3:AFn:=⟨1,G3.c,[.cell 2 true 2,.tmp 3],false⟩
namespace KM
def r0:=[mv 4 (.c .nil)]
def r1:=[m 7 0,ln 8 7,m 9 1,ln 10 9,ls 11 8 10]
def r2:=[m 12 1,m 13 0,m 0 12,m 1 13]
def r3:=[m 14 0,ln 15 14,o 16 (.mk 16 3 56 z3 15 15),m 5 16]
def r4:=[m 17 5,ln 18 17,mv 19 k0]
def r5:=[ls 20 19 18]
def r6:=[m 21 19,m 6 21]
def r7:=[m 22 6,m 23 1,ln 24 23,ls 25 22 24]
def r8:=[m 26 5,m 27 6,m 28 0,m 29 6,ia 30 3 28 29,tt 31 3 30,m 32 1,m 33 6,ia 34 3 32 33,tt 35 3 34,
 ca 36 98 [31,35],ia 37 3 26 27,so 3 37 36]
def r9:=[m 38 5,m 39 6,m 40 0,m 41 6,ia 42 3 40 41,tt 43 3 42,ca 44 95 [43],ia 45 3 38 39,so 3 45 44]
def BW:=[ad 46 19 k1,m 19 46]
def BZ:=[m 47 5,o 48 (.c4 169 [47]),m 4 48]
def l1:=(s (p r5) (s (i 20 .skip (x 0)) (s (b 1 (s (d r6 [20,21]) (s (d r7 [22,23,24]) (i 25 (e r8 (rl [6] 25 13)) (d r9 (rl [6,25] 38 8)))))) (d BW [46]))))
def c:=(s (d r0 [4]) (s (s (d r1 (ra 7 4)) (i 11 (d r2 [11,12,13]) .skip)) (s (d r3 [11,14,15,16]) (s (s (d r4 [17]) (b 0 (w l1))) (s (d BZ [0,1,5,18,19,20,47,48]) .ret)))))
end KM
def KM:AFn:=⟨2,KM.c,[.tmp 4],false⟩
namespace KN
def r0:=[bx 3 1,mv 4 (.c .nil)]
def r1:=[m 7 0,ln 8 7,o 9 (.mk 9 3 56 z3 8 8),m 5 9]
def r2:=[m 10 5,ln 11 10,mv 12 k0]
def r3:=[ls 13 12 11]
def r4:=[m 14 12,m 6 14]
def r5:=[m 15 5,m 16 6,m 17 0,m 18 6,ia 19 3 17 18,tt 20 3 19,tt 21 3 3,ca 22 99 [20,21],ia 23 3 15 16,
 so 3 23 22]
def r6:=[ad 24 12 k1,m 12 24]
def r7:=[m 25 5,o 26 (.c4 169 [25]),m 4 26]
def l1:=(s (p r3) (s (i 13 .skip (x 0)) (s (b 1 (s (d r4 [13,14]) (e r5 (rl [6] 15 9)))) (d r6 [24]))))
def c:=(s (d r0 [1,4]) (s (d r1 [7,8,9]) (s (s (d r2 [10]) (b 0 (w l1))) (s (d r7 [0,3,5,11,12,13,25,26]) .ret))))
end KN
def KN:AFn:=⟨2,KN.c,[.tmp 4],false⟩
structure u4 (L:Lib):Prop extends jf L,cg L,ak L,jg L where
 KG:L 188=some F.KG
 G3:L 189=some F.G3
 KM:L 191=some F.KM
 KN:L 190=some F.KN
end Go.c8.F
namespace Go.c8.F
open C
namespace H5
def r0:=[bx 2 0,mv 4 kf]
def r1:=[fa 18 2 0,uu 19 1 18,ln 20 19,bi 21 .gtr 20 (k 5),m 22 21,g 23 22 true (.m4 2 0),g 24 22 true (.ld false 1 23),
 g 25 22 true (.len 24),g 26 22 true (.bin .lss 25 (k 62)),pk 27 22 26 kf,m 28 27,g 29 28 false (.m4 2 0),
 g 30 28 false (.ld false 1 29),g 31 28 false (.len 30),g 32 28 false (.bin .gtr 31 (k 70)),pk 33 28 kt 32,m 34 33,
 g 35 34 false (.m4 2 1),g 36 34 false (.ld false 1 35),g 37 34 false (.len 36),g 38 34 false (.bin .gtr 37 (k 70)),pk 39 34 kt 38,
 m 40 39,g 41 40 false (.m4 2 2),g 42 40 false (.ld false 1 41),g 43 40 false (.len 42),g 44 40 false (.bin .gtr 43 (k 70)),
 pk 45 40 kt 44]
def r2:=[ca 46 32 [],m 4 46]
def r3:=[m 47 1,bi 48 .rem 47 (k 30),m 1 48]
def r4:=[tt 50 6 2,m 51 1,ca 52 134 [50,51],m 49 52,et 53 49 0,et 54 49 1,m 5 53,m 6 54]
def r5:=[tt 56 6 2,m 57 1,ca 58 140 [56,57],m 55 58,et 59 55 0,et 60 55 1,m 7 59,m 8 60]
def r6:=[tt 62 6 2,ca 63 133 [62,(.c .nil),(.c .nil)],m 61 63,et 64 61 0,et 65 61 1,et 66 61 2,m 9 64,m 10 65,m 11 66]
def r7:=[tt 68 6 2,ca 69 139 [68,(.c .nil),(.c .nil)],m 67 69,et 70 67 0,et 71 67 1,et 72 67 2,m 12 70,m 13 71,m 14 72]
def r8:=[tt 74 6 2,ca 75 189 [74],m 73 75,et 76 73 0,et 77 73 1,al 15 [.nil,.nil],so 2 15 76,m 16 77]
def r9:=[mv 17 k0]
def BW:=[tt 78 6 2,ca 79 136 [78],nt 80 79]
def BZ:=[mv 17 (k 2)]
def s9:=[fa 81 2 0,uu 82 1 81,ln 83 82,bi 84 .gtr 83 (k 16)]
def CT:=[mv 17 (k 12)]
def x7:=[ca 85 32 [],m 86 85,g 87 86 true (.ld true 6 2),g 88 86 true (.call 130 [87]),g 89 86 true (.ld true 6 2),g 90 86 true (.call 136 [89]),
 g 91 86 true (.beq false 88 90),pk 92 86 91 kf,m 93 92,g 94 93 true (.m8 5),g 95 93 true (.m8 7),
 g 96 93 true (.call 129 [94,95]),pk 97 93 96 kf,m 98 97,g 99 98 true (.m8 6),g 100 98 true (.m8 8),
 g 101 98 true (.bin .eql 99 100),pk 102 98 101 kf,m 103 102,g 104 103 true (.m8 11),g 105 103 true (.m8 14),
 g 106 103 true (.bin .eql 104 105),pk 107 103 106 kf,m 108 107,g 109 108 true (.m8 16),g 110 108 true (.m8 17),
 g 111 108 true (.bin .eql 109 110),pk 112 108 111 kf,m 4 112]
def c:=(s (d r0 [0,4]) (s (s (d r1 (ra 18 27)) (i 45 (s (d r2 [1,2,45,46]) .ret) .skip)) (s (d r3 [45,47,48]) (s (d r4 (ra 49 6)) (s (d r5 (rl [1] 55 6)) (s (d r6 (rl [9,10] 61 6)) (s (d r7 (rl [12,13] 67 6)) (s (d r8 (rl [15] 73 5)) (s (p r9) (s (s (d BW [78,79]) (i 80 (d BZ [80]) (s (d s9 (ra 80 4)) (i 84 (d CT [84]) .skip)))) (s (e x7 (rl [2,5,6,7,8,11,14,16,17] 84 29)) .ret)))))))))))
end H5
def H5:AFn:=⟨2,H5.c,[.tmp 4],false⟩
structure ft (L:Lib):Prop extends u4 L,v8 L where
 H5:L 418=some F.H5
end Go.c8.F

namespace Go.c8
def UD:Value->AV->Bool
 | .int k n,.int k' n'=>k == k'&&n == n'
 | .bool b,.bool b'=>b == b'
 | .slice none 0 0,.nil=>true
 | .string s,.w6 (.string s')=>s.data.toList == s'.data.toList
 | .nilFunc,.w6 .nilFunc=>true
 | _,_=>false
def MN:List Value->List AV->Bool
 | [],[]=>true
 | v::r,a::l=>UD v a&&MN r l
 | _,_=>false
def XA:Value->AV->Bool
 | .agg cs,.agg l=>MN cs.toList l
 | v,a=>UD v a
def BL:Operand->AM->Bool
 | .tmp t,.t n=>t == n
 | .const v,.c a=>XA v a
 | .func g,.c (.fn _ _ g' [])=>g == g'
 | _,_=>false
def DC:List Operand->List AM->Bool
 | [],[]=>true
 | v::r,a::l=>BL v a&&DC r l
 | _,_=>false
def L3:Option Operand->Option AM->Bool
 | none,none=>true
 | some x,some y=>BL x y
 | _,_=>false
section
variable (P:Program)
def PU (t:TypeId):Option Bool :=
 match P.underlying t with
 | some (.struct _)=>some true
 | some (.array _ _)=>some true
 | some _=>some false
 | none=>none
def IB (t:TypeId) (n:Nat):Bool:=match P.info? t with|some i=>i.size == n|none=>false
def TN (t:TypeId) (n:Nat):Bool:=match P.info? t with|some i=>i.bytes == n|none=>false
def PO (t:TypeId) (l:List AV):Bool:=match P.info? t with|some i=>(match i.zero with|some z=>MN z.cells.toList l|none=>false)|none=>false
def LS (t:TypeId) (f:TypeId->Bool):Bool:=match P.underlying t with|some (.slice e)=>f e|_=>false
def fU (t:TypeId) (i off n:Nat):Bool:=match P.underlying t with
 | some (.struct fs)=>(match fs[i]? with|some f=>f.offset == off&&IB P f.type n&&n != 0|none=>false)
 | _=>false
def fW (t:TypeId) (i:Nat) (agg:Bool):Bool:=match P.underlying t with
 | some (.struct fs)=>(match fs[i]? with|some f=>PU P f.type == some agg|none=>false)
 | _=>false
def O6 (place:Nat->Option (Nat × Nat)):List (Nat × Operand)->List (Nat × Nat × AM)->Bool
 | [],[]=>true
 | (i,x)::r,(off,n,y)::l=>place i == some (off,n)&&BL x y&&O6 place r l
 | _,_=>false
def WM (t:TypeId) (ps:List (Nat × Operand)) (y7:List (Nat × Nat × AM)):Bool:=match P.underlying t with
 | some (.struct fs)=>(match fs.toList.mapM (λ f=>(P.info? f.type).map λ i=>(f.offset,i.size)) with|some places=>O6 (places.toArray[·]?) ps y7|none=>false)
 | some (.array _ e)=>(match P.info? e with|some ie=>O6 (λ i=>some (i*ie.size,ie.size)) ps y7|none=>false)
 | _=>false
def OO (k:Nat):List (Nat × Operand)->List AM->Bool
 | [],[]=>true
 | (i,x)::r,y::l=>i == k&&BL x y&&OO (k+1) r l
 | _,_=>false
def A6 (num:Nat->Nat) (op:Op):C2->Bool
 | .m8 y=>match op with | .move x=>BL x y | .assign x=>BL x y|_=>false
 | .u9 _ z=>z != 0&&(match op with | .move (.const (.slice none 0 0))=>true | .assign (.const (.slice none 0 0))=>true|_=>false)
 | .pick c' a' b'=>match op with | .pick c a b=>BL c c'&&BL a a'&&BL b b'|_=>false
 | .bin uk x' y'=>match op with | .binOp op _ x y _=>op == uk&&BL x x'&&BL y y'|_=>false
 | .beq ne x' y'=>match op with | .binOp op t x y _=>(if ne then op == .neq else op == .eql)&&(match P.underlying t with|some .bool=>true|_=>false)&&BL x x'&&BL y y'|_=>false
 | .un uk x'=>match op with | .unOp op _ x=>op == uk&&BL x x'|_=>false
 | .conv k x'=>match op with | .convert s d x=>(P.underlying s).isSome&&(match P.underlying d with|some (.int k')=>k == k'|_=>false)&&BL x x'|_=>false
 | .box _ x'=>match op with | .box _ x=>BL x x'|_=>false
 | .alloc _ z=>match op with | .alloc t=>PO P t z|_=>false
 | .build z y7=>match op with | .build t ps=>PO P t z&&WM P t ps.toList y7|_=>false
 | .b9 _ a4 y7=>match op with
  | .buildSlice t n ps=>LS P t (λ e=>IB P e a4)&&a4 != 0&&n == y7.length&&decide (n*a4<=16777216)&&OO 0 ps.toList y7&&(n == 0||LS P t (λ e=>match P.info? e with|some i=>(match i.zero with|some z=>z.cells.size == a4|none=>false)|none=>false))
  | _=>false
 | .m4 x' off=>match op with
  | .fieldAddr s x f=>BL x x'&&(match P.underlying s with|some (.struct fs)=>(match fs[f]? with|some fd=>fd.offset == off&&(match P.info? fd.type with|some i=>i.size != 0|none=>false)|none=>false)|_=>false)
  | _=>false
 | .gu x' off n agg=>match op with | .field t x f=>BL x x'&&fU P t f off n&&fW P t f agg|_=>false
 | .o6 arr a4 x' i'=>match op with
  | .indexAddr t x i=>BL x x'&&BL i i'&&(match P.underlying t,arr with|some (.array len e),some ko=>len == ko&&IB P e a4&&decide (1<len)|some (.slice e),none=>IB P e a4&&a4 != 0|_,_=>false)
  | _=>false
 | .ld agg n x'=>match op with | .load t x=>BL x x'&&PU P t == some agg&&(if agg then IB P t n else n == 1)|_=>false
 | .st n x' v'=>match op with | .store t x v=>BL x x'&&BL v v'&&IB P t n|_=>false
 | .mk _ a4 bytes z l' c'=>match op with
  | .makeSlice t l c=>BL l l'&&BL c c'&&LS P t (λ e=>IB P e a4&&TN P e bytes&&PO P e z)&&a4 != 0
  | _=>false
 | .de a4 x' ig m6=>match op with
  | .slice t x lo hi none=>BL x x'&&L3 lo ig&&L3 hi m6&&LS P t (λ e=>IB P e a4)&&a4 != 0
  | _=>false
 | .ext x' i'=>match op with | .extract x i=>BL x x'&&i == i'|_=>false
 | .len x'=>match op with
  | .call ⟨.builtin .len,xs,ts⟩=>(match xs.toList,ts.toList with|[x],[t]=>BL x x'&&LS P t (λ_=>true)|_,_=>false)
  | _=>false
 | .mm max k9=>match op with
  | .call ⟨.builtin .min,xs,_⟩ => !max&&DC xs.toList k9
  | .call ⟨.builtin .max,xs,_⟩=>max&&DC xs.toList k9
  | _=>false
 | .app _ a4 bytes x' y'=>match op with
  | .call ⟨.builtin .append,xs,ts⟩=>(match xs.toList,ts.toList with
   | [x,y],[t,u]=>BL x x'&&BL y y'&&LS P t (λ e=>IB P e a4&&TN P e bytes&&(match P.info? e with|some i=>(match i.zero with|some z=>z.cells.size == a4|none=>false)|none=>false))&&a4 != 0&&LS P u (λ_=>true)
   | _,_=>false)
  | _=>false
 | .call f' k9=>match op with
  | .call ⟨.value (.func f),xs,_⟩=>f == num f'&&DC xs.toList k9
  | _=>false
 | .c4 f' k9=>match op with
  | .call ⟨.value (.func f),xs,_⟩=>f == num f'&&DC xs.toList k9
  | _=>false
 | .w5 _ f' k9=>match op with
  | .call ⟨.value (.func f),xs,_⟩=>f == num f'&&DC xs.toList k9
  | _=>false
 | .kn ne x'=>match op with
  | .binOp op t x (.const (.slice none 0 0)) _=>(if ne then op == .neq else op == .eql)&&LS P t (λ_=>true)&&BL x x'
  | _=>false
 | .bad=>true
 | .bn tb i'=>match op with
  | .index t (.const (.string s)) i=>(match P.underlying t with|some .string=>true|_=>false)&&s.data.toList.map (λ b=>b.toNat) == tb&&BL i i'
  | _=>false
 | .jb _ f' k9=>match op with
  | .makeFunc (.func f) first xs=>f == num f'&&first.toList.isEmpty&&DC xs.toList k9
  | _=>false
 | .l7 f' k9=>match op with
  | .call ⟨.value (.func f),xs,_⟩=>f == num f'&&DC xs.toList k9
  | _=>false
 | .n6 _ f' k9=>match op with
  | .call ⟨.value (.func f),xs,_⟩=>f == num f'&&DC xs.toList k9
  | _=>false
 | .il _ n x' v'=>match op with | .store t x v=>BL x x'&&BL v v'&&IB P t n|_=>false
 | .l8 x' k9=>match op with
  | .call ⟨.value x,xs,_⟩=>BL x x'&&DC xs.toList k9
  | _=>false
def SA (ops:Array Oper):Option (Nat × Bool)->Option (Nat × Bool)->Bool
 | none,none=>true
 | some (j,b),some (t,b')=>b == b'&&(match ops[j]? with|some o=>o.dst == some t|none=>false)
 | _,_=>false
def UZ (num:Nat->Nat) (N:Nat) (ops:Array Oper) (o:Oper) (a:AI):Bool :=
 o.dst == a.dst&&(match a.dst with|some d=>decide (d<N)|none=>true)&&SA ops o.guard a.guard&&A6 P num o.op a.op
def MX (num:Nat->Nat) (N:Nat) (ops:Array Oper):List Oper->List AI->Bool
 | [],[]=>true
 | o::r,a::l=>UZ P num N ops o a&&MX num N ops r l
 | _,_=>false
def FJ:C2->Bool
 | .st .. | .app .. | .c4 .. | .l8 .. => true
 | _=>false
def O9:C2->Bool
 | .ld .. | .call .. | .n6 .. => true
 | _=>false
def IR (a:C2):Bool:=FJ a||O9 a||(DH a).isSome
def CH:AM->List Nat
 | .t n=>[n]
 | .c _=>[]
def YX:Option AM->List Nat
 | some x=>CH x
 | none=>[]
def GQ:C2->List Nat
 | .m8 x=>CH x
 | .u9 _ _=>[]
 | .pick c a b=>CH c++CH a++CH b
 | .bin _ x y=>CH x++CH y
 | .beq _ x y=>CH x++CH y
 | .un _ x=>CH x
 | .conv _ x=>CH x
 | .box _ x=>CH x
 | .alloc _ _=>[]
 | .build _ ps=>ps.flatMap (λ p=>CH p.2.2)
 | .b9 _ _ ps=>ps.flatMap CH
 | .m4 x _=>CH x
 | .gu x _ _ _=>CH x
 | .o6 _ _ x i=>CH x++CH i
 | .ld _ _ x=>CH x
 | .st _ x v=>CH x++CH v
 | .mk _ _ _ _ l c=>CH l++CH c
 | .de _ x lo hi=>CH x++YX lo++YX hi
 | .ext x _=>CH x
 | .len x=>CH x
 | .mm _ xs=>xs.flatMap CH
 | .app _ _ _ x y=>CH x++CH y
 | .call _ xs=>xs.flatMap CH
 | .c4 _ xs=>xs.flatMap CH
 | .kn _ x=>CH x
 | .bn _ x=>CH x
 | .jb _ _ xs=>xs.flatMap CH
 | .l8 x xs=>CH x++xs.flatMap CH
 | .l7 _ xs=>xs.flatMap CH
 | .il _ _ x v=>CH x++CH v
 | .n6 _ _ xs=>xs.flatMap CH
 | .w5 _ _ xs=>xs.flatMap CH
 | .bad=>[]
def QD (x:AI):List Nat:=GQ x.op++(match x.guard with|some (g,_)=>[g]|none=>[])++x.dst.toList
def G5 (b:Array Nat) (i j:Nat):Bool:=(b.getD (max i j) 0).testBit (min i j)
def L7 (x:AI):Option Nat:=match x.op,x.a7 with
 | .c4 _ _,[s]=>some s
 | _,_=>none
def QB (x y:AI):Bool:=match L7 x with
 | some s=>DH y.op == some s&&(!FJ y.op && !O9 y.op)
 | none=>false
def jU (b:Array Nat) (x:AI) (i:Nat) (y:AI) (j:Nat):Bool :=
 i == j||G5 b i j ||
  ((match y.dst with|some t => !(QD x).contains t|none=>true) &&
   (!FJ x.op || !IR y.op||QB x y) &&
   (!O9 x.op||(match DH y.op with|some s=>x.a7.contains s|none=>true)) )
def OK (ops:Array Oper) (l:List AI):Bool :=
 let b:=Region.before ops
 (l.zipIdx.all λ(x,i)=>l.zipIdx.all λ(y,j)=>jU b x i y j&&(i == j||G5 b i j||(match DH x.op,DH y.op with|some s,some s'=>s != s'|_,_=>true))) &&
 (ops.toList.zipIdx.all λ(o,i)=>o.after.all λ e=>decide (e.on<i)||(match e.ground with | .gcOnly _=>true|_=>false)) &&
 (!Region.departs ops||(List.range ops.size).all (λ i=>(Region.linearise .gc ops 0).contains i))
def DT (num:Nat->Nat) (N:Nat):Code->A8->Bool
 | c,.dr a _ _=>DT num N c a
 | c',.skip=>match c' with | .skip=>true | .label _=>true|_=>false
 | c',.scope a=>match c' with | .scope c=>DT num N c a|_=>false
 | c',.ops l jj=>match c' with | .region _ ops draw=>draw == jj&&MX P num N ops ops.toList l&&(!draw||OK ops l)|_=>false
 | c',.seq a' b'=>match c' with | .seq a b=>DT num N a a'&&DT num N b b'|_=>false
 | c',.cond x' a' b'=>match c' with | .cond x a b=>BL x x'&&DT num N a a'&&DT num N b b'|_=>false
 | c',.block i' a=>match c' with | .block i c=>i == i'&&DT num N c a|_=>false
 | c',.loop a=>match c' with | .loop c=>DT num N c a|_=>false
 | c',.exit i'=>match c' with | .exit i=>i == i'|_=>false
 | c',.ret=>match c' with | .ret=>true|_=>false
def KL:List ResultVar->List HU->Bool
 | [],[]=>true
 | .tmp t::r,.tmp t'::l=>t == t'&&KL r l
 | .cell a t::r,.cell a' agg n::l=>a == a'&&PU P t == some agg&&(if agg then IB P t n else n == 1)&&KL r l
 | _,_=>false
def okFn (num:Nat->Nat) (fn:Func) (a:AFn):Bool :=
 fn.params.size+fn.nfree == a.u6&&decide (a.u6<=fn.ntmps)&&KL P fn.results.toList a.res&&(match fn.body with|some c=>DT P num fn.ntmps c a.body|none=>false)
end
end Go.c8

namespace Go.c8
@[irreducible] def DI (a b : Nat) : Nat := (a + 18446744073709551616 - b) % 18446744073709551616
theorem PM (a b:Nat):DI a b=(a+18446744073709551616-b)%18446744073709551616:=by unfold DI;rfl
def val:List Nat->Nat
 | []=>0
 | d::l=>d+4294967296*val l
def AR (l:List Nat):Prop := ∀ d∈l,d<4294967296
def dg (n:Nat):List Nat:=if h:n=0 then [] else n%4294967296::dg (n/4294967296)
termination_by n
decreasing_by omega
theorem DZ:dg 0=[]:=by rw[dg];simp
theorem H2 {n:Nat} (h:n≠0):dg n=n%4294967296::dg (n/4294967296):=by rw[dg];simp [h]
theorem HL:val []=0:=rfl
theorem M5 (d:Nat) (l:List Nat):val (d::l)=d+4294967296*val l:=rfl
theorem BF (n:Nat):val (dg n)=n:=by
 induction n using Nat.strongRecOn with
 | ind n ih =>
  by_cases h:n=0
  ·subst h;rw[DZ];rfl
  ·rw[H2 h,M5,ih _ (by omega)]
   omega
theorem C3 (n:Nat):AR (dg n):=by
 induction n using Nat.strongRecOn with
 | ind n ih =>
  by_cases h:n=0
  ·subst h;rw[DZ];intro d hd;cases hd
  ·rw[H2 h]
   intro d hd;rcases List.mem_cons.1 hd with rfl|hd
   ·omega
   ·exact ih _ (by omega) d hd
theorem AR.tail {d:Nat} {l:List Nat} (h:AR (d::l)):AR l:=λ x hx=>h x (List.mem_cons_of_mem _ hx)
theorem AR.head {d:Nat} {l:List Nat} (h:AR (d::l)):d<4294967296:=h d List.mem_cons_self
theorem AR.at {l:List Nat} (h:AR l) {i d:Nat} (hd:l[i]? = some d):d<4294967296:=h d (zM hd)
theorem AR.take {l:List Nat} (h:AR l) (n:Nat):AR (l.take n):=λ x hx=>h x (List.mem_of_mem_take hx)
theorem AR.drop {l:List Nat} (h:AR l) (n:Nat):AR (l.drop n):=λ x hx=>h x (List.mem_of_mem_drop hx)
theorem P2:AR []:=λ_ h=>by cases h
theorem AR.append {a b:List Nat} (h:AR a) (h':AR b):AR (a++b):=λ x hx=>(List.mem_append.1 hx).elim (h x) (h' x)
theorem F6 {d:Nat} (h:d<4294967296):AR [d]:=λ x hx=>by simp at hx;omega
theorem AR.set {l:List Nat} (h:AR l) (i:Nat) {d:Nat} (hd:d<4294967296):AR (l.set i d):=λ x hx=>by
 rcases List.mem_or_eq_of_mem_set hx with h1|h1
 ·exact h x h1
 ·omega
theorem HP (n:Nat):AR (List.replicate n 0):=λ x hx=>by rw[(List.mem_replicate.1 hx).2];omega
theorem QY (a b:List Nat):val (a++b)=val a+4294967296^a.length*val b:=by
 induction a with
 | nil=>simp [val]
 | cons d l ih=>rw[List.cons_append,M5,M5,ih,List.length_cons,Nat.pow_succ];grind
theorem LU (l:List Nat) (v:Nat):val (l++[v])=val l+4294967296^l.length*v:=by
 rw[QY];simp [val]
theorem DX {l:List Nat} (h:AR l):val l<4294967296^l.length:=by
 induction l with
 | nil=>simp [val]
 | cons d l ih =>
  have h1:=ih h.tail;have h2:=h.head;rw[M5,List.length_cons,Nat.pow_succ];omega
theorem C5 {l:List Nat} {i v:Nat} (h:l[i]? = some v):val (l.take (i+1))=val (l.take i)+4294967296^i*v:=by
 have hi:=(zS h).1;rw[List.take_add_one,h,Option.toList_some,LU,List.length_take,Nat.min_eq_left (by omega)]
theorem IG (l:List Nat) (i:Nat) (h:i<=l.length):val l=val (l.take i)+4294967296^i*val (l.drop i):=by
 have:=QY (l.take i) (l.drop i)
 rw[List.take_append_drop,List.length_take,Nat.min_eq_left h]at this;exact this
theorem VX (n:Nat):val (List.replicate n 0)=0:=by
 induction n with
 | zero=>rfl
 | succ n ih=>rw[List.replicate_succ,M5,ih]
theorem rU {l:List Nat} (h:AR l) (ht:l=[] \/ ∃ d,l[l.length-1]? = some d/\d≠0):dg (val l)=l:=by
 induction l with
 | nil=>exact DZ
 | cons d l ih =>
  have h1:=h.head;by_cases hl:l=[]
  ·subst hl
   rcases ht with ht|⟨x,hx,fj⟩
   ·cases ht
   ·simp at hx
    subst hx;rw[M5,HL,H2 (by omega),show (d+4294967296*0)/4294967296=0 by omega,DZ,show (d+4294967296*0)%4294967296=d by omega]
  ·have gy : ∃ x,l[l.length-1]? = some x/\x≠0:=by
    rcases ht with ht|⟨x,hx,fj⟩
    ·cases ht
    ·refine ⟨x,?_,fj⟩
     have:l.length≠0:=λ e=>hl (List.eq_nil_of_length_eq_zero e)
     rw[List.length_cons,show l.length+1-1=(l.length-1)+1 by omega,List.getElem?_cons_succ]at hx;exact hx
   have Ew:=ih h.tail (Or.inr gy);have Dt:val l≠0:=by
    intro e;rw[e,DZ]at Ew;exact hl Ew.symm
   rw[M5,H2 (by omega),show (d+4294967296*val l)/4294967296=val l by omega,Ew,show (d+4294967296*val l)%4294967296=d by omega]
theorem FC {l:List Nat} (h:AR l) {n:Nat} (hn:n<=l.length) (hz : ∀ i,n<=i->i<l.length->l[i]? = some 0) (ht:n=0 \/ ∃ d,l[n-1]? = some d/\d≠0):l.take n=dg (val l):=by
 have hv:val l=val (l.take n):=by
  have h0:l.drop n=List.replicate (l.length-n) 0:=by
   apply List.ext_getElem?;intro i;rw[List.getElem?_drop,List.getElem?_replicate];by_cases hi:n+i<l.length
   ·rw[hz (n+i) (by omega) hi,if_pos (by omega)]
   ·rw[List.getElem?_eq_none (by omega),if_neg (by omega)]
  rw[IG l n hn,h0,VX];omega
 rw[hv];refine (rU (h.take n) ?_).symm;rcases ht with rfl|⟨d,hd,vd⟩
 ·exact Or.inl (by simp)
 ·have k6:=(zS hd).1
  by_cases tu:n=0
  ·subst tu;exact Or.inl (by simp)
  ·refine Or.inr ⟨d,?_,vd⟩
   rw[List.length_take,Nat.min_eq_left hn,List.getElem?_take,if_pos (by omega)];exact hd
theorem L2 {n k:Nat}:(dg n).length<=k↔n<4294967296^k:=by
 induction k generalizing n with
 | zero =>
  by_cases h:n=0
  ·subst h;simp [DZ]
  ·rw[H2 h];simp;omega
 | succ k ih =>
  by_cases h:n=0
  ·subst h;simp [DZ];exact Nat.pos_of_ne_zero (by simp)
  ·rw[H2 h,List.length_cons,Nat.succ_le_succ_iff,ih,Nat.pow_succ]
   rw[Nat.div_lt_iff_lt_mul (by omega)]
theorem DR {l:List Nat} (h:AR l):(dg (val l)).length<=l.length:=L2.2 (DX h)
theorem W2 {n:Nat} (h:n≠0) : ∃ d,(dg n)[(dg n).length-1]? = some d/\d≠0:=by
 induction n using Nat.strongRecOn with
 | ind n ih =>
  rw[H2 h];by_cases h2:n/4294967296=0
  ·rw[h2,DZ]
   exact ⟨n%4294967296,by simp,by omega⟩
  ·obtain ⟨d,hd,vd⟩:=ih _ (by omega) h2
   refine ⟨d,?_,vd⟩;have hl:(dg (n/4294967296)).length≠0:=λ e=>by rw[List.eq_nil_of_length_eq_zero e]at hd;simp at hd
   rw[List.length_cons,show (dg (n/4294967296)).length+1-1=(dg (n/4294967296)).length-1+1 by omega,List.getElem?_cons_succ];exact hd
theorem W0 {n:Nat}:dg n=[]↔n=0:=by
 constructor
 ·intro h
  by_cases h0:n=0
  ·exact h0
  ·rw[H2 h0]at h;cases h
 ·rintro rfl;exact DZ
theorem RO {n:Nat} (h:n≠0):1<=(dg n).length:=by rw[H2 h];simp
theorem Ib {o:List Nat} {i v:Nat} (h:i<o.length):(o.set i v).take (i+1)=o.take i++[v]:=by
 rw[List.take_add_one,List.getElem?_set_self h,List.take_set_of_le (Nat.le_refl i)];rfl
theorem E3 {o:List Nat} {i v:Nat} (h:i<o.length):val ((o.set i v).take (i+1))=val (o.take i)+4294967296^i*v:=by
 rw[Ib h,LU,List.length_take,Nat.min_eq_left (by omega)]
theorem MK (V p t:Nat):V+p*(t%4294967296)+p*4294967296*(t/4294967296)=V+p*t:=by
 have h:=Nat.mod_add_div t 4294967296;have:p*(t%4294967296)+p*4294967296*(t/4294967296)=p*t:=by
  rw[Nat.mul_assoc,<-Nat.mul_add,h]
 omega
theorem CJ {l:List Nat} {n:Nat} (h:l.length<=n):val (l.take n)=val l:=by rw[zT h]
theorem jW (i:Nat):1<=4294967296^i:=Nat.pos_of_ne_zero (by simp)
theorem F3 {l:List Nat} {i d:Nat} (h:l[i]? = some d):val (l.drop i)=d+4294967296*val (l.drop (i+1)):=by
 obtain ⟨hi,rfl⟩:=zS h;rw[List.drop_eq_getElem_cons hi,M5]
theorem VT {a b:List Nat} (ha:AR a) (hb:AR b) (hl:a.length=b.length) {i:Nat} {x y:Nat} (hx:a[i]? = some x) (hy:b[i]? = some y) (he:a.drop (i+1)=b.drop (i+1)) (h:x<y):val a<val b:=by
 have Re:=(zS hx).1;have Rf:=(zS hy).1;rw[IG a i (by omega),IG b i (by omega),F3 hx,F3 hy,he];have h1:=DX (ha.take i);rw[List.length_take,Nat.min_eq_left (by omega)]at h1;generalize val (b.drop (i+1))=r;generalize 4294967296^i=p at *;have:p*(x+4294967296*r)+p<=p*(y+4294967296*r):=by
  rw[<-Nat.mul_succ];exact Nat.mul_le_mul_left p (by omega)
 omega
theorem VU {o:List Nat} {k v old:Nat} (h:o[k]? = some old):val (o.set k v)+4294967296^k*old=val o+4294967296^k*v:=by
 have hk:=(zS h).1;have h1:val (o.set k v)=val (o.take k)+4294967296^k*(v+4294967296*val (o.drop (k+1))):=by
  rw[IG (o.set k v) k (by simp;omega),List.take_set_of_le (Nat.le_refl k),F3 (l:=o.set k v) (d:=v) (by rw[List.getElem?_set_self hk]),List.drop_set_of_lt (by omega)]
 have h2:val o=val (o.take k)+4294967296^k*(old+4294967296*val (o.drop (k+1))):=by
  rw[IG o k (by omega),F3 h]
 rw[h1,h2,Nat.mul_add,Nat.mul_add];omega
theorem SX {l:List Nat} (h:AR l):l.take (dg (val l)).length=dg (val l):=by
 induction l with
 | nil=>rw[HL,DZ];rfl
 | cons d l ih =>
  have h1:=h.head;by_cases h0:val (d::l)=0
  ·rw[h0,DZ];rfl
  ·rw[H2 h0,M5,show (d+4294967296*val l)/4294967296=val l by omega,show (d+4294967296*val l)%4294967296=d by omega,List.length_cons,List.take_succ_cons,ih h.tail]
theorem QZ {a b:Nat} (h:(dg a).length<(dg b).length):a<b:=by
 have h1:a<4294967296^(dg a).length:=L2.1 (Nat.le_refl _);have h2 : ¬ b<4294967296^((dg b).length-1):=λ h3=>by have:=L2.2 h3;omega
 have h3:4294967296^(dg a).length<=4294967296^((dg b).length-1):=Nat.pow_le_pow_right (by omega) (by omega);omega
end Go.c8

namespace Go.c8
section
variable {U V UL VL p u0 u1 u2 v1 v2 top q r:Nat}
theorem xD (hU:U=UL+p*(u2+4294967296*top)) (hV:V=VL+p*(v2+4294967296*v1)) (hl:UL<p) (h2:u2<4294967296) (s8:0<V):U/V*v1<=top:=by
 have h1:U/V*V<=U:=Nat.div_mul_le_self U V;generalize U/V=Q at *;have h3:U<p*(4294967296*(top+1)):=by
  have:p*(u2+4294967296*top)+p<=p*(4294967296*(top+1)):=by
   rw[<-Nat.mul_succ];exact Nat.mul_le_mul_left p (by omega)
  omega
 have h4:p*(4294967296*(Q*v1))<=Q*V:=by
  have e:Q*V=Q*VL+Q*(p*v2)+p*(4294967296*(Q*v1)):=by rw[hV];grind
  omega
 have h5:p*(4294967296*(Q*v1))<p*(4294967296*(top+1)):=by omega
 have:=Nat.lt_of_mul_lt_mul_left h5
 omega
theorem xC (hU:U=UL+p*(u2+4294967296*top)) (hV:V=VL+p*(v2+4294967296*v1)) (hl:UL<p) (hq:q*v1+r=top) (h:r*4294967296+u2<q*v2) (s8:0<V):U/V<q:=by
 rw[Nat.div_lt_iff_lt_mul s8];have e:q*V=q*VL+p*(q*v2+4294967296*(q*v1)):=by rw[hV];grind
 have h1:p*(u2+4294967296*top)+p<=p*(q*v2+4294967296*(q*v1)):=by
  rw[<-Nat.mul_succ];exact Nat.mul_le_mul_left p (by omega)
 omega
theorem xB (h:U<4294967296*V) (hq:4294967296<=q) (s8:0<V):U/V<q:=by
 have:U/V<4294967296:=(Nat.div_lt_iff_lt_mul s8).2 h
 omega
theorem gJ (hU:U=UL+p*(u2+4294967296*top)) (hV:V=VL+p*(v2+4294967296*v1)) (se:VL<p) (h1:2147483648<=v1) (hq:q*v1+r=top) (h:q*v2<=r*4294967296+u2) (Rj:q<4294967296):q<=U/V+1:=by
 have s8:0<V:=by
  have:p*4294967296<=p*(v2+4294967296*v1):=Nat.mul_le_mul_left p (by omega)
  omega
 by_cases h0:q=0
 ·subst h0;exact Nat.zero_le _
 have e:q*V=q*VL+p*(q*v2+4294967296*(q*v1)):=by rw[hV];grind
 have h2:p*(q*v2+4294967296*(q*v1))<=p*(u2+4294967296*top):=Nat.mul_le_mul_left p (by omega);have h3:q*VL<V:=by
  have a1:q*VL<=4294967296*VL:=zR _ (by omega);have a2:p*4294967296<=p*(v2+4294967296*v1):=Nat.mul_le_mul_left p (by omega);omega
 have h4:(q-1)*V<U+1:=by
  have:(q-1)*V+V=q*V:=by
   have:q=q-1+1:=by omega
   rw[<-Nat.succ_mul,Nat.succ_eq_add_one,<-this]
  omega
 have h5:q-1<=U/V:=(Nat.le_div_iff_mul_le s8).2 (by omega);omega
end
theorem dB {U V U' q:Nat} (s8:0<V) (h1:U/V<=q) (h:U'+q*V=U):q=U/V/\U'=U%V:=by
 have h2:q*V<=U:=by omega
 have h3:q<=U/V:=(Nat.le_div_iff_mul_le s8).2 h2;have h4:q=U/V:=by omega
 have:=Nat.div_add_mod U V
 rw[Nat.mul_comm,<-h4]at this;exact ⟨h4,by omega⟩
theorem dA {U V U' q P:Nat} (s8:0<V) (h2:q<=U/V+1) (uw:U'<P) (h:U'+q*V=U+P):q-1=U/V/\1<=q/\U'+V=U%V+P:=by
 have h3:U/V*V<=U:=Nat.div_mul_le_self U V;have h4:U/V<q:=by
  rcases Nat.lt_or_ge (U/V) q with h|h
  ·exact h
  ·have:q*V<=U/V*V:=zR _ h
   omega
 have h6:=Nat.div_add_mod U V;rw[Nat.mul_comm]at h6;generalize U/V=Q at *;generalize U%V=R at *;obtain rfl:q=Q+1:=by omega
 rw[Nat.add_mul,Nat.one_mul]at h;exact ⟨by omega,by omega,by omega⟩
theorem VR {u pl bw:Nat} (hu:u<4294967296) (hp:pl<4294967296) (hb:bw<=1):DI (DI u pl) bw%4294967296+pl+bw=u+4294967296*(DI (DI u pl) bw/9223372036854775808)/\DI (DI u pl) bw/9223372036854775808<=1:=by
 rw[PM,PM];omega
theorem Lw {d e bw:Nat} (hu:d<4294967296) (hp:e<4294967296) (hb:bw<=1):DI (DI d bw) e%4294967296+e+bw=d+4294967296*(DI (DI d bw) e/9223372036854775808)/\DI (DI d bw) e/9223372036854775808<=1:=by
 rw[PM,PM];omega
theorem Lv {d bw:Nat} (hu:d<4294967296) (hb:bw<=1):DI d bw%4294967296+bw=d+4294967296*(DI d bw/9223372036854775808)/\DI d bw/9223372036854775808<=1:=by
 rw[PM];omega
theorem lI {V Y X p D e bw w7 d:Nat} (h:V+Y=X+p*bw) (hd:D+e+bw=d+4294967296*w7):V+p*D+(Y+p*e)=X+p*d+p*4294967296*w7:=by
 have h2:p*D+p*e+p*bw=p*d+p*4294967296*w7:=by
  rw[<-Nat.mul_add,<-Nat.mul_add,hd,Nat.mul_add,Nat.mul_assoc]
 omega
theorem QI {a b:Nat} (ha:a<4294967296) (hb:b<4294967296):a*b<=18446744065119617025 :=
 Nat.mul_le_mul (show a<=4294967295 by omega) (show b<=4294967295 by omega)
theorem dC {X Y s:Nat} (hs:0<s):X*s/(Y*s)=X/Y/\X*s%(Y*s)/s=X%Y:=by
 refine ⟨Nat.mul_div_mul_right X Y hs,?_⟩;rw[Nat.mul_mod_mul_right,Nat.mul_div_cancel _ hs]
end Go.c8

namespace Go.c8
@[irreducible] def M0 (d s : Nat) : Nat := d * 2 ^ s % 4294967296
@[irreducible] def PB (d s : Nat) : Nat := d * 2 ^ s / 4294967296
theorem ZM (d s:Nat):M0 d s=d*2^s%4294967296:=by unfold M0;rfl
theorem PC (d s:Nat):PB d s=d*2^s/4294967296:=by unfold PB;rfl
theorem NY {s:Nat} (hs:s<=32):4294967296=2^s*2^(32-s):=by
 rw[<-Nat.pow_add,show s+(32-s)=32 by omega]
theorem Ie (d s:Nat):M0 d s+4294967296*PB d s=d*2^s:=by
 rw[ZM,PC];exact Nat.mod_add_div _ _
theorem kN {d s:Nat} (hs:s<=32):M0 d s=2^s*(d%2^(32-s)):=by
 rw[ZM,NY hs,Nat.mul_comm d,Nat.mul_mod_mul_left]
theorem kM {d s:Nat} (hs:s<=32):PB d s=d/2^(32-s):=by
 rw[PC,NY hs,Nat.mul_comm d,Nat.mul_div_mul_left _ _ (Nat.two_pow_pos s)]
theorem PD {d s:Nat} (hd:d<4294967296) (hs:s<=32):M0 d s%2^s=0/\PB d s<2^s/\M0 d s+2^s<=4294967296/\d*2^s<=18446744073709551615:=by
 refine ⟨by rw[kN hs,Nat.mul_mod_right],?_,?_,?_⟩
 ·rw[kM hs,Nat.div_lt_iff_lt_mul (Nat.two_pow_pos _),<-Nat.pow_add,show s+(32-s)=32 by omega];exact hd
 ·rw[kN hs]
  have h1:d%2^(32-s)+1<=2^(32-s):=Nat.mod_lt _ (Nat.two_pow_pos _);have h2:=Nat.mul_le_mul_left (2^s) h1;rw[Nat.mul_add,Nat.mul_one,<-NY hs]at h2;exact h2
 ·have h1:2^s<=2^32:=Nat.pow_le_pow_right (by omega) hs
  have h2:d*2^s<=4294967295*4294967296:=Nat.mul_le_mul (by omega) h1;omega
theorem SF {s:Nat} (hs:s<=32):2^s<=4294967296:=(Nat.pow_le_pow_right (by omega) hs:2^s<=2^32)
theorem iI {V X p lo s d:Nat} (h:V+p*lo=X*2^s):V+p*(M0 d s+lo)+p*4294967296*PB d s=(X+p*d)*2^s:=by
 have h1:=Ie d s;have h2:p*(M0 d s+lo)+p*4294967296*PB d s=p*lo+p*(d*2^s):=by
  rw[<-h1];grind
 rw[Nat.add_mul,<-h,Nat.mul_assoc p d];omega
theorem YJ {d V s:Nat} (hs:s<=32):(d+4294967296*V)/2^s=d/2^s+V%2^s*2^(32-s)+4294967296*(V/2^s):=by
 have e:4294967296*V=2^s*(2^(32-s)*V):=by rw[<-Nat.mul_assoc,<-NY hs]
 rw[e,Nat.add_mul_div_left _ _ (Nat.two_pow_pos s)];have h:=Nat.mod_add_div V (2^s);have h2:2^(32-s)*V=V%2^s*2^(32-s)+4294967296*(V/2^s):=by
  have h3:2^(32-s)*V=2^(32-s)*(V%2^s+2^s*(V/2^s)):=by rw[h]
  rw[h3,NY hs];grind
 omega
theorem iN {d V s:Nat} (hs:s<=32):(d+4294967296*V)%2^s=d%2^s:=by
 have e:4294967296*V=2^s*(2^(32-s)*V):=by rw[<-Nat.mul_assoc,<-NY hs]
 rw[e,Nat.add_mul_mod_self_left]
theorem zO {d s:Nat} (hs:s<=32):d*2^(32-s)%4294967296=d%2^s*2^(32-s):=by
 have e:4294967296=2^s*2^(32-s):=NY hs;rw[e,Nat.mul_mod_mul_right]
theorem iM {d V s:Nat} (hd:d<4294967296) (hs:s<=32):d/2^s<2^(32-s)/\V%2^s*2^(32-s)%2^(32-s)=0/\V%2^s*2^(32-s)+2^(32-s)<=4294967296:=by
 refine ⟨?_,Nat.mul_mod_left _ _,?_⟩
 ·rw[Nat.div_lt_iff_lt_mul (Nat.two_pow_pos _),<-Nat.pow_add,show 32-s+s=32 by omega];exact hd
 ·have h1:V%2^s+1<=2^s:=Nat.mod_lt _ (Nat.two_pow_pos _)
  have h2:=zR (2^(32-s)) h1;rw[Nat.add_mul,Nat.one_mul,<-NY hs]at h2;exact h2
def l9 (x:Nat):Nat:=if x=0 then 0 else x.log2+1
theorem bV {x:Nat} (h:x≠0):2^(l9 x-1)<=x/\x<2^l9 x/\1<=l9 x:=by
 unfold l9;rw[if_neg h];exact ⟨Nat.log2_self_le h,Nat.lt_log2_self,by omega⟩
theorem TL {x k:Nat} (h:x<2^k):l9 x<=k:=by
 by_cases h0:x=0
 ·subst h0;unfold l9;simp
 ·obtain ⟨h1,_,h3⟩:=bV h0
  have h2:2^(l9 x-1)<2^k:=by omega
  have:=(Nat.pow_lt_pow_iff_right (by omega)).1 h2
  omega
theorem RF {x:Nat} (n:Nat) (h:2^n<=x):l9 (x/2^n)+n=l9 x:=by
 have hp:=Nat.two_pow_pos n;have hx:x≠0:=by omega
 have hq:x/2^n≠0:=by have:=Nat.div_pos h hp;omega
 unfold l9;rw[if_neg hx,if_neg hq];have:(x/2^n).log2+n=x.log2:=by
  symm
  rw[Nat.log2_eq_iff hx];have h1:=Nat.log2_self_le hq;have h2:x/2^n<2^((x/2^n).log2+1):=Nat.lt_log2_self;rw[Nat.le_div_iff_mul_le hp,<-Nat.pow_add]at h1;rw[Nat.div_lt_iff_lt_mul hp,<-Nat.pow_add]at h2;exact ⟨h1,by rw[show (x/2^n).log2+n+1=(x/2^n).log2+1+n by omega];exact h2⟩
 omega
theorem YK {x:Nat} (h0:x≠0) (hx:x<4294967296):l9 x<=32/\1<=l9 x/\2147483648<=x*2^(32-l9 x)/\x*2^(32-l9 x)<4294967296:=by
 obtain ⟨h1,h2,h3⟩:=bV h0;have hk:l9 x<=32:=TL (k:=32) hx;refine ⟨hk,h3,?_,?_⟩
 ·have:=zR (2^(32-l9 x)) h1
  rw[<-Nat.pow_add,show l9 x-1+(32-l9 x)=31 by omega]at this;exact this
 ·have:=Nat.mul_lt_mul_of_pos_right h2 (Nat.two_pow_pos (32-l9 x))
  rw[<-Nat.pow_add,show l9 x+(32-l9 x)=32 by omega]at this;exact this
def V3 (a b c d:Int):Prop:=(0<=a/\b<=0/\c<=0/\0<=d)\/(a<=0/\0<=b/\0<=c/\d<=0)
structure N5 (P Q a b c d p q:Int):Prop where
 hp:p=a*P+b*Q
 hq:q=c*P+d*Q
 sg:V3 a b c d
 pa:0<=p+a
 pb:0<=p+b
 qc:0<=q+c
 qd:0<=q+d
theorem N5.start {P Q:Int} (hP:0<=P) (hQ:0<=Q):N5 P Q 1 0 0 1 P Q :=
 ⟨by omega,by omega,Or.inl (by omega),by omega,by omega,by omega,by omega⟩
def Q5 (P Q a b c d:Int):Prop := ∀ x y K e1 e2:Int,0<K->x=K*P+e1->y=K*Q+e2->0<=e1->e1<=K->0<=e2->e2<=K ->
 0<=c*x+d*y/\c*x+d*y<a*x+b*y/\a*x+b*y<=y/\Int.gcd (a*x+b*y) (c*x+d*y)=Int.gcd x y
def PQ (P Q a b c d:Int):Prop := ∀ x y K e1 e2:Int,0<K->x=K*P+e1->y=K*Q+e2->0<=e1->e1<=K->0<=e2->e2<=K ->
 c*x+d*y<=y/\Int.gcd (a*x+b*y) (c*x+d*y)=Int.gcd x y
theorem PQ.start (P Q:Int):PQ P Q 1 0 0 1:=by
 intro x y K e1 e2 _ _ _ _ _ _ _;simp
theorem Q5.half {P Q a b c d:Int} (h:Q5 P Q a b c d):PQ P Q a b c d:=λ x y K e1 e2 h1 h2 h3 h4 h5 h6 h7=>by
 obtain ⟨g1,g2,g3,g4⟩:=h x y K e1 e2 h1 h2 h3 h4 h5 h6 h7;exact ⟨by omega,g4⟩
theorem wW (X Y f:Int):Int.gcd Y (X-f*Y)=Int.gcd X Y:=by
 rw[Int.gcd_comm X Y];exact Int.gcd_sub_mul_right_right Y X f
theorem N5.step {P Q a b c d p q f:Int} (h:N5 P Q a b c d p q) (hc:q+c≠0) (hd:q+d≠0) (h1:f=(p+a)/(q+c)) (h2:f=(p+b)/(q+d)) :
  N5 P Q c d (a-f*c) (b-f*d) q (p-f*q)/\0<=f/\p-f*q<q/\(PQ P Q a b c d->Q5 P Q c d (a-f*c) (b-f*d)):=by
 have c0:0<q+c:=by have:=h.qc;omega
 have d0:0<q+d:=by have:=h.qd;omega
 have f0:0<=f:=by rw[h1];exact Int.ediv_nonneg h.pa h.qc
 have m1:p-f*q+(a-f*c)=(p+a)%(q+c):=by
  have:=Int.emod_add_mul_ediv (p+a) (q+c)
  rw[<-h1]at this;grind
 have m2:p-f*q+(b-f*d)=(p+b)%(q+d):=by
  have:=Int.emod_add_mul_ediv (p+b) (q+d)
  rw[<-h2]at this;grind
 have n1:0<=p-f*q+(a-f*c):=by rw[m1];exact Int.emod_nonneg _ hc
 have n2:0<=p-f*q+(b-f*d):=by rw[m2];exact Int.emod_nonneg _ hd
 have n3:p-f*q+(a-f*c)<q+c:=by rw[m1];exact Int.emod_lt_of_pos _ c0
 have n4:p-f*q+(b-f*d)<q+d:=by rw[m2];exact Int.emod_lt_of_pos _ d0
 have vj:p-f*q=(a-f*c)*P+(b-f*d)*Q:=by rw[h.hp,h.hq];grind
 have Eh:V3 c d (a-f*c) (b-f*d):=by
  rcases h.sg with ⟨s1,s2,s3,s4⟩|⟨s1,s2,s3,s4⟩
  ·have t1:f*c<=0:=Int.mul_nonpos_of_nonneg_of_nonpos f0 s3
   have t2:0<=f*d:=Int.mul_nonneg f0 s4;exact Or.inr (by omega)
  ·have t1:0<=f*c:=Int.mul_nonneg f0 s3
   have t2:f*d<=0:=Int.mul_nonpos_of_nonneg_of_nonpos f0 s4;exact Or.inl (by omega)
 have k6:p-f*q<q:=by
  rcases Eh with ⟨s1,s2,s3,s4⟩|⟨s1,s2,s3,s4⟩
  ·omega
  ·omega
 refine ⟨⟨h.hq,vj,Eh,h.qc,h.qd,n1,n2⟩,f0,k6,λ hh => ?_⟩;intro x y K e1 e2 hK hx hy a1 a2 b1 b2;obtain ⟨k1,k2⟩:=hh x y K e1 e2 hK hx hy a1 a2 b1 b2;have eY:c*x+d*y=K*q+c*e1+d*e2:=by rw[hx,hy,h.hq];grind
 have eX:(a-f*c)*x+(b-f*d)*y=K*(p-f*q)+(a-f*c)*e1+(b-f*d)*e2:=by rw[hx,hy,vj];grind
 have eS:(a-f*c)*x+(b-f*d)*y=(a*x+b*y)-f*(c*x+d*y):=by grind
 generalize hE:a-f*c=E at *;generalize hG:b-f*d=G at *;generalize vk:p-f*q=q2 at *;have key:0<=E*x+G*y/\E*x+G*y<c*x+d*y:=by
  rw[eX,eY];rcases Eh with ⟨s1,s2,s3,s4⟩|⟨s1,s2,s3,s4⟩
  ·-- c≥0,d<=0,E<=0,G≥0
   have t1:E*K<=E*e1:=Int.mul_le_mul_of_nonpos_left s3 a2;have t2:0<=G*e2:=Int.mul_nonneg s4 b1;have t3:0<=K*(q2+E):=Int.mul_nonneg (by omega) n1;have t4:(G-d)*e2<=(G-d)*K:=Int.mul_le_mul_of_nonneg_left b2 (by omega);have t5:(E-c)*e1<=0:=Int.mul_nonpos_of_nonpos_of_nonneg (by omega) a1;have t6:0<K*((q+d)-(q2+G)):=Int.mul_pos hK (by omega);constructor
   ·grind
   ·grind
  ·have t1:G*K<=G*e2:=Int.mul_le_mul_of_nonpos_left s4 b2
   have t2:0<=E*e1:=Int.mul_nonneg s3 a1;have t3:0<=K*(q2+G):=Int.mul_nonneg (by omega) n2;have t4:(E-c)*e1<=(E-c)*K:=Int.mul_le_mul_of_nonneg_left a2 (by omega);have t5:(G-d)*e2<=0:=Int.mul_nonpos_of_nonpos_of_nonneg (by omega) b1;have t6:0<K*((q+c)-(q2+E)):=Int.mul_pos hK (by omega);constructor
   ·grind
   ·grind
 refine ⟨key.1,key.2,k1,?_⟩;rw[<-k2,eS];exact wW _ _ _
end Go.c8













namespace Go.c8
open Go.RowKit
theorem F4 (b o n:Nat):(⟨b,o,none⟩:Addr).add n=⟨b,o+n,none⟩:=by
 unfold Addr.add;split<;>simp_all
inductive Rd (w:World) (R:Bool->Nat->Prop):AV->Value->Prop
 | int (k:IntKind) (n:Int):Rd w R (.int k n) (.int k n)
 | bool (b:Bool):Rd w R (.bool b) (.bool b)
 | str (s:ByteArray):Rd w R (.w6 (.string s)) (.string s)
 | fk:Rd w R (.w6 .nilFunc) .nilFunc
 | dd (l:Bool) (a:Option Addr) (cap:Nat):Rd w R (.sl l []) (.slice a 0 cap)
 | emp (b:Bool) (a:Option Addr) (cap:Nat) (h:a.isNone=b):Rd w R (.w6 (.bool b)) (.slice a 0 cap)
 | sl (l:Bool) (es:List (List AV)) (b o a4 cap:Nat) (u:Nat->Nat->Value) (k7:es≠[]) (hp:0<a4) (hR:R l b) (v3:es.length<=cap) (hz : ∀ e∈es,e.length=a4)
   (hc : ∀ i e,es[i]? = some e -> ∀ j c,e[j]? = some c->w.cell? ⟨b,o+(i*a4+j),none⟩=some (u i j))
   (hr : ∀ i e,es[i]? = some e -> ∀ j c,e[j]? = some c->Rd w R c (u i j)) :
   Rd w R (.sl l es) (.slice (some ⟨b,o,none⟩) es.length cap)
theorem Rd.one {w:World} {R:Bool->Nat->Prop} {a:AV} {v:Value} (h:Rd w R a v):v.oneCell'=true:=by
 cases h<;>rfl
theorem OD {w:World} {a:Addr} {u:Value} (h:w.cell? a=some u):a.block<w.heap.size:=by
 unfold World.cell? at h;split at h
 ·rename_i hh
  exact (Array.getElem?_eq_some_iff.1 hh).1
 ·cases h
theorem R1 {es:List (List AV)} {a4:Nat} (k7:es≠[]) (hp:0<a4) (hz : ∀ e∈es,e.length=a4) : ∃ e c,es[0]? = some e/\e[0]? = some c:=by
 cases es with
 | nil=>exact absurd rfl k7
 | cons e r =>
  have:=hz e (by simp)
  cases e with
  | nil=>simp at this;omega
  | cons c q=>exact ⟨c::q,c,rfl,rfl⟩
theorem Rd.mono {w w':World} {R R':Bool->Nat->Prop} (hR : ∀ l b,b<w.heap.size->R l b->R' l b)
  (hw : ∀ l b,b<w.heap.size->R l b->w'.heap[b]? = w.heap[b]?) {a:AV} {v:Value} (h:Rd w R a v):Rd w' R' a v:=by
 induction h with
 | int k n=>exact .int k n
 | bool b=>exact .bool b
 | str s=>exact .str s
 | fk=>exact .fk
 | dd l a cap=>exact .dd l a cap
 | emp b a cap h=>exact .emp b a cap h
 | sl l es b o a4 cap u k7 hp h1 v3 hz hc hr ih =>
  obtain ⟨e,c,he,ct⟩:=R1 k7 hp hz;have hb:b<w.heap.size:=OD (hc 0 e he 0 c ct);refine .sl l es b o a4 cap u k7 hp (hR l b hb h1) v3 hz (λ i e he j c uz => ?_) ih;rw[World.cell?_of_block (w:=w) (hw l b hb h1)];exact hc i e he j c uz
structure M where
 ν:Nat->Nat->Option Nat
 own:AE
 w:World
section
variable (B:Nat) (S:Nat->Prop)
def safe (m:M) (l:Bool) (b:Nat):Prop :=
 (S b/\b<B)\/(B<=b /\ ∀ s t,(m.own.get s t).isSome=true->m.ν s t≠some b)\/(l=true/\b<B)
inductive CC (m:M):AV->Value->Prop
 | rd {a:AV} {v:Value} (h:Rd m.w (safe B S m) a v):CC m a v
 | nil:CC m .nil (.slice none 0 0)
 | row (s t z off len:Nat) (a:Option Addr) (cap:Nat) (ht:t<m.own.c9 s) (ag:0<z) (dh:len<=cap) (ha:0<len->a.isSome=true)
   (h : ∀ b,m.own.get s t=some b->b.a4=z/\((len=0/\cap=0) \/ ∃ g arr e,m.ν s t=some g/\a=some ⟨g,off*z,none⟩/\m.w.heap[g]? = some (.cells arr e (0,0))/\(off+cap)*z<=arr.size)) :
   CC m (.row s t z off len) (.slice a len cap)
 | ptr (s t i j:Nat) (a:Addr) (ht:t<m.own.c9 s) (h : ∀ b,m.own.get s t=some b -> ∃ g,m.ν s t=some g/\a=⟨g,i*b.a4+j,none⟩):CC m (.ptr s t i j) (.pointer (some a))
 | n7 (cs:List AV) (b o:Nat) (u:Nat->Value) (l:Bool) (hR:cs≠[]->safe B S m l b) (hc : ∀ j c,cs[j]? = some c->m.w.cell? ⟨b,o+j,none⟩=some (u j)) (hr : ∀ j c,cs[j]? = some c->Rd m.w (safe B S m) c (u j)) :
   CC m (.n7 cs) (.pointer (some ⟨b,o,none⟩))
def CL (m:M) (cs:List AV) (vs:List Value):Prop:=cs.length=vs.length /\ ∀ (j:Nat) (c:AV) (v:Value),cs[j]? = some c->vs[j]? = some v->CC B S m c v
inductive CA (m:M):AV->Value->Prop
 | one {a:AV} {v:Value} (h:CC B S m a v):CA m a v
 | agg (cs:List AV) (vs:List Value) (h:CL B S m cs vs):CA m (.agg cs) (.agg vs.toArray)
 | fn (p:Bool) (f g:Nat) (cs:List AV) (vs:List Value) (hp:p=true->cs=[]) (h:CL B S m cs vs):CA m (.fn p f g cs) (.func (.func g) #[] vs.toArray)
 | mb (f g:Nat) (cs:List AV) (vs:List Value) (hp:cs≠[]) (h:CL B S m cs vs):CA m (.fn true f g cs) (.func (.func g) #[.agg vs.toArray] #[])
inductive CV (m:M):AV->Value->Prop
 | any (v:Value):CV m .any v
 | ca {a:AV} {v:Value} (h:CA B S m a v):CV m a v
 | e7 (as:List AV) (vs:List Value) (hl:as.length=vs.length) (h : ∀ (j:Nat) (c:AV) (v:Value),as[j]? = some c->vs[j]? = some v->CA B S m c v):CV m (.e7 as) (.tuple vs.toArray)
def nQ (m:M) (s t:Nat) (b:C6):Prop :=
 (∀ e∈b.es,e.length=b.a4)/\match m.ν s t with
  | none=>b.es=[]
  | some g=>B<=g /\ ∃ arr e,m.w.heap[g]? = some (.cells arr e (0,0)) /\
    ∀ i cs,b.es[i]? = some cs -> ∀ j c,cs[j]? = some c -> ∃ u,arr[i*b.a4+j]? = some u/\CC B S m c u
structure BD (w0:World) (m:M):Prop where
 below:Below B w0 m.w
 size:B<=m.w.heap.size
 fresh : ∀ s t,m.own.c9 s<=t->m.own.get s t=none
 c7 : ∀ s t b,m.own.get s t=some b->nQ B S m s t b
 inj : ∀ s t s' t' b b' g,m.own.get s t=some b->m.own.get s' t'=some b'->m.ν s t=some g->m.ν s' t'=some g->s=s'/\t=t'
structure CS (m m':M):Prop where
 size:m.w.heap.size<=m'.w.heap.size
 nm : ∀ b,b<m.w.heap.size->safe B S m true b->m'.w.heap[b]? = m.w.heap[b]?
 rn : ∀ l b,b<m.w.heap.size->safe B S m l b->safe B S m' l b
 c9 : ∀ s,m.own.c9 s<=m'.own.c9 s
 name : ∀ s t b',t<m.own.c9 s->m'.own.get s t=some b' -> ∃ b,m.own.get s t=some b/\b'.a4=b.a4/\m'.ν s t=m.ν s t /\
   ∀ g arr e,m.ν s t=some g->m.w.heap[g]? = some (.cells arr e (0,0)) -> ∃ n9,m'.w.heap[g]? = some (.cells n9 e (0,0))/\n9.size=arr.size
end
section
variable {B:Nat} {S:Nat->Prop}
theorem ZK {m:M} {l:Bool} {b:Nat} (h:safe B S m l b):safe B S m true b:=by
 rcases h with h|h|⟨_,h⟩
 ·exact .inl h
 ·exact .inr (.inl h)
 ·exact .inr (.inr ⟨rfl,h⟩)
theorem CS.rd {m m':M} (h:CS B S m m') {a:AV} {v:Value} (hr:Rd m.w (safe B S m) a v):Rd m'.w (safe B S m') a v :=
 hr.mono h.rn (λ_ b hb hs=>h.nm b hb (ZK hs))
theorem CS.cc {m m':M} (h:CS B S m m') {a:AV} {v:Value} (hc:CC B S m a v):CC B S m' a v:=by
 cases hc with
 | rd hr=>exact .rd (h.rd hr)
 | nil=>exact .nil
 | row s t z off len a cap ht ag dh ha hb =>
  refine .row s t z off len a cap (Nat.lt_of_lt_of_le ht (h.c9 s)) ag dh ha λ b' j4 => ?_
  obtain ⟨b,h1,h2,h3,h4⟩:=h.name s t b' ht j4;obtain ⟨hz,ae⟩:=hb b h1;refine ⟨h2.trans hz,?_⟩;rcases ae with h0|⟨g,arr,e,hg,fe,hh,hle⟩
  ·exact .inl h0
  ·obtain ⟨n9,Bx,ub⟩:=h4 g arr e hg hh
   exact .inr ⟨g,n9,e,h3.trans hg,fe,Bx,ub ▸ hle⟩
 | ptr s t i j a ht hb =>
  refine .ptr s t i j a (Nat.lt_of_lt_of_le ht (h.c9 s)) λ b' j4 => ?_
  obtain ⟨b,h1,h2,h3,_⟩:=h.name s t b' ht j4;obtain ⟨g,hg,fe⟩:=hb b h1;exact ⟨g,h3.trans hg,h2 ▸ fe⟩
 | n7 cs b o u l hR hc hr =>
  have k6:cs≠[]->b<m.w.heap.size:=λ k7=>by
   cases cs with
   | nil=>exact absurd rfl k7
   | cons c r=>exact OD (hc 0 c rfl)
  refine .n7 cs b o u l (λ k7=>h.rn l b (k6 k7) (hR k7)) (λ j c hj => ?_) (λ j c hj=>h.rd (hr j c hj));have k7:cs≠[]:=λ e=>by subst e;simp at hj
  rw[World.cell?_of_block (w:=m.w) (h.nm b (k6 k7) (ZK (hR k7)))];exact hc j c hj
theorem CS.cl {m m':M} (h:CS B S m m') {cs:List AV} {vs:List Value} (hc:CL B S m cs vs):CL B S m' cs vs :=
 ⟨hc.1,λ j c v h1 h2=>h.cc (hc.2 j c v h1 h2)⟩
theorem CS.ca {m m':M} (h:CS B S m m') {a:AV} {v:Value} (hc:CA B S m a v):CA B S m' a v:=by
 cases hc with
 | one hc=>exact .one (h.cc hc)
 | agg cs vs hc=>exact .agg cs vs (h.cl hc)
 | fn p f g cs vs hp hc=>exact .fn p f g cs vs hp (h.cl hc)
 | mb f g cs vs hp hc=>exact .mb f g cs vs hp (h.cl hc)
theorem CS.cv {m m':M} (h:CS B S m m') {a:AV} {v:Value} (hc:CV B S m a v):CV B S m' a v:=by
 cases hc with
 | any v=>exact .any v
 | ca hc=>exact .ca (h.ca hc)
 | e7 as vs hl hc=>exact .e7 as vs hl λ j c v h1 h2=>h.ca (hc j c v h1 h2)
theorem CS.refl (m:M):CS B S m m :=
 ⟨Nat.le_refl _,λ_ _ _=>rfl,λ_ _ _ h=>h,λ_=>Nat.le_refl _,λ_ _ b' _ h=>⟨b',h,rfl,rfl,λ_ arr _ _ h=>⟨arr,h,rfl⟩⟩⟩
theorem CS.trans {m m' Hg:M} (h:CS B S m m') (k:CS B S m' Hg):CS B S m Hg where
 size:=Nat.le_trans h.size k.size
 nm b hb hs:=(k.nm b (Nat.lt_of_lt_of_le hb h.size) (h.rn true b hb hs)).trans (h.nm b hb hs)
 rn l b hb hs:=k.rn l b (Nat.lt_of_lt_of_le hb h.size) (h.rn l b hb hs)
 c9 s:=Nat.le_trans (h.c9 s) (k.c9 s)
 name s t Mg ht Cf:=by
  obtain ⟨b',h1,h2,h3,h4⟩:=k.name s t Mg (Nat.lt_of_lt_of_le ht (h.c9 s)) Cf;obtain ⟨b,g1,g2,g3,g4⟩:=h.name s t b' ht h1;refine ⟨b,g1,h2.trans g2,h3.trans g3,λ g arr e hg ha => ?_⟩;obtain ⟨n9,Bx,ub⟩:=g4 g arr e hg ha;obtain ⟨wi,Bz,Eg⟩:=h4 g n9 e (g3.trans hg) Bx;exact ⟨wi,Bz,Eg.trans ub⟩
theorem CC.one {m:M} {a:AV} {v:Value} (h:CC B S m a v):v.oneCell'=true:=by
 cases h with
 | rd h=>exact h.one
 | _=>rfl
end
end Go.c8

namespace Go.c8
open Go.RowKit
section
variable {B:Nat} {S:Nat->Prop} {w0:World}
def live (m:M) (s t:Nat):Prop := ∃ b,m.own.get s t=some b
theorem BD.ge {m:M} (h:BD B S w0 m) {s t g:Nat} (hl:live m s t) (hg:m.ν s t=some g):B<=g /\ ∃ arr e,m.w.heap[g]? = some (.cells arr e (0,0)):=by
 obtain ⟨b,hb⟩:=hl;obtain ⟨_,h2⟩:=h.c7 s t b hb;rw[hg]at h2;obtain ⟨h3,arr,e,h4,_⟩:=h2;exact ⟨h3,arr,e,h4⟩
theorem OW {m m':M} (hm:BD B S w0 m) (hs:m.w.heap.size<=m'.w.heap.size)
  (hk : ∀ b,b<m.w.heap.size->(∀ s t,live m s t->m.ν s t≠some b)->m'.w.heap[b]? = m.w.heap[b]?) (td : ∀ s,m.own.c9 s<=m'.own.c9 s)
  (yf : ∀ s t b',t<m.own.c9 s->m'.own.get s t=some b' -> ∃ b,m.own.get s t=some b/\b'.a4=b.a4/\m'.ν s t=m.ν s t /\
   ∀ g arr e,m.ν s t=some g->m.w.heap[g]? = some (.cells arr e (0,0)) -> ∃ n9,m'.w.heap[g]? = some (.cells n9 e (0,0))/\n9.size=arr.size)
  (fg : ∀ s t g,live m' s t->m'.ν s t=some g->g<m.w.heap.size -> ∃ s0 t0,live m s0 t0/\m.ν s0 t0=some g):CS B S m m':=by
 have qu : ∀ b,safe B S m true b -> ∀ s t,live m s t->m.ν s t≠some b:=by
  intro b hb s t hl hg;have iu:=(hm.ge hl hg).1;rcases hb with ⟨_,h⟩|⟨_,h⟩|⟨_,h⟩
  ·omega
  ·obtain ⟨b',j4⟩:=hl
   exact h s t (by simp [j4]) hg
  ·omega
 refine ⟨hs,λ b hb nf=>hk b hb (qu b nf),λ l b hb nf => ?_,td,yf⟩;rcases nf with h|⟨h,hn⟩|h
 ·exact .inl h
 ·refine .inr (.inl ⟨h,λ s t hl hg => ?_⟩)
  obtain ⟨b',j4⟩:=Option.isSome_iff_exists.1 hl;obtain ⟨s0,t0,⟨b0,kv⟩,ti⟩:=fg s t b ⟨b',j4⟩ hg hb;exact hn s0 t0 (by simp [kv]) ti
 ·exact .inr (.inr h)
theorem grow {m:M} (hm:BD B S w0 m) {w':World} (hb:Below m.w.heap.size m.w w') :
  BD B S w0 ⟨m.ν,m.own,w'⟩/\CS B S m ⟨m.ν,m.own,w'⟩:=by
 have he:CS B S m ⟨m.ν,m.own,w'⟩:=by
  refine OW hm hb.size (λ b j4 _=>hb.block b j4) (λ_=>Nat.le_refl _) (λ s t b' _ j4=>⟨b',j4,rfl,rfl,λ g arr e hg ha=>⟨arr,?_,rfl⟩⟩) (λ s t g hl hg _=>⟨s,t,hl,hg⟩);have:g<m.w.heap.size:=(Array.getElem?_eq_some_iff.1 ha).1
  exact (hb.block g this).trans ha
 refine ⟨⟨hm.below.trans (hb.mono hm.size),Nat.le_trans hm.size hb.size,hm.fresh,λ s t b hg => ?_,hm.inj⟩,he⟩;obtain ⟨h1,h2⟩:=hm.c7 s t b hg;refine ⟨h1,?_⟩;show match m.ν s t with|none=>_|some g=>_
 cases hν:m.ν s t with
 | none=>rw[hν]at h2;exact h2
 | some g =>
  rw[hν]at h2;obtain ⟨h3,arr,e,h4,h5⟩:=h2;refine ⟨h3,arr,e,?_,λ i cs hi j c hj => ?_⟩
  ·exact (hb.block g (Array.getElem?_eq_some_iff.1 h4).1).trans h4
  ·obtain ⟨u,hu,q7⟩:=h5 i cs hi j c hj
   exact ⟨u,hu,he.cc q7⟩
theorem E7 (o:AE) (s s' t':Nat) (b:C6):(o.put s ((o s).new b)).get s' t'=if s'=s/\t'=o.c9 s then some b else o.get s' t':=by
 unfold AE.get AE.put BO.new AE.c9;by_cases h:s'=s
 ·subst h
  by_cases h2:t'=(o s').c9<;>simp [h2]
 ·simp [h]
theorem JA (o:AE) (s s':Nat) (b:C6):(o.put s ((o s).new b)).c9 s'=if s'=s then o.c9 s+1 else o.c9 s':=by
 unfold AE.c9 AE.put BO.new;by_cases h:s'=s<;>simp [h]
theorem R3 (o:AE) (s t s' t':Nat) (b:Option C6):(o.put s ((o s).m9 t b)).get s' t'=if s'=s/\t'=t then b else o.get s' t':=by
 unfold AE.get AE.put BO.m9;by_cases h:s'=s
 ·subst h
  by_cases h2:t'=t<;>simp [h2]
 ·simp [h]
theorem cO (o:AE) (s t s':Nat) (b:Option C6):(o.put s ((o s).m9 t b)).c9 s'=o.c9 s':=by
 unfold AE.c9 AE.put BO.m9;by_cases h:s'=s<;>simp [h]
def e6 (m:M) (s:Nat) (g:Option Nat):Nat->Nat->Option Nat:=λ s' t'=>if s'=s/\t'=m.own.c9 s then g else m.ν s' t'
theorem UW {m:M} (hm:BD B S w0 m) (s:Nat) : ¬ live m s (m.own.c9 s):=λ⟨b,hb⟩=>by
 rw[hm.fresh s _ (Nat.le_refl _)]at hb;cases hb
theorem WF {m:M} (hm:BD B S w0 m) (s:Nat) (b:C6) (arr:Array Value) (e:TypeId) (hz : ∀ x∈b.es,x.length=b.a4)
  (hc : ∀ i cs,b.es[i]? = some cs -> ∀ j c,cs[j]? = some c -> ∃ u,arr[i*b.a4+j]? = some u/\CC B S m c u) :
  BD B S w0 ⟨e6 m s (some m.w.heap.size),m.own.put s ((m.own s).new b),m.w.alloc (.cells arr e)⟩ /\
  CS B S m ⟨e6 m s (some m.w.heap.size),m.own.put s ((m.own s).new b),m.w.alloc (.cells arr e)⟩:=by
 have o8:(m.w.alloc (.cells arr e)).heap.size=m.w.heap.size+1:=by simp
 have hν : ∀ s' t',live m s' t'->e6 m s (some m.w.heap.size) s' t'=m.ν s' t':=λ s' t' hl=>by
  unfold e6;rw[if_neg];rintro ⟨rfl,rfl⟩
  exact UW hm _ hl
 have he:CS B S m ⟨e6 m s (some m.w.heap.size),m.own.put s ((m.own s).new b),m.w.alloc (.cells arr e)⟩:=by
  refine OW hm (by rw[o8];omega) (λ k hk _=>Below.heap_alloc _ _ _ hk) (λ s' => ?_) (λ s' t' b' ht j4 => ?_) (λ s' t' g hl hg k6 => ?_)
  ·rw[JA];split
   ·rename_i h;subst h;omega
   ·exact Nat.le_refl _
  ·rw[E7]at j4
   rw[if_neg (by rintro ⟨rfl,rfl⟩;omega)]at j4;refine ⟨b',j4,rfl,hν s' t' ⟨b',j4⟩,λ g ar e' hg ha=>⟨ar,?_,rfl⟩⟩;exact (Below.heap_alloc _ _ _ (Array.getElem?_eq_some_iff.1 ha).1).trans ha
  ·obtain ⟨b',j4⟩:=hl
   have n8:=j4;rw[E7]at j4;by_cases h:s'=s/\t'=m.own.c9 s
   ·simp only[e6,if_pos h,Option.some.injEq]at hg
    omega
   ·rw[if_neg h]at j4
    exact ⟨s',t',⟨b',j4⟩,by rw[<-hν s' t' ⟨b',j4⟩];exact hg⟩
 refine ⟨⟨hm.below.alloc hm.size _,by rw[o8];have:=hm.size;omega,λ s' t' ht => ?_,λ s' t' b' j4 => ?_,λ s1 t1 s2 t2 b1 b2 g h1 h2 g1 g2 => ?_⟩,he⟩
 ·rw[JA]at ht
  rw[E7,if_neg]
  ·refine hm.fresh s' t' ?_
   split at ht
   ·rename_i h;subst h;omega
   ·exact ht
  ·rintro ⟨rfl,rfl⟩
   simp at ht;omega
 ·rw[E7]at j4
  by_cases h:s'=s/\t'=m.own.c9 s
  ·rw[if_pos h]at j4
   obtain rfl:b=b':=by simpa using j4
   refine ⟨hz,?_⟩;show match e6 m s (some m.w.heap.size) s' t' with|none=>_|some g=>_
   rw[show e6 m s (some m.w.heap.size) s' t'=some m.w.heap.size by simp [e6,h]];refine ⟨hm.size,arr,e,heap_alloc_new _ _,λ i cs hi j c hj => ?_⟩;obtain ⟨u,hu,q7⟩:=hc i cs hi j c hj;exact ⟨u,hu,he.cc q7⟩
  ·rw[if_neg h]at j4
   obtain ⟨h1,h2⟩:=hm.c7 s' t' b' j4;refine ⟨h1,?_⟩;show match e6 m s (some m.w.heap.size) s' t' with|none=>_|some g=>_
   rw[hν s' t' ⟨b',j4⟩];cases hv:m.ν s' t' with
   | none=>rw[hv]at h2;exact h2
   | some g =>
    rw[hv]at h2;obtain ⟨h3,ar,e',h4,h5⟩:=h2;refine ⟨h3,ar,e',(Below.heap_alloc _ _ _ (Array.getElem?_eq_some_iff.1 h4).1).trans h4,λ i cs hi j c hj => ?_⟩;obtain ⟨u,hu,q7⟩:=h5 i cs hi j c hj;exact ⟨u,hu,he.cc q7⟩
 ·rw[E7]at h1 h2
  have lt : ∀ s' t' b',m.own.get s' t'=some b'->e6 m s (some m.w.heap.size) s' t'=some g->g<m.w.heap.size:=λ s' t' b' hb hg=>by
   rw[hν s' t' ⟨b',hb⟩]at hg;obtain ⟨_,ar,e',h4⟩:=hm.ge ⟨b',hb⟩ hg;exact (Array.getElem?_eq_some_iff.1 h4).1
  have at_ : ∀ s' t',s'=s/\t'=m.own.c9 s->e6 m s (some m.w.heap.size) s' t'=some g->g=m.w.heap.size:=λ s' t' h hg=>by
   simp only[e6,if_pos h,Option.some.injEq]at hg;exact hg.symm
  by_cases p1:s1=s/\t1=m.own.c9 s<;>by_cases p2:s2=s/\t2=m.own.c9 s
  ·exact ⟨p1.1.trans p2.1.symm,p1.2.trans p2.2.symm⟩
  ·rw[if_neg p2]at h2
   have:=lt s2 t2 b2 h2 g2
   have:=at_ s1 t1 p1 g1
   omega
  ·rw[if_neg p1]at h1
   have:=lt s1 t1 b1 h1 g1
   have:=at_ s2 t2 p2 g2
   omega
  ·rw[if_neg p1]at h1
   rw[if_neg p2]at h2;exact hm.inj s1 t1 s2 t2 b1 b2 g h1 h2 (by rw[<-hν s1 t1 ⟨b1,h1⟩];exact g1) (by rw[<-hν s2 t2 ⟨b2,h2⟩];exact g2)
theorem lX {m:M} (hm:BD B S w0 m) (s a4:Nat) :
  BD B S w0 ⟨e6 m s none,m.own.put s ((m.own s).new ⟨a4,[]⟩),m.w⟩/\CS B S m ⟨e6 m s none,m.own.put s ((m.own s).new ⟨a4,[]⟩),m.w⟩:=by
 have hν : ∀ s' t',live m s' t'->e6 m s none s' t'=m.ν s' t':=λ s' t' hl=>by
  unfold e6;rw[if_neg];rintro ⟨rfl,rfl⟩
  exact UW hm _ hl
 have he:CS B S m ⟨e6 m s none,m.own.put s ((m.own s).new ⟨a4,[]⟩),m.w⟩:=by
  refine OW hm (Nat.le_refl _) (λ k hk _=>rfl) (λ s' => ?_) (λ s' t' b' ht j4 => ?_) (λ s' t' g hl hg k6 => ?_)
  ·rw[JA];split
   ·rename_i h;subst h;omega
   ·exact Nat.le_refl _
  ·rw[E7]at j4
   rw[if_neg (by rintro ⟨rfl,rfl⟩;omega)]at j4;exact ⟨b',j4,rfl,hν s' t' ⟨b',j4⟩,λ g ar e' hg ha=>⟨ar,ha,rfl⟩⟩
  ·obtain ⟨b',j4⟩:=hl
   rw[E7]at j4;by_cases h:s'=s/\t'=m.own.c9 s
   ·simp [e6,if_pos h]at hg
   ·rw[if_neg h]at j4
    exact ⟨s',t',⟨b',j4⟩,by rw[<-hν s' t' ⟨b',j4⟩];exact hg⟩
 refine ⟨⟨hm.below,hm.size,λ s' t' ht => ?_,λ s' t' b' j4 => ?_,λ s1 t1 s2 t2 b1 b2 g h1 h2 g1 g2 => ?_⟩,he⟩
 ·rw[JA]at ht
  rw[E7,if_neg]
  ·refine hm.fresh s' t' ?_
   split at ht
   ·rename_i h;subst h;omega
   ·exact ht
  ·rintro ⟨rfl,rfl⟩
   simp at ht;omega
 ·rw[E7]at j4
  by_cases h:s'=s/\t'=m.own.c9 s
  ·rw[if_pos h]at j4
   obtain rfl:(⟨a4,[]⟩:C6)=b':=by simpa using j4
   refine ⟨by simp,?_⟩;show match e6 m s none s' t' with|none=>_|some g=>_
   rw[show e6 m s none s' t'=none by simp [e6,h]]
  ·rw[if_neg h]at j4
   obtain ⟨h1,h2⟩:=hm.c7 s' t' b' j4;refine ⟨h1,?_⟩;show match e6 m s none s' t' with|none=>_|some g=>_
   rw[hν s' t' ⟨b',j4⟩];cases hv:m.ν s' t' with
   | none=>rw[hv]at h2;exact h2
   | some g =>
    rw[hv]at h2;obtain ⟨h3,ar,e',h4,h5⟩:=h2;refine ⟨h3,ar,e',h4,λ i cs hi j c hj => ?_⟩;obtain ⟨u,hu,q7⟩:=h5 i cs hi j c hj;exact ⟨u,hu,he.cc q7⟩
 ·rw[E7]at h1 h2
  by_cases p1:s1=s/\t1=m.own.c9 s
  ·simp [e6,if_pos p1]at g1
  ·by_cases p2:s2=s/\t2=m.own.c9 s
   ·simp [e6,if_pos p2]at g2
   ·rw[if_neg p1]at h1
    rw[if_neg p2]at h2;exact hm.inj s1 t1 s2 t2 b1 b2 g h1 h2 (by rw[<-hν s1 t1 ⟨b1,h1⟩];exact g1) (by rw[<-hν s2 t2 ⟨b2,h2⟩];exact g2)
theorem Km {m:M} (hm:BD B S w0 m) (s t:Nat) (b b':C6) (hb:m.own.get s t=some b) (g:Nat) (hg:m.ν s t=some g) (arr n9:Array Value) (e:TypeId)
  (ha:m.w.heap[g]? = some (.cells arr e (0,0))) (Pz:b'.a4=b.a4) (hz : ∀ x∈b'.es,x.length=b'.a4) (o8:n9.size=arr.size)
  (hc : ∀ i cs,b'.es[i]? = some cs -> ∀ j c,cs[j]? = some c -> ∃ u,n9[i*b'.a4+j]? = some u/\CC B S m c u) (w':World) (cr:Below B w0 w') (re:w'.heap.size=m.w.heap.size)
  (hk : ∀ k,k≠g->w'.heap[k]? = m.w.heap[k]?) (Gc:w'.heap[g]? = some (.cells n9 e (0,0))) :
  BD B S w0 ⟨m.ν,m.own.put s ((m.own s).m9 t (some b')),w'⟩/\CS B S m ⟨m.ν,m.own.put s ((m.own s).m9 t (some b')),w'⟩:=by
 have k6:t<m.own.c9 s:=by
  rcases Nat.lt_or_ge t (m.own.c9 s) with h|h
  ·exact h
  ·rw[hm.fresh s t h]at hb;cases hb
 have he:CS B S m ⟨m.ν,m.own.put s ((m.own s).m9 t (some b')),w'⟩:=by
  refine OW hm (by rw[re];exact Nat.le_refl _) (λ k cj hn=>hk k (λ e=>hn s t ⟨b,hb⟩ (e ▸ hg))) (λ s'=>by rw[cO];exact Nat.le_refl _) (λ s' t' b2 ht n8 => ?_) (λ s' t' g' hl z7 _ => ?_)
  ·rw[R3]at n8
   by_cases h:s'=s/\t'=t
   ·obtain ⟨rfl,rfl⟩:=h
    rw[if_pos ⟨rfl,rfl⟩]at n8;obtain rfl:b'=b2:=by simpa using n8
    refine ⟨b,hb,Pz,rfl,λ g2 ar e' eo si => ?_⟩;obtain rfl:g=g2:=by rw[hg]at eo;simpa using eo
    rw[ha]at si;obtain ⟨rfl,rfl⟩:arr=ar/\e=e':=by simpa using si
    exact ⟨n9,Gc,o8⟩
   ·rw[if_neg h]at n8
    refine ⟨b2,n8,rfl,rfl,λ g2 ar e' eo si=>⟨ar,?_,rfl⟩⟩;rw[<-si];exact hk g2 (λ e2=>h (by
     subst e2;exact hm.inj s' t' s t b2 b g2 n8 hb eo hg))
  ·obtain ⟨b2,n8⟩:=hl
   rw[R3]at n8;by_cases h:s'=s/\t'=t
   ·obtain ⟨rfl,rfl⟩:=h
    exact ⟨s',t',⟨b,hb⟩,z7⟩
   ·rw[if_neg h]at n8
    exact ⟨s',t',⟨b2,n8⟩,z7⟩
 refine ⟨⟨cr,by rw[re];exact hm.size,λ s' t' ht => ?_,λ s' t' b2 n8 => ?_,λ s1 t1 s2 t2 b1 b2 g1 h1 h2 e1 e2 => ?_⟩,he⟩
 ·rw[cO]at ht
  rw[R3,if_neg (by rintro ⟨rfl,rfl⟩;omega)];exact hm.fresh s' t' ht
 ·rw[R3]at n8
  by_cases h:s'=s/\t'=t
  ·obtain ⟨rfl,rfl⟩:=h
   rw[if_pos ⟨rfl,rfl⟩]at n8;obtain rfl:b'=b2:=by simpa using n8
   refine ⟨hz,?_⟩;show match m.ν s' t' with|none=>_|some g=>_
   rw[hg];refine ⟨(hm.ge ⟨b,hb⟩ hg).1,n9,e,Gc,λ i cs hi j c hj => ?_⟩;obtain ⟨u,hu,q7⟩:=hc i cs hi j c hj;exact ⟨u,hu,he.cc q7⟩
  ·rw[if_neg h]at n8
   obtain ⟨h1,h2⟩:=hm.c7 s' t' b2 n8;refine ⟨h1,?_⟩;show match m.ν s' t' with|none=>_|some g=>_
   cases hv:m.ν s' t' with
   | none=>rw[hv]at h2;exact h2
   | some g2 =>
    rw[hv]at h2;obtain ⟨h3,ar,e',h4,h5⟩:=h2;refine ⟨h3,ar,e',?_,λ i cs hi j c hj => ?_⟩
    ·rw[<-h4]
     exact hk g2 (λ e2=>h (by
      subst e2;exact hm.inj s' t' s t b2 b g2 n8 hb hv hg))
    ·obtain ⟨u,hu,q7⟩:=h5 i cs hi j c hj
     exact ⟨u,hu,he.cc q7⟩
 ·have old : ∀ s' t' b2,(m.own.put s ((m.own s).m9 t (some b'))).get s' t'=some b2 -> ∃ b3,m.own.get s' t'=some b3:=λ s' t' b2 h=>by
   rw[R3]at h;by_cases h':s'=s/\t'=t
   ·obtain ⟨rfl,rfl⟩:=h';exact ⟨b,hb⟩
   ·rw[if_neg h']at h;exact ⟨b2,h⟩
  obtain ⟨c1,k1⟩:=old s1 t1 b1 h1;obtain ⟨c2,k2⟩:=old s2 t2 b2 h2;exact hm.inj s1 t1 s2 t2 c1 c2 g1 k1 k2 e1 e2
theorem OY (o:AE) (s t s' t':Nat) (b:C6):(o.put s (((o s).m9 t none).new b)).get s' t'=if s'=s/\t'=o.c9 s then some b else if s'=s/\t'=t then none else o.get s' t':=by
 unfold AE.get AE.put BO.new BO.m9 AE.c9;by_cases h:s'=s
 ·subst h
  by_cases h2:t'=(o s').c9<;>by_cases h3:t'=t<;>simp [h2,h3]
 ·simp [h]
theorem T3 (o:AE) (s t s':Nat) (b:C6):(o.put s (((o s).m9 t none).new b)).c9 s'=if s'=s then o.c9 s+1 else o.c9 s':=by
 unfold AE.c9 AE.put BO.new BO.m9;by_cases h:s'=s<;>simp [h]
theorem YP {m:M} (hm:BD B S w0 m) (s t:Nat) (b b':C6) (hb:m.own.get s t=some b) (x8:Option Nat) (w':World) (cr:Below B w0 w') (o8:m.w.heap.size<=w'.heap.size)
  (hk : ∀ k,k<m.w.heap.size->m.ν s t≠some k->w'.heap[k]? = m.w.heap[k]?) (hz : ∀ x∈b'.es,x.length=b'.a4)
  (yh:x8=none->b'.es=[])
  (ng : ∀ g,x8=some g->B<=g/\(m.w.heap.size<=g\/m.ν s t=some g) /\ ∃ arr e,w'.heap[g]? = some (.cells arr e (0,0)) /\
   ∀ i cs,b'.es[i]? = some cs -> ∀ j c,cs[j]? = some c -> ∃ u,arr[i*b'.a4+j]? = some u/\CC B S m c u) :
  BD B S w0 ⟨e6 m s x8,m.own.put s (((m.own s).m9 t none).new b'),w'⟩/\CS B S m ⟨e6 m s x8,m.own.put s (((m.own s).m9 t none).new b'),w'⟩:=by
 have k6:t<m.own.c9 s:=by
  rcases Nat.lt_or_ge t (m.own.c9 s) with h|h
  ·exact h
  ·rw[hm.fresh s t h]at hb;cases hb
 have hν : ∀ s' t',live m s' t'->e6 m s x8 s' t'=m.ν s' t':=λ s' t' hl=>by
  unfold e6;rw[if_neg];rintro ⟨rfl,rfl⟩
  exact UW hm _ hl
 have he:CS B S m ⟨e6 m s x8,m.own.put s (((m.own s).m9 t none).new b'),w'⟩:=by
  refine OW hm o8 (λ k cj hn=>hk k cj (hn s t ⟨b,hb⟩)) (λ s' => ?_) (λ s' t' b2 ht n8 => ?_) (λ s' t' g' hl z7 mu => ?_)
  ·rw[T3];split
   ·rename_i h;subst h;omega
   ·exact Nat.le_refl _
  ·rw[OY]at n8
   rw[if_neg (by rintro ⟨rfl,rfl⟩;omega)]at n8;by_cases h:s'=s/\t'=t
   ·rw[if_pos h]at n8;cases n8
   ·rw[if_neg h]at n8
    refine ⟨b2,n8,rfl,hν s' t' ⟨b2,n8⟩,λ g2 ar e' eo si=>⟨ar,?_,rfl⟩⟩;rw[<-si];exact hk g2 (Array.getElem?_eq_some_iff.1 si).1 (λ e2=>h (hm.inj s' t' s t b2 b g2 n8 hb eo e2))
  ·obtain ⟨b2,n8⟩:=hl
   rw[OY]at n8;by_cases h0:s'=s/\t'=m.own.c9 s
   ·simp only[e6,if_pos h0]at z7
    obtain ⟨_,h2,_⟩:=ng g' z7;rcases h2 with h2|h2
    ·omega
    ·exact ⟨s,t,⟨b,hb⟩,h2⟩
   ·rw[if_neg h0]at n8
    by_cases h:s'=s/\t'=t
    ·rw[if_pos h]at n8;cases n8
    ·rw[if_neg h]at n8
     exact ⟨s',t',⟨b2,n8⟩,by rw[<-hν s' t' ⟨b2,n8⟩];exact z7⟩
 refine ⟨⟨cr,Nat.le_trans hm.size o8,λ s' t' ht => ?_,λ s' t' b2 n8 => ?_,λ s1 t1 s2 t2 b1 b2 g1 h1 h2 e1 e2 => ?_⟩,he⟩
 ·rw[T3]at ht
  have gy:m.own.c9 s'<=t' /\ ¬ (s'=s/\t'=m.own.c9 s):=by
   by_cases h:s'=s
   ·subst h
    simp at ht;exact ⟨by omega,by omega⟩
   ·simp [h]at ht
    exact ⟨ht,λ h'=>h h'.1⟩
  rw[OY,if_neg gy.2];split
  ·rfl
  ·exact hm.fresh s' t' gy.1
 ·rw[OY]at n8
  by_cases h0:s'=s/\t'=m.own.c9 s
  ·rw[if_pos h0]at n8
   obtain rfl:b'=b2:=by simpa using n8
   refine ⟨hz,?_⟩;show match e6 m s x8 s' t' with|none=>_|some g=>_
   rw[show e6 m s x8 s' t'=x8 by simp [e6,h0]];cases x8 with
   | none=>exact yh rfl
   | some g =>
    obtain ⟨h1,_,arr,e,h4,h5⟩:=ng g rfl;refine ⟨h1,arr,e,h4,λ i cs hi j c hj => ?_⟩;obtain ⟨u,hu,q7⟩:=h5 i cs hi j c hj;exact ⟨u,hu,he.cc q7⟩
  ·rw[if_neg h0]at n8
   by_cases h:s'=s/\t'=t
   ·rw[if_pos h]at n8;cases n8
   ·rw[if_neg h]at n8
    obtain ⟨h1,h2⟩:=hm.c7 s' t' b2 n8;refine ⟨h1,?_⟩;show match e6 m s x8 s' t' with|none=>_|some g=>_
    rw[hν s' t' ⟨b2,n8⟩];cases hv:m.ν s' t' with
    | none=>rw[hv]at h2;exact h2
    | some g2 =>
     rw[hv]at h2;obtain ⟨h3,ar,e',h4,h5⟩:=h2;refine ⟨h3,ar,e',?_,λ i cs hi j c hj => ?_⟩
     ·rw[<-h4]
      exact hk g2 (Array.getElem?_eq_some_iff.1 h4).1 (λ e2=>h (hm.inj s' t' s t b2 b g2 n8 hb hv e2))
     ·obtain ⟨u,hu,q7⟩:=h5 i cs hi j c hj
      exact ⟨u,hu,he.cc q7⟩
 ·rw[OY]at h1 h2
  have old : ∀ s' t' b2,(if s'=s/\t'=t then none else m.own.get s' t')=some b2->m.own.get s' t'=some b2 /\ ¬ (s'=s/\t'=t):=λ s' t' b2 h=>by
   by_cases h':s'=s/\t'=t
   ·rw[if_pos h']at h;cases h
   ·rw[if_neg h']at h;exact ⟨h,h'⟩
  have fu : ∀ s' t' b2,m.own.get s' t'=some b2 -> ¬ (s'=s/\t'=t)->e6 m s x8 s' t'=some g1->x8=some g1->False:=λ s' t' b2 n8 k7 e1 e2=>by
   rw[hν s' t' ⟨b2,n8⟩]at e1;obtain ⟨_,h2,_⟩:=ng g1 e2;obtain ⟨_,ar,e',h4⟩:=hm.ge ⟨b2,n8⟩ e1;have:=(Array.getElem?_eq_some_iff.1 h4).1
   rcases h2 with h2|h2
   ·omega
   ·exact k7 (hm.inj s' t' s t b2 b g1 n8 hb e1 h2)
  have at_ : ∀ s' t',s'=s/\t'=m.own.c9 s->e6 m s x8 s' t'=some g1->x8=some g1:=λ s' t' h hg=>by simpa [e6,if_pos h] using hg
  by_cases p1:s1=s/\t1=m.own.c9 s<;>by_cases p2:s2=s/\t2=m.own.c9 s
  ·exact ⟨p1.1.trans p2.1.symm,p1.2.trans p2.2.symm⟩
  ·rw[if_neg p2]at h2
   obtain ⟨k2,n2⟩:=old s2 t2 b2 h2;exact (fu s2 t2 b2 k2 n2 e2 (at_ s1 t1 p1 e1)).elim
  ·rw[if_neg p1]at h1
   obtain ⟨k1,n1⟩:=old s1 t1 b1 h1;exact (fu s1 t1 b1 k1 n1 e1 (at_ s2 t2 p2 e2)).elim
  ·rw[if_neg p1]at h1
   rw[if_neg p2]at h2;obtain ⟨k1,n1⟩:=old s1 t1 b1 h1;obtain ⟨k2,n2⟩:=old s2 t2 b2 h2;exact hm.inj s1 t1 s2 t2 b1 b2 g1 k1 k2 (by rw[<-hν s1 t1 ⟨b1,k1⟩];exact e1) (by rw[<-hν s2 t2 ⟨b2,k2⟩];exact e2)
theorem gH (o:AE) (l:List Nat) (s t:Nat):(o.drop l).get s t=if s∈l then none else o.get s t:=by
 induction l with
 | nil=>simp [AE.drop]
 | cons x r ih =>
  unfold AE.get at *;by_cases h:s=x
  ·subst h;simp [AE.drop,AE.put]
  ·simp only[AE.drop,AE.put,if_neg h,List.mem_cons]
   rw[ih];by_cases h2:s∈r<;>simp [h,h2]
theorem cN (o:AE) (l:List Nat) (s:Nat):(o.drop l).c9 s=o.c9 s:=by
 induction l with
 | nil=>simp [AE.drop]
 | cons x r ih =>
  unfold AE.c9 at *;by_cases h:s=x
  ·subst h;simp [AE.drop,AE.put]
  ·simp [AE.drop,AE.put,h,ih]
theorem tT {m:M} (hm:BD B S w0 m) (l:List Nat):BD B S w0 ⟨m.ν,m.own.drop l,m.w⟩/\CS B S m ⟨m.ν,m.own.drop l,m.w⟩:=by
 have old : ∀ s t b,(m.own.drop l).get s t=some b->m.own.get s t=some b:=λ s t b h=>by
  rw[gH]at h;split at h
  ·cases h
  ·exact h
 have he:CS B S m ⟨m.ν,m.own.drop l,m.w⟩:=by
  refine OW hm (Nat.le_refl _) (λ_ _ _=>rfl) (λ s=>by rw[cN];exact Nat.le_refl _) (λ s t b' _ j4=>⟨b',old s t b' j4,rfl,rfl,λ_ ar _ _ ha=>⟨ar,ha,rfl⟩⟩) (λ s t g hl hg _ => ?_);obtain ⟨b,hb⟩:=hl;exact ⟨s,t,⟨b,old s t b hb⟩,hg⟩
 refine ⟨⟨hm.below,hm.size,λ s t ht => ?_,λ s t b hb => ?_,λ s1 t1 s2 t2 b1 b2 g h1 h2=>hm.inj s1 t1 s2 t2 b1 b2 g (old _ _ _ h1) (old _ _ _ h2)⟩,he⟩
 ·rw[cN]at ht
  rw[gH];split
  ·rfl
  ·exact hm.fresh s t ht
 ·obtain ⟨h1,h2⟩:=hm.c7 s t b (old s t b hb)
  refine ⟨h1,?_⟩;show match m.ν s t with|none=>_|some g=>_
  cases hv:m.ν s t with
  | none=>rw[hv]at h2;exact h2
  | some g =>
   rw[hv]at h2;obtain ⟨h3,ar,e',h4,h5⟩:=h2;refine ⟨h3,ar,e',h4,λ i cs hi j c hj => ?_⟩;obtain ⟨u,hu,q7⟩:=h5 i cs hi j c hj;exact ⟨u,hu,he.cc q7⟩
end
end Go.c8

namespace Go.c8
section
variable {P:Program} {num:Nat->Nat} {op:Op}
theorem yV {y:AM} (h:A6 P num op (.m8 y)=true) : ∃ x,(op = .move x\/op = .assign x)/\BL x y=true:=by
 cases op with
 | move x=>exact ⟨x,.inl rfl,h⟩
 | assign x=>exact ⟨x,.inr rfl,h⟩
 | _=>exact Bool.noConfusion h
theorem zB {s z:Nat} (h:A6 P num op (.u9 s z)=true):(op = .move (.const (.slice none 0 0))\/op = .assign (.const (.slice none 0 0)))/\z≠0:=by
 simp only[A6,Bool.and_eq_true,bne_iff_ne]at h;refine ⟨?_,h.1⟩;have h2:=h.2;split at h2<;>simp_all
theorem yW {c' a' b':AM} (h:A6 P num op (.pick c' a' b')=true) : ∃ c a b,op = .pick c a b/\BL c c'=true/\BL a a'=true/\BL b b'=true:=by
 cases op with
 | pick c a b=>simp only[A6,Bool.and_eq_true]at h;exact ⟨c,a,b,rfl,h.1.1,h.1.2,h.2⟩
 | _=>exact Bool.noConfusion h
theorem yG {f:BinOp} {x' y':AM} (h:A6 P num op (.bin f x' y')=true) : ∃ t x y u,op = .binOp f t x y u/\BL x x'=true/\BL y y'=true:=by
 cases op with
 | binOp f' t x y u =>
  simp only[A6,Bool.and_eq_true,beq_iff_eq]at h;exact ⟨t,x,y,u,by rw[h.1.1],h.1.2,h.2⟩
 | _=>exact Bool.noConfusion h
theorem yF {ne:Bool} {x' y':AM} (h:A6 P num op (.beq ne x' y')=true) : ∃ t x y u,op = .binOp (if ne then .neq else .eql) t x y u/\P.underlying t=some .bool/\BL x x'=true/\BL y y'=true:=by
 cases op with
 | binOp f' t x y u =>
  simp only[A6,Bool.and_eq_true]at h;obtain ⟨⟨⟨h1,h2⟩,h3⟩,h4⟩:=h;refine ⟨t,x,y,u,?_,?_,h3,h4⟩
  ·cases ne<;>simp_all
  ·split at h2<;>simp_all
 | _=>exact Bool.noConfusion h
theorem zA {f:UnOp} {x':AM} (h:A6 P num op (.un f x')=true) : ∃ t x,op = .unOp f t x/\BL x x'=true:=by
 cases op with
 | unOp f' t x =>
  simp only[A6,Bool.and_eq_true,beq_iff_eq]at h;exact ⟨t,x,by rw[h.1],h.2⟩
 | _=>exact Bool.noConfusion h
theorem yO {k:IntKind} {x':AM} (h:A6 P num op (.conv k x')=true) : ∃ s d x ds,op = .convert s d x/\P.underlying s=some ds/\P.underlying d=some (.int k)/\BL x x'=true:=by
 cases op with
 | convert s d x =>
  simp only[A6,Bool.and_eq_true]at h;obtain ⟨⟨h1,h2⟩,h3⟩:=h;obtain ⟨ds,Cm⟩:=Option.isSome_iff_exists.1 h1;refine ⟨s,d,x,ds,rfl,Cm,?_,h3⟩;split at h2<;>simp_all
 | _=>exact Bool.noConfusion h
theorem yH {s:Nat} {x':AM} (h:A6 P num op (.box s x')=true) : ∃ t x,op = .box t x/\BL x x'=true:=by
 cases op with
 | box t x=>exact ⟨t,x,rfl,h⟩
 | _=>exact Bool.noConfusion h
theorem yE {s:Nat} {z:List AV} (h:A6 P num op (.alloc s z)=true) : ∃ t,op = .alloc t/\PO P t z=true:=by
 cases op with
 | alloc t=>exact ⟨t,rfl,h⟩
 | _=>exact Bool.noConfusion h
theorem yJ {z:List AV} {y7:List (Nat × Nat × AM)} (h:A6 P num op (.build z y7)=true) : ∃ t ps,op = .build t ps/\PO P t z=true/\WM P t ps.toList y7=true:=by
 cases op with
 | build t ps=>simp only[A6,Bool.and_eq_true]at h;exact ⟨t,ps,rfl,h.1,h.2⟩
 | _=>exact Bool.noConfusion h
theorem PE {t:TypeId} {f:TypeId->Bool} (h:LS P t f=true) : ∃ e,P.underlying t=some (.slice e)/\f e=true:=by
 unfold LS at h;split at h
 ·rename_i e he;exact ⟨e,he,h⟩
 ·cases h
theorem MA {t:TypeId} {n:Nat} (h:IB P t n=true) : ∃ i,P.info? t=some i/\i.size=n:=by
 unfold IB at h;split at h
 ·rename_i i hi;exact ⟨i,hi,by simpa using h⟩
 ·cases h
theorem bX {t:TypeId} {n:Nat} (h:TN P t n=true) : ∃ i,P.info? t=some i/\i.bytes=n:=by
 unfold TN at h;split at h
 ·rename_i i hi;exact ⟨i,hi,by simpa using h⟩
 ·cases h
theorem aF {t:TypeId} {l:List AV} (h:PO P t l=true) : ∃ i z,P.info? t=some i/\i.zero=some z/\MN z.cells.toList l=true:=by
 unfold PO at h;split at h
 ·rename_i i hi
  split at h
  ·rename_i z hz;exact ⟨i,z,hi,hz,h⟩
  ·cases h
 ·cases h
theorem WD {t:TypeId} {b:Bool} (h:(PU P t == some b)=true) : ∀ w,(isAgg t).run P w = .ok b w:=by
 intro w;have h':PU P t=some b:=by simpa using h
 unfold PU at h';unfold isAgg;cases hu:P.underlying t with
 | none=>rw[hu]at h';cases h'
 | some d =>
  rw[hu]at h';rw[Sem.run_bind,run_underlying hu];cases d<;>simp_all<;>rfl
theorem mF {e:TypeId} {n:Nat} (h:(match P.info? e with|some i=>(match i.zero with|some z=>z.cells.size == n|none=>false)|none=>false)=true) : ∃ i z,P.info? e=some i/\i.zero=some z/\z.cells.size=n:=by
 split at h
 ·rename_i i hi
  split at h
  ·rename_i z hz;exact ⟨i,z,hi,hz,by simpa using h⟩
  ·cases h
 ·cases h
theorem yI {s a4:Nat} {y7:List AM} (h:A6 P num op (.b9 s a4 y7)=true) : ∃ t n ps e i,op = .buildSlice t n ps/\P.underlying t=some (.slice e)/\P.info? e=some i/\i.size=a4/\a4≠0/\n=y7.length/\n*a4<=16777216/\OO 0 ps.toList y7=true/\(n=0 \/ ∃ z,i.zero=some z/\z.cells.size=a4):=by
 cases op with
 | buildSlice t n ps =>
  simp only[A6,Bool.and_eq_true,decide_eq_true_eq,bne_iff_ne,beq_iff_eq,Bool.or_eq_true]at h;obtain ⟨⟨⟨⟨⟨h1,h2⟩,h3⟩,h4⟩,h5⟩,h6⟩:=h;obtain ⟨e,he,h1⟩:=PE h1;obtain ⟨i,hi,hs⟩:=MA h1;refine ⟨t,n,ps,e,i,rfl,he,hi,hs,h2,h3,h4,h5,h6.imp id λ h6 => ?_⟩;obtain ⟨e',cw,h6⟩:=PE h6;rw[he]at cw;obtain rfl:e=e':=by simpa using cw
  obtain ⟨i',z,m6,hz,ub⟩:=mF h6;rw[hi]at m6;obtain rfl:i=i':=by simpa using m6
  exact ⟨z,hz,ub⟩
 | _=>exact Bool.noConfusion h
theorem gW {x':AM} {off:Nat} (h:A6 P num op (.m4 x' off)=true) : ∃ t x f fs fd i,op = .fieldAddr t x f/\BL x x'=true/\P.underlying t=some (.struct fs)/\fs[f]? = some fd/\fd.offset=off/\P.info? fd.type=some i/\i.size≠0:=by
 cases op with
 | fieldAddr t x f =>
  simp only[A6,Bool.and_eq_true]at h;obtain ⟨h1,h2⟩:=h;split at h2
  ·rename_i fs Ah
   split at h2
   ·rename_i fd Ag
    simp only[Bool.and_eq_true,beq_iff_eq]at h2;obtain ⟨h3,h4⟩:=h2;split at h4
    ·rename_i i hi
     exact ⟨t,x,f,fs,fd,i,rfl,h1,Ah,Ag,h3,hi,by simpa using h4⟩
    ·cases h4
   ·cases h2
  ·cases h2
 | _=>exact Bool.noConfusion h
theorem yQ {x':AM} {off n:Nat} {agg:Bool} (h:A6 P num op (.gu x' off n agg)=true) : ∃ t x f fs fd i,op = .field t x f/\BL x x'=true/\P.underlying t=some (.struct fs)/\fs[f]? = some fd/\fd.offset=off/\P.info? fd.type=some i/\i.size=n/\(∀ w,(isAgg fd.type).run P w = .ok agg w)/\n≠0:=by
 cases op with
 | field t x f =>
  simp only[A6,Bool.and_eq_true]at h;obtain ⟨⟨h1,h2⟩,h3⟩:=h;unfold fU at h2;unfold fW at h3;split at h2
  ·rename_i fs Ah
   split at h2
   ·rename_i fd Ag
    simp only[Bool.and_eq_true,beq_iff_eq,bne_iff_ne]at h2;obtain ⟨⟨h4,h5⟩,h6⟩:=h2;obtain ⟨i,hi,hs⟩:=MA h5;rw[Ah]at h3;simp only[Ag]at h3;exact ⟨t,x,f,fs,fd,i,rfl,h1,Ah,Ag,h4,hi,hs,WD h3,h6⟩
   ·cases h2
  ·cases h2
 | _=>exact Bool.noConfusion h
theorem UM {arr:Option Nat} {a4:Nat} {x' i':AM} (h:A6 P num op (.o6 arr a4 x' i')=true) : ∃ t x i e inf,op = .indexAddr t x i/\BL x x'=true/\BL i i'=true/\P.info? e=some inf/\inf.size=a4 /\
  ((∃ len,arr=some len/\P.underlying t=some (.array len e)/\1<len)\/(arr=none/\P.underlying t=some (.slice e)/\a4≠0)):=by
 cases op with
 | indexAddr t x i =>
  simp only[A6,Bool.and_eq_true]at h;obtain ⟨⟨h1,h2⟩,h3⟩:=h;split at h3
  ·rename_i len e ko hu
   simp only[Bool.and_eq_true,beq_iff_eq,decide_eq_true_eq]at h3;obtain ⟨⟨h4,h5⟩,h6⟩:=h3;obtain ⟨inf,hi,hs⟩:=MA h5;exact ⟨t,x,i,e,inf,rfl,h1,h2,hi,hs,.inl ⟨len,by rw[h4],hu,h6⟩⟩
  ·rename_i e hu
   simp only[Bool.and_eq_true,bne_iff_ne]at h3;obtain ⟨inf,hi,hs⟩:=MA h3.1;exact ⟨t,x,i,e,inf,rfl,h1,h2,hi,hs,.inr ⟨rfl,hu,h3.2⟩⟩
  ·cases h3
 | _=>exact Bool.noConfusion h
theorem gX {agg:Bool} {n:Nat} {x':AM} (h:A6 P num op (.ld agg n x')=true) : ∃ t x,op = .load t x/\BL x x'=true/\(∀ w,(isAgg t).run P w = .ok agg w)/\(if agg then ∃ i,P.info? t=some i/\i.size=n else n=1):=by
 cases op with
 | load t x =>
  simp only[A6,Bool.and_eq_true]at h;obtain ⟨⟨h1,h2⟩,h3⟩:=h;refine ⟨t,x,rfl,h1,WD h2,?_⟩;cases agg
  ·simpa using h3
  ·exact MA (by simpa using h3)
 | _=>exact Bool.noConfusion h
theorem yY {n:Nat} {x' v':AM} (h:A6 P num op (.st n x' v')=true) : ∃ t x v i,op = .store t x v/\BL x x'=true/\BL v v'=true/\P.info? t=some i/\i.size=n:=by
 cases op with
 | store t x v =>
  simp only[A6,Bool.and_eq_true]at h;obtain ⟨⟨h1,h2⟩,h3⟩:=h;obtain ⟨i,hi,hs⟩:=MA h3;exact ⟨t,x,v,i,rfl,h1,h2,hi,hs⟩
 | _=>exact Bool.noConfusion h
theorem yT {s a4 bytes:Nat} {zero:List AV} {l' c':AM} (h:A6 P num op (.mk s a4 bytes zero l' c')=true) : ∃ t l c e i z,op = .makeSlice t l c/\BL l l'=true/\BL c c'=true/\P.underlying t=some (.slice e)/\P.info? e=some i/\i.size=a4/\i.bytes=bytes/\i.zero=some z/\MN z.cells.toList zero=true/\a4≠0:=by
 cases op with
 | makeSlice t l c =>
  simp only[A6,Bool.and_eq_true,bne_iff_ne]at h;obtain ⟨⟨⟨h1,h2⟩,h3⟩,h4⟩:=h;obtain ⟨e,he,h3⟩:=PE h3;simp only[Bool.and_eq_true]at h3;obtain ⟨⟨h5,h6⟩,h7⟩:=h3;obtain ⟨i,hi,hs⟩:=MA h5;obtain ⟨i2,lf,uc⟩:=bX h6;obtain ⟨i3,z,xv,hz,db⟩:=aF h7;rw[hi]at lf xv;obtain rfl:i=i2:=by simpa using lf
  obtain rfl:i=i3:=by simpa using xv
  exact ⟨t,l,c,e,i,z,rfl,h1,h2,he,hi,hs,uc,hz,db,h4⟩
 | _=>exact Bool.noConfusion h
theorem YB {a4:Nat} {x':AM} {ig m6:Option AM} (h:A6 P num op (.de a4 x' ig m6)=true) : ∃ t x lo hi e i,op = .slice t x lo hi none/\BL x x'=true/\L3 lo ig=true/\L3 hi m6=true/\P.underlying t=some (.slice e)/\P.info? e=some i/\i.size=a4/\a4≠0:=by
 cases op with
 | slice t x lo hi mx =>
  cases mx with
  | some _=>exact Bool.noConfusion h
  | none =>
   simp only[A6,Bool.and_eq_true,bne_iff_ne]at h;obtain ⟨⟨⟨⟨h1,h2⟩,h3⟩,h4⟩,h5⟩:=h;obtain ⟨e,he,h4⟩:=PE h4;obtain ⟨i,m6,hs⟩:=MA h4;exact ⟨t,x,lo,hi,e,i,rfl,h1,h2,h3,he,m6,hs,h5⟩
 | _=>exact Bool.noConfusion h
theorem yP {x':AM} {i:Nat} (h:A6 P num op (.ext x' i)=true) : ∃ x,op = .extract x i/\BL x x'=true:=by
 cases op with
 | extract x j =>
  simp only[A6,Bool.and_eq_true,beq_iff_eq]at h;exact ⟨x,by rw[h.2],h.1⟩
 | _=>exact Bool.noConfusion h
theorem lP {α:Type} {xs:Array α} {x y:α} (h:xs.toList=[x,y]):xs = #[x,y]:=by cases xs;simp_all
theorem lO {α:Type} {xs:Array α} {x:α} (h:xs.toList=[x]):xs = #[x]:=by cases xs;simp_all
theorem yS {x':AM} (h:A6 P num op (.len x')=true) : ∃ x t e,op = .call ⟨.builtin .len,#[x],#[t]⟩/\BL x x'=true/\P.underlying t=some (.slice e):=by
 cases op with
 | call c =>
  obtain ⟨cl,xs,ts⟩:=c;cases cl with
  | builtin b =>
   cases b<;>first|exact Bool.noConfusion h|skip
   simp only[A6]at h;split at h
   ·rename_i x t hx ht
    simp only[Bool.and_eq_true]at h;obtain ⟨e,he,_⟩:=PE h.2;exact ⟨x,t,e,by rw[lO hx,lO ht],h.1,he⟩
   ·cases h
  | value f=>cases f<;>exact Bool.noConfusion h
  | invoke=>exact Bool.noConfusion h
 | _=>exact Bool.noConfusion h
theorem gY {mx:Bool} {k9:List AM} (h:A6 P num op (.mm mx k9)=true) : ∃ xs ts,op = .call ⟨.builtin (if mx then .max else .min),xs,ts⟩/\DC xs.toList k9=true:=by
 cases op with
 | call c =>
  obtain ⟨cl,xs,ts⟩:=c;cases cl with
  | builtin b =>
   cases b<;>first|exact Bool.noConfusion h|skip
   all_goals
    simp only[A6,Bool.and_eq_true]at h;refine ⟨xs,ts,?_,h.2⟩;cases mx<;>simp_all
  | value f=>cases f<;>exact Bool.noConfusion h
  | invoke=>exact Bool.noConfusion h
 | _=>exact Bool.noConfusion h
theorem gV {s a4 bytes:Nat} {x' y':AM} (h:A6 P num op (.app s a4 bytes x' y')=true) : ∃ x y t e i z tx ex,op = .call ⟨.builtin .append,#[x,y],#[t,tx]⟩/\BL x x'=true/\BL y y'=true/\P.underlying t=some (.slice e)/\P.info? e=some i/\i.size=a4/\i.bytes=bytes/\i.zero=some z/\z.cells.size=a4/\a4≠0/\P.underlying tx=some (.slice ex):=by
 cases op with
 | call c =>
  obtain ⟨cl,xs,ts⟩:=c;cases cl with
  | builtin b =>
   cases b<;>first|exact Bool.noConfusion h|skip
   simp only[A6]at h;split at h
   ·rename_i x y t u hx ht
    simp only[Bool.and_eq_true,beq_iff_eq,bne_iff_ne]at h;obtain ⟨⟨⟨⟨h1,h2⟩,h3⟩,h4⟩,h5⟩:=h;obtain ⟨e,he,h3⟩:=PE h3;simp only[Bool.and_eq_true]at h3;obtain ⟨⟨h6,h7⟩,h8⟩:=h3;obtain ⟨i,hi,hs⟩:=MA h6;obtain ⟨i2,lf,uc⟩:=bX h7;obtain ⟨i3,z,xv,hz,db⟩:=mF h8;rw[hi]at lf xv;obtain rfl:i=i2:=by simpa using lf
    obtain rfl:i=i3:=by simpa using xv
    obtain ⟨ex,hex,_⟩:=PE h5;exact ⟨x,y,t,e,i,z,u,ex,by rw[lP hx,lP ht],h1,h2,he,hi,hs,uc,hz,db,h4,hex⟩
   ·cases h
  | value f=>cases f<;>exact Bool.noConfusion h
  | invoke=>exact Bool.noConfusion h
 | _=>exact Bool.noConfusion h
theorem X9 {f:Nat} {k9:List AM} (h:A6 P num op (.call f k9)=true) : ∃ xs ts,op = .call ⟨.value (.func (num f)),xs,ts⟩/\DC xs.toList k9=true:=by
 cases op with
 | call c =>
  obtain ⟨cl,xs,ts⟩:=c;cases cl with
  | builtin b=>cases b<;>exact Bool.noConfusion h
  | value g =>
   cases g with
   | func g =>
    simp only[A6,Bool.and_eq_true,beq_iff_eq]at h;exact ⟨xs,ts,by rw[h.1],h.2⟩
   | _=>exact Bool.noConfusion h
  | invoke=>exact Bool.noConfusion h
 | _=>exact Bool.noConfusion h
theorem yK {f:Nat} {k9:List AM} (h:A6 P num op (.c4 f k9)=true) : ∃ xs ts,op = .call ⟨.value (.func (num f)),xs,ts⟩/\DC xs.toList k9=true:=by
 cases op with
 | call c =>
  obtain ⟨cl,xs,ts⟩:=c;cases cl with
  | builtin b=>cases b<;>exact Bool.noConfusion h
  | value g =>
   cases g with
   | func g =>
    simp only[A6,Bool.and_eq_true,beq_iff_eq]at h;exact ⟨xs,ts,by rw[h.1],h.2⟩
   | _=>exact Bool.noConfusion h
  | invoke=>exact Bool.noConfusion h
 | _=>exact Bool.noConfusion h
theorem yL {f:Nat} {k9:List AM} (h:A6 P num op (.l7 f k9)=true):A6 P num op (.call f k9)=true:=by
 cases op<;>exact h
theorem yN {s f:Nat} {k9:List AM} (h:A6 P num op (.w5 s f k9)=true):A6 P num op (.c4 f k9)=true:=by
 cases op<;>exact h
theorem yM {s f:Nat} {k9:List AM} (h:A6 P num op (.n6 s f k9)=true):A6 P num op (.call f k9)=true:=by
 cases op<;>exact h
theorem yZ {s n:Nat} {x' v':AM} (h:A6 P num op (.il s n x' v')=true):A6 P num op (.st n x' v')=true:=by
 cases op<;>exact h
theorem yR {ne:Bool} {x':AM} (h:A6 P num op (.kn ne x')=true) : ∃ t x u e,op = .binOp (if ne then .neq else .eql) t x (.const (.slice none 0 0)) u/\P.underlying t=some (.slice e)/\BL x x'=true:=by
 cases op with
 | binOp f' t x y u =>
  simp only[A6]at h;split at h
  ·rename_i heq
   simp only[Op.binOp.injEq]at heq;obtain ⟨rfl,rfl,rfl,rfl,rfl⟩:=heq;simp only[Bool.and_eq_true]at h;obtain ⟨⟨h1,h2⟩,h3⟩:=h;unfold LS at h2;split at h2
   ·rename_i e he
    refine ⟨t,x,u,e,?_,he,h3⟩;cases ne
    ·simp only[Bool.false_eq_true,if_false,beq_iff_eq]at h1;rw[h1];rfl
    ·simp only[if_true,beq_iff_eq]at h1;rw[h1];rfl
   ·cases h2
  ·cases h
 | _=>exact Bool.noConfusion h
theorem yX {tb:List Nat} {i':AM} (h:A6 P num op (.bn tb i')=true) : ∃ t s i,op = .index t (.const (.string s)) i/\P.underlying t=some .string/\s.data.toList.map (λ b=>b.toNat)=tb/\BL i i'=true:=by
 cases op with
 | index t x i =>
  simp only[A6]at h;split at h
  ·rename_i heq
   simp only[Op.index.injEq]at heq;obtain ⟨rfl,rfl,rfl⟩:=heq;simp only[Bool.and_eq_true,beq_iff_eq]at h;obtain ⟨⟨h1,h2⟩,h3⟩:=h;exact ⟨_,_,_,rfl,by split at h1<;>simp_all,h2,h3⟩
  ·cases h
 | _=>exact Bool.noConfusion h
theorem yU {p:Bool} {f:Nat} {k9:List AM} (h:A6 P num op (.jb p f k9)=true) : ∃ first xs,op = .makeFunc (.func (num f)) first xs/\first = #[]/\DC xs.toList k9=true:=by
 cases op with
 | makeFunc g first xs =>
  cases g with
  | func g =>
   simp only[A6,Bool.and_eq_true,beq_iff_eq]at h;obtain ⟨⟨rfl,h2⟩,h3⟩:=h;refine ⟨first,xs,rfl,?_,h3⟩;obtain ⟨l⟩:=first
   simp at h2;rw[h2]
  | _=>exact Bool.noConfusion h
 | _=>exact Bool.noConfusion h
theorem YA {x':AM} {k9:List AM} (h:A6 P num op (.l8 x' k9)=true) : ∃ x xs ts,op = .call ⟨.value x,xs,ts⟩/\BL x x'=true/\DC xs.toList k9=true:=by
 cases op with
 | call c =>
  obtain ⟨cl,xs,ts⟩:=c;cases cl with
  | builtin b=>cases b<;>exact Bool.noConfusion h
  | value g =>
   simp only[A6,Bool.and_eq_true]at h;exact ⟨g,xs,ts,rfl,h.1,h.2⟩
  | invoke=>exact Bool.noConfusion h
 | _=>exact Bool.noConfusion h
end
end Go.c8

namespace Go.c8
open Go.RowKit
def BM.o9:BM->AE->AE
 | .val _,o=>o
 | .new s b _,o=>o.put s ((o s).new b)
 | .qb s b _,o=>o.put s ((o s).new b)
 | .aj _ o',_=>o'
 | .ru s _ o',o=>o'.put s (o s)
 | .m9 s x,o=>o.put s x
 | .og s x _,o=>o.put s x
def BM.valOf:BM->AE->AV
 | .val v,_=>v
 | .new s _ v,o=>v (o.c9 s)
 | .qb s _ v,o=>v (o.c9 s)
 | .aj v _,_=>v
 | .ru _ v _,_=>v
 | .m9 _ _,_ => .e7 []
 | .og _ _ v,_=>v
section
variable {B:Nat} {S:Nat->Prop} {w0:World} {m:M}
theorem GW {k:IntKind} {n:Int} {v:Value} (h:CV B S m (.int k n) v):v = .int k n:=by
 cases h with
 | ca h=>cases h with
  | one h=>cases h with
   | rd h=>cases h;rfl
theorem OJ {b:Bool} {v:Value} (h:CV B S m (.bool b) v):v = .bool b:=by
 cases h with
 | ca h=>cases h with
  | one h=>cases h with
   | rd h=>cases h;rfl
theorem rI {cs:List AV} {v:Value} (h:CV B S m (.agg cs) v) : ∃ vs:List Value,v = .agg vs.toArray/\CL B S m cs vs:=by
 cases h with
 | ca h=>cases h with
  | one h=>cases h with
   | rd h=>cases h
  | agg _ vs h=>exact ⟨vs,rfl,h⟩
theorem WT {cs:List AV} {v:Value} (h:CV B S m (.e7 cs) v) : ∃ vs:List Value,v = .tuple vs.toArray/\cs.length=vs.length /\ ∀ (j:Nat) (c:AV) (u:Value),cs[j]? = some c->vs[j]? = some u->CA B S m c u:=by
 cases h with
 | ca h=>cases h with
  | one h=>cases h with
   | rd h=>cases h
 | e7 _ vs hl h=>exact ⟨vs,rfl,hl,h⟩
theorem NM (k:IntKind) (n:Int):CV B S m (.int k n) (.int k n):= .ca (.one (.rd (.int k n)))
theorem UP (b:Bool):CV B S m (.bool b) (.bool b):= .ca (.one (.rd (.bool b)))
theorem iS:CV B S m (.e7 []) undef := .e7 [] [] rfl (λ j c v h=>by simp at h)
theorem T5 {a:AV} {cs:List AV} {v:Value} (h:CV B S m a v) (hc:cellsOf a=some cs):CL B S m cs v.cells.toList:=by
 cases h with
 | any v=>simp [cellsOf]at hc
 | e7=>simp [cellsOf]at hc
 | ca h=>cases h with
  | agg y8 vs h =>
   obtain rfl:y8=cs:=by simpa [cellsOf] using hc
   simpa [Value.cells] using h
  | fn=>simp [cellsOf]at hc
  | mb=>simp [cellsOf]at hc
  | one h =>
   have h1:v.cells.toList=[v]:=by
    cases h with
    | rd h=>cases h<;>rfl
    | _=>rfl
   have h2:cs=[a]:=by
    cases h with
    | rd h=>cases h<;>simp [cellsOf]at hc<;>exact hc.symm
    | _=>simp [cellsOf]at hc;exact hc.symm
   rw[h1,h2];refine ⟨rfl,λ j c u hj hu => ?_⟩;cases j with
   | zero=>simp at hj hu;subst hj hu;exact h
   | succ j=>simp at hj
theorem qX {cs:List AV} {vs:List Value} (h:CL B S m cs vs) : ∀ v∈vs,v.oneCell'=true:=by
 intro v hv;obtain ⟨j,hj,rfl⟩:=List.getElem_of_mem hv;have vf:j<cs.length:=by rw[h.1];exact hj
 exact (h.2 j cs[j] vs[j] (zE vf) (zE hj)).one
theorem qY {cs:List AV} {vs:List Value} (h:CL B S m cs vs) (off n:Nat):CL B S m ((cs.drop off).take n) ((vs.drop off).take n):=by
 refine ⟨by simp [h.1],λ j c v hj hv => ?_⟩;rw[List.getElem?_take]at hj hv;split at hj
 ·rename_i k6
  rw[if_pos k6]at hv;rw[List.getElem?_drop]at hj hv;exact h.2 _ c v hj hv
 ·cases hj
theorem dY {v:Value} {a:AV} (h:UD v a=true):CC B S m a v:=by
 unfold UD at h;split at h
 ·simp only[Bool.and_eq_true,beq_iff_eq]at h
  obtain ⟨rfl,rfl⟩:=h;exact .rd (.int _ _)
 ·obtain rfl:_=_:=by simpa using h
  exact .rd (.bool _)
 ·exact .nil
 ·rename_i s s'
  obtain rfl:s=s':=by
   have h':s.data.toList=s'.data.toList:=by simpa using h
   obtain ⟨⟨l⟩⟩:=s;obtain ⟨⟨l'⟩⟩:=s';simp only at h';rw[h']
  exact .rd (.str _)
 ·exact .rd .fk
 ·cases h
theorem P4 : ∀ {vs:List Value} {cs:List AV},MN vs cs=true->CL B S m cs vs
 | [],[],_=>⟨rfl,λ j c v h=>by simp at h⟩
 | v::r,c::l,h=>by
  simp only[MN,Bool.and_eq_true]at h;have ih:=P4 (vs:=r) (cs:=l) h.2;refine ⟨by simp [ih.1],λ j c' v' hj hv => ?_⟩;cases j with
  | zero=>simp at hj hv;subst hj hv;exact dY h.1
  | succ j=>exact ih.2 j c' v' (by simpa using hj) (by simpa using hv)
 | [],_::_,h=>by simp [MN]at h
 | _::_,[],h=>by simp [MN]at h
theorem uJ {v:Value} {a:AV} (h:XA v a=true):CV B S m a v:=by
 unfold XA at h;split at h
 ·rename_i cs l
  have:=P4 (B:=B) (S:=S) (m:=m) h
  exact .ca (by simpa using CA.agg l cs.toList this)
 ·exact .ca (.one (dY h))
def B3 (B:Nat) (S:Nat->Prop) (m:M) (ρ:AM->AV) (e:Operand->Value):Prop := ∀ x y,BL x y=true->CV B S m (ρ y) (e x)
theorem Ia {T:Nat->AV} {a:Act} {ρ:AM->AV} (Qc : ∀ n,ρ (.t n)=T n) (Hd : ∀ v,ρ (.c v)=v) (h : ∀ i,CV B S m (T i) (a.tmps.getD i undef)):B3 B S m ρ a.eval:=by
 intro x y gk;unfold BL at gk;split at gk
 ·obtain rfl:_=_:=by simpa using gk
  rw[Qc];exact h _
 ·rw[Hd]
  exact uJ gk
 ·obtain rfl:_=_:=by simpa using gk
  rw[Hd];exact .ca (.fn _ _ _ [] [] (λ_=>rfl) ⟨rfl,λ j c v h=>by simp at h⟩)
 ·cases gk
variable {P:Program} {num:Nat->Nat} {o:Oper} {a:Act} {ρ:AM->AV} {K:Act->World->Prop} {Q:Exit->Act->World->Prop}
theorem M6 {w w':World} {u:Value} (h:(execOp a.eval o).run P w = .ok (.value u) w') (hk:K (a.put o.dst u) w'):o.wp P a w K Q:=by
 unfold Oper.wp;rw[h];exact hk
theorem Kz {w w':World} (h:(execOp a.eval o).run P w = .ok .skip w') (hk:K (a.put o.dst undef) w'):o.wp P a w K Q:=by
 unfold Oper.wp;rw[h];exact hk
def B8 (B:Nat) (S:Nat->Prop) (w0:World) (P:Program) (o:Oper) (a:Act) (m:M) (E:BM):Prop :=
 ∀ (K:Act->World->Prop) (Q:Exit->Act->World->Prop),(∀ u m',m'.own=E.o9 m.own->BD B S w0 m'->CS B S m m'->CV B S m' (E.valOf m.own) u->K (a.put o.dst u) m'.w)->o.wp P a m.w K Q
theorem DJ (hm:BD B S w0 m) {v:AV} {u:Value} (h:(execOp a.eval o).run P m.w = .ok (.value u) m.w) (hc:CV B S m v u):B8 B S w0 P o a m (.val v) :=
 λ K Q hK=>M6 h (hK u m rfl hm (CS.refl m) hc)
theorem tJ (hm:BD B S w0 m) (hs:B3 B S m ρ a.eval) {y:AM} (h:A6 P num o.op (.m8 y)=true):B8 B S w0 P o a m (.val (ρ y)):=by
 obtain ⟨x,hx,he⟩:=yV h;refine DJ hm (u:=a.eval x) ?_ (hs x y he);rcases hx with hx|hx<;>simp [execOp,hx]
theorem tP (hm:BD B S w0 m) {s z:Nat} (h:A6 P num o.op (.u9 s z)=true):B8 B S w0 P o a m (.qb s ⟨z,[]⟩ (λ t => .row s t z 0 0)):=by
 obtain ⟨hx,hz⟩:=zB h;intro K Q hK;obtain ⟨h1,h2⟩:=lX hm s z;refine M6 (u := .slice none 0 0) (w':=m.w) ?_ (hK _ ⟨e6 m s none,m.own.put s ((m.own s).new ⟨z,[]⟩),m.w⟩ rfl h1 h2 ?_)
 ·rcases hx with hx|hx<;>simp [execOp,hx,Act.eval]
 ·refine .ca (.one (.row s (m.own.c9 s) z 0 0 none 0 ?_ (by omega) (Nat.le_refl _) (λ h=>by omega) λ b hb => ?_))
  ·show _<AE.c9 _ s
   rw[JA];simp
  ·change AE.get _ s _=some b at hb
   rw[E7,if_pos ⟨rfl,rfl⟩]at hb;obtain rfl:(⟨z,[]⟩:C6)=b:=by simpa using hb
   exact ⟨rfl,.inl ⟨rfl,rfl⟩⟩
theorem dF (hm:BD B S w0 m) (hs:B3 B S m ρ a.eval) {c' a' b':AM} (h:A6 P num o.op (.pick c' a' b')=true) {t:Bool} (hc:ρ c' = .bool t) :
  B8 B S w0 P o a m (.val (if t then ρ a' else ρ b')):=by
 obtain ⟨c,x,y,j5,h1,h2,h3⟩:=yW h;have o5:=OJ (hc ▸ hs c c' h1);refine DJ hm (u:=if t then a.eval x else a.eval y) ?_ ?_
 ·cases t<;>simp [execOp,j5,o5,asBool]
 ·cases t
  ·exact hs y b' h3
  ·exact hs x a' h2
theorem Je (f:BinOp) (t:TypeId) (k k':IntKind) (x y:Int) (v:AV) (h:CD f k x k' y=some v) (w:World) : ∃ u,(binOp f t (.int k x) (.int k' y)).run P w = .ok u w/\((∃ n,v = .int k n/\u = .int k n) \/ ∃ b,v = .bool b/\u = .bool b):=by
 cases f<;>simp only[CD]at h;case shl =>
  split at h
  ·cases h
  ·rename_i hy;simp at h;subst h
   exact ⟨_,by simp [binOp,Op.shift,hy],.inl ⟨_,rfl,rfl⟩⟩
 case shr =>
  split at h
  ·cases h
  ·rename_i hy;simp at h;subst h
   exact ⟨_,by simp [binOp,Op.shift,hy],.inl ⟨_,rfl,rfl⟩⟩
 case quo =>
  split at h
  ·rename_i hy;obtain ⟨rfl,hy⟩:=hy;simp at h;subst h
   exact ⟨_,by simp [binOp,Op.intDiv,hy],.inl ⟨_,rfl,rfl⟩⟩
  ·cases h
 case rem =>
  split at h
  ·rename_i hy;obtain ⟨rfl,hy⟩:=hy;simp at h;subst h
   exact ⟨_,by simp [binOp,Op.intDiv,hy],.inl ⟨_,rfl,rfl⟩⟩
  ·cases h
 case and|or|xor|andNot =>
  all_goals
   split at h
   ·rename_i hk;subst hk;obtain rfl:=Option.some.inj h
    exact ⟨_,by simp only[binOp,ne_eq,not_true_eq_false,if_false];rfl,.inl ⟨_,rfl,rfl⟩⟩
   ·cases h
 case add|sub|mul =>
  all_goals
   split at h
   ·rename_i hk;subst hk;obtain rfl:=Option.some.inj h
    exact ⟨_,by simp [binOp,Op.intArith],.inl ⟨_,rfl,rfl⟩⟩
   ·cases h
 all_goals
  split at h
  ·rename_i hk;subst hk;obtain rfl:=Option.some.inj h
   exact ⟨_,by simp [binOp,Op.intCmp],.inr ⟨_,rfl,rfl⟩⟩
  ·cases h
theorem Iy (f:BinOp) (t:TypeId) (x y:Operand) (k k':IntKind) (n n':Int) (w:World):(eqGuard f t x y (.int k n) (.int k' n')).run P w = .ok () w:=by
 unfold eqGuard;cases f<;>simp
theorem Iz (f:BinOp) (t:TypeId) (x y:Operand) (b b':Bool) (w:World):(eqGuard f t x y (.bool b) (.bool b')).run P w = .ok () w:=by
 unfold eqGuard;cases f<;>simp
theorem sI (hm:BD B S w0 m) (hs:B3 B S m ρ a.eval) {f:BinOp} {x' y':AM} (h:A6 P num o.op (.bin f x' y')=true) {k k':IntKind} {n n':Int} {v:AV} (hx:ρ x' = .int k n) (hy:ρ y' = .int k' n') (hv:CD f k n k' n'=some v) :
  B8 B S w0 P o a m (.val v):=by
 obtain ⟨t,x,y,u,j5,h1,h2⟩:=yG h;have ex:=GW (hx ▸ hs x x' h1);have ey:=GW (hy ▸ hs y y' h2);obtain ⟨r,hr,ae⟩:=Je (P:=P) f t k k' n n' v hv m.w;refine DJ hm (u:=r) ?_ ?_
 ·simp [execOp,j5,ex,ey,Iy,hr]
 ·rcases ae with ⟨q,rfl,rfl⟩|⟨q,rfl,rfl⟩
  ·exact NM _ _
  ·exact UP _
theorem Jb (t:TypeId) (b b':Bool) (hu:P.underlying t=some .bool) (w:World):(Op.equal t (.bool b) (.bool b')).run P w = .ok (b == b') w:=by
 have h : ∀ d:Nat,(Op.equalIn (d+1) t (.bool b) (.bool b')).run P w = .ok (b == b') w:=λ d=>by
  unfold Op.equalIn;rw[Sem.run_bind,run_underlying hu];rfl
 exact h 9999
theorem sH (hm:BD B S w0 m) (hs:B3 B S m ρ a.eval) {ne:Bool} {x' y':AM} (h:A6 P num o.op (.beq ne x' y')=true) {b b':Bool} (hx:ρ x' = .bool b) (hy:ρ y' = .bool b') :
  B8 B S w0 P o a m (.val (.bool (if ne then !(b == b') else b == b'))):=by
 obtain ⟨t,x,y,u,j5,hu,h1,h2⟩:=yF h;have ex:=OJ (hx ▸ hs x x' h1);have ey:=OJ (hy ▸ hs y y' h2);refine DJ hm (u := .bool (if ne then !(b == b') else b == b')) ?_ (UP _);cases ne<;>simp [execOp,j5,ex,ey,Iz,binOp,Jb t b b' hu]
theorem tO (hm:BD B S w0 m) (hs:B3 B S m ρ a.eval) {f:UnOp} {x':AM} (h:A6 P num o.op (.un f x')=true) {v:AV} (hv:NZ f (ρ x')=some v):B8 B S w0 P o a m (.val v):=by
 obtain ⟨t,x,j5,h1⟩:=zA h;have hx:=hs x x' h1;unfold NZ at hv;split at hv
 ·rename_i k n hk
  have ex:=GW (hk ▸ hx);split at hv
  ·obtain rfl:_=v:=by simpa using hv
   exact DJ hm (by simp [execOp,j5,ex,Op.unary,Op.intArith]) (NM _ _)
  ·obtain rfl:_=v:=by simpa using hv
   exact DJ hm (by simp only[execOp,j5,ex,Op.unary];rfl) (NM _ _)
  ·cases hv
 ·rename_i b hk
  have ex:=OJ (hk ▸ hx);split at hv
  ·obtain rfl:_=v:=by simpa using hv
   exact DJ hm (by simp [execOp,j5,ex,Op.unary]) (UP _)
  ·cases hv
 ·cases hv
theorem sS (hm:BD B S w0 m) (hs:B3 B S m ρ a.eval) {k:IntKind} {x':AM} (h:A6 P num o.op (.conv k x')=true) {k':IntKind} {n:Int} (hx:ρ x' = .int k' n):B8 B S w0 P o a m (.val (.int k (k.wrap n))):=by
 obtain ⟨s,d,x,ds,j5,Cm,hd,h1⟩:=yO h;have ex:=GW (hx ▸ hs x x' h1);refine DJ hm (u := .int k (k.wrap n)) ?_ (NM _ _);simp [execOp,j5,ex,convert,run_underlying Cm,run_underlying hd,Conv.intToInt]
theorem Jc (t:TypeId) (a:Option Addr) (n c:Nat) {e:TypeId} (hu:P.underlying t=some (.slice e)) (w:World):(Op.equal t (.slice a n c) (.slice none 0 0)).run P w = .ok a.isNone w:=by
 have h : ∀ d:Nat,(Op.equalIn (d+1) t (.slice a n c) (.slice none 0 0)).run P w = .ok a.isNone w:=λ d=>by
  unfold Op.equalIn;rw[Sem.run_bind,run_underlying hu];cases a<;>rfl
 exact h 9999
theorem Ja (f:BinOp) (t:TypeId) (x y:Operand) (a b:Option Addr) (n c n' c':Nat) (w:World):(eqGuard f t x y (.slice a n c) (.slice b n' c')).run P w = .ok () w:=by
 unfold eqGuard;cases f<;>simp
theorem UB (hm:BD B S w0 m) (hs:B3 B S m ρ a.eval) {ne:Bool} {x':AM} (h:A6 P num o.op (.kn ne x')=true) {b:Bool} (hx : ∀ v,CV B S m (ρ x') v -> ∃ ad n c,v = .slice ad n c/\ad.isNone=b) :
  B8 B S w0 P o a m (.val (.bool (xor b ne))):=by
 obtain ⟨t,x,u,e,j5,hu,h1⟩:=yR h;obtain ⟨ad,n,c,ex,hb⟩:=hx _ (hs x x' h1);refine DJ hm (u := .bool (xor b ne)) ?_ (UP _);have e0:a.eval (.const (.slice none 0 0)) = .slice none 0 0:=rfl;cases ne<;>cases b<;>simp [execOp,j5,ex,e0,Ja,binOp,Jc t ad n c hu,hb]
theorem P0 {v:Value} (h:CV B S m .nil v):v = .slice none 0 0:=by
 cases h with
 | ca h=>cases h with
  | one h=>cases h with
   | rd h=>cases h
   | nil=>rfl
theorem cR {b:Bool} {v:Value} (h:CV B S m (.w6 (.bool b)) v) : ∃ ad c,v = .slice ad 0 c/\ad.isNone=b:=by
 cases h with
 | ca h=>cases h with
  | one h=>cases h with
   | rd h=>cases h with
    | emp b a cap h=>exact ⟨a,cap,rfl,h⟩
theorem rM {l:Bool} {e:List AV} {es:List (List AV)} {v:Value} (h:CV B S m (.sl l (e::es)) v) : ∃ ad n c,v = .slice ad n c/\ad.isNone=false:=by
 cases h with
 | ca h=>cases h with
  | one h=>cases h with
   | rd h=>cases h with
    | sl=>exact ⟨_,_,_,rfl,rfl⟩
theorem rL {s t z off n:Nat} {v:Value} (h:CV B S m (.row s t z off (n+1)) v) : ∃ ad n c,v = .slice ad n c/\ad.isNone=false:=by
 cases h with
 | ca h=>cases h with
  | one h=>cases h with
   | rd h=>cases h
   | row _ _ _ _ _ a cap _ _ _ ha=>exact ⟨_,_,_,rfl,by have:=ha (by omega);cases a<;>simp_all⟩
theorem tK (hm:BD B S w0 m) (hs:B3 B S m ρ a.eval) {tb:List Nat} {x':AM} (h:A6 P num o.op (.bn tb x')=true) {k:IntKind} {n:Int} {v:Nat} (hx:ρ x' = .int k n) (h0:0<=n) (hv:tb[n.toNat]? = some v) :
  B8 B S w0 P o a m (.val (.int .u8 v)):=by
 obtain ⟨t,s,i,j5,hu,En,h1⟩:=yX h;have ex:=GW (hx ▸ hs i x' h1);have hb : ∃ b:UInt8,s[n.toNat]? = some b/\b.toNat=v:=by
  rw[<-En,List.getElem?_map]at hv;cases hg:s.data.toList[n.toNat]? with
  | none=>simp [hg]at hv
  | some b =>
   simp only[hg,Option.map_some,Option.some.injEq]at hv;refine ⟨b,?_,hv⟩;have k6:n.toNat<s.size:=by
    have:=(zS hg).1
    simpa using this
   rw[getElem?_pos s n.toNat k6];congr 1;have:=(zS hg).2
   rw[<-this];rfl
 obtain ⟨b,sv,n8⟩:=hb;refine DJ hm (u := .int .u8 v) ?_ (NM _ _);have e0:a.eval (.const (.string s)) = .string s:=rfl;simp [execOp,j5,ex,e0,Instr.index,asIntOf,run_underlying hu,h0,sv,n8]
theorem Jx {x c:AV} {v:Value} (h:CV B S m x v) (hc:FQ x=some c):CC B S m c v:=by
 cases h with
 | any=>simp [FQ]at hc
 | e7=>simp [FQ]at hc
 | ca h=>cases h with
  | agg=>simp [FQ]at hc
  | fn=>simp [FQ]at hc
  | mb=>simp [FQ]at hc
  | one h =>
   have:c=x:=by
    cases h with
    | rd h=>cases h<;>simp [FQ]at hc<;>exact hc.symm
    | _=>simp [FQ]at hc;exact hc.symm
   subst this;exact h
theorem dX (hs:B3 B S m ρ a.eval) : ∀ {xs:List Operand} {k9:List AM} {cs:List AV},DC xs k9=true->k9.mapM (λ x=>FQ (ρ x))=some cs->CL B S m cs (xs.map a.eval)
 | [],[],cs,_,h=>by
  simp at h;subst h;exact ⟨rfl,λ j c v h=>by simp at h⟩
 | x::r,y::l,cs,h,hc=>by
  simp only[DC,Bool.and_eq_true]at h;simp only[List.mapM_cons,Option.bind_eq_bind,Option.pure_def]at hc;cases h1:FQ (ρ y) with
  | none=>simp [h1]at hc
  | some c =>
   cases h2:l.mapM (λ x=>FQ (ρ x)) with
   | none=>simp [h1,h2]at hc
   | some y8 =>
    simp [h1,h2]at hc;subst hc;have ih:=dX hs h.2 h2;refine ⟨by simpa using ih.1,λ j c' v hj hv => ?_⟩;cases j with
    | zero =>
     simp at hj hv;subst hj hv;exact Jx (hs x y h.1) h1
    | succ j=>exact ih.2 j c' v (by simpa using hj) (by simpa using hv)
 | [],_::_,_,h,_=>by simp [DC]at h
 | _::_,[],_,h,_=>by simp [DC]at h
theorem tF (hm:BD B S w0 m) (hs:B3 B S m ρ a.eval) {p:Bool} {f:Nat} {k9:List AM} (h:A6 P num o.op (.jb p f k9)=true) {cs:List AV} (hc:k9.mapM (λ x=>FQ (ρ x))=some cs) :
  B8 B S w0 P o a m (.val (.fn (p&&cs.isEmpty) f (num f) cs)):=by
 obtain ⟨first,xs,j5,rfl,he⟩:=yU h;have n0:=dX hs he hc;have bk:(xs.map a.eval)=(xs.toList.map a.eval).toArray:=by cases xs;simp
 refine DJ hm (u := .func (.func (num f)) #[] (xs.toList.map a.eval).toArray) ?_ (.ca (.fn (p&&cs.isEmpty) f (num f) cs _ (λ h=>by simpa using (Bool.and_eq_true _ _ ▸ h:p=true/\cs.isEmpty=true).2) n0));simp [execOp,j5,Instr.makeFunc,bk]
end
end Go.c8

namespace Go.c8
open Go.RowKit
section
variable {B:Nat} {S:Nat->Prop} {w0:World} {m:M}
variable {P:Program} {num:Nat->Nat} {o:Oper} {a:Act} {ρ:AM->AV}
theorem PY {cs:List AV} {vs:List Value} (h:CL B S m cs vs) {j:Nat} {c:AV} (hj:cs[j]? = some c) : ∃ u,vs[j]? = some u/\CC B S m c u:=by
 have k6:j<cs.length:=(zS hj).1;have mu:j<vs.length:=by rw[<-h.1];exact k6
 exact ⟨vs[j],zE mu,h.2 j c _ hj (zE mu)⟩
theorem Jq {s:Nat} {b:C6} {w':World} {g:Nat}:CV B S ⟨e6 m s (some g),m.own.put s ((m.own s).new b),w'⟩ (.ptr s (m.own.c9 s) 0 0) (.pointer (some ⟨g,0,none⟩)):=by
 refine .ca (.one (.ptr s (m.own.c9 s) 0 0 ⟨g,0,none⟩ ?_ λ b' j4=>⟨g,?_,by simp⟩))
 ·show _<AE.c9 _ s
  rw[JA];simp
 ·simp [e6]
theorem dE (hm:BD B S w0 m) (s:Nat) (cs:List AV) (vs:Array Value) (e:TypeId) (hc:CL B S m cs vs.toList) (h:(execOp a.eval o).run P m.w = .ok (.value (.pointer (some ⟨m.w.heap.size,0,none⟩))) (m.w.alloc (.cells vs e))) :
  B8 B S w0 P o a m (.new s ⟨cs.length,[cs]⟩ (λ t => .ptr s t 0 0)):=by
 intro K Q hK;obtain ⟨h1,h2⟩:=WF hm s ⟨cs.length,[cs]⟩ vs e (by simp) (λ i y8 hi j c hj=>by
  cases i with
  | zero =>
   obtain rfl:cs=y8:=by simpa using hi
   obtain ⟨u,hu,q7⟩:=PY hc hj;exact ⟨u,by simpa using hu,q7⟩
  | succ i=>simp at hi)
 exact M6 h (hK _ ⟨e6 m s (some m.w.heap.size),m.own.put s ((m.own s).new ⟨cs.length,[cs]⟩),m.w.alloc (.cells vs e)⟩ rfl h1 h2 Jq)
theorem sJ (hm:BD B S w0 m) (hs:B3 B S m ρ a.eval) {s:Nat} {x':AM} (h:A6 P num o.op (.box s x')=true) {cs:List AV} (hc:cellsOf (ρ x')=some cs) :
  B8 B S w0 P o a m (.new s ⟨cs.length,[cs]⟩ (λ t => .ptr s t 0 0)):=by
 obtain ⟨t,x,j5,h1⟩:=yH h;exact dE hm s cs (a.eval x).cells t (T5 (hs x x' h1) hc) (by simp [execOp,j5,Instr.box,newVar,newRow])
theorem sE (hm:BD B S w0 m) {s:Nat} {z:List AV} (h:A6 P num o.op (.alloc s z)=true):B8 B S w0 P o a m (.new s ⟨z.length,[z]⟩ (λ t => .ptr s t 0 0)):=by
 obtain ⟨t,j5,h1⟩:=yE h;obtain ⟨i,v,hi,hz,he⟩:=aF h1;exact dE hm s z v.cells t (P4 he) (by simp [execOp,j5,Instr.alloc,zeroValue,typeInfo,hi,hz,newVar,newRow])
theorem X2 (off:Nat) : ∀ (vs:List Value) (k:Nat) (cells:Array Value),off+k+vs.length<=cells.size ->
  ((vs.zipIdx k).foldl (λ cs (x:Value × Nat)=>cs.setIfInBounds (off+x.2) x.1) cells).toList=cells.toList.take (off+k)++vs++cells.toList.drop (off+k+vs.length)
 | [],k,cells,_=>by simp
 | v::r,k,cells,h=>by
  simp only[List.length_cons]at h;rw[List.zipIdx_cons,List.foldl_cons,X2 off r (k+1) _ (by simp;omega)];simp only[Array.toList_setIfInBounds,List.length_cons];apply List.ext_getElem?;intro q;have e1:(cells.toList.set (off+k) v).drop (off+(k+1)+r.length)=cells.toList.drop (off+k+(r.length+1)):=by
   rw[show off+(k+1)+r.length=off+k+(r.length+1) by omega];exact List.drop_set_of_lt (by omega)
  have e2:(cells.toList.set (off+k) v).take (off+(k+1))=cells.toList.take (off+k)++[v]:=by
   rw[show off+(k+1)=off+k+1 by omega,List.take_succ_eq_append_getElem (by simp;omega)];simp [List.take_set_of_le]
  rw[e1,e2];simp
theorem XU (place:Nat->Option (Nat × Nat)) (hs:B3 B S m ρ a.eval) : ∀ (ps:List (Nat × Operand)) (y7:List (Nat × Nat × AM)) (cs y8:List AV) (vs:Array Value),O6 place ps y7=true->CL B S m cs vs.toList ->
  fill cs (y7.map λ p=>(p.1,p.2.1,ρ p.2.2))=some y8 -> ∃ v7,Instr.fill place vs (ps.map λ p=>(p.1,a.eval p.2))=some v7/\CL B S m y8 v7.toList
 | [],[],cs,y8,vs,_,hc,hf=>by
  simp [fill]at hf;subst hf;exact ⟨vs,rfl,hc⟩
 | (i,x)::r,(off,n,y)::l,cs,y8,vs,hp,hc,hf=>by
  simp only[O6,Bool.and_eq_true,beq_iff_eq]at hp;obtain ⟨⟨Dr,Ds⟩,Oy⟩:=hp;simp only[List.map_cons,fill]at hf;cases hcell:cellsOf (ρ y) with
  | none=>simp [hcell]at hf
  | some us =>
   simp only[hcell]at hf;split at hf
   ·rename_i hn
    obtain ⟨Oq,Dh⟩:=hn;have bg:=T5 (hs x y Ds) hcell;have o8:(a.eval x).cells.size=n:=by rw[<-Oq,bg.1];simp
    have tv:off+(a.eval x).cells.size<=vs.size:=by rw[o8];have:=hc.1;simp at this;omega
    have ml:=X2 off (a.eval x).cells.toList 0 vs (by simpa using tv);have yy:Instr.fill place vs (((i,x)::r).map λ p=>(p.1,a.eval p.2))=Instr.fill place ((a.eval x).cells.zipIdx.foldl (λ cs (c,j)=>cs.setIfInBounds (off+j) c) vs) (r.map λ p=>(p.1,a.eval p.2)):=by
     simp only[List.map_cons,Instr.fill,Dr];rw[if_neg (by simp;omega)]
    rw[yy];refine XU place hs r l (splice cs off us) y8 _ Oy ?_ hf;have hz:((a.eval x).cells.zipIdx.foldl (λ cs (c,j)=>cs.setIfInBounds (off+j) c) vs).toList=vs.toList.take off++(a.eval x).cells.toList++vs.toList.drop (off+(a.eval x).cells.toList.length):=by
     rw[<-Array.foldl_toList];simpa using ml
    rw[hz];unfold splice;refine ⟨?_,λ j c v hj hv => ?_⟩
    ·have:=hc.1;have:=bg.1;simp at *;omega
    ·have fo:=hc.1
     have da:=bg.1;simp only[Array.length_toList]at fo da;rw[List.getElem?_append]at hj hv;simp only[List.length_append,List.length_take,Array.length_toList]at hj hv;rw[List.getElem?_append]at hj hv;simp only[List.length_take,Array.length_toList]at hj hv;have iw:min off cs.length=off:=by omega
     have ep:min off vs.size=off:=by omega
     rw[iw]at hj;rw[ep]at hv;rw[<-da]at hv;split at hj
     ·rename_i h1
      rw[if_pos h1]at hv;split at hj
      ·rename_i h2
       rw[if_pos h2]at hv;rw[List.getElem?_take]at hj hv;rw[if_pos h2]at hj hv;exact hc.2 j c v hj hv
      ·rename_i h2
       rw[if_neg h2]at hv;exact bg.2 _ c v hj hv
     ·rename_i h1
      rw[if_neg h1]at hv;rw[List.getElem?_drop]at hj hv;exact hc.2 _ c v hj hv
   ·cases hf
 | [],_::_,_,_,_,hp,_,_=>by simp [O6]at hp
 | _::_,[],_,_,_,hp,_,_=>by simp [O6]at hp
theorem sL (hm:BD B S w0 m) (hs:B3 B S m ρ a.eval) {z:List AV} {y7:List (Nat × Nat × AM)} (h:A6 P num o.op (.build z y7)=true) {cs:List AV} (hf:fill z (y7.map λ p=>(p.1,p.2.1,ρ p.2.2))=some cs) :
  B8 B S w0 P o a m (.val (.agg cs)):=by
 obtain ⟨t,ps,j5,h1,h2⟩:=yJ h;obtain ⟨i,v,hi,hz,he⟩:=aF h1;have key : ∃ v7,P.built t (ps.map λ p=>(p.1,a.eval p.2)).toList=some v7/\CL B S m cs v7.toList:=by
  unfold WM at h2;unfold Program.built;split at h2
  ·rename_i fs hu
   split at h2
   ·rename_i places hp
    obtain ⟨v7,h3,h4⟩:=XU _ hs ps.toList y7 z cs v.cells h2 (P4 he) hf;refine ⟨v7,?_,h4⟩;simp only[hi,hu,hz,hp,Array.toList_map];exact h3
   ·cases h2
  ·rename_i n e hu
   split at h2
   ·rename_i ie Cu
    obtain ⟨v7,h3,h4⟩:=XU _ hs ps.toList y7 z cs v.cells h2 (P4 he) hf;refine ⟨v7,?_,h4⟩;simp only[hi,hu,hz,Cu,Array.toList_map];exact h3
   ·cases h2
  ·cases h2
 obtain ⟨v7,h3,h4⟩:=key;refine DJ hm (u := .agg v7) ?_ (.ca (by simpa using CA.agg cs v7.toList h4));simp only[execOp,j5,Sem.run_bind];rw[run_build m.w t _ v7 h3];rfl
theorem fY (size:Nat) (hs:B3 B S m ρ a.eval) : ∀ (ps:List (Nat × Operand)) (y7:List AM) (k:Nat) (es:List (List AV)) (vs:Array Value),OO k ps y7=true->y7.mapM (λ x=>cellsOf (ρ x))=some es->(∀ e∈es,e.length=size)->vs.size=(k+y7.length)*size ->
  ∃ v7,Instr.fill (λ i=>some (i*size,size)) vs (ps.map λ p=>(p.1,a.eval p.2))=some v7/\v7.size=vs.size/\(∀ q,q<k*size->v7[q]? = vs[q]?) /\ ∀ i cs,es[i]? = some cs -> ∀ j c,cs[j]? = some c -> ∃ u,v7[(k+i)*size+j]? = some u/\CC B S m c u
 | [],[],k,es,vs,_,cz,_,_=>by
  simp at cz;subst cz;exact ⟨vs,rfl,rfl,λ_ _=>rfl,λ i cs hi=>by simp at hi⟩
 | (i,x)::r,y::l,k,es,vs,he,cz,hz,hv=>by
  simp only[OO,Bool.and_eq_true,beq_iff_eq]at he;obtain ⟨⟨rfl,h1⟩,h2⟩:=he;simp only[List.mapM_cons,Option.bind_eq_bind,Option.pure_def]at cz;cases hcell:cellsOf (ρ y) with
  | none=>simp [hcell]at cz
  | some us =>
   cases x6:l.mapM (λ x=>cellsOf (ρ x)) with
   | none=>simp [hcell,x6]at cz
   | some es' =>
    simp [hcell,x6]at cz;subst cz;have bg:=T5 (hs x y h1) hcell;have Ha:us.length=size:=hz us (by simp);have o8:(a.eval x).cells.size=size:=by rw[<-Ha,bg.1];simp
    simp only[List.length_cons]at hv;have hle:i*size+size<=vs.size:=by rw[hv,show i+(l.length+1)=i+1+l.length by omega,Nat.add_mul,Nat.add_mul];omega
    have ml:=X2 (i*size) (a.eval x).cells.toList 0 vs (by simp [o8];omega);generalize zk:(a.eval x).cells.zipIdx.foldl (λ cs (c,j)=>cs.setIfInBounds (i*size+j) c) vs=wg;have ea:wg.toList=vs.toList.take (i*size)++(a.eval x).cells.toList++vs.toList.drop (i*size+size):=by
     rw[<-zk,<-Array.foldl_toList];simpa [o8] using ml
    have Ap:wg.size=vs.size:=by
     have:=congrArg List.length ea
     simp [o8]at this;omega
    obtain ⟨v7,h3,h4,h5,h6⟩:=fY size hs r l (i+1) es' wg h2 x6 (λ e he=>hz e (by simp [he])) (by rw[Ap,hv];congr 1;omega);refine ⟨v7,?_,h4.trans Ap,λ q hq => ?_,λ i' cs m6 j c hj => ?_⟩
    ·simp only[List.map_cons,Instr.fill]
     rw[if_neg (by simp [o8];omega),zk];exact h3
    ·rw[h5 q (by rw[Nat.add_mul];omega)]
     have:wg.toList[q]? = vs.toList[q]? := by
      rw[ea,List.append_assoc,List.getElem?_append_left (by simp;omega),List.getElem?_take,if_pos hq]
     simpa using this
    ·cases i' with
     | zero =>
      obtain rfl:us=cs:=by simpa using m6
      obtain ⟨u,hu,q7⟩:=PY bg hj;have z9:j<size:=by rw[<-Ha];exact (zS hj).1
      refine ⟨u,?_,q7⟩;rw[Nat.add_zero,h5 _ (by rw[Nat.add_mul];omega)];have:wg.toList[i*size+j]? = some u:=by
       rw[ea,List.append_assoc,List.getElem?_append_right (by simp;omega)];simp only[List.length_take,Array.length_toList,show min (i*size) vs.size=i*size by omega,show i*size+j-i*size=j by omega];rw[List.getElem?_append_left (by simp [o8];omega)];exact hu
      simpa using this
     | succ i' =>
      obtain ⟨u,hu,q7⟩:=h6 i' cs (by simpa using m6) j c hj;exact ⟨u,by rw[show i+(i'+1)=i+1+i' by omega];exact hu,q7⟩
 | [],_::_,_,_,_,he,_,_,_=>by simp [OO]at he
 | _::_,[],_,_,_,he,_,_,_=>by simp [OO]at he
theorem jB {s z n cap:Nat} {es:List (List AV)} {w':World} {g:Nat} {arr:Array Value} {e:TypeId} (hz:0<z) (hn:n<=cap) (hg:w'.heap[g]? = some (.cells arr e (0,0))) (hc:cap*z<=arr.size) :
  CV B S ⟨e6 m s (some g),m.own.put s ((m.own s).new ⟨z,es⟩),w'⟩ (.row s (m.own.c9 s) z 0 n) (.slice (some ⟨g,0,none⟩) n cap):=by
 refine .ca (.one (.row s (m.own.c9 s) z 0 n _ cap ?_ hz hn (λ_=>rfl) λ b' j4=>⟨?_,.inr ⟨g,arr,e,?_,by simp,hg,by simpa using hc⟩⟩))
 ·show _<AE.c9 _ s
  rw[JA];simp
 ·change AE.get _ s _=some b' at j4
  rw[E7,if_pos ⟨rfl,rfl⟩]at j4;obtain rfl:(⟨z,es⟩:C6)=b':=by simpa using j4
  rfl
 ·simp [e6]
theorem dI (hm:BD B S w0 m) (s z n cap:Nat) (es:List (List AV)) (vs:Array Value) (e:TypeId) (ag:0<z) (hn:n<=cap) (o8:cap*z<=vs.size) (hz : ∀ x∈es,x.length=z)
  (hc : ∀ i cs,es[i]? = some cs -> ∀ j c,cs[j]? = some c -> ∃ u,vs[i*z+j]? = some u/\CC B S m c u)
  (h:(execOp a.eval o).run P m.w = .ok (.value (.slice (some ⟨m.w.heap.size,0,none⟩) n cap)) (m.w.alloc (.cells vs e))) :
  B8 B S w0 P o a m (.new s ⟨z,es⟩ (λ t => .row s t z 0 n)):=by
 intro K Q hK;obtain ⟨h1,h2⟩:=WF hm s ⟨z,es⟩ vs e hz hc;exact M6 h (hK _ ⟨e6 m s (some m.w.heap.size),m.own.put s ((m.own s).new ⟨z,es⟩),m.w.alloc (.cells vs e)⟩ rfl h1 h2 (jB ag hn (heap_alloc_new _ _) o8))
theorem sK (hm:BD B S w0 m) (hs:B3 B S m ρ a.eval) {s a4:Nat} {y7:List AM} (h:A6 P num o.op (.b9 s a4 y7)=true) {es:List (List AV)} (cz:y7.mapM (λ x=>cellsOf (ρ x))=some es) (hz : ∀ e∈es,e.length=a4) :
  B8 B S w0 P o a m (.new s ⟨a4,es⟩ (λ t => .row s t a4 0 es.length)):=by
 obtain ⟨t,n,ps,e,i,j5,hu,hi,o8,h0,hn,Ei,y9,hzero⟩:=yI h;have hlen:es.length=n:=by
  rw[hn];clear h y9 hzero hn;induction y7 generalizing es with
  | nil=>simp at cz;subst cz;rfl
  | cons y l ih =>
   simp only[List.mapM_cons,Option.bind_eq_bind,Option.pure_def]at cz;cases hcell:cellsOf (ρ y) with
   | none=>simp [hcell]at cz
   | some us =>
    cases x6:l.mapM (λ x=>cellsOf (ρ x)) with
    | none=>simp [hcell,x6]at cz
    | some es' =>
     simp [hcell,x6]at cz;subst cz;simp [ih x6 (λ e he=>hz e (by simp [he]))]
 obtain ⟨zc,zp⟩ : ∃ zc:Array Value,(n*a4=0/\zc = #[])\/(¬ n*a4=0 /\ ∃ z,i.zero=some z/\zc=z.cells):=by
  by_cases k7:n*a4=0
  ·exact ⟨#[],.inl ⟨k7,rfl⟩⟩
  ·rcases hzero with qg|⟨z,ea,oc⟩
   ·simp [qg]at k7
   ·exact ⟨z.cells,.inr ⟨k7,z,ea,rfl⟩⟩
 have zr:((Array.range (n*a4)).map (zc[· % zc.size]!)).size=n*a4:=by simp
 obtain ⟨v7,h3,h4,_,h6⟩:=fY a4 hs ps.toList y7 0 es _ y9 cz hz (by rw[zr,hn];simp);have m7:(execOp a.eval o).run P m.w = .ok (.value (.slice (some ⟨m.w.heap.size,0,none⟩) n n)) (m.w.alloc (.cells v7 e)):=by
  simp only[execOp,j5,Instr.buildSlice,Sem.run_bind,run_underlying hu,Result.andThen_ok,sizeOf,typeInfo,run_program,hi,Sem.run_pure,o8];simp only[show ¬ (n*a4>2^24) from by omega,if_false,Sem.run_bind,Sem.run_pure,Result.andThen_ok];rcases zp with ⟨qg,rfl⟩|⟨qg,z,ea,rfl⟩
  ·simp only[qg,if_true,Sem.run_bind,Sem.run_pure,Result.andThen_ok,Array.toList_map]
   rw[qg]at h3;rw[h3];rfl
  ·simp only[qg,if_false,Sem.run_bind,Sem.run_pure,Result.andThen_ok,Array.toList_map,zeroValue,typeInfo,run_program,hi,ea]
   rw[h3];rfl
 rw[hlen];exact dI hm s a4 n n es v7 e (Nat.pos_of_ne_zero h0) (Nat.le_refl _) (by rw[h4,zr];exact Nat.le_refl _) hz (λ i cs m6 j c hj=>by simpa using h6 i cs m6 j c hj) m7
end
end Go.c8
