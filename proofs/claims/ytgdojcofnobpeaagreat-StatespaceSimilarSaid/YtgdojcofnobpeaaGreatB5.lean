/-
  Functions of the program, as the abstract machine reads them (group SimG). Written by a program (gen.py) off the model's own reading of the translation; the seat's check ties them to it.
-/
import Derived.Test.YtgdojcofnobpeaaGreatB1
import Derived.Test.YtgdojcofnobpeaaGreatB4
import Derived.Calls
import Derived.IntWalk
set_option linter.unusedSimpArgs false
set_option linter.unusedVariables false
set_option linter.unnecessarySimpa false
namespace Go.Eng.F
open C
namespace SZ
def r0:=[o 2 (.alloc 2 [(.bool false),.nil,.nil])]
def r1:=[m 3 0,o 4 (.a4 none 3 3 (k 0)),o 5 (.ld true 3 4),n (.st 3 2 5)]
def c:=(s (p r0) (s (d r1 [0,3,4,5]) .ret))
end SZ
def SZ:AFn:=⟨1,SZ.c,[.cell 2 true 3],false⟩
namespace S7
def r0:=[o 4 (.a8 (.c .nil))]
def r1:=[m 8 0,o 9 (.len 8),o 10 (.mk 288010 3 56 [(.bool false),.nil,.nil] 9 9),m 5 10]
def r2:=[m 11 0,o 12 (.len 11),o 13 (.a8 (k 0))]
def r3:=[o 14 (.bin .lss 13 12)]
def r4:=[m 15 13,o 16 (.a4 none 1 11 13),o 17 (.ld false 1 16),m 6 15,m 7 17]
def r5:=[m 18 5,m 19 6,m 20 1,m 21 7,o 22 (.n8 20 [21]),o 23 (.a4 none 3 18 19),n (.st 3 23 22)]
def r6:=[o 24 (.bin .add 13 (k 1)),m 13 24]
def r7:=[m 25 5,m 4 25]
def l1:=(s (p r3) (s (i 14 .skip (x 0)) (s (b 1 (s (d r4 [14,15,16,17]) (d r5 [6,7,18,19,20,21,22,23]))) (d r6 [24]))))
def c:=(s (d r0 [4]) (s (d r1 [8,9,10]) (s (s (d r2 [0]) (b 0 (w l1))) (s (d r7 [1,5,11,12,13,14,25]) .ret))))
end S7
def S7:AFn:=⟨2,S7.c,[.tmp 4],false⟩
namespace S5
def r0:=[o 1 (.box 289001 0),o 2 (.a8 (.c .nil))]
def r1:=[o 3 (.ld true 3 1),o 4 (.call 95 [3]),o 5 (.c4 289005 3 [4]),m 2 5]
def c:=(s (d r0 [0,2]) (s (d r1 [1,3,4,5]) .ret))
end S5
def S5:AFn:=⟨1,S5.c,[.tmp 2],false⟩
namespace S8
def r0:=[o 4 (.a8 (.c .nil))]
def r1:=[m 8 0,o 9 (.len 8),o 10 (.mk 290010 1 24 [.nil] 9 9),m 5 10]
def r2:=[m 11 0,o 12 (.len 11),o 13 (.a8 (k 0))]
def r3:=[o 14 (.bin .lss 13 12)]
def r4:=[m 15 13,o 16 (.a4 none 3 11 13),o 17 (.ld true 3 16),o 7 (.alloc 290007 [(.bool false),.nil,.nil]),m 6 15,n (.st 3 7 17)]
def r5:=[m 18 5,m 19 6,m 20 1,o 21 (.ld true 3 7),o 22 (.n8 20 [21]),o 23 (.a4 none 1 18 19),n (.st 1 23 22)]
def r6:=[o 24 (.bin .add 13 (k 1)),m 13 24]
def r7:=[m 25 5,m 4 25]
def l1:=(s (p r3) (s (i 14 .skip (x 0)) (s (b 1 (s (d r4 [14,15,16,17]) (d r5 [6,7,18,19,20,21,22,23]))) (d r6 [24]))))
def c:=(s (d r0 [4]) (s (d r1 [8,9,10]) (s (s (d r2 [0]) (b 0 (w l1))) (s (d r7 [1,5,11,12,13,14,25]) .ret))))
end S8
def S8:AFn:=⟨2,S8.c,[.tmp 4],false⟩
namespace S4
def r0:=[o 2 (.a8 (.c .nil))]
def r1:=[m 3 0,o 4 (.c8 290 [3,(.c (.fn false 289 55 []))]),m 2 4]
def c:=(s (d r0 [2]) (s (d r1 [0,3,4]) .ret))
end S4
def S4:AFn:=⟨1,S4.c,[.tmp 2],false⟩
namespace SY
def r0:=[o 2 (.box 2 0),o 4 (.alloc 4 [.nil,.nil,.nil,(.bool false),.nil,.nil]),o 5 (.a8 (k 0))]
def r1:=[o 20 (.ld true 6 2),o 21 (.call 281 [20]),o 22 (.un .not 21)]
def r2:=[o 23 (.build [.nil,.nil,.nil,(.bool false),.nil,.nil] []),n (.st 6 4 23),o 5 (.a8 (k 2))]
def r3:=[o 24 (.a7 2 0),o 25 (.ld false 1 24),o 26 (.len 25),m 6 26]
def r4:=[m 27 1,o 28 (.len 27),m 29 6,o 30 (.bin .neq 28 29)]
def r5:=[o 31 (.build [.nil,.nil,.nil,(.bool false),.nil,.nil] []),n (.st 6 4 31),o 5 (.a8 (k 1))]
def r6:=[m 32 1,o 33 (.len 32),o 34 (.a8 (k 0))]
def r7:=[o 35 (.bin .lss 34 33)]
def r8:=[o 36 (.a4 none 1 32 34),o 37 (.ld false 1 36),m 8 37]
def r9:=[m 38 8,o 39 (.len 38),m 40 6,o 41 (.bin .neq 39 40)]
def DQ:=[o 42 (.build [.nil,.nil,.nil,(.bool false),.nil,.nil] []),n (.st 6 4 42),o 5 (.a8 (k 1))]
def DW:=[o 43 (.bin .add 34 (k 1)),m 34 43]
def q6:=[m 44 6,o 45 (.bin .eql 44 (k 0))]
def EJ:=[o 46 (.a7 2 3),o 47 (.ld true 3 46),o 48 (.call 95 [47]),o 49 (.build [.nil,.nil,.nil,(.bool false),.nil,.nil] [(3,3,48)]),n (.st 6 4 49),
 o 5 (.a8 (k 0))]
def v3:=[m 51 1,o 52 (.call 238 [51]),m 50 52,o 53 (.ext 50 0),o 54 (.ext 50 1),m 9 53,m 10 54]
def v5:=[m 55 10,o 56 (.bin .neq 55 (k 0))]
def x7:=[o 57 (.build [.nil,.nil,.nil,(.bool false),.nil,.nil] []),m 58 10,n (.st 6 4 57),m 5 58]
def GQ:=[m 60 1,o 61 (.a7 2 0),o 62 (.ld false 1 61),o 63 (.call 248 [60,62]),m 59 63,o 64 (.ext 59 0),o 65 (.ext 59 1),m 11 64,m 12 65]
def x8:=[m 67 11,m 68 9,o 69 (.call 248 [67,68]),m 66 69,o 70 (.ext 66 0),o 71 (.ext 66 1),m 13 70,m 14 71]
def r19:=[m 73 1,o 74 (.a7 2 1),o 75 (.ld false 1 74),o 76 (.call 291 [75]),o 77 (.call 248 [73,76]),m 72 77,o 78 (.ext 72 0),o 79 (.ext 72 1),m 15 78,
 m 16 79]
def bg:=[o 81 (.a7 2 2),o 82 (.ld false 1 81),o 83 (.c4 83 1 [82]),m 84 9,o 85 (.call 248 [83,84]),m 80 85,o 86 (.ext 80 0),o 87 (.ext 80 1),m 17 86,
 m 18 87]
def da:=[m 88 15,o 89 (.c8 288 [88,(.c (.fn true 287 20 []))]),m 19 89]
def de:=[m 90 13,m 91 19,m 92 17,o 93 (.a4 none 1 92 (k 0)),o 94 (.ld false 1 93),o 95 (.a7 2 3),o 96 (.ld true 3 95),o 97 (.call 95 [96]),
 o 98 (.build [.nil,.nil,.nil,(.bool false),.nil,.nil] [(0,1,90),(1,1,91),(2,1,94),(3,3,97)]),n (.st 6 4 98),o 5 (.a8 (k 0))]
def l1:=(s (p r7) (s (i 35 .skip (x 0)) (s (b 1 (s (d r8 [35,36,37]) (s (d r9 [8,38,39,40]) (i 41 (s (d DQ [1,2,6,32,33,34,41,42]) .ret) .skip)))) (d DW [41,43]))))
def c:=(s (d r0 [0,5]) (s (s (d r1 [20,21]) (i 22 (s (d r2 [1,2,22,23]) .ret) .skip)) (s (d r3 [22,24,25,26]) (s (s (d r4 [27,28,29]) (i 30 (s (d r5 [1,2,6,30,31]) .ret) .skip)) (s (s (d r6 [30]) (b 0 (w l1))) (s (s (d q6 [6,32,33,34,35,44]) (i 45 (s (d EJ [1,2,45,46,47,48,49]) .ret) .skip)) (s (d v3 [45,50,51,52,53,54]) (s (s (d v5 [55]) (i 56 (s (d x7 [1,2,9,10,56,57,58]) .ret) .skip)) (s (d GQ [10,12,56,59,60,61,62,63,64,65]) (s (d x8 [11,14,66,67,68,69,70,71]) (s (d r19 [1,16,72,73,74,75,76,77,78,79]) (s (d bg [9,18,80,81,82,83,84,85,86,87]) (s (d da [15,88,89]) (s (e de [2,13,17,19,90,91,92,93,94,95,96,97,98]) .ret))))))))))))))
end SY
def SY:AFn:=⟨2,SY.c,[.cell 4 true 6,.tmp 5],false⟩
namespace MY
def r0:=[o 6 (.a8 (.c (.bool false)))]
def r1:=[m 18 2,o 19 (.call 34 [18,(k 4)]),m 7 19]
def r2:=[m 20 0,m 21 7,o 22 (.call 142 [20,21]),m 23 1,m 24 7,o 25 (.call 280 [23,24]),o 8 (.alloc 8 [.nil,.nil,.nil,(.bool false),.nil,.nil]),
 n (.st 6 8 22),m 9 25]
def r3:=[o 27 (.ld true 6 8),m 28 9,o 29 (.call 292 [27,28]),m 26 29,o 30 (.ext 26 0),o 31 (.ext 26 1),
 o 10 (.alloc 10 [.nil,.nil,.nil,(.bool false),.nil,.nil]),n (.st 6 10 30),m 11 31]
def r4:=[o 33 (.ld true 6 8),m 34 9,o 35 (.call 285 [33,34]),m 32 35,o 36 (.ext 32 0),o 37 (.ext 32 1),
 o 12 (.alloc 12 [.nil,.nil,.nil,(.bool false),.nil,.nil]),n (.st 6 12 36),m 13 37]
def r5:=[m 38 11,m 39 13,o 40 (.bin .neq 38 39),m 41 40,g 42 41 false (.ld true 6 10),g 43 41 false (.ld true 6 12),g 44 41 false (.call 167 [42,43]),
 g 45 41 false (.un .not 44),g 46 41 false (.a8 45),g 47 46 true (.a8 11),g 48 46 true (.bin .eql 47 (k 0)),
 g 49 41 false (.pick 46 48 (.c (.bool false))),o 50 (.pick 41 (.c (.bool true)) 49)]
def r6:=[o 6 (.a8 (.c (.bool false)))]
def r7:=[m 51 11,o 52 (.bin .neq 51 (k 0))]
def r8:=[o 53 (.call 215 []),m 54 53,g 55 54 true (.a8 11),g 56 54 true (.bin .eql 55 (k 11)),o 57 (.pick 54 56 (.c (.bool false))),m 6 57]
def r9:=[o 59 (.ld true 6 8),o 60 (.call 189 [59]),m 58 60,o 61 (.ext 58 0),o 62 (.ext 58 1),o 14 (.alloc 14 [.nil,.nil]),n (.st 2 14 61),m 15 62]
def DQ:=[o 64 (.ld true 6 10),o 65 (.call 189 [64]),m 63 65,o 66 (.ext 63 0),o 67 (.ext 63 1),o 16 (.alloc 16 [.nil,.nil]),n (.st 2 16 66),m 17 67]
def DW:=[o 68 (.call 215 []),m 69 68,g 70 69 true (.a8 15),g 71 69 true (.bin .eql 70 (k 0)),o 72 (.pick 69 71 (.c (.bool false))),m 73 72,g 74 73 true (.a8 17),
 g 75 73 true (.bin .eql 74 (k 0)),o 76 (.pick 73 75 (.c (.bool false))),m 77 76,g 78 77 true (.ld true 2 14),g 79 77 true (.ld true 2 16),
 g 80 77 true (.call 176 [78,79]),o 81 (.pick 77 80 (.c (.bool false))),m 6 81]
def c:=(s (d r0 [6]) (s (d r1 [2,18,19]) (s (d r2 [0,1,7,20,21,22,23,24,25]) (s (d r3 [26,27,28,29,30,31]) (s (d r4 [9,32,33,34,35,36,37]) (s (s (d r5 [12,13,38,39,40,41,42,43,44,45,46,47,48,49]) (i 50 (s (d r6 [8,10,11,50]) .ret) .skip)) (s (s (d r7 [50,51]) (i 52 (s (d r8 [8,10,11,52,53,54,55,56,57]) .ret) .skip)) (s (d r9 [8,11,52,58,59,60,61,62]) (s (d DQ [10,63,64,65,66,67]) (s (d DW [14,15,16,17,68,69,70,71,72,73,74,75,76,77,78,79,80,81]) .ret))))))))))
end MY
def MY:AFn:=⟨3,MY.c,[.tmp 6],false⟩
structure SimGLib (L:Lib):Prop extends EquGLib L,MatHLib L where
 SZ:L 287=some F.SZ
 S7:L 288=some F.S7
 S5:L 289=some F.S5
 S8:L 290=some F.S8
 S4:L 291=some F.S4
 SY:L 292=some F.SY
 MY:L 293=some F.MY
end Go.Eng.F
namespace Go.Eng
abbrev BB:Nat:=4294967296
@[irreducible] def HC (a b : Nat) : Nat := (a + 18446744073709551616 - b) % 18446744073709551616
theorem YU (a b:Nat):HC a b=(a+18446744073709551616-b)%18446744073709551616:=by unfold HC;rfl
def val:List Nat->Nat
 | []=>0
 | d::l=>d+4294967296*val l
def CP (l:List Nat):Prop := ∀ d∈l,d<4294967296
def dg (n:Nat):List Nat:=if h:n=0 then [] else n%4294967296::dg (n/4294967296)
termination_by n
decreasing_by omega
theorem HR:dg 0=[]:=by rw[dg];simp
theorem L5 {n:Nat} (h:n≠0):dg n=n%4294967296::dg (n/4294967296):=by rw[dg];simp [h]
theorem L0:val []=0:=rfl
theorem VO (d:Nat) (l:List Nat):val (d::l)=d+4294967296*val l:=rfl
theorem DN (n:Nat):val (dg n)=n:=by
 induction n using Nat.strongRecOn with
 | ind n ih =>
  by_cases h:n=0
  ·subst h;rw[HR];rfl
  ·rw[L5 h,VO,ih _ (by omega)]
   omega
theorem GP (n:Nat):CP (dg n):=by
 induction n using Nat.strongRecOn with
 | ind n ih =>
  by_cases h:n=0
  ·subst h;rw[HR];intro d hd;cases hd
  ·rw[L5 h]
   intro d hd;rcases List.mem_cons.1 hd with rfl|hd
   ·omega
   ·exact ih _ (by omega) d hd
theorem CP.tail {d:Nat} {l:List Nat} (h:CP (d::l)):CP l:=λ x hx=>h x (List.mem_cons_of_mem _ hx)
theorem CP.head {d:Nat} {l:List Nat} (h:CP (d::l)):d<4294967296:=h d List.mem_cons_self
theorem CP.at {l:List Nat} (h:CP l) {i d:Nat} (hd:l[i]? = some d):d<4294967296:=h d (zM hd)
theorem CP.take {l:List Nat} (h:CP l) (n:Nat):CP (l.take n):=λ x hx=>h x (List.mem_of_mem_take hx)
theorem CP.drop {l:List Nat} (h:CP l) (n:Nat):CP (l.drop n):=λ x hx=>h x (List.mem_of_mem_drop hx)
theorem T3:CP []:=λ_ h=>by cases h
theorem CP.append {a b:List Nat} (h:CP a) (h':CP b):CP (a++b):=λ x hx=>(List.mem_append.1 hx).elim (h x) (h' x)
theorem KN {d:Nat} (h:d<4294967296):CP [d]:=λ x hx=>by simp at hx;omega
theorem CP.set {l:List Nat} (h:CP l) (i:Nat) {d:Nat} (hd:d<4294967296):CP (l.set i d):=λ x hx=>by
 rcases List.mem_or_eq_of_mem_set hx with h1|h1
 ·exact h x h1
 ·omega
theorem MB (n:Nat):CP (List.replicate n 0):=λ x hx=>by rw[(List.mem_replicate.1 hx).2];omega
theorem aE (a b:List Nat):val (a++b)=val a+4294967296^a.length*val b:=by
 induction a with
 | nil=>simp [val]
 | cons d l ih=>rw[List.cons_append,VO,VO,ih,List.length_cons,Nat.pow_succ];grind
theorem TF (l:List Nat) (v:Nat):val (l++[v])=val l+4294967296^l.length*v:=by
 rw[aE];simp [val]
theorem HS {l:List Nat} (h:CP l):val l<4294967296^l.length:=by
 induction l with
 | nil=>simp [val]
 | cons d l ih =>
  have h1:=ih h.tail;have h2:=h.head;rw[VO,List.length_cons,Nat.pow_succ];omega
theorem GR {l:List Nat} {i v:Nat} (h:l[i]? = some v):val (l.take (i+1))=val (l.take i)+4294967296^i*v:=by
 have hi:=(zS h).1;rw[List.take_add_one,h,Option.toList_some,TF,List.length_take,Nat.min_eq_left (by omega)]
theorem NL (l:List Nat) (i:Nat) (h:i<=l.length):val l=val (l.take i)+4294967296^i*val (l.drop i):=by
 have:=aE (l.take i) (l.drop i)
 rw[List.take_append_drop,List.length_take,Nat.min_eq_left h]at this;exact this
theorem kB (n:Nat):val (List.replicate n 0)=0:=by
 induction n with
 | zero=>rfl
 | succ n ih=>rw[List.replicate_succ,VO,ih]
theorem Qm {l:List Nat} (h:CP l) (ht:l=[] \/ ∃ d,l[l.length-1]? = some d/\d≠0):dg (val l)=l:=by
 induction l with
 | nil=>exact HR
 | cons d l ih =>
  have h1:=h.head;by_cases hl:l=[]
  ·subst hl
   rcases ht with ht|⟨x,hx,hx0⟩
   ·cases ht
   ·simp at hx
    subst hx;rw[VO,L0,L5 (by omega),show (d+4294967296*0)/4294967296=0 by omega,HR,show (d+4294967296*0)%4294967296=d by omega]
  ·have ic : ∃ x,l[l.length-1]? = some x/\x≠0:=by
    rcases ht with ht|⟨x,hx,hx0⟩
    ·cases ht
    ·refine ⟨x,?_,hx0⟩
     have:l.length≠0:=λ e=>hl (List.eq_nil_of_length_eq_zero e)
     rw[List.length_cons,show l.length+1-1=(l.length-1)+1 by omega,List.getElem?_cons_succ]at hx;exact hx
   have Bw:=ih h.tail (Or.inr ic);have vo:val l≠0:=by
    intro e;rw[e,HR]at Bw;exact hl Bw.symm
   rw[VO,L5 (by omega),show (d+4294967296*val l)/4294967296=val l by omega,Bw,show (d+4294967296*val l)%4294967296=d by omega]
theorem JC {l:List Nat} (h:CP l) {n:Nat} (hn:n<=l.length) (hz : ∀ i,n<=i->i<l.length->l[i]? = some 0) (ht:n=0 \/ ∃ d,l[n-1]? = some d/\d≠0):l.take n=dg (val l):=by
 have hv:val l=val (l.take n):=by
  have h0:l.drop n=List.replicate (l.length-n) 0:=by
   apply List.ext_getElem?;intro i;rw[List.getElem?_drop,List.getElem?_replicate];by_cases hi:n+i<l.length
   ·rw[hz (n+i) (by omega) hi,if_pos (by omega)]
   ·rw[List.getElem?_eq_none (by omega),if_neg (by omega)]
  rw[NL l n hn,h0,kB];omega
 rw[hv];refine (Qm (h.take n) ?_).symm;rcases ht with rfl|⟨d,hd,nk⟩
 ·exact Or.inl (by simp)
 ·have l6:=(zS hd).1
  by_cases pd:n=0
  ·subst pd;exact Or.inl (by simp)
  ·refine Or.inr ⟨d,?_,nk⟩
   rw[List.length_take,Nat.min_eq_left hn,List.getElem?_take,if_pos (by omega)];exact hd
theorem TZ {n k:Nat}:(dg n).length<=k↔n<4294967296^k:=by
 induction k generalizing n with
 | zero =>
  by_cases h:n=0
  ·subst h;simp [HR]
  ·rw[L5 h];simp;omega
 | succ k ih =>
  by_cases h:n=0
  ·subst h;simp [HR];exact Nat.pos_of_ne_zero (by simp)
  ·rw[L5 h,List.length_cons,Nat.succ_le_succ_iff,ih,Nat.pow_succ]
   rw[Nat.div_lt_iff_lt_mul (by omega)]
theorem HL {l:List Nat} (h:CP l):(dg (val l)).length<=l.length:=TZ.2 (HS h)
theorem lP {n:Nat} (h:n≠0) : ∃ d,(dg n)[(dg n).length-1]? = some d/\d≠0:=by
 induction n using Nat.strongRecOn with
 | ind n ih =>
  rw[L5 h];by_cases h2:n/4294967296=0
  ·rw[h2,HR]
   exact ⟨n%4294967296,by simp,by omega⟩
  ·obtain ⟨d,hd,nk⟩:=ih _ (by omega) h2
   refine ⟨d,?_,nk⟩;have hl:(dg (n/4294967296)).length≠0:=λ e=>by rw[List.eq_nil_of_length_eq_zero e]at hd;simp at hd
   rw[List.length_cons,show (dg (n/4294967296)).length+1-1=(dg (n/4294967296)).length-1+1 by omega,List.getElem?_cons_succ];exact hd
theorem lN {n:Nat}:dg n=[]↔n=0:=by
 constructor
 ·intro h
  by_cases h0:n=0
  ·exact h0
  ·rw[L5 h0]at h;cases h
 ·rintro rfl;exact HR
theorem bP {n:Nat} (h:n≠0):1<=(dg n).length:=by rw[L5 h];simp
theorem AkG {o:List Nat} {i v:Nat} (h:i<o.length):(o.set i v).take (i+1)=o.take i++[v]:=by
 rw[List.take_add_one,List.getElem?_set_self h,List.take_set_of_le (Nat.le_refl i)];rfl
theorem I2 {o:List Nat} {i v:Nat} (h:i<o.length):val ((o.set i v).take (i+1))=val (o.take i)+4294967296^i*v:=by
 rw[AkG h,TF,List.length_take,Nat.min_eq_left (by omega)]
theorem UR (V p t:Nat):V+p*(t%4294967296)+p*4294967296*(t/4294967296)=V+p*t:=by
 have h:=Nat.mod_add_div t 4294967296;have:p*(t%4294967296)+p*4294967296*(t/4294967296)=p*t:=by
  rw[Nat.mul_assoc,<-Nat.mul_add,h]
 omega
theorem FL {l:List Nat} {n:Nat} (h:l.length<=n):val (l.take n)=val l:=by rw[List.take_of_length_le h]
theorem Fm (i:Nat):1<=4294967296^i:=Nat.pos_of_ne_zero (by simp)
theorem KF {l:List Nat} {i d:Nat} (h:l[i]? = some d):val (l.drop i)=d+4294967296*val (l.drop (i+1)):=by
 obtain ⟨hi,rfl⟩:=zS h;rw[List.drop_eq_getElem_cons hi,VO]
theorem jV {a b:List Nat} (ha:CP a) (hb:CP b) (hl:a.length=b.length) {i:Nat} {x y:Nat} (hx:a[i]? = some x) (hy:b[i]? = some y) (he:a.drop (i+1)=b.drop (i+1)) (h:x<y):val a<val b:=by
 have hia:=(zS hx).1;have hib:=(zS hy).1;rw[NL a i (by omega),NL b i (by omega),KF hx,KF hy,he];have h1:=HS (ha.take i);rw[List.length_take,Nat.min_eq_left (by omega)]at h1;generalize val (b.drop (i+1))=r;generalize 4294967296^i=p at *;have:p*(x+4294967296*r)+p<=p*(y+4294967296*r):=by
  rw[<-Nat.mul_succ];exact Nat.mul_le_mul_left p (by omega)
 omega
theorem jX {o:List Nat} {k v old:Nat} (h:o[k]? = some old):val (o.set k v)+4294967296^k*old=val o+4294967296^k*v:=by
 have hk:=(zS h).1;have h1:val (o.set k v)=val (o.take k)+4294967296^k*(v+4294967296*val (o.drop (k+1))):=by
  rw[NL (o.set k v) k (by simp;omega),List.take_set_of_le (Nat.le_refl k),KF (l:=o.set k v) (d:=v) (by rw[List.getElem?_set_self hk]),List.drop_set_of_lt (by omega)]
 have h2:val o=val (o.take k)+4294967296^k*(old+4294967296*val (o.drop (k+1))):=by
  rw[NL o k (by omega),KF h]
 rw[h1,h2,Nat.mul_add,Nat.mul_add];omega
theorem dR {l:List Nat} (h:CP l):l.take (dg (val l)).length=dg (val l):=by
 induction l with
 | nil=>rw[L0,HR];rfl
 | cons d l ih =>
  have h1:=h.head;by_cases h0:val (d::l)=0
  ·rw[h0,HR];rfl
  ·rw[L5 h0,VO,show (d+4294967296*val l)/4294967296=val l by omega,show (d+4294967296*val l)%4294967296=d by omega,List.length_cons,List.take_succ_cons,ih h.tail]
theorem aF {a b:Nat} (h:(dg a).length<(dg b).length):a<b:=by
 have h1:a<4294967296^(dg a).length:=TZ.1 (Nat.le_refl _);have h2 : ¬ b<4294967296^((dg b).length-1):=λ h3=>by have:=TZ.2 h3;omega
 have h3:4294967296^(dg a).length<=4294967296^((dg b).length-1):=Nat.pow_le_pow_right (by omega) (by omega);omega
def kF (a b c d:Int):Prop:=(0<=a/\b<=0/\c<=0/\0<=d)\/(a<=0/\0<=b/\0<=c/\d<=0)
structure WX (P Q a b c d p q:Int):Prop where
 hp:p=a*P+b*Q
 hq:q=c*P+d*Q
 sg:kF a b c d
 pa:0<=p+a
 pb:0<=p+b
 qc:0<=q+c
 qd:0<=q+d
theorem WX.start {P Q:Int} (hP:0<=P) (hQ:0<=Q):WX P Q 1 0 0 1 P Q :=
 ⟨by omega,by omega,Or.inl (by omega),by omega,by omega,by omega,by omega⟩
def aN (P Q a b c d:Int):Prop := ∀ x y K e1 e2:Int,0<K->x=K*P+e1->y=K*Q+e2->0<=e1->e1<=K->0<=e2->e2<=K ->
 0<=c*x+d*y/\c*x+d*y<a*x+b*y/\a*x+b*y<=y/\Int.gcd (a*x+b*y) (c*x+d*y)=Int.gcd x y
def Y5 (P Q a b c d:Int):Prop := ∀ x y K e1 e2:Int,0<K->x=K*P+e1->y=K*Q+e2->0<=e1->e1<=K->0<=e2->e2<=K ->
 c*x+d*y<=y/\Int.gcd (a*x+b*y) (c*x+d*y)=Int.gcd x y
theorem Y5.start (P Q:Int):Y5 P Q 1 0 0 1:=by
 intro x y K e1 e2 _ _ _ _ _ _ _;simp
theorem aN.half {P Q a b c d:Int} (h:aN P Q a b c d):Y5 P Q a b c d:=λ x y K e1 e2 h1 h2 h3 h4 h5 h6 h7=>by
 obtain ⟨g1,g2,g3,g4⟩:=h x y K e1 e2 h1 h2 h3 h4 h5 h6 h7;exact ⟨by omega,g4⟩
theorem Yl (X Y f:Int):Int.gcd Y (X-f*Y)=Int.gcd X Y:=by
 rw[Int.gcd_comm X Y];exact Int.gcd_sub_mul_right_right Y X f
theorem WX.step {P Q a b c d p q f:Int} (h:WX P Q a b c d p q) (hc:q+c≠0) (hd:q+d≠0) (h1:f=(p+a)/(q+c)) (h2:f=(p+b)/(q+d)) :
  WX P Q c d (a-f*c) (b-f*d) q (p-f*q)/\0<=f/\p-f*q<q/\(Y5 P Q a b c d->aN P Q c d (a-f*c) (b-f*d)):=by
 have c0:0<q+c:=by have:=h.qc;omega
 have d0:0<q+d:=by have:=h.qd;omega
 have f0:0<=f:=by rw[h1];exact Int.ediv_nonneg h.pa h.qc
 have m1:p-f*q+(a-f*c)=(p+a)%(q+c):=by
  have:=Int.emod_add_mul_ediv (p+a) (q+c)
  rw[<-h1]at this;grind
 have m2:p-f*q+(b-f*d)=(p+b)%(q+d):=by
  have:=Int.emod_add_mul_ediv (p+b) (q+d)
  rw[<-h2]at this;grind
 have n1:0<=p-f*q+(a-f*c):=by rw[m1];exact Int.emod_nonneg _ hc
 have n2:0<=p-f*q+(b-f*d):=by rw[m2];exact Int.emod_nonneg _ hd
 have n3:p-f*q+(a-f*c)<q+c:=by rw[m1];exact Int.emod_lt_of_pos _ c0
 have n4:p-f*q+(b-f*d)<q+d:=by rw[m2];exact Int.emod_lt_of_pos _ d0
 have ti:p-f*q=(a-f*c)*P+(b-f*d)*Q:=by rw[h.hp,h.hq];grind
 have hsg:kF c d (a-f*c) (b-f*d):=by
  rcases h.sg with ⟨s1,s2,s3,s4⟩|⟨s1,s2,s3,s4⟩
  ·have t1:f*c<=0:=Int.mul_nonpos_of_nonneg_of_nonpos f0 s3
   have t2:0<=f*d:=Int.mul_nonneg f0 s4;exact Or.inr (by omega)
  ·have t1:0<=f*c:=Int.mul_nonneg f0 s3
   have t2:f*d<=0:=Int.mul_nonpos_of_nonneg_of_nonpos f0 s4;exact Or.inl (by omega)
 have l6:p-f*q<q:=by
  rcases hsg with ⟨s1,s2,s3,s4⟩|⟨s1,s2,s3,s4⟩
  ·omega
  ·omega
 refine ⟨⟨h.hq,ti,hsg,h.qc,h.qd,n1,n2⟩,f0,l6,λ hh => ?_⟩;intro x y K e1 e2 hK hx hy a1 a2 b1 b2;obtain ⟨k1,k2⟩:=hh x y K e1 e2 hK hx hy a1 a2 b1 b2;have eY:c*x+d*y=K*q+c*e1+d*e2:=by rw[hx,hy,h.hq];grind
 have eX:(a-f*c)*x+(b-f*d)*y=K*(p-f*q)+(a-f*c)*e1+(b-f*d)*e2:=by rw[hx,hy,ti];grind
 have eS:(a-f*c)*x+(b-f*d)*y=(a*x+b*y)-f*(c*x+d*y):=by grind
 generalize hE:a-f*c=E at *;generalize hG:b-f*d=G at *;generalize tj:p-f*q=q2 at *;have key:0<=E*x+G*y/\E*x+G*y<c*x+d*y:=by
  rw[eX,eY];rcases hsg with ⟨s1,s2,s3,s4⟩|⟨s1,s2,s3,s4⟩
  ·-- c≥0,d<=0,E<=0,G≥0
   have t1:E*K<=E*e1:=Int.mul_le_mul_of_nonpos_left s3 a2;have t2:0<=G*e2:=Int.mul_nonneg s4 b1;have t3:0<=K*(q2+E):=Int.mul_nonneg (by omega) n1;have t4:(G-d)*e2<=(G-d)*K:=Int.mul_le_mul_of_nonneg_left b2 (by omega);have t5:(E-c)*e1<=0:=Int.mul_nonpos_of_nonpos_of_nonneg (by omega) a1;have t6:0<K*((q+d)-(q2+G)):=Int.mul_pos hK (by omega);constructor
   ·grind
   ·grind
  ·have t1:G*K<=G*e2:=Int.mul_le_mul_of_nonpos_left s4 b2
   have t2:0<=E*e1:=Int.mul_nonneg s3 a1;have t3:0<=K*(q2+G):=Int.mul_nonneg (by omega) n2;have t4:(E-c)*e1<=(E-c)*K:=Int.mul_le_mul_of_nonneg_left a2 (by omega);have t5:(G-d)*e2<=0:=Int.mul_nonpos_of_nonpos_of_nonneg (by omega) b1;have t6:0<K*((q+c)-(q2+E)):=Int.mul_pos hK (by omega);constructor
   ·grind
   ·grind
 refine ⟨key.1,key.2,k1,?_⟩;rw[<-k2,eS];exact Yl _ _ _
end Go.Eng

namespace Go.Eng
section
variable {U V UL VL p u0 u1 u2 v1 v2 top q r:Nat}
theorem Ys (hU:U=UL+p*(u2+4294967296*top)) (hV:V=VL+p*(v2+4294967296*v1)) (hl:UL<p) (h2:u2<4294967296) (u9:0<V):U/V*v1<=top:=by
 have h1:U/V*V<=U:=Nat.div_mul_le_self U V;generalize U/V=Q at *;have h3:U<p*(4294967296*(top+1)):=by
  have:p*(u2+4294967296*top)+p<=p*(4294967296*(top+1)):=by
   rw[<-Nat.mul_succ];exact Nat.mul_le_mul_left p (by omega)
  omega
 have h4:p*(4294967296*(Q*v1))<=Q*V:=by
  have e:Q*V=Q*VL+Q*(p*v2)+p*(4294967296*(Q*v1)):=by rw[hV];grind
  omega
 have h5:p*(4294967296*(Q*v1))<p*(4294967296*(top+1)):=by omega
 have:=Nat.lt_of_mul_lt_mul_left h5
 omega
theorem Yr (hU:U=UL+p*(u2+4294967296*top)) (hV:V=VL+p*(v2+4294967296*v1)) (hl:UL<p) (hq:q*v1+r=top) (h:r*4294967296+u2<q*v2) (u9:0<V):U/V<q:=by
 rw[Nat.div_lt_iff_lt_mul u9];have e:q*V=q*VL+p*(q*v2+4294967296*(q*v1)):=by rw[hV];grind
 have h1:p*(u2+4294967296*top)+p<=p*(q*v2+4294967296*(q*v1)):=by
  rw[<-Nat.mul_succ];exact Nat.mul_le_mul_left p (by omega)
 omega
theorem Yq (h:U<4294967296*V) (hq:4294967296<=q) (u9:0<V):U/V<q:=by
 have:U/V<4294967296:=(Nat.div_lt_iff_lt_mul u9).2 h
 omega
theorem zB (hU:U=UL+p*(u2+4294967296*top)) (hV:V=VL+p*(v2+4294967296*v1)) (qh:VL<p) (h1:2147483648<=v1) (hq:q*v1+r=top) (h:q*v2<=r*4294967296+u2) (hqB:q<4294967296):q<=U/V+1:=by
 have u9:0<V:=by
  have:p*4294967296<=p*(v2+4294967296*v1):=Nat.mul_le_mul_left p (by omega)
  omega
 by_cases h0:q=0
 ·subst h0;exact Nat.zero_le _
 have e:q*V=q*VL+p*(q*v2+4294967296*(q*v1)):=by rw[hV];grind
 have h2:p*(q*v2+4294967296*(q*v1))<=p*(u2+4294967296*top):=Nat.mul_le_mul_left p (by omega);have h3:q*VL<V:=by
  have a1:q*VL<=4294967296*VL:=Nat.mul_le_mul_right _ (by omega);have a2:p*4294967296<=p*(v2+4294967296*v1):=Nat.mul_le_mul_left p (by omega);omega
 have h4:(q-1)*V<U+1:=by
  have:(q-1)*V+V=q*V:=by
   have:q=q-1+1:=by omega
   rw[<-Nat.succ_mul,Nat.succ_eq_add_one,<-this]
  omega
 have h5:q-1<=U/V:=(Nat.le_div_iff_mul_le u9).2 (by omega);omega
end
theorem vP {U V U' q:Nat} (u9:0<V) (h1:U/V<=q) (h:U'+q*V=U):q=U/V/\U'=U%V:=by
 have h2:q*V<=U:=by omega
 have h3:q<=U/V:=(Nat.le_div_iff_mul_le u9).2 h2;have h4:q=U/V:=by omega
 have:=Nat.div_add_mod U V
 rw[Nat.mul_comm,<-h4]at this;exact ⟨h4,by omega⟩
theorem vO {U V U' q P:Nat} (u9:0<V) (h2:q<=U/V+1) (hU':U'<P) (h:U'+q*V=U+P):q-1=U/V/\1<=q/\U'+V=U%V+P:=by
 have h3:U/V*V<=U:=Nat.div_mul_le_self U V;have h4:U/V<q:=by
  rcases Nat.lt_or_ge (U/V) q with h|h
  ·exact h
  ·have:q*V<=U/V*V:=Nat.mul_le_mul_right _ h
   omega
 have h6:=Nat.div_add_mod U V;rw[Nat.mul_comm]at h6;generalize U/V=Q at *;generalize U%V=R at *;obtain rfl:q=Q+1:=by omega
 rw[Nat.add_mul,Nat.one_mul]at h;exact ⟨by omega,by omega,by omega⟩
theorem jQ {u pl bw:Nat} (hu:u<4294967296) (hp:pl<4294967296) (hb:bw<=1):HC (HC u pl) bw%4294967296+pl+bw=u+4294967296*(HC (HC u pl) bw/9223372036854775808)/\HC (HC u pl) bw/9223372036854775808<=1:=by
 rw[YU,YU];omega
theorem Ak6 {d e bw:Nat} (hu:d<4294967296) (hp:e<4294967296) (hb:bw<=1):HC (HC d bw) e%4294967296+e+bw=d+4294967296*(HC (HC d bw) e/9223372036854775808)/\HC (HC d bw) e/9223372036854775808<=1:=by
 rw[YU,YU];omega
theorem Ak5 {d bw:Nat} (hu:d<4294967296) (hb:bw<=1):HC d bw%4294967296+bw=d+4294967296*(HC d bw/9223372036854775808)/\HC d bw/9223372036854775808<=1:=by
 rw[YU];omega
theorem Ht {V Y X p D e bw y9 d:Nat} (h:V+Y=X+p*bw) (hd:D+e+bw=d+4294967296*y9):V+p*D+(Y+p*e)=X+p*d+p*4294967296*y9:=by
 have h2:p*D+p*e+p*bw=p*d+p*4294967296*y9:=by
  rw[<-Nat.mul_add,<-Nat.mul_add,hd,Nat.mul_add,Nat.mul_assoc]
 omega
theorem Z0 {a b:Nat} (ha:a<4294967296) (hb:b<4294967296):a*b<=18446744065119617025 :=
 Nat.mul_le_mul (show a<=4294967295 by omega) (show b<=4294967295 by omega)
theorem vR {X Y s:Nat} (hs:0<s):X*s/(Y*s)=X/Y/\X*s%(Y*s)/s=X%Y:=by
 refine ⟨Nat.mul_div_mul_right X Y hs,?_⟩;rw[Nat.mul_mod_mul_right,Nat.mul_div_cancel _ hs]
end Go.Eng

namespace Go.Eng
@[irreducible] def VK (d s : Nat) : Nat := d * 2 ^ s % 4294967296
@[irreducible] def YH (d s : Nat) : Nat := d * 2 ^ s / 4294967296
theorem qA (d s:Nat):VK d s=d*2^s%4294967296:=by unfold VK;rfl
theorem YJ (d s:Nat):YH d s=d*2^s/4294967296:=by unfold YH;rfl
theorem WP {s:Nat} (hs:s<=32):4294967296=2^s*2^(32-s):=by
 rw[<-Nat.pow_add,show s+(32-s)=32 by omega]
theorem AkI (d s:Nat):VK d s+4294967296*YH d s=d*2^s:=by
 rw[qA,YJ];exact Nat.mod_add_div _ _
theorem Ff {d s:Nat} (hs:s<=32):VK d s=2^s*(d%2^(32-s)):=by
 rw[qA,WP hs,Nat.mul_comm d,Nat.mul_mod_mul_left]
theorem Fe {d s:Nat} (hs:s<=32):YH d s=d/2^(32-s):=by
 rw[YJ,WP hs,Nat.mul_comm d,Nat.mul_div_mul_left _ _ (Nat.two_pow_pos s)]
theorem YK {d s:Nat} (hd:d<4294967296) (hs:s<=32):VK d s%2^s=0/\YH d s<2^s/\VK d s+2^s<=4294967296/\d*2^s<=18446744073709551615:=by
 refine ⟨by rw[Ff hs,Nat.mul_mod_right],?_,?_,?_⟩
 ·rw[Fe hs,Nat.div_lt_iff_lt_mul (Nat.two_pow_pos _),<-Nat.pow_add,show s+(32-s)=32 by omega];exact hd
 ·rw[Ff hs]
  have h1:d%2^(32-s)+1<=2^(32-s):=Nat.mod_lt _ (Nat.two_pow_pos _);have h2:=Nat.mul_le_mul_left (2^s) h1;rw[Nat.mul_add,Nat.mul_one,<-WP hs]at h2;exact h2
 ·have h1:2^s<=2^32:=Nat.pow_le_pow_right (by omega) hs
  have h2:d*2^s<=4294967295*4294967296:=Nat.mul_le_mul (by omega) h1;omega
theorem dA {s:Nat} (hs:s<=32):2^s<=4294967296:=(Nat.pow_le_pow_right (by omega) hs:2^s<=2^32)
theorem Eb {V X p lo s d:Nat} (h:V+p*lo=X*2^s):V+p*(VK d s+lo)+p*4294967296*YH d s=(X+p*d)*2^s:=by
 have h1:=AkI d s;have h2:p*(VK d s+lo)+p*4294967296*YH d s=p*lo+p*(d*2^s):=by
  rw[<-h1];grind
 rw[Nat.add_mul,<-h,Nat.mul_assoc p d];omega
theorem oD {d V s:Nat} (hs:s<=32):(d+4294967296*V)/2^s=d/2^s+V%2^s*2^(32-s)+4294967296*(V/2^s):=by
 have e:4294967296*V=2^s*(2^(32-s)*V):=by rw[<-Nat.mul_assoc,<-WP hs]
 rw[e,Nat.add_mul_div_left _ _ (Nat.two_pow_pos s)];have h:=Nat.mod_add_div V (2^s);have h2:2^(32-s)*V=V%2^s*2^(32-s)+4294967296*(V/2^s):=by
  have h3:2^(32-s)*V=2^(32-s)*(V%2^s+2^s*(V/2^s)):=by rw[h]
  rw[h3,WP hs];grind
 omega
theorem Ef {d V s:Nat} (hs:s<=32):(d+4294967296*V)%2^s=d%2^s:=by
 have e:4294967296*V=2^s*(2^(32-s)*V):=by rw[<-Nat.mul_assoc,<-WP hs]
 rw[e,Nat.add_mul_mod_self_left]
theorem Zq {d s:Nat} (hs:s<=32):d*2^(32-s)%4294967296=d%2^s*2^(32-s):=by
 have e:4294967296=2^s*2^(32-s):=WP hs;rw[e,Nat.mul_mod_mul_right]
theorem Ee {d V s:Nat} (hd:d<4294967296) (hs:s<=32):d/2^s<2^(32-s)/\V%2^s*2^(32-s)%2^(32-s)=0/\V%2^s*2^(32-s)+2^(32-s)<=4294967296:=by
 refine ⟨?_,Nat.mul_mod_left _ _,?_⟩
 ·rw[Nat.div_lt_iff_lt_mul (Nat.two_pow_pos _),<-Nat.pow_add,show 32-s+s=32 by omega];exact hd
 ·have h1:V%2^s+1<=2^s:=Nat.mod_lt _ (Nat.two_pow_pos _)
  have h2:=Nat.mul_le_mul_right (2^(32-s)) h1;rw[Nat.add_mul,Nat.one_mul,<-WP hs]at h2;exact h2
def n0 (x:Nat):Nat:=if x=0 then 0 else x.log2+1
theorem tE {x:Nat} (h:x≠0):2^(n0 x-1)<=x/\x<2^n0 x/\1<=n0 x:=by
 unfold n0;rw[if_neg h];exact ⟨Nat.log2_self_le h,Nat.lt_log2_self,by omega⟩
theorem fG {x k:Nat} (h:x<2^k):n0 x<=k:=by
 by_cases h0:x=0
 ·subst h0;unfold n0;simp
 ·obtain ⟨h1,_,h3⟩:=tE h0
  have h2:2^(n0 x-1)<2^k:=by omega
  have:=(Nat.pow_lt_pow_iff_right (by omega)).1 h2
  omega
theorem aW {x:Nat} (n:Nat) (h:2^n<=x):n0 (x/2^n)+n=n0 x:=by
 have hp:=Nat.two_pow_pos n;have hx:x≠0:=by omega
 have hq:x/2^n≠0:=by have:=Nat.div_pos h hp;omega
 unfold n0;rw[if_neg hx,if_neg hq];have:(x/2^n).log2+n=x.log2:=by
  symm
  rw[Nat.log2_eq_iff hx];have h1:=Nat.log2_self_le hq;have h2:x/2^n<2^((x/2^n).log2+1):=Nat.lt_log2_self;rw[Nat.le_div_iff_mul_le hp,<-Nat.pow_add]at h1;rw[Nat.div_lt_iff_lt_mul hp,<-Nat.pow_add]at h2;exact ⟨h1,by rw[show (x/2^n).log2+n+1=(x/2^n).log2+1+n by omega];exact h2⟩
 omega
theorem oE {x:Nat} (h0:x≠0) (hx:x<4294967296):n0 x<=32/\1<=n0 x/\2147483648<=x*2^(32-n0 x)/\x*2^(32-n0 x)<4294967296:=by
 obtain ⟨h1,h2,h3⟩:=tE h0;have hk:n0 x<=32:=fG (k:=32) hx;refine ⟨hk,h3,?_,?_⟩
 ·have:=Nat.mul_le_mul_right (2^(32-n0 x)) h1
  rw[<-Nat.pow_add,show n0 x-1+(32-n0 x)=31 by omega]at this;exact this
 ·have:=Nat.mul_lt_mul_of_pos_right h2 (Nat.two_pow_pos (32-n0 x))
  rw[<-Nat.pow_add,show n0 x+(32-n0 x)=32 by omega]at this;exact this
end Go.Eng

namespace Go.Eng
section
variable {L:Lib}
def Cl.le (C C':Cl):Prop:=(∀ f vs r,C.pure f vs=some r->C'.pure f vs=some r)/\(∀ f vs o r,C.db f vs o=some r->C'.db f vs o=some r)/\C.num=C'.num
theorem sX {x y:Option (AV × BT)} {r:Nat × List (List AV)} (h : ∀ q,x=some q->y=some q) (hr:TQ x=some r):TQ y=some r:=by
 cases x with
 | none=>simp [TQ]at hr
 | some q=>rw[h q rfl];exact hr
theorem Tb {C C':Cl} (h:C.le C') {b9:List Nat} {ρ:B8->AV} {own:BT} {op:GN} {E:ED} (he:c7 C b9 ρ own op=some E):c7 C' b9 ρ own op=some E:=by
 cases op with
 | call f xs =>
  simp only[c7]at he ⊢;split at he
  ·rename_i vs dw
   simp only[Option.map_eq_some_iff]at he ⊢;obtain ⟨r,hr,rfl⟩:=he;exact ⟨r,h.1 f vs r hr,rfl⟩
  ·cases he
 | c8 f xs =>
  simp only[c7,Option.map_eq_some_iff]at he ⊢;obtain ⟨r,hr,rfl⟩:=he;exact ⟨r,h.2.1 f _ own r hr,rfl⟩
 | jc p f xs=>simp only[c7]at he ⊢;rw[<-h.2.2];exact he
 | x9 s f xs =>
  simp only[c7,Option.map_eq_some_iff]at he ⊢;obtain ⟨p,hp,rfl⟩:=he;exact ⟨p,fO.2 λ o ho=>h.2.1 f _ o _ (fO.1 hp o ho),rfl⟩
 | o0 s f xs =>
  simp only[c7]at he ⊢;split at he
  ·rename_i vs dw
   simp only[Option.map_eq_some_iff]at he ⊢;obtain ⟨r,hr,rfl⟩:=he;exact ⟨r,sX (h.2.1 f vs BT.emp) hr,rfl⟩
  ·cases he
 | l9 f xs =>
  simp only[c7]at he ⊢;split at he
  ·rename_i hq
   rw[if_pos hq];split at he
   ·rename_i r hr
    rw[h.1 _ _ r hr];exact he
   ·cases he
  ·cases he
 | n8 x xs =>
  simp only[c7]at he ⊢;rw[<-h.2.2];split at he
  ·split at he
   ·rename_i hg
    rw[if_pos hg];split at he
    ·split at he
     ·rename_i vs dw
      simp only[Option.map_eq_some_iff]at he ⊢;obtain ⟨r,hr,rfl⟩:=he;exact ⟨r,h.1 _ vs r hr,rfl⟩
     ·cases he
    ·simp only[Option.map_eq_some_iff]at he ⊢
     obtain ⟨r,hr,rfl⟩:=he;exact ⟨r,h.2.1 _ _ own r hr,rfl⟩
    ·cases he
   ·cases he
  ·cases he
 | _=>exact he
theorem AkZ {C C':Cl} (h:C.le C') {o:AI} {st e9:St} (he:FO C o st=some e9):FO C' o st=some e9:=by
 unfold FO at he ⊢;split at he
 ·simp only[Option.map_eq_some_iff]at he ⊢
  obtain ⟨E,h1,h2⟩:=he;exact ⟨E,Tb h h1,h2⟩
 ·exact he
 ·exact he
theorem VN {C C':Cl} (h:C.le C') : ∀ {l:List AI} {st e9:St},FP C l st=some e9->FP C' l st=some e9
 | [],st,e9,he=>he
 | o::r,st,e9,he=>by
  simp only[FP]at he ⊢;cases hs:FO C o st with
  | none=>simp [hs]at he
  | some CZ =>
   rw[AkZ h hs];simp only[hs]at he;exact VN h he
theorem OG {C C':Cl} (h:C.le C') : ∀ {n n':Nat} {k:List It} {st e9:St},n<=n'->run C n k st=some e9->run C' n' k st=some e9:=by
 intro n;induction n with
 | zero=>intro n' k st e9 _ hr;simp [run]at hr
 | succ n ih =>
  intro n' k st e9 hn hr;obtain ⟨q,rfl⟩ : ∃ q,n'=q+1:=⟨n'-1,by omega⟩;have hq:n<=q:=by omega
  cases k with
  | nil=>exact hr
  | cons it k =>
   cases it with
   | blk id=>simp only[run]at hr ⊢;exact ih hq hr
   | er ts ss=>simp only[run]at hr ⊢;exact ih hq hr
   | lp c=>simp only[run]at hr ⊢;exact ih hq hr
   | code c =>
    cases c with
    | skip=>simp only[run]at hr ⊢;exact ih hq hr
    | ops l d =>
     simp only[run]at hr ⊢;cases hs:FP C l st with
     | none=>simp [hs]at hr
     | some CZ =>
      rw[VN h hs];simp only[hs]at hr;exact ih hq hr
    | dr c ts ss=>simp only[run]at hr ⊢;exact ih hq hr
    | scope c=>simp only[run]at hr ⊢;exact ih hq hr
    | seq a b=>simp only[run]at hr ⊢;exact ih hq hr
    | cond x a b =>
     simp only[run]at hr ⊢;split at hr
     ·exact ih hq hr
     ·exact ih hq hr
     ·cases hr
    | block id c=>simp only[run]at hr ⊢;exact ih hq hr
    | loop c=>simp only[run]at hr ⊢;exact ih hq hr
    | exit id =>
     simp only[run]at hr ⊢;split at hr
     ·exact ih hq hr
     ·cases hr
    | ret=>exact hr
theorem dB {I I':List AV->Option (AV × BT)} (hI : ∀ vs r,I vs=some r->I' vs=some r) {vs:List AV} {r:AV} (h:LO I vs=some r):LO I' vs=some r:=by
 unfold LO at h ⊢;cases he:I vs with
 | none=>simp [he]at h
 | some x=>rw[hI vs _ he];simpa [he] using h
theorem Akb {b:Bool} {I I':List AV->Option (AV × BT)} (hI : ∀ vs r,I vs=some r->I' vs=some r) {vs:List AV} {r:AV} (h:OC b I vs=some r):OC b I' vs=some r:=by
 unfold OC at h ⊢;split at h
 ·split at h
  ·rename_i r1 r2 h1 h2
   rw[dB hI h1,dB hI h2];exact h
  ·cases h
 ·exact dB hI h
theorem xK : ∀ (n:Nat),(FH L n).le (FH L (n+1)):=by
 have db : ∀ n,(∀ f vs o r,GA L n f vs o=some r->GA L (n+1) f vs o=some r) -> ∀ f vs r,K2 L n f vs=some r->K2 L (n+1) f vs=some r:=by
  intro n hI f vs r h;exact Akb (λ vs r h=>hI f vs _ r h) h
 intro n;induction n with
 | zero =>
  have : ∀ f vs o r,GA L 0 f vs o=some r->GA L 1 f vs o=some r:=λ f vs o r h=>by simp [GA]at h
  exact ⟨db 0 this,this,rfl⟩
 | succ n ih =>
  have : ∀ f vs o r,GA L (n+1) f vs o=some r->GA L (n+2) f vs o=some r:=λ f vs o r h=>by
   rw[bZ]at h ⊢;cases hL:L f with
   | none=>simp [hL]at h
   | some fn =>
    simp only[hL]at h ⊢;split at h
    ·rename_i hp
     rw[if_pos hp];cases hr:run (FH L n) n [.code fn.body] ⟨ET 0 vs,o⟩ with
     | none=>simp [hr]at h
     | some st =>
      rw[OG ih (Nat.le_succ n) hr];simpa [hr] using h
    ·cases h
  exact ⟨db (n+1) this,this,rfl⟩
theorem IK {n n':Nat} (h:n<=n'):(FH L n).le (FH L n'):=by
 induction h with
 | refl=>exact ⟨λ_ _ _ h=>h,λ_ _ _ _ h=>h,rfl⟩
 | step _ ih=>exact ⟨λ f vs r h=>(xK _).1 f vs r (ih.1 f vs r h),λ f vs o r h=>(xK _).2.1 f vs o r (ih.2.1 f vs o r h),rfl⟩
def Ev (L:Lib) (f:Nat) (vs:List AV) (r:AV):Prop := ∃ n,K2 L n f vs=some r
def IU (L:Lib) (f:Nat) (vs:List AV) (r:AV):Prop := ∃ n,LO (λ vs=>GA L n f vs BT.emp) vs=some r
def JL (L:Lib) (f:Nat) (vs:List AV) (o:BT) (r:AV) (o':BT):Prop := ∃ n,GA L n f vs o=some (r,o')
def UE (L:Lib) (f:Nat) (vs:List AV) (z:Nat) (es:List (List AV)):Prop := ∃ n,TQ (GA L n f vs BT.emp)=some (z,es)
theorem Ev.sn {f:Nat} {vs:List AV} {r r':AV} (h:Ev L f vs r) (h':Ev L f vs r'):r=r':=by
 obtain ⟨n,hn⟩:=h;obtain ⟨n',jo⟩:=h';have h1:=(IK (L:=L) (Nat.le_max_left n n')).1 f vs r hn;have h2:=(IK (L:=L) (Nat.le_max_right n n')).1 f vs r' jo;rw[h1]at h2;exact Option.some.inj h2
theorem JL.sn {f:Nat} {vs:List AV} {o:BT} {r r':AV} {o1 o2:BT} (h:JL L f vs o r o1) (h':JL L f vs o r' o2):r=r'/\o1=o2:=by
 obtain ⟨n,hn⟩:=h;obtain ⟨n',jo⟩:=h';have h1:=(IK (L:=L) (Nat.le_max_left n n')).2.1 f vs o _ hn;have h2:=(IK (L:=L) (Nat.le_max_right n n')).2.1 f vs o _ jo;rw[h1]at h2;simpa using h2
def AK (L:Lib) (k:List It) (st:St) (Q:St->Prop):Prop := ∃ n c e9,run (FH L c) n k st=some e9/\Q e9
def AO (L:Lib) (l:List AI) (k:List It) (st:St) (Q:St->Prop):Prop := ∃ n c CZ e9,FP (FH L c) l st=some CZ/\run (FH L c) n k CZ=some e9/\Q e9
variable {k:List It} {st:St} {Q:St->Prop}
theorem NN {it:It} {k':List It} {CZ:St} (h : ∀ (C:Cl) (n:Nat),run C (n+1) (it::k) st=run C n k' CZ):AK L (it::k) st Q↔AK L k' CZ Q:=by
 constructor
 ·rintro ⟨n,c,e9,hr,hq⟩
  cases n with
  | zero=>simp [run]at hr
  | succ n=>exact ⟨n,c,e9,by rw[<-h];exact hr,hq⟩
 ·rintro ⟨n,c,e9,hr,hq⟩
  exact ⟨n+1,c,e9,by rw[h];exact hr,hq⟩
theorem Mm:AK L [] st Q↔Q st:=by
 constructor
 ·rintro ⟨n,c,e9,hr,hq⟩
  cases n with
  | zero=>simp [run]at hr
  | succ n=>simp only[run,Option.some.injEq]at hr;exact hr ▸ hq
 ·exact λ h=>⟨1,0,st,rfl,h⟩
theorem Kx {id:Nat}:AK L (.blk id::k) st Q↔AK L k st Q:=NN λ_ _=>rfl
theorem Add {ts ss:List Nat}:AK L (.er ts ss::k) st Q↔AK L k ⟨u7 st.tm ts,st.own.drop ss⟩ Q:=NN λ_ _=>rfl
theorem rT {c:C1}:AK L (.lp c::k) st Q↔AK L (.code c :: .lp c::k) st Q:=NN λ_ _=>rfl
theorem Mr:AK L (.code .skip::k) st Q↔AK L k st Q:=NN λ_ _=>rfl
theorem Mh {c:C1} {ts ss:List Nat}:AK L (.code (.dr c ts ss)::k) st Q↔AK L (.code c :: .er ts ss::k) st Q:=NN λ_ _=>rfl
theorem Mp {c:C1}:AK L (.code (.scope c)::k) st Q↔AK L (.code c::k) st Q:=NN λ_ _=>rfl
theorem Mq {a b:C1}:AK L (.code (.seq a b)::k) st Q↔AK L (.code a :: .code b::k) st Q:=NN λ_ _=>rfl
theorem Mf {id:Nat} {c:C1}:AK L (.code (.block id c)::k) st Q↔AK L (.code c :: .blk id::k) st Q:=NN λ_ _=>rfl
theorem Mj {c:C1}:AK L (.code (.loop c)::k) st Q↔AK L (.code c :: .lp c::k) st Q:=NN λ_ _=>rfl
theorem Mi {id:Nat} {k':List It} (h:GJ id k=some k'):AK L (.code (.exit id)::k) st Q↔AK L k' st Q:=NN λ C n=>by simp [run,h]
theorem Mo:AK L (.code .ret::k) st Q↔Q st:=by
 constructor
 ·rintro ⟨n,c,e9,hr,hq⟩
  cases n with
  | zero=>simp [run]at hr
  | succ n=>simp only[run,Option.some.injEq]at hr;exact hr ▸ hq
 ·exact λ h=>⟨1,0,st,rfl,h⟩
theorem Mg {x:B8} {a b:C1} {t:Bool} (h:st.ev x = .bool t):AK L (.code (.cond x a b)::k) st Q↔if t=true then AK L (.code a::k) st Q else AK L (.code b::k) st Q:=by
 cases t
 ·simpa using NN (k' := .code b::k) (CZ:=st) λ C n=>by simp [run,h]
 ·simpa using NN (k' := .code a::k) (CZ:=st) λ C n=>by simp [run,h]
theorem Mn {l:List AI} {d:Bool}:AK L (.code (.ops l d)::k) st Q↔AO L l k st Q:=by
 constructor
 ·rintro ⟨n,c,e9,hr,hq⟩
  cases n with
  | zero=>simp [run]at hr
  | succ n =>
   simp only[run]at hr;split at hr
   ·rename_i CZ hs
    exact ⟨n,c,CZ,e9,hs,hr,hq⟩
   ·cases hr
 ·rintro ⟨n,c,CZ,e9,hs,hr,hq⟩
  exact ⟨n+1,c,e9,by simp [run,hs,hr],hq⟩
theorem Na:AO L [] k st Q↔AK L k st Q:=by
 constructor
 ·rintro ⟨n,c,CZ,e9,hs,hr,hq⟩
  simp only[FP,Option.some.injEq]at hs;exact ⟨n,c,e9,hs ▸ hr,hq⟩
 ·rintro ⟨n,c,e9,hr,hq⟩
  exact ⟨n,c,st,e9,rfl,hr,hq⟩
theorem Nf {o:AI} {l:List AI} {CZ:St} (h : ∀ C,FO C o st=some CZ):AO L (o::l) k st Q↔AO L l k CZ Q:=by
 constructor
 ·rintro ⟨n,c,DP,e9,hs,hr,hq⟩
  simp only[FP,h]at hs;exact ⟨n,c,DP,e9,hs,hr,hq⟩
 ·rintro ⟨n,c,DP,e9,hs,hr,hq⟩
  exact ⟨n,c,DP,e9,by simpa only[FP,h] using hs,hr,hq⟩
theorem Nb {d:Option Nat} {op:GN} {g:Option (Nat × Bool)} {b9:List Nat} {l:List AI} (h:IL st g=some false):AO L (⟨d,op,g,b9⟩::l) k st Q↔AO L l k (st.dst d (.tup [])) Q :=
 Nf λ C=>by simp [FO,h]
theorem fQ (c:Nat):(FH L c).num=L.num:=rfl
theorem Nc {d:Option Nat} {op:GN} {g:Option (Nat × Bool)} {b9:List Nat} {l:List AI} {E:ED} (h:IL st g=some true) (he : ∀ c,c7 (FH L c) b9 st.ev st.own op=some E):AO L (⟨d,op,g,b9⟩::l) k st Q↔AO L l k (st.app d E) Q:=by
 have h : ∀ c,FO (FH L c) ⟨d,op,g,b9⟩ st=some (st.app d E):=λ c=>by simp [FO,h,he]
 constructor
 ·rintro ⟨n,c,DP,e9,hs,hr,hq⟩
  simp only[FP,h]at hs;exact ⟨n,c,DP,e9,hs,hr,hq⟩
 ·rintro ⟨n,c,DP,e9,hs,hr,hq⟩
  exact ⟨n,c,DP,e9,by simpa only[FP,h] using hs,hr,hq⟩
theorem Mt {d:Option Nat} {f:Nat} {xs:List B8} {g:Option (Nat × Bool)} {b9:List Nat} {l:List AI} {vs:List AV} {r:AV} (h:IL st g=some true) (hv:(xs.map st.ev).mapM (F6 (st.own.m4 b9) true)=some vs) (hr:Ev L f vs r) :
  AO L (⟨d,.call f xs,g,b9⟩::l) k st Q↔AO L l k (st.dst d r) Q:=by
 have hst : ∀ c r',K2 L c f vs=some r'->FO (FH L c) ⟨d,.call f xs,g,b9⟩ st=some (st.dst d r'):=λ c r' hc=>by
  have hc':(FH L c).pure f vs=some r':=hc;simp [FO,h,c7,hv,hc',St.app]
 constructor
 ·rintro ⟨n,c,DP,e9,hs,du,hq⟩
  simp only[FP]at hs;cases hI:FO (FH L c) ⟨d,.call f xs,g,b9⟩ st with
  | none=>simp [hI]at hs
  | some CZ =>
   simp only[hI]at hs;cases hp:K2 L c f vs with
   | none =>
    have hc':(FH L c).pure f vs=none:=hp;simp [FO,h,c7,hv,hc']at hI
   | some r' =>
    obtain rfl:r'=r:=Ev.sn ⟨c,hp⟩ hr;rw[hst c r' hp]at hI;obtain rfl:=Option.some.inj hI;exact ⟨n,c,DP,e9,hs,du,hq⟩
 ·rintro ⟨n,c,DP,e9,hs,du,hq⟩
  obtain ⟨c',hc'⟩:=hr;have l1:=IK (L:=L) (Nat.le_max_left c c');have l2:=IK (L:=L) (Nat.le_max_right c c');refine ⟨n,max c c',DP,e9,?_,OG l1 (Nat.le_refl n) du,hq⟩;simp only[FP];rw[hst (max c c') r (l2.1 f vs r hc')];exact VN l1 hs
theorem Mv {d:Option Nat} {f:Nat} {x:B8} {xs:List B8} {g:Option (Nat × Bool)} {b9:List Nat} {l:List AI} {vs:List AV} {r:AV} (h:IL st g=some true) (hx:st.ev x = .fn true f (L.num f) []) (hv:(xs.map st.ev).mapM (F6 st.own true)=some vs) (hr:Ev L f vs r) :
  AO L (⟨d,.n8 x xs,g,b9⟩::l) k st Q↔AO L l k (st.dst d r) Q:=by
 have hst : ∀ c r',K2 L c f vs=some r'->FO (FH L c) ⟨d,.n8 x xs,g,b9⟩ st=some (st.dst d r'):=λ c r' hc=>by
  have hc':(FH L c).pure f vs=some r':=hc;simp [FO,h,c7,hx,fQ,hv,hc',St.app]
 constructor
 ·rintro ⟨n,c,DP,e9,hs,du,hq⟩
  simp only[FP]at hs;cases hI:FO (FH L c) ⟨d,.n8 x xs,g,b9⟩ st with
  | none=>simp [hI]at hs
  | some CZ =>
   simp only[hI]at hs;cases hp:K2 L c f vs with
   | none =>
    have hc':(FH L c).pure f vs=none:=hp;simp [FO,h,c7,hx,fQ,hv,hc']at hI
   | some r' =>
    obtain rfl:r'=r:=Ev.sn ⟨c,hp⟩ hr;rw[hst c r' hp]at hI;obtain rfl:=Option.some.inj hI;exact ⟨n,c,DP,e9,hs,du,hq⟩
 ·rintro ⟨n,c,DP,e9,hs,du,hq⟩
  obtain ⟨c',hc'⟩:=hr;have l1:=IK (L:=L) (Nat.le_max_left c c');have l2:=IK (L:=L) (Nat.le_max_right c c');refine ⟨n,max c c',DP,e9,?_,OG l1 (Nat.le_refl n) du,hq⟩;simp only[FP];rw[hst (max c c') r (l2.1 f vs r hc')];exact VN l1 hs
theorem Mw {d:Option Nat} {f:Nat} {xs:List B8} {g:Option (Nat × Bool)} {b9:List Nat} {l:List AI} {r:AV} (h:IL st g=some true) (hq:(xs.map st.ev).all dq=true) (hr:Ev L f ((xs.map st.ev).map nb) r) (hfl:aM r) :
  AO L (⟨d,.l9 f xs,g,b9⟩::l) k st Q↔AO L l k (st.dst d (ka r)) Q:=by
 have hst : ∀ c,K2 L c f ((xs.map st.ev).map nb)=some r->FO (FH L c) ⟨d,.l9 f xs,g,b9⟩ st=some (st.dst d (ka r)):=λ c hc=>by
  have hc':(FH L c).pure f ((xs.map st.ev).map nb)=some r:=hc;simp only[FO,h,c7];rw[if_pos hq,hc'];simp only[if_pos hfl,Option.map_some,St.app]
 constructor
 ·rintro ⟨n,c,DP,e9,hs,du,ti⟩
  simp only[FP]at hs;cases hp:K2 L c f ((xs.map st.ev).map nb) with
  | none =>
   have hc':(FH L c).pure f ((xs.map st.ev).map nb)=none:=hp;simp only[FO,h,c7]at hs;rw[if_pos hq,hc']at hs;simp at hs
  | some r' =>
   obtain rfl:r'=r:=Ev.sn ⟨c,hp⟩ hr;rw[hst c hp]at hs;exact ⟨n,c,DP,e9,hs,du,ti⟩
 ·rintro ⟨n,c,DP,e9,hs,du,ti⟩
  obtain ⟨c',hc'⟩:=hr;have l1:=IK (L:=L) (Nat.le_max_left c c');have l2:=IK (L:=L) (Nat.le_max_right c c');refine ⟨n,max c c',DP,e9,?_,OG l1 (Nat.le_refl n) du,ti⟩;simp only[FP];rw[hst (max c c') (l2.1 f _ r hc')];exact VN l1 hs
theorem Mx {d:Option Nat} {s f:Nat} {xs:List B8} {g:Option (Nat × Bool)} {b9:List Nat} {l:List AI} {vs:List AV} {z:Nat} {es:List (List AV)} (h:IL st g=some true) (hv:(xs.map st.ev).mapM (UA (st.own.m4 b9) true)=some vs) (hr:UE L f vs z es)
  (ha:AO L l k (st.app d (.new s ⟨z,es⟩ (λ t => .row s t z 0 es.length))) Q):AO L (⟨d,.o0 s f xs,g,b9⟩::l) k st Q:=by
 obtain ⟨n,c,DP,e9,hs,du,hq⟩:=ha;obtain ⟨c',hc'⟩:=hr;have l1:=IK (L:=L) (Nat.le_max_left c c');have l2:=IK (L:=L) (Nat.le_max_right c c');have hc2:TQ ((FH L (max c c')).db f vs BT.emp)=some (z,es):=sX (l2.2.1 f vs BT.emp) hc';refine ⟨n,max c c',DP,e9,?_,OG l1 (Nat.le_refl n) du,hq⟩;simp only[FP];have:FO (FH L (max c c')) ⟨d,.o0 s f xs,g,b9⟩ st=some (st.app d (.new s ⟨z,es⟩ (λ t => .row s t z 0 es.length))):=by
  simp only[FO,h,c7,hv,hc2,Option.map_some]
 rw[this];exact VN l1 hs
def sD (L:Lib) (s f:Nat) (vs:List AV) (q:D9) (r:AV) (q':D9):Prop := ∃ n,∀ o:BT,o s=q->GA L n f vs o=some (r,o.put s q')
theorem Mz {d:Option Nat} {s f:Nat} {xs:List B8} {g:Option (Nat × Bool)} {b9:List Nat} {l:List AI} {r:AV} {q':D9} (h:IL st g=some true) (hr:sD L s f (xs.map st.ev) (st.own s) r q')
  (ha:AO L l k (st.app d (.km s q' r)) Q):AO L (⟨d,.x9 s f xs,g,b9⟩::l) k st Q:=by
 obtain ⟨n,c,DP,e9,hs,du,hq⟩:=ha;obtain ⟨c',hc'⟩:=hr;have l1:=IK (L:=L) (Nat.le_max_left c c');have l2:=IK (L:=L) (Nat.le_max_right c c');have hc2:fK (FH L (max c c')) f (xs.map st.ev) s (st.own s)=some (r,q'):=fO.2 λ o ho=>l2.2.1 f _ o _ (hc' o ho)
 refine ⟨n,max c c',DP,e9,?_,OG l1 (Nat.le_refl n) du,hq⟩;simp only[FP];have:FO (FH L (max c c')) ⟨d,.x9 s f xs,g,b9⟩ st=some (st.app d (.km s q' r)):=by
  simp only[FO,h,c7,hc2,Option.map_some]
 rw[this];exact VN l1 hs
theorem Mu {d:Option Nat} {f:Nat} {xs:List B8} {g:Option (Nat × Bool)} {b9:List Nat} {l:List AI} {r:AV} {o':BT} (h:IL st g=some true) (hr:JL L f (xs.map st.ev) st.own r o') :
  AO L (⟨d,.c8 f xs,g,b9⟩::l) k st Q↔AO L l k { (st.dst d r) with own:=o' } Q:=by
 have hst : ∀ c r' o1,GA L c f (xs.map st.ev) st.own=some (r',o1)->FO (FH L c) ⟨d,.c8 f xs,g,b9⟩ st=some { (st.dst d r') with own:=o1 }:=λ c r' o1 hc=>by
  have hc':(FH L c).db f (xs.map st.ev) st.own=some (r',o1):=hc;simp [FO,h,c7,hc',St.app]
 constructor
 ·rintro ⟨n,c,DP,e9,hs,du,hq⟩
  simp only[FP]at hs;cases hI:FO (FH L c) ⟨d,.c8 f xs,g,b9⟩ st with
  | none=>simp [hI]at hs
  | some CZ =>
   simp only[hI]at hs;cases hp:GA L c f (xs.map st.ev) st.own with
   | none =>
    have hc':(FH L c).db f (xs.map st.ev) st.own=none:=hp;simp [FO,h,c7,hc']at hI
   | some x =>
    obtain ⟨r',o1⟩:=x;obtain ⟨rfl,rfl⟩:=JL.sn ⟨c,hp⟩ hr;rw[hst c r' o1 hp]at hI;obtain rfl:=Option.some.inj hI;exact ⟨n,c,DP,e9,hs,du,hq⟩
 ·rintro ⟨n,c,DP,e9,hs,du,hq⟩
  obtain ⟨c',hc'⟩:=hr;have l1:=IK (L:=L) (Nat.le_max_left c c');have l2:=IK (L:=L) (Nat.le_max_right c c');refine ⟨n,max c c',DP,e9,?_,OG l1 (Nat.le_refl n) du,hq⟩;simp only[FP];rw[hst (max c c') r o' (l2.2.1 f _ _ _ hc')];exact VN l1 hs
theorem My {d:Option Nat} {f:Nat} {cs:List AV} {x:B8} {xs:List B8} {g:Option (Nat × Bool)} {b9:List Nat} {l:List AI} {r:AV} {o':BT} (h:IL st g=some true) (hx:st.ev x = .fn false f (L.num f) cs) (hr:JL L f (xs.map st.ev++cs) st.own r o') :
  AO L (⟨d,.n8 x xs,g,b9⟩::l) k st Q↔AO L l k { (st.dst d r) with own:=o' } Q:=by
 have hst : ∀ c r' o1,GA L c f (xs.map st.ev++cs) st.own=some (r',o1)->FO (FH L c) ⟨d,.n8 x xs,g,b9⟩ st=some { (st.dst d r') with own:=o1 }:=λ c r' o1 hc=>by
  have hc':(FH L c).db f (xs.map st.ev++cs) st.own=some (r',o1):=hc;simp [FO,h,c7,hx,fQ,hc',St.app]
 constructor
 ·rintro ⟨n,c,DP,e9,hs,du,hq⟩
  simp only[FP]at hs;cases hI:FO (FH L c) ⟨d,.n8 x xs,g,b9⟩ st with
  | none=>simp [hI]at hs
  | some CZ =>
   simp only[hI]at hs;cases hp:GA L c f (xs.map st.ev++cs) st.own with
   | none =>
    have hc':(FH L c).db f (xs.map st.ev++cs) st.own=none:=hp;simp [FO,h,c7,hx,fQ,hc']at hI
   | some x =>
    obtain ⟨r',o1⟩:=x;obtain ⟨rfl,rfl⟩:=JL.sn ⟨c,hp⟩ hr;rw[hst c r' o1 hp]at hI;obtain rfl:=Option.some.inj hI;exact ⟨n,c,DP,e9,hs,du,hq⟩
 ·rintro ⟨n,c,DP,e9,hs,du,hq⟩
  obtain ⟨c',hc'⟩:=hr;have l1:=IK (L:=L) (Nat.le_max_left c c');have l2:=IK (L:=L) (Nat.le_max_right c c');refine ⟨n,max c c',DP,e9,?_,OG l1 (Nat.le_refl n) du,hq⟩;simp only[FP];rw[hst (max c c') r o' (l2.2.1 f _ _ _ hc')];exact VN l1 hs
theorem Ml {Q':St->Prop} (h:AK L k st Q) (hq : ∀ s,Q s->Q' s):AK L k st Q':=by
 obtain ⟨n,c,e9,hr,hh⟩:=h;exact ⟨n,c,e9,hr,hq _ hh⟩
theorem JL.intro {f:Nat} {fn:AFn} {vs:List AV} {o:BT} {r:AV} {o':BT} (hL:L f=some fn) (hp:vs.length=fn.v8) (h:AK L [.code fn.body] ⟨ET 0 vs,o⟩ (λ st=>(fn.res.mapM (H2 st)).map K8=some r/\st.own=o')):JL L f vs o r o':=by
 obtain ⟨n,c,e9,hr,h1,h2⟩:=h;refine ⟨max n c+1,?_⟩;rw[bZ];simp only[hL,hp,if_true];rw[OG (IK (L:=L) (Nat.le_max_right n c)) (Nat.le_max_left n c) hr];cases hm:fn.res.mapM (H2 e9) with
 | none=>rw[hm]at h1;cases h1
 | some rs =>
  rw[hm]at h1;simp only[Option.map_some,Option.some.injEq]at h1;simp [hm,h1,h2]
theorem IU.intro {f:Nat} {fn:AFn} {vs:List AV} {r:AV} (hL:L f=some fn) (hp:vs.length=fn.v8) (h:AK L [.code fn.body] ⟨ET 0 vs,BT.emp⟩ (λ st=>((fn.res.mapM (H2 st)).map K8).bind (WK st.own false)=some r/\CS r)):IU L f vs r:=by
 obtain ⟨n,c,e9,hr,h1,h2⟩:=h;cases hm:(fn.res.mapM (H2 e9)).map K8 with
 | none=>rw[hm]at h1;cases h1
 | some r0 =>
  rw[hm]at h1;simp only[Option.bind_some]at h1;obtain ⟨q,hq⟩:=JL.intro (o:=BT.emp) (r:=r0) (o':=e9.own) hL hp ⟨n,c,e9,hr,hm,rfl⟩;refine ⟨q,?_⟩;unfold LO;simp [hq,h1,h2]
theorem IU.ev {f:Nat} {fn:AFn} {vs:List AV} {r:AV} (hL:L f=some fn) (h:IU L f vs r) (hs:fn.jf=false:=by rfl):Ev L f vs r:=by
 obtain ⟨n,h⟩:=h;have hs:L.jf f=false:=by simp only[Lib.jf,hL,hs]
 exact ⟨n,by unfold K2 OC;rw[hs];exact h⟩
theorem IU.cons {f:Nat} {q:Bool} {e:List AV} {es:List (List AV)} {vs:List AV} {r:AV} (h:IU L f (.sl q (e::es)::vs) r):Ev L f (.sl q (e::es)::vs) r:=by
 obtain ⟨n,h⟩:=h;refine ⟨n,?_⟩;unfold K2 OC;split
 ·rename_i heq;simp at heq
 ·exact h
theorem IU.nil {f:Nat} {fn:AFn} {q:Bool} {vs:List AV} {r:AV} (hL:L f=some fn) (h1:IU L f (.z9 (.bool true)::vs) r) (h2:IU L f (.z9 (.bool false)::vs) r) (hs:fn.jf=true:=by rfl):Ev L f (.sl q []::vs) r:=by
 obtain ⟨n,h1⟩:=h1;obtain ⟨n',h2⟩:=h2;have hs:L.jf f=true:=by simp only[Lib.jf,hL,hs]
 have k1:=dB (λ vs r h=>(IK (L:=L) (Nat.le_max_left n n')).2.1 f vs BT.emp r h) h1;have k2:=dB (λ vs r h=>(IK (L:=L) (Nat.le_max_right n n')).2.1 f vs BT.emp r h) h2;refine ⟨max n n',?_⟩;unfold K2 OC;rw[hs];simp only;have k1':LO (λ vs=>GA L (max n n') f vs BT.emp) (.z9 (.bool true)::vs)=some r:=k1;have k2':LO (λ vs=>GA L (max n n') f vs BT.emp) (.z9 (.bool false)::vs)=some r:=k2;rw[k1',k2'];simp
theorem Ev.intro {f:Nat} {fn:AFn} {vs:List AV} {r:AV} (hL:L f=some fn) (hp:vs.length=fn.v8) (h:AK L [.code fn.body] ⟨ET 0 vs,BT.emp⟩ (λ st=>((fn.res.mapM (H2 st)).map K8).bind (WK st.own false)=some r/\CS r)) (hs:fn.jf=false:=by rfl):Ev L f vs r :=
 (IU.intro hL hp h).ev hL hs
end
end Go.Eng

namespace Go.Eng
section
variable {L:Lib} {k:List It} {tm:Tm} {own:BT} {Q:St->Prop} {l:List AI} {b9:List Nat} {d:Nat}
theorem dV (i:Nat) (v:AV) (r:Tm) (j:Nat):c9 ((i,v)::r) j=if j=i then v else c9 r j:=rfl
theorem Alf (j:Nat):c9 [] j = .any:=rfl
theorem Ak9 (i:Nat) (v:AV) (r:Tm) (l:List Nat):u7 ((i,v)::r) l=if l.contains i then u7 r l else (i,v)::u7 r l:=rfl
theorem Ala (l:List Nat):u7 [] l=[]:=rfl
theorem Xv (i:Nat) (v:AV) (r:List AV):ET i (v::r)=(i,v)::ET (i+1) r:=rfl
end
end Go.Eng

namespace Go.Eng
section
variable {L:Lib} {k:List It} {tm:Tm} {own:BT} {st:St} {Q:St->Prop} {l:List AI} {b9:List Nat} {d:Nat} {dst:Option Nat}
section
variable {x y:B8} {kd:IntKind} {a b:Int}
end
def aR (fn:AFn) (r:AV) (st:St):Prop:=((fn.res.mapM (H2 st)).map K8).bind (WK st.own false)=some r/\CS r
theorem Ev.fwd {f:Nat} {fn:AFn} {vs:List AV} {r:AV} (hL:L f=some fn) (hp:vs.length=fn.v8) (h:AK L [.code fn.body] ⟨ET 0 vs,BT.emp⟩ (aR fn r)) (hs:fn.jf=false:=by rfl):Ev L f vs r:=Ev.intro hL hp h hs
theorem IU.fwd {f:Nat} {fn:AFn} {vs:List AV} {r:AV} (hL:L f=some fn) (hp:vs.length=fn.v8) (h:AK L [.code fn.body] ⟨ET 0 vs,BT.emp⟩ (aR fn r)):IU L f vs r:=IU.intro hL hp h
end
attribute [irreducible] aR
end Go.Eng

namespace Go.Eng
def pw (n:Int):Int:=2^n.toNat
theorem Akc (n:Int):1<=pw n:=by
 have:0<pw n:=Int.pow_pos (by decide)
 omega
theorem AkK {k2:IntKind} {a n:Int} (h:0<=n/\n<=63):F4 .shr .i64 a k2 n=some (.int .i64 (a/pw n)):=by
 have h2:=Akc n;have e:(2:Int)^(min n.toNat IntKind.i64.bits)=pw n:=by
  have:min n.toNat IntKind.i64.bits=n.toNat:=by simp only[IntKind.bits];omega
  rw[this];rfl
 simp only[F4];rw[if_neg (by omega),e,Int.fdiv_eq_ediv_of_nonneg _ (by omega)]
theorem Ib {a m:Int} (hm:0<m):a.tmod m=if 0<=a\/a%m=0 then a%m else a%m-m:=by
 have h:=Int.tmod_eq_emod (a:=a) (b:=m);rw[h];have hd:m ∣ a↔a%m=0:=Int.dvd_iff_emod_eq_zero;by_cases h0:0<=a\/a%m=0
 ·rw[if_pos h0,if_pos (by rcases h0 with h0|h0;exact Or.inl h0;exact Or.inr (hd.2 h0))];omega
 ·rw[if_neg h0,if_neg (λ h=>h0 (h.imp id hd.1))]
  have:(m.natAbs:Int)=m:=by omega
  omega
theorem Hz {a m:Int} (hm:0<m):a.tdiv m=if 0<=a\/a%m=0 then a/m else a/m+1:=by
 have h:=Int.tdiv_eq_ediv (a:=a) (b:=m);rw[h];have hd:m ∣ a↔a%m=0:=Int.dvd_iff_emod_eq_zero;by_cases h0:0<=a\/a%m=0
 ·rw[if_pos h0,if_pos (by rcases h0 with h0|h0;exact Or.inl h0;exact Or.inr (hd.2 h0))];omega
 ·rw[if_neg h0,if_neg (λ h=>h0 (h.imp id hd.1)),Int.sign_eq_one_of_pos hm]
theorem Sy {a m:Int} (hm:1<=m) (h : -9223372036854775808<=a/\a<=9223372036854775807) : -9223372036854775808<=a/m/\a/m<=9223372036854775807:=by
 constructor
 ·rw[Int.le_ediv_iff_mul_le (by omega)]
  have:=Int.mul_le_mul_of_nonpos_left (a := -9223372036854775808) (b:=m) (c:=1) (by omega) hm
  omega
 ·have:a/m<9223372036854775808:=by
   rw[Int.ediv_lt_iff_lt_mul (by omega)];have:=Int.mul_le_mul_of_nonneg_left (c:=9223372036854775808) (a:=1) (b:=m) hm (by omega)
   omega
  omega
section
variable {L:Lib} {k:List It} {tm:Tm} {own:BT} {Q:St->Prop} {l:List AI} {b9:List Nat} {d:Nat} {x y:B8} {a b n p:Int} {k2:IntKind}
end
end Go.Eng

namespace Go.Eng
theorem aB (ts:List Nat) (j:Nat) : ∀ tm:Tm,c9 (u7 tm ts) j=if ts.contains j then .any else c9 tm j
 | []=>by simp [Ala,Alf]
 | (i,u)::r=>by
  rw[Ak9];by_cases h:ts.contains i=true
  ·rw[if_pos h,aB ts j r,dV]
   by_cases h2:j=i
   ·subst h2;rw[if_pos h,if_pos h]
   ·rw[if_neg h2]
  ·rw[if_neg h,dV,dV,aB ts j r]
   by_cases h2:j=i
   ·subst h2;rw[if_pos rfl,if_pos rfl,if_neg h]
   ·rw[if_neg h2,if_neg h2]
def U8 (j:Nat):List Nat->Bool
 | []=>false
 | i::r=>bif Nat.beq j i then true else U8 j r
abbrev V3 (n:Int):List AV:=[.int .i64 n]
section
variable {L:Lib} {k:List It} {tm:Tm} {own:BT} {Q:St->Prop} {l:List AI} {b9:List Nat} {d:Nat} {x i:B8} {kd:IntKind} {a:Int} {q:Bool} {α:Type} {es:List α} {enc:α->List AV} {z:Nat}
end
end Go.Eng

namespace Go.Eng
inductive CQ where
 | bx (cs:List AV)
 | rw (z:Nat) (es:List (List AV))
 | bs (z:Nat) (es:List (List AV))
 | mx (rows:List (Option (Nat × List (List AV))))
 | hx (i:Nat) (v:AV) (rows:List (Option (Nat × List (List AV))))
 | vw (w:List Nat) (rows:List (Option (Nat × List (List AV))))
abbrev Mem:=List (Nat × Nat × CQ)
def c5:Mem->Nat->Option (Nat × CQ)
 | [],_=>none
 | (k,s,c)::r,j=>bif Nat.beq j k then some (s,c) else c5 r j
def b7 (M:Mem) (k t:Nat):Option CQ:=match c5 M k with
 | none=>none
 | some (_,c)=>match t with
  | 0=>some c
  | i+1=>match c with
   | .mx rows=>match rows[i]? with
    | some (some (z,es))=>some (.rw z es)
    | _=>none
   | .hx _ _ rows=>match rows[i]? with
    | some (some (z,es))=>some (.rw z es)
    | _=>none
   | .vw _ rows=>match rows[i]? with
    | some (some (z,es))=>some (.rw z es)
    | _=>none
   | _=>none
def n6 (j:Nat):Mem->Mem
 | []=>[]
 | (k,s,c)::r=>bif Nat.beq j k then n6 j r else (k,s,c)::n6 j r
def tg:Tm->Nat->AV
 | [],_ => .any
 | (i,v)::r,j=>bif Nat.beq j i then v else tg r j
def bit (m i:Nat):Bool:=Nat.beq (Nat.land (Nat.shiftRight m i) 1) 1
def mask:Nat->List Nat->Nat
 | m,[]=>m
 | m,t::ts=>mask (Nat.lor m (Nat.shiftLeft 1 t)) ts
def mo (m:Nat):Tm->Tm
 | []=>[]
 | (i,v)::r=>bif bit m i then mo m r else (i,v)::mo (Nat.lor m (Nat.shiftLeft 1 i)) r
def fN (n:Nat) (K:Nat->Prop):Prop:=match n with
 | 0=>K 0
 | k+1=>K (k+1)
def kn:AV->Bool
 | .int _ _=>true | .bool _=>true | .z9 _=>true | .sl _ _=>true | .nil=>true
 | _=>false
def G1:List AV->Bool
 | []=>true
 | v::r=>bif kn v then G1 r else false
def bN:List (List AV)->Bool
 | []=>true
 | v::r=>bif G1 v then bN r else false
def SN (s:Nat):AV->Bool
 | .row k _ _ _ _=>Nat.beq k s | .ptr k _ _ _=>Nat.beq k s
 | _=>false
def LU (s:Nat):List AV->Bool
 | []=>false
 | v::r=>bif SN s v then true else LU s r
def WG (s:Nat):List (List AV)->Bool
 | []=>false
 | v::r=>bif LU s v then true else WG s r
def VJ (s:Nat):AV->Bool
 | .agg cs=>LU s cs
 | .fn _ _ _ cs=>LU s cs
 | v=>SN s v
def Z7 (s:Nat):List AV->Bool
 | []=>false
 | v::r=>bif VJ s v then true else Z7 s r
def SP (s:Nat):AV->Bool
 | .tup vs=>Z7 s vs
 | v=>VJ s v
def LA (s:Nat):Tm->Bool
 | []=>false
 | (_,v)::r=>bif SP s v then true else LA s r
def K9 (s:Nat):CQ->Bool
 | .bx cs=>LU s cs
 | .rw _ _=>false
 | .bs _ es=>WG s es
 | .mx _=>false
 | .hx _ _ _=>false
 | .vw _ _=>false
def JQ (s:Nat):Mem->Bool
 | []=>false
 | (k,_,c)::r=>bif Nat.beq s k then true else bif K9 s c then true else JQ s r
def US (s:Nat):AV->Bool
 | .row k t _ _ _=>bif Nat.beq k s then (match t with|0=>false|_+1=>true) else false
 | .ptr k t _ _=>bif Nat.beq k s then (match t with|0=>false|_+1=>true) else false
 | _=>false
def TT (s:Nat):List AV->Bool
 | []=>false
 | v::r=>bif US s v then true else TT s r
def W9 (s:Nat):AV->Bool
 | .agg cs=>TT s cs
 | .fn _ _ _ cs=>TT s cs
 | v=>US s v
def ZD (s:Nat):List AV->Bool
 | []=>false
 | v::r=>bif W9 s v then true else ZD s r
def VX (s:Nat):AV->Bool
 | .tup vs=>ZD s vs
 | v=>W9 s v
def MS (s:Nat):Tm->Bool
 | []=>false
 | (_,v)::r=>bif VX s v then true else MS s r
def ZE (s:Nat):List (List AV)->Bool
 | []=>false
 | v::r=>bif TT s v then true else ZE s r
def TS (s:Nat):CQ->Bool
 | .bx cs=>TT s cs
 | .bs _ es=>ZE s es
 | _=>false
def LH (s:Nat):Mem->Bool
 | []=>false
 | (_,_,c)::r=>bif TS s c then true else LH s r
def used (k:Nat) (tm:Tm) (M:Mem):Bool:=bif JQ k M then true else LA k tm
def iT (tm:Tm) (M:Mem):List Nat->(Nat->Prop)->Prop
 | [],_=>False
 | k::r,K=>bif used k tm M then iT tm M r K else K k
def I5 (s:Nat) (tm:Tm) (M:Mem) (K:Nat->Prop):Prop:=iT tm M [s,s+1000000,s+2000000,s+3000000] K
def fL:List AV->(List AV->Prop)->Prop
 | [],K=>K []
 | v::r,K=>fL r λ r'=>K (v::r')
def fV (v:AV) (K:AV->Prop):Prop:=match v with
 | .int k n=>K (.int k n) | .bool b=>K (.bool b) | .sl l es=>K (.sl l es) | .row s t z o n=>K (.row s t z o n)
 | .nil=>K .nil | .ptr s t i j=>K (.ptr s t i j) | .o6 cs=>K (.o6 cs) | .agg cs=>fL cs λ cs=>K (.agg cs)
 | .fn p f g cs=>fL cs λ cs=>K (.fn p f g cs)
 | .tup vs=>fL vs λ vs=>K (.tup vs) | .z9 c=>K (.z9 c) | .any=>False
def fC (v:AV) (K:List AV->Prop):Prop:=match v with
 | .agg cs=>fL cs K
 | .fn _ _ _ _=>False
 | .tup _=>False
 | .any=>False
 | v=>fV v λ v=>K [v]
def fB (b:Bool) (K:Bool->Prop):Prop:=match b with
 | true=>K true
 | false=>K false
def fT:Tm->(Tm->Prop)->Prop
 | [],K=>K []
 | (i,v)::r,K=>fT r λ r'=>K ((i,v)::r')
def fM:Mem->(Mem->Prop)->Prop
 | [],K=>K []
 | (k,s,c)::r,K=>fM r λ r'=>K ((k,s,c)::r')
def fF (v:AV) (K:AV->Prop):Prop:=match v with
 | .int k n=>K (.int k n) | .bool b=>K (.bool b) | .sl l es=>K (.sl l es) | .row s t z o n=>K (.row s t z o n)
 | .nil=>K .nil | .ptr s t i j=>K (.ptr s t i j) | .z9 c=>K (.z9 c)|_=>False
def f2 (v:AV) (K:AV->Prop):Prop:=match v with
 | .int k n=>K (.int k n) | .bool b=>K (.bool b) | .sl l es=>K (.sl l es) | .row s t z o n=>K (.row s t z o n)
 | .nil=>K .nil | .ptr s t i j=>K (.ptr s t i j) | .z9 c=>K (.z9 c) | .agg cs=>fL cs λ cs=>K (.agg cs) | .fn p f g cs=>fL cs λ cs=>K (.fn p f g cs)|_=>False
def jd (agg:Bool) (ds:List AV) (K:AV->Prop):Prop:=match agg with
 | true=>K (.agg ds)
 | false=>match ds with
  | [c]=>fF c K
  | _=>False
def BJ (p q A B:Prop):Prop:=(p->A)/\(q->B)
def B1 (p A:Prop):Prop:=p/\A
def BD (op:BinOp) (k:IntKind) (a:Int) (k':IntKind) (b:Int) (K:AV->Prop):Prop := ∃ v,F4 op k a k' b=some v/\K v
def E6 (op:UnOp) (k:IntKind) (n:Int) (K:AV->Prop):Prop := ∃ v,WR op (.int k n)=some v/\K v
def CF (k:IntKind) (n:Int) (K:Int->Prop):Prop:=K (k.wrap n)
def CI (es:List (List AV)) (a:Int) (z:Nat) (K:List AV->Prop):Prop:=0<=a /\ ∃ cs,es[a.toNat]? = some cs/\cs.length=z/\K cs
def CY (es:List (List AV)) (i j n:Nat) (K:List AV->Prop):Prop := ∃ cs ds,es[i]? = some cs/\part cs j n=some ds/\K ds
def CU (es:List (List AV)) (i j:Nat) (vs:List AV) (K:List (List AV)->Prop):Prop := ∃ cs,es[i]? = some cs/\j+vs.length<=cs.length/\K (es.set i (splice cs j vs))
def DX (a b:Int) (bytes:Nat) (zero:List AV) (K:List (List AV)->Nat->Prop):Prop:=(0<=a/\a<=b/\b*bytes<=F3/\b<=9223372036854775807)/\K (List.replicate a.toNat zero) a.toNat
def B5 (es:List (List AV)) (K:Nat->Prop):Prop:=K es.length
def DT (es:List (List AV)) (len:Nat) (ys:List (List AV)) (z bytes:Nat) (K:List (List AV)->Nat->Prop):Prop :=
 len<=es.length/\(∀ e∈ys,e.length=z)/\(len+ys.length)*bytes<=F3/\len+ys.length<=9223372036854775807/\K (es.take len++ys) (len+ys.length)
def EN (ys:List (List AV)) (z bytes:Nat) (K:List (List AV)->Nat->Prop):Prop :=
 (∀ e∈ys,e.length=z)/\ys.length*bytes<=F3/\ys.length<=9223372036854775807/\K ys ys.length
def GS (es:List (List AV)) (off len:Nat) (ys:List (List AV)) (z:Nat) (K:List (List AV)->Nat->Prop):Prop :=
 off+len<=es.length/\(∀ e∈ys,e.length=z)/\K (es.take off++ys.take len++es.drop (off+min ys.length len)) (min ys.length len)
def DS (es:List (List AV)) (off len:Nat) (K:List (List AV)->Prop):Prop:=off+len<=es.length/\K ((es.drop off).take len)
def IW:List AV->Bool
 | []=>true
 | v::r=>match v with
  | .int _ _=>IW r | .bool _=>IW r | .z9 _=>IW r | .sl _ _=>IW r
  | _=>false
def nl:AV->AV
 | .nil => .sl false []
 | v=>v
def QB:List AV->Bool
 | []=>true
 | v::r=>match v with
  | .int _ _=>QB r | .bool _=>QB r | .z9 _=>QB r | .sl _ _=>QB r | .nil=>QB r
  | _=>false
def CR (es:List (List AV)) (off len:Nat) (K:List (List AV)->Prop):Prop:=off+len<=es.length/\(∀ e∈es,QB e=true)/\K (((es.drop off).take len).map λ e=>e.map nl)
def DC (rows:List (Option (Nat × List (List AV)))) (i:Nat) (K:Option (Nat × List (List AV))->Prop):Prop := ∃ r,rows[i]? = some r/\K r
def DB (rows:List (Option (Nat × List (List AV)))) (i:Nat) (K:Nat->List (List AV)->Prop):Prop := ∃ z es,rows[i]? = some (some (z,es))/\K z es
def EP (rows:List (Option (Nat × List (List AV)))) (i z:Nat) (es:List (List AV)) (K:List (Option (Nat × List (List AV)))->Prop):Prop:=i<rows.length/\K (rows.set i (some (z,es)))
def EV (rows:List (Option (Nat × List (List AV)))) (i z:Nat) (es es':List (List AV)) (K:List (Option (Nat × List (List AV)))->Prop):Prop:=es'.length=es.length/\K (rows.set i (some (z,es')))
def E7 (a b:Int) (bytes:Nat) (K:List (Option (Nat × List (List AV)))->Nat->Prop):Prop:=(0<=a/\a<=b/\b*bytes<=F3/\b<=9223372036854775807)/\K (List.replicate a.toNat none) a.toNat
def FM (rows:List (Option (Nat × List (List AV)))) (len:Nat) (r:Option (Nat × List (List AV))) (bytes:Nat) (K:List (Option (Nat × List (List AV)))->Nat->Prop):Prop :=
 len=rows.length/\(len+1)*bytes<=F3/\len+1<=9223372036854775807/\K (rows++[r]) (len+1)
def WI (q:Bool):List (Option (Nat × List (List AV)))->List (List AV)
 | []=>[]
 | none::r=>[.sl false []]::WI q r
 | some (_,es)::r=>[.sl q es]::WI q r
def EZ (q:Bool) (rows:List (Option (Nat × List (List AV)))) (off len:Nat) (K:List (List AV)->Prop):Prop :=
 off=0/\len=rows.length/\(∀ z es,some (z,es)∈rows -> ∀ e∈es,IW e=true)/\K (WI q rows)
def DR (lo hi:Option Int) (len:Nat) (K:Nat->Nat->Prop):Prop :=
 ∃ a h:Nat,(match lo with|none=>a=0|some x=>0<=x/\a=x.toNat)/\(match hi with|none=>h=len|some x=>0<=x/\x<=len/\h=x.toNat)/\a<=h/\K a h
def EF (z:Nat) (es:List (List AV)) (lo hi:Option Int) (K:List (List AV)->Prop):Prop:=(∀ e∈es,e.length=z)/\DR lo hi es.length λ a h=>K ((es.take h).drop a)
def AR (L:Lib) (f:Nat) (vs:List AV) (K:AV->Prop):Prop := ∃ r,Ev L f vs r/\K r
def Ng (n:Nat) (cs ds:List AV) (K:Bool->Prop):Prop := ∃ a b,K5 cs=some a/\K5 ds=some b/\a.length=n/\b.length=n/\K (decide (a=b))
def iA:List AV->Bool
 | []=>true
 | .int _ _::r=>iA r
 | _=>false
def FE (L:Lib) (f:Nat) (vs:List AV) (K:Nat->List (List AV)->Nat->Prop):Prop := ∃ z es n,UE L f vs z es/\n=es.length/\K z es n
abbrev II:=Nat->Nat->Nat × Nat
def CZ (σ:II):AV->AV
 | .row k t z o n => .row (σ k t).1 (σ k t).2 z o n
 | .ptr k t i j => .ptr (σ k t).1 (σ k t).2 i j
 | v=>v
def DP (σ:II):AV->AV
 | .agg cs => .agg (cs.map (CZ σ))
 | .fn p f g cs => .fn p f g (cs.map (CZ σ))
 | v=>CZ σ v
def C9 (σ:II):AV->AV
 | .tup vs => .tup (vs.map (DP σ))
 | v=>DP σ v
def DZ (σ:II) (k:Nat):Nat->List (Option (Nat × List (List AV)))->List (List AV)
 | _,[]=>[]
 | i,none::r=>[.nil]::DZ σ k (i+1) r
 | i,some (z,es)::r=>[.row (σ k (i+1)).1 (σ k (i+1)).2 z 0 es.length]::DZ σ k (i+1) r
def CQ.blk (σ:II) (k:Nat):CQ->GH
 | .bx cs=>⟨cs.length,[cs.map (CZ σ)]⟩
 | .rw z es=>⟨z,es⟩
 | .bs z es=>⟨z,es.map λ cs=>cs.map (CZ σ)⟩
 | .mx rows=>⟨1,DZ σ k 0 rows⟩
 | .hx i v rows=>⟨1,(DZ σ k 0 rows).set i [v]⟩
 | .vw w rows=>⟨1,w.map λ t=>((DZ σ k 0 rows)[t]?).getD []⟩
def CQ.gm:CQ->Bool
 | .bx _=>false
 | _=>true
def HM (s:Nat):Bool:=Nat.blt s 900000
structure NR (σ:II) (own:BT) (M:Mem):Prop where
 site : ∀ k s c,c5 M k=some (s,c)->(σ k 0).1=s
 blk : ∀ k t c,b7 M k t=some c->(own (σ k t).1).blk (σ k t).2=some (c.blk σ k)
 old : ∀ k t c,b7 M k t=some c->(σ k t).2<(own (σ k t).1).e5
 inj : ∀ k t k' t' c c',b7 M k t=some c->b7 M k' t'=some c'->σ k t=σ k' t'->k=k'/\t=t'
 low : ∀ k t c,b7 M k t=some c->c.gm=true->HM (σ k t).1=true
structure RX (σ:II) (tm:Tm) (M:Mem) (st:St):Prop where
 tm : ∀ j,tg tm j = .any\/c9 st.tm j=C9 σ (tg tm j)
 sat:NR σ st.own M
def SQ (Q:Tm->Mem->Prop) (st:St):Prop := ∃ σ tm M,RX σ tm M st/\Q tm M
def AH (L:Lib) (k:List It) (tm:Tm) (M:Mem) (Q:Tm->Mem->Prop):Prop := ∀ σ st,RX σ tm M st->AK L k st (SQ Q)
def rV (L:Lib) (l:List AI) (k:List It) (tm:Tm) (M:Mem) (Q:Tm->Mem->Prop):Prop := ∀ σ st,RX σ tm M st->AO L l k st (SQ Q)
def CW (L:Lib) (f:Nat) (vs:List AV) (tm:Tm) (M:Mem) (K:AV->Mem->Prop):Prop :=
 ∀ σ own,NR σ own M -> ∃ r l8 σ' M',JL L f (vs.map (C9 σ)) own (C9 σ' r) l8/\NR σ' l8 M'/\(∀ j,C9 σ' (tg tm j)=C9 σ (tg tm j))/\K r M'
def Lk (L:Lib) (s f key:Nat) (rest:List AV) (M:Mem) (K:AV->Mem->Prop):Prop :=
 ∃ (cells bu:List AV) (kd:IntKind) (n:Int),c5 M key=some (s,.bx cells)/\G1 cells=true/\G1 bu=true/\(∀ (t:Nat) (q:D9),q.blk t=some ⟨cells.length,[cells]⟩->sD L s f (.ptr s t 0 0::rest) q (.int kd n) (q.n7 t (some ⟨bu.length,[bu]⟩)))/\K (.int kd n) ((key,s,.bx bu)::M)
def cv:AV->AV
 | .agg cs=>bif G1 cs then .agg cs else .any
 | .tup [] => .tup []
 | .o6 _ => .any
 | .fn p f g [] => .fn p f g []
 | v=>bif kn v then v else .any
def ex (tm:Tm):B8->AV
 | .t n=>tg tm n
 | .c v=>cv v
def kq (k k':IntKind):Bool:=decide (k=k')
def kT (op:BinOp) (k:IntKind) (a:Int) (k':IntKind) (b:Int) (K:AV->Prop):Prop:=match op with
 | .lss=>bif kq k k' then BJ (a<b) (b<=a) (K (.bool true)) (K (.bool false)) else False
 | .leq=>bif kq k k' then BJ (a<=b) (b<a) (K (.bool true)) (K (.bool false)) else False
 | .gtr=>bif kq k k' then BJ (b<a) (a<=b) (K (.bool true)) (K (.bool false)) else False
 | .geq=>bif kq k k' then BJ (b<=a) (a<b) (K (.bool true)) (K (.bool false)) else False
 | .eql=>bif kq k k' then BJ (a=b) (a≠b) (K (.bool true)) (K (.bool false)) else False
 | .neq=>bif kq k k' then BJ (a≠b) (a=b) (K (.bool true)) (K (.bool false)) else False
 | op=>BD op k a k' b K
noncomputable def XV (mx:Bool) (k:IntKind) (K:AV->Prop) (a:Int) (l:List AV):Prop :=
 List.rec (motive:=λ_=>Int->Prop) (λ a=>K (.int k a)) (λ v _ ih a=>match v with
  | .int _ b=>bif mx then BJ (a<b) (b<=a) (ih b) (ih a) else BJ (b<a) (a<=b) (ih b) (ih a)
  | _=>False) l a
def od:List AV->Nat->AV
 | [],_ => .any
 | v::_,0=>v
 | _::r,n+1=>od r n
def WE (s:Nat):List Nat->Bool
 | []=>true
 | b9 => !(U8 s b9)
def X1:List Nat->Bool
 | []=>true
 | s::r=>bif HM s then false else X1 r
def pP (M:Mem) (k t:Nat) (K:Nat->List (List AV)->Prop):Prop:=match c5 M k with
 | some (_,c)=>match t with
  | 0=>match c with
   | .rw z es=>K z es
   | _=>False
  | i+1=>match c with
   | .mx rows=>DB rows i K
   | _=>False
 | none=>False
def bV (M:Mem) (v:AV) (K:List (List AV)->Prop):Prop:=match v with
 | .sl _ es=>K es
 | .nil=>K []
 | .z9 (.bool _)=>K []
 | .row key t z off len=>pP M key t λ z' es=>bif Nat.beq z z' then DS es off len K else False
 | _=>False
def YM (q:Bool) (M:Mem) (b9:List Nat) (v:AV) (K:AV->Prop):Prop:=match v with
 | .int k n=>K (.int k n)
 | .bool b=>K (.bool b)
 | .sl l es=>K (.sl l es)
 | .z9 c=>K (.z9 c)
 | .nil=>K (.sl false [])
 | .row key t z off len=>match c5 M key with
  | some (s,.rw z' es)=>match t with
   | 0=>bif Nat.beq z z' then bif WE s b9 then CR es off len λ es=>K (.sl q es) else False else False
   | _+1=>False
  | some (_,.mx rows)=>match t with
   | 0=>False
   | i+1=>match b9 with
    | []=>DB rows i λ z' es=>bif Nat.beq z z' then CR es off len λ es=>K (.sl q es) else False
    | b::r=>bif X1 (b::r) then DB rows i λ z' es=>bif Nat.beq z z' then CR es off len λ es=>K (.sl q es) else False else False
  | _=>False
 | _=>False
noncomputable def jI (q:Bool) (M:Mem) (b9:List Nat) (l:List AV):(List AV->Prop)->Prop :=
 List.rec (motive:=λ_=>(List AV->Prop)->Prop) (λ K=>K []) (λ v _ ih K=>YM q M b9 v λ v'=>ih λ r'=>K (v'::r')) l
noncomputable def qF (q:Bool) (M:Mem) (b9:List Nat) (l:List (List AV)):(List (List AV)->Prop)->Prop :=
 List.rec (motive:=λ_=>(List (List AV)->Prop)->Prop) (λ K=>K []) (λ v _ ih K=>jI q M b9 v λ v'=>ih λ r'=>K (v'::r')) l
noncomputable def dM (q:Bool) (M:Mem) (b9:List Nat) (v:AV) (K:AV->Prop):Prop:=match v with
 | .row key 0 z off len=>match c5 M key with
  | some (s,.bs z' es)=>bif Nat.beq z z' then bif WE s b9 then bif Nat.beq off 0 then B1 (len=es.length) (qF q M b9 es λ es=>K (.sl q es)) else False else False else False
  | some (_,.mx rows)=>match b9 with
   | []=>bif Nat.beq z 1 then EZ q rows off len λ es=>K (.sl q es) else False
   | _::_=>False
  | _=>YM q M b9 (.row key 0 z off len) K
 | v=>YM q M b9 v K
noncomputable def qG (q:Bool) (M:Mem) (b9:List Nat) (l:List AV):(List AV->Prop)->Prop :=
 List.rec (motive:=λ_=>(List AV->Prop)->Prop) (λ K=>K []) (λ v _ ih K=>dM q M b9 v λ v'=>ih λ r'=>K (v'::r')) l
noncomputable def WJ (q:Bool) (M:Mem) (b9:List Nat) (v:AV) (K:AV->Prop):Prop:=match v with
 | .agg cs=>qG q M b9 cs λ cs=>K (.agg cs)
 | v=>dM q M b9 v K
noncomputable def jK (tm:Tm) (M:Mem) (b9:List Nat) (l:List B8):(List AV->Prop)->Prop :=
 List.rec (motive:=λ_=>(List AV->Prop)->Prop) (λ K=>K []) (λ x _ ih K=>WJ true M b9 (ex tm x) λ v=>ih λ vs=>K (v::vs)) l
noncomputable def jJ (M:Mem) (b9:List Nat) (v:AV) (K:AV->Prop):Prop:=match v with
 | .nil=>K .nil
 | v=>WJ true M b9 v K
noncomputable def qH (tm:Tm) (M:Mem) (b9:List Nat) (l:List B8):(List AV->Prop)->Prop :=
 List.rec (motive:=λ_=>(List AV->Prop)->Prop) (λ K=>K []) (λ x _ ih K=>jJ M b9 (ex tm x) λ v=>ih λ vs=>K (v::vs)) l
noncomputable def ZQ (tm:Tm) (l:List B8):(List AV->Prop)->Prop :=
 List.rec (motive:=λ_=>(List AV->Prop)->Prop) (λ K=>K []) (λ x _ ih K=>fV (ex tm x) λ v=>ih λ vs=>K (v::vs)) l
def iO (tm:Tm) (o:Option B8) (K:Option Int->Prop):Prop:=match o with
 | none=>K none
 | some x=>match ex tm x with
  | .int _ n=>K (some n)
  | _=>False
def oC (es:List (List AV)) (K:Nat->Prop):Prop:=match es with
 | []=>K 0
 | [_]=>K 1
 | [_,_]=>K 2
 | [_,_,_]=>K 3
 | [_,_,_,_]=>K 4
 | es=>K es.length
noncomputable def kW (tm:Tm) (z:Nat) (l:List B8):(List (List AV)->Prop)->Prop :=
 List.rec (motive:=λ_=>(List (List AV)->Prop)->Prop) (λ K=>K []) (λ x _ ih K=>fC (ex tm x) λ cs=>bif Nat.beq cs.length z then ih λ es=>K (cs::es) else False) l
noncomputable def nG (tm:Tm) (ps:List (Nat × Nat × B8)):List AV->(List AV->Prop)->Prop :=
 List.rec (motive:=λ_=>List AV->(List AV->Prop)->Prop) (λ cells K=>K cells) (λ p _ ih cells K=>fC (ex tm p.2.2) λ vs=>bif Nat.beq vs.length p.2.1 then bif Nat.ble (p.1+p.2.1) cells.length then fL (splice cells p.1 vs) λ cells=>ih cells K else False else False) ps
def V4 (tm:Tm):List B8->List AV
 | []=>[]
 | x::r=>ex tm x::V4 tm r
def W3 (tb:List Nat) (n:Int) (K:Nat->Prop):Prop:=0<=n /\ ∃ v,tb[n.toNat]? = some v/\K v
noncomputable def oO (tm:Tm) (l:List B8):(List AV->Prop)->Prop :=
 List.rec (motive:=λ_=>(List AV->Prop)->Prop) (λ K=>K []) (λ x _ ih K=>fF (ex tm x) λ v=>ih λ cs=>K (v::cs)) l
def oU:AV->Bool
 | .agg _=>false | .fn _ _ _ _=>false | .tup _=>false | .any=>false
 | _=>true
def cV:List AV->Bool
 | []=>true
 | v::r=>bif oU v then cV r else false
def W6 (M:Mem) (v:AV):Option (Nat × Option (Nat × Nat × Nat)):=match v with
 | .row ky 0 1 0 1=>match c5 M ky with
  | some (_,.bs 1 [[.row k2 0 z 0 n]])=>some (ky,some (k2,z,n))
  | some (_,.rw 1 [[.nil]])=>some (ky,none)
  | _=>none
 | _=>none
def qP (tm:Tm) (M:Mem) (K:AV->Mem->Prop) (n:Nat) (x v:B8):Prop:=match ex tm x with
 | .ptr key t i j=>fC (ex tm v) λ vs=>bif Nat.beq vs.length n then (match c5 M key with
  | some (s,c)=>match t with
   | 0=>match c with
    | .bx cs=>bif Nat.beq i 0 then bif Nat.ble (j+vs.length) cs.length then fL (splice cs j vs) λ az=>K (.tup []) ((key,s,.bx az)::M) else False else False
    | .rw z es=>bif G1 vs then CU es i j vs λ es'=>K (.tup []) ((key,s,.rw z es')::M) else False
    | .bs _ _=>False
    | .mx rows=>match vs with
     | [.row q9 0 z 0 m]=>bif Nat.beq key q9 then False else bif MS key tm then False else bif LH key M then False else bif Nat.beq j 0 then (match c5 M q9 with
      | some (_,.rw z' es)=>bif Nat.beq z z' then fM (n6 q9 M) λ M'=>B1 (m=es.length) (EP rows i z es λ o3=>K (.tup []) ((key,s,.mx o3)::M')) else False
      | _=>False) else False
     | [.row q9 (t2+1) z 0 m]=>bif Nat.beq key q9 then bif Nat.beq j 0 then DB rows t2 λ z' es=>bif Nat.beq z z' then B1 (m=es.length/\i<rows.length) (K (.tup []) ((key,s,.vw ((List.range rows.length).set i t2) rows)::M)) else False else False else False
     | _=>False
    | .hx i0 _ rows=>match vs with
     | [.row q9 0 z 0 m]=>bif Nat.beq key q9 then False else bif MS key tm then False else bif LH key M then False else bif Nat.beq j 0 then (match c5 M q9 with
      | some (_,.rw z' es)=>bif Nat.beq z z' then fM (n6 q9 M) λ M'=>B1 (i=i0/\m=es.length) (EP rows i z es λ o3=>K (.tup []) ((key,s,.mx o3)::M')) else False
      | _=>False) else False
     | _=>False
    | .vw w rows=>match vs with
     | [.row q9 (t2+1) z 0 m]=>bif Nat.beq key q9 then bif Nat.beq j 0 then DB rows t2 λ z' es=>bif Nat.beq z z' then B1 (m=es.length/\i<w.length /\ ∀ t∈w,t<rows.length) (K (.tup []) ((key,s,.vw (w.set i t2) rows)::M)) else False else False else False
     | _=>False
   | i'+1=>match c with
    | .mx rows=>bif G1 vs then DB rows i' λ z es=>CU es i j vs λ es'=>EV rows i' z es es' λ o3=>K (.tup []) ((key,s,.mx o3)::M) else False
    | _=>False
  | none=>False) else False
 | _=>False
def D5 (r:AV) (K:AV->Prop):Prop:=aM r/\K (ka r)
noncomputable def XE (L:Lib) (tm:Tm) (M:Mem) (b9:List Nat) (K:AV->Mem->Prop):GN->Prop
 | .a8 x=>fV (ex tm x) λ v=>K v M
 | .q7 s z=>bif HM s then I5 s tm M λ k=>K (.row k 0 z 0 0) ((k,s,.rw z [])::M) else False
 | .pick c a b=>match ex tm c with
  | .bool true=>fV (ex tm a) λ v=>K v M
  | .bool false=>fV (ex tm b) λ v=>K v M
  | _=>False
 | .bin op x y=>match ex tm x,ex tm y with
  | .int k a,.int k' b=>kT op k a k' b λ v=>K v M
  | _,_=>False
 | .ke ne n x y=>match ex tm x,ex tm y with
  | .agg cs,.agg ds=>Ng n cs ds λ b=>fB (bif ne then !b else b) λ c=>K (.bool c) M
  | _,_=>False
 | .beq ne x y=>match ex tm x,ex tm y with
  | .bool a,.bool b=>fB (bif ne then !(a == b) else a == b) λ c=>K (.bool c) M
  | _,_=>False
 | .un op x=>match ex tm x with
  | .int k n=>E6 op k n λ v=>K v M
  | .bool b=>match op with
   | .not=>fB (!b) λ c=>K (.bool c) M
   | _=>False
  | _=>False
 | .conv k x=>match ex tm x with
  | .int _ n=>CF k n λ v=>K (.int k v) M
  | _=>False
 | .box s x=>fC (ex tm x) λ cs=>I5 s tm M λ k=>K (.ptr k 0 0 0) ((k,s,.bx cs)::M)
 | .alloc s zero=>bif G1 zero then (I5 s tm M λ k=>K (.ptr k 0 0 0) ((k,s,.bx zero)::M)) else False
 | .build zero parts=>bif G1 zero then nG tm parts zero λ cs=>K (.agg cs) M else False
 | .c4 s z parts=>bif HM s then kW tm z parts λ es=>oC es λ n=>I5 s tm M λ k=>bif bN es then K (.row k 0 z 0 n) ((k,s,.rw z es)::M) else K (.row k 0 z 0 n) ((k,s,.bs z es)::M) else False
 | .a7 x off=>match ex tm x with
  | .ptr key t i j=>K (.ptr key t i (j+off)) M
  | .o6 cs=>fL (cs.drop off) λ cs=>K (.o6 cs) M
  | _=>False
 | .gx x off n agg=>match ex tm x with
  | .agg cs=>match part cs off n with
   | some ds=>fL ds λ ds=>jd agg ds λ v=>K v M
   | none=>False
  | _=>False
 | .a4 arr z x i=>match ex tm i with
  | .int _ n=>match arr,ex tm x with
   | some len,.ptr key t i' j=>B1 (0<=n/\n<(len:Int)) (K (.ptr key t i' (j+n.toNat*z)) M)
   | some len,.o6 cs=>B1 (0<=n/\n<(len:Int)) (fL (cs.drop (n.toNat*z)) λ cs=>K (.o6 cs) M)
   | none,.row key t z' off len=>bif Nat.beq z' z then B1 (0<=n/\n<(len:Int)) (K (.ptr key t (off+n.toNat) 0) M) else False
   | none,.sl _ es=>CI es n z λ cs=>K (.o6 cs) M
   | _,_=>False
  | _=>False
 | .idx len z agg x i=>match ex tm i,ex tm x with
  | .int _ n,.agg cs=>B1 (0<=n/\n<(len:Int)) (match part cs (n.toNat*z) z with
   | some ds=>fL ds λ ds=>jd agg ds λ v=>K v M
   | none=>False)
  | _,_=>False
 | .ld agg n x=>match ex tm x with
  | .ptr key t i j=>match c5 M key with
   | some (s,c)=>match t with
    | 0=>bif WE s b9 then (match c with
     | .bx cs=>bif Nat.beq i 0 then (match part cs j n with
      | some ds=>fL ds λ ds=>jd agg ds λ v=>K v M
      | none=>False) else False
     | .rw _ es=>CY es i j n λ ds=>fL ds λ ds=>bif G1 ds then jd agg ds λ v=>K v M else False
     | .bs _ es=>(match es[i]? with
      | some cs=>(match part cs j n with
       | some ds=>fL ds λ ds=>jd agg ds λ v=>K v M
       | none=>False)
      | none=>False)
     | .mx rows=>bif Nat.beq j 0 then bif Nat.beq n 1 then DC rows i λ r=>match r with
      | some (z,es)=>jd agg [.row key (i+1) z 0 es.length] λ v=>K v M
      | none=>jd agg [.nil] λ v=>K v M else False else False
     | .hx _ _ _=>False
     | .vw _ _=>False) else False
    | i'+1=>match c,b9 with
     | .mx rows,[]=>DB rows i' λ_ es=>CY es i j n λ ds=>fL ds λ ds=>bif G1 ds then jd agg ds λ v=>K v M else False
     | .mx rows,b::r=>bif X1 (b::r) then DB rows i' λ_ es=>CY es i j n λ ds=>fL ds λ ds=>bif G1 ds then jd agg ds λ v=>K v M else False else False
     | _,_=>False
   | none=>False
  | .o6 cs=>match part cs 0 n with
   | some ds=>fL ds λ ds=>bif G1 ds then jd agg ds λ v=>K v M else False
   | none=>False
  | _=>False
 | .st n x v=>qP tm M K n x v
 | .gu s n x v=>match ex tm x with
  | .ptr key 0 _ _=>(match c5 M key with
   | some (s',_)=>bif Nat.beq s' s then qP tm M K n x v else False
   | none=>False)
  | _=>False
 | .l9 f xs=>ZQ tm xs λ vs=>bif vs.all dq then AR L f (vs.map nb) λ r=>D5 r λ r=>K r M else False
 | .mk s z bytes zero l c=>match ex tm l,ex tm c with
  | .int _ a,.int _ b=>bif Nat.beq zero.length z then bif G1 zero then match zero with
   | [.nil]=>bif HM s then E7 a b bytes λ rows n=>I5 s tm M λ k=>K (.row k 0 z 0 n) ((k,s,.mx rows)::M) else False
   | zero=>bif HM s then (DX a b bytes zero λ es n=>I5 s tm M λ k=>K (.row k 0 z 0 n) ((k,s,.rw z es)::M)) else False else False else False
  | _,_=>False
 | .ay z x lo hi=>iO tm lo λ lo=>iO tm hi λ hi=>match ex tm x with
  | .sl l es=>EF z es lo hi λ es=>K (.sl l es) M
  | .row key t z' off len=>bif Nat.beq z' z then DR lo hi len λ a h=>K (.row key t z (off+a) (h-a)) M else False
  | .nil=>(match lo,hi with
   | none,none=>K .nil M
   | some a,none=>B1 (a=0) (K .nil M)
   | none,some h=>B1 (h=0) (K .nil M)
   | some a,some h=>B1 (a=0/\h=0) (K .nil M))
  | _=>False
 | .ext x i=>match ex tm x with
  | .tup vs=>f2 (od vs i) λ v=>K v M
  | _=>False
 | .len x=>match ex tm x with
  | .sl _ es=>B5 es λ n=>K (.int .i64 (n:Int)) M
  | .nil=>K (.int .i64 0) M
  | .row _ _ _ _ n=>K (.int .i64 (n:Int)) M
  | _=>False
 | .mm mx xs=>match V4 tm xs with
  | .int k a::r=>XV mx k (λ v=>K v M) a r
  | _=>False
 | .app s z bytes x y=>match W6 M (ex tm y) with
  | some (ky,some (k2,z2,n2))=>match ex tm x with
   | .row key 0 z' off len=>bif Nat.beq off 0 then bif Nat.beq z' 1 then bif Nat.beq z 1 then bif Nat.beq key k2 then False else bif Nat.beq key ky then False else bif Nat.beq k2 ky then False else (match c5 M k2 with
    | some (_,.rw z3 es)=>bif Nat.beq z2 z3 then (match c5 M key with
     | some (s',.mx rows)=>fM (n6 key (n6 k2 (n6 ky M))) λ M'=>B1 (n2=es.length) (FM rows len (some (z2,es)) bytes λ o3 n=>I5 s tm M λ k=>K (.row k 0 z 0 n) ((k,s',.mx o3)::M'))
     | _=>False) else False
    | _=>False) else False else False else False
   | .nil=>bif HM s then bif Nat.beq z 1 then (match c5 M k2 with
    | some (_,.rw z3 es)=>bif Nat.beq z2 z3 then fM (n6 k2 M) λ M'=>B1 (n2=es.length/\bytes<=140737488355328) (I5 s tm M λ k=>K (.row k 0 z 0 1) ((k,s,.mx [some (z2,es)])::M')) else False
    | _=>False) else False else False
   | _=>False
  | some (ky,none)=>match ex tm x with
   | .row key 0 z' off len=>bif Nat.beq off 0 then bif Nat.beq z' 1 then bif Nat.beq z 1 then bif Nat.beq key ky then False else (match c5 M key with
     | some (s',.mx rows)=>fM (n6 key M) λ M'=>FM rows len none bytes λ o3 n=>I5 s tm M λ k=>K (.row k 0 z 0 n) ((k,s',.mx o3)::M')
     | _=>False) else False else False else False
   | .nil=>bif HM s then bif Nat.beq z 1 then B1 (bytes<=140737488355328) (I5 s tm M λ k=>K (.row k 0 z 0 1) ((k,s,.mx [none])::M)) else False else False
   | _=>False
  | none=>bV M (ex tm y) λ ys=>match ex tm x with
   | .row key 0 z' off len=>bif Nat.beq off 0 then bif Nat.beq z' z then (match c5 M key with
    | some (s',.rw w9 es)=>bif Nat.beq w9 z then fM (n6 key M) λ M'=>(DT es len ys z bytes λ es' n=>I5 s tm M λ k=>K (.row k 0 z 0 n) ((k,s',.rw z es')::M')) else False
    | _=>False) else False else False
   | .row key (i+1) z' off len=>bif Nat.beq off 0 then bif Nat.beq z' z then (match c5 M key with
    | some (sk,.mx rows)=>fM (n6 key M) λ M'=>DB rows i λ w9 es=>bif Nat.beq w9 z then (DT es len ys z bytes λ es' n => ∀ s' v,I5 s tm M λ k=>K (.row k 0 z 0 n) ((k,s',.rw z es')::(key,sk,.hx i v (rows.set i none))::M')) else False
    | _=>False) else False else False
   | .nil=>bif HM s then EN ys z bytes λ es n=>I5 s tm M λ k=>K (.row k 0 z 0 n) ((k,s,.rw z es)::M) else False
   | _=>False
 | .al s z bytes x y=>match ex tm y with
  | .sl _ ys=>match ex tm x with
   | .row key 0 z' off len=>bif Nat.beq off 0 then bif Nat.beq z' z then (match c5 M key with
    | some (s',.rw w9 es)=>bif Nat.beq s' s then bif Nat.beq w9 z then fM (n6 key M) λ M'=>(DT es len ys z bytes λ es' n=>I5 s tm M λ k=>K (.row k 0 z 0 n) ((k,s',.rw z es')::M')) else False else False
    | _=>False) else False else False
   | _=>False
  | _=>False
 | .iq z x y=>bV M (ex tm y) λ ys=>match ex tm x with
  | .row key 0 z' off len=>bif Nat.beq z' z then (match c5 M key with
   | some (s',.rw w9 es)=>bif Nat.beq w9 z then GS es off len ys z λ es' n=>K (.int .i64 (n:Int)) ((key,s',.rw z es')::M) else False
   | _=>False) else False
  | _=>False
 | .call f xs=>jK tm M b9 xs λ vs=>AR L f vs λ r=>K r M
 | .c8 f xs=>ZQ tm xs λ vs=>CW L f vs tm M K
 | .o0 s f xs=>bif HM s then qH tm M b9 xs λ vs=>FE L f vs λ z es n=>I5 s tm M λ k=>K (.row k 0 z 0 n) ((k,s,.rw z es)::M) else False
 | .jz ne x=>match ex tm x with
  | .nil=>fB (xor true ne) λ c=>K (.bool c) M
  | .z9 (.bool b)=>fB (xor b ne) λ c=>K (.bool c) M
  | .sl _ es=>B1 (es≠[]) (fB (xor false ne) λ c=>K (.bool c) M)
  | .row _ _ _ _ n=>B1 (0<n) (fB (xor false ne) λ c=>K (.bool c) M)
  | _=>False
 | .bad=>False
 | .kj x=>match ex tm x with
  | .ptr key t i j=>K (.ptr key t i j) M
  | _=>False
 | .bh x=>match ex tm x with
  | .nil=>K (.int .i64 0) M
  | _=>False
 | .gv s z bytes x y=>match ex tm x,ex tm y with
  | .nil,.int _ n=>bif HM s then B1 (0<n/\n*bytes<=F3/\n<=9223372036854775807) (I5 s tm M λ k=>K (.row k 0 z 0 n.toNat) ((k,s,.rw z [])::M)) else False
  | _,_=>False
 | .x9 s f xs=>ZQ tm xs λ vs=>match vs with
  | .ptr key 0 0 0::rest=>bif iA rest then Lk L s f key rest M K else False
  | _=>False
 | .il s z bytes x y=>match ex tm x,ex tm y with
  | .nil,.sl _ ys=>bif HM s then EN ys z bytes λ es n=>B1 (0<n) (I5 s tm M λ k=>K (.row k 0 z 0 n) ((k,s,.rw z es)::M)) else False
  | _,_=>False
 | .cr tb x=>match ex tm x with
  | .int _ n=>W3 tb n λ v=>K (.int .u8 v) M
  | _=>False
 | .jc p f xs=>oO tm xs λ cs=>K (.fn p f (L.num f) cs) M
 | .n8 x xs=>match ex tm x with
  | .fn true f g []=>B1 (g=L.num f) (jK tm M [] xs λ vs=>AR L f vs λ r=>K r M)
  | .fn false f g cs=>bif cV cs then B1 (g=L.num f) (ZQ tm xs λ vs=>fL (vs++cs) λ vs=>CW L f vs tm M K) else False
  | _=>False
def tv (key:Nat):Tm->Tm
 | []=>[]
 | (j,v)::r=>bif VX key v then (j,.any)::tv key r else (j,v)::tv key r
def xk (v:AV) (tm:Tm) (K:Tm->Prop):Prop:=match v with
 | .row key (_+1) _ _ _=>fT (tv key tm) K
 | _=>K tm
noncomputable def XI (L:Lib) (o:AI) (ih:(Tm->Mem->Prop)->Tm->Mem->Prop) (K:Tm->Mem->Prop) (tm:Tm) (M:Mem):Prop:=match o with
 | ⟨some d,.app s z b x y,none,b9⟩=>XE L tm M b9 (λ v M=>xk (ex tm x) tm λ tm=>ih K ((d,v)::tm) M) (.app s z b x y)
 | ⟨some d,op,none,b9⟩=>XE L tm M b9 (λ v M=>ih K ((d,v)::tm) M) op
 | ⟨none,op,none,b9⟩=>XE L tm M b9 (λ_ M=>ih K tm M) op
 | ⟨dst,op,some (g,w),b9⟩=>match tg tm g with
  | .bool b=>fB (b == w) λ c=>match c,dst with
   | true,some d=>XE L tm M b9 (λ v M=>ih K ((d,v)::tm) M) op
   | true,none=>XE L tm M b9 (λ_ M=>ih K tm M) op
   | false,some d=>ih K ((d,.tup [])::tm) M
   | false,none=>ih K tm M
  | .tup []=>match dst with
   | some d=>ih K ((d,.tup [])::tm) M
   | none=>ih K tm M
  | _=>False
noncomputable def XO (L:Lib) (l:List AI):(Tm->Mem->Prop)->Tm->Mem->Prop :=
 List.rec (motive:=λ_=>(Tm->Mem->Prop)->Tm->Mem->Prop) (λ K tm M=>K tm M) (λ o _ ih K tm M=>XI L o ih K tm M) l
noncomputable def XS (L:Lib) (Q:Tm->Mem->Prop) (ih:List It->Tm->Mem->Prop) (k:List It) (tm:Tm) (M:Mem):Prop:=match k with
 | []=>Q tm M
 | it::k=>match it with
  | .blk _=>ih k tm M
  | .er ts ss=>fN (mask 0 ts) λ m=>fT (mo m tm) λ tm=>match ss with
   | []=>ih k tm M
   | _::_=>False
  | .lp c=>AH L (.lp c::k) tm M Q
  | .code c=>match c with
   | .skip=>ih k tm M
   | .ops l _=>XO L l (λ tm M=>ih k tm M) tm M
   | .dr c ts ss=>ih (.code c :: .er ts ss::k) tm M
   | .scope c=>ih (.code c::k) tm M
   | .seq a b=>ih (.code a :: .code b::k) tm M
   | .cond x a b=>match ex tm x with
    | .bool b'=>fB b' λ c=>match c with
     | true=>ih (.code a::k) tm M
     | false=>ih (.code b::k) tm M
    | _=>False
   | .block id c=>ih (.code c :: .blk id::k) tm M
   | .loop c=>AH L (.lp c::k) tm M Q
   | .exit id=>match GJ id k with
    | some k'=>ih k' tm M
    | none=>False
   | .ret=>Q tm M
noncomputable def XK (L:Lib) (Q:Tm->Mem->Prop) (n:Nat):List It->Tm->Mem->Prop :=
 Nat.rec (motive:=λ_=>List It->Tm->Mem->Prop) (λ k tm M=>AH L k tm M Q) (λ_ ih k tm M=>XS L Q ih k tm M) n
def dH (tm:Tm) (M:Mem) (r:ML) (K:AV->Prop):Prop:=match r with
 | .tmp t=>f2 (tg tm t) K
 | .cell t agg n=>match tg tm t with
  | .ptr key 0 i j=>match c5 M key with
   | some (_,.bx cs)=>bif Nat.beq i 0 then (match part cs j n with
    | some ds=>fL ds λ ds=>jd agg ds K
    | none=>False) else False
   | _=>False
  | _=>False
noncomputable def iV (tm:Tm) (M:Mem) (l:List ML):(List AV->Prop)->Prop :=
 List.rec (motive:=λ_=>(List AV->Prop)->Prop) (λ K=>K []) (λ x _ ih K=>dH tm M x λ v=>ih λ vs=>K (v::vs)) l
noncomputable def qD (q:Bool) (M:Mem) (l:List AV):(List AV->Prop)->Prop :=
 List.rec (motive:=λ_=>(List AV->Prop)->Prop) (λ K=>K []) (λ x _ ih K=>WJ q M [] x λ v=>ih λ vs=>K (v::vs)) l
def Kl (vs:List AV) (K:AV->Prop):Prop:=match vs with
 | [v]=>K v
 | vs=>K (.tup vs)
def BW (a r:AV):Prop:=a=r/\CS r
noncomputable def VV (fn:AFn) (r:AV) (tm:Tm) (M:Mem):Prop:=iV tm M fn.res λ vs=>qD false M vs λ vs=>Kl vs λ v=>BW v r
end Go.Eng
