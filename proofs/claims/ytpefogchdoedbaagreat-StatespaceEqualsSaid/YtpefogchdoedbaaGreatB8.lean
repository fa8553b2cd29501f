/-
  Systems of rational numbers, plain: sizes, products, responses.
-/
import Derived.Test.YtpefogchdoedbaaGreatB7
import Derived.Test.YtpefogchdoedbaaGreatB3
import Derived.Test.YtpefogchdoedbaaGreatB5
import Derived.Test.YtpefogchdoedbaaGreatB4
set_option linter.unusedSimpArgs false
set_option linter.unusedVariables false
set_option linter.unnecessarySimpa false
namespace Go.Eng
def Bt (k:Nat) (x:Rat):Prop:=x.num.natAbs<=2^k/\x.den<=2^k
theorem Bt.le {k l:Nat} {x:Rat} (h:Bt k x) (hl:k<=l):Bt l x:=by
 have:=Nat.pow_le_pow_right (show 0<2 by omega) hl
 exact ⟨Nat.le_trans h.1 this,Nat.le_trans h.2 this⟩
theorem Bt.mk {k:Nat} {z:Int} {d:Nat} (hz:z.natAbs<=2^k) (hd:d<=2^k):Bt k (mkRat z d):=by
 by_cases h0:d=0
 ·subst h0
  rw[Rat.mkRat_zero]
  exact ⟨by simp,by simp;exact Nat.one_le_two_pow⟩
 ·obtain ⟨e1,e2,_⟩:=bS (z:=z) h0
  unfold Bt
  rw[e1,e2]
  exact ⟨Nat.le_trans (Nat.div_le_self _ _) hz,Nat.le_trans (Nat.div_le_self _ _) hd⟩
theorem Bt.add {k l:Nat} {x y:Rat} (hx:Bt k x) (hy:Bt l y):Bt (k+l+1) (x+y):=by
 rw[Rat.add_def']
 refine Bt.mk ?_ ?_
 ·have h1:(x.num*y.den).natAbs<=2^k*2^l:=by rw[Int.natAbs_mul,Int.natAbs_natCast];exact Nat.mul_le_mul hx.1 hy.2
  have h2:(y.num*x.den).natAbs<=2^l*2^k:=by rw[Int.natAbs_mul,Int.natAbs_natCast];exact Nat.mul_le_mul hy.1 hx.2
  rw[Nat.mul_comm (2^l)]at h2
  rw[Nat.pow_succ,Nat.pow_add]
  have h3:=Int.natAbs_add_le (x.num*y.den) (y.num*x.den)
  omega
 ·rw[Nat.pow_succ,Nat.pow_add]
  have:=Nat.mul_le_mul hx.2 hy.2
  omega
theorem Bt.mul {k l:Nat} {x y:Rat} (hx:Bt k x) (hy:Bt l y):Bt (k+l) (x*y):=by
 rw[Rat.mul_def']
 refine Bt.mk ?_ ?_
 ·rw[Int.natAbs_mul,Nat.pow_add];exact Nat.mul_le_mul hx.1 hy.1
 ·rw[Nat.pow_add];exact Nat.mul_le_mul hx.2 hy.2
theorem Bt.zero (k:Nat):Bt k 0:=⟨by simp,by simp;exact Nat.one_le_two_pow⟩
theorem Bt.one (k:Nat):Bt k 1:=⟨by simp;exact Nat.one_le_two_pow,by simp;exact Nat.one_le_two_pow⟩
theorem Bt.dig {k n:Nat} {x:Rat} (h:Bt k x) (hn:k<32*n):Sm n (dg x.num.natAbs)/\Sm n (dg x.den):=by
 have e:2^k<4294967296^n:=by
  rw[show 4294967296=2^32 from rfl,<-Nat.pow_mul]
  exact (Nat.pow_lt_pow_iff_right (by omega)).2 hn
 exact ⟨Sm.dg (Nat.lt_of_le_of_lt h.1 e),Sm.dg (Nat.lt_of_le_of_lt h.2 e)⟩
def Bs (k:Nat) (l:List Rat):Prop := ∀ x∈l,Bt k x
theorem Bs.at {k:Nat} {l:List Rat} (h:Bs k l) {i:Nat} {x:Rat} (hx:l[i]? = some x):Bt k x:=h x (zM hx)
theorem Bs.le {k j:Nat} {l:List Rat} (h:Bs k l) (hj:k<=j):Bs j l:=fun x hx=>(h x hx).le hj
theorem Bs.take {k:Nat} {l:List Rat} (h:Bs k l) (n:Nat):Bs k (l.take n):=fun x hx=>h x (List.mem_of_mem_take hx)
def BC:List Rat->List Rat->Rat
 | x::xs,y::ys=>x*y+BC xs ys
 | _,_=>0
theorem ZM (l:List Rat):BC l []=0:=by cases l<;>rfl
theorem jF : ∀ {a b:List Rat} {x y:Rat},a.length=b.length->BC (a++[x]) (b++[y])=BC a b+x*y
 | [],[],x,y,_=>by show x*y+0=0+x*y;rw[Rat.add_zero,Rat.zero_add]
 | p::a,q::b,x,y,h=>by
  show p*q+BC (a++[x]) (b++[y])=p*q+BC a b+x*y
  rw[jF (by simpa using h),Rat.add_assoc]
theorem ZN {a b:List Rat} {i:Nat} {x y:Rat} (hx:a[i]? = some x) (hy:b[i]? = some y):BC (a.take (i+1)) (b.take (i+1))=BC (a.take i) (b.take i)+x*y:=by
 have h1:=(zS hx).1
 have h2:=(zS hy).1
 rw[List.take_add_one,List.take_add_one,hx,hy,Option.toList_some,Option.toList_some,jF (by rw[List.length_take,List.length_take];omega)]
theorem ZK {a b:List Rat} {n:Nat} (h:a.length=n):BC (a.take n) (b.take n)=BC a b:=by
 subst h
 rw[List.take_of_length_le (Nat.le_refl _)]
 induction a generalizing b with
 | nil=>cases b<;>rfl
 | cons x a ih=>cases b with
  | nil=>rfl
  | cons y b=>simp only[List.length_cons,List.take_succ_cons,BC,ih]
theorem Bs.dot {k l:Nat} : ∀ {a b:List Rat},Bs k a->Bs l b->Bt (a.length*(k+l+1)) (BC a b)
 | [],b,_,_=>by cases b<;>exact Bt.zero _
 | x::a,[],_,_=>Bt.zero _
 | x::a,y::b,ha,hb=>by
  have h1:=(ha x (by simp)).mul (hb y (by simp))
  have h2:=Bs.dot (a:=a) (b:=b) (fun z hz=>ha z (by simp [hz])) (fun z hz=>hb z (by simp [hz]))
  refine (h1.add h2).le ?_
  rw[List.length_cons,Nat.succ_mul]
  omega
def P5 (a b:List Rat):List Rat:=List.zipWith (· + ·) a b
theorem ZJ : ∀ {a u v:List Rat},u.length=v.length->BC a (P5 u v)=BC a u+BC a v
 | [],_,_,_=>by simp only[BC];rw[Rat.add_zero]
 | x::a,[],[],_=>by simp only[P5,List.zipWith_nil_left,BC];rw[Rat.add_zero]
 | x::a,p::u,q::v,h=>by
  show x*(p+q)+BC a (P5 u v)=_
  rw[ZJ (by simpa using h)]
  simp only[BC]
  grind
structure B4 where
 a:List (List Rat)
 b:List Rat
 c:List Rat
 d:Rat
structure B4.Ok (S:B4) (n k:Nat):Prop where
 la:S.a.length=n
 lr : ∀ r∈S.a,r.length=n
 lb:S.b.length=n
 lc:S.c.length=n
 ba : ∀ r∈S.a,Bs k r
 bb:Bs k S.b
 bc:Bs k S.c
 bd:Bt k S.d
def B4.out (S:B4) (now:List Rat) (x:Rat):Rat:=BC S.c now+S.d*x
def IX (now:List Rat) (x:Rat):List (List Rat)->List Rat->List Rat
 | r::a,b::bs=>(BC r now+b*x)::IX now x a bs
 | _,_=>[]
def B4.next (S:B4) (now:List Rat) (x:Rat):List Rat:=IX now x S.a S.b
def B4.state (S:B4):List Rat->List Rat->List Rat
 | now,[]=>now
 | now,x::xs=>S.state (S.next now x) xs
def B4.outs (S:B4):List Rat->List Rat->List Rat
 | _,[]=>[]
 | now,x::xs=>S.out now x::S.outs (S.next now x) xs
theorem oH (now:List Rat) (x:Rat) : ∀ (a:List (List Rat)) (b:List Rat),a.length=b.length->(IX now x a b).length=a.length
 | [],[],_=>rfl
 | r::a,y::b,h=>by simp only[IX,List.length_cons];rw[oH now x a b (by simpa using h)]
theorem oF (now:List Rat) (x:Rat) : ∀ (a:List (List Rat)) (b:List Rat) (i:Nat) (r:List Rat) (y:Rat),a[i]? = some r->b[i]? = some y->(IX now x a b)[i]? = some (BC r now+y*x)
 | [],_,i,r,y,h,_=>by simp at h
 | _::_,[],i,r,y,_,h=>by simp at h
 | r0::a,y0::b,0,r,y,h,h'=>by
  simp at h h'
  subst h;subst h';rfl
 | r0::a,y0::b,i+1,r,y,h,h'=>by
  simp only[IX,List.getElem?_cons_succ]at h h' ⊢
  exact oF now x a b i r y h h'
theorem rF (S:B4) (x:Rat) : ∀ (xs now:List Rat),S.state now (xs++[x])=S.next (S.state now xs) x
 | [],_=>rfl
 | y::xs,now=>rF S x xs (S.next now y)
theorem pA (S:B4) (x:Rat) : ∀ (xs now:List Rat),S.outs now (xs++[x])=S.outs now xs++[S.out (S.state now xs) x]
 | [],_=>rfl
 | y::xs,now=>by
  show S.out now y::S.outs (S.next now y) (xs++[x])=_
  rw[pA S x xs (S.next now y)];rfl
theorem XG (S:B4) : ∀ (xs now:List Rat),(S.outs now xs).length=xs.length
 | [],_=>rfl
 | y::xs,now=>by simp only[B4.outs,List.length_cons,XG S xs]
theorem B4.Ok.next_len {S:B4} {n k:Nat} (h:S.Ok n k) (now:List Rat) (x:Rat):(S.next now x).length=n:=by
 unfold B4.next;rw[oH _ _ _ _ (by rw[h.la,h.lb]),h.la]
theorem B4.Ok.state_len {S:B4} {n k:Nat} (h:S.Ok n k) : ∀ (xs now:List Rat),now.length=n->(S.state now xs).length=n
 | [],_,hn=>hn
 | x::xs,now,_=>h.state_len xs _ (h.next_len now x)
def N4 (n k s:Nat):Nat:=n*(k+s+1)+(k+k)+1
def MU (n k:Nat):Nat->Nat->Nat
 | s,0=>s
 | s,i+1=>MU n k (N4 n k s) i
theorem B4.Ok.next_bs {S:B4} {n k s:Nat} (h:S.Ok n k) {now:List Rat} {x:Rat} (hl:now.length=n) (hs:Bs s now) (hx:Bt k x):Bs (N4 n k s) (S.next now x)/\Bt (N4 n k s) (S.out now x):=by
 constructor
 ·have key : ∀ (a:List (List Rat)) (b:List Rat),(∀ r∈a,r.length=n/\Bs k r)->Bs k b->Bs (N4 n k s) (IX now x a b):=by
   intro a
   induction a with
   | nil=>intro b _ _ y hy;simp [IX]at hy
   | cons r a ih =>
    intro b ha hb
    cases b with
    | nil=>intro y hy;simp [IX]at hy
    | cons c b =>
     intro y hy
     simp only[IX,List.mem_cons]at hy
     rcases hy with rfl|hy
     ·obtain ⟨l1,l2⟩:=ha r (by simp)
      have h1:=l2.dot (b:=now) hs
      rw[l1]at h1
      refine (h1.add ((hb c (by simp)).mul hx)).le ?_
      unfold N4;omega
     ·exact ih b (fun r hr=>ha r (by simp [hr])) (fun z hz=>hb z (by simp [hz])) y hy
  exact key S.a S.b (fun r hr=>⟨h.lr r hr,h.ba r hr⟩) h.bb
 ·have h1:=h.bc.dot (b:=now) hs
  rw[h.lc]at h1
  refine (h1.add (h.bd.mul hx)).le ?_
  unfold N4;omega
theorem pP (n k:Nat) : ∀ (i s:Nat),MU n k s (i+1)=N4 n k (MU n k s i)
 | 0,_=>rfl
 | i+1,s=>pP n k i (N4 n k s)
theorem B4.Ok.state_bs {S:B4} {n k:Nat} (h:S.Ok n k) : ∀ (xs now:List Rat) (s:Nat),now.length=n->Bs s now->Bs k xs->Bs (MU n k s xs.length) (S.state now xs)
 | [],_,_,_,hs,_=>hs
 | x::xs,now,s,hl,hs,hx=>by
  exact h.state_bs xs _ _ (h.next_len now x) (h.next_bs hl hs (hx x (by simp))).1 (fun z hz=>hx z (by simp [hz]))
def GU:Nat->List Rat
 | 0=>[]
 | n+1=>1::List.replicate n 0
theorem R9 (n:Nat):(GU n).length=n:=by cases n<;>simp [GU]
theorem aT (k n:Nat):Bs k (GU n):=by
 intro x hx
 cases n with
 | zero=>simp [GU]at hx
 | succ n =>
  simp only[GU,List.mem_cons,List.mem_replicate]at hx
  rcases hx with rfl|⟨_,rfl⟩
  ·exact Bt.one k
  ·exact Bt.zero k
def EM (n:Nat) (j:Int):List Rat:=(List.range n).map fun i:Nat=>if (i:Int)=j then 1 else 0
theorem PV (n:Nat) (j:Int):(EM n j).length=n:=by simp [EM]
end Go.Eng
namespace Go.Eng
def DX (m:List (List Rat)) (j:Nat):List Rat:=m.map fun r=>r.getD j 0
def EP (r:List Rat) (m:List (List Rat)) (n:Nat):List Rat:=(List.range n).map fun j=>BC r (DX m j)
def CD (a m:List (List Rat)) (n:Nat):List (List Rat):=a.map fun r=>EP r m n
def D6 (m:List (List Rat)):Nat->Rat
 | 0=>0
 | i+1=>D6 m i+(m.getD i []).getD i 0
def addD (m:List (List Rat)) (c:Rat) (i:Nat):List (List Rat):=(List.range m.length).map fun r=>if r<i then (m.getD r []).set r ((m.getD r []).getD r 0+c) else m.getD r []
def EI (n:Nat):List (List Rat):=(List.range n).map fun i:Nat=>EM n i
def gY (p:List (List Rat)) (n k:Nat):Rat:=D6 p n*Rat.divInt (-1) (k:Int)
def BX (a:List (List Rat)) (n:Nat):Nat->List (List Rat)
 | 0=>EI n
 | k+1=>addD (CD a (BX a n k) n) (gY (CD a (BX a n k) n) n (k+1)) n
def DF (a:List (List Rat)) (n k:Nat):Rat:=gY (CD a (BX a n k) n) n (k+1)
def CX (a:List (List Rat)) (n k:Nat):List Rat:=1::(List.range k).map (DF a n)
def BZ (m:List (List Rat)) (b:List Rat):List Rat:=m.map fun r=>BC r b
def ES (S:B4) (n k:Nat):List Rat:=0::(List.range k).map fun i=>BC S.c (BZ (BX S.a n i) S.b)
theorem Y8 (m:List (List Rat)) (j:Nat):(DX m j).length=m.length:=by simp [DX]
theorem QR (r:List Rat) (m:List (List Rat)) (n:Nat):(EP r m n).length=n:=by simp [EP]
theorem bX (a m:List (List Rat)) (n:Nat):(CD a m n).length=a.length:=by simp [CD]
theorem OC (m:List (List Rat)) (c:Rat) (i:Nat):(addD m c i).length=m.length:=by simp [addD]
theorem QS (m:List (List Rat)) (b:List Rat):(BZ m b).length=m.length:=by simp [BZ]
theorem RO (a:List (List Rat)) (n k:Nat):(CX a n k).length=k+1:=by simp [CX]
theorem RM (S:B4) (n k:Nat):(ES S n k).length=k+1:=by simp [ES]
theorem wW (a:List (List Rat)) (n k:Nat):CX a n (k+1)=CX a n k++[DF a n k]:=by simp [CX,List.range_succ]
theorem wI (S:B4) (n k:Nat):ES S n (k+1)=ES S n k++[BC S.c (BZ (BX S.a n k) S.b)]:=by simp [ES,List.range_succ]
structure Sq (n:Nat) (m:List (List Rat)):Prop where
 l:m.length=n
 r : ∀ r∈m,r.length=n
theorem Sq.at {n:Nat} {m:List (List Rat)} (h:Sq n m) {i:Nat} {r:List Rat} (hr:m[i]? = some r):r.length=n:=h.r r (zM hr)
theorem Sq.mul {n:Nat} {a:List (List Rat)} (h:a.length=n) (m:List (List Rat)):Sq n (CD a m n):=by
 refine ⟨by rw[bX,h],fun r hr => ?_⟩
 obtain ⟨x,_,rfl⟩:=List.mem_map.1 hr
 exact QR _ _ _
theorem P4 {m:List (List Rat)} {c:Rat} {i r:Nat} {row:List Rat} (h:m[r]? = some row):(addD m c i)[r]? = some (if r<i then row.set r (row.getD r 0+c) else row):=by
 have h1:=(zS h).1
 have e:m.getD r []=row:=by rw[List.getD_eq_getElem?_getD,h];rfl
 simp only[addD,List.getElem?_map,List.getElem?_range h1,Option.map_some,e]
theorem Sq.addD {n:Nat} {m:List (List Rat)} (h:Sq n m) (c:Rat) (i:Nat):Sq n (addD m c i):=by
 refine ⟨by rw[OC,h.l],fun r hr => ?_⟩
 obtain ⟨j,hj⟩:=List.getElem?_of_mem hr
 have h1:=(zS hj).1
 rw[OC]at h1
 obtain ⟨row,hrow⟩ : ∃ row,m[j]? = some row:=⟨_,zE h1⟩
 rw[P4 hrow]at hj
 obtain rfl:=Option.some.inj hj
 have:=h.at hrow
 split
 ·rw[List.length_set];exact this
 ·exact this
theorem wL (m:List (List Rat)) (c:Rat):addD m c 0=m:=by
 refine List.ext_getElem? fun r => ?_
 cases e:m[r]? with
 | none=>rw[List.getElem?_eq_none (by rw[OC];exact List.getElem?_eq_none_iff.1 e)]
 | some row=>rw[P4 e,if_neg (by omega)]
theorem wK {m:List (List Rat)} {c:Rat} {i:Nat} {row:List Rat} (h:m[i]? = some row):addD m c (i+1)=(addD m c i).set i (row.set i (row.getD i 0+c)):=by
 refine List.ext_getElem? fun r => ?_
 rw[List.getElem?_set]
 cases e:m[r]? with
 | none =>
  have h1:=List.getElem?_eq_none_iff.1 e
  have h2:=(zS h).1
  rw[List.getElem?_eq_none (by rw[OC];exact h1),if_neg (by omega),List.getElem?_eq_none (by rw[OC];exact h1)]
 | some rw' =>
  rw[P4 e,P4 e]
  by_cases hi:i=r
  ·subst hi
   obtain rfl:=Option.some.inj (h.symm.trans e)
   have h2:=(zS h).1
   rw[if_pos (by omega),if_pos rfl,if_pos (by rw[OC];exact h2)]
  ·rw[if_neg hi]
   by_cases h3:r<i
   ·rw[if_pos (by omega),if_pos h3]
   ·rw[if_neg (by omega),if_neg h3]
theorem wJ {m:List (List Rat)} {c:Rat} {i:Nat} {row:List Rat} (h:m[i]? = some row):(addD m c i)[i]? = some row:=by rw[P4 h,if_neg (by omega)]
theorem Sq.id (n:Nat):Sq n (EI n):=by
 refine ⟨by simp [EI],fun r hr => ?_⟩
 obtain ⟨i,_,rfl⟩:=List.mem_map.1 hr
 exact PV _ _
theorem Sq.fl {n:Nat} {a:List (List Rat)} (h:a.length=n) : ∀ k,Sq n (BX a n k)
 | 0=>Sq.id n
 | k+1=>(Sq.mul h _).addD _ _
def Ms (k:Nat) (m:List (List Rat)):Prop := ∀ r∈m,Bs k r
theorem Ms.at {k:Nat} {m:List (List Rat)} (h:Ms k m) {i:Nat} {r:List Rat} (hr:m[i]? = some r):Bs k r:=h r (zM hr)
theorem Ms.getD {k:Nat} {m:List (List Rat)} (h:Ms k m) (i j:Nat):Bt k ((m.getD i []).getD j 0):=by
 rw[List.getD_eq_getElem?_getD,List.getD_eq_getElem?_getD]
 cases e:m[i]? with
 | none=>exact Bt.zero k
 | some r =>
  simp only[Option.getD_some]
  cases e2:r[j]? with
  | none=>exact Bt.zero k
  | some x=>exact (h.at e).at e2
theorem Ms.le {k j:Nat} {m:List (List Rat)} (h:Ms k m) (hj:k<=j):Ms j m:=fun r hr=>(h r hr).le hj
theorem Ms.col {k:Nat} {m:List (List Rat)} (h:Ms k m) (j:Nat):Bs k (DX m j):=by
 intro x hx
 obtain ⟨r,hr,rfl⟩:=List.mem_map.1 hx
 rw[List.getD_eq_getElem?_getD]
 cases e:r[j]? with
 | none=>exact Bt.zero k
 | some x=>exact (h r hr).at e
theorem Ms.mul {n k s:Nat} {a m:List (List Rat)} (ha:Ms k a) (hs:Sq n a) (hm:Ms s m):Ms (n*(k+s+1)) (CD a m n):=by
 intro r hr x hx
 obtain ⟨r,h1,rfl⟩:=List.mem_map.1 hr
 obtain ⟨j,_,rfl⟩:=List.mem_map.1 hx
 have:=(ha r h1).dot (hm.col j)
 rw[hs.r r h1]at this
 exact this
theorem Ms.tr {k:Nat} {m:List (List Rat)} (h:Ms k m) : ∀ i,Bt (i*(k+1)) (D6 m i)
 | 0=>Bt.zero _
 | i+1=>by
  refine ((Ms.tr h i).add (h.getD i i)).le ?_
  rw[Nat.succ_mul];omega
theorem Ms.addD {k j:Nat} {m:List (List Rat)} (h:Ms k m) {c:Rat} (hc:Bt j c) (i:Nat):Ms (k+j+1) (addD m c i):=by
 intro r hr
 obtain ⟨q,hq⟩:=List.getElem?_of_mem hr
 have h1:=(zS hq).1
 rw[OC]at h1
 obtain ⟨row,hrow⟩ : ∃ row,m[q]? = some row:=⟨_,zE h1⟩
 rw[P4 hrow]at hq
 obtain rfl:=Option.some.inj hq
 have hb:=h.at hrow
 split
 ·intro x hx
  rcases List.mem_or_eq_of_mem_set hx with hx|rfl
  ·exact (hb x hx).le (by omega)
  ·refine Bt.add ?_ hc
   rw[List.getD_eq_getElem?_getD]
   cases e:row[q]? with
   | none=>exact Bt.zero k
   | some x=>exact hb.at e
 ·exact hb.le (by omega)
theorem Ms.id (n k:Nat):Ms k (EI n):=by
 intro r hr x hx
 obtain ⟨i,_,rfl⟩:=List.mem_map.1 hr
 simp only[EM,List.mem_map]at hx
 obtain ⟨a,_,rfl⟩:=hx
 split
 ·exact Bt.one k
 ·exact Bt.zero k
theorem gA {k:Nat} (hk:k<=7):Bt 3 (Rat.divInt (-1) (k:Int)):=by
 rw[Rat.divInt_ofNat]
 refine Bt.mk ?_ ?_
 ·decide
 ·show k<=8;omega
def FS:Nat->Nat
 | 0=>0
 | k+1=>20*FS k+1700
theorem Ms.fl {n:Nat} {a:List (List Rat)} (hs:Sq n a) (ha:Ms 80 a) (hn:n<=4) : ∀ k,k<=4->Ms (FS k) (BX a n k)/\Ms (4*(FS k+81)) (CD a (BX a n k) n)/\Bt (16*(FS k+81)+10) (DF a n k):=by
 have key : ∀ k,k<=4->Ms (FS k) (BX a n k)->Ms (4*(FS k+81)) (CD a (BX a n k) n)/\Bt (16*(FS k+81)+10) (DF a n k):=fun k hk h=>by
  have h1:Ms (4*(FS k+81)) (CD a (BX a n k) n):=(Ms.mul ha hs h).le (Nat.mul_le_mul hn (by omega))
  refine ⟨h1,?_⟩
  refine ((h1.tr n).mul (gA (k:=k+1) (by omega))).le ?_
  have:=Nat.mul_le_mul_right (4*(FS k+81)+1) hn
  generalize FS k=f at this ⊢
  generalize hX:4*(f+81)+1=X at this ⊢
  generalize n*X=Y at this ⊢
  omega
 intro k
 induction k with
 | zero=>exact fun hk=>⟨Ms.id n _,key 0 hk (Ms.id n _)⟩
 | succ k ih =>
  intro hk
  obtain ⟨h1,h2,h3⟩:=ih (by omega)
  have h4:Ms (FS (k+1)) (BX a n (k+1)):=(h2.addD h3 n).le (by show _<=20*FS k+1700;omega)
  exact ⟨h4,key (k+1) hk h4⟩
theorem aE : ∀ k,k<=4->FS k<=15000000:=by decide
end Go.Eng

namespace Go.Eng
theorem MM : ∀ a b:List Rat,BC a b=BC b a
 | [],[]=>rfl
 | [],_::_=>rfl
 | _::_,[]=>rfl
 | x::a,y::b=>by simp only[BC,MM a b,Rat.mul_comm]
theorem QF : ∀ (v:List Rat) (n:Nat),BC (List.replicate n 0) v=0
 | [],n=>ZM _
 | y::v,0=>rfl
 | y::v,n+1=>by rw[List.replicate_succ];simp only[BC,QF v n];grind
theorem TS (v:List Rat) (n:Nat):BC v (List.replicate n 0)=0:=by rw[MM,QF]
theorem TR (x:Rat) : ∀ a b:List Rat,BC (a.map (x * ·)) b=x*BC a b
 | [],_=>by simp [BC]
 | _::_,[]=>by simp [BC]
 | p::a,q::b=>by simp only[List.map_cons,BC,TR x a b];grind
theorem Adr (u:List Rat) (n:Nat):EP u [] n=List.replicate n 0:=by
 refine List.ext_getElem? fun j => ?_
 simp only[EP,DX,List.map_nil,ZM,List.getElem?_map,List.getElem?_replicate]
 by_cases h:j<n
 ·rw[List.getElem?_range h,if_pos h];rfl
 ·rw[List.getElem?_eq_none (by simp;omega),if_neg h];rfl
theorem Ads (m:List (List Rat)) (n:Nat):EP [] m n=List.replicate n 0:=by
 refine List.ext_getElem? fun j => ?_
 simp only[EP,BC,List.getElem?_map,List.getElem?_replicate]
 by_cases h:j<n
 ·rw[List.getElem?_range h,if_pos h];rfl
 ·rw[List.getElem?_eq_none (by simp;omega),if_neg h];rfl
theorem Adq (x:Rat) (u r:List Rat) (m:List (List Rat)) (n:Nat) (hr:r.length=n):EP (x::u) (r::m) n=P5 (r.map (x * ·)) (EP u m n):=by
 refine List.ext_getElem? fun j => ?_
 simp only[EP,P5,List.getElem?_map,List.getElem?_zipWith]
 by_cases h:j<n
 ·rw[List.getElem?_range h]
  obtain ⟨y,hy⟩ : ∃ y,r[j]? = some y:=⟨_,zE (by omega)⟩
  rw[hy]
  simp only[Option.map_some,DX,List.map_cons,BC,List.getD_eq_getElem?_getD,hy,Option.getD_some]
 ·rw[List.getElem?_eq_none (by simp;omega),List.getElem?_eq_none (l:=r) (by omega)]
  rfl
theorem QE {n:Nat} {v:List Rat} : ∀ (m:List (List Rat)) (u:List Rat),(∀ r∈m,r.length=n)->BC (EP u m n) v=BC u (BZ m v)
 | [],u,_=>by rw[Adr,QF,BZ,List.map_nil,ZM]
 | r::m,[],_=>by rw[Ads,QF];rfl
 | r::m,x::u,h=>by
  have hr:=h r (by simp)
  rw[Adq x u r m n hr,MM,ZJ (by rw[List.length_map,QR];exact hr),MM v,MM v,TR,QE m u fun r hr=>h r (by simp [hr])]
  rfl
theorem bY {n:Nat} (a m:List (List Rat)) (v:List Rat) (h : ∀ r∈m,r.length=n):BZ (CD a m n) v=BZ a (BZ m v):=by
 simp only[BZ,CD,List.map_map]
 exact List.map_congr_left fun r _=>QE m r h
theorem jE (c:Rat) : ∀ (row b:List Rat) (i:Nat),row.length=b.length->i<row.length->BC (row.set i (row.getD i 0+c)) b=BC row b+c*b.getD i 0
 | [],_,_,_,h=>by simp at h
 | x::row,[],_,h,_=>by simp at h
 | x::row,y::b,0,_,_=>by simp [BC];grind
 | x::row,y::b,i+1,h,hi=>by
  simp only[List.set_cons_succ,List.getD_cons_succ,BC]
  rw[jE c row b i (by simpa using h) (by simpa using hi)]
  grind
theorem Adt {n:Nat} {m:List (List Rat)} (hs:Sq n m) (c:Rat) (b:List Rat) (hb:b.length=n):BZ (addD m c n) b=P5 (BZ m b) (b.map (c * ·)):=by
 refine List.ext_getElem? fun r => ?_
 simp only[BZ,P5,List.getElem?_map,List.getElem?_zipWith]
 cases e:m[r]? with
 | none =>
  have h1:=List.getElem?_eq_none_iff.1 e
  rw[List.getElem?_eq_none (by rw[OC];exact h1)];rfl
 | some row =>
  have h1:=(zS e).1
  have hl:=hs.at e
  have hm:=hs.l
  obtain ⟨y,hy⟩ : ∃ y,b[r]? = some y:=⟨_,zE (by omega)⟩
  rw[P4 e,if_pos (by omega),hy]
  simp only[Option.map_some]
  rw[jE c row b r (by omega) (by omega),List.getD_eq_getElem?_getD,hy]
  rfl
theorem oD {n:Nat} {b:List Rat} (hb:b.length=n):BZ (EI n) b=b:=by
 have unit : ∀ (k n i:Nat) (b:List Rat),b.length=n->BC ((List.range' k n).map fun a:Nat=>if (a:Int)=((k+i:Nat):Int) then 1 else 0) b=b.getD i 0:=by
  intro k n
  induction n generalizing k with
  | zero=>intro i b hb;obtain rfl:=List.eq_nil_of_length_eq_zero hb;simp [BC]
  | succ n ih =>
   intro i b hb
   cases b with
   | nil=>simp at hb
   | cons y b =>
    rw[List.range'_succ,List.map_cons,BC]
    cases i with
    | zero =>
     have hz:((List.range' (k+1) n).map fun a:Nat=>if (a:Int)=((k+0:Nat):Int) then (1:Rat) else 0)=List.replicate n 0:=by
      rw[List.eq_replicate_iff]
      refine ⟨by simp,fun x hx => ?_⟩
      obtain ⟨a,ha,rfl⟩:=List.mem_map.1 hx
      rw[if_neg]
      have:=(List.mem_range'_1.1 ha).1
      omega
     rw[hz,QF,if_pos (by simp)]
     simp [Rat.add_zero]
    | succ i =>
     have:=ih (k+1) i b (by simpa using hb)
     rw[show k+1+i=k+(i+1) by omega]at this
     rw[this,if_neg (by omega),List.getD_cons_succ]
     grind
 refine List.ext_getElem? fun r => ?_
 simp only[BZ,EI,List.getElem?_map]
 by_cases h:r<n
 ·rw[List.getElem?_range h]
  have:=unit 0 n r b hb
  rw[Nat.zero_add]at this
  simp only[Option.map_some,EM,List.range_eq_range']at this ⊢
  rw[this,List.getD_eq_getElem?_getD,zE (by omega)]
  rfl
 ·rw[List.getElem?_eq_none (by simp;omega),List.getElem?_eq_none (by omega)]
  rfl
def wQ (S:B4):Nat->List Rat
 | 0=>S.b
 | j+1=>BZ S.a (wQ S j)
def conv (A h:Nat->Rat) (K:Nat):Nat->Rat
 | 0=>0
 | a+1=>conv A h K a+A a*h (K-a)
theorem OG {A A' h h':Nat->Rat} {K K':Nat} : ∀ m,(∀ a,a<m->A a=A' a)->(∀ a,a<m->h (K-a)=h' (K'-a))->conv A h K m=conv A' h' K' m
 | 0,_,_=>rfl
 | m+1,h1,h2=>by rw[conv,conv,OG m (fun a ha=>h1 a (by omega)) (fun a ha=>h2 a (by omega)),h1 m (by omega),h2 m (by omega)]
theorem RT {A h:Nat->Rat} {K m:Nat} (hz : ∀ a,m<=a->A a=0) : ∀ j,conv A h K (m+j)=conv A h K m
 | 0=>rfl
 | j+1=>by rw[<-Nat.add_assoc,conv,RT hz j,hz (m+j) (by omega),Rat.zero_mul,Rat.add_zero]
def NS (a:List (List Rat)) (n:Nat):Nat->Rat
 | 0=>1
 | k+1=>DF a n k
theorem UB {n:Nat} {S:B4} (hs:Sq n S.a) (hb:S.b.length=n) : ∀ (k:Nat) (u:List Rat),u.length=n->BC u (BZ (BX S.a n k) S.b)=conv (NS S.a n) (fun j=>BC u (wQ S j)) k (k+1)
 | 0,u,_=>by
  rw[BX,oD hb]
  simp only[conv,NS,wQ,Nat.sub_zero]
  grind
 | k+1,u,hu=>by
  have hfl:BX S.a n (k+1)=addD (CD S.a (BX S.a n k) n) (DF S.a n k) n:=rfl
  have hM:=Sq.fl (a:=S.a) hs.l k
  rw[hfl,Adt (Sq.mul hs.l _) _ _ hb,ZJ (by rw[QS,bX,List.length_map,hs.l,hb]),bY _ _ _ hM.r]
  have e1:BC u (BZ S.a (BZ (BX S.a n k) S.b))=BC (EP u S.a n) (BZ (BX S.a n k) S.b):=(QE S.a u hs.r).symm
  rw[e1,UB hs hb k (EP u S.a n) (QR _ _ _),MM u,TR]
  have e2:conv (NS S.a n) (fun j=>BC u (wQ S j)) (k+1) (k+1+1)=conv (NS S.a n) (fun j=>BC u (wQ S j)) (k+1) (k+1)+DF S.a n k*BC S.b u:=by
   rw[conv,Nat.sub_self,MM S.b];rfl
  rw[e2]
  congr 1
  refine OG (k+1) (fun a _=>rfl) fun a ha => ?_
  show BC (EP u S.a n) (wQ S (k-a))=BC u (wQ S (k+1-a))
  rw[QE S.a u hs.r,show k+1-a=(k-a)+1 by omega]
  rfl
end Go.Eng

namespace Go.Eng
def uE (m:List (List Rat)) (X:List Rat):Prop := ∀ r∈m,BC r X=0
theorem nN {m:List (List Rat)} {i:Nat} {x r:List Rat} (h:r∈m.set i x):r=x \/ ∃ j,j≠i/\m[j]? = some r:=by
 obtain ⟨j,hj⟩:=List.getElem?_of_mem h
 rw[List.getElem?_set]at hj
 by_cases e:i=j
 ·subst e
  rw[if_pos rfl]at hj
  split at hj
  ·exact Or.inl (Option.some.inj hj).symm
  ·cases hj
 ·rw[if_neg e]at hj
  exact Or.inr ⟨j,Ne.symm e,hj⟩
end Go.Eng

namespace Go.Eng
theorem AbQ (f:Nat->Rat) (W j:Nat):((List.range W).map f).getD j 0=if j<W then f j else 0:=by
 rw[List.getD_eq_getElem?_getD,List.getElem?_map]
 by_cases h:j<W
 ·rw[List.getElem?_range h,if_pos h];rfl
 ·rw[List.getElem?_eq_none (by simp;omega),if_neg h];rfl
def GV (a b:List (List Rat)):List (List Rat):=List.zipWith (· ++ ·) a b
theorem ZL : ∀ (u y v z:List Rat),u.length=y.length->BC (u++v) (y++z)=BC u y+BC v z
 | [],[],v,z,_=>by simp [BC,Rat.zero_add]
 | x::u,w::y,v,z,h=>by
  simp only[List.cons_append,BC,ZL u y v z (by simpa using h)];grind
theorem bE {a b:List (List Rat)} {i:Nat} {r s:List Rat} (hr:a[i]? = some r) (hs:b[i]? = some s):(GV a b)[i]? = some (r++s):=by
 simp [GV,List.getElem?_zipWith,hr,hs]
end Go.Eng

namespace Go.Eng
theorem Bs.getD {k:Nat} {l:List Rat} (h:Bs k l) (i:Nat):Bt k (l.getD i 0):=by
 rw[List.getD_eq_getElem?_getD]
 cases e:l[i]? with
 | none=>exact Bt.zero k
 | some x=>exact h.at e
theorem Bt.ofInt {k:Nat} {z:Int} (h:z.natAbs<=2^k):Bt k ((z:Int):Rat):=⟨by rw[Rat.num_intCast];exact h,by rw[Rat.den_intCast];exact Nat.one_le_two_pow⟩
end Go.Eng

namespace Go.Eng
theorem Bt.invL {k:Nat} {y:Rat} (h:Bt k y):Bt k y⁻¹:=by
 rw[Rat.inv_def]
 rcases Int.natAbs_eq y.num with e|e
 ·rw[e,Rat.divInt_ofNat]
  exact Bt.mk (by simpa using h.2) h.1
 ·rw[e,Rat.divInt_neg',Rat.divInt_ofNat]
  exact Bt.mk (by simpa using h.2) h.1
theorem Bt.divL {k l:Nat} {x y:Rat} (hx:Bt k x) (hy:Bt l y):Bt (k+l) (x/y):=by
 rw[Rat.div_def]
 exact hx.mul hy.invL
theorem Bt.negL {k:Nat} {x:Rat} (h:Bt k x):Bt k (-x):=⟨by rw[Rat.neg_num,Int.natAbs_neg];exact h.1,by rw[Rat.neg_den];exact h.2⟩
theorem Bt.subL {k l:Nat} {x y:Rat} (hx:Bt k x) (hy:Bt l y):Bt (k+l+1) (x-y):=by
 rw[Rat.sub_eq_add_neg]
 exact hx.add hy.negL
section
variable {m0 m:List (List Rat)} {K W cols c:Nat} {P:List Nat} {odd:Bool} {l:Rat}
end
end Go.Eng

namespace Go.Eng
def cmb (f:Rat) (r t:List Rat):List Rat:=List.zipWith (fun x y=>x-f*y) r t
theorem Y7 {f:Rat} {r t:List Rat} (h:r.length=t.length):(cmb f r t).length=r.length:=by simp [cmb,h]
theorem gS {f:Rat} {r t:List Rat} {j:Nat} {x y:Rat} (hx:r[j]? = some x) (hy:t[j]? = some y):(cmb f r t)[j]? = some (x-f*y):=by
 simp [cmb,List.getElem?_zipWith,hx,hy]
theorem gV {f:Rat} : ∀ {r t:List Rat} {z:Rat},z∈cmb f r t -> ∃ x∈r,∃ y∈t,z=x-f*y
 | [],_,z,h=>by simp [cmb]at h
 | _::_,[],z,h=>by simp [cmb]at h
 | x::r,y::t,z,h=>by
  simp only[cmb,List.zipWith_cons_cons,List.mem_cons]at h
  rcases h with rfl|h
  ·exact ⟨x,by simp,y,by simp,rfl⟩
  ·obtain ⟨a,ha,b,hb1,e⟩:=gV h
   exact ⟨a,by simp [ha],b,by simp [hb1],e⟩
theorem gT (f:Rat) : ∀ (r t X:List Rat),r.length=t.length->BC (cmb f r t) X=BC r X-f*BC t X
 | [],[],X,_=>by
  show BC [] X=_
  simp only[BC];grind
 | x::r,y::t,[],_=>by
  simp only[cmb,List.zipWith_cons_cons,BC];grind
 | x::r,y::t,z::X,h=>by
  have ih:=gT f r t X (by simpa using h)
  simp only[cmb]at ih
  simp only[cmb,List.zipWith_cons_cons,BC,ih];grind
theorem gU {f:Rat} {r t:List Rat} (h:r.length=t.length) (j:Nat):(cmb f r t).getD j 0=r.getD j 0-f*t.getD j 0:=by
 rw[List.getD_eq_getElem?_getD,List.getD_eq_getElem?_getD,List.getD_eq_getElem?_getD]
 cases hx:r[j]? with
 | none =>
  have h1:=List.getElem?_eq_none_iff.1 hx
  rw[List.getElem?_eq_none (by rw[Y7 h];exact h1),List.getElem?_eq_none (l:=t) (by omega)]
  show (0:Rat)=0-f*0
  grind
 | some x =>
  have h1:=(zS hx).1
  obtain ⟨y,hy⟩ : ∃ y,t[j]? = some y:=⟨_,zE (by omega)⟩
  rw[gS hx hy,hy];rfl
theorem iU (l:List Rat) (p:Rat) (j:Nat):(l.map (· / p)).getD j 0=l.getD j 0/p:=by
 rw[List.getD_eq_getElem?_getD,List.getD_eq_getElem?_getD,List.getElem?_map]
 cases l[j]? with
 | none=>show (0:Rat)=0/p;rw[Rat.div_def,Rat.zero_mul]
 | some x=>rfl
theorem iT (p:Rat) : ∀ (r X:List Rat),BC (r.map (· / p)) X=BC r X/p
 | [],X=>by
  show BC [] X=BC [] X/p
  simp only[BC,Rat.div_def];grind
 | x::r,[]=>by simp only[List.map_cons,BC,Rat.div_def];grind
 | x::r,z::X=>by
  have ih:=iT p r X
  simp only[Rat.div_def]at ih
  simp only[List.map_cons,BC,ih,Rat.div_def];grind
theorem jG {n i:Nat} {v:List Rat} (hv:v.length=n) (hi:i<n):BC (EM n i) v=v.getD i 0:=by
 have e:=congrArg (fun l=>l.getD i 0) (oD hv)
 simp only[BZ,EI,List.map_map]at e
 rw[AbQ,if_pos hi]at e
 exact e
def bF (T:List (List Rat)) (v:List Rat):List Rat:=v++(BZ T v).map (-1 * ·)
structure FD (T:List (List Rat)) (n:Nat) (m:List (List Rat)) (k c:Nat):Prop where
 len:m.length=n
 wid : ∀ r∈m,r.length=n+n
 ker : ∀ v:List Rat,v.length=n->uE m (bF T v)
 le:k<=c
 cn:c<=n
 ech:k=c -> ∀ (i:Nat) (r:List Rat),m[i]? = some r -> ∀ j,j<c->r.getD j 0=if i=j then 1 else 0
theorem FD.start {T:List (List Rat)} {n:Nat} (hT:Sq n T):FD T n (GV T (EI n)) 0 0:=by
 have hat : ∀ (i:Nat) (r:List Rat),(GV T (EI n))[i]? = some r -> ∃ t,T[i]? = some t/\i<n/\r=t++EM n i:=fun i r h=>by
  rw[GV,List.getElem?_zipWith]at h
  cases ht:T[i]? with
  | none=>rw[ht]at h;cases h
  | some t =>
   have h1:=(zS ht).1
   rw[hT.l]at h1
   rw[ht,EI,List.getElem?_map,List.getElem?_range h1]at h
   exact ⟨t,rfl,h1,(Option.some.inj h).symm⟩
 refine ⟨?_,?_,?_,Nat.le_refl _,Nat.zero_le _,fun _ _ _ _ j h=>absurd h (by omega)⟩
 ·rw[GV,List.length_zipWith,hT.l];simp [EI]
 ·intro r hr
  obtain ⟨i,hi⟩:=List.getElem?_of_mem hr
  obtain ⟨t,h1,_,rfl⟩:=hat i r hi
  rw[List.length_append,hT.at h1,PV]
 ·intro v hv r hr
  obtain ⟨i,hi⟩:=List.getElem?_of_mem hr
  obtain ⟨t,h1,h2,rfl⟩:=hat i r hi
  rw[bF,ZL _ _ _ _ (by rw[hT.at h1,hv]),MM (EM n i),TR,MM _ (EM n i),jG (by rw[QS];exact hT.l) h2]
  rw[BZ,List.getD_eq_getElem?_getD,List.getElem?_map,h1]
  show BC t v + -1*BC t v=0
  grind
theorem FD.skip {T:List (List Rat)} {n k c:Nat} {m:List (List Rat)} (h:FD T n m k c) (hc:c<n):FD T n m k (c+1) :=
 ⟨h.len,h.wid,h.ker,Nat.le_succ_of_le h.le,hc,fun e=>absurd h.le (by omega)⟩
theorem FD.swap {T:List (List Rat)} {n k c i:Nat} {m:List (List Rat)} {r t:List Rat} (h:FD T n m k c) (hi:m[i]? = some r) (hk:m[k]? = some t) (hki:k<=i):FD T n ((m.set i t).set k r) k c:=by
 have hil:=(zS hi).1
 have hkl:=(zS hk).1
 have hat : ∀ (q:Nat) (x:List Rat),((m.set i t).set k r)[q]? = some x->(q=k/\x=r)\/(q≠k/\q=i/\x=t)\/(q≠k/\q≠i/\m[q]? = some x):=fun q x hx=>by
  rw[List.getElem?_set,List.getElem?_set,List.length_set]at hx
  by_cases e1:k=q
  ·rw[if_pos e1,if_pos (by omega)]at hx
   exact Or.inl ⟨e1.symm,(Option.some.inj hx).symm⟩
  ·rw[if_neg e1]at hx
   by_cases e2:i=q
   ·rw[if_pos e2,if_pos (by omega)]at hx
    exact Or.inr (Or.inl ⟨Ne.symm e1,e2.symm,(Option.some.inj hx).symm⟩)
   ·rw[if_neg e2]at hx
    exact Or.inr (Or.inr ⟨Ne.symm e1,Ne.symm e2,hx⟩)
 have hmem : ∀ x,x∈(m.set i t).set k r->x∈m:=fun x hx=>by
  obtain ⟨q,hq⟩:=List.getElem?_of_mem hx
  rcases hat q x hq with ⟨_,rfl⟩|⟨_,_,rfl⟩|⟨_,_,h3⟩
  ·exact zM hi
  ·exact zM hk
  ·exact zM h3
 refine ⟨by rw[List.length_set,List.length_set];exact h.len,fun x hx=>h.wid x (hmem x hx),fun v hv x hx=>h.ker v hv x (hmem x hx),h.le,h.cn,?_⟩
 intro e q x hx j hj
 rcases hat q x hx with ⟨e1,rfl⟩|⟨_,e2,rfl⟩|⟨_,_,h3⟩
 ·rw[if_neg (by omega),h.ech e i x hi j hj,if_neg (by omega)]
 ·rw[if_neg (by omega),h.ech e k x hk j hj,if_neg (by omega)]
 ·exact h.ech e q x h3 j hj
theorem FD.scale {T:List (List Rat)} {n k c:Nat} {m:List (List Rat)} {t:List Rat} (p:Rat) (h:FD T n m k c) (hk:m[k]? = some t):FD T n (m.set k (t.map (· / p))) k c:=by
 refine ⟨by rw[List.length_set];exact h.len,?_,?_,h.le,h.cn,?_⟩
 ·intro x hx
  rcases nN hx with rfl|⟨j,_,hj⟩
  ·rw[List.length_map];exact h.wid t (zM hk)
  ·exact h.wid x (zM hj)
 ·intro v hv x hx
  rcases nN hx with rfl|⟨j,_,hj⟩
  ·rw[iT,h.ker v hv t (zM hk),Rat.div_def,Rat.zero_mul]
  ·exact h.ker v hv x (zM hj)
 ·intro e q x hx j hj
  rw[List.getElem?_set]at hx
  by_cases e1:k=q
  ·rw[if_pos e1]at hx
   split at hx
   ·obtain rfl:=Option.some.inj hx
    rw[iU,h.ech e k t hk j hj,if_neg (by omega),if_neg (by omega),Rat.div_def,Rat.zero_mul]
   ·cases hx
  ·rw[if_neg e1]at hx
   exact h.ech e q x hx j hj
structure MK (T:List (List Rat)) (n K:Nat) (k c:Nat) (t:List Rat) (m:List (List Rat)) (i:Nat):Prop where
 red:FD T n m k c
 ht:m[k]? = some t
 one:t.getD c 0=1
 dn : ∀ (q:Nat) (r:List Rat),q<i->q≠k->m[q]? = some r->r.getD c 0=0
 lo : ∀ (q:Nat) (r:List Rat),q<i->m[q]? = some r->Bs (4*K+1) r
 hi : ∀ (q:Nat) (r:List Rat),i<=q->q≠k->m[q]? = some r->Bs K r
 bt:Bs (2*K) t
theorem MK.start {T:List (List Rat)} {n K k c:Nat} {m:List (List Rat)} {t:List Rat} (h:FD T n m k c) (hk:m[k]? = some t) (hp:t.getD c 0≠0) (hM : ∀ (q:Nat) (r:List Rat),m[q]? = some r->Bs K r):MK T n K k c (t.map (· / t.getD c 0)) (m.set k (t.map (· / t.getD c 0))) 0:=by
 have hkl:=(zS hk).1
 have htb:=hM k t hk
 refine ⟨h.scale _ hk,by rw[List.getElem?_set,if_pos rfl,if_pos hkl],by rw[iU,Rat.div_def,Rat.mul_inv_cancel _ hp],fun q r h1=>absurd h1 (by omega),fun q r h1=>absurd h1 (by omega),fun q r _ h2 hq => ?_,fun y hy => ?_⟩
 ·rw[List.getElem?_set,if_neg (Ne.symm h2)]at hq
  exact hM q r hq
 ·obtain ⟨z,hz,rfl⟩:=List.mem_map.1 hy
  exact ((htb z hz).divL (Bs.getD htb c)).le (by omega)
theorem MK.same {T:List (List Rat)} {n K k c i:Nat} {m:List (List Rat)} {t:List Rat} (h:MK T n K k c t m i) (hz:i≠k -> ∀ r,m[i]? = some r->r.getD c 0=0):MK T n K k c t m (i+1):=by
 refine ⟨h.red,h.ht,h.one,fun q r h1 h2 hq => ?_,fun q r h1 hq => ?_,fun q r h1=>h.hi q r (by omega),h.bt⟩
 ·by_cases e:q=i
  ·subst e;exact hz h2 r hq
  ·exact h.dn q r (by omega) h2 hq
 ·by_cases e:q=i
  ·by_cases e2:q=k
   ·subst e2
    cases h.ht.symm.trans hq
    exact fun y hy=>(h.bt y hy).le (by omega)
   ·exact fun y hy=>(h.hi q r (by omega) e2 hq y hy).le (by omega)
  ·exact h.lo q r (by omega) hq
theorem MK.step {T:List (List Rat)} {n K k c i:Nat} {m:List (List Rat)} {t r:List Rat} (h:MK T n K k c t m i) (hi:m[i]? = some r) (hik:i≠k):MK T n K k c t (m.set i (cmb (r.getD c 0) r t)) (i+1):=by
 have hil:=(zS hi).1
 have hrl:=h.red.wid r (zM hi)
 have htl:=h.red.wid t (zM h.ht)
 have hrt:r.length=t.length:=by omega
 have hat : ∀ (q:Nat) (x:List Rat),(m.set i (cmb (r.getD c 0) r t))[q]? = some x->(q=i/\x=cmb (r.getD c 0) r t)\/(q≠i/\m[q]? = some x):=fun q x hx=>by
  rw[List.getElem?_set]at hx
  by_cases e:i=q
  ·rw[if_pos e,if_pos (by omega)]at hx
   exact Or.inl ⟨e.symm,(Option.some.inj hx).symm⟩
  ·rw[if_neg e]at hx
   exact Or.inr ⟨Ne.symm e,hx⟩
 refine ⟨⟨by rw[List.length_set];exact h.red.len,?_,?_,h.red.le,h.red.cn,?_⟩,by rw[List.getElem?_set,if_neg hik];exact h.ht,h.one,?_,?_,?_,h.bt⟩
 ·intro x hx
  obtain ⟨q,hq⟩:=List.getElem?_of_mem hx
  rcases hat q x hq with ⟨_,rfl⟩|⟨_,h2⟩
  ·rw[Y7 hrt];exact hrl
  ·exact h.red.wid x (zM h2)
 ·intro v hv x hx
  obtain ⟨q,hq⟩:=List.getElem?_of_mem hx
  rcases hat q x hq with ⟨_,rfl⟩|⟨_,h2⟩
  ·rw[gT _ _ _ _ hrt,h.red.ker v hv r (zM hi),h.red.ker v hv t (zM h.ht)]
   grind
  ·exact h.red.ker v hv x (zM h2)
 ·intro e q x hx j hj
  rcases hat q x hx with ⟨e1,rfl⟩|⟨_,h2⟩
  ·rw[gU hrt,h.red.ech e i r hi j hj,h.red.ech e k t h.ht j hj,e1,if_neg (show ¬ k=j by omega)]
   grind
  ·exact h.red.ech e q x h2 j hj
 ·intro q x h1 h2 hx
  rcases hat q x hx with ⟨e1,rfl⟩|⟨e1,h3⟩
  ·rw[gU hrt,h.one];grind
  ·exact h.dn q x (by omega) h2 h3
 ·intro q x h1 hx
  rcases hat q x hx with ⟨e1,rfl⟩|⟨e1,h3⟩
  ·intro y hy
   obtain ⟨a,ha,b,hb1,rfl⟩:=gV hy
   have hbr:=h.hi i r (Nat.le_refl _) hik hi
   exact ((hbr a ha).subL ((Bs.getD hbr c).mul (h.bt b hb1))).le (by omega)
  ·exact h.lo q x (by omega) h3
 ·intro q x h1 h2 hx
  rcases hat q x hx with ⟨e1,rfl⟩|⟨e1,h3⟩
  ·omega
  ·exact h.hi q x (by omega) h2 h3
theorem MK.fin {T:List (List Rat)} {n K k c:Nat} {m:List (List Rat)} {t:List Rat} (h:MK T n K k c t m n) (hc:c<n):FD T n m (k+1) (c+1) /\ ∀ (q:Nat) (r:List Rat),m[q]? = some r->Bs (4*K+1) r:=by
 have hlt : ∀ (q:Nat) (r:List Rat),m[q]? = some r->q<n:=fun q r hq=>by
  have:=(zS hq).1
  rw[h.red.len]at this;exact this
 refine ⟨⟨h.red.len,h.red.wid,h.red.ker,Nat.succ_le_succ h.red.le,hc,fun e q r hq j hj => ?_⟩,fun q r hq=>h.lo q r (hlt q r hq) hq⟩
 have e2:k=c:=by omega
 by_cases e3:j=c
 ·by_cases e4:q=k
  ·subst e4
   cases h.ht.symm.trans hq
   rw[e3,h.one,if_pos e2]
  ·rw[e3,h.dn q r (hlt q r hq) e4 hq,if_neg (by omega)]
 ·exact h.red.ech e2 q r hq j (by omega)
theorem FD.inv {T:List (List Rat)} {n:Nat} {m:List (List Rat)} (h:FD T n m n n) {v:List Rat} (hv:v.length=n) (hT:T.length=n):BZ (m.map (·.drop n)) (BZ T v)=v:=by
 refine List.ext_getElem? fun i => ?_
 rw[BZ,List.getElem?_map,List.getElem?_map]
 cases hi:m[i]? with
 | none =>
  have h1:=List.getElem?_eq_none_iff.1 hi
  rw[List.getElem?_eq_none (l:=v) (by rw[hv,<-h.len];exact h1)];rfl
 | some r =>
  have h1:=(zS hi).1
  rw[h.len]at h1
  have hrl:=h.wid r (zM hi)
  obtain ⟨x,hx⟩ : ∃ x,v[i]? = some x:=⟨_,zE (by omega)⟩
  have h2:=h.ker v hv r (zM hi)
  have e:r.take n=EM n i:=by
   refine List.ext_getElem? fun j => ?_
   by_cases hj:j<n
   ·obtain ⟨y,hy⟩ : ∃ y,r[j]? = some y:=⟨_,zE (by omega)⟩
    have h3:=h.ech rfl i r hi j hj
    rw[List.getD_eq_getElem?_getD,hy]at h3
    rw[List.getElem?_take,if_pos hj,hy,EM,List.getElem?_map,List.getElem?_range hj]
    show some y=some _
    rw[show y=(if i=j then 1 else 0:Rat) from h3]
    show some (if i=j then (1:Rat) else 0)=some (if (j:Int)=(i:Int) then (1:Rat) else 0)
    by_cases h5:i=j
    ·rw[if_pos h5,if_pos (by omega)]
    ·rw[if_neg h5,if_neg (by omega)]
   ·rw[List.getElem?_eq_none (by rw[List.length_take];omega),List.getElem?_eq_none (by rw[PV];omega)]
  rw[<-List.take_append_drop n r,bF,ZL _ _ _ _ (by rw[List.length_take,hv];omega),e,jG hv h1,MM (r.drop n),TR,MM _ (r.drop n),List.getD_eq_getElem?_getD,hx]at h2
  rw[hx]
  show some (BC (r.drop n) (BZ T v))=some x
  have h3:x + -1*BC (r.drop n) (BZ T v)=0:=h2
  congr 1
  grind
end Go.Eng

namespace Go.Eng
open F
attribute [local irreducible] AA AF AR AD B0 AU AX A8 A6 BN AP BK BV CN BI AZ BG BQ AB A7 AJ pw BH BF B9 B8 CI B7 CB BM B3
set_option maxHeartbeats 1000000
variable {L:Lib}
def C6 (a b:Int):Int:=if a<b then -1 else if b<a then 1 else 0
theorem HX {a b:Int} (h:a<b) : -1=C6 a b:=by unfold C6;rw[if_pos h]
theorem NV {a b:Int} (h:b<a):1=C6 a b:=by unfold C6;rw[if_neg (by omega),if_pos h]
theorem QB {a b:Int} (h:a=b):0=C6 a b:=by unfold C6;rw[if_neg (by omega),if_neg (by omega)]
theorem Aa2 (N:NatGLib L) (a:Int):Ev L 58 [.int .i64 a] (.bool false):=by
 refine Ev.x N.JA rfl rfl ?_
 (repeat' (first|(refine AG (fun hc => ?_) (fun hc => ?_)<;>first|(exfalso;omega)|(conv=>whnf))|(refine AE ?_;conv=>whnf)))
 exact IK rfl
theorem Aa3 (N:NatGLib L) (a:Int):Ev L 59 [.int .u32 a] (.bool false):=by
 refine Ev.x N.JB rfl rfl ?_
 (repeat' (first|(refine AG (fun hc => ?_) (fun hc => ?_)<;>first|(exfalso;omega)|(conv=>whnf))|(refine AE ?_;conv=>whnf)))
 exact IK rfl
theorem AaM (N:NatGLib L) (a b:Int):Ev L 60 [.int .i64 a,.int .i64 b] (.int .i64 (C6 a b)):=by
 refine Ev.x N.I8 rfl rfl ?_
 (repeat' (first|(refine AG (fun hc => ?_) (fun hc => ?_)<;>first|(exfalso;omega)|(conv=>whnf))|(refine AE ?_;conv=>whnf)|(refine AC (Aa2 N _) ?_;conv=>whnf)))
 ·exact C4 (HX (by omega))
 ·exact C4 (NV (by omega))
 ·exact C4 (QB (by omega))
theorem AaN (N:NatGLib L) (a b:Int):Ev L 61 [.int .u32 a,.int .u32 b] (.int .i64 (C6 a b)):=by
 refine Ev.x N.I9 rfl rfl ?_
 (repeat' (first|(refine AG (fun hc => ?_) (fun hc => ?_)<;>first|(exfalso;omega)|(conv=>whnf))|(refine AE ?_;conv=>whnf)|(refine AC (Aa3 N _) ?_;conv=>whnf)))
 ·exact C4 (HX (by omega))
 ·exact C4 (NV (by omega))
 ·exact C4 (QB (by omega))
theorem jW (N:NatGLib L) (l:List Nat) (q:Bool) (hl:l.length<=1099511627776):Ev L 62 [.sl q (l.map AM)] (.sl false (l.map AM)):=by
 cases l with
 | nil =>
  refine FI.nil N.GO (FI.x N.GO rfl rfl ?_) (FI.x N.GO rfl rfl ?_)
  ·(repeat' (refine AE ?_;conv=>whnf))
   exact AY rfl (by simp [A9,FG])
  ·(repeat' (refine AE ?_;conv=>whnf))
   refine YF (enc:=AM) (l:=[]) (l':=[]) rfl (fun _=>rfl) (by simp) (by simp) ?_
   (conv=>whnf)
   (repeat' (refine DE (fun _=>rfl) rfl ?_ ?_;(first|rfl|simp);conv=>whnf))
   exact AY rfl (by simp [A9,FG])
 | cons d l =>
  refine FI.cons (FI.x N.GO rfl rfl ?_)
  (repeat' (refine AE ?_;conv=>whnf))
  refine A3 (by simp) ?_
  (conv=>whnf)
  skip
  refine YF (enc:=AM) (l:=[]) (l':=d::l) rfl (fun _=>rfl) (by simp at hl ⊢;omega) (by simp at hl ⊢;omega) ?_
  (conv=>whnf)
  (repeat' (refine DE (fun _=>rfl) rfl ?_ ?_;(first|rfl|simp);conv=>whnf))
  exact AY rfl (by simp only[A9,true_and];exact CU (d::l))
theorem MV (N:NatGLib L) (l:List Nat) (q:Bool) (hD:A5 l) (hl:l.length<=1099511627776):TC L 65 [.sl q (l.map AM)] (.sl q ((dg (val l)).map AM)):=by
 refine uW N.E4 rfl rfl rfl rfl rfl ?_
 (repeat' (first|(refine AW ?_;conv=>whnf)|(refine AE ?_;conv=>whnf)))
 refine CE (fun n=>n) (fun (n:Nat)=>n<=l.length /\ ∀ i,n<=i->i<l.length->l[i]? = some 0) (fun n=>[(3,.int .i64 n)]) (fun _=>[]) [] [] l.length (by (conv=>whnf);exact ⟨rfl,rfl,rfl⟩) ⟨Nat.le_refl _,fun i h1 h2=>by omega⟩ ?_
 intro n ⟨p1,p2⟩ ih
 rcases n with _|n
 ·(repeat' (first|(refine AG (fun hc => ?_) (fun hc => ?_)<;>first|(exfalso;omega)|(conv=>whnf))|(refine AE ?_;conv=>whnf)))
  refine M3 (k:=0) (fun _=>rfl) (by omega) ?_
  (conv=>whnf)
  refine ⟨_,rfl,?_⟩
  rw[FZ hD p1 p2 (Or.inl rfl)];rfl
 ·have e1:((n+1:Nat):Int)-1=n:=by omega
  (repeat' (first|(refine AG (fun hc => ?_) (fun hc => ?_)<;>first|(exfalso;omega)|(conv=>whnf))|(refine CF ?_ ?_;omega;conv=>whnf)|(refine O4 (by assumption) ?_ (fun e he hb => ?_);omega;conv=>whnf)|(refine AE ?_;conv=>whnf)))
  ·rw[e1]
   exact A4 [] (by (conv=>whnf);exact ⟨rfl,rfl,rfl⟩) (ih n (by omega) ⟨by omega,fun i h1 h2=>by
    by_cases h:i=n
    ·subst h
     rw[e1,Int.toNat_natCast]at he
     rw[he];congr 1;omega
    ·exact p2 i (by omega) h2⟩)
  ·refine M3 (k:=n+1) (fun _=>rfl) (by omega) ?_
   (conv=>whnf)
   refine ⟨_,rfl,?_⟩
   rw[e1,Int.toNat_natCast]at he
   rw[FZ hD p1 p2 (Or.inr ⟨e,he,by omega⟩)];rfl
theorem TW (N:NatGLib L) (l:List Nat) (q:Bool) (hD:A5 l) (hl:l.length<=1099511627776):Ev L 66 [.sl q (l.map AM)] (.sl false ((dg (val l)).map AM)):=by
 have hc:=EN hD
 refine Ev.x N.JU rfl rfl ?_
 (repeat' (first|(refine AE ?_;conv=>whnf)|(refine MH (MV N l _ hD hl) ?_;conv=>whnf)|(refine AC (jW N (dg (val l)) _ (by omega)) ?_;conv=>whnf)))
 exact AY rfl (by simp only[A9,true_and];exact CU _)
theorem xW {a b:Nat} (h:((dg a).length:Int)≠(dg b).length):C6 (dg a).length (dg b).length=C6 a b:=by
 rcases Nat.lt_trichotomy (dg a).length (dg b).length with h1|h1|h1
 ·have:=SZ h1
  rw[<-HX (by omega),<-HX (by omega)]
 ·omega
 ·have:=SZ h1
  rw[<-NV (by omega),<-NV (by omega)]
theorem OJ (N:NatGLib L) (a b:List Nat) (q1 q2:Bool) (hA:A5 a) (hB:A5 b) (la:a.length<=1099511627776) (lb:b.length<=1099511627776):Ev L 67 [.sl q1 (a.map AM),.sl q2 (b.map AM)] (.int .i64 (C6 (val a) (val b))):=by
 have l1:=EN hA
 have l2:=EN hB
 have d1:=DT (val a)
 have d2:=DT (val b)
 refine Ev.x N.JQ rfl rfl ?_
 (repeat' (first|(refine AG (fun hc => ?_) (fun hc => ?_)<;>first|(exfalso;omega)|(conv=>whnf))|(refine CF ?_ ?_;omega;conv=>whnf)|(refine AW ?_;conv=>whnf)|(refine AE ?_;conv=>whnf)|(refine MH (MV N a _ hA la) ?_;conv=>whnf)|(refine MH (MV N b _ hB lb) ?_;conv=>whnf)|(refine AC (AaM N _ _) ?_;conv=>whnf)))
 ·exact C4 (xW (by omega))
 have hlen:(dg (val a)).length=(dg (val b)).length:=by omega
 have v1:=BU (val a)
 have v2:=BU (val b)
 generalize dg (val a)=X at *
 generalize dg (val b)=Y at *
 refine CE (fun n=>n) (fun (n:Nat)=>n<=X.length/\X.drop n=Y.drop n) (fun n=>[(7,.int .i64 ((n:Int)-1))]) (fun _=>[]) [] [] X.length (by (conv=>whnf);exact ⟨rfl,rfl,rfl⟩) ⟨Nat.le_refl _,by rw[List.drop_of_length_le (Nat.le_refl _),List.drop_of_length_le (by omega)]⟩ ?_
 intro n ⟨p1,p2⟩ ih
 rcases n with _|n
 ·(repeat' (first|(refine AG (fun hc => ?_) (fun hc => ?_)<;>first|(exfalso;omega)|(conv=>whnf))|(refine AE ?_;conv=>whnf)))
  rw[List.drop_zero,List.drop_zero]at p2
  exact C4 (QB (by rw[<-v1,<-v2,p2]))
 ·have e1:((n+1:Nat):Int)-1=n:=by omega
  rw[e1]
  (repeat' (first|(refine AG (fun hc => ?_) (fun hc => ?_)<;>first|(exfalso;omega)|(conv=>whnf))|(refine CF ?_ ?_;omega;conv=>whnf)|(refine BL (by assumption) ?_ rfl ?_;omega;conv=>whnf)|(refine VU (by assumption) ?_ (fun e he hb => ?_);omega;conv=>whnf)|(refine AE ?_;conv=>whnf)|(refine AC (AaN N _ _) ?_;conv=>whnf)))
  ·rename_i x hx _
   rcases Nat.lt_trichotomy x e with h|h|h
   ·have:=X8 d1 d2 hlen hx he p2 h
    refine C4 ?_
    rw[<-HX (by omega),<-HX (by omega)]
   ·omega
   ·have:=X8 d2 d1 hlen.symm he hx p2.symm h
    refine C4 ?_
    rw[<-NV (by omega),<-NV (by omega)]
  ·rename_i x hx _
   refine A4 [] (by (conv=>whnf);exact ⟨rfl,rfl,rfl⟩) (ih n (by omega) ⟨by omega,?_⟩)
   obtain ⟨i1,e1⟩:=zS hx
   obtain ⟨i2,e2⟩:=zS he
   rw[List.drop_eq_getElem_cons i1,List.drop_eq_getElem_cons i2,p2,e1,e2]
   congr 1
   omega
end Go.Eng

namespace Go.Eng
open F
attribute [local irreducible] AA AF AR AD B0 AU AX A8 A6 BN AP BK BV CN BI AZ BG BQ AB A7 AJ pw BH BF B9 B8 CI B7 CB BM B3
set_option maxHeartbeats 1000000
variable {L:Lib}
theorem YA {y:List Nat} {i:Nat} (h:y.length<=i):val (y.take (i+1))=val (y.take i):=by
 rw[C7 h,C7 (by omega)]
theorem Aa7 (N:NatGLib L) (a b:List Nat) (q1 q2:Bool) (hA:A5 a) (hB:A5 b) (la:a.length<=1099511627775) (lb:b.length<=1099511627775):Ev L 68 [.sl q1 (a.map AM),.sl q2 (b.map AM)] (.sl false ((dg (val a+val b)).map AM)):=by
 have l1:=EN hA
 have l2:=EN hB
 have d1:=DT (val a)
 have d2:=DT (val b)
 have v1:=BU (val a)
 have v2:=BU (val b)
 refine Ev.x N.JP rfl rfl ?_
 (repeat' (first|(refine AG (fun hc => ?_) (fun hc => ?_)<;>first|(exfalso;omega)|(conv=>whnf))|(refine A0 ?_ ?_;omega;conv=>whnf)|(refine AW ?_;conv=>whnf)|(refine AE ?_;conv=>whnf)|(refine MH (MV N a _ hA (by omega)) ?_;conv=>whnf)|(refine MH (MV N b _ hB (by omega)) ?_;conv=>whnf)))
 ·generalize dg (val a)=y at *
  generalize dg (val b)=x at *
  rw[<-v1,<-v2,Nat.add_comm (val y)]
  have hlen:y.length<=x.length:=by omega
  have hxl:x.length<=1099511627775:=by omega
  clear v1 v2 hA hB la lb
  refine EB (enc:=AM) 0 (x.length+1) rfl (by omega) (by omega) ?_
  (conv=>whnf)
  (repeat' (refine AW ?_;conv=>whnf))
  refine F9 (fun i _ _=>x.length-i) (fun (i:Nat) (o:List Nat) (c:Nat)=>i<=x.length/\o.length=x.length+1/\A5 o/\c<=1/\val (o.take i)+4294967296^i*c=val (x.take i)+val (y.take i)) (fun i o c=>[(8,.int .u64 (c:Int)),(29,.int .i64 i)]) (fun i o c=>[(26,26,.rw 1 (o.map AM))]) [] [] 0 (List.replicate (x.length+1) 0) 0 (by (conv=>whnf);exact ⟨rfl,rfl,rfl⟩) ⟨by omega,by simp,IQ _,by omega,by simp [val]⟩ ?_
  intro i o c ⟨p1,p2,p3,p4,p5⟩ ih
  by_cases hi:i<x.length
  ·(repeat' (first|(refine AG (fun hc => ?_) (fun hc => ?_)<;>first|(exfalso;omega)|(conv=>whnf))|(refine A3 ?_ ?_;omega;conv=>whnf)|(refine FQ ?_ ?_;omega;conv=>whnf)|(refine CR ?_ ?_;omega;conv=>whnf)|(refine FH ?_;conv=>whnf)|(refine AW ?_;conv=>whnf)|(refine VU (by assumption) ?_ (fun e he hb => ?_);omega;conv=>whnf)|(refine AE ?_;conv=>whnf)))
   ·rename_i d hd _
    refine E3 (by omega) ?_
    (conv=>whnf)
    (repeat' (first|(refine A0 ?_ ?_;omega;conv=>whnf)|(refine E8 ?_;conv=>whnf)))
    refine A4 [] (by (conv=>whnf);exact ⟨rfl,rfl,rfl⟩) (ih (i+1) _ _ (by omega) ⟨by omega,by simpa using p2,p3.set _ (by omega),by omega,?_⟩)
    have h1:=DW hd
    have h2:=DW he
    have h3:=OD (val (o.take i)) (4294967296^i) (d+c+e)
    have h4:=FO (v:=(d+c+e)%4294967296) (show i<o.length by omega)
    rw[h4,h1,h2,Nat.pow_succ]
    generalize 4294967296^i=p at *
    rw[h3,Nat.mul_add,Nat.mul_add]
    omega
   ·refine E3 (by omega) ?_
    (conv=>whnf)
    (repeat' (first|(refine A0 ?_ ?_;omega;conv=>whnf)|(refine E8 ?_;conv=>whnf)))
    refine A4 [] (by (conv=>whnf);exact ⟨rfl,rfl,rfl⟩) (ih (i+1) _ _ (by omega) ⟨by omega,by simpa using p2,p3.set _ (by omega),by omega,?_⟩)
    have h1:=DW he
    have h2:=YA (y:=y) (i:=i) (by omega)
    have h3:=OD (val (o.take i)) (4294967296^i) (e+c)
    have h4:=FO (v:=(e+c)%4294967296) (show i<o.length by omega)
    rw[h4,h1,h2,Nat.pow_succ]
    generalize 4294967296^i=p at *
    rw[h3,Nat.mul_add]
    omega
  ·obtain rfl:i=x.length:=by omega
   clear ih
   (repeat' (first|(refine AG (fun hc => ?_) (fun hc => ?_)<;>first|(exfalso;omega)|(conv=>whnf))|(refine A3 ?_ ?_;omega;conv=>whnf)|(refine D8 ?_ ?_;omega;conv=>whnf)|(refine AW ?_;conv=>whnf)|(refine AE ?_;conv=>whnf)))
   refine E3 (by omega) ?_
   (conv=>whnf)
   skip
   have hV:val (o.set x.length c)=val x+val y:=by
    have h4:=FO (v:=c) (show x.length<o.length by omega)
    rw[List.take_of_length_le (by simp;omega)]at h4
    rw[h4,p5,C7 (Nat.le_refl _),C7 hlen]
   have hD:A5 (o.set x.length c):=p3.set _ (by omega)
   have hL:(o.set x.length c).length=x.length+1:=by simpa using p2
   clear p3 p4 p5 p2
   generalize o.set x.length c=O at *
   rw[<-hL]
   refine E6 1000 N.E4 rfl rfl ?_
   (repeat' (refine AE ?_;conv=>whnf))
   refine CE (fun n=>n) (fun (n:Nat)=>n<=(O).length /\ ∀ i,n<=i->i<(O).length->(O)[i]? = some 0) (fun n=>[(3,.int .i64 n)]) (fun _=>[]) [] [] (O).length (by first|exact (by (conv=>whnf);exact ⟨rfl,rfl,rfl⟩)|(simp only[List.length_set,List.length_replicate];exact (by (conv=>whnf);exact ⟨rfl,rfl,rfl⟩))) ⟨Nat.le_refl _,fun i h1 h2=>by omega⟩ ?_
   intro n ⟨p1,p2⟩ ih
   rcases n with _|n
   ·(repeat' (first|(refine AG (fun hc => ?_) (fun hc => ?_)<;>first|(exfalso;omega)|(conv=>whnf))|(refine AE ?_;conv=>whnf)))
    refine GA 0 (by omega) (by omega) ?_
    (conv=>whnf)
    refine ⟨rfl,_,rfl,?_⟩
    (conv=>whnf)
    have hm:=p1
    have hct:=FZ (l:=O) (by assumption) p1 p2 (Or.inl rfl)
    clear ih p1 p2
    (refine GP (enc:=AM) (fun _=>rfl) (by omega) ?_;(conv=>whnf);exact AY (by rw[<-hV,<-hct];rfl) (by simp only[A9,true_and];exact CU _))
   ·have e1:((n+1:Nat):Int)-1=n:=by omega
    (repeat' (first|(refine AG (fun hc => ?_) (fun hc => ?_)<;>first|(exfalso;omega)|(conv=>whnf))|(refine A3 ?_ ?_;omega;conv=>whnf)|(refine CF ?_ ?_;omega;conv=>whnf)|(refine PZ (by assumption) ?_ (fun v hv hb => ?_);omega;conv=>whnf)|(refine AE ?_;conv=>whnf)))
    ·rw[e1]
     exact A4 [] (by (conv=>whnf);exact ⟨rfl,rfl,rfl⟩) (ih n (by omega) ⟨by omega,fun i h1 h2=>by
      by_cases h:i=n
      ·subst h
       rw[e1,Int.toNat_natCast]at hv
       rw[hv];congr 1;omega
      ·exact p2 i (by omega) h2⟩)
    ·refine GA (n+1) (by omega) (by omega) ?_
     (conv=>whnf)
     refine ⟨rfl,_,rfl,?_⟩
     (conv=>whnf)
     rw[e1,Int.toNat_natCast]at hv
     have hm:=p1
     have hct:=FZ (l:=O) (by assumption) p1 p2 (Or.inr ⟨_,hv,by omega⟩)
     clear ih p1 p2 hv
     (refine GP (enc:=AM) (fun _=>rfl) (by omega) ?_;(conv=>whnf);exact AY (by rw[<-hV,<-hct];rfl) (by simp only[A9,true_and];exact CU _))
 ·generalize dg (val a)=x at *
  generalize dg (val b)=y at *
  rw[<-v1,<-v2]
  have hlen:y.length<=x.length:=by omega
  have hxl:x.length<=1099511627775:=by omega
  clear v1 v2 hA hB la lb
  refine EB (enc:=AM) 0 (x.length+1) rfl (by omega) (by omega) ?_
  (conv=>whnf)
  (repeat' (refine AW ?_;conv=>whnf))
  refine F9 (fun i _ _=>x.length-i) (fun (i:Nat) (o:List Nat) (c:Nat)=>i<=x.length/\o.length=x.length+1/\A5 o/\c<=1/\val (o.take i)+4294967296^i*c=val (x.take i)+val (y.take i)) (fun i o c=>[(8,.int .u64 (c:Int)),(29,.int .i64 i)]) (fun i o c=>[(26,26,.rw 1 (o.map AM))]) [] [] 0 (List.replicate (x.length+1) 0) 0 (by (conv=>whnf);exact ⟨rfl,rfl,rfl⟩) ⟨by omega,by simp,IQ _,by omega,by simp [val]⟩ ?_
  intro i o c ⟨p1,p2,p3,p4,p5⟩ ih
  by_cases hi:i<x.length
  ·(repeat' (first|(refine AG (fun hc => ?_) (fun hc => ?_)<;>first|(exfalso;omega)|(conv=>whnf))|(refine A3 ?_ ?_;omega;conv=>whnf)|(refine FQ ?_ ?_;omega;conv=>whnf)|(refine CR ?_ ?_;omega;conv=>whnf)|(refine FH ?_;conv=>whnf)|(refine AW ?_;conv=>whnf)|(refine VU (by assumption) ?_ (fun e he hb => ?_);omega;conv=>whnf)|(refine AE ?_;conv=>whnf)))
   ·rename_i d hd _
    refine E3 (by omega) ?_
    (conv=>whnf)
    (repeat' (first|(refine A0 ?_ ?_;omega;conv=>whnf)|(refine E8 ?_;conv=>whnf)))
    refine A4 [] (by (conv=>whnf);exact ⟨rfl,rfl,rfl⟩) (ih (i+1) _ _ (by omega) ⟨by omega,by simpa using p2,p3.set _ (by omega),by omega,?_⟩)
    have h1:=DW hd
    have h2:=DW he
    have h3:=OD (val (o.take i)) (4294967296^i) (d+c+e)
    have h4:=FO (v:=(d+c+e)%4294967296) (show i<o.length by omega)
    rw[h4,h1,h2,Nat.pow_succ]
    generalize 4294967296^i=p at *
    rw[h3,Nat.mul_add,Nat.mul_add]
    omega
   ·refine E3 (by omega) ?_
    (conv=>whnf)
    (repeat' (first|(refine A0 ?_ ?_;omega;conv=>whnf)|(refine E8 ?_;conv=>whnf)))
    refine A4 [] (by (conv=>whnf);exact ⟨rfl,rfl,rfl⟩) (ih (i+1) _ _ (by omega) ⟨by omega,by simpa using p2,p3.set _ (by omega),by omega,?_⟩)
    have h1:=DW he
    have h2:=YA (y:=y) (i:=i) (by omega)
    have h3:=OD (val (o.take i)) (4294967296^i) (e+c)
    have h4:=FO (v:=(e+c)%4294967296) (show i<o.length by omega)
    rw[h4,h1,h2,Nat.pow_succ]
    generalize 4294967296^i=p at *
    rw[h3,Nat.mul_add]
    omega
  ·obtain rfl:i=x.length:=by omega
   clear ih
   (repeat' (first|(refine AG (fun hc => ?_) (fun hc => ?_)<;>first|(exfalso;omega)|(conv=>whnf))|(refine A3 ?_ ?_;omega;conv=>whnf)|(refine D8 ?_ ?_;omega;conv=>whnf)|(refine AW ?_;conv=>whnf)|(refine AE ?_;conv=>whnf)))
   refine E3 (by omega) ?_
   (conv=>whnf)
   skip
   have hV:val (o.set x.length c)=val x+val y:=by
    have h4:=FO (v:=c) (show x.length<o.length by omega)
    rw[List.take_of_length_le (by simp;omega)]at h4
    rw[h4,p5,C7 (Nat.le_refl _),C7 hlen]
   have hD:A5 (o.set x.length c):=p3.set _ (by omega)
   have hL:(o.set x.length c).length=x.length+1:=by simpa using p2
   clear p3 p4 p5 p2
   generalize o.set x.length c=O at *
   rw[<-hL]
   refine E6 1000 N.E4 rfl rfl ?_
   (repeat' (refine AE ?_;conv=>whnf))
   refine CE (fun n=>n) (fun (n:Nat)=>n<=(O).length /\ ∀ i,n<=i->i<(O).length->(O)[i]? = some 0) (fun n=>[(3,.int .i64 n)]) (fun _=>[]) [] [] (O).length (by first|exact (by (conv=>whnf);exact ⟨rfl,rfl,rfl⟩)|(simp only[List.length_set,List.length_replicate];exact (by (conv=>whnf);exact ⟨rfl,rfl,rfl⟩))) ⟨Nat.le_refl _,fun i h1 h2=>by omega⟩ ?_
   intro n ⟨p1,p2⟩ ih
   rcases n with _|n
   ·(repeat' (first|(refine AG (fun hc => ?_) (fun hc => ?_)<;>first|(exfalso;omega)|(conv=>whnf))|(refine AE ?_;conv=>whnf)))
    refine GA 0 (by omega) (by omega) ?_
    (conv=>whnf)
    refine ⟨rfl,_,rfl,?_⟩
    (conv=>whnf)
    have hm:=p1
    have hct:=FZ (l:=O) (by assumption) p1 p2 (Or.inl rfl)
    clear ih p1 p2
    (refine GP (enc:=AM) (fun _=>rfl) (by omega) ?_;(conv=>whnf);exact AY (by rw[<-hV,<-hct];rfl) (by simp only[A9,true_and];exact CU _))
   ·have e1:((n+1:Nat):Int)-1=n:=by omega
    (repeat' (first|(refine AG (fun hc => ?_) (fun hc => ?_)<;>first|(exfalso;omega)|(conv=>whnf))|(refine A3 ?_ ?_;omega;conv=>whnf)|(refine CF ?_ ?_;omega;conv=>whnf)|(refine PZ (by assumption) ?_ (fun v hv hb => ?_);omega;conv=>whnf)|(refine AE ?_;conv=>whnf)))
    ·rw[e1]
     exact A4 [] (by (conv=>whnf);exact ⟨rfl,rfl,rfl⟩) (ih n (by omega) ⟨by omega,fun i h1 h2=>by
      by_cases h:i=n
      ·subst h
       rw[e1,Int.toNat_natCast]at hv
       rw[hv];congr 1;omega
      ·exact p2 i (by omega) h2⟩)
    ·refine GA (n+1) (by omega) (by omega) ?_
     (conv=>whnf)
     refine ⟨rfl,_,rfl,?_⟩
     (conv=>whnf)
     rw[e1,Int.toNat_natCast]at hv
     have hm:=p1
     have hct:=FZ (l:=O) (by assumption) p1 p2 (Or.inr ⟨_,hv,by omega⟩)
     clear ih p1 p2 hv
     (refine GP (enc:=AM) (fun _=>rfl) (by omega) ?_;(conv=>whnf);exact AY (by rw[<-hV,<-hct];rfl) (by simp only[A9,true_and];exact CU _))
theorem xU {a b:Int} (h:C6 a b<=0):a<=b:=by
 unfold C6 at h
 split at h
 ·omega
 ·split at h<;>omega
theorem xV {a b:Int} (h:0<C6 a b):b<a:=by
 unfold C6 at h
 split at h
 ·omega
 ·split at h<;>omega
theorem kJ (N:NatGLib L) (a b:List Nat) (q1 q2:Bool) (hA:A5 a) (hB:A5 b) (la:a.length<=1099511627776) (lb:b.length<=1099511627776):Ev L 69 [.sl q1 (a.map AM),.sl q2 (b.map AM)] (.sl false ((dg (val a-val b)).map AM)):=by
 have l1:=EN hA
 have l2:=EN hB
 have d1:=DT (val a)
 have d2:=DT (val b)
 have v1:=BU (val a)
 have v2:=BU (val b)
 refine Ev.x N.JT rfl rfl ?_
 (repeat' (first|(refine AG (fun hc => ?_) (fun hc => ?_)<;>first|(exfalso;omega)|(conv=>whnf))|(refine AW ?_;conv=>whnf)|(refine AE ?_;conv=>whnf)|(refine AC (OJ N a b _ _ hA hB la lb) ?_;conv=>whnf)|(refine MH (MV N a _ hA la) ?_;conv=>whnf)|(refine MH (MV N b _ hB lb) ?_;conv=>whnf)))
 ·have:=xU hc
  refine AY ?_ (by simp only[A9,true_and];exact CU _)
  rw[show val a-val b=0 by omega,ET];rfl
 ·have hlt:=xV hc
  have hll:(dg (val b)).length<=(dg (val a)).length:=by
   rcases Nat.lt_or_ge (dg (val a)).length (dg (val b)).length with h|h
   ·have:=SZ h;omega
   ·exact h
  have hlt':val b<val a:=by omega
  clear hlt hc
  generalize dg (val a)=x at *
  generalize dg (val b)=y at *
  rw[<-v1,<-v2]at hlt' ⊢
  clear v1 v2 hA hB lb
  refine EB (enc:=AM) 0 x.length rfl rfl (by omega) ?_
  (conv=>whnf)
  (repeat' (refine AW ?_;conv=>whnf))
  refine F9 (fun i _ _=>x.length-i) (fun (i:Nat) (o:List Nat) (c:Nat)=>i<=x.length/\o.length=x.length/\A5 o/\c<=1/\val (o.take i)+val (y.take i)=val (x.take i)+4294967296^i*c) (fun i o c=>[(8,.int .u64 (c:Int)),(25,.int .i64 i)]) (fun i o c=>[(22,22,.rw 1 (o.map AM))]) [] [] 0 (List.replicate x.length 0) 0 (by (conv=>whnf);exact ⟨rfl,rfl,rfl⟩) ⟨by omega,by simp,IQ _,by omega,by simp [val]⟩ ?_
  intro i o c ⟨p1,p2,p3,p4,p5⟩ ih
  by_cases hi:i<x.length
  ·(repeat' (first|(refine AG (fun hc => ?_) (fun hc => ?_)<;>first|(exfalso;omega)|(conv=>whnf))|(refine A3 ?_ ?_;omega;conv=>whnf)|(refine VT ?_ ?_;omega;conv=>whnf)|(refine CR ?_ ?_;omega;conv=>whnf)|(refine FH ?_;conv=>whnf)|(refine AW ?_;conv=>whnf)|(refine VU (by assumption) ?_ (fun e he hb => ?_);omega;conv=>whnf)|(refine AE ?_;conv=>whnf)))
   ·rename_i d hd hdb
    obtain ⟨s1,s2⟩:=AgL hdb hb p4
    refine E3 (by omega) ?_
    (conv=>whnf)
    (repeat' (first|(refine A0 ?_ ?_;omega;conv=>whnf)|(refine VS ?_;conv=>whnf)))
    generalize EF (EF d c) e=t at *
    refine A4 [] (by (conv=>whnf);exact ⟨rfl,rfl,rfl⟩) (ih (i+1) _ _ (by omega) ⟨by omega,by simpa using p2,p3.set _ (by omega),s2,?_⟩)
    rw[FO (by omega),DW hd,DW he,Nat.pow_succ]
    exact rL p5 s1
   ·obtain ⟨s1,s2⟩:=AgK hb p4
    refine E3 (by omega) ?_
    (conv=>whnf)
    (repeat' (first|(refine A0 ?_ ?_;omega;conv=>whnf)|(refine VS ?_;conv=>whnf)))
    generalize EF e c=t at *
    refine A4 [] (by (conv=>whnf);exact ⟨rfl,rfl,rfl⟩) (ih (i+1) _ _ (by omega) ⟨by omega,by simpa using p2,p3.set _ (by omega),s2,?_⟩)
    rw[FO (by omega),DW he,YA (by omega),Nat.pow_succ]
    rw[<-Nat.add_zero (t%4294967296)]at s1
    have:=rL (e:=0) p5 s1
    rw[Nat.mul_zero,Nat.add_zero]at this
    exact this
  ·obtain rfl:i=x.length:=by omega
   clear ih
   have hc0:c=0:=by
    rw[C7 (by omega),C7 hll,C7 (Nat.le_refl _)]at p5
    have:=EV p3
    rw[p2]at this
    rcases Nat.eq_zero_or_pos c with h|h
    ·exact h
    ·have:c=1:=by omega
     subst this
     omega
   subst hc0
   have hV:val o=val x-val y:=by
    rw[C7 (by omega),C7 hll,C7 (Nat.le_refl _)]at p5
    omega
   clear p5 p4
   rw[<-p2]
   (repeat' (first|(refine AG (fun hc => ?_) (fun hc => ?_)<;>first|(exfalso;omega)|(conv=>whnf))|(refine AE ?_;conv=>whnf)))
   refine E6 1000 N.E4 rfl rfl ?_
   (repeat' (refine AE ?_;conv=>whnf))
   refine CE (fun n=>n) (fun (n:Nat)=>n<=(o).length /\ ∀ i,n<=i->i<(o).length->(o)[i]? = some 0) (fun n=>[(3,.int .i64 n)]) (fun _=>[]) [] [] (o).length (by first|exact (by (conv=>whnf);exact ⟨rfl,rfl,rfl⟩)|(simp only[List.length_set,List.length_replicate];exact (by (conv=>whnf);exact ⟨rfl,rfl,rfl⟩))) ⟨Nat.le_refl _,fun i h1 h2=>by omega⟩ ?_
   intro n ⟨p1,p2⟩ ih
   rcases n with _|n
   ·(repeat' (first|(refine AG (fun hc => ?_) (fun hc => ?_)<;>first|(exfalso;omega)|(conv=>whnf))|(refine AE ?_;conv=>whnf)))
    refine GA 0 (by omega) (by omega) ?_
    (conv=>whnf)
    refine ⟨rfl,_,rfl,?_⟩
    (conv=>whnf)
    have hm:=p1
    have hct:=FZ (l:=o) (by assumption) p1 p2 (Or.inl rfl)
    clear ih p1 p2
    (refine GP (enc:=AM) (fun _=>rfl) (by omega) ?_;(conv=>whnf);exact AY (by rw[<-hV,<-hct];rfl) (by simp only[A9,true_and];exact CU _))
   ·have e1:((n+1:Nat):Int)-1=n:=by omega
    (repeat' (first|(refine AG (fun hc => ?_) (fun hc => ?_)<;>first|(exfalso;omega)|(conv=>whnf))|(refine A3 ?_ ?_;omega;conv=>whnf)|(refine CF ?_ ?_;omega;conv=>whnf)|(refine PZ (by assumption) ?_ (fun v hv hb => ?_);omega;conv=>whnf)|(refine AE ?_;conv=>whnf)))
    ·rw[e1]
     exact A4 [] (by (conv=>whnf);exact ⟨rfl,rfl,rfl⟩) (ih n (by omega) ⟨by omega,fun i h1 h2=>by
      by_cases h:i=n
      ·subst h
       rw[e1,Int.toNat_natCast]at hv
       rw[hv];congr 1;omega
      ·exact p2 i (by omega) h2⟩)
    ·refine GA (n+1) (by omega) (by omega) ?_
     (conv=>whnf)
     refine ⟨rfl,_,rfl,?_⟩
     (conv=>whnf)
     rw[e1,Int.toNat_natCast]at hv
     have hm:=p1
     have hct:=FZ (l:=o) (by assumption) p1 p2 (Or.inr ⟨_,hv,by omega⟩)
     clear ih p1 p2 hv
     (refine GP (enc:=AM) (fun _=>rfl) (by omega) ?_;(conv=>whnf);exact AY (by rw[<-hV,<-hct];rfl) (by simp only[A9,true_and];exact CU _))
theorem Z0 (N:NatGLib L) (a b:List Nat) (q1 q2:Bool) (hA:A5 a) (hB:A5 b) (lab:a.length+b.length<=1099511627776):Ev L 70 [.sl q1 (a.map AM),.sl q2 (b.map AM)] (.sl false ((dg (val a*val b)).map AM)):=by
 have l1:=EN hA
 have l2:=EN hB
 have d1:=DT (val a)
 have d2:=DT (val b)
 have v1:=BU (val a)
 have v2:=BU (val b)
 refine Ev.x N.JS rfl rfl ?_
 have hz : ∀ p:Prop,((dg (val a)).length:Int)=0\/((dg (val b)).length:Int)=0->AJ (.sl false []) (.sl false ((dg (val a*val b)).map AM)):=fun _ h=>by
  have:val a*val b=0:=by
   rcases h with h|h
   ·have:dg (val a)=[]:=List.eq_nil_of_length_eq_zero (by omega)
    rw[ZD.1 this,Nat.zero_mul]
   ·have:dg (val b)=[]:=List.eq_nil_of_length_eq_zero (by omega)
    rw[ZD.1 this,Nat.mul_zero]
  exact AY (by rw[this,ET];rfl) (by simp only[A9,true_and];exact CU _)
 (repeat' (first|(refine AG (fun hc => ?_) (fun hc => ?_)<;>first|(exfalso;omega)|(conv=>whnf))|(refine A0 ?_ ?_;omega;conv=>whnf)|(refine AW ?_;conv=>whnf)|(refine AE ?_;conv=>whnf)|(refine MH (MV N a _ hA (by omega)) ?_;conv=>whnf)|(refine MH (MV N b _ hB (by omega)) ?_;conv=>whnf)))
 ·exact hz True (Or.inl hc)
 ·exact hz True (Or.inr hc)
 ·clear hz
  generalize dg (val a)=x at *
  generalize dg (val b)=y at *
  rw[<-v1,<-v2]
  have hxy:x.length+y.length<=1099511627776:=by omega
  clear v1 v2 hA hB lab l1 l2
  refine EB (enc:=AM) 0 (x.length+y.length) rfl (by omega) (by omega) ?_
  (conv=>whnf)
  (repeat' (refine AW ?_;conv=>whnf))
  refine HG (fun i _=>x.length-i) (fun (i:Nat) (o:List Nat)=>i<=x.length/\o.length=x.length+y.length/\A5 o/\val o=val (x.take i)*val y /\ ∀ k,i+y.length<=k->k<o.length->o[k]? = some 0) (fun i o=>[(34,.int .i64 i)]) (fun i o=>[(31,31,.rw 1 (o.map AM))]) [] [] 0 (List.replicate (x.length+y.length) 0) (by (conv=>whnf);exact ⟨rfl,rfl,rfl⟩) ⟨by omega,by simp,IQ _,by simp [val,YC],fun k h1 h2=>by simp at h2;simp [h2]⟩ ?_
  intro i O ⟨p1,p2,p3,p4,p5⟩ ih
  by_cases hi:i<x.length
  ·obtain ⟨d,hd⟩ : ∃ d,x[i]? = some d:=⟨_,zE hi⟩
   have hdb:=d1.at hd
   (repeat' (first|(refine AG (fun hc => ?_) (fun hc => ?_)<;>first|(exfalso;omega)|(conv=>whnf))|(refine A0 ?_ ?_;omega;conv=>whnf)|(refine AW ?_;conv=>whnf)|(refine BL (by assumption) ?_ rfl ?_;omega;conv=>whnf)|(refine AE ?_;conv=>whnf)))
   ·refine A4 [] (by (conv=>whnf);exact ⟨rfl,rfl,rfl⟩) (ih (i+1) O (by omega) ⟨by omega,p2,p3,?_,fun k h1 h2=>p5 k (by omega) h2⟩)
    rw[DW hd,p4,show d=0 by omega,Nat.mul_zero,Nat.add_zero]
   ·refine F9 (fun j _ _=>y.length-j) (fun (j:Nat) (o:List Nat) (c:Nat)=>j<=y.length/\o.length=x.length+y.length/\A5 o/\c<4294967296/\val o+4294967296^(i+j)*c=val O+4294967296^i*(d*val (y.take j)) /\ ∀ k,i+j<=k->o[k]? = O[k]?) (fun j o c=>[(10,.int .u64 (c:Int)),(43,.int .i64 j)]) (fun j o c=>[(31,31,.rw 1 (o.map AM))]) [] [] 0 O 0 (by (conv=>whnf);exact ⟨rfl,rfl,rfl⟩) ⟨by omega,p2,p3,by omega,by simp [val],fun _ _=>rfl⟩ ?_
    intro j o c ⟨r1,r2,r3,r4,r5,r6⟩ jh
    have e1:((i:Int)+j).toNat=i+j:=by omega
    by_cases hj:j<y.length
    ·obtain ⟨w,hw⟩ : ∃ w,y[j]? = some w:=⟨_,zE hj⟩
     have hwb:=d2.at hw
     have hm:=SG hdb hwb
     (repeat' (first|(refine AG (fun hc => ?_) (fun hc => ?_)<;>first|(exfalso;omega)|(conv=>whnf))|(refine A3 ?_ ?_;omega;conv=>whnf)|(refine A0 ?_ ?_;omega;conv=>whnf)|(refine FQ ?_ ?_;omega;conv=>whnf)|(refine N7 ?_ ?_;omega;conv=>whnf)|(refine CR ?_ ?_;omega;conv=>whnf)|(refine FH ?_;conv=>whnf)|(refine BL (by assumption) ?_ rfl ?_;omega;conv=>whnf)|(refine eJ (by assumption) ?_ (fun v hv hb => ?_);omega;conv=>whnf)|(refine AE ?_;conv=>whnf)))
     refine VX (i+j) (by omega) (by omega) ?_
     (conv=>whnf)
     (repeat' (first|(refine A0 ?_ ?_;omega;conv=>whnf)|(refine E8 ?_;conv=>whnf)))
     refine A4 [] (by (conv=>whnf);exact ⟨rfl,rfl,rfl⟩) (jh (j+1) _ _ (by omega) ⟨by omega,by simpa using r2,r3.set _ (by omega),by omega,?_,?_⟩)
     ·have h1:=X9 (v:=(d*w+v+c)%4294967296) hv
      have h2:=OD 0 (4294967296^(i+j)) (d*w+v+c)
      rw[DW hw,show i+(j+1)=i+j+1 by omega,Nat.pow_succ (4294967296) (i+j)]
      have h3:4294967296^i*(d*(val (y.take j)+4294967296^j*w))=4294967296^i*(d*val (y.take j))+4294967296^(i+j)*(d*w):=by rw[Nat.pow_add];grind
      rw[h3]
      generalize 4294967296^(i+j)=P at *
      rw[Nat.mul_add P,Nat.mul_add P]at h2
      omega
     ·intro k hk
      rw[List.getElem?_set_ne (by omega)]
      exact r6 k (by omega)
    ·obtain rfl:j=y.length:=by omega
     clear jh
     (repeat' (first|(refine AG (fun hc => ?_) (fun hc => ?_)<;>first|(exfalso;omega)|(conv=>whnf))|(refine A3 ?_ ?_;omega;conv=>whnf)|(refine A0 ?_ ?_;omega;conv=>whnf)|(refine D8 ?_ ?_;omega;conv=>whnf)|(refine AW ?_;conv=>whnf)|(refine AE ?_;conv=>whnf)))
     have hz:=r6 (i+y.length) (by omega)
     rw[p5 (i+y.length) (by omega) (by omega)]at hz
     refine VX (i+y.length) (by omega) (by omega) ?_
     (conv=>whnf)
     (repeat' (refine A0 ?_ ?_;omega;conv=>whnf))
     refine A4 [] (by (conv=>whnf);exact ⟨rfl,rfl,rfl⟩) (ih (i+1) _ (by omega) ⟨by omega,by simpa using r2,r3.set _ (by omega),?_,?_⟩)
     ·have h1:=X9 (v:=c) hz
      rw[Nat.mul_zero,Nat.add_zero]at h1
      rw[h1,r5,p4,C7 (Nat.le_refl _),DW hd,Nat.add_mul,Nat.mul_assoc]
     ·intro k h1 h2
      rw[List.length_set]at h2
      rw[List.getElem?_set_ne (by omega),r6 k (by omega)]
      exact p5 k (by omega) (by omega)
  ·obtain rfl:i=x.length:=by omega
   clear ih
   rw[C7 (Nat.le_refl _)]at p4
   rw[<-p4,<-p2]
   (repeat' (first|(refine AG (fun hc => ?_) (fun hc => ?_)<;>first|(exfalso;omega)|(conv=>whnf))|(refine AE ?_;conv=>whnf)))
   clear p5
   refine E6 1000 N.E4 rfl rfl ?_
   (repeat' (refine AE ?_;conv=>whnf))
   refine CE (fun n=>n) (fun (n:Nat)=>n<=(O).length /\ ∀ i,n<=i->i<(O).length->(O)[i]? = some 0) (fun n=>[(3,.int .i64 n)]) (fun _=>[]) [] [] (O).length (by first|exact (by (conv=>whnf);exact ⟨rfl,rfl,rfl⟩)|(simp only[List.length_set,List.length_replicate];exact (by (conv=>whnf);exact ⟨rfl,rfl,rfl⟩))) ⟨Nat.le_refl _,fun i h1 h2=>by omega⟩ ?_
   intro n ⟨p1,p2⟩ ih
   rcases n with _|n
   ·(repeat' (first|(refine AG (fun hc => ?_) (fun hc => ?_)<;>first|(exfalso;omega)|(conv=>whnf))|(refine AE ?_;conv=>whnf)))
    refine GA 0 (by omega) (by omega) ?_
    (conv=>whnf)
    refine ⟨rfl,_,rfl,?_⟩
    (conv=>whnf)
    have hm:=p1
    have hct:=FZ (l:=O) (by assumption) p1 p2 (Or.inl rfl)
    clear ih p1 p2
    (refine GP (enc:=AM) (fun _=>rfl) (by omega) ?_;(conv=>whnf);exact AY (by rw[<-hct];rfl) (by simp only[A9,true_and];exact CU _))
   ·have e1:((n+1:Nat):Int)-1=n:=by omega
    (repeat' (first|(refine AG (fun hc => ?_) (fun hc => ?_)<;>first|(exfalso;omega)|(conv=>whnf))|(refine A3 ?_ ?_;omega;conv=>whnf)|(refine CF ?_ ?_;omega;conv=>whnf)|(refine PZ (by assumption) ?_ (fun v hv hb => ?_);omega;conv=>whnf)|(refine AE ?_;conv=>whnf)))
    ·rw[e1]
     exact A4 [] (by (conv=>whnf);exact ⟨rfl,rfl,rfl⟩) (ih n (by omega) ⟨by omega,fun i h1 h2=>by
      by_cases h:i=n
      ·subst h
       rw[e1,Int.toNat_natCast]at hv
       rw[hv];congr 1;omega
      ·exact p2 i (by omega) h2⟩)
    ·refine GA (n+1) (by omega) (by omega) ?_
     (conv=>whnf)
     refine ⟨rfl,_,rfl,?_⟩
     (conv=>whnf)
     rw[e1,Int.toNat_natCast]at hv
     have hm:=p1
     have hct:=FZ (l:=O) (by assumption) p1 p2 (Or.inr ⟨_,hv,by omega⟩)
     clear ih p1 p2 hv
     (refine GP (enc:=AM) (fun _=>rfl) (by omega) ?_;(conv=>whnf);exact AY (by rw[<-hct];rfl) (by simp only[A9,true_and];exact CU _))
end Go.Eng

namespace Go.Eng
open F
section
variable {K:AV->Prop} {a b s:Nat} {k':IntKind}
theorem eP (hs:s<=32) (hk:K (.int .u32 ((OU a s:Nat):Int))):AD .shl .u32 (a:Int) k' (s:Int) K:=by
 refine YL (show s<=IntKind.u32.bits from hs) ?_
 rw[wrap_u32,<-dB];exact hk
theorem OA (hs:s<=64) (h:a*2^s<=18446744073709551615) (hk:K (.int .u64 ((a*2^s:Nat):Int))):AD .shl .u64 (a:Int) k' (s:Int) K:=by
 refine YL (show s<=IntKind.u64.bits from hs) ?_
 rw[IntWalk.u64_in _ (by omega)];exact hk
theorem YM (n:Nat) (hx:a%2^n=0) (hy:b<2^n) (h:a+b<=4294967295) (hk:K (.int .u32 ((a+b:Nat):Int))):AD .or .u32 (a:Int) .u32 (b:Int) K :=
 YK n hx hy (show a+b<4294967296 by omega) (IntWalk.u32_in _ (by omega)) hk
theorem uM (n:Nat) (hx:b%2^n=0) (hy:a<2^n) (h:a+b<=4294967295) (hk:K (.int .u32 ((a+b:Nat):Int))):AD .or .u32 (a:Int) .u32 (b:Int) K:=by
 have e:DG .or .u32 (a:Int) .u32 (b:Int)=DG .or .u32 (b:Int) .u32 (a:Int):=by
  simp only[DG,if_true,BitVec.or_comm]
 rw[Nat.add_comm]at hk h
 obtain ⟨v,h1,h2⟩:=YM (K:=K) n hx hy h hk
 exact ⟨v,by rw[e];exact h1,h2⟩
theorem uP (hs:s<=32) (hk:K (.int .u32 ((a/2^s:Nat):Int))):AD .shr .u32 (a:Int) k' (s:Int) K:=N9 (show s<=IntKind.u32.bits from hs) hk
end
attribute [local irreducible] AA AF AR AD B0 AU AX A8 A6 BN AP BK BV CN BI AZ BG BQ AB A7 AJ pw BH BF B9 B8 CI B7 CB BM B3
set_option maxHeartbeats 1000000
variable {L:Lib}
def YJ (a:List Nat) (s:Nat) (o:List Nat):Prop:=A5 o/\(a.length<=o.length/\o.length<=a.length+1)/\(val a*2^s<4294967296^o.length->val o=val a*2^s)
theorem Ac5 {a o:List Nat} {s lo:Nat} (hD:A5 o) (hl:o.length=a.length) (h:val (o.take a.length)+4294967296^a.length*lo=val (a.take a.length)*2^s):YJ a s o:=by
 refine ⟨hD,by omega,fun hlt => ?_⟩
 rw[C7 (by omega),C7 (Nat.le_refl _)]at h
 rw[hl]at hlt
 have:lo=0:=by
  rcases Nat.eq_zero_or_pos lo with h0|h0
  ·exact h0
  ·have:4294967296^a.length*1<=4294967296^a.length*lo:=Nat.mul_le_mul_left _ h0
   omega
 subst this
 omega
theorem nB {a o:List Nat} {s lo:Nat} (hD:A5 o) (hlo:lo<4294967296) (hl:o.length=a.length+1) (h:val (o.take a.length)+4294967296^a.length*lo=val (a.take a.length)*2^s):YJ a s (o.set a.length lo):=by
 refine ⟨hD.set _ hlo,by simp;omega,fun _ => ?_⟩
 have h1:=FO (v:=lo) (show a.length<o.length by omega)
 rw[C7 (by simp;omega),h,C7 (Nat.le_refl _)]at h1
 exact h1
theorem Abb (N:NatGLib L) (a:List Nat) (q:Bool) (s n:Nat) (hA:A5 a) (hs:s<=31) (hn:a.length<=n/\n<=a.length+1) (la:a.length<=1099511627776) : ∃ r,Ev L 71 [.sl q (a.map AM),.int .u64 (s:Int),.int .i64 (n:Int)] r /\ ∃ o,YJ a s o/\o.length=n/\r = .sl false (o.map AM):=by
 refine Ev.xE N.H1 rfl rfl ?_
 (repeat' (refine AE ?_;conv=>whnf))
 refine EB (enc:=AM) 0 n rfl rfl (by omega) ?_
 (conv=>whnf)
 (repeat' (refine AW ?_;conv=>whnf))
 refine F9 (fun i _ _=>a.length-i) (fun (i:Nat) (o:List Nat) (lo:Nat)=>i<=a.length/\o.length=n/\A5 o/\lo<2^s/\val (o.take i)+4294967296^i*lo=val (a.take i)*2^s) (fun i o lo=>[(8,.int .u32 (lo:Int)),(15,.int .i64 i)]) (fun i o lo=>[(71012,71012,.rw 1 (o.map AM))]) [] [] 0 (List.replicate n 0) 0 (by (conv=>whnf);exact ⟨rfl,rfl,rfl⟩) ⟨by omega,by simp,IQ _,Nat.two_pow_pos s,by simp [val]⟩ ?_
 intro i o lo ⟨p1,p2,p3,p4,p5⟩ ih
 have hps:=UV (s:=s) (by omega)
 by_cases hi:i<a.length
 ·obtain ⟨d,hd⟩ : ∃ d,a[i]? = some d:=⟨_,zE hi⟩
  have hdb:=hA.at hd
  obtain ⟨f1,f2,f3,f4⟩:=Q5 (s:=s) hdb (by omega)
  (repeat' (first|(refine AG (fun hc => ?_) (fun hc => ?_)<;>first|(exfalso;omega)|(conv=>whnf))|(refine BL (by assumption) ?_ rfl ?_;omega;conv=>whnf)|(refine AE ?_;conv=>whnf)))
  refine eP (by omega) ?_
  (conv=>whnf)
  skip
  refine YM s f1 p4 (by omega) ?_
  (conv=>whnf)
  (repeat' (first|(refine A3 ?_ ?_;omega;conv=>whnf)|fail))
  refine E3 (by omega) ?_
  (conv=>whnf)
  (repeat' (refine CR ?_ ?_;omega;conv=>whnf))
  refine OA (by omega) f4 ?_
  (conv=>whnf)
  (repeat' (first|(refine A0 ?_ ?_;omega;conv=>whnf)|(refine E8 ?_;conv=>whnf)|(refine D8 ?_ ?_;omega;conv=>whnf)))
  rw[<-Q4]
  refine A4 [] (by (conv=>whnf);exact ⟨rfl,rfl,rfl⟩) (ih (i+1) _ _ (by omega) ⟨by omega,by simpa using p2,p3.set _ (by omega),f2,?_⟩)
  rw[FO (by omega),DW hd,Nat.pow_succ]
  exact nC p5
 ·obtain rfl:i=a.length:=by omega
  clear ih
  (repeat' (first|(refine AG (fun hc => ?_) (fun hc => ?_)<;>first|(exfalso;omega)|(conv=>whnf))|(refine A3 ?_ ?_;omega;conv=>whnf)|(refine AW ?_;conv=>whnf)|(refine AE ?_;conv=>whnf)))
  ·refine E3 (by omega) ?_
   (conv=>whnf)
   skip
   refine ⟨_,?_,_,nB p3 (by omega) (by omega) p5,by simpa using p2,rfl⟩
   (conv=>whnf)
   refine DE (enc:=AM) (fun _=>rfl) rfl (by simp [p2]) ?_
   (conv=>whnf)
   exact AY rfl (by simp only[A9,true_and];exact CU _)
  ·refine ⟨_,?_,_,Ac5 p3 (by omega) p5,p2,rfl⟩
   (conv=>whnf)
   refine DE (enc:=AM) (fun _=>rfl) rfl (by simp [p2]) ?_
   (conv=>whnf)
   exact AY rfl (by simp only[A9,true_and];exact CU _)
theorem Abc (N:NatGLib L) (a:List Nat) (q:Bool) (s:Nat) (hA:A5 a) (hs:s<=31) (la:a.length<=1099511627776) : ∃ r,Ev L 72 [.sl q (a.map AM),.int .u64 (s:Int)] r /\ ∃ o,A5 o/\o.length=a.length/\val o=val a/2^s/\r = .sl false (o.map AM):=by
 refine Ev.xE N.JZ rfl rfl ?_
 (repeat' (first|(refine AW ?_;conv=>whnf)|(refine AE ?_;conv=>whnf)))
 refine EB (enc:=AM) 0 a.length rfl rfl (by omega) ?_
 (conv=>whnf)
 (repeat' (first|(refine CF ?_ ?_;omega;conv=>whnf)|(refine AW ?_;conv=>whnf)))
 refine F9 (fun n _ _=>n) (fun (n:Nat) (o:List Nat) (hi:Nat)=>n<=a.length/\o.length=a.length/\A5 o/\hi=val (a.drop n)%2^s*2^(32-s)/\val (o.drop n)=val (a.drop n)/2^s) (fun n o hi=>[(6,.int .u32 (hi:Int)),(7,.int .i64 ((n:Int)-1))]) (fun n o hi=>[(10,10,.rw 1 (o.map AM))]) [] [] a.length (List.replicate a.length 0) 0 (by (conv=>whnf);exact ⟨rfl,rfl,rfl⟩) ⟨by omega,by simp,IQ _,by rw[List.drop_of_length_le (Nat.le_refl _)];simp [val],by rw[List.drop_of_length_le (Nat.le_refl _),List.drop_of_length_le (by simp)];simp [val]⟩ ?_
 intro n o hi ⟨p1,p2,p3,p4,p5⟩ ih
 rcases n with _|n
 ·(repeat' (first|(refine AG (fun hc => ?_) (fun hc => ?_)<;>first|(exfalso;omega)|(conv=>whnf))|(refine AE ?_;conv=>whnf)))
  rw[List.drop_zero,List.drop_zero]at p5
  refine ⟨_,?_,_,p3,p2,p5,rfl⟩
  (conv=>whnf)
  refine DE (enc:=AM) (fun _=>rfl) rfl p2.symm ?_
  (conv=>whnf)
  exact AY rfl (by simp only[A9,true_and];exact CU _)
 ·have e1:((n+1:Nat):Int)-1=n:=by omega
  rw[e1]
  obtain ⟨d,hd⟩ : ∃ d,a[n]? = some d:=⟨_,zE (by omega)⟩
  have hdb:=hA.at hd
  obtain ⟨f1,f2,f3⟩:=nF (V:=val (a.drop (n+1))) hdb (show s<=32 by omega)
  obtain ⟨g1,g2,g3,g4⟩:=Q5 hdb (show 32-s<=32 by omega)
  rw[<-p4]at f2 f3
  (repeat' (first|(refine AG (fun hc => ?_) (fun hc => ?_)<;>first|(exfalso;omega)|(conv=>whnf))|(refine BL (by assumption) ?_ rfl ?_;omega;conv=>whnf)|(refine AE ?_;conv=>whnf)))
  refine uP (by omega) ?_
  (conv=>whnf)
  skip
  refine uM (32-s) f2 f1 (by omega) ?_
  (conv=>whnf)
  (repeat' (first|(refine A3 ?_ ?_;omega;conv=>whnf)|fail))
  refine E3 (by omega) ?_
  (conv=>whnf)
  (repeat' (first|(refine VT ?_ ?_;omega;conv=>whnf)|(refine CR ?_ ?_;omega;conv=>whnf)|(refine BL (by assumption) ?_ rfl ?_;omega;conv=>whnf)))
  rw[show EF 32 s=32-s by rw[RB];omega]
  refine OA (by omega) g4 ?_
  (conv=>whnf)
  (repeat' (first|(refine CF ?_ ?_;omega;conv=>whnf)|(refine FH ?_;conv=>whnf)))
  rw[Ac9 (by omega)]
  refine A4 [] (by (conv=>whnf);exact ⟨rfl,rfl,rfl⟩) (ih n _ _ (by omega) ⟨by omega,by simpa using p2,p3.set _ (by omega),?_,?_⟩)
  ·rw[GZ hd,nG (by omega)]
  ·rw[GZ (l:=o.set n (d/2^s+hi)) (d:=d/2^s+hi) (by rw[List.getElem?_set_self (by omega)]),List.drop_set_of_lt (by omega),p5,GZ hd,bI (by omega),<-p4]
theorem W1 : ∀ n<256,(List.replicate 1 0++List.replicate 1 1++List.replicate 2 2++List.replicate 4 3++List.replicate 8 4++List.replicate 16 5++List.replicate 32 6++List.replicate 64 7++List.replicate 128 8)[n]? = some (blen n):=by decide +kernel
theorem AaT (N:NatGLib L) (x:Nat) (hx:x<4294967296):Ev L 63 [.int .u32 (x:Int)] (.int .i64 (blen x:Int)):=by
 have hbl : ∀ y<256,blen y<=8:=fun y h=>V4 (k:=8) h
 refine Ev.x N.JO rfl rfl ?_
 (repeat' (first|(refine AG (fun hc => ?_) (fun hc => ?_)<;>first|(exfalso;omega)|(conv=>whnf))|(refine A0 ?_ ?_;omega;conv=>whnf)|(refine uJ ?_;conv=>whnf)|(refine uL ?_;conv=>whnf)|(refine uA ?_ ?_;omega;conv=>whnf)|(refine AE ?_;conv=>whnf)))
 ·have hb8:=hbl (x/65536/256) (by omega)
  refine VY (W1 _ (by omega)) ?_
  (conv=>whnf)
  (repeat' (first|(refine A0 ?_ ?_;omega;conv=>whnf)|(refine PW ?_ ?_;omega;conv=>whnf)))
  have h1:blen (x/65536)+16=blen x:=TG 16 (x:=x) (by omega)
  have h2:blen (x/65536/256)+8=blen (x/65536):=TG 8 (x:=x/65536) (by omega)
  refine C4 ?_
  rw[<-h1,<-h2]
  omega
 ·have hb8:=hbl (x/65536) (by omega)
  refine VY (W1 _ (by omega)) ?_
  (conv=>whnf)
  (repeat' (first|(refine A0 ?_ ?_;omega;conv=>whnf)|(refine PW ?_ ?_;omega;conv=>whnf)))
  have h1:blen (x/65536)+16=blen x:=TG 16 (x:=x) (by omega)
  refine C4 ?_
  rw[<-h1]
  omega
 ·have hb8:=hbl (x/256) (by omega)
  refine VY (W1 _ (by omega)) ?_
  (conv=>whnf)
  (repeat' (first|(refine A0 ?_ ?_;omega;conv=>whnf)|(refine PW ?_ ?_;omega;conv=>whnf)))
  have h2:blen (x/256)+8=blen x:=TG 8 (x:=x) (by omega)
  refine C4 ?_
  rw[<-h2]
  omega
 ·have hb8:=hbl (x) (by omega)
  refine VY (W1 _ (by omega)) ?_
  (conv=>whnf)
  (repeat' (first|(refine A0 ?_ ?_;omega;conv=>whnf)|(refine PW ?_ ?_;omega;conv=>whnf)))
  refine C4 ?_
  omega
theorem jY (N:NatGLib L) (x:Nat) (hx:x<4294967296):Ev L 64 [.int .u32 (x:Int)] (.int .i64 ((32-blen x:Nat):Int)):=by
 have h:=V4 (k:=32) hx
 refine Ev.x N.JN rfl rfl ?_
 (repeat' (first|(refine CF ?_ ?_;omega;conv=>whnf)|(refine AE ?_;conv=>whnf)|(refine AC (AaT N x hx) ?_;conv=>whnf)))
 refine C4 ?_
 omega
end Go.Eng

namespace Go.Eng
open F
attribute [local irreducible] AA AF AR AD B0 AU AX A8 A6 BN AP BK BV CN BI AZ BG BQ AB A7 AJ pw BH BF B9 B8 CI B7 CB BM B3
set_option maxHeartbeats 4000000
variable {L:Lib}
theorem I7 (l:List Nat):A9 (.sl false (l.map AM)):=by
 simp only[A9,true_and];exact CU l
theorem fS {M:Mem} {v:AV} {ky t z off len s:Nat} {l:List Nat} (hv:v = .row ky t z off len) (h:mget M ky=some (s,.rw 1 (l.map AM))):P7 M v=none:=by
 subst hv
 unfold P7
 split
 ·rename_i e
  simp only[AV.row.injEq]at e
  obtain ⟨rfl,_⟩:=e
  rw[h]
  cases l with
  | nil=>rfl
  | cons a l=>cases l<;>rfl
 ·rfl
theorem F2 (N:RefGLib L) (l:List Nat) (q:Bool) (hD:A5 l) (hl:l.length<=1099511627776):Ev L 101 [.sl q (l.map AM)] (.sl false ((dg (val l)).map AM)):=by
 refine Ev.x N.GJ rfl rfl ?_
 (repeat' (first|(refine AW ?_;conv=>whnf)|(refine AE ?_;conv=>whnf)))
 refine CE (fun n=>n) (fun (n:Nat)=>n<=l.length /\ ∀ i,n<=i->i<l.length->l[i]? = some 0) (fun n=>[(3,.int .i64 n)]) (fun _=>[]) [] [] l.length (by (conv=>whnf);exact ⟨rfl,rfl,rfl⟩) ⟨Nat.le_refl _,fun i h1 h2=>by omega⟩ ?_
 intro n ⟨p1,p2⟩ ih
 rcases n with _|n
 ·have hv:=FZ hD p1 p2 (Or.inl rfl)
  rw[<-hv]
  clear ih
  (repeat' (first|(refine AG (fun hc => ?_) (fun hc => ?_)<;>first|(exfalso;omega)|(conv=>whnf))|(refine AE ?_;conv=>whnf)))
  refine M3 (k:=0) (fun _=>rfl) (by omega) ?_
  (conv=>whnf)
  refine O0 (enc:=AM) (fun _=>rfl) (by rw[List.length_take];omega) (by rw[List.length_take];omega) ?_
  (conv=>whnf)
  (repeat' (refine DE (fun _=>rfl) rfl ?_ ?_;(first|rfl|simp);conv=>whnf))
  exact AY rfl (I7 _)
 ·have e1:((n+1:Nat):Int)-1=n:=by omega
  (repeat' (first|(refine AG (fun hc => ?_) (fun hc => ?_)<;>first|(exfalso;omega)|(conv=>whnf))|(refine CF ?_ ?_;omega;conv=>whnf)|(refine O4 (by assumption) ?_ (fun e he hb => ?_);omega;conv=>whnf)|(refine AE ?_;conv=>whnf)))
  ·rw[e1]
   exact A4 [] (by (conv=>whnf);exact ⟨rfl,rfl,rfl⟩) (ih n (by omega) ⟨by omega,fun i h1 h2=>by
    by_cases h:i=n
    ·subst h
     rw[e1,Int.toNat_natCast]at he
     rw[he];congr 1;omega
    ·exact p2 i (by omega) h2⟩)
  ·rw[e1,Int.toNat_natCast]at he
   have hv:=FZ hD p1 p2 (Or.inr ⟨e,he,by omega⟩)
   rw[<-hv]
   clear ih
   refine M3 (k:=n+1) (fun _=>rfl) (by omega) ?_
   (conv=>whnf)
   refine O0 (enc:=AM) (fun _=>rfl) (by rw[List.length_take];omega) (by rw[List.length_take];omega) ?_
   (conv=>whnf)
   (repeat' (refine DE (fun _=>rfl) rfl ?_ ?_;(first|rfl|simp);conv=>whnf))
   exact AY rfl (I7 _)
theorem Z3 (N:RefGLib L) (a b:List Nat) (q1 q2:Bool) (hA:A5 a) (hB:A5 b) (la:a.length<=1099511627776) (lb:b.length<=1099511627776):Ev L 102 [.sl q1 (a.map AM),.sl q2 (b.map AM)] (.int .i64 (C6 (val a) (val b))):=by
 have t1:=fun q=>F2 N a q hA la
 have t2:=fun q=>F2 N b q hB lb
 have l1:=EN hA
 have l2:=EN hB
 have d1:=DT (val a)
 have d2:=DT (val b)
 refine Ev.x N.KX rfl rfl ?_
 by_cases hlen:(dg (val a)).length=(dg (val b)).length
 ·have v1:=BU (val a)
  have v2:=BU (val b)
  generalize dg (val a)=X at *
  generalize dg (val b)=Y at *
  (repeat' (first|(refine AG (fun hc => ?_) (fun hc => ?_)<;>first|(exfalso;omega)|(conv=>whnf))|(refine CF ?_ ?_;omega;conv=>whnf)|(refine AW ?_;conv=>whnf)|(refine AE ?_;conv=>whnf)|(refine AC (t1 _) ?_;conv=>whnf)|(refine AC (t2 _) ?_;conv=>whnf)))
  refine CE (fun n=>n) (fun (n:Nat)=>n<=X.length/\X.drop n=Y.drop n) (fun n=>[(5,.int .i64 ((n:Int)-1))]) (fun _=>[]) [] [] X.length (by (conv=>whnf);exact ⟨rfl,rfl,rfl⟩) ⟨Nat.le_refl _,by rw[List.drop_of_length_le (Nat.le_refl _),List.drop_of_length_le (by omega)]⟩ ?_
  intro n ⟨p1,p2⟩ ih
  rcases n with _|n
  ·(repeat' (first|(refine AG (fun hc => ?_) (fun hc => ?_)<;>first|(exfalso;omega)|(conv=>whnf))|(refine AE ?_;conv=>whnf)))
   rw[List.drop_zero,List.drop_zero]at p2
   exact C4 (QB (by rw[<-v1,<-v2,p2]))
  ·have e1:((n+1:Nat):Int)-1=n:=by omega
   rw[e1]
   obtain ⟨x,hx⟩ : ∃ x,X[n]? = some x:=⟨_,zE (by omega)⟩
   obtain ⟨y,hy⟩ : ∃ y,Y[n]? = some y:=⟨_,zE (by omega)⟩
   rcases Nat.lt_trichotomy x y with h|h|h
   ·have:=X8 d1 d2 hlen hx hy p2 h
    (repeat' (first|(refine AG (fun hc => ?_) (fun hc => ?_)<;>first|(exfalso;omega)|(conv=>whnf))|(refine BL (by assumption) ?_ rfl ?_;omega;conv=>whnf)|(refine AE ?_;conv=>whnf)))
    exact C4 (HX (by omega))
   ·subst h
    (repeat' (first|(refine AG (fun hc => ?_) (fun hc => ?_)<;>first|(exfalso;omega)|(conv=>whnf))|(refine CF ?_ ?_;omega;conv=>whnf)|(refine BL (by assumption) ?_ rfl ?_;omega;conv=>whnf)|(refine AE ?_;conv=>whnf)))
    refine A4 [] (by (conv=>whnf);exact ⟨rfl,rfl,rfl⟩) (ih n (by omega) ⟨by omega,?_⟩)
    obtain ⟨i1,e1⟩:=zS hx
    obtain ⟨i2,e2⟩:=zS hy
    rw[List.drop_eq_getElem_cons i1,List.drop_eq_getElem_cons i2,p2,e1,e2]
   ·have:=X8 d2 d1 hlen.symm hy hx p2.symm h
    (repeat' (first|(refine AG (fun hc => ?_) (fun hc => ?_)<;>first|(exfalso;omega)|(conv=>whnf))|(refine BL (by assumption) ?_ rfl ?_;omega;conv=>whnf)|(refine AE ?_;conv=>whnf)))
    exact C4 (NV (by omega))
 ·rcases Nat.lt_trichotomy (dg (val a)).length (dg (val b)).length with h1|h1|h1
  ·have:=SZ h1
   (repeat' (first|(refine AG (fun hc => ?_) (fun hc => ?_)<;>first|(exfalso;omega)|(conv=>whnf))|(refine AW ?_;conv=>whnf)|(refine AE ?_;conv=>whnf)|(refine AC (t1 _) ?_;conv=>whnf)|(refine AC (t2 _) ?_;conv=>whnf)))
   exact C4 (HX (by omega))
  ·exact absurd h1 hlen
  ·have:=SZ h1
   (repeat' (first|(refine AG (fun hc => ?_) (fun hc => ?_)<;>first|(exfalso;omega)|(conv=>whnf))|(refine AW ?_;conv=>whnf)|(refine AE ?_;conv=>whnf)|(refine AC (t1 _) ?_;conv=>whnf)|(refine AC (t2 _) ?_;conv=>whnf)))
   exact C4 (NV (by omega))
theorem dX {y:List Nat} (i:Nat):val (y.take (i+1))=val (y.take i)+4294967296^i*y.getD i 0:=by
 rcases Nat.lt_or_ge i y.length with h|h
 ·rw[DW (zE h),GG (zE h)]
 ·rw[<-PE h,C7 h,C7 (by omega)];omega
theorem kQ (N:RefGLib L) (a b:List Nat) (q1 q2:Bool) (hA:A5 a) (hB:A5 b) (la:a.length<=549755813888) (lb:b.length<=549755813888):Ev L 103 [.sl q1 (a.map AM),.sl q2 (b.map AM)] (.sl false ((dg (val a+val b)).map AM)):=by
 refine Ev.x N.KV rfl rfl ?_
 (repeat' (refine AE ?_;conv=>whnf))
 refine F9 (fun i _ _=>a.length+b.length-i) (fun (i:Nat) (o:List Nat) (c:Nat)=>(i<=a.length\/i<=b.length)/\o.length=i/\A5 o/\c<=1/\val o+4294967296^i*c=val (a.take i)+val (b.take i)) (fun i o c=>[(7,.int .i64 i),(6,.int .u64 (c:Int)),(5,.row 5 0 1 0 o.length)]) (fun i o c=>[(5,5,.rw 1 (o.map AM))]) [] [] 0 [] 0 (by (conv=>whnf);exact ⟨rfl,rfl,rfl⟩) ⟨by omega,rfl,RV,by omega,by simp [val]⟩ ?_
 intro i o c ⟨p1,p2,p3,p4,p5⟩ ih
 by_cases hi:i<a.length\/i<b.length
 ·have g1:=dX (y:=a) i
  have g2:=dX (y:=b) i
  have k1:=PD hA i
  have k2:=PD hB i
  have hst : ∀ t,t=c+a.getD i 0+b.getD i 0->val (o++[t%4294967296])+4294967296^(i+1)*(t/4294967296)=val (a.take (i+1))+val (b.take (i+1)):=fun t ht=>by
   have h3:=OD (val o) (4294967296^i) t
   rw[NL,p2,g1,g2,Nat.pow_succ]
   rw[h3,ht,Nat.mul_add,Nat.mul_add]
   omega
  by_cases h1:i<a.length
  ·obtain ⟨x,hx⟩ : ∃ x,a[i]? = some x:=⟨_,zE h1⟩
   have hxb:=hA.at hx
   rw[GG hx]at hst
   by_cases h2:i<b.length
   ·obtain ⟨y,hy⟩ : ∃ y,b[i]? = some y:=⟨_,zE h2⟩
    have hyb:=hB.at hy
    rw[GG hy]at hst
    (repeat' (first|(refine AG (fun hc => ?_) (fun hc => ?_)<;>first|(exfalso;omega)|(conv=>whnf))|(refine FQ ?_ ?_;omega;conv=>whnf)|(refine CR ?_ ?_;omega;conv=>whnf)|(refine FH ?_;conv=>whnf)|(refine AW ?_;conv=>whnf)|(refine BL (by assumption) ?_ rfl ?_;omega;conv=>whnf)|(refine EK ?_;conv=>whnf)|(refine AE ?_;conv=>whnf)))
    refine E2 (enc:=AM) (((c+x+y)%4294967296:Nat)) rfl rfl rfl (by omega) (by omega) ?_
    (conv=>whnf)
    (repeat' (first|(refine A0 ?_ ?_;omega;conv=>whnf)|(refine E8 ?_;conv=>whnf)))
    refine A4 [(5,46)] (by (conv=>whnf);exact ⟨rfl,rfl,rfl⟩) (ih (i+1) (o++[(c+x+y)%4294967296]) ((c+x+y)/4294967296) (by omega) ⟨by omega,by simp;omega,p3.append (G6 (by omega)),by omega,?_⟩)
    exact hst (c+x+y) (by omega)
   ·rw[<-PE (show b.length<=i by omega)]at hst
    (repeat' (first|(refine AG (fun hc => ?_) (fun hc => ?_)<;>first|(exfalso;omega)|(conv=>whnf))|(refine FQ ?_ ?_;omega;conv=>whnf)|(refine CR ?_ ?_;omega;conv=>whnf)|(refine FH ?_;conv=>whnf)|(refine AW ?_;conv=>whnf)|(refine BL (by assumption) ?_ rfl ?_;omega;conv=>whnf)|(refine EK ?_;conv=>whnf)|(refine AE ?_;conv=>whnf)))
    refine E2 (enc:=AM) (((c+x)%4294967296:Nat)) rfl rfl rfl (by omega) (by omega) ?_
    (conv=>whnf)
    (repeat' (first|(refine A0 ?_ ?_;omega;conv=>whnf)|(refine E8 ?_;conv=>whnf)))
    refine A4 [(5,46)] (by (conv=>whnf);exact ⟨rfl,rfl,rfl⟩) (ih (i+1) (o++[(c+x)%4294967296]) ((c+x)/4294967296) (by omega) ⟨by omega,by simp;omega,p3.append (G6 (by omega)),by omega,?_⟩)
    exact hst (c+x) (by omega)
  ·obtain ⟨y,hy⟩ : ∃ y,b[i]? = some y:=⟨_,zE (by omega)⟩
   have hyb:=hB.at hy
   rw[GG hy,<-PE (show a.length<=i by omega)]at hst
   (repeat' (first|(refine AG (fun hc => ?_) (fun hc => ?_)<;>first|(exfalso;omega)|(conv=>whnf))|(refine FQ ?_ ?_;omega;conv=>whnf)|(refine CR ?_ ?_;omega;conv=>whnf)|(refine FH ?_;conv=>whnf)|(refine AW ?_;conv=>whnf)|(refine BL (by assumption) ?_ rfl ?_;omega;conv=>whnf)|(refine EK ?_;conv=>whnf)|(refine AE ?_;conv=>whnf)))
   refine E2 (enc:=AM) (((c+y)%4294967296:Nat)) rfl rfl rfl (by omega) (by omega) ?_
   (conv=>whnf)
   (repeat' (first|(refine A0 ?_ ?_;omega;conv=>whnf)|(refine E8 ?_;conv=>whnf)))
   refine A4 [(5,46)] (by (conv=>whnf);exact ⟨rfl,rfl,rfl⟩) (ih (i+1) (o++[(c+y)%4294967296]) ((c+y)/4294967296) (by omega) ⟨by omega,by simp;omega,p3.append (G6 (by omega)),by omega,?_⟩)
   exact hst (c+y) (by omega)
 ·clear ih
  have hv:val (o++[c])=val a+val b:=by
   rw[C7 (by omega),C7 (by omega)]at p5
   rw[NL,p2,p5]
  have hT:=fun q=>F2 N (o++[c]) q (p3.append (G6 (by omega))) (by simp;omega)
  rw[hv]at hT
  (repeat' (first|(refine AG (fun hc => ?_) (fun hc => ?_)<;>first|(exfalso;omega)|(conv=>whnf))|(refine D8 ?_ ?_;omega;conv=>whnf)|(refine AW ?_;conv=>whnf)|(refine EK ?_;conv=>whnf)|(refine AE ?_;conv=>whnf)))
  refine E2 (enc:=AM) c rfl rfl rfl (by omega) (by omega) ?_
  (conv=>whnf)
  (repeat' (first|(refine DE (fun _=>rfl) rfl ?_ ?_;(first|rfl|simp);conv=>whnf)|(refine AC (hT _) ?_;conv=>whnf)))
  exact AY rfl (I7 _)
theorem WF {a b:Nat} (h:b<=a):0<=C6 a b:=by unfold C6;split<;>(try split)<;>omega
theorem Aga {V Y X p d e bw have' take w bw':Nat} (h:V+Y=X+p*bw) (h1:take=bw+e) (h2:(have'=d/\bw'=0/\take<=d)\/(have'=d+4294967296/\bw'=1/\d<take)) (h3:w+take=have'):V+p*w+(Y+p*e)=X+p*d+p*4294967296*bw':=by
 have h4:w+bw+e=d+4294967296*bw':=by omega
 have h5:p*(w+bw+e)=p*(d+4294967296*bw'):=by rw[h4]
 rw[Nat.mul_add,Nat.mul_add,Nat.mul_add,<-Nat.mul_assoc]at h5
 omega
theorem pI (N:RefGLib L) (x y:List Nat) (hX:A5 x) (hY:A5 y) (lx:x.length<=549755813888) (ly:y.length<=549755813888) (hle:val y<=val x) :
  AA L [It.lp HO.l1,It.blk 0,It.code (((AL.ops HO.r18 false).dr [1,5,6,7,21,53,54] []).seq AL.ret)]
  [(7,AV.int IntKind.i64 0),(6,AV.int IntKind.u64 0),(5,AV.row 101021 0 1 0 x.length),(1,AV.sl false (List.map AM y))]
  [(101021,101021,BB.rw 1 (List.map AM x))]
  (O5 HO (AV.sl false (List.map AM (dg (val x-val y))))):=by
 refine F9 (fun i _ _=>x.length-i) (fun (i:Nat) (o:List Nat) (bw:Nat)=>i<=x.length/\o.length=x.length/\A5 o/\bw<=1/\o.drop i=x.drop i/\val (o.take i)+val (y.take i)=val (x.take i)+4294967296^i*bw) (fun i o bw=>[(7,.int .i64 i),(6,.int .u64 (bw:Int))]) (fun i o bw=>[(101021,101021,.rw 1 (o.map AM))]) [] [] 0 x 0 (by (conv=>whnf);exact ⟨rfl,rfl,rfl⟩) ⟨by omega,rfl,hX,by omega,rfl,by simp [val]⟩ ?_
 intro i o bw ⟨p1,p2,p3,p4,p5,p6⟩ ih
 by_cases hi:i<x.length
 ·obtain ⟨d,hd⟩ : ∃ d,o[i]? = some d:=⟨_,zE (by omega)⟩
  have hdb:=p3.at hd
  have hxi:x[i]? = some d:=by
   have e1:(o.drop i)[0]? = (x.drop i)[0]? := by rw[p5]
   simpa [hd] using e1.symm
  have g1:=DW hxi
  have g2:=dX (y:=y) i
  have ge:=PD hY i
  have hst : ∀ have' take w bw',take=bw+y.getD i 0->((have'=d/\bw'=0/\take<=d)\/(have'=d+4294967296/\bw'=1/\d<take))->w+take=have'->val ((o.set i w).take (i+1))+val (y.take (i+1))=val (x.take (i+1))+4294967296^(i+1)*bw':=fun have' take w bw' a1 a2 a3=>by
   rw[FO (by omega),g1,g2,Nat.pow_succ]
   exact Aga p6 a1 a2 a3
  have hdr : ∀ w,(o.set i w).drop (i+1)=x.drop (i+1):=fun w=>by
   rw[List.drop_set_of_lt (by omega)]
   have e1:(o.drop i).drop 1=(x.drop i).drop 1:=by rw[p5]
   simpa using e1
  by_cases hy:i<y.length
  ·obtain ⟨e,he⟩ : ∃ e,y[i]? = some e:=⟨_,zE hy⟩
   have heb:=hY.at he
   rw[GG he]at hst
   by_cases hlt:d<bw+e
   ·have h3:=hst (d+4294967296) (bw+e) (d+4294967296-(bw+e)) 1 (by omega) (Or.inr ⟨rfl,rfl,hlt⟩) (by omega)
    (repeat' (first|(refine AG (fun hc => ?_) (fun hc => ?_)<;>first|(exfalso;omega)|(conv=>whnf))|(refine A3 ?_ ?_;omega;conv=>whnf)|(refine FQ ?_ ?_;omega;conv=>whnf)|(refine IL ?_ ?_ ?_;omega;omega;conv=>whnf)|(refine VP ?_ ?_;omega;conv=>whnf)|(refine CR ?_ ?_;omega;conv=>whnf)|(refine D8 ?_ ?_;omega;conv=>whnf)|(refine AW ?_;conv=>whnf)|(refine BL (by assumption) ?_ rfl ?_;omega;conv=>whnf)|(refine I5 (by assumption) ?_;conv=>whnf)|(refine AE ?_;conv=>whnf)))
    refine E3 (by omega) ?_
    (conv=>whnf)
    (repeat' (refine A0 ?_ ?_;omega;conv=>whnf))
    exact A4 [] (by (conv=>whnf);exact ⟨rfl,rfl,rfl⟩) (ih (i+1) (o.set i (d+4294967296-(bw+e))) 1 (by omega) ⟨by omega,by simpa using p2,p3.set _ (by omega),by omega,hdr _,h3⟩)
   ·have h3:=hst d (bw+e) (d-(bw+e)) 0 (by omega) (Or.inl ⟨rfl,rfl,by omega⟩) (by omega)
    (repeat' (first|(refine AG (fun hc => ?_) (fun hc => ?_)<;>first|(exfalso;omega)|(conv=>whnf))|(refine A3 ?_ ?_;omega;conv=>whnf)|(refine FQ ?_ ?_;omega;conv=>whnf)|(refine IL ?_ ?_ ?_;omega;omega;conv=>whnf)|(refine CR ?_ ?_;omega;conv=>whnf)|(refine D8 ?_ ?_;omega;conv=>whnf)|(refine AW ?_;conv=>whnf)|(refine BL (by assumption) ?_ rfl ?_;omega;conv=>whnf)|(refine I5 (by assumption) ?_;conv=>whnf)|(refine AE ?_;conv=>whnf)))
    refine E3 (by omega) ?_
    (conv=>whnf)
    (repeat' (refine A0 ?_ ?_;omega;conv=>whnf))
    exact A4 [] (by (conv=>whnf);exact ⟨rfl,rfl,rfl⟩) (ih (i+1) (o.set i (d-(bw+e))) 0 (by omega) ⟨by omega,by simpa using p2,p3.set _ (by omega),by omega,hdr _,h3⟩)
  ·rw[<-PE (show y.length<=i by omega)]at hst
   by_cases hlt:d<bw
   ·have h3:=hst (d+4294967296) (bw) (d+4294967296-(bw)) 1 (by omega) (Or.inr ⟨rfl,rfl,hlt⟩) (by omega)
    (repeat' (first|(refine AG (fun hc => ?_) (fun hc => ?_)<;>first|(exfalso;omega)|(conv=>whnf))|(refine A3 ?_ ?_;omega;conv=>whnf)|(refine IL ?_ ?_ ?_;omega;omega;conv=>whnf)|(refine VP ?_ ?_;omega;conv=>whnf)|(refine CR ?_ ?_;omega;conv=>whnf)|(refine D8 ?_ ?_;omega;conv=>whnf)|(refine AW ?_;conv=>whnf)|(refine I5 (by assumption) ?_;conv=>whnf)|(refine AE ?_;conv=>whnf)))
    refine E3 (by omega) ?_
    (conv=>whnf)
    (repeat' (refine A0 ?_ ?_;omega;conv=>whnf))
    exact A4 [] (by (conv=>whnf);exact ⟨rfl,rfl,rfl⟩) (ih (i+1) (o.set i (d+4294967296-(bw))) 1 (by omega) ⟨by omega,by simpa using p2,p3.set _ (by omega),by omega,hdr _,h3⟩)
   ·have h3:=hst d (bw) (d-(bw)) 0 (by omega) (Or.inl ⟨rfl,rfl,by omega⟩) (by omega)
    (repeat' (first|(refine AG (fun hc => ?_) (fun hc => ?_)<;>first|(exfalso;omega)|(conv=>whnf))|(refine A3 ?_ ?_;omega;conv=>whnf)|(refine IL ?_ ?_ ?_;omega;omega;conv=>whnf)|(refine CR ?_ ?_;omega;conv=>whnf)|(refine D8 ?_ ?_;omega;conv=>whnf)|(refine AW ?_;conv=>whnf)|(refine I5 (by assumption) ?_;conv=>whnf)|(refine AE ?_;conv=>whnf)))
    refine E3 (by omega) ?_
    (conv=>whnf)
    (repeat' (refine A0 ?_ ?_;omega;conv=>whnf))
    exact A4 [] (by (conv=>whnf);exact ⟨rfl,rfl,rfl⟩) (ih (i+1) (o.set i (d-(bw))) 0 (by omega) ⟨by omega,by simpa using p2,p3.set _ (by omega),by omega,hdr _,h3⟩)
 ·obtain rfl:i=x.length:=by omega
  clear ih
  rw[C7 (by omega),C7 (Nat.le_refl _)]at p6
  have h1:=EV p3
  rw[p2]at h1
  have h2:val (y.take x.length)<=val y:=by have:=RA y x.length;omega
  have hb0:bw=0:=by
   rcases Nat.eq_zero_or_pos bw with h|h
   ·exact h
   ·have:bw=1:=by omega
    subst this
    omega
  subst hb0
  have hve:val (y.take x.length)=val y:=by
   have h3:=RA y x.length
   rcases Nat.eq_zero_or_pos (val (y.drop x.length)) with h|h
   ·rw[h]at h3;omega
   ·have h4:4294967296^x.length*1<=4294967296^x.length*val (y.drop x.length):=Nat.mul_le_mul_left _ h
    have h5:=EV hX
    omega
  have hv:val o=val x-val y:=by omega
  have hT:=fun q=>F2 N o q p3 (by omega)
  rw[<-hv,<-p2]
  (repeat' (first|(refine AG (fun hc => ?_) (fun hc => ?_)<;>first|(exfalso;omega)|(conv=>whnf))|(refine DE (fun _=>rfl) rfl ?_ ?_;(first|rfl|simp);conv=>whnf)|(refine AE ?_;conv=>whnf)|(refine AC (hT _) ?_;conv=>whnf)))
  exact AY rfl (I7 _)
theorem Z4 (N:RefGLib L) (a b:List Nat) (q1 q2:Bool) (hA:A5 a) (hB:A5 b) (la:a.length<=549755813888) (lb:b.length<=549755813888):Ev L 104 [.sl q1 (a.map AM),.sl q2 (b.map AM)] (.sl false ((dg (val a-val b)).map AM)):=by
 have hcmp:=fun q q'=>Z3 N a b q q' hA hB (by omega) (by omega)
 have t2:=fun q=>F2 N b q hB (by omega)
 refine Ev.x N.HO rfl rfl ?_
 by_cases hlt:val a<val b
 ·rw[<-HX (by omega)]at hcmp
  rw[show val a-val b=0 by omega,ET]
  (repeat' (first|(refine AG (fun hc => ?_) (fun hc => ?_)<;>first|(exfalso;omega)|(conv=>whnf))|(refine AE ?_;conv=>whnf)|(refine AC (hcmp _ _) ?_;conv=>whnf)))
  exact AY rfl (I7 [])
 ·have hge:=WF (show val b<=val a by omega)
  generalize C6 (val a) (val b)=cm at *
  have d2:=DT (val b)
  have v2:=BU (val b)
  have l2:=EN hB
  rw[<-v2]
  rw[<-v2]at hlt
  generalize dg (val b)=y at *
  have hdg : ∀ n,a.take n=dg (val a)->val (a.take n)=val a:=fun n h=>by rw[h,BU]
  (repeat' (first|(refine AG (fun hc => ?_) (fun hc => ?_)<;>first|(exfalso;omega)|(conv=>whnf))|(refine AE ?_;conv=>whnf)|(refine AC (hcmp _ _) ?_;conv=>whnf)|(refine AC (t2 _) ?_;conv=>whnf)))
  refine E6 1000 N.GJ rfl rfl ?_
  (repeat' (first|(refine AW ?_;conv=>whnf)|(refine AE ?_;conv=>whnf)))
  refine CE (fun n=>n) (fun (n:Nat)=>n<=a.length /\ ∀ i,n<=i->i<a.length->a[i]? = some 0) (fun n=>[(3,.int .i64 n)]) (fun _=>[]) [] [] a.length (by (conv=>whnf);exact ⟨rfl,rfl,rfl⟩) ⟨Nat.le_refl _,fun i h1 h2=>by omega⟩ ?_
  intro n ⟨p1,p2⟩ ih
  rcases n with _|n
  ·have hv:=hdg _ (FZ hA p1 p2 (Or.inl rfl))
   clear ih
   (repeat' (first|(refine AG (fun hc => ?_) (fun hc => ?_)<;>first|(exfalso;omega)|(conv=>whnf))|(refine AE ?_;conv=>whnf)))
   refine M3 (k:=0) (fun _=>rfl) (by omega) ?_
   (conv=>whnf)
   refine O0 (enc:=AM) (fun _=>rfl) (by rw[List.length_take];omega) (by rw[List.length_take];omega) ?_
   (conv=>whnf)
   refine ⟨rfl,_,rfl,?_⟩
   (conv=>whnf)
   skip
   rw[<-hv]
   exact A4 [] (by (conv=>whnf);exact ⟨rfl,rfl,rfl⟩) (pI N (a.take 0) y (hA.take _) d2 (by simp) (by omega) (by omega))
  ·have e1:((n+1:Nat):Int)-1=n:=by omega
   (repeat' (first|(refine AG (fun hc => ?_) (fun hc => ?_)<;>first|(exfalso;omega)|(conv=>whnf))|(refine CF ?_ ?_;omega;conv=>whnf)|(refine O4 (by assumption) ?_ (fun e he hb => ?_);omega;conv=>whnf)|(refine AE ?_;conv=>whnf)))
   ·rw[e1]
    exact A4 [] (by (conv=>whnf);exact ⟨rfl,rfl,rfl⟩) (ih n (by omega) ⟨by omega,fun i h1 h2=>by
     by_cases h:i=n
     ·subst h
      rw[e1,Int.toNat_natCast]at he
      rw[he];congr 1;omega
     ·exact p2 i (by omega) h2⟩)
   ·rw[e1,Int.toNat_natCast]at he
    have hv:=hdg _ (FZ hA p1 p2 (Or.inr ⟨_,he,by omega⟩))
    clear ih
    refine M3 (k:=n+1) (fun _=>rfl) (by omega) ?_
    (conv=>whnf)
    refine O0 (enc:=AM) (fun _=>rfl) (by rw[List.length_take];omega) (by rw[List.length_take];omega) ?_
    (conv=>whnf)
    refine ⟨rfl,_,rfl,?_⟩
    (conv=>whnf)
    skip
    rw[<-hv]
    exact A4 [] (by (conv=>whnf);exact ⟨rfl,rfl,rfl⟩) (pI N (a.take (n+1)) y (hA.take _) d2 (by rw[List.length_take];omega) (by omega) (by omega))
theorem Abn (N:RefGLib L) (x y:List Nat) (q1 q2:Bool) (hA:A5 x) (hB:A5 y) (lab:x.length+y.length<=549755813888):Ev L 105 [.sl q1 (x.map AM),.sl q2 (y.map AM)] (.sl false ((dg (val x*val y)).map AM)):=by
 refine Ev.x N.KZ rfl rfl ?_
 (repeat' (first|(refine A0 ?_ ?_;omega;conv=>whnf)|(refine AW ?_;conv=>whnf)|(refine AE ?_;conv=>whnf)))
 refine EB (enc:=AM) 0 (x.length+y.length+1) rfl (by omega) (by omega) ?_
 (conv=>whnf)
 skip
 refine HG (fun i _=>x.length-i) (fun (i:Nat) (o:List Nat)=>i<=x.length/\o.length=x.length+y.length+1/\A5 o/\val o=val (x.take i)*val y /\ ∀ k,i+y.length<=k->k<o.length->o[k]? = some 0) (fun i o=>[(6,.int .i64 i)]) (fun i o=>[(15,15,.rw 1 (o.map AM))]) [] [] 0 (List.replicate (x.length+y.length+1) 0) (by (conv=>whnf);exact ⟨rfl,rfl,rfl⟩) ⟨by omega,by simp,IQ _,by simp [val,YC],fun k h1 h2=>by simp at h2;simp [h2]⟩ ?_
 intro i O ⟨p1,p2,p3,p4,p5⟩ ih
 by_cases hi:i<x.length
 ·obtain ⟨d,hd⟩ : ∃ d,x[i]? = some d:=⟨_,zE hi⟩
  have hdb:=hA.at hd
  (repeat' (first|(refine AG (fun hc => ?_) (fun hc => ?_)<;>first|(exfalso;omega)|(conv=>whnf))|(refine AW ?_;conv=>whnf)|(refine AE ?_;conv=>whnf)))
  refine F9 (fun j _ _=>y.length-j) (fun (j:Nat) (o:List Nat) (c:Nat)=>j<=y.length/\o.length=x.length+y.length+1/\A5 o/\c<4294967296/\val o+4294967296^(i+j)*c=val O+4294967296^i*(d*val (y.take j)) /\ ∀ k,i+j<=k->o[k]? = O[k]?) (fun j o c=>[(7,.int .u64 (c:Int)),(8,.int .i64 j)]) (fun j o c=>[(15,15,.rw 1 (o.map AM))]) [] [] 0 O 0 (by (conv=>whnf);exact ⟨rfl,rfl,rfl⟩) ⟨by omega,p2,p3,by omega,by simp [val],fun _ _=>rfl⟩ ?_
  intro j o c ⟨r1,r2,r3,r4,r5,r6⟩ jh
  have e1:((i:Int)+j).toNat=i+j:=by omega
  by_cases hj:j<y.length
  ·obtain ⟨w,hw⟩ : ∃ w,y[j]? = some w:=⟨_,zE hj⟩
   have hwb:=hB.at hw
   have hm:=SG hdb hwb
   (repeat' (first|(refine AG (fun hc => ?_) (fun hc => ?_)<;>first|(exfalso;omega)|(conv=>whnf))|(refine A3 ?_ ?_;omega;conv=>whnf)|(refine A0 ?_ ?_;omega;conv=>whnf)|(refine FQ ?_ ?_;omega;conv=>whnf)|(refine N7 ?_ ?_;omega;conv=>whnf)|(refine CR ?_ ?_;omega;conv=>whnf)|(refine FH ?_;conv=>whnf)|(refine AW ?_;conv=>whnf)|(refine BL (by assumption) ?_ rfl ?_;omega;conv=>whnf)|(refine eJ (by assumption) ?_ (fun v hv hb => ?_);omega;conv=>whnf)|(refine AE ?_;conv=>whnf)))
   refine VX (i+j) (by omega) (by omega) ?_
   (conv=>whnf)
   (repeat' (first|(refine A0 ?_ ?_;omega;conv=>whnf)|(refine E8 ?_;conv=>whnf)))
   refine A4 [] (by (conv=>whnf);exact ⟨rfl,rfl,rfl⟩) (jh (j+1) _ _ (by omega) ⟨by omega,by simpa using r2,r3.set _ (by omega),by omega,?_,?_⟩)
   ·have h1:=X9 (v:=(c+(d*w+v))%4294967296) hv
    have h2:=OD 0 (4294967296^(i+j)) (c+(d*w+v))
    rw[DW hw,show i+(j+1)=i+j+1 by omega,Nat.pow_succ (4294967296) (i+j)]
    have h3:4294967296^i*(d*(val (y.take j)+4294967296^j*w))=4294967296^i*(d*val (y.take j))+4294967296^(i+j)*(d*w):=by rw[Nat.pow_add];grind
    rw[h3]
    generalize 4294967296^(i+j)=P at *
    rw[Nat.mul_add P c,Nat.mul_add P]at h2
    omega
   ·intro k hk
    rw[List.getElem?_set_ne (by omega)]
    exact r6 k (by omega)
  ·obtain rfl:j=y.length:=by omega
   clear jh
   have hz:=r6 (i+y.length) (by omega)
   rw[p5 (i+y.length) (by omega) (by omega)]at hz
   (repeat' (first|(refine AG (fun hc => ?_) (fun hc => ?_)<;>first|(exfalso;omega)|(conv=>whnf))|(refine A3 ?_ ?_;omega;conv=>whnf)|(refine A0 ?_ ?_;omega;conv=>whnf)|(refine D8 ?_ ?_;omega;conv=>whnf)|(refine AW ?_;conv=>whnf)|(refine AE ?_;conv=>whnf)))
   refine VX (i+y.length) (by omega) (by omega) ?_
   (conv=>whnf)
   (repeat' (refine A0 ?_ ?_;omega;conv=>whnf))
   refine A4 [] (by (conv=>whnf);exact ⟨rfl,rfl,rfl⟩) (ih (i+1) _ (by omega) ⟨by omega,by simpa using r2,r3.set _ (by omega),?_,?_⟩)
   ·have h1:=X9 (v:=c) hz
    rw[Nat.mul_zero,Nat.add_zero]at h1
    rw[h1,r5,p4,C7 (Nat.le_refl _),DW hd,Nat.add_mul,Nat.mul_assoc]
   ·intro k h1 h2
    rw[List.length_set]at h2
    rw[List.getElem?_set_ne (by omega),r6 k (by omega)]
    exact p5 k (by omega) (by omega)
 ·obtain rfl:i=x.length:=by omega
  clear ih
  rw[C7 (Nat.le_refl _)]at p4
  have hT:=fun q=>F2 N O q p3 (by omega)
  rw[p4]at hT
  rw[<-p2]
  (repeat' (first|(refine AG (fun hc => ?_) (fun hc => ?_)<;>first|(exfalso;omega)|(conv=>whnf))|(refine AW ?_;conv=>whnf)|(refine DE (fun _=>rfl) rfl ?_ ?_;(first|rfl|simp);conv=>whnf)|(refine AE ?_;conv=>whnf)|(refine AC (hT _) ?_;conv=>whnf)))
  exact AY rfl (I7 _)
end Go.Eng

namespace Go.Eng
open F
attribute [local irreducible] AA AF AR AD B0 AU AX A8 A6 BN AP BK BV CN BI AZ BG BQ AB A7 AJ pw BH BF B9 B8 CI B7 CB BM B3
set_option maxHeartbeats 4000000
variable {L:Lib}
theorem yQ {d:Nat} (h0:d≠0) (hd:d<4294967296):dg d=[d]:=by
 rw[IP h0,Nat.div_eq_of_lt hd,ET,Nat.mod_eq_of_lt hd]
theorem Abl (N:RefGLib L) (d:Nat) (q:Bool) (h0:d≠0) (hd:d<4294967296):Ev L 106 [.sl q ([d].map AM)] (.int .i64 (blen d:Int)):=by
 have hT:=fun q=>F2 N [d] q (G6 hd) (by simp)
 rw[show val [d]=d by simp [val],yQ h0 hd]at hT
 have hll:[d].length=1:=rfl
 have hd0:[d][(([d].length:Int)-1).toNat]? = some d:=rfl
 have hb:=V4 (k:=32) hd
 refine Ev.x N.KW rfl rfl ?_
 (repeat' (first|(refine AG (fun hc => ?_) (fun hc => ?_)<;>first|(exfalso;omega)|(conv=>whnf))|(refine CF ?_ ?_;omega;conv=>whnf)|(refine MI ?_ ?_;omega;conv=>whnf)|(refine AW ?_;conv=>whnf)|(refine BL (by assumption) ?_ rfl ?_;omega;conv=>whnf)|(refine AE ?_;conv=>whnf)|(refine AC (hT _) ?_;conv=>whnf)))
 refine HG (fun _ x=>x) (fun (n x:Nat)=>n+blen x=blen d/\x<=d) (fun n x=>[(3,.int .i64 n),(4,.int .u32 (x:Int))]) (fun _ _=>[]) [] [] 0 d (by (conv=>whnf);exact ⟨rfl,rfl,rfl⟩) ⟨by omega,Nat.le_refl _⟩ ?_
 intro n x ⟨p1,p2⟩ ih
 by_cases hx:x=0
 ·subst hx
  have:blen 0=0:=by unfold blen;simp
  (repeat' (first|(refine AG (fun hc => ?_) (fun hc => ?_)<;>first|(exfalso;omega)|(conv=>whnf))|(refine AE ?_;conv=>whnf)))
  exact C4 (by omega)
 ·have h1:blen (x/2)+1=blen x:=by
   by_cases h1:x=1
   ·subst h1;decide
   ·exact TG 1 (x:=x) (by omega)
  (repeat' (first|(refine AG (fun hc => ?_) (fun hc => ?_)<;>first|(exfalso;omega)|(conv=>whnf))|(refine A0 ?_ ?_;omega;conv=>whnf)|(refine uI ?_;conv=>whnf)|(refine AE ?_;conv=>whnf)))
  exact A4 [] (by (conv=>whnf);exact ⟨rfl,rfl,rfl⟩) (ih (n+1) (x/2) (by omega) ⟨by omega,by omega⟩)
theorem sB {V P X lo s d p t:Nat} (h:V+P*p*lo=P*(X*2^s)) (ht:t=lo+d*2^s):V+P*p*(t%4294967296)+P*p*4294967296*(t/4294967296)=P*((X+p*d)*2^s):=by
 have h1:=OD V (P*p) t
 rw[h1,ht]
 have:P*((X+p*d)*2^s)=P*(X*2^s)+P*p*(d*2^s):=by grind
 rw[this,<-h,Nat.mul_add]
 omega
theorem kS (N:RefGLib L) (l:List Nat) (q:Bool) (n:Nat) (hD:A5 l) (hl:l.length<=549755813888) (hn:n<=65536):Ev L 107 [.sl q (l.map AM),.int .i64 (n:Int)] (.sl false ((dg (val l*2^n)).map AM)):=by
 have hT:=fun q=>F2 N l q hD (by omega)
 have d1:=DT (val l)
 have v1:=BU (val l)
 have l1:=EN hD
 have hz:=HY (val l)
 refine Ev.x N.HD rfl rfl ?_
 by_cases h0:val l=0
 ·rw[h0,Nat.zero_mul,ET]
  (repeat' (first|(refine AG (fun hc => ?_) (fun hc => ?_)<;>first|(exfalso;omega)|(conv=>whnf))|(refine AW ?_;conv=>whnf)|(refine AE ?_;conv=>whnf)|(refine AC (hT _) ?_;conv=>whnf)))
  exact AY rfl (I7 [])
 rw[<-v1]
 generalize dg (val l)=x at *
 have hs31:n%32<32:=Nat.mod_lt _ (by omega)
 have e1:(n:Int)/32=((n/32:Nat):Int):=by omega
 have e2:(n:Int)%32=((n%32:Nat):Int):=by omega
 (repeat' (first|(refine AG (fun hc => ?_) (fun hc => ?_)<;>first|(exfalso;omega)|(conv=>whnf))|(refine P0 ?_ ?_ (fun _ => ?_) (fun _ _ => ?_);omega;omega;all_goals first|(exfalso;omega)|(conv=>whnf))|(refine AW ?_;conv=>whnf)|(refine AE ?_;conv=>whnf)|(refine AC (hT _) ?_;conv=>whnf)))
 rw[e1]
 refine EB (enc:=AM) 0 (n/32) rfl rfl (by omega) ?_
 (conv=>whnf)
 skip
 refine F9 (fun i _ _=>x.length-i) (fun (i:Nat) (o:List Nat) (c:Nat)=>i<=x.length/\o.length=n/32+i/\A5 o/\c<2^(n%32)/\val o+4294967296^(n/32)*4294967296^i*c=4294967296^(n/32)*(val (x.take i)*2^(n%32))) (fun i o c=>[(10,.int .i64 i),(9,.int .u64 (c:Int)),(8,.row 107069 0 1 0 (n/32+i))]) (fun i o c=>[(107069,107069,.rw 1 (o.map AM))]) [] [] 0 (List.replicate (n/32) 0) 0 (by (conv=>whnf);exact ⟨rfl,rfl,rfl⟩) ⟨by omega,by simp,IQ _,Nat.two_pow_pos _,by simp [val,YC]⟩ ?_
 intro i o c ⟨p1,p2,p3,p4,p5⟩ ih
 have hps:=UV (s:=n%32) (by omega)
 by_cases hi:i<x.length
 ·obtain ⟨d,hd⟩ : ∃ d,x[i]? = some d:=⟨_,zE hi⟩
  have hdb:=d1.at hd
  obtain ⟨f1,f2,f3,f4⟩:=Q5 (s:=n%32) hdb (by omega)
  have hr:=W8 (show n%32<=64 by omega) f4
  (repeat' (first|(refine AG (fun hc => ?_) (fun hc => ?_)<;>first|(exfalso;omega)|(conv=>whnf))|(refine RJ ?_ (fun _ _ _ => ?_) (fun _ _ _ _ => ?_);omega;all_goals first|(exfalso;omega)|(conv=>whnf))|(refine CR ?_ ?_;omega;conv=>whnf)|(refine AW ?_;conv=>whnf)|(refine BL (by assumption) ?_ rfl ?_;omega;conv=>whnf)|(refine AE ?_;conv=>whnf)))
  rw[e2]
  refine OA (by omega) f4 ?_
  (conv=>whnf)
  skip
  refine VQ (n%32) (Nat.mul_mod_left _ _) p4 (by omega) ?_
  (conv=>whnf)
  have hst:=sB (d:=d) p5 rfl
  have hc2:(c+d*2^(n%32))/4294967296<2^(n%32):=by
   rw[Nat.div_lt_iff_lt_mul (by omega)]
   have:=Nat.mul_le_mul_right (2^(n%32)) (show d<=4294967295 by omega)
   omega
  generalize c+d*2^(n%32)=t at *
  (repeat' (first|(refine FH ?_;conv=>whnf)|(refine EK ?_;conv=>whnf)))
  refine E2 (enc:=AM) (t%4294967296) rfl p2.symm rfl (by omega) (by omega) ?_
  (conv=>whnf)
  (repeat' (first|(refine A0 ?_ ?_;omega;conv=>whnf)|(refine E8 ?_;conv=>whnf)))
  rw[show (o++[t%4294967296]).length=n/32+(i+1) by simp [p2];omega]
  refine A4 [(107069,107091)] (by (conv=>whnf);exact ⟨rfl,rfl,rfl⟩) (ih (i+1) (o++[t%4294967296]) (t/4294967296) (by omega) ⟨by omega,by simp;omega,p3.append (G6 (by omega)),hc2,?_⟩)
  rw[NL,p2,DW hd,Nat.pow_add,Nat.pow_succ,<-Nat.mul_assoc]
  exact hst
 ·obtain rfl:i=x.length:=by omega
  clear ih
  have hcb:c<4294967296:=by omega
  have hOD:A5 (o++[c]):=p3.append (G6 hcb)
  have hOv:val (o++[c])=val x*2^n:=by
   rw[NL,p2,Nat.pow_add,p5,C7 (Nat.le_refl _)]
   have e3:2^n=4294967296^(n/32)*2^(n%32):=by
    rw[show 4294967296=2^32 from rfl,<-Nat.pow_mul,<-Nat.pow_add]
    congr 1;omega
   rw[e3];grind
  have hOl:(o++[c]).length=n/32+x.length+1:=by simp [p2]
  (repeat' (first|(refine AG (fun hc => ?_) (fun hc => ?_)<;>first|(exfalso;omega)|(conv=>whnf))|(refine D8 ?_ ?_;omega;conv=>whnf)|(refine AW ?_;conv=>whnf)|(refine EK ?_;conv=>whnf)|(refine AE ?_;conv=>whnf)))
  refine E2 (enc:=AM) c rfl p2.symm rfl (by omega) (by omega) ?_
  (conv=>whnf)
  rw[<-hOv,hOl]
  generalize o++[c]=O at *
  rw[<-hOl]
  clear p3 p4 p5 hOv
  refine E6 1000 N.GJ rfl rfl ?_
  (repeat' (refine AE ?_;conv=>whnf))
  refine CE (fun n=>n) (fun (n:Nat)=>n<=(O).length /\ ∀ i,n<=i->i<(O).length->(O)[i]? = some 0) (fun n=>[(3,.int .i64 n)]) (fun _=>[]) [] [] (O).length (by (conv=>whnf);exact ⟨rfl,rfl,rfl⟩) ⟨Nat.le_refl _,fun i h1 h2=>by omega⟩ ?_
  intro n ⟨p1,p2⟩ ih
  rcases n with _|n
  ·(repeat' (first|(refine AG (fun hc => ?_) (fun hc => ?_)<;>first|(exfalso;omega)|(conv=>whnf))|(refine AE ?_;conv=>whnf)))
   refine GA 0 (by omega) (by omega) ?_
   (conv=>whnf)
   have hct:=FZ (l:=O) (by assumption) p1 p2 (Or.inl rfl)
   have hcl:(List.take 0 O).length<=(O).length:=by rw[List.length_take];omega
   clear ih p2
   refine VV (enc:=AM) (by omega) ?_
   (conv=>whnf)
   rw[List.drop_zero,Nat.sub_zero]
   generalize hT0:List.take 0 O=T0 at *
   refine O0 (enc:=AM) (fun _=>rfl) (by omega) (by omega) ?_
   (conv=>whnf)
   refine ⟨rfl,_,rfl,?_⟩
   (conv=>whnf)
   (refine DE (enc:=AM) (fun _=>rfl) rfl rfl ?_;(conv=>whnf);exact AY (by rw[<-hct]) (I7 _))
  ·have e1:((n+1:Nat):Int)-1=n:=by omega
   (repeat' (first|(refine AG (fun hc => ?_) (fun hc => ?_)<;>first|(exfalso;omega)|(conv=>whnf))|(refine A3 ?_ ?_;omega;conv=>whnf)|(refine CF ?_ ?_;omega;conv=>whnf)|(refine PZ (by assumption) ?_ (fun v hv hb => ?_);omega;conv=>whnf)|(refine AE ?_;conv=>whnf)))
   ·rw[e1]
    exact A4 [] (by (conv=>whnf);exact ⟨rfl,rfl,rfl⟩) (ih n (by omega) ⟨by omega,fun i h1 h2=>by
     by_cases h:i=n
     ·subst h
      rw[e1,Int.toNat_natCast]at hv
      rw[hv];congr 1;omega
     ·exact p2 i (by omega) h2⟩)
   ·refine GA (n+1) (by omega) (by omega) ?_
    (conv=>whnf)
    rw[e1,Int.toNat_natCast]at hv
    have hct:=FZ (l:=O) (by assumption) p1 p2 (Or.inr ⟨_,hv,by omega⟩)
    have hcl:(List.take (n+1) O).length<=(O).length:=by rw[List.length_take];omega
    clear ih p2 hv
    (rw[fS (l:=O)];rotate_left;exact rfl;exact rfl);(conv=>whnf)
    refine VV (enc:=AM) (by omega) ?_
    (conv=>whnf)
    rw[List.drop_zero,Nat.sub_zero]
    generalize hT0:List.take (n+1) O=T0 at *
    refine O0 (enc:=AM) (fun _=>rfl) (by omega) (by omega) ?_
    (conv=>whnf)
    refine ⟨rfl,_,rfl,?_⟩
    (conv=>whnf)
    (refine DE (enc:=AM) (fun _=>rfl) rfl rfl ?_;(conv=>whnf);exact AY (by rw[<-hct]) (I7 _))
theorem Ag0 {l:List Nat} (hD:A5 l) (k:Nat) (hk:k<=l.length):val (l.drop k)=val l/4294967296^k:=by
 have h1:=L9 l k hk
 have h2:=EV (hD.take k)
 rw[List.length_take,Nat.min_eq_left hk]at h2
 rw[h1,Nat.add_mul_div_left _ _ (Nat.pow_pos (by omega)),Nat.div_eq_of_lt h2,Nat.zero_add]
theorem AfR (n:Nat):2^n=4294967296^(n/32)*2^(n%32):=by
 rw[show 4294967296=2^32 from rfl,<-Nat.pow_mul,<-Nat.pow_add]
 congr 1;omega
theorem Aau {d e V r:Nat} (hd:d<4294967296) (hr:r<32):(d+e*4294967296)/2^r%4294967296+4294967296*((e+4294967296*V)/2^r)=(d+4294967296*(e+4294967296*V))/2^r:=by
 obtain ⟨f1,f2,f3⟩:=nF (V:=e) hd (show r<=32 by omega)
 rw[bI (d:=d) (V:=e+4294967296*V) (by omega),nG (d:=e) (V:=V) (by omega)]
 have h1:=bI (d:=d) (V:=e) (s:=r) (by omega)
 rw[show d+e*4294967296=d+4294967296*e by omega,h1]
 clear h1
 generalize d/2^r=A at *
 generalize e%2^r*2^(32-r)=Q at *
 generalize e/2^r=Z at *
 generalize 2^(32-r)=P at *
 omega
theorem Abo (N:RefGLib L) (l:List Nat) (q:Bool) (n:Nat) (hD:A5 l) (hl:l.length<=549755813888) (hn:1<=n/\n<=65536):Ev L 107 [.sl q (l.map AM),.int .i64 (-(n:Int))] (.sl false ((dg (val l/2^n)).map AM)):=by
 have hT:=fun q=>F2 N l q hD (by omega)
 have d1:=DT (val l)
 have v1:=BU (val l)
 have l1:=EN hD
 have hz:=HY (val l)
 refine Ev.x N.HD rfl rfl ?_
 by_cases h0:val l=0
 ·rw[h0,Nat.zero_div,ET]
  (repeat' (first|(refine AG (fun hc => ?_) (fun hc => ?_)<;>first|(exfalso;omega)|(conv=>whnf))|(refine AW ?_;conv=>whnf)|(refine AE ?_;conv=>whnf)|(refine AC (hT _) ?_;conv=>whnf)))
  exact AY rfl (I7 [])
 rw[<-v1]
 generalize dg (val l)=x at *
 have hr32:n%32<32:=Nat.mod_lt _ (by omega)
 have e1:(- -(n:Int))/32=((n/32:Nat):Int):=by omega
 have e2:(- -(n:Int))%32=((n%32:Nat):Int):=by omega
 by_cases hbig:32*x.length<n
 ·have hlt:val x/2^n=0:=by
   refine Nat.div_eq_of_lt (Nat.lt_of_lt_of_le (EV d1) ?_)
   rw[show 4294967296=2^32 from rfl,<-Nat.pow_mul]
   exact Nat.pow_le_pow_right (by omega) (by omega)
  rw[hlt,ET]
  (repeat' (first|(refine AG (fun hc => ?_) (fun hc => ?_)<;>first|(exfalso;omega)|(conv=>whnf))|(refine MI ?_ ?_;omega;conv=>whnf)|(refine AW ?_;conv=>whnf)|(refine AE ?_;conv=>whnf)|(refine AC (hT _) ?_;conv=>whnf)))
  exact AY rfl (I7 [])
 have hk:n/32<=x.length:=by omega
 have hvd:=Ag0 d1 _ hk
 (repeat' (first|(refine AG (fun hc => ?_) (fun hc => ?_)<;>first|(exfalso;omega)|(conv=>whnf))|(refine MI ?_ ?_;omega;conv=>whnf)|(refine P0 ?_ ?_ (fun _ => ?_) (fun _ _ => ?_);omega;omega;all_goals first|(exfalso;omega)|(conv=>whnf))|(refine B0.neg ?_ ?_;omega;conv=>whnf)|(refine AW ?_;conv=>whnf)|(refine AE ?_;conv=>whnf)|(refine AC (hT _) ?_;conv=>whnf)))
 rw[e1]
 refine HG (fun i _=>x.length-i) (fun (i:Nat) (o:List Nat)=>n/32<=i/\i<=x.length/\o.length=i-n/32/\A5 o/\val o+4294967296^(i-n/32)*(val (x.drop i)/2^(n%32))=val (x.drop (n/32))/2^(n%32)) (fun i o=>[(6,.int .i64 i),(5,.row 107005 0 1 0 o.length)]) (fun i o=>[(107005,107005,.rw 1 (o.map AM))]) [] [] (n/32) [] (by (conv=>whnf);exact ⟨rfl,rfl,rfl⟩) ⟨Nat.le_refl _,hk,by simp,RV,by simp [val]⟩ ?_
 intro i o ⟨p0,p1,p2,p3,p5⟩ ih
 by_cases hi:i<x.length
 ·obtain ⟨d,hd⟩ : ∃ d,x[i]? = some d:=⟨_,zE hi⟩
  have hdb:=d1.at hd
  have g1:=GZ hd
  have g2:=Q9 x (i+1)
  have g3:=Aau (e:=x.getD (i+1) 0) (V:=val (x.drop (i+1+1))) hdb hr32
  rw[<-g2,<-g1]at g3
  have key : ∀ t,t=d+x.getD (i+1) 0*4294967296->val (o++[t/2^(n%32)%4294967296])+4294967296^(i+1-n/32)*(val (x.drop (i+1))/2^(n%32))=val (x.drop (n/32))/2^(n%32):=fun t ht=>by
   rw[NL,p2,show i+1-n/32=(i-n/32)+1 by omega,Nat.pow_succ,ht,Nat.add_assoc,Nat.mul_assoc,<-Nat.mul_add,g3]
   exact p5
  by_cases hy:i+1<x.length
  ·obtain ⟨e,he⟩ : ∃ e,x[i+1]? = some e:=⟨_,zE hy⟩
   have heb:=d1.at he
   have he':x[((i:Int)+1).toNat]? = some e:=by rw[show ((i:Int)+1).toNat=i+1 by omega];exact he
   rw[GG he]at key
   (repeat' (first|(refine AG (fun hc => ?_) (fun hc => ?_)<;>first|(exfalso;omega)|(conv=>whnf))|(refine A0 ?_ ?_;omega;conv=>whnf)|(refine NN ?_ ?_;omega;conv=>whnf)|(refine CR ?_ ?_;omega;conv=>whnf)|(refine AW ?_;conv=>whnf)|(refine BL (by assumption) ?_ rfl ?_;omega;conv=>whnf)|(refine AE ?_;conv=>whnf)))
   refine VQ 32 (Nat.mul_mod_left _ _) (by omega) (by omega) ?_
   (conv=>whnf)
   (repeat' (first|(refine RJ ?_ (fun _ _ _ => ?_) (fun _ _ _ _ => ?_);omega;all_goals first|(exfalso;omega)|(conv=>whnf))|(refine CR ?_ ?_;omega;conv=>whnf)))
   rw[e2]
   refine N9 (n:=n%32) (by show n%32<=64;omega) ?_
   (conv=>whnf)
   (repeat' (first|(refine FH ?_;conv=>whnf)|(refine EK ?_;conv=>whnf)))
   refine E2 (enc:=AM) ((d+e*4294967296)/2^(n%32)%4294967296) rfl rfl rfl (by omega) (by omega) ?_
   (conv=>whnf)
   (repeat' (refine A0 ?_ ?_;omega;conv=>whnf))
   exact A4 [(107005,107064)] (by (conv=>whnf);exact ⟨rfl,rfl,rfl⟩) (ih (i+1) (o++[(d+e*4294967296)/2^(n%32)%4294967296]) (by omega) ⟨by omega,by omega,by simp;omega,p3.append (G6 (by omega)),key (d+e*4294967296) rfl⟩)
  ·rw[<-PE (show x.length<=i+1 by omega),Nat.zero_mul]at key
   (repeat' (first|(refine AG (fun hc => ?_) (fun hc => ?_)<;>first|(exfalso;omega)|(conv=>whnf))|(refine A0 ?_ ?_;omega;conv=>whnf)|(refine RJ ?_ (fun _ _ _ => ?_) (fun _ _ _ _ => ?_);omega;all_goals first|(exfalso;omega)|(conv=>whnf))|(refine CR ?_ ?_;omega;conv=>whnf)|(refine AW ?_;conv=>whnf)|(refine BL (by assumption) ?_ rfl ?_;omega;conv=>whnf)|(refine AE ?_;conv=>whnf)))
   rw[e2]
   refine N9 (n:=n%32) (by show n%32<=64;omega) ?_
   (conv=>whnf)
   (repeat' (first|(refine FH ?_;conv=>whnf)|(refine EK ?_;conv=>whnf)))
   refine E2 (enc:=AM) (d/2^(n%32)%4294967296) rfl rfl rfl (by omega) (by omega) ?_
   (conv=>whnf)
   (repeat' (refine A0 ?_ ?_;omega;conv=>whnf))
   exact A4 [(107005,107064)] (by (conv=>whnf);exact ⟨rfl,rfl,rfl⟩) (ih (i+1) (o++[d/2^(n%32)%4294967296]) (by omega) ⟨by omega,by omega,by simp;omega,p3.append (G6 (by omega)),key d rfl⟩)
 ·obtain rfl:i=x.length:=by omega
  clear ih
  rw[List.drop_of_length_le (Nat.le_refl _),IJ,Nat.zero_div,Nat.mul_zero,Nat.add_zero,hvd,Nat.div_div_eq_div_mul,<-AfR]at p5
  have hT2:=fun q=>F2 N o q p3 (by omega)
  rw[p5]at hT2
  (repeat' (first|(refine AG (fun hc => ?_) (fun hc => ?_)<;>first|(exfalso;omega)|(conv=>whnf))|(refine AW ?_;conv=>whnf)|(refine DE (fun _=>rfl) rfl ?_ ?_;(first|rfl|simp);conv=>whnf)|(refine AE ?_;conv=>whnf)|(refine AC (hT2 _) ?_;conv=>whnf)))
  exact AY rfl (I7 _)
end Go.Eng
