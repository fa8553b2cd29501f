/-
  Systems of rational numbers, plain: sizes, products, responses.
-/
import Derived.Test.YtgdojcofnobpeaaGreatB7
import Derived.Test.YtgdojcofnobpeaaGreatB3
import Derived.Test.YtgdojcofnobpeaaGreatB5
import Derived.Test.YtgdojcofnobpeaaGreatB4
set_option linter.unusedSimpArgs false
set_option linter.unusedVariables false
set_option linter.unnecessarySimpa false
namespace Go.Eng
def Bt (k:Nat) (x:Rat):Prop:=x.num.natAbs<=2^k/\x.den<=2^k
theorem Bt.le {k l:Nat} {x:Rat} (h:Bt k x) (hl:k<=l):Bt l x:=by
 have:=Nat.pow_le_pow_right (show 0<2 by omega) hl
 exact ⟨Nat.le_trans h.1 this,Nat.le_trans h.2 this⟩
theorem Bt.mk {k:Nat} {z:Int} {d:Nat} (hz:z.natAbs<=2^k) (hd:d<=2^k):Bt k (mkRat z d):=by
 by_cases h0:d=0
 ·subst h0
  rw[Rat.mkRat_zero];exact ⟨by simp,by simp;exact Nat.one_le_two_pow⟩
 ·obtain ⟨e1,e2,_⟩:=oM (z:=z) h0
  unfold Bt;rw[e1,e2];exact ⟨Nat.le_trans (Nat.div_le_self _ _) hz,Nat.le_trans (Nat.div_le_self _ _) hd⟩
theorem Bt.add {k l:Nat} {x y:Rat} (hx:Bt k x) (hy:Bt l y):Bt (k+l+1) (x+y):=by
 rw[Rat.add_def'];refine Bt.mk ?_ ?_
 ·have h1:(x.num*y.den).natAbs<=2^k*2^l:=by rw[Int.natAbs_mul,Int.natAbs_natCast];exact Nat.mul_le_mul hx.1 hy.2
  have h2:(y.num*x.den).natAbs<=2^l*2^k:=by rw[Int.natAbs_mul,Int.natAbs_natCast];exact Nat.mul_le_mul hy.1 hx.2
  rw[Nat.mul_comm (2^l)]at h2;rw[Nat.pow_succ,Nat.pow_add];have h3:=Int.natAbs_add_le (x.num*y.den) (y.num*x.den);omega
 ·rw[Nat.pow_succ,Nat.pow_add]
  have:=Nat.mul_le_mul hx.2 hy.2
  omega
theorem Bt.mul {k l:Nat} {x y:Rat} (hx:Bt k x) (hy:Bt l y):Bt (k+l) (x*y):=by
 rw[Rat.mul_def'];refine Bt.mk ?_ ?_
 ·rw[Int.natAbs_mul,Nat.pow_add];exact Nat.mul_le_mul hx.1 hy.1
 ·rw[Nat.pow_add];exact Nat.mul_le_mul hx.2 hy.2
theorem Bt.zero (k:Nat):Bt k 0:=⟨by simp,by simp;exact Nat.one_le_two_pow⟩
theorem Bt.one (k:Nat):Bt k 1:=⟨by simp;exact Nat.one_le_two_pow,by simp;exact Nat.one_le_two_pow⟩
theorem Bt.Ij {k n:Nat} {x:Rat} (h:Bt k x) (hn:k<32*n):Sm n (dg x.num.natAbs)/\Sm n (dg x.den):=by
 have e:2^k<4294967296^n:=by
  rw[show 4294967296=2^32 from rfl,<-Nat.pow_mul];exact (Nat.pow_lt_pow_iff_right (by omega)).2 hn
 exact ⟨Sm.dg (Nat.lt_of_le_of_lt h.1 e),Sm.dg (Nat.lt_of_le_of_lt h.2 e)⟩
def Bs (k:Nat) (l:List Rat):Prop := ∀ x∈l,Bt k x
theorem Bs.at {k:Nat} {l:List Rat} (h:Bs k l) {i:Nat} {x:Rat} (hx:l[i]? = some x):Bt k x:=h x (zM hx)
theorem Bs.le {k j:Nat} {l:List Rat} (h:Bs k l) (hj:k<=j):Bs j l:=λ x hx=>(h x hx).le hj
theorem Bs.take {k:Nat} {l:List Rat} (h:Bs k l) (n:Nat):Bs k (l.take n):=λ x hx=>h x (List.mem_of_mem_take hx)
def CK:List Rat->List Rat->Rat
 | x::xs,y::ys=>x*y+CK xs ys
 | _,_=>0
theorem V2 (l:List Rat):CK l []=0:=by cases l<;>rfl
theorem wE : ∀ {a b:List Rat} {x y:Rat},a.length=b.length->CK (a++[x]) (b++[y])=CK a b+x*y
 | [],[],x,y,_=>by show x*y+0=0+x*y;rw[Rat.add_zero,Rat.zero_add]
 | p::a,q::b,x,y,h=>by
  show p*q+CK (a++[x]) (b++[y])=p*q+CK a b+x*y;rw[wE (by simpa using h),Rat.add_assoc]
theorem bR {a b:List Rat} {i:Nat} {x y:Rat} (hx:a[i]? = some x) (hy:b[i]? = some y):CK (a.take (i+1)) (b.take (i+1))=CK (a.take i) (b.take i)+x*y:=by
 have h1:=(zS hx).1;have h2:=(zS hy).1;rw[List.take_add_one,List.take_add_one,hx,hy,Option.toList_some,Option.toList_some,wE (by rw[List.length_take,List.length_take];omega)]
theorem XF {a b:List Rat} {n:Nat} (h:a.length=n):CK (a.take n) (b.take n)=CK a b:=by
 subst h;rw[List.take_of_length_le (Nat.le_refl _)];induction a generalizing b with
 | nil=>cases b<;>rfl
 | cons x a ih=>cases b with
  | nil=>rfl
  | cons y b=>simp only[List.length_cons,List.take_succ_cons,CK,ih]
theorem Bs.dot {k l:Nat} : ∀ {a b:List Rat},Bs k a->Bs l b->Bt (a.length*(k+l+1)) (CK a b)
 | [],b,_,_=>by cases b<;>exact Bt.zero _
 | x::a,[],_,_=>Bt.zero _
 | x::a,y::b,ha,hb=>by
  have h1:=(ha x (by simp)).mul (hb y (by simp));have h2:=Bs.dot (a:=a) (b:=b) (λ z hz=>ha z (by simp [hz])) (λ z hz=>hb z (by simp [hz]));refine (h1.add h2).le ?_;rw[List.length_cons,Nat.succ_mul];omega
def NW (a b:List Rat):List Rat:=List.zipWith (· + ·) a b
theorem lU : ∀ {a u v:List Rat},u.length=v.length->CK a (NW u v)=CK a u+CK a v
 | [],_,_,_=>by simp only[CK];rw[Rat.add_zero]
 | x::a,[],[],_=>by simp only[NW,List.zipWith_nil_left,CK];rw[Rat.add_zero]
 | x::a,p::u,q::v,h=>by
  show x*(p+q)+CK a (NW u v)=_;rw[lU (by simpa using h)];simp only[CK];grind
structure GU where
 a:List (List Rat)
 b:List Rat
 c:List Rat
 d:Rat
structure GU.Ok (S:GU) (n k:Nat):Prop where
 la:S.a.length=n
 lr : ∀ r∈S.a,r.length=n
 lb:S.b.length=n
 lc:S.c.length=n
 ba : ∀ r∈S.a,Bs k r
 bb:Bs k S.b
 bc:Bs k S.c
 bd:Bt k S.d
def FV (n:Nat) (j:Int):List Rat:=(List.range n).map λ i:Nat=>if (i:Int)=j then 1 else 0
theorem TD (n:Nat) (j:Int):(FV n j).length=n:=by simp [FV]
def EB (m:List (List Rat)) (j:Nat):List Rat:=m.map λ r=>r.getD j 0
def HZ (r:List Rat) (m:List (List Rat)) (n:Nat):List Rat:=(List.range n).map λ j=>CK r (EB m j)
def EA (a m:List (List Rat)) (n:Nat):List (List Rat):=a.map λ r=>HZ r m n
def LZ (m:List (List Rat)):Nat->Rat
 | 0=>0
 | i+1=>LZ m i+(m.getD i []).getD i 0
def w7 (m:List (List Rat)) (c:Rat) (i:Nat):List (List Rat):=(List.range m.length).map λ r=>if r<i then (m.getD r []).set r ((m.getD r []).getD r 0+c) else m.getD r []
def FJ (n:Nat):List (List Rat):=(List.range n).map λ i:Nat=>FV n i
def ZG (p:List (List Rat)) (n k:Nat):Rat:=LZ p n*Rat.divInt (-1) (k:Int)
def FS (a:List (List Rat)) (n:Nat):Nat->List (List Rat)
 | 0=>FJ n
 | k+1=>w7 (EA a (FS a n k) n) (ZG (EA a (FS a n k) n) n (k+1)) n
def L3 (a:List (List Rat)) (n k:Nat):Rat:=ZG (EA a (FS a n k) n) n (k+1)
def GC (a:List (List Rat)) (n k:Nat):List Rat:=1::(List.range k).map (L3 a n)
def CO (m:List (List Rat)) (b:List Rat):List Rat:=m.map λ r=>CK r b
def IJ (S:GU) (n k:Nat):List Rat:=0::(List.range k).map λ i=>CK S.c (CO (FS S.a n i) S.b)
theorem bL (m:List (List Rat)) (j:Nat):(EB m j).length=m.length:=by simp [EB]
theorem iI (r:List Rat) (m:List (List Rat)) (n:Nat):(HZ r m n).length=n:=by simp [HZ]
theorem Cr (a m:List (List Rat)) (n:Nat):(EA a m n).length=a.length:=by simp [EA]
theorem UN (m:List (List Rat)) (c:Rat) (i:Nat):(w7 m c i).length=m.length:=by simp [w7]
theorem K7 (m:List (List Rat)) (b:List Rat):(CO m b).length=m.length:=by simp [CO]
theorem fE (a:List (List Rat)) (n k:Nat):(GC a n k).length=k+1:=by simp [GC]
theorem fA (S:GU) (n k:Nat):(IJ S n k).length=k+1:=by simp [IJ]
theorem Ov (a:List (List Rat)) (n k:Nat):GC a n (k+1)=GC a n k++[L3 a n k]:=by simp [GC,List.range_succ]
theorem Od (S:GU) (n k:Nat):IJ S n (k+1)=IJ S n k++[CK S.c (CO (FS S.a n k) S.b)]:=by simp [IJ,List.range_succ]
structure Sq (n:Nat) (m:List (List Rat)):Prop where
 l:m.length=n
 r : ∀ r∈m,r.length=n
theorem Sq.at {n:Nat} {m:List (List Rat)} (h:Sq n m) {i:Nat} {r:List Rat} (hr:m[i]? = some r):r.length=n:=h.r r (zM hr)
theorem Sq.mul {n:Nat} {a:List (List Rat)} (h:a.length=n) (m:List (List Rat)):Sq n (EA a m n):=by
 refine ⟨by rw[Cr,h],λ r hr => ?_⟩;obtain ⟨x,_,rfl⟩:=List.mem_map.1 hr;exact iI _ _ _
theorem W4 {m:List (List Rat)} {c:Rat} {i r:Nat} {row:List Rat} (h:m[r]? = some row):(w7 m c i)[r]? = some (if r<i then row.set r (row.getD r 0+c) else row):=by
 have h1:=(zS h).1;have e:m.getD r []=row:=by rw[List.getD_eq_getElem?_getD,h];rfl
 simp only[w7,List.getElem?_map,List.getElem?_range h1,Option.map_some,e]
theorem Sq.w7 {n:Nat} {m:List (List Rat)} (h:Sq n m) (c:Rat) (i:Nat):Sq n (w7 m c i):=by
 refine ⟨by rw[UN,h.l],λ r hr => ?_⟩;obtain ⟨j,hj⟩:=List.getElem?_of_mem hr;have h1:=(zS hj).1;rw[UN]at h1;obtain ⟨row,o9⟩ : ∃ row,m[j]? = some row:=⟨_,zE h1⟩;rw[W4 o9]at hj;obtain rfl:=Option.some.inj hj;have:=h.at o9
 split
 ·rw[List.length_set];exact this
 ·exact this
theorem Oh (m:List (List Rat)) (c:Rat):w7 m c 0=m:=by
 refine List.ext_getElem? λ r => ?_
 cases e:m[r]? with
 | none=>rw[List.getElem?_eq_none (by rw[UN];exact List.getElem?_eq_none_iff.1 e)]
 | some row=>rw[W4 e,if_neg (by omega)]
theorem Og {m:List (List Rat)} {c:Rat} {i:Nat} {row:List Rat} (h:m[i]? = some row):w7 m c (i+1)=(w7 m c i).set i (row.set i (row.getD i 0+c)):=by
 refine List.ext_getElem? λ r => ?_
 rw[List.getElem?_set];cases e:m[r]? with
 | none =>
  have h1:=List.getElem?_eq_none_iff.1 e;have h2:=(zS h).1;rw[List.getElem?_eq_none (by rw[UN];exact h1),if_neg (by omega),List.getElem?_eq_none (by rw[UN];exact h1)]
 | some rw' =>
  rw[W4 e,W4 e];by_cases hi:i=r
  ·subst hi
   obtain rfl:=Option.some.inj (h.symm.trans e);have h2:=(zS h).1;rw[if_pos (by omega),if_pos rfl,if_pos (by rw[UN];exact h2)]
  ·rw[if_neg hi]
   by_cases h3:r<i
   ·rw[if_pos (by omega),if_pos h3]
   ·rw[if_neg (by omega),if_neg h3]
theorem Oe {m:List (List Rat)} {c:Rat} {i:Nat} {row:List Rat} (h:m[i]? = some row):(w7 m c i)[i]? = some row:=by rw[W4 h,if_neg (by omega)]
theorem Sq.id (n:Nat):Sq n (FJ n):=by
 refine ⟨by simp [FJ],λ r hr => ?_⟩;obtain ⟨i,_,rfl⟩:=List.mem_map.1 hr;exact TD _ _
theorem Sq.fl {n:Nat} {a:List (List Rat)} (h:a.length=n) : ∀ k,Sq n (FS a n k)
 | 0=>Sq.id n
 | k+1=>(Sq.mul h _).w7 _ _
def Ms (k:Nat) (m:List (List Rat)):Prop := ∀ r∈m,Bs k r
theorem Ms.at {k:Nat} {m:List (List Rat)} (h:Ms k m) {i:Nat} {r:List Rat} (hr:m[i]? = some r):Bs k r:=h r (zM hr)
theorem Ms.getD {k:Nat} {m:List (List Rat)} (h:Ms k m) (i j:Nat):Bt k ((m.getD i []).getD j 0):=by
 rw[List.getD_eq_getElem?_getD,List.getD_eq_getElem?_getD];cases e:m[i]? with
 | none=>exact Bt.zero k
 | some r =>
  simp only[Option.getD_some];cases e2:r[j]? with
  | none=>exact Bt.zero k
  | some x=>exact (h.at e).at e2
theorem Ms.le {k j:Nat} {m:List (List Rat)} (h:Ms k m) (hj:k<=j):Ms j m:=λ r hr=>(h r hr).le hj
theorem Ms.zh {k:Nat} {m:List (List Rat)} (h:Ms k m) (j:Nat):Bs k (EB m j):=by
 intro x hx;obtain ⟨r,hr,rfl⟩:=List.mem_map.1 hx;rw[List.getD_eq_getElem?_getD];cases e:r[j]? with
 | none=>exact Bt.zero k
 | some x=>exact (h r hr).at e
theorem Ms.mul {n k s:Nat} {a m:List (List Rat)} (ha:Ms k a) (hs:Sq n a) (hm:Ms s m):Ms (n*(k+s+1)) (EA a m n):=by
 intro r hr x hx;obtain ⟨r,h1,rfl⟩:=List.mem_map.1 hr;obtain ⟨j,_,rfl⟩:=List.mem_map.1 hx;have:=(ha r h1).dot (hm.zh j)
 rw[hs.r r h1]at this;exact this
theorem Ms.tr {k:Nat} {m:List (List Rat)} (h:Ms k m) : ∀ i,Bt (i*(k+1)) (LZ m i)
 | 0=>Bt.zero _
 | i+1=>by
  refine ((Ms.tr h i).add (h.getD i i)).le ?_;rw[Nat.succ_mul];omega
theorem Ms.w7 {k j:Nat} {m:List (List Rat)} (h:Ms k m) {c:Rat} (hc:Bt j c) (i:Nat):Ms (k+j+1) (w7 m c i):=by
 intro r hr;obtain ⟨q,hq⟩:=List.getElem?_of_mem hr;have h1:=(zS hq).1;rw[UN]at h1;obtain ⟨row,o9⟩ : ∃ row,m[q]? = some row:=⟨_,zE h1⟩;rw[W4 o9]at hq;obtain rfl:=Option.some.inj hq;have hb:=h.at o9;split
 ·intro x hx
  rcases List.mem_or_eq_of_mem_set hx with hx|rfl
  ·exact (hb x hx).le (by omega)
  ·refine Bt.add ?_ hc
   rw[List.getD_eq_getElem?_getD];cases e:row[q]? with
   | none=>exact Bt.zero k
   | some x=>exact hb.at e
 ·exact hb.le (by omega)
theorem Ms.id (n k:Nat):Ms k (FJ n):=by
 intro r hr x hx;obtain ⟨i,_,rfl⟩:=List.mem_map.1 hr;simp only[FV,List.mem_map]at hx;obtain ⟨a,_,rfl⟩:=hx;split
 ·exact Bt.one k
 ·exact Bt.zero k
theorem tJ {k:Nat} (hk:k<=7):Bt 3 (Rat.divInt (-1) (k:Int)):=by
 rw[Rat.divInt_ofNat];refine Bt.mk ?_ ?_
 ·decide
 ·show k<=8;omega
def J7 (s:Nat):Nat->Nat
 | 0=>0
 | k+1=>20*J7 s k+(20*s+100)
theorem Ms.xf {n s:Nat} {a:List (List Rat)} (hs:Sq n a) (ha:Ms s a) (hn:n<=4) : ∀ k,k<=4->Ms (J7 s k) (FS a n k)/\Ms (4*(J7 s k+(s+1))) (EA a (FS a n k) n)/\Bt (16*(J7 s k+(s+1))+10) (L3 a n k):=by
 have key : ∀ k,k<=4->Ms (J7 s k) (FS a n k)->Ms (4*(J7 s k+(s+1))) (EA a (FS a n k) n)/\Bt (16*(J7 s k+(s+1))+10) (L3 a n k):=λ k hk h=>by
  have h1:Ms (4*(J7 s k+(s+1))) (EA a (FS a n k) n):=(Ms.mul ha hs h).le (Nat.mul_le_mul hn (by omega));refine ⟨h1,?_⟩;refine ((h1.tr n).mul (tJ (k:=k+1) (by omega))).le ?_;have:=Nat.mul_le_mul_right (4*(J7 s k+(s+1))+1) hn
  generalize J7 s k=f at this ⊢;generalize hX:4*(f+(s+1))+1=X at this ⊢;generalize n*X=Y at this ⊢;omega
 intro k;induction k with
 | zero=>exact λ hk=>⟨Ms.id n _,key 0 hk (Ms.id n _)⟩
 | succ k ih =>
  intro hk;obtain ⟨h1,h2,h3⟩:=ih (by omega);have h4:Ms (J7 s (k+1)) (FS a n (k+1)):=(h2.w7 h3 n).le (by show _<=20*J7 s k+(20*s+100);omega);exact ⟨h4,key (k+1) hk h4⟩
def XP:Nat->Nat:=J7 80
theorem Ms.fl {n:Nat} {a:List (List Rat)} (hs:Sq n a) (ha:Ms 80 a) (hn:n<=4) : ∀ k,k<=4->Ms (XP k) (FS a n k)/\Ms (4*(XP k+81)) (EA a (FS a n k) n)/\Bt (16*(XP k+81)+10) (L3 a n k):=Ms.xf hs ha hn
theorem nF : ∀ k,k<=4->J7 400 k<=69000000:=by decide
theorem yN : ∀ k,k<=4->XP k<=15000000:=by decide
theorem I9 : ∀ a b:List Rat,CK a b=CK b a
 | [],[]=>rfl
 | [],_::_=>rfl
 | _::_,[]=>rfl
 | x::a,y::b=>by simp only[CK,I9 a b,Rat.mul_comm]
theorem ZJ : ∀ (v:List Rat) (n:Nat),CK (List.replicate n 0) v=0
 | [],n=>V2 _
 | y::v,0=>rfl
 | y::v,n+1=>by rw[List.replicate_succ];simp only[CK,ZJ v n];grind
theorem bS (v:List Rat) (n:Nat):CK v (List.replicate n 0)=0:=by rw[I9,ZJ]
theorem bQ (x:Rat) : ∀ a b:List Rat,CK (a.map (x * ·)) b=x*CK a b
 | [],_=>by simp [CK]
 | _::_,[]=>by simp [CK]
 | p::a,q::b=>by simp only[List.map_cons,CK,bQ x a b];grind
theorem AjW (u:List Rat) (n:Nat):HZ u [] n=List.replicate n 0:=by
 refine List.ext_getElem? λ j => ?_
 simp only[HZ,EB,List.map_nil,V2,List.getElem?_map,List.getElem?_replicate];by_cases h:j<n
 ·rw[List.getElem?_range h,if_pos h];rfl
 ·rw[List.getElem?_eq_none (by simp;omega),if_neg h];rfl
theorem AjX (m:List (List Rat)) (n:Nat):HZ [] m n=List.replicate n 0:=by
 refine List.ext_getElem? λ j => ?_
 simp only[HZ,CK,List.getElem?_map,List.getElem?_replicate];by_cases h:j<n
 ·rw[List.getElem?_range h,if_pos h];rfl
 ·rw[List.getElem?_eq_none (by simp;omega),if_neg h];rfl
theorem AjV (x:Rat) (u r:List Rat) (m:List (List Rat)) (n:Nat) (hr:r.length=n):HZ (x::u) (r::m) n=NW (r.map (x * ·)) (HZ u m n):=by
 refine List.ext_getElem? λ j => ?_
 simp only[HZ,NW,List.getElem?_map,List.getElem?_zipWith];by_cases h:j<n
 ·rw[List.getElem?_range h]
  obtain ⟨y,hy⟩ : ∃ y,r[j]? = some y:=⟨_,zE (by omega)⟩;rw[hy];simp only[Option.map_some,EB,List.map_cons,CK,List.getD_eq_getElem?_getD,hy,Option.getD_some]
 ·rw[List.getElem?_eq_none (by simp;omega),List.getElem?_eq_none (l:=r) (by omega)]
  rfl
theorem lV {n:Nat} {v:List Rat} : ∀ (m:List (List Rat)) (u:List Rat),(∀ r∈m,r.length=n)->CK (HZ u m n) v=CK u (CO m v)
 | [],u,_=>by rw[AjW,ZJ,CO,List.map_nil,V2]
 | r::m,[],_=>by rw[AjX,ZJ];rfl
 | r::m,x::u,h=>by
  have hr:=h r (by simp);rw[AjV x u r m n hr,I9,lU (by rw[List.length_map,iI];exact hr),I9 v,I9 v,bQ,lV m u λ r hr=>h r (by simp [hr])];rfl
theorem MC {n:Nat} (a m:List (List Rat)) (v:List Rat) (h : ∀ r∈m,r.length=n):CO (EA a m n) v=CO a (CO m v):=by
 simp only[CO,EA,List.map_map];exact List.map_congr_left λ r _=>lV m r h
theorem wD (c:Rat) : ∀ (row b:List Rat) (i:Nat),row.length=b.length->i<row.length->CK (row.set i (row.getD i 0+c)) b=CK row b+c*b.getD i 0
 | [],_,_,_,h=>by simp at h
 | x::row,[],_,h,_=>by simp at h
 | x::row,y::b,0,_,_=>by simp [CK];grind
 | x::row,y::b,i+1,h,hi=>by
  simp only[List.set_cons_succ,List.getD_cons_succ,CK];rw[wD c row b i (by simpa using h) (by simpa using hi)];grind
theorem Ct {n:Nat} {m:List (List Rat)} (hs:Sq n m) (c:Rat) (b:List Rat) (hb:b.length=n):CO (w7 m c n) b=NW (CO m b) (b.map (c * ·)):=by
 refine List.ext_getElem? λ r => ?_
 simp only[CO,NW,List.getElem?_map,List.getElem?_zipWith];cases e:m[r]? with
 | none =>
  have h1:=List.getElem?_eq_none_iff.1 e;rw[List.getElem?_eq_none (by rw[UN];exact h1)];rfl
 | some row =>
  have h1:=(zS e).1;have hl:=hs.at e;have hm:=hs.l;obtain ⟨y,hy⟩ : ∃ y,b[r]? = some y:=⟨_,zE (by omega)⟩;rw[W4 e,if_pos (by omega),hy];simp only[Option.map_some];rw[wD c row b r (by omega) (by omega),List.getD_eq_getElem?_getD,hy];rfl
theorem XW {n:Nat} {b:List Rat} (hb:b.length=n):CO (FJ n) b=b:=by
 have unit : ∀ (k n i:Nat) (b:List Rat),b.length=n->CK ((List.range' k n).map λ a:Nat=>if (a:Int)=((k+i:Nat):Int) then 1 else 0) b=b.getD i 0:=by
  intro k n;induction n generalizing k with
  | zero=>intro i b hb;obtain rfl:=List.eq_nil_of_length_eq_zero hb;simp [CK]
  | succ n ih =>
   intro i b hb;cases b with
   | nil=>simp at hb
   | cons y b =>
    rw[List.range'_succ,List.map_cons,CK];cases i with
    | zero =>
     have hz:((List.range' (k+1) n).map λ a:Nat=>if (a:Int)=((k+0:Nat):Int) then (1:Rat) else 0)=List.replicate n 0:=by
      rw[List.eq_replicate_iff];refine ⟨by simp,λ x hx => ?_⟩;obtain ⟨a,ha,rfl⟩:=List.mem_map.1 hx;rw[if_neg];have:=(List.mem_range'_1.1 ha).1
      omega
     rw[hz,ZJ,if_pos (by simp)];simp [Rat.add_zero]
    | succ i =>
     have:=ih (k+1) i b (by simpa using hb)
     rw[show k+1+i=k+(i+1) by omega]at this;rw[this,if_neg (by omega),List.getD_cons_succ];grind
 refine List.ext_getElem? λ r => ?_
 simp only[CO,FJ,List.getElem?_map];by_cases h:r<n
 ·rw[List.getElem?_range h]
  have:=unit 0 n r b hb
  rw[Nat.zero_add]at this;simp only[Option.map_some,FV,List.range_eq_range']at this ⊢;rw[this,List.getD_eq_getElem?_getD,zE (by omega)];rfl
 ·rw[List.getElem?_eq_none (by simp;omega),List.getElem?_eq_none (by omega)]
  rfl
def wQ (S:GU):Nat->List Rat
 | 0=>S.b
 | j+1=>CO S.a (wQ S j)
def conv (A h:Nat->Rat) (K:Nat):Nat->Rat
 | 0=>0
 | a+1=>conv A h K a+A a*h (K-a)
theorem Dy {α:Type} {l:List α} (h:l.length=1) : ∃ a,l=[a]:=by
 rcases l with _|⟨a,_|⟨b,l⟩⟩<;>simp at h
 exact ⟨a,rfl⟩
end Go.Eng
namespace Go.Eng
open F
attribute [local irreducible] AH BJ B1 BD E6 CF CI CY CU DX B5 DT EN GS DS CR DR EF AR CW BW pw DC DB EP EV E7 FM EZ D5 FE
variable {L:Lib}
set_option maxHeartbeats 1000000
def FI (a b:Int):Int:=if a<b then -1 else if b<a then 1 else 0
theorem LI {a b:Int} (h:a<b) : -1=FI a b:=by unfold FI;rw[if_pos h]
theorem TW {a b:Int} (h:b<a):1=FI a b:=by unfold FI;rw[if_neg (by omega),if_pos h]
theorem XA {a b:Int} (h:a=b):0=FI a b:=by unfold FI;rw[if_neg (by omega),if_neg (by omega)]
theorem Wc (N:c6 L) (a:Int):Ev L 58 [.int .i64 a] (.bool false):=by
 refine Ev.x N.OS rfl rfl ?_;(repeat' ((first|(apply BR<;>intro hc<;>try (exfalso;omega))|apply BA)<;>conv=>whnf))
 exact I4 rfl
theorem We (N:c6 L) (a:Int):Ev L 59 [.int .u32 a] (.bool false):=by
 refine Ev.x N.OU rfl rfl ?_;(repeat' ((first|(apply BR<;>intro hc<;>try (exfalso;omega))|apply BA)<;>conv=>whnf))
 exact I4 rfl
theorem Ti (N:c6 L) (a b:Int):Ev L 60 [.int .i64 a,.int .i64 b] (.int .i64 (FI a b)):=by
 refine Ev.x N.OP rfl rfl ?_;(repeat' ((first|(apply BR<;>intro hc<;>try (exfalso;omega))|apply BA|refine BH (Wc N _) ?_)<;>conv=>whnf))
 ·exact FF (LI (by omega))
 ·exact FF (TW (by omega))
 ·exact FF (XA (by omega))
theorem Tj (N:c6 L) (a b:Int):Ev L 61 [.int .u32 a,.int .u32 b] (.int .i64 (FI a b)):=by
 refine Ev.x N.OR rfl rfl ?_;(repeat' ((first|(apply BR<;>intro hc<;>try (exfalso;omega))|apply BA|refine BH (We N _) ?_)<;>conv=>whnf))
 ·exact FF (LI (by omega))
 ·exact FF (TW (by omega))
 ·exact FF (XA (by omega))
theorem wX (N:c6 L) (l:List Nat) (q:Bool) (hl:l.length<=1099511627776):Ev L 62 [.sl q (l.map BZ)] (.sl false (l.map BZ)):=by
 cases l with
 | nil =>
  refine IU.nil N.KW (IU.x N.KW rfl rfl ?_) (IU.x N.KW rfl rfl ?_)
  ·(repeat' (apply BA<;>conv=>whnf))
   exact CJ rfl (by simp [CS,IO])
  ·(repeat' (apply BA<;>conv=>whnf))
   refine dY (enc:=BZ) (l:=[]) (l':=[]) rfl (λ_=>rfl) (by simp) (by simp) ?_;(conv=>whnf)
   (repeat' ((refine GI (λ_=>rfl) rfl ?_ ?_;(first|rfl|simp))<;>conv=>whnf))
   exact CJ rfl (by simp [CS,IO])
 | cons d l =>
  refine IU.cons (IU.x N.KW rfl rfl ?_);(repeat' (apply BA<;>conv=>whnf))
  refine CE (by simp) ?_;(conv=>whnf)
  skip
  refine dY (enc:=BZ) (l:=[]) (l':=d::l) rfl (λ_=>rfl) (by simp at hl ⊢;omega) (by simp at hl ⊢;omega) ?_;(conv=>whnf)
  (repeat' ((refine GI (λ_=>rfl) rfl ?_ ?_;(first|rfl|simp))<;>conv=>whnf))
  exact CJ rfl (by simp only[CS,true_and];exact E0 (d::l))
theorem OD (N:c6 L) (l:List Nat) (q:Bool) (hD:CP l) (hl:l.length<=1099511627776):aS L 65 [.sl q (l.map BZ)] (.sl q ((dg (val l)).map BZ)):=by
 refine Ky N.IM rfl rfl rfl rfl rfl ?_;(repeat' ((first|apply CB|apply BA)<;>conv=>whnf))
 refine DG (λ n=>n) (λ(n:Nat)=>n<=l.length /\ ∀ i,n<=i->i<l.length->l[i]? = some 0) (λ n=>[(3,.int .i64 n)]) (λ_=>[]) [] [] l.length (by (conv=>whnf);exact ⟨rfl,rfl,rfl⟩) ⟨Nat.le_refl _,λ i h1 h2=>by omega⟩ ?_;intro n ⟨p1,p2⟩ ih;rcases n with _|n
 ·(repeat' ((first|(apply BR<;>intro hc<;>try (exfalso;omega))|apply BA)<;>conv=>whnf))
  refine UK (k:=0) (λ_=>rfl) (by omega) ?_;(conv=>whnf)
  refine ⟨_,rfl,?_⟩;rw[JC hD p1 p2 (Or.inl rfl)];rfl
 ·have e1:((n+1:Nat):Int)-1=n:=by omega
  (repeat' ((first|(apply BR<;>intro hc<;>try (exfalso;omega))|(apply D4;omega)|(refine VU (by assumption) ?_ (λ e he hb => ?_);omega)|apply BA)<;>conv=>whnf))
  ·rw[e1]
   exact C6 [] (ih n (by omega) ⟨by omega,λ i h1 h2=>by
    by_cases h:i=n
    ·subst h
     rw[e1,Int.toNat_natCast]at he;rw[he];congr 1;omega
    ·exact p2 i (by omega) h2⟩)
  ·refine UK (k:=n+1) (λ_=>rfl) (by omega) ?_
   (conv=>whnf)
   refine ⟨_,rfl,?_⟩;rw[e1,Int.toNat_natCast]at he;rw[JC hD p1 p2 (Or.inr ⟨e,he,by omega⟩)];rfl
theorem cA (N:c6 L) (l:List Nat) (q:Bool) (hD:CP l) (hl:l.length<=1099511627776):Ev L 66 [.sl q (l.map BZ)] (.sl false ((dg (val l)).map BZ)):=by
 have hc:=HL hD;refine Ev.x N.PU rfl rfl ?_;(repeat' ((first|apply BA|refine NP (OD N l _ hD hl) ?_|refine BH (wX N (dg (val l)) _ (by omega)) ?_)<;>conv=>whnf))
 exact CJ rfl (by simp only[CS,true_and];exact E0 _)
theorem Ro {a b:Nat} (h:((dg a).length:Int)≠(dg b).length):FI (dg a).length (dg b).length=FI a b:=by
 rcases Nat.lt_trichotomy (dg a).length (dg b).length with h1|h1|h1
 ·have:=aF h1
  rw[<-LI (by omega),<-LI (by omega)]
 ·omega
 ·have:=aF h1
  rw[<-TW (by omega),<-TW (by omega)]
theorem U0 (N:c6 L) (a b:List Nat) (q1 q2:Bool) (hA:CP a) (hB:CP b) (la:a.length<=1099511627776) (lb:b.length<=1099511627776):Ev L 67 [.sl q1 (a.map BZ),.sl q2 (b.map BZ)] (.int .i64 (FI (val a) (val b))):=by
 have l1:=HL hA;have l2:=HL hB;have d1:=GP (val a);have d2:=GP (val b);refine Ev.x N.PO rfl rfl ?_;(repeat' ((first|(apply BR<;>intro hc<;>try (exfalso;omega))|(apply D4;omega)|apply CB|apply BA|refine NP (OD N a _ hA la) ?_|refine NP (OD N b _ hB lb) ?_|refine BH (Ti N _ _) ?_)<;>conv=>whnf))
 ·exact FF (Ro (by omega))
 have hlen:(dg (val a)).length=(dg (val b)).length:=by omega
 have v1:=DN (val a);have v2:=DN (val b);generalize dg (val a)=X at *;generalize dg (val b)=Y at *;refine DG (λ n=>n) (λ(n:Nat)=>n<=X.length/\X.drop n=Y.drop n) (λ n=>[(7,.int .i64 ((n:Int)-1))]) (λ_=>[]) [] [] X.length (by (conv=>whnf);exact ⟨rfl,rfl,rfl⟩) ⟨Nat.le_refl _,by rw[List.drop_of_length_le (Nat.le_refl _),List.drop_of_length_le (by omega)]⟩ ?_;intro n ⟨p1,p2⟩ ih;rcases n with _|n
 ·(repeat' ((first|(apply BR<;>intro hc<;>try (exfalso;omega))|apply BA)<;>conv=>whnf))
  rw[List.drop_zero,List.drop_zero]at p2;exact FF (XA (by rw[<-v1,<-v2,p2]))
 ·have e1:((n+1:Nat):Int)-1=n:=by omega
  rw[e1];(repeat' ((first|(apply BR<;>intro hc<;>try (exfalso;omega))|(apply D4;omega)|(refine CX (by assumption) ?_ rfl ?_;omega)|(refine eK (by assumption) ?_ (λ e he hb => ?_);omega)|apply BA|refine BH (Tj N _ _) ?_)<;>conv=>whnf))
  ·rename_i x hx _
   rcases Nat.lt_trichotomy x e with h|h|h
   ·have:=jV d1 d2 hlen hx he p2 h
    refine FF ?_;rw[<-LI (by omega),<-LI (by omega)]
   ·omega
   ·have:=jV d2 d1 hlen.symm he hx p2.symm h
    refine FF ?_;rw[<-TW (by omega),<-TW (by omega)]
  ·rename_i x hx _
   refine DE [] (by (conv=>whnf);exact ⟨rfl,rfl,rfl⟩) (ih n (by omega) ⟨by omega,?_⟩);obtain ⟨i1,e1⟩:=zS hx;obtain ⟨i2,e2⟩:=zS he;rw[List.drop_eq_getElem_cons i1,List.drop_eq_getElem_cons i2,p2,e1,e2];congr 1;omega
theorem jZ {y:List Nat} {i:Nat} (h:y.length<=i):val (y.take (i+1))=val (y.take i):=by
 rw[FL h,FL (by omega)]
theorem Wk (N:c6 L) (a b:List Nat) (q1 q2:Bool) (hA:CP a) (hB:CP b) (la:a.length<=1099511627775) (lb:b.length<=1099511627775):Ev L 68 [.sl q1 (a.map BZ),.sl q2 (b.map BZ)] (.sl false ((dg (val a+val b)).map BZ)):=by
 have l1:=HL hA;have l2:=HL hB;have d1:=GP (val a);have d2:=GP (val b);have v1:=DN (val a);have v2:=DN (val b);refine Ev.x N.PN rfl rfl ?_;(repeat' ((first|(apply BR<;>intro hc<;>try (exfalso;omega))|(apply CG;omega)|apply CB|apply BA|refine NP (OD N a _ hA (by omega)) ?_|refine NP (OD N b _ hB (by omega)) ?_)<;>conv=>whnf))
 ·generalize dg (val a)=y at *
  generalize dg (val b)=x at *;rw[<-v1,<-v2,Nat.add_comm (val y)];have hlen:y.length<=x.length:=by omega
  have hxl:x.length<=1099511627775:=by omega
  clear v1 v2 hA hB la lb;refine GT (enc:=BZ) 0 (x.length+1) rfl (by omega) (by omega) ?_;(conv=>whnf)
  (repeat' (apply CB<;>conv=>whnf))
  refine JJ (λ i _ _=>x.length-i) (λ(i:Nat) (o:List Nat) (c:Nat)=>i<=x.length/\o.length=x.length+1/\CP o/\c<=1/\val (o.take i)+4294967296^i*c=val (x.take i)+val (y.take i)) (λ i o c=>[(8,.int .u64 (c:Int)),(29,.int .i64 i)]) (λ i o c=>[(26,26,.rw 1 (o.map BZ))]) [] [] 0 (List.replicate (x.length+1) 0) 0 (by (conv=>whnf);exact ⟨rfl,rfl,rfl⟩) ⟨by omega,by simp,MB _,by omega,by simp [val]⟩ ?_;intro i o c ⟨p1,p2,p3,p4,p5⟩ ih;by_cases hi:i<x.length
  ·(repeat' ((first|(apply BR<;>intro hc<;>try (exfalso;omega))|(apply CE;omega)|(apply I6;omega)|(apply EG;omega)|apply IR|apply CB|(refine eK (by assumption) ?_ (λ e he hb => ?_);omega)|apply BA)<;>conv=>whnf))
   ·rename_i d hd _
    refine H9 (by omega) ?_;(conv=>whnf)
    (repeat' ((first|(apply CG;omega)|apply IB)<;>conv=>whnf))
    refine DE [] (by (conv=>whnf);exact ⟨rfl,rfl,rfl⟩) (ih (i+1) _ _ (by omega) ⟨by omega,by simpa using p2,p3.set _ (by omega),by omega,?_⟩);have h1:=GR hd;have h2:=GR he;have h3:=UR (val (o.take i)) (4294967296^i) (d+c+e);have h4:=I2 (v:=(d+c+e)%4294967296) (show i<o.length by omega);rw[h4,h1,h2,Nat.pow_succ];generalize 4294967296^i=p at *;rw[h3,Nat.mul_add,Nat.mul_add];omega
   ·refine H9 (by omega) ?_
    (conv=>whnf)
    (repeat' ((first|(apply CG;omega)|apply IB)<;>conv=>whnf))
    refine DE [] (by (conv=>whnf);exact ⟨rfl,rfl,rfl⟩) (ih (i+1) _ _ (by omega) ⟨by omega,by simpa using p2,p3.set _ (by omega),by omega,?_⟩);have h1:=GR he;have h2:=jZ (y:=y) (i:=i) (by omega);have h3:=UR (val (o.take i)) (4294967296^i) (e+c);have h4:=I2 (v:=(e+c)%4294967296) (show i<o.length by omega);rw[h4,h1,h2,Nat.pow_succ];generalize 4294967296^i=p at *;rw[h3,Nat.mul_add];omega
  ·obtain rfl:i=x.length:=by omega
   clear ih;(repeat' ((first|(apply BR<;>intro hc<;>try (exfalso;omega))|(apply CE;omega)|(apply G3;omega)|apply CB|apply BA)<;>conv=>whnf))
   refine H9 (by omega) ?_;(conv=>whnf)
   skip
   have hV:val (o.set x.length c)=val x+val y:=by
    have h4:=I2 (v:=c) (show x.length<o.length by omega);rw[List.take_of_length_le (by simp;omega)]at h4;rw[h4,p5,FL (Nat.le_refl _),FL hlen]
   have hD:CP (o.set x.length c):=p3.set _ (by omega);have hL:(o.set x.length c).length=x.length+1:=by simpa using p2
   clear p3 p4 p5 p2;generalize o.set x.length c=O at *;rw[<-hL];refine HI 1000 N.IM rfl rfl ?_;(repeat' (apply BA<;>conv=>whnf))
   refine DG (λ n=>n) (λ(n:Nat)=>n<=(O).length /\ ∀ i,n<=i->i<(O).length->(O)[i]? = some 0) (λ n=>[(3,.int .i64 n)]) (λ_=>[]) [] [] (O).length (by first|exact (by (conv=>whnf);exact ⟨rfl,rfl,rfl⟩)|(simp only[List.length_set,List.length_replicate];exact (by (conv=>whnf);exact ⟨rfl,rfl,rfl⟩))) ⟨Nat.le_refl _,λ i h1 h2=>by omega⟩ ?_;intro n ⟨p1,p2⟩ ih;rcases n with _|n
   ·(repeat' ((first|(apply BR<;>intro hc<;>try (exfalso;omega))|apply BA)<;>conv=>whnf))
    refine JK 0 (by omega) (by omega) ?_;(conv=>whnf)
    refine ⟨rfl,_,rfl,?_⟩;(conv=>whnf)
    have hm:=p1;have w4:=JC (l:=O) (by assumption) p1 p2 (Or.inl rfl);clear ih p1 p2;(refine J0 (enc:=BZ) (λ_=>rfl) (by omega) ?_;(conv=>whnf);exact CJ (by rw[<-hV,<-w4];rfl) (by simp only[CS,true_and];exact E0 _))
   ·have e1:((n+1:Nat):Int)-1=n:=by omega
    (repeat' ((first|(apply BR<;>intro hc<;>try (exfalso;omega))|(apply CE;omega)|(apply D4;omega)|(refine WY (by assumption) ?_ (λ v hv hb => ?_);omega)|apply BA)<;>conv=>whnf))
    ·rw[e1]
     exact C6 [] (ih n (by omega) ⟨by omega,λ i h1 h2=>by
      by_cases h:i=n
      ·subst h
       rw[e1,Int.toNat_natCast]at hv;rw[hv];congr 1;omega
      ·exact p2 i (by omega) h2⟩)
    ·refine JK (n+1) (by omega) (by omega) ?_
     (conv=>whnf)
     refine ⟨rfl,_,rfl,?_⟩;(conv=>whnf)
     rw[e1,Int.toNat_natCast]at hv;have hm:=p1;have w4:=JC (l:=O) (by assumption) p1 p2 (Or.inr ⟨_,hv,by omega⟩);clear ih p1 p2 hv;(refine J0 (enc:=BZ) (λ_=>rfl) (by omega) ?_;(conv=>whnf);exact CJ (by rw[<-hV,<-w4];rfl) (by simp only[CS,true_and];exact E0 _))
 ·generalize dg (val a)=x at *
  generalize dg (val b)=y at *;rw[<-v1,<-v2];have hlen:y.length<=x.length:=by omega
  have hxl:x.length<=1099511627775:=by omega
  clear v1 v2 hA hB la lb;refine GT (enc:=BZ) 0 (x.length+1) rfl (by omega) (by omega) ?_;(conv=>whnf)
  (repeat' (apply CB<;>conv=>whnf))
  refine JJ (λ i _ _=>x.length-i) (λ(i:Nat) (o:List Nat) (c:Nat)=>i<=x.length/\o.length=x.length+1/\CP o/\c<=1/\val (o.take i)+4294967296^i*c=val (x.take i)+val (y.take i)) (λ i o c=>[(8,.int .u64 (c:Int)),(29,.int .i64 i)]) (λ i o c=>[(26,26,.rw 1 (o.map BZ))]) [] [] 0 (List.replicate (x.length+1) 0) 0 (by (conv=>whnf);exact ⟨rfl,rfl,rfl⟩) ⟨by omega,by simp,MB _,by omega,by simp [val]⟩ ?_;intro i o c ⟨p1,p2,p3,p4,p5⟩ ih;by_cases hi:i<x.length
  ·(repeat' ((first|(apply BR<;>intro hc<;>try (exfalso;omega))|(apply CE;omega)|(apply I6;omega)|(apply EG;omega)|apply IR|apply CB|(refine eK (by assumption) ?_ (λ e he hb => ?_);omega)|apply BA)<;>conv=>whnf))
   ·rename_i d hd _
    refine H9 (by omega) ?_;(conv=>whnf)
    (repeat' ((first|(apply CG;omega)|apply IB)<;>conv=>whnf))
    refine DE [] (by (conv=>whnf);exact ⟨rfl,rfl,rfl⟩) (ih (i+1) _ _ (by omega) ⟨by omega,by simpa using p2,p3.set _ (by omega),by omega,?_⟩);have h1:=GR hd;have h2:=GR he;have h3:=UR (val (o.take i)) (4294967296^i) (d+c+e);have h4:=I2 (v:=(d+c+e)%4294967296) (show i<o.length by omega);rw[h4,h1,h2,Nat.pow_succ];generalize 4294967296^i=p at *;rw[h3,Nat.mul_add,Nat.mul_add];omega
   ·refine H9 (by omega) ?_
    (conv=>whnf)
    (repeat' ((first|(apply CG;omega)|apply IB)<;>conv=>whnf))
    refine DE [] (by (conv=>whnf);exact ⟨rfl,rfl,rfl⟩) (ih (i+1) _ _ (by omega) ⟨by omega,by simpa using p2,p3.set _ (by omega),by omega,?_⟩);have h1:=GR he;have h2:=jZ (y:=y) (i:=i) (by omega);have h3:=UR (val (o.take i)) (4294967296^i) (e+c);have h4:=I2 (v:=(e+c)%4294967296) (show i<o.length by omega);rw[h4,h1,h2,Nat.pow_succ];generalize 4294967296^i=p at *;rw[h3,Nat.mul_add];omega
  ·obtain rfl:i=x.length:=by omega
   clear ih;(repeat' ((first|(apply BR<;>intro hc<;>try (exfalso;omega))|(apply CE;omega)|(apply G3;omega)|apply CB|apply BA)<;>conv=>whnf))
   refine H9 (by omega) ?_;(conv=>whnf)
   skip
   have hV:val (o.set x.length c)=val x+val y:=by
    have h4:=I2 (v:=c) (show x.length<o.length by omega);rw[List.take_of_length_le (by simp;omega)]at h4;rw[h4,p5,FL (Nat.le_refl _),FL hlen]
   have hD:CP (o.set x.length c):=p3.set _ (by omega);have hL:(o.set x.length c).length=x.length+1:=by simpa using p2
   clear p3 p4 p5 p2;generalize o.set x.length c=O at *;rw[<-hL];refine HI 1000 N.IM rfl rfl ?_;(repeat' (apply BA<;>conv=>whnf))
   refine DG (λ n=>n) (λ(n:Nat)=>n<=(O).length /\ ∀ i,n<=i->i<(O).length->(O)[i]? = some 0) (λ n=>[(3,.int .i64 n)]) (λ_=>[]) [] [] (O).length (by first|exact (by (conv=>whnf);exact ⟨rfl,rfl,rfl⟩)|(simp only[List.length_set,List.length_replicate];exact (by (conv=>whnf);exact ⟨rfl,rfl,rfl⟩))) ⟨Nat.le_refl _,λ i h1 h2=>by omega⟩ ?_;intro n ⟨p1,p2⟩ ih;rcases n with _|n
   ·(repeat' ((first|(apply BR<;>intro hc<;>try (exfalso;omega))|apply BA)<;>conv=>whnf))
    refine JK 0 (by omega) (by omega) ?_;(conv=>whnf)
    refine ⟨rfl,_,rfl,?_⟩;(conv=>whnf)
    have hm:=p1;have w4:=JC (l:=O) (by assumption) p1 p2 (Or.inl rfl);clear ih p1 p2;(refine J0 (enc:=BZ) (λ_=>rfl) (by omega) ?_;(conv=>whnf);exact CJ (by rw[<-hV,<-w4];rfl) (by simp only[CS,true_and];exact E0 _))
   ·have e1:((n+1:Nat):Int)-1=n:=by omega
    (repeat' ((first|(apply BR<;>intro hc<;>try (exfalso;omega))|(apply CE;omega)|(apply D4;omega)|(refine WY (by assumption) ?_ (λ v hv hb => ?_);omega)|apply BA)<;>conv=>whnf))
    ·rw[e1]
     exact C6 [] (ih n (by omega) ⟨by omega,λ i h1 h2=>by
      by_cases h:i=n
      ·subst h
       rw[e1,Int.toNat_natCast]at hv;rw[hv];congr 1;omega
      ·exact p2 i (by omega) h2⟩)
    ·refine JK (n+1) (by omega) (by omega) ?_
     (conv=>whnf)
     refine ⟨rfl,_,rfl,?_⟩;(conv=>whnf)
     rw[e1,Int.toNat_natCast]at hv;have hm:=p1;have w4:=JC (l:=O) (by assumption) p1 p2 (Or.inr ⟨_,hv,by omega⟩);clear ih p1 p2 hv;(refine J0 (enc:=BZ) (λ_=>rfl) (by omega) ?_;(conv=>whnf);exact CJ (by rw[<-hV,<-w4];rfl) (by simp only[CS,true_and];exact E0 _))
theorem Rm {a b:Int} (h:FI a b<=0):a<=b:=by
 unfold FI at h;split at h
 ·omega
 ·split at h<;>omega
theorem Rn {a b:Int} (h:0<FI a b):b<a:=by
 unfold FI at h;split at h
 ·omega
 ·split at h<;>omega
theorem xL (N:c6 L) (a b:List Nat) (q1 q2:Bool) (hA:CP a) (hB:CP b) (la:a.length<=1099511627776) (lb:b.length<=1099511627776):Ev L 69 [.sl q1 (a.map BZ),.sl q2 (b.map BZ)] (.sl false ((dg (val a-val b)).map BZ)):=by
 have l1:=HL hA;have l2:=HL hB;have d1:=GP (val a);have d2:=GP (val b);have v1:=DN (val a);have v2:=DN (val b);refine Ev.x N.PS rfl rfl ?_;(repeat' ((first|(apply BR<;>intro hc<;>try (exfalso;omega))|apply CB|apply BA|refine BH (U0 N a b _ _ hA hB la lb) ?_|refine NP (OD N a _ hA la) ?_|refine NP (OD N b _ hB lb) ?_)<;>conv=>whnf))
 ·have:=Rm hc
  refine CJ ?_ (by simp only[CS,true_and];exact E0 _);rw[show val a-val b=0 by omega,HR];rfl
 ·have l6:=Rn hc
  have nn:(dg (val b)).length<=(dg (val a)).length:=by
   rcases Nat.lt_or_ge (dg (val a)).length (dg (val b)).length with h|h
   ·have:=aF h;omega
   ·exact h
  have lu:val b<val a:=by omega
  clear l6 hc;generalize dg (val a)=x at *;generalize dg (val b)=y at *;rw[<-v1,<-v2]at lu ⊢;clear v1 v2 hA hB lb;refine GT (enc:=BZ) 0 x.length rfl rfl (by omega) ?_;(conv=>whnf)
  (repeat' (apply CB<;>conv=>whnf))
  refine JJ (λ i _ _=>x.length-i) (λ(i:Nat) (o:List Nat) (c:Nat)=>i<=x.length/\o.length=x.length/\CP o/\c<=1/\val (o.take i)+val (y.take i)=val (x.take i)+4294967296^i*c) (λ i o c=>[(8,.int .u64 (c:Int)),(25,.int .i64 i)]) (λ i o c=>[(22,22,.rw 1 (o.map BZ))]) [] [] 0 (List.replicate x.length 0) 0 (by (conv=>whnf);exact ⟨rfl,rfl,rfl⟩) ⟨by omega,by simp,MB _,by omega,by simp [val]⟩ ?_;intro i o c ⟨p1,p2,p3,p4,p5⟩ ih;by_cases hi:i<x.length
  ·(repeat' ((first|(apply BR<;>intro hc<;>try (exfalso;omega))|(apply CE;omega)|(apply eI;omega)|(apply EG;omega)|apply IR|apply CB|(refine eK (by assumption) ?_ (λ e he hb => ?_);omega)|apply BA)<;>conv=>whnf))
   ·rename_i d hd hdb
    obtain ⟨s1,s2⟩:=Ak6 hdb hb p4;refine H9 (by omega) ?_;(conv=>whnf)
    (repeat' ((first|(apply CG;omega)|apply eH)<;>conv=>whnf))
    generalize HC (HC d c) e=t at *;refine DE [] (by (conv=>whnf);exact ⟨rfl,rfl,rfl⟩) (ih (i+1) _ _ (by omega) ⟨by omega,by simpa using p2,p3.set _ (by omega),s2,?_⟩);rw[I2 (by omega),GR hd,GR he,Nat.pow_succ];exact Ht p5 s1
   ·obtain ⟨s1,s2⟩:=Ak5 hb p4
    refine H9 (by omega) ?_;(conv=>whnf)
    (repeat' ((first|(apply CG;omega)|apply eH)<;>conv=>whnf))
    generalize HC e c=t at *;refine DE [] (by (conv=>whnf);exact ⟨rfl,rfl,rfl⟩) (ih (i+1) _ _ (by omega) ⟨by omega,by simpa using p2,p3.set _ (by omega),s2,?_⟩);rw[I2 (by omega),GR he,jZ (by omega),Nat.pow_succ];rw[<-Nat.add_zero (t%4294967296)]at s1;have:=Ht (e:=0) p5 s1
    rw[Nat.mul_zero,Nat.add_zero]at this;exact this
  ·obtain rfl:i=x.length:=by omega
   clear ih;have hc0:c=0:=by
    rw[FL (by omega),FL nn,FL (Nat.le_refl _)]at p5;have:=HS p3
    rw[p2]at this;rcases Nat.eq_zero_or_pos c with h|h
    ·exact h
    ·have:c=1:=by omega
     subst this;omega
   subst hc0;have hV:val o=val x-val y:=by
    rw[FL (by omega),FL nn,FL (Nat.le_refl _)]at p5;omega
   clear p5 p4;rw[<-p2];(repeat' ((first|(apply BR<;>intro hc<;>try (exfalso;omega))|apply BA)<;>conv=>whnf))
   refine HI 1000 N.IM rfl rfl ?_;(repeat' (apply BA<;>conv=>whnf))
   refine DG (λ n=>n) (λ(n:Nat)=>n<=(o).length /\ ∀ i,n<=i->i<(o).length->(o)[i]? = some 0) (λ n=>[(3,.int .i64 n)]) (λ_=>[]) [] [] (o).length (by first|exact (by (conv=>whnf);exact ⟨rfl,rfl,rfl⟩)|(simp only[List.length_set,List.length_replicate];exact (by (conv=>whnf);exact ⟨rfl,rfl,rfl⟩))) ⟨Nat.le_refl _,λ i h1 h2=>by omega⟩ ?_;intro n ⟨p1,p2⟩ ih;rcases n with _|n
   ·(repeat' ((first|(apply BR<;>intro hc<;>try (exfalso;omega))|apply BA)<;>conv=>whnf))
    refine JK 0 (by omega) (by omega) ?_;(conv=>whnf)
    refine ⟨rfl,_,rfl,?_⟩;(conv=>whnf)
    have hm:=p1;have w4:=JC (l:=o) (by assumption) p1 p2 (Or.inl rfl);clear ih p1 p2;(refine J0 (enc:=BZ) (λ_=>rfl) (by omega) ?_;(conv=>whnf);exact CJ (by rw[<-hV,<-w4];rfl) (by simp only[CS,true_and];exact E0 _))
   ·have e1:((n+1:Nat):Int)-1=n:=by omega
    (repeat' ((first|(apply BR<;>intro hc<;>try (exfalso;omega))|(apply CE;omega)|(apply D4;omega)|(refine WY (by assumption) ?_ (λ v hv hb => ?_);omega)|apply BA)<;>conv=>whnf))
    ·rw[e1]
     exact C6 [] (ih n (by omega) ⟨by omega,λ i h1 h2=>by
      by_cases h:i=n
      ·subst h
       rw[e1,Int.toNat_natCast]at hv;rw[hv];congr 1;omega
      ·exact p2 i (by omega) h2⟩)
    ·refine JK (n+1) (by omega) (by omega) ?_
     (conv=>whnf)
     refine ⟨rfl,_,rfl,?_⟩;(conv=>whnf)
     rw[e1,Int.toNat_natCast]at hv;have hm:=p1;have w4:=JC (l:=o) (by assumption) p1 p2 (Or.inr ⟨_,hv,by omega⟩);clear ih p1 p2 hv;(refine J0 (enc:=BZ) (λ_=>rfl) (by omega) ?_;(conv=>whnf);exact CJ (by rw[<-hV,<-w4];rfl) (by simp only[CS,true_and];exact E0 _))
theorem mM (N:c6 L) (a b:List Nat) (q1 q2:Bool) (hA:CP a) (hB:CP b) (Ju:a.length+b.length<=1099511627776):Ev L 70 [.sl q1 (a.map BZ),.sl q2 (b.map BZ)] (.sl false ((dg (val a*val b)).map BZ)):=by
 have l1:=HL hA;have l2:=HL hB;have d1:=GP (val a);have d2:=GP (val b);have v1:=DN (val a);have v2:=DN (val b);refine Ev.x N.PR rfl rfl ?_;have hz : ∀ p:Prop,((dg (val a)).length:Int)=0\/((dg (val b)).length:Int)=0->BW (.sl false []) (.sl false ((dg (val a*val b)).map BZ)):=λ_ h=>by
  have:val a*val b=0:=by
   rcases h with h|h
   ·have:dg (val a)=[]:=List.eq_nil_of_length_eq_zero (by omega)
    rw[lN.1 this,Nat.zero_mul]
   ·have:dg (val b)=[]:=List.eq_nil_of_length_eq_zero (by omega)
    rw[lN.1 this,Nat.mul_zero]
  exact CJ (by rw[this,HR];rfl) (by simp only[CS,true_and];exact E0 _)
 (repeat' ((first|(apply BR<;>intro hc<;>try (exfalso;omega))|(apply CG;omega)|apply CB|apply BA|refine NP (OD N a _ hA (by omega)) ?_|refine NP (OD N b _ hB (by omega)) ?_)<;>conv=>whnf))
 ·exact hz True (Or.inl hc)
 ·exact hz True (Or.inr hc)
 ·clear hz
  generalize dg (val a)=x at *;generalize dg (val b)=y at *;rw[<-v1,<-v2];have gk:x.length+y.length<=1099511627776:=by omega
  clear v1 v2 hA hB Ju l1 l2;refine GT (enc:=BZ) 0 (x.length+y.length) rfl (by omega) (by omega) ?_;(conv=>whnf)
  (repeat' (apply CB<;>conv=>whnf))
  refine I3 (λ i _=>x.length-i) (λ(i:Nat) (o:List Nat)=>i<=x.length/\o.length=x.length+y.length/\CP o/\val o=val (x.take i)*val y /\ ∀ k,i+y.length<=k->k<o.length->o[k]? = some 0) (λ i o=>[(34,.int .i64 i)]) (λ i o=>[(31,31,.rw 1 (o.map BZ))]) [] [] 0 (List.replicate (x.length+y.length) 0) (by (conv=>whnf);exact ⟨rfl,rfl,rfl⟩) ⟨by omega,by simp,MB _,by simp [val,kB],λ k h1 h2=>by simp at h2;simp [h2]⟩ ?_;intro i O ⟨p1,p2,p3,p4,p5⟩ ih;by_cases hi:i<x.length
  ·obtain ⟨d,hd⟩ : ∃ d,x[i]? = some d:=⟨_,zE hi⟩
   have hdb:=d1.at hd;(repeat' ((first|(apply BR<;>intro hc<;>try (exfalso;omega))|(apply CG;omega)|apply CB|(refine CX (by assumption) ?_ rfl ?_;omega)|apply BA)<;>conv=>whnf))
   ·refine DE [] (by (conv=>whnf);exact ⟨rfl,rfl,rfl⟩) (ih (i+1) O (by omega) ⟨by omega,p2,p3,?_,λ k h1 h2=>p5 k (by omega) h2⟩)
    rw[GR hd,p4,show d=0 by omega,Nat.mul_zero,Nat.add_zero]
   ·refine JJ (λ j _ _=>y.length-j) (λ(j:Nat) (o:List Nat) (c:Nat)=>j<=y.length/\o.length=x.length+y.length/\CP o/\c<4294967296/\val o+4294967296^(i+j)*c=val O+4294967296^i*(d*val (y.take j)) /\ ∀ k,i+j<=k->o[k]? = O[k]?) (λ j o c=>[(10,.int .u64 (c:Int)),(43,.int .i64 j)]) (λ j o c=>[(31,31,.rw 1 (o.map BZ))]) [] [] 0 O 0 (by (conv=>whnf);exact ⟨rfl,rfl,rfl⟩) ⟨by omega,p2,p3,by omega,by simp [val],λ_ _=>rfl⟩ ?_
    intro j o c ⟨r1,r2,r3,r4,r5,r6⟩ jh;have e1:((i:Int)+j).toNat=i+j:=by omega
    by_cases hj:j<y.length
    ·obtain ⟨w,hw⟩ : ∃ w,y[j]? = some w:=⟨_,zE hj⟩
     have hwb:=d2.at hw;have hm:=Z0 hdb hwb;(repeat' ((first|(apply BR<;>intro hc<;>try (exfalso;omega))|(apply CE;omega)|(apply CG;omega)|(apply I6;omega)|(apply UF;omega)|(apply EG;omega)|apply IR|(refine CX (by assumption) ?_ rfl ?_;omega)|(refine sH (by assumption) ?_ (λ v hv hb => ?_);omega)|apply BA)<;>conv=>whnf))
     refine eT (i+j) (by omega) (by omega) ?_;(conv=>whnf)
     (repeat' ((first|(apply CG;omega)|apply IB)<;>conv=>whnf))
     refine DE [] (by (conv=>whnf);exact ⟨rfl,rfl,rfl⟩) (jh (j+1) _ _ (by omega) ⟨by omega,by simpa using r2,r3.set _ (by omega),by omega,?_,?_⟩)
     ·have h1:=jX (v:=(d*w+v+c)%4294967296) hv
      have h2:=UR 0 (4294967296^(i+j)) (d*w+v+c);rw[GR hw,show i+(j+1)=i+j+1 by omega,Nat.pow_succ (4294967296) (i+j)];have h3:4294967296^i*(d*(val (y.take j)+4294967296^j*w))=4294967296^i*(d*val (y.take j))+4294967296^(i+j)*(d*w):=by rw[Nat.pow_add];grind
      rw[h3];generalize 4294967296^(i+j)=P at *;rw[Nat.mul_add P,Nat.mul_add P]at h2;omega
     ·intro k hk
      rw[List.getElem?_set_ne (by omega)];exact r6 k (by omega)
    ·obtain rfl:j=y.length:=by omega
     clear jh;(repeat' ((first|(apply BR<;>intro hc<;>try (exfalso;omega))|(apply CE;omega)|(apply CG;omega)|(apply G3;omega)|apply CB|apply BA)<;>conv=>whnf))
     have hz:=r6 (i+y.length) (by omega);rw[p5 (i+y.length) (by omega) (by omega)]at hz;refine eT (i+y.length) (by omega) (by omega) ?_;(conv=>whnf)
     (repeat' ((first|(apply CG;omega)|fail)<;>conv=>whnf))
     refine DE [] (by (conv=>whnf);exact ⟨rfl,rfl,rfl⟩) (ih (i+1) _ (by omega) ⟨by omega,by simpa using r2,r3.set _ (by omega),?_,?_⟩)
     ·have h1:=jX (v:=c) hz
      rw[Nat.mul_zero,Nat.add_zero]at h1;rw[h1,r5,p4,FL (Nat.le_refl _),GR hd,Nat.add_mul,Nat.mul_assoc]
     ·intro k h1 h2
      rw[List.length_set]at h2;rw[List.getElem?_set_ne (by omega),r6 k (by omega)];exact p5 k (by omega) (by omega)
  ·obtain rfl:i=x.length:=by omega
   clear ih;rw[FL (Nat.le_refl _)]at p4;rw[<-p4,<-p2];(repeat' ((first|(apply BR<;>intro hc<;>try (exfalso;omega))|apply BA)<;>conv=>whnf))
   clear p5;refine HI 1000 N.IM rfl rfl ?_;(repeat' (apply BA<;>conv=>whnf))
   refine DG (λ n=>n) (λ(n:Nat)=>n<=(O).length /\ ∀ i,n<=i->i<(O).length->(O)[i]? = some 0) (λ n=>[(3,.int .i64 n)]) (λ_=>[]) [] [] (O).length (by first|exact (by (conv=>whnf);exact ⟨rfl,rfl,rfl⟩)|(simp only[List.length_set,List.length_replicate];exact (by (conv=>whnf);exact ⟨rfl,rfl,rfl⟩))) ⟨Nat.le_refl _,λ i h1 h2=>by omega⟩ ?_;intro n ⟨p1,p2⟩ ih;rcases n with _|n
   ·(repeat' ((first|(apply BR<;>intro hc<;>try (exfalso;omega))|apply BA)<;>conv=>whnf))
    refine JK 0 (by omega) (by omega) ?_;(conv=>whnf)
    refine ⟨rfl,_,rfl,?_⟩;(conv=>whnf)
    have hm:=p1;have w4:=JC (l:=O) (by assumption) p1 p2 (Or.inl rfl);clear ih p1 p2;(refine J0 (enc:=BZ) (λ_=>rfl) (by omega) ?_;(conv=>whnf);exact CJ (by rw[<-w4];rfl) (by simp only[CS,true_and];exact E0 _))
   ·have e1:((n+1:Nat):Int)-1=n:=by omega
    (repeat' ((first|(apply BR<;>intro hc<;>try (exfalso;omega))|(apply CE;omega)|(apply D4;omega)|(refine WY (by assumption) ?_ (λ v hv hb => ?_);omega)|apply BA)<;>conv=>whnf))
    ·rw[e1]
     exact C6 [] (ih n (by omega) ⟨by omega,λ i h1 h2=>by
      by_cases h:i=n
      ·subst h
       rw[e1,Int.toNat_natCast]at hv;rw[hv];congr 1;omega
      ·exact p2 i (by omega) h2⟩)
    ·refine JK (n+1) (by omega) (by omega) ?_
     (conv=>whnf)
     refine ⟨rfl,_,rfl,?_⟩;(conv=>whnf)
     rw[e1,Int.toNat_natCast]at hv;have hm:=p1;have w4:=JC (l:=O) (by assumption) p1 p2 (Or.inr ⟨_,hv,by omega⟩);clear ih p1 p2 hv;(refine J0 (enc:=BZ) (λ_=>rfl) (by omega) ?_;(conv=>whnf);exact CJ (by rw[<-w4];rfl) (by simp only[CS,true_and];exact E0 _))
end Go.Eng

namespace Go.Eng
open F
section
variable {K:AV->Prop} {a b s:Nat} {k':IntKind}
theorem sL (hs:s<=32) (hk:K (.int .u32 ((VK a s:Nat):Int))):BD .shl .u32 (a:Int) k' (s:Int) K:=by
 refine kI (show s<=IntKind.u32.bits from hs) ?_;rw[wrap_u32,<-qA];exact hk
theorem UJ (hs:s<=64) (h:a*2^s<=18446744073709551615) (hk:K (.int .u64 ((a*2^s:Nat):Int))):BD .shl .u64 (a:Int) k' (s:Int) K:=by
 refine kI (show s<=IntKind.u64.bits from hs) ?_;rw[IntWalk.u64_in _ (by omega)];exact hk
theorem kJ (n:Nat) (hx:a%2^n=0) (hy:b<2^n) (h:a+b<=4294967295) (hk:K (.int .u32 ((a+b:Nat):Int))):BD .or .u32 (a:Int) .u32 (b:Int) K :=
 kH n hx hy (show a+b<4294967296 by omega) (IntWalk.u32_in _ (by omega)) hk
theorem Lv (n:Nat) (hx:b%2^n=0) (hy:a<2^n) (h:a+b<=4294967295) (hk:K (.int .u32 ((a+b:Nat):Int))):BD .or .u32 (a:Int) .u32 (b:Int) K:=by
 have e:F4 .or .u32 (a:Int) .u32 (b:Int)=F4 .or .u32 (b:Int) .u32 (a:Int):=by
  simp only[F4,if_true,BitVec.or_comm]
 rw[Nat.add_comm]at hk h;obtain ⟨v,h1,h2⟩:=kJ (K:=K) n hx hy h hk;exact ⟨v,by rw[e];exact h1,h2⟩
theorem Ly (hs:s<=32) (hk:K (.int .u32 ((a/2^s:Nat):Int))):BD .shr .u32 (a:Int) k' (s:Int) K:=UH (show s<=IntKind.u32.bits from hs) hk
end
attribute [local irreducible] AH BJ B1 BD E6 CF CI CY CU DX B5 DT EN GS DS CR DR EF AR CW BW pw DC DB EP EV E7 FM EZ D5 FE
set_option maxHeartbeats 1000000
variable {L:Lib}
def kG (a:List Nat) (s:Nat) (o:List Nat):Prop:=CP o/\(a.length<=o.length/\o.length<=a.length+1)/\(val a*2^s<4294967296^o.length->val o=val a*2^s)
theorem Ajz {a o:List Nat} {s lo:Nat} (hD:CP o) (hl:o.length=a.length) (h:val (o.take a.length)+4294967296^a.length*lo=val (a.take a.length)*2^s):kG a s o:=by
 refine ⟨hD,by omega,λ l6 => ?_⟩;rw[FL (by omega),FL (Nat.le_refl _)]at h;rw[hl]at l6;have:lo=0:=by
  rcases Nat.eq_zero_or_pos lo with h0|h0
  ·exact h0
  ·have:4294967296^a.length*1<=4294967296^a.length*lo:=Nat.mul_le_mul_left _ h0
   omega
 subst this;omega
theorem Ea {a o:List Nat} {s lo:Nat} (hD:CP o) (ib:lo<4294967296) (hl:o.length=a.length+1) (h:val (o.take a.length)+4294967296^a.length*lo=val (a.take a.length)*2^s):kG a s (o.set a.length lo):=by
 refine ⟨hD.set _ ib,by simp;omega,λ_ => ?_⟩;have h1:=I2 (v:=lo) (show a.length<o.length by omega);rw[FL (by simp;omega),h,FL (Nat.le_refl _)]at h1;exact h1
theorem Wo (N:c6 L) (a:List Nat) (q:Bool) (s n:Nat) (hA:CP a) (hs:s<=31) (hn:a.length<=n/\n<=a.length+1) (la:a.length<=1099511627776) : ∃ r,Ev L 71 [.sl q (a.map BZ),.int .u64 (s:Int),.int .i64 (n:Int)] r /\ ∃ o,kG a s o/\o.length=n/\r = .sl false (o.map BZ):=by
 refine Ev.xE N.M3 rfl rfl ?_;(repeat' (apply BA<;>conv=>whnf))
 refine GT (enc:=BZ) 0 n rfl rfl (by omega) ?_;(conv=>whnf)
 (repeat' (apply CB<;>conv=>whnf))
 refine JJ (λ i _ _=>a.length-i) (λ(i:Nat) (o:List Nat) (lo:Nat)=>i<=a.length/\o.length=n/\CP o/\lo<2^s/\val (o.take i)+4294967296^i*lo=val (a.take i)*2^s) (λ i o lo=>[(8,.int .u32 (lo:Int)),(15,.int .i64 i)]) (λ i o lo=>[(71012,71012,.rw 1 (o.map BZ))]) [] [] 0 (List.replicate n 0) 0 (by (conv=>whnf);exact ⟨rfl,rfl,rfl⟩) ⟨by omega,by simp,MB _,Nat.two_pow_pos s,by simp [val]⟩ ?_;intro i o lo ⟨p1,p2,p3,p4,p5⟩ ih;have ki:=dA (s:=s) (by omega);by_cases hi:i<a.length
 ·obtain ⟨d,hd⟩ : ∃ d,a[i]? = some d:=⟨_,zE hi⟩
  have hdb:=hA.at hd;obtain ⟨f1,f2,f3,f4⟩:=YK (s:=s) hdb (by omega);(repeat' ((first|(apply BR<;>intro hc<;>try (exfalso;omega))|(refine CX (by assumption) ?_ rfl ?_;omega)|apply BA)<;>conv=>whnf))
  refine sL (by omega) ?_;(conv=>whnf)
  skip
  refine kJ s f1 p4 (by omega) ?_;(conv=>whnf)
  (repeat' ((first|(apply CE;omega)|fail)<;>conv=>whnf))
  refine H9 (by omega) ?_;(conv=>whnf)
  (repeat' ((first|(apply EG;omega)|fail)<;>conv=>whnf))
  refine UJ (by omega) f4 ?_;(conv=>whnf)
  (repeat' ((first|(apply CG;omega)|apply IB|(apply G3;omega))<;>conv=>whnf))
  rw[<-YJ];refine DE [] (by (conv=>whnf);exact ⟨rfl,rfl,rfl⟩) (ih (i+1) _ _ (by omega) ⟨by omega,by simpa using p2,p3.set _ (by omega),f2,?_⟩);rw[I2 (by omega),GR hd,Nat.pow_succ];exact Eb p5
 ·obtain rfl:i=a.length:=by omega
  clear ih;(repeat' ((first|(apply BR<;>intro hc<;>try (exfalso;omega))|(apply CE;omega)|apply CB|apply BA)<;>conv=>whnf))
  ·refine H9 (by omega) ?_
   (conv=>whnf)
   skip
   refine ⟨_,?_,_,Ea p3 (by omega) (by omega) p5,by simpa using p2,rfl⟩;(conv=>whnf)
   refine GI (enc:=BZ) (λ_=>rfl) rfl (by simp [p2]) ?_;(conv=>whnf)
   exact CJ rfl (by simp only[CS,true_and];exact E0 _)
  ·refine ⟨_,?_,_,Ajz p3 (by omega) p5,p2,rfl⟩
   (conv=>whnf)
   refine GI (enc:=BZ) (λ_=>rfl) rfl (by simp [p2]) ?_;(conv=>whnf)
   exact CJ rfl (by simp only[CS,true_and];exact E0 _)
theorem Wp (N:c6 L) (a:List Nat) (q:Bool) (s:Nat) (hA:CP a) (hs:s<=31) (la:a.length<=1099511627776) : ∃ r,Ev L 72 [.sl q (a.map BZ),.int .u64 (s:Int)] r /\ ∃ o,CP o/\o.length=a.length/\val o=val a/2^s/\r = .sl false (o.map BZ):=by
 refine Ev.xE N.PZ rfl rfl ?_;(repeat' ((first|apply CB|apply BA)<;>conv=>whnf))
 refine GT (enc:=BZ) 0 a.length rfl rfl (by omega) ?_;(conv=>whnf)
 (repeat' ((first|(apply D4;omega)|apply CB)<;>conv=>whnf))
 refine JJ (λ n _ _=>n) (λ(n:Nat) (o:List Nat) (hi:Nat)=>n<=a.length/\o.length=a.length/\CP o/\hi=val (a.drop n)%2^s*2^(32-s)/\val (o.drop n)=val (a.drop n)/2^s) (λ n o hi=>[(6,.int .u32 (hi:Int)),(7,.int .i64 ((n:Int)-1))]) (λ n o hi=>[(10,10,.rw 1 (o.map BZ))]) [] [] a.length (List.replicate a.length 0) 0 (by (conv=>whnf);exact ⟨rfl,rfl,rfl⟩) ⟨by omega,by simp,MB _,by rw[List.drop_of_length_le (Nat.le_refl _)];simp [val],by rw[List.drop_of_length_le (Nat.le_refl _),List.drop_of_length_le (by simp)];simp [val]⟩ ?_;intro n o hi ⟨p1,p2,p3,p4,p5⟩ ih;rcases n with _|n
 ·(repeat' ((first|(apply BR<;>intro hc<;>try (exfalso;omega))|apply BA)<;>conv=>whnf))
  rw[List.drop_zero,List.drop_zero]at p5;refine ⟨_,?_,_,p3,p2,p5,rfl⟩;(conv=>whnf)
  refine GI (enc:=BZ) (λ_=>rfl) rfl p2.symm ?_;(conv=>whnf)
  exact CJ rfl (by simp only[CS,true_and];exact E0 _)
 ·have e1:((n+1:Nat):Int)-1=n:=by omega
  rw[e1];obtain ⟨d,hd⟩ : ∃ d,a[n]? = some d:=⟨_,zE (by omega)⟩;have hdb:=hA.at hd;obtain ⟨f1,f2,f3⟩:=Ee (V:=val (a.drop (n+1))) hdb (show s<=32 by omega);obtain ⟨g1,g2,g3,g4⟩:=YK hdb (show 32-s<=32 by omega);rw[<-p4]at f2 f3;(repeat' ((first|(apply BR<;>intro hc<;>try (exfalso;omega))|(refine CX (by assumption) ?_ rfl ?_;omega)|apply BA)<;>conv=>whnf))
  refine Ly (by omega) ?_;(conv=>whnf)
  skip
  refine Lv (32-s) f2 f1 (by omega) ?_;(conv=>whnf)
  (repeat' ((first|(apply CE;omega)|fail)<;>conv=>whnf))
  refine H9 (by omega) ?_;(conv=>whnf)
  (repeat' ((first|(apply eI;omega)|(apply EG;omega)|(refine CX (by assumption) ?_ rfl ?_;omega))<;>conv=>whnf))
  rw[show HC 32 s=32-s by rw[YU];omega];refine UJ (by omega) g4 ?_;(conv=>whnf)
  (repeat' ((first|(apply D4;omega)|apply IR)<;>conv=>whnf))
  rw[Zq (by omega)];refine DE [] (by (conv=>whnf);exact ⟨rfl,rfl,rfl⟩) (ih n _ _ (by omega) ⟨by omega,by simpa using p2,p3.set _ (by omega),?_,?_⟩)
  ·rw[KF hd,Ef (by omega)]
  ·rw[KF (l:=o.set n (d/2^s+hi)) (d:=d/2^s+hi) (by rw[List.getElem?_set_self (by omega)]),List.drop_set_of_lt (by omega),p5,KF hd,oD (by omega),<-p4]
theorem iC : ∀ n<256,(List.replicate 1 0++List.replicate 1 1++List.replicate 2 2++List.replicate 4 3++List.replicate 8 4++List.replicate 16 5++List.replicate 32 6++List.replicate 64 7++List.replicate 128 8)[n]? = some (n0 n):=by decide +kernel
theorem Ts (N:c6 L) (x:Nat) (hx:x<4294967296):Ev L 63 [.int .u32 (x:Int)] (.int .i64 (n0 x:Int)):=by
 have hbl : ∀ y<256,n0 y<=8:=λ y h=>fG (k:=8) h
 refine Ev.x N.PJ rfl rfl ?_;(repeat' ((first|(apply BR<;>intro hc<;>try (exfalso;omega))|(apply CG;omega)|apply Ls|apply Lu|(apply Ll;omega)|apply BA)<;>conv=>whnf))
 ·have zw:=hbl (x/65536/256) (by omega)
  refine eV (iC _ (by omega)) ?_;(conv=>whnf)
  (repeat' ((first|(apply CG;omega)|(apply WT;omega))<;>conv=>whnf))
  have h1:n0 (x/65536)+16=n0 x:=aW 16 (x:=x) (by omega);have h2:n0 (x/65536/256)+8=n0 (x/65536):=aW 8 (x:=x/65536) (by omega);refine FF ?_;rw[<-h1,<-h2];omega
 ·have zw:=hbl (x/65536) (by omega)
  refine eV (iC _ (by omega)) ?_;(conv=>whnf)
  (repeat' ((first|(apply CG;omega)|(apply WT;omega))<;>conv=>whnf))
  have h1:n0 (x/65536)+16=n0 x:=aW 16 (x:=x) (by omega);refine FF ?_;rw[<-h1];omega
 ·have zw:=hbl (x/256) (by omega)
  refine eV (iC _ (by omega)) ?_;(conv=>whnf)
  (repeat' ((first|(apply CG;omega)|(apply WT;omega))<;>conv=>whnf))
  have h2:n0 (x/256)+8=n0 x:=aW 8 (x:=x) (by omega);refine FF ?_;rw[<-h2];omega
 ·have zw:=hbl (x) (by omega)
  refine eV (iC _ (by omega)) ?_;(conv=>whnf)
  (repeat' ((first|(apply CG;omega)|(apply WT;omega))<;>conv=>whnf))
  refine FF ?_;omega
theorem wY (N:c6 L) (x:Nat) (hx:x<4294967296):Ev L 64 [.int .u32 (x:Int)] (.int .i64 ((32-n0 x:Nat):Int)):=by
 have h:=fG (k:=32) hx;refine Ev.x N.PI rfl rfl ?_;(repeat' ((first|(apply D4;omega)|apply BA|refine BH (Ts N x hx) ?_)<;>conv=>whnf))
 refine FF ?_;omega
end Go.Eng

namespace Go.Eng
open F
attribute [local irreducible] AH BJ B1 BD E6 CF CI CY CU DX B5 DT EN GS DS CR DR EF AR CW BW pw DC DB EP EV E7 FM EZ D5 FE
variable {L:Lib}
set_option maxHeartbeats 4000000
theorem MV (l:List Nat):CS (.sl false (l.map BZ)):=by
 simp only[CS,true_and];exact E0 l
theorem sZ {M:Mem} {v:AV} {ky t z off len s:Nat} {l:List Nat} (hv:v = .row ky t z off len) (h:c5 M ky=some (s,.rw 1 (l.map BZ))):W6 M v=none:=by
 subst hv;unfold W6;split
 ·rename_i e
  simp only[AV.row.injEq]at e;obtain ⟨rfl,_⟩:=e;rw[h];cases l with
  | nil=>rfl
  | cons a l=>cases l<;>rfl
 ·rfl
theorem JD (N:a9 L) (l:List Nat) (q:Bool) (hD:CP l) (hl:l.length<=1099511627776):Ev L 101 [.sl q (l.map BZ)] (.sl false ((dg (val l)).map BZ)):=by
 refine Ev.x N.KU rfl rfl ?_;(repeat' ((first|apply CB|apply BA)<;>conv=>whnf))
 refine DG (λ n=>n) (λ(n:Nat)=>n<=l.length /\ ∀ i,n<=i->i<l.length->l[i]? = some 0) (λ n=>[(3,.int .i64 n)]) (λ_=>[]) [] [] l.length (by (conv=>whnf);exact ⟨rfl,rfl,rfl⟩) ⟨Nat.le_refl _,λ i h1 h2=>by omega⟩ ?_;intro n ⟨p1,p2⟩ ih;rcases n with _|n
 ·have hv:=JC hD p1 p2 (Or.inl rfl)
  rw[<-hv];clear ih;(repeat' ((first|(apply BR<;>intro hc<;>try (exfalso;omega))|apply BA)<;>conv=>whnf))
  refine UK (k:=0) (λ_=>rfl) (by omega) ?_;(conv=>whnf)
  refine VQ (enc:=BZ) (λ_=>rfl) (by rw[List.length_take];omega) (by rw[List.length_take];omega) ?_;(conv=>whnf)
  (repeat' ((refine GI (λ_=>rfl) rfl ?_ ?_;(first|rfl|simp))<;>conv=>whnf))
  exact CJ rfl (MV _)
 ·have e1:((n+1:Nat):Int)-1=n:=by omega
  (repeat' ((first|(apply BR<;>intro hc<;>try (exfalso;omega))|(apply D4;omega)|(refine VU (by assumption) ?_ (λ e he hb => ?_);omega)|apply BA)<;>conv=>whnf))
  ·rw[e1]
   exact C6 [] (ih n (by omega) ⟨by omega,λ i h1 h2=>by
    by_cases h:i=n
    ·subst h
     rw[e1,Int.toNat_natCast]at he;rw[he];congr 1;omega
    ·exact p2 i (by omega) h2⟩)
  ·rw[e1,Int.toNat_natCast]at he
   have hv:=JC hD p1 p2 (Or.inr ⟨e,he,by omega⟩);rw[<-hv];clear ih;refine UK (k:=n+1) (λ_=>rfl) (by omega) ?_;(conv=>whnf)
   refine VQ (enc:=BZ) (λ_=>rfl) (by rw[List.length_take];omega) (by rw[List.length_take];omega) ?_;(conv=>whnf)
   (repeat' ((refine GI (λ_=>rfl) rfl ?_ ?_;(first|rfl|simp))<;>conv=>whnf))
   exact CJ rfl (MV _)
theorem mQ (N:a9 L) (a b:List Nat) (q1 q2:Bool) (hA:CP a) (hB:CP b) (la:a.length<=1099511627776) (lb:b.length<=1099511627776):Ev L 102 [.sl q1 (a.map BZ),.sl q2 (b.map BZ)] (.int .i64 (FI (val a) (val b))):=by
 have t1:=λ q=>JD N a q hA la
 have t2:=λ q=>JD N b q hB lb
 have l1:=HL hA;have l2:=HL hB;have d1:=GP (val a);have d2:=GP (val b);refine Ev.x N.QZ rfl rfl ?_;by_cases hlen:(dg (val a)).length=(dg (val b)).length
 ·have v1:=DN (val a)
  have v2:=DN (val b);generalize dg (val a)=X at *;generalize dg (val b)=Y at *;(repeat' ((first|(apply BR<;>intro hc<;>try (exfalso;omega))|(apply D4;omega)|apply CB|apply BA|refine BH (t1 _) ?_|refine BH (t2 _) ?_)<;>conv=>whnf))
  refine DG (λ n=>n) (λ(n:Nat)=>n<=X.length/\X.drop n=Y.drop n) (λ n=>[(5,.int .i64 ((n:Int)-1))]) (λ_=>[]) [] [] X.length (by (conv=>whnf);exact ⟨rfl,rfl,rfl⟩) ⟨Nat.le_refl _,by rw[List.drop_of_length_le (Nat.le_refl _),List.drop_of_length_le (by omega)]⟩ ?_;intro n ⟨p1,p2⟩ ih;rcases n with _|n
  ·(repeat' ((first|(apply BR<;>intro hc<;>try (exfalso;omega))|apply BA)<;>conv=>whnf))
   rw[List.drop_zero,List.drop_zero]at p2;exact FF (XA (by rw[<-v1,<-v2,p2]))
  ·have e1:((n+1:Nat):Int)-1=n:=by omega
   rw[e1];obtain ⟨x,hx⟩ : ∃ x,X[n]? = some x:=⟨_,zE (by omega)⟩;obtain ⟨y,hy⟩ : ∃ y,Y[n]? = some y:=⟨_,zE (by omega)⟩;rcases Nat.lt_trichotomy x y with h|h|h
   ·have:=jV d1 d2 hlen hx hy p2 h
    (repeat' ((first|(apply BR<;>intro hc<;>try (exfalso;omega))|(refine CX (by assumption) ?_ rfl ?_;omega)|apply BA)<;>conv=>whnf))
    exact FF (LI (by omega))
   ·subst h
    (repeat' ((first|(apply BR<;>intro hc<;>try (exfalso;omega))|(apply D4;omega)|(refine CX (by assumption) ?_ rfl ?_;omega)|apply BA)<;>conv=>whnf))
    refine DE [] (by (conv=>whnf);exact ⟨rfl,rfl,rfl⟩) (ih n (by omega) ⟨by omega,?_⟩);obtain ⟨i1,e1⟩:=zS hx;obtain ⟨i2,e2⟩:=zS hy;rw[List.drop_eq_getElem_cons i1,List.drop_eq_getElem_cons i2,p2,e1,e2]
   ·have:=jV d2 d1 hlen.symm hy hx p2.symm h
    (repeat' ((first|(apply BR<;>intro hc<;>try (exfalso;omega))|(refine CX (by assumption) ?_ rfl ?_;omega)|apply BA)<;>conv=>whnf))
    exact FF (TW (by omega))
 ·rcases Nat.lt_trichotomy (dg (val a)).length (dg (val b)).length with h1|h1|h1
  ·have:=aF h1
   (repeat' ((first|(apply BR<;>intro hc<;>try (exfalso;omega))|apply CB|apply BA|refine BH (t1 _) ?_|refine BH (t2 _) ?_)<;>conv=>whnf))
   exact FF (LI (by omega))
  ·exact absurd h1 hlen
  ·have:=aF h1
   (repeat' ((first|(apply BR<;>intro hc<;>try (exfalso;omega))|apply CB|apply BA|refine BH (t1 _) ?_|refine BH (t2 _) ?_)<;>conv=>whnf))
   exact FF (TW (by omega))
theorem rF {y:List Nat} (i:Nat):val (y.take (i+1))=val (y.take i)+4294967296^i*y.getD i 0:=by
 rcases Nat.lt_or_ge i y.length with h|h
 ·rw[GR (zE h),JN (zE h)]
 ·rw[<-getD_none h,FL h,FL (by omega)];omega
theorem xP (N:a9 L) (a b:List Nat) (q1 q2:Bool) (hA:CP a) (hB:CP b) (la:a.length<=549755813888) (lb:b.length<=549755813888):Ev L 103 [.sl q1 (a.map BZ),.sl q2 (b.map BZ)] (.sl false ((dg (val a+val b)).map BZ)):=by
 refine Ev.x N.QX rfl rfl ?_;(repeat' (apply BA<;>conv=>whnf))
 refine JJ (λ i _ _=>a.length+b.length-i) (λ(i:Nat) (o:List Nat) (c:Nat)=>(i<=a.length\/i<=b.length)/\o.length=i/\CP o/\c<=1/\val o+4294967296^i*c=val (a.take i)+val (b.take i)) (λ i o c=>[(7,.int .i64 i),(6,.int .u64 (c:Int)),(5,.row 5 0 1 0 o.length)]) (λ i o c=>[(5,5,.rw 1 (o.map BZ))]) [] [] 0 [] 0 (by (conv=>whnf);exact ⟨rfl,rfl,rfl⟩) ⟨by omega,rfl,T3,by omega,by simp [val]⟩ ?_;intro i o c ⟨p1,p2,p3,p4,p5⟩ ih;by_cases hi:i<a.length\/i<b.length
 ·have g1:=rF (y:=a) i
  have g2:=rF (y:=b) i;have k1:=V5 hA i;have k2:=V5 hB i;have hst : ∀ t,t=c+a.getD i 0+b.getD i 0->val (o++[t%4294967296])+4294967296^(i+1)*(t/4294967296)=val (a.take (i+1))+val (b.take (i+1)):=λ t ht=>by
   have h3:=UR (val o) (4294967296^i) t;rw[TF,p2,g1,g2,Nat.pow_succ];rw[h3,ht,Nat.mul_add,Nat.mul_add];omega
  by_cases h1:i<a.length
  ·obtain ⟨x,hx⟩ : ∃ x,a[i]? = some x:=⟨_,zE h1⟩
   have hxb:=hA.at hx;rw[JN hx]at hst;by_cases h2:i<b.length
   ·obtain ⟨y,hy⟩ : ∃ y,b[i]? = some y:=⟨_,zE h2⟩
    have hyb:=hB.at hy;rw[JN hy]at hst;(repeat' ((first|(apply BR<;>intro hc<;>try (exfalso;omega))|(apply I6;omega)|(apply EG;omega)|apply IR|apply CB|(refine CX (by assumption) ?_ rfl ?_;omega)|apply G0|apply BA)<;>conv=>whnf))
    refine HP (enc:=BZ) (((c+x+y)%4294967296:Nat)) rfl rfl rfl (by omega) (by omega) ?_;(conv=>whnf)
    (repeat' ((first|(apply CG;omega)|apply IB)<;>conv=>whnf))
    refine DE [(5,46)] (by (conv=>whnf);exact ⟨rfl,rfl,rfl⟩) (ih (i+1) (o++[(c+x+y)%4294967296]) ((c+x+y)/4294967296) (by omega) ⟨by omega,by simp;omega,p3.append (KN (by omega)),by omega,?_⟩);exact hst (c+x+y) (by omega)
   ·rw[<-getD_none (show b.length<=i by omega)]at hst
    (repeat' ((first|(apply BR<;>intro hc<;>try (exfalso;omega))|(apply I6;omega)|(apply EG;omega)|apply IR|apply CB|(refine CX (by assumption) ?_ rfl ?_;omega)|apply G0|apply BA)<;>conv=>whnf))
    refine HP (enc:=BZ) (((c+x)%4294967296:Nat)) rfl rfl rfl (by omega) (by omega) ?_;(conv=>whnf)
    (repeat' ((first|(apply CG;omega)|apply IB)<;>conv=>whnf))
    refine DE [(5,46)] (by (conv=>whnf);exact ⟨rfl,rfl,rfl⟩) (ih (i+1) (o++[(c+x)%4294967296]) ((c+x)/4294967296) (by omega) ⟨by omega,by simp;omega,p3.append (KN (by omega)),by omega,?_⟩);exact hst (c+x) (by omega)
  ·obtain ⟨y,hy⟩ : ∃ y,b[i]? = some y:=⟨_,zE (by omega)⟩
   have hyb:=hB.at hy;rw[JN hy,<-getD_none (show a.length<=i by omega)]at hst;(repeat' ((first|(apply BR<;>intro hc<;>try (exfalso;omega))|(apply I6;omega)|(apply EG;omega)|apply IR|apply CB|(refine CX (by assumption) ?_ rfl ?_;omega)|apply G0|apply BA)<;>conv=>whnf))
   refine HP (enc:=BZ) (((c+y)%4294967296:Nat)) rfl rfl rfl (by omega) (by omega) ?_;(conv=>whnf)
   (repeat' ((first|(apply CG;omega)|apply IB)<;>conv=>whnf))
   refine DE [(5,46)] (by (conv=>whnf);exact ⟨rfl,rfl,rfl⟩) (ih (i+1) (o++[(c+y)%4294967296]) ((c+y)/4294967296) (by omega) ⟨by omega,by simp;omega,p3.append (KN (by omega)),by omega,?_⟩);exact hst (c+y) (by omega)
 ·clear ih
  have hv:val (o++[c])=val a+val b:=by
   rw[FL (by omega),FL (by omega)]at p5;rw[TF,p2,p5]
  have hT:=λ q=>JD N (o++[c]) q (p3.append (KN (by omega))) (by simp;omega)
  rw[hv]at hT;(repeat' ((first|(apply BR<;>intro hc<;>try (exfalso;omega))|(apply G3;omega)|apply CB|apply G0|apply BA)<;>conv=>whnf))
  refine HP (enc:=BZ) c rfl rfl rfl (by omega) (by omega) ?_;(conv=>whnf)
  (repeat' ((first|(refine GI (λ_=>rfl) rfl ?_ ?_;(first|rfl|simp))|refine BH (hT _) ?_)<;>conv=>whnf))
  exact CJ rfl (MV _)
theorem fW {a b:Nat} (h:b<=a):0<=FI a b:=by unfold FI;split<;>(try split)<;>omega
theorem Akr {V Y X p d e bw have' take w y9:Nat} (h:V+Y=X+p*bw) (h1:take=bw+e) (h2:(have'=d/\y9=0/\take<=d)\/(have'=d+4294967296/\y9=1/\d<take)) (h3:w+take=have'):V+p*w+(Y+p*e)=X+p*d+p*4294967296*y9:=by
 have h4:w+bw+e=d+4294967296*y9:=by omega
 have h5:p*(w+bw+e)=p*(d+4294967296*y9):=by rw[h4]
 rw[Nat.mul_add,Nat.mul_add,Nat.mul_add,<-Nat.mul_assoc]at h5;omega
theorem Fq (N:a9 L) (x y:List Nat) (hX:CP x) (hY:CP y) (lx:x.length<=549755813888) (ly:y.length<=549755813888) (hle:val y<=val x) :
  AH L [It.lp MF.l1,It.blk 0,It.code (((C1.ops MF.x8 false).dr [1,5,6,7,21,53,54] []).seq C1.ret)]
  [(7,AV.int IntKind.i64 0),(6,AV.int IntKind.u64 0),(5,AV.row 101021 0 1 0 x.length),(1,AV.sl false (List.map BZ y))]
  [(101021,101021,CQ.rw 1 (List.map BZ x))]
  (VV MF (AV.sl false (List.map BZ (dg (val x-val y))))):=by
 refine JJ (λ i _ _=>x.length-i) (λ(i:Nat) (o:List Nat) (bw:Nat)=>i<=x.length/\o.length=x.length/\CP o/\bw<=1/\o.drop i=x.drop i/\val (o.take i)+val (y.take i)=val (x.take i)+4294967296^i*bw) (λ i o bw=>[(7,.int .i64 i),(6,.int .u64 (bw:Int))]) (λ i o bw=>[(101021,101021,.rw 1 (o.map BZ))]) [] [] 0 x 0 (by (conv=>whnf);exact ⟨rfl,rfl,rfl⟩) ⟨by omega,rfl,hX,by omega,rfl,by simp [val]⟩ ?_;intro i o bw ⟨p1,p2,p3,p4,p5,p6⟩ ih;by_cases hi:i<x.length
 ·obtain ⟨d,hd⟩ : ∃ d,o[i]? = some d:=⟨_,zE (by omega)⟩
  have hdb:=p3.at hd;have hxi:x[i]? = some d:=by
   have e1:(o.drop i)[0]? = (x.drop i)[0]? := by rw[p5]
   simpa [hd] using e1.symm
  have g1:=GR hxi;have g2:=rF (y:=y) i;have ge:=V5 hY i;have hst : ∀ have' take w y9,take=bw+y.getD i 0->((have'=d/\y9=0/\take<=d)\/(have'=d+4294967296/\y9=1/\d<take))->w+take=have'->val ((o.set i w).take (i+1))+val (y.take (i+1))=val (x.take (i+1))+4294967296^(i+1)*y9:=λ have' take w y9 a1 a2 a3=>by
   rw[I2 (by omega),g1,g2,Nat.pow_succ];exact Akr p6 a1 a2 a3
  have ix : ∀ w,(o.set i w).drop (i+1)=x.drop (i+1):=λ w=>by
   rw[List.drop_set_of_lt (by omega)];have e1:(o.drop i).drop 1=(x.drop i).drop 1:=by rw[p5]
   simpa using e1
  by_cases hy:i<y.length
  ·obtain ⟨e,he⟩ : ∃ e,y[i]? = some e:=⟨_,zE hy⟩
   have Ab:=hY.at he;rw[JN he]at hst;by_cases l6:d<bw+e
   ·have h3:=hst (d+4294967296) (bw+e) (d+4294967296-(bw+e)) 1 (by omega) (Or.inr ⟨rfl,rfl,l6⟩) (by omega)
    (repeat' ((first|(apply BR<;>intro hc<;>try (exfalso;omega))|(apply CE;omega)|(apply I6;omega)|(apply L2;omega;omega)|(apply eE;omega)|(apply EG;omega)|(apply G3;omega)|apply CB|(refine CX (by assumption) ?_ rfl ?_;omega)|refine MP (by assumption) ?_|apply BA)<;>conv=>whnf))
    refine H9 (by omega) ?_;(conv=>whnf)
    (repeat' ((first|(apply CG;omega)|fail)<;>conv=>whnf))
    exact DE [] (by (conv=>whnf);exact ⟨rfl,rfl,rfl⟩) (ih (i+1) (o.set i (d+4294967296-(bw+e))) 1 (by omega) ⟨by omega,by simpa using p2,p3.set _ (by omega),by omega,ix _,h3⟩)
   ·have h3:=hst d (bw+e) (d-(bw+e)) 0 (by omega) (Or.inl ⟨rfl,rfl,by omega⟩) (by omega)
    (repeat' ((first|(apply BR<;>intro hc<;>try (exfalso;omega))|(apply CE;omega)|(apply I6;omega)|(apply L2;omega;omega)|(apply EG;omega)|(apply G3;omega)|apply CB|(refine CX (by assumption) ?_ rfl ?_;omega)|refine MP (by assumption) ?_|apply BA)<;>conv=>whnf))
    refine H9 (by omega) ?_;(conv=>whnf)
    (repeat' ((first|(apply CG;omega)|fail)<;>conv=>whnf))
    exact DE [] (by (conv=>whnf);exact ⟨rfl,rfl,rfl⟩) (ih (i+1) (o.set i (d-(bw+e))) 0 (by omega) ⟨by omega,by simpa using p2,p3.set _ (by omega),by omega,ix _,h3⟩)
  ·rw[<-getD_none (show y.length<=i by omega)]at hst
   by_cases l6:d<bw
   ·have h3:=hst (d+4294967296) (bw) (d+4294967296-(bw)) 1 (by omega) (Or.inr ⟨rfl,rfl,l6⟩) (by omega)
    (repeat' ((first|(apply BR<;>intro hc<;>try (exfalso;omega))|(apply CE;omega)|(apply L2;omega;omega)|(apply eE;omega)|(apply EG;omega)|(apply G3;omega)|apply CB|refine MP (by assumption) ?_|apply BA)<;>conv=>whnf))
    refine H9 (by omega) ?_;(conv=>whnf)
    (repeat' ((first|(apply CG;omega)|fail)<;>conv=>whnf))
    exact DE [] (by (conv=>whnf);exact ⟨rfl,rfl,rfl⟩) (ih (i+1) (o.set i (d+4294967296-(bw))) 1 (by omega) ⟨by omega,by simpa using p2,p3.set _ (by omega),by omega,ix _,h3⟩)
   ·have h3:=hst d (bw) (d-(bw)) 0 (by omega) (Or.inl ⟨rfl,rfl,by omega⟩) (by omega)
    (repeat' ((first|(apply BR<;>intro hc<;>try (exfalso;omega))|(apply CE;omega)|(apply L2;omega;omega)|(apply EG;omega)|(apply G3;omega)|apply CB|refine MP (by assumption) ?_|apply BA)<;>conv=>whnf))
    refine H9 (by omega) ?_;(conv=>whnf)
    (repeat' ((first|(apply CG;omega)|fail)<;>conv=>whnf))
    exact DE [] (by (conv=>whnf);exact ⟨rfl,rfl,rfl⟩) (ih (i+1) (o.set i (d-(bw))) 0 (by omega) ⟨by omega,by simpa using p2,p3.set _ (by omega),by omega,ix _,h3⟩)
 ·obtain rfl:i=x.length:=by omega
  clear ih;rw[FL (by omega),FL (Nat.le_refl _)]at p6;have h1:=HS p3;rw[p2]at h1;have h2:val (y.take x.length)<=val y:=by have:=YT y x.length;omega
  have ou:bw=0:=by
   rcases Nat.eq_zero_or_pos bw with h|h
   ·exact h
   ·have:bw=1:=by omega
    subst this;omega
  subst ou;have hve:val (y.take x.length)=val y:=by
   have h3:=YT y x.length;rcases Nat.eq_zero_or_pos (val (y.drop x.length)) with h|h
   ·rw[h]at h3;omega
   ·have h4:4294967296^x.length*1<=4294967296^x.length*val (y.drop x.length):=Nat.mul_le_mul_left _ h
    have h5:=HS hX;omega
  have hv:val o=val x-val y:=by omega
  have hT:=λ q=>JD N o q p3 (by omega)
  rw[<-hv,<-p2];(repeat' ((first|(apply BR<;>intro hc<;>try (exfalso;omega))|(refine GI (λ_=>rfl) rfl ?_ ?_;(first|rfl|simp))|apply BA|refine BH (hT _) ?_)<;>conv=>whnf))
  exact CJ rfl (MV _)
theorem mR (N:a9 L) (a b:List Nat) (q1 q2:Bool) (hA:CP a) (hB:CP b) (la:a.length<=549755813888) (lb:b.length<=549755813888):Ev L 104 [.sl q1 (a.map BZ),.sl q2 (b.map BZ)] (.sl false ((dg (val a-val b)).map BZ)):=by
 have g8:=λ q q'=>mQ N a b q q' hA hB (by omega) (by omega)
 have t2:=λ q=>JD N b q hB (by omega)
 refine Ev.x N.MF rfl rfl ?_;by_cases l6:val a<val b
 ·rw[<-LI (by omega)]at g8
  rw[show val a-val b=0 by omega,HR];(repeat' ((first|(apply BR<;>intro hc<;>try (exfalso;omega))|apply BA|refine BH (g8 _ _) ?_)<;>conv=>whnf))
  exact CJ rfl (MV [])
 ·have gb:=fW (show val b<=val a by omega)
  generalize FI (val a) (val b)=cm at *;have d2:=GP (val b);have v2:=DN (val b);have l2:=HL hB;rw[<-v2];rw[<-v2]at l6;generalize dg (val b)=y at *;have hdg : ∀ n,a.take n=dg (val a)->val (a.take n)=val a:=λ n h=>by rw[h,DN]
  (repeat' ((first|(apply BR<;>intro hc<;>try (exfalso;omega))|apply BA|refine BH (g8 _ _) ?_|refine BH (t2 _) ?_)<;>conv=>whnf))
  refine HI 1000 N.KU rfl rfl ?_;(repeat' ((first|apply CB|apply BA)<;>conv=>whnf))
  refine DG (λ n=>n) (λ(n:Nat)=>n<=a.length /\ ∀ i,n<=i->i<a.length->a[i]? = some 0) (λ n=>[(3,.int .i64 n)]) (λ_=>[]) [] [] a.length (by (conv=>whnf);exact ⟨rfl,rfl,rfl⟩) ⟨Nat.le_refl _,λ i h1 h2=>by omega⟩ ?_;intro n ⟨p1,p2⟩ ih;rcases n with _|n
  ·have hv:=hdg _ (JC hA p1 p2 (Or.inl rfl))
   clear ih;(repeat' ((first|(apply BR<;>intro hc<;>try (exfalso;omega))|apply BA)<;>conv=>whnf))
   refine UK (k:=0) (λ_=>rfl) (by omega) ?_;(conv=>whnf)
   refine VQ (enc:=BZ) (λ_=>rfl) (by rw[List.length_take];omega) (by rw[List.length_take];omega) ?_;(conv=>whnf)
   refine ⟨rfl,_,rfl,?_⟩;(conv=>whnf)
   skip
   rw[<-hv];exact DE [] (by (conv=>whnf);exact ⟨rfl,rfl,rfl⟩) (Fq N (a.take 0) y (hA.take _) d2 (by simp) (by omega) (by omega))
  ·have e1:((n+1:Nat):Int)-1=n:=by omega
   (repeat' ((first|(apply BR<;>intro hc<;>try (exfalso;omega))|(apply D4;omega)|(refine VU (by assumption) ?_ (λ e he hb => ?_);omega)|apply BA)<;>conv=>whnf))
   ·rw[e1]
    exact C6 [] (ih n (by omega) ⟨by omega,λ i h1 h2=>by
     by_cases h:i=n
     ·subst h
      rw[e1,Int.toNat_natCast]at he;rw[he];congr 1;omega
     ·exact p2 i (by omega) h2⟩)
   ·rw[e1,Int.toNat_natCast]at he
    have hv:=hdg _ (JC hA p1 p2 (Or.inr ⟨_,he,by omega⟩));clear ih;refine UK (k:=n+1) (λ_=>rfl) (by omega) ?_;(conv=>whnf)
    refine VQ (enc:=BZ) (λ_=>rfl) (by rw[List.length_take];omega) (by rw[List.length_take];omega) ?_;(conv=>whnf)
    refine ⟨rfl,_,rfl,?_⟩;(conv=>whnf)
    skip
    rw[<-hv];exact DE [] (by (conv=>whnf);exact ⟨rfl,rfl,rfl⟩) (Fq N (a.take (n+1)) y (hA.take _) d2 (by rw[List.length_take];omega) (by omega) (by omega))
theorem Vd (N:a9 L) (x y:List Nat) (q1 q2:Bool) (hA:CP x) (hB:CP y) (Ju:x.length+y.length<=549755813888):Ev L 105 [.sl q1 (x.map BZ),.sl q2 (y.map BZ)] (.sl false ((dg (val x*val y)).map BZ)):=by
 refine Ev.x N.Q2 rfl rfl ?_;(repeat' ((first|(apply CG;omega)|apply CB|apply BA)<;>conv=>whnf))
 refine GT (enc:=BZ) 0 (x.length+y.length+1) rfl (by omega) (by omega) ?_;(conv=>whnf)
 skip
 refine I3 (λ i _=>x.length-i) (λ(i:Nat) (o:List Nat)=>i<=x.length/\o.length=x.length+y.length+1/\CP o/\val o=val (x.take i)*val y /\ ∀ k,i+y.length<=k->k<o.length->o[k]? = some 0) (λ i o=>[(6,.int .i64 i)]) (λ i o=>[(15,15,.rw 1 (o.map BZ))]) [] [] 0 (List.replicate (x.length+y.length+1) 0) (by (conv=>whnf);exact ⟨rfl,rfl,rfl⟩) ⟨by omega,by simp,MB _,by simp [val,kB],λ k h1 h2=>by simp at h2;simp [h2]⟩ ?_;intro i O ⟨p1,p2,p3,p4,p5⟩ ih;by_cases hi:i<x.length
 ·obtain ⟨d,hd⟩ : ∃ d,x[i]? = some d:=⟨_,zE hi⟩
  have hdb:=hA.at hd;(repeat' ((first|(apply BR<;>intro hc<;>try (exfalso;omega))|apply CB|apply BA)<;>conv=>whnf))
  refine JJ (λ j _ _=>y.length-j) (λ(j:Nat) (o:List Nat) (c:Nat)=>j<=y.length/\o.length=x.length+y.length+1/\CP o/\c<4294967296/\val o+4294967296^(i+j)*c=val O+4294967296^i*(d*val (y.take j)) /\ ∀ k,i+j<=k->o[k]? = O[k]?) (λ j o c=>[(7,.int .u64 (c:Int)),(8,.int .i64 j)]) (λ j o c=>[(15,15,.rw 1 (o.map BZ))]) [] [] 0 O 0 (by (conv=>whnf);exact ⟨rfl,rfl,rfl⟩) ⟨by omega,p2,p3,by omega,by simp [val],λ_ _=>rfl⟩ ?_;intro j o c ⟨r1,r2,r3,r4,r5,r6⟩ jh;have e1:((i:Int)+j).toNat=i+j:=by omega
  by_cases hj:j<y.length
  ·obtain ⟨w,hw⟩ : ∃ w,y[j]? = some w:=⟨_,zE hj⟩
   have hwb:=hB.at hw;have hm:=Z0 hdb hwb;(repeat' ((first|(apply BR<;>intro hc<;>try (exfalso;omega))|(apply CE;omega)|(apply CG;omega)|(apply I6;omega)|(apply UF;omega)|(apply EG;omega)|apply IR|apply CB|(refine CX (by assumption) ?_ rfl ?_;omega)|(refine sH (by assumption) ?_ (λ v hv hb => ?_);omega)|apply BA)<;>conv=>whnf))
   refine eT (i+j) (by omega) (by omega) ?_;(conv=>whnf)
   (repeat' ((first|(apply CG;omega)|apply IB)<;>conv=>whnf))
   refine DE [] (by (conv=>whnf);exact ⟨rfl,rfl,rfl⟩) (jh (j+1) _ _ (by omega) ⟨by omega,by simpa using r2,r3.set _ (by omega),by omega,?_,?_⟩)
   ·have h1:=jX (v:=(c+(d*w+v))%4294967296) hv
    have h2:=UR 0 (4294967296^(i+j)) (c+(d*w+v));rw[GR hw,show i+(j+1)=i+j+1 by omega,Nat.pow_succ (4294967296) (i+j)];have h3:4294967296^i*(d*(val (y.take j)+4294967296^j*w))=4294967296^i*(d*val (y.take j))+4294967296^(i+j)*(d*w):=by rw[Nat.pow_add];grind
    rw[h3];generalize 4294967296^(i+j)=P at *;rw[Nat.mul_add P c,Nat.mul_add P]at h2;omega
   ·intro k hk
    rw[List.getElem?_set_ne (by omega)];exact r6 k (by omega)
  ·obtain rfl:j=y.length:=by omega
   clear jh;have hz:=r6 (i+y.length) (by omega);rw[p5 (i+y.length) (by omega) (by omega)]at hz;(repeat' ((first|(apply BR<;>intro hc<;>try (exfalso;omega))|(apply CE;omega)|(apply CG;omega)|(apply G3;omega)|apply CB|apply BA)<;>conv=>whnf))
   refine eT (i+y.length) (by omega) (by omega) ?_;(conv=>whnf)
   (repeat' ((first|(apply CG;omega)|fail)<;>conv=>whnf))
   refine DE [] (by (conv=>whnf);exact ⟨rfl,rfl,rfl⟩) (ih (i+1) _ (by omega) ⟨by omega,by simpa using r2,r3.set _ (by omega),?_,?_⟩)
   ·have h1:=jX (v:=c) hz
    rw[Nat.mul_zero,Nat.add_zero]at h1;rw[h1,r5,p4,FL (Nat.le_refl _),GR hd,Nat.add_mul,Nat.mul_assoc]
   ·intro k h1 h2
    rw[List.length_set]at h2;rw[List.getElem?_set_ne (by omega),r6 k (by omega)];exact p5 k (by omega) (by omega)
 ·obtain rfl:i=x.length:=by omega
  clear ih;rw[FL (Nat.le_refl _)]at p4;have hT:=λ q=>JD N O q p3 (by omega)
  rw[p4]at hT;rw[<-p2];(repeat' ((first|(apply BR<;>intro hc<;>try (exfalso;omega))|apply CB|(refine GI (λ_=>rfl) rfl ?_ ?_;(first|rfl|simp))|apply BA|refine BH (hT _) ?_)<;>conv=>whnf))
  exact CJ rfl (MV _)
theorem Ql {d:Nat} (h0:d≠0) (hd:d<4294967296):dg d=[d]:=by
 rw[L5 h0,Nat.div_eq_of_lt hd,HR,Nat.mod_eq_of_lt hd]
theorem Vb (N:a9 L) (d:Nat) (q:Bool) (h0:d≠0) (hd:d<4294967296):Ev L 106 [.sl q ([d].map BZ)] (.int .i64 (n0 d:Int)):=by
 have hT:=λ q=>JD N [d] q (KN hd) (by simp)
 rw[show val [d]=d by simp [val],Ql h0 hd]at hT;have nn:[d].length=1:=rfl;have nk:[d][(([d].length:Int)-1).toNat]? = some d:=rfl;have hb:=fG (k:=32) hd;refine Ev.x N.QY rfl rfl ?_;(repeat' ((first|(apply BR<;>intro hc<;>try (exfalso;omega))|(apply D4;omega)|(apply NQ;omega)|apply CB|(refine CX (by assumption) ?_ rfl ?_;omega)|apply BA|refine BH (hT _) ?_)<;>conv=>whnf))
 refine I3 (λ_ x=>x) (λ(n x:Nat)=>n+n0 x=n0 d/\x<=d) (λ n x=>[(3,.int .i64 n),(4,.int .u32 (x:Int))]) (λ_ _=>[]) [] [] 0 d (by (conv=>whnf);exact ⟨rfl,rfl,rfl⟩) ⟨by omega,Nat.le_refl _⟩ ?_;intro n x ⟨p1,p2⟩ ih;by_cases hx:x=0
 ·subst hx
  have:n0 0=0:=by unfold n0;simp
  (repeat' ((first|(apply BR<;>intro hc<;>try (exfalso;omega))|apply BA)<;>conv=>whnf))
  exact FF (by omega)
 ·have h1:n0 (x/2)+1=n0 x:=by
   by_cases h1:x=1
   ·subst h1;decide
   ·exact aW 1 (x:=x) (by omega)
  (repeat' ((first|(apply BR<;>intro hc<;>try (exfalso;omega))|(apply CG;omega)|apply Lr|apply BA)<;>conv=>whnf))
  exact C6 [] (ih (n+1) (x/2) (by omega) ⟨by omega,by omega⟩)
theorem Gv {V P X lo s d p t:Nat} (h:V+P*p*lo=P*(X*2^s)) (ht:t=lo+d*2^s):V+P*p*(t%4294967296)+P*p*4294967296*(t/4294967296)=P*((X+p*d)*2^s):=by
 have h1:=UR V (P*p) t;rw[h1,ht];have:P*((X+p*d)*2^s)=P*(X*2^s)+P*p*(d*2^s):=by grind
 rw[this,<-h,Nat.mul_add];omega
theorem xS (N:a9 L) (l:List Nat) (q:Bool) (n:Nat) (hD:CP l) (hl:l.length<=549755813888) (hn:n<=65536):Ev L 107 [.sl q (l.map BZ),.int .i64 (n:Int)] (.sl false ((dg (val l*2^n)).map BZ)):=by
 have hT:=λ q=>JD N l q hD (by omega)
 have d1:=GP (val l);have v1:=DN (val l);have l1:=HL hD;have hz:=LJ (val l);refine Ev.x N.LS rfl rfl ?_;by_cases h0:val l=0
 ·rw[h0,Nat.zero_mul,HR]
  (repeat' ((first|(apply BR<;>intro hc<;>try (exfalso;omega))|apply CB|apply BA|refine BH (hT _) ?_)<;>conv=>whnf))
  exact CJ rfl (MV [])
 rw[<-v1];generalize dg (val l)=x at *;have ag:n%32<32:=Nat.mod_lt _ (by omega);have e1:(n:Int)/32=((n/32:Nat):Int):=by omega
 have e2:(n:Int)%32=((n%32:Nat):Int):=by omega
 (repeat' ((first|(apply BR<;>intro hc<;>try (exfalso;omega))|(refine W2 ?_ ?_ (λ_ => ?_) (λ_ _ => ?_);omega;omega;all_goals try (exfalso;omega))|apply CB|apply BA|refine BH (hT _) ?_)<;>conv=>whnf))
 rw[e1];refine GT (enc:=BZ) 0 (n/32) rfl rfl (by omega) ?_;(conv=>whnf)
 skip
 refine JJ (λ i _ _=>x.length-i) (λ(i:Nat) (o:List Nat) (c:Nat)=>i<=x.length/\o.length=n/32+i/\CP o/\c<2^(n%32)/\val o+4294967296^(n/32)*4294967296^i*c=4294967296^(n/32)*(val (x.take i)*2^(n%32))) (λ i o c=>[(10,.int .i64 i),(9,.int .u64 (c:Int)),(8,.row 107069 0 1 0 (n/32+i))]) (λ i o c=>[(107069,107069,.rw 1 (o.map BZ))]) [] [] 0 (List.replicate (n/32) 0) 0 (by (conv=>whnf);exact ⟨rfl,rfl,rfl⟩) ⟨by omega,by simp,MB _,Nat.two_pow_pos _,by simp [val,kB]⟩ ?_;intro i o c ⟨p1,p2,p3,p4,p5⟩ ih;have ki:=dA (s:=n%32) (by omega);by_cases hi:i<x.length
 ·obtain ⟨d,hd⟩ : ∃ d,x[i]? = some d:=⟨_,zE hi⟩
  have hdb:=d1.at hd;obtain ⟨f1,f2,f3,f4⟩:=YK (s:=n%32) hdb (by omega);have hr:=iJ (show n%32<=64 by omega) f4;(repeat' ((first|(apply BR<;>intro hc<;>try (exfalso;omega))|(refine Y6 ?_ (λ_ _ _ => ?_) (λ_ _ _ _ => ?_);omega;all_goals try (exfalso;omega))|(apply EG;omega)|apply CB|(refine CX (by assumption) ?_ rfl ?_;omega)|apply BA)<;>conv=>whnf))
  rw[e2];refine UJ (by omega) f4 ?_;(conv=>whnf)
  skip
  refine eF (n%32) (Nat.mul_mod_left _ _) p4 (by omega) ?_;(conv=>whnf)
  have hst:=Gv (d:=d) p5 rfl;have hc2:(c+d*2^(n%32))/4294967296<2^(n%32):=by
   rw[Nat.div_lt_iff_lt_mul (by omega)];have:=Nat.mul_le_mul_right (2^(n%32)) (show d<=4294967295 by omega)
   omega
  generalize c+d*2^(n%32)=t at *;(repeat' ((first|apply IR|apply G0)<;>conv=>whnf))
  refine HP (enc:=BZ) (t%4294967296) rfl p2.symm rfl (by omega) (by omega) ?_;(conv=>whnf)
  (repeat' ((first|(apply CG;omega)|apply IB)<;>conv=>whnf))
  rw[show (o++[t%4294967296]).length=n/32+(i+1) by simp [p2];omega];refine DE [(107069,107091)] (by (conv=>whnf);exact ⟨rfl,rfl,rfl⟩) (ih (i+1) (o++[t%4294967296]) (t/4294967296) (by omega) ⟨by omega,by simp;omega,p3.append (KN (by omega)),hc2,?_⟩);rw[TF,p2,GR hd,Nat.pow_add,Nat.pow_succ,<-Nat.mul_assoc];exact hst
 ·obtain rfl:i=x.length:=by omega
  clear ih;have hcb:c<4294967296:=by omega
  have hOD:CP (o++[c]):=p3.append (KN hcb);have ug:val (o++[c])=val x*2^n:=by
   rw[TF,p2,Nat.pow_add,p5,FL (Nat.le_refl _)];have e3:2^n=4294967296^(n/32)*2^(n%32):=by
    rw[show 4294967296=2^32 from rfl,<-Nat.pow_mul,<-Nat.pow_add];congr 1;omega
   rw[e3];grind
  have uf:(o++[c]).length=n/32+x.length+1:=by simp [p2]
  (repeat' ((first|(apply BR<;>intro hc<;>try (exfalso;omega))|(apply G3;omega)|apply CB|apply G0|apply BA)<;>conv=>whnf))
  refine HP (enc:=BZ) c rfl p2.symm rfl (by omega) (by omega) ?_;(conv=>whnf)
  rw[<-ug,uf];generalize o++[c]=O at *;rw[<-uf];clear p3 p4 p5 ug;refine HI 1000 N.KU rfl rfl ?_;(repeat' (apply BA<;>conv=>whnf))
  refine DG (λ n=>n) (λ(n:Nat)=>n<=(O).length /\ ∀ i,n<=i->i<(O).length->(O)[i]? = some 0) (λ n=>[(3,.int .i64 n)]) (λ_=>[]) [] [] (O).length (by (conv=>whnf);exact ⟨rfl,rfl,rfl⟩) ⟨Nat.le_refl _,λ i h1 h2=>by omega⟩ ?_;intro n ⟨p1,p2⟩ ih;rcases n with _|n
  ·(repeat' ((first|(apply BR<;>intro hc<;>try (exfalso;omega))|apply BA)<;>conv=>whnf))
   refine JK 0 (by omega) (by omega) ?_;(conv=>whnf)
   have w4:=JC (l:=O) (by assumption) p1 p2 (Or.inl rfl);have hcl:(List.take 0 O).length<=(O).length:=by rw[List.length_take];omega
   clear ih p2;refine eP (enc:=BZ) (by omega) ?_;(conv=>whnf)
   rw[List.drop_zero,Nat.sub_zero];generalize hT0:List.take 0 O=T0 at *;refine VQ (enc:=BZ) (λ_=>rfl) (by omega) (by omega) ?_;(conv=>whnf)
   refine ⟨rfl,_,rfl,?_⟩;(conv=>whnf)
   (refine GI (enc:=BZ) (λ_=>rfl) rfl rfl ?_;(conv=>whnf);exact CJ (by rw[<-w4]) (MV _))
  ·have e1:((n+1:Nat):Int)-1=n:=by omega
   (repeat' ((first|(apply BR<;>intro hc<;>try (exfalso;omega))|(apply CE;omega)|(apply D4;omega)|(refine WY (by assumption) ?_ (λ v hv hb => ?_);omega)|apply BA)<;>conv=>whnf))
   ·rw[e1]
    exact C6 [] (ih n (by omega) ⟨by omega,λ i h1 h2=>by
     by_cases h:i=n
     ·subst h
      rw[e1,Int.toNat_natCast]at hv;rw[hv];congr 1;omega
     ·exact p2 i (by omega) h2⟩)
   ·refine JK (n+1) (by omega) (by omega) ?_
    (conv=>whnf)
    rw[e1,Int.toNat_natCast]at hv;have w4:=JC (l:=O) (by assumption) p1 p2 (Or.inr ⟨_,hv,by omega⟩);have hcl:(List.take (n+1) O).length<=(O).length:=by rw[List.length_take];omega
    clear ih p2 hv;(rw[sZ (l:=O)];rotate_left;exact rfl;exact rfl);(conv=>whnf)
    refine eP (enc:=BZ) (by omega) ?_;(conv=>whnf)
    rw[List.drop_zero,Nat.sub_zero];generalize hT0:List.take (n+1) O=T0 at *;refine VQ (enc:=BZ) (λ_=>rfl) (by omega) (by omega) ?_;(conv=>whnf)
    refine ⟨rfl,_,rfl,?_⟩;(conv=>whnf)
    (refine GI (enc:=BZ) (λ_=>rfl) rfl rfl ?_;(conv=>whnf);exact CJ (by rw[<-w4]) (MV _))
theorem Alp {l:List Nat} (hD:CP l) (k:Nat) (hk:k<=l.length):val (l.drop k)=val l/4294967296^k:=by
 have h1:=NL l k hk;have h2:=HS (hD.take k);rw[List.length_take,Nat.min_eq_left hk]at h2;rw[h1,Nat.add_mul_div_left _ _ (Nat.pow_pos (by omega)),Nat.div_eq_of_lt h2,Nat.zero_add]
theorem Zm (n:Nat):2^n=4294967296^(n/32)*2^(n%32):=by
 rw[show 4294967296=2^32 from rfl,<-Nat.pow_mul,<-Nat.pow_add];congr 1;omega
theorem Us {d e V r:Nat} (hd:d<4294967296) (hr:r<32):(d+e*4294967296)/2^r%4294967296+4294967296*((e+4294967296*V)/2^r)=(d+4294967296*(e+4294967296*V))/2^r:=by
 obtain ⟨f1,f2,f3⟩:=Ee (V:=e) hd (show r<=32 by omega);rw[oD (d:=d) (V:=e+4294967296*V) (by omega),Ef (d:=e) (V:=V) (by omega)];have h1:=oD (d:=d) (V:=e) (s:=r) (by omega);rw[show d+e*4294967296=d+4294967296*e by omega,h1];clear h1;generalize d/2^r=A at *;generalize e%2^r*2^(32-r)=Q at *;generalize e/2^r=Z at *;generalize 2^(32-r)=P at *;omega
theorem Ve (N:a9 L) (l:List Nat) (q:Bool) (n:Nat) (hD:CP l) (hl:l.length<=549755813888) (hn:1<=n/\n<=65536):Ev L 107 [.sl q (l.map BZ),.int .i64 (-(n:Int))] (.sl false ((dg (val l/2^n)).map BZ)):=by
 have hT:=λ q=>JD N l q hD (by omega)
 have d1:=GP (val l);have v1:=DN (val l);have l1:=HL hD;have hz:=LJ (val l);refine Ev.x N.LS rfl rfl ?_;by_cases h0:val l=0
 ·rw[h0,Nat.zero_div,HR]
  (repeat' ((first|(apply BR<;>intro hc<;>try (exfalso;omega))|apply CB|apply BA|refine BH (hT _) ?_)<;>conv=>whnf))
  exact CJ rfl (MV [])
 rw[<-v1];generalize dg (val l)=x at *;have Ay:n%32<32:=Nat.mod_lt _ (by omega);have e1:(- -(n:Int))/32=((n/32:Nat):Int):=by omega
 have e2:(- -(n:Int))%32=((n%32:Nat):Int):=by omega
 by_cases AnU:32*x.length<n
 ·have l6:val x/2^n=0:=by
   refine Nat.div_eq_of_lt (Nat.lt_of_lt_of_le (HS d1) ?_);rw[show 4294967296=2^32 from rfl,<-Nat.pow_mul];exact Nat.pow_le_pow_right (by omega) (by omega)
  rw[l6,HR];(repeat' ((first|(apply BR<;>intro hc<;>try (exfalso;omega))|(apply NQ;omega)|apply CB|apply BA|refine BH (hT _) ?_)<;>conv=>whnf))
  exact CJ rfl (MV [])
 have hk:n/32<=x.length:=by omega
 have hvd:=Alp d1 _ hk;(repeat' ((first|(apply BR<;>intro hc<;>try (exfalso;omega))|(apply NQ;omega)|(refine W2 ?_ ?_ (λ_ => ?_) (λ_ _ => ?_);omega;omega;all_goals try (exfalso;omega))|(apply E6.neg;omega)|apply CB|apply BA|refine BH (hT _) ?_)<;>conv=>whnf))
 rw[e1];refine I3 (λ i _=>x.length-i) (λ(i:Nat) (o:List Nat)=>n/32<=i/\i<=x.length/\o.length=i-n/32/\CP o/\val o+4294967296^(i-n/32)*(val (x.drop i)/2^(n%32))=val (x.drop (n/32))/2^(n%32)) (λ i o=>[(6,.int .i64 i),(5,.row 107005 0 1 0 o.length)]) (λ i o=>[(107005,107005,.rw 1 (o.map BZ))]) [] [] (n/32) [] (by (conv=>whnf);exact ⟨rfl,rfl,rfl⟩) ⟨Nat.le_refl _,hk,by simp,T3,by simp [val]⟩ ?_;intro i o ⟨p0,p1,p2,p3,p5⟩ ih;by_cases hi:i<x.length
 ·obtain ⟨d,hd⟩ : ∃ d,x[i]? = some d:=⟨_,zE hi⟩
  have hdb:=d1.at hd;have g1:=KF hd;have g2:=YS x (i+1);have g3:=Us (e:=x.getD (i+1) 0) (V:=val (x.drop (i+1+1))) hdb Ay;rw[<-g2,<-g1]at g3;have key : ∀ t,t=d+x.getD (i+1) 0*4294967296->val (o++[t/2^(n%32)%4294967296])+4294967296^(i+1-n/32)*(val (x.drop (i+1))/2^(n%32))=val (x.drop (n/32))/2^(n%32):=λ t ht=>by
   rw[TF,p2,show i+1-n/32=(i-n/32)+1 by omega,Nat.pow_succ,ht,Nat.add_assoc,Nat.mul_assoc,<-Nat.mul_add,g3];exact p5
  by_cases hy:i+1<x.length
  ·obtain ⟨e,he⟩ : ∃ e,x[i+1]? = some e:=⟨_,zE hy⟩
   have Ab:=d1.at he;have eb:x[((i:Int)+1).toNat]? = some e:=by rw[show ((i:Int)+1).toNat=i+1 by omega];exact he
   rw[JN he]at key;(repeat' ((first|(apply BR<;>intro hc<;>try (exfalso;omega))|(apply CG;omega)|(apply TN;omega)|(apply EG;omega)|apply CB|(refine CX (by assumption) ?_ rfl ?_;omega)|apply BA)<;>conv=>whnf))
   refine eF 32 (Nat.mul_mod_left _ _) (by omega) (by omega) ?_;(conv=>whnf)
   (repeat' ((first|(refine Y6 ?_ (λ_ _ _ => ?_) (λ_ _ _ _ => ?_);omega;all_goals try (exfalso;omega))|(apply EG;omega))<;>conv=>whnf))
   rw[e2];refine UH (n:=n%32) (by show n%32<=64;omega) ?_;(conv=>whnf)
   (repeat' ((first|apply IR|apply G0)<;>conv=>whnf))
   refine HP (enc:=BZ) ((d+e*4294967296)/2^(n%32)%4294967296) rfl rfl rfl (by omega) (by omega) ?_;(conv=>whnf)
   (repeat' ((first|(apply CG;omega)|fail)<;>conv=>whnf))
   exact C6 [(107005,107064)] (ih (i+1) (o++[(d+e*4294967296)/2^(n%32)%4294967296]) (by omega) ⟨by omega,by omega,by simp;omega,p3.append (KN (by omega)),key (d+e*4294967296) rfl⟩)
  ·rw[<-getD_none (show x.length<=i+1 by omega),Nat.zero_mul]at key
   (repeat' ((first|(apply BR<;>intro hc<;>try (exfalso;omega))|(apply CG;omega)|(refine Y6 ?_ (λ_ _ _ => ?_) (λ_ _ _ _ => ?_);omega;all_goals try (exfalso;omega))|(apply EG;omega)|apply CB|(refine CX (by assumption) ?_ rfl ?_;omega)|apply BA)<;>conv=>whnf))
   rw[e2];refine UH (n:=n%32) (by show n%32<=64;omega) ?_;(conv=>whnf)
   (repeat' ((first|apply IR|apply G0)<;>conv=>whnf))
   refine HP (enc:=BZ) (d/2^(n%32)%4294967296) rfl rfl rfl (by omega) (by omega) ?_;(conv=>whnf)
   (repeat' ((first|(apply CG;omega)|fail)<;>conv=>whnf))
   exact C6 [(107005,107064)] (ih (i+1) (o++[d/2^(n%32)%4294967296]) (by omega) ⟨by omega,by omega,by simp;omega,p3.append (KN (by omega)),key d rfl⟩)
 ·obtain rfl:i=x.length:=by omega
  clear ih;rw[List.drop_of_length_le (Nat.le_refl _),L0,Nat.zero_div,Nat.mul_zero,Nat.add_zero,hvd,Nat.div_div_eq_div_mul,<-Zm]at p5;have hT2:=λ q=>JD N o q p3 (by omega)
  rw[p5]at hT2;(repeat' ((first|(apply BR<;>intro hc<;>try (exfalso;omega))|apply CB|(refine GI (λ_=>rfl) rfl ?_ ?_;(first|rfl|simp))|apply BA|refine BH (hT2 _) ?_)<;>conv=>whnf))
  exact CJ rfl (MV _)
end Go.Eng

namespace Go.Eng
open F
attribute [local irreducible] AH BJ B1 BD E6 CF CI CY CU DX B5 DT EN GS DS CR DR EF AR CW BW pw DC DB EP EV E7 FM EZ D5 FE
set_option maxHeartbeats 4000000
variable {L:Lib}
theorem AkO {V R y d t Q:Nat} (h:Q*y+R=V) (ht:t=R*4294967296+d):(t/y+4294967296*Q)*y+t%y=d+4294967296*V:=by
 have:=Nat.div_add_mod t y
 rw[<-h,Nat.add_mul];have e:t/y*y=y*(t/y):=Nat.mul_comm _ _;grind
theorem Vf (N:a9 L) (x:List Nat) (Y:Nat) (q:Bool) (d1:CP x) (hx:x.length<=549755813888) (h0:Y≠0) (hY:Y<4294967296):Ev L 108 [.sl q (x.map BZ),.int .u32 (Y:Int)] (.tup [.sl false ((dg (val x/Y)).map BZ),.int .u32 ((val x%Y:Nat):Int)]):=by
 refine Ev.x N.Q4 rfl rfl ?_;(repeat' ((first|apply CB|apply BA)<;>conv=>whnf))
 refine GT (enc:=BZ) 0 x.length rfl (by omega) (by omega) ?_;(conv=>whnf)
 (repeat' ((first|(apply D4;omega)|apply CB)<;>conv=>whnf))
 refine JJ (λ n _ _=>n) (λ(n:Nat) (o:List Nat) (r:Nat)=>n<=x.length/\o.length=x.length/\CP o/\r<Y/\val (o.drop n)*Y+r=val (x.drop n)) (λ n o r=>[(7,.int .u64 (r:Int)),(8,.int .i64 ((n:Int)-1))]) (λ n o r=>[(11,11,.rw 1 (o.map BZ))]) [] [] x.length (List.replicate x.length 0) 0 (by (conv=>whnf);exact ⟨rfl,rfl,rfl⟩) ⟨by omega,by simp,MB _,by omega,by rw[List.drop_of_length_le (Nat.le_refl _),List.drop_of_length_le (by simp)];simp [val]⟩ ?_;intro n o r ⟨p1,p2,p3,p4,p5⟩ ih;rcases n with _|n
 ·rw[List.drop_zero,List.drop_zero]at p5
  have hq:val x/Y=val o/\val x%Y=r:=by
   rw[<-p5];have e1:(val o*Y+r)/Y=val o:=by
    rw[Nat.mul_comm,Nat.mul_add_div (by omega),Nat.div_eq_of_lt p4,Nat.add_zero]
   have e2:(val o*Y+r)%Y=r:=by
    rw[Nat.mul_comm,Nat.mul_add_mod,Nat.mod_eq_of_lt p4]
   exact ⟨e1,e2⟩
  have hT:=λ q=>JD N o q p3 (by omega)
  rw[hq.1,hq.2,<-p2];clear ih hq p5;(repeat' ((first|(apply BR<;>intro hc<;>try (exfalso;omega))|(apply G3;omega)|(refine GI (λ_=>rfl) rfl ?_ ?_;(first|rfl|simp))|apply BA|refine BH (hT _) ?_)<;>conv=>whnf))
  refine CJ rfl ?_;simp only[CS,FG,and_true,true_and];exact E0 _
 ·have e1:((n+1:Nat):Int)-1=n:=by omega
  rw[e1];obtain ⟨d,hd⟩ : ∃ d,x[n]? = some d:=⟨_,zE (by omega)⟩;have hdb:=d1.at hd;have hR:r*4294967296+d<Y*4294967296:=by omega
  have hq0:(r*4294967296+d)/Y<4294967296:=(Nat.div_lt_iff_lt_mul (by omega)).2 (by omega);(repeat' ((first|(apply BR<;>intro hc<;>try (exfalso;omega))|(apply CE;omega)|(apply TN;omega)|(apply UG;omega)|(apply eG;omega;omega)|(apply EG;omega)|(apply G3;omega)|(refine CX (by assumption) ?_ rfl ?_;omega)|apply BA)<;>conv=>whnf))
  obtain ⟨t,ht⟩ : ∃ t,t=r*4294967296+d:=⟨_,rfl⟩;rw[<-ht]at hR hq0 ⊢;have hm:t%Y<Y:=Nat.mod_lt _ (by omega);have hst:=AkO p5 ht;rw[<-KF hd]at hst;clear ht;skip
  refine H9 (by omega) ?_;(conv=>whnf)
  (repeat' ((first|(apply D4;omega)|(apply aQ;omega)|(apply EG;omega))<;>conv=>whnf))
  generalize t/Y=tq at *;generalize t%Y=tr at *;refine DE [] (by (conv=>whnf);exact ⟨rfl,rfl,rfl⟩) (ih n _ _ (by omega) ⟨by omega,by simpa using p2,p3.set _ (by omega),hm,?_⟩);rw[KF (l:=o.set n tq) (d:=tq) (by rw[List.getElem?_set_self (by omega)]),List.drop_set_of_lt (by omega)];exact hst
theorem fU (a b:List Nat) (e:Int):CS (.tup [.sl false (a.map BZ),.sl false (b.map BZ),.int .i64 e]):=by
 simp only[CS,FG,and_true,true_and];exact ⟨E0 a,E0 b⟩
abbrev Qs:List It:=[It.lp GG.l1,It.blk 0,
   It.code
    (((C1.ops GG.v3 false).dr [0,75,79,80] []).seq
     (((C1.ops GG.v5 false).dr [81,82,83,84,85] []).seq
      ((((C1.ops GG.x7 false).dr [86,87,88,89,90] []).seq
         (C1.block 2 GG.l2.loop)).seq
       (((C1.ops GG.Cc true).dr [9,10,11,12,13,14,92,277,278,279,280,281,282,283,284]
          []).seq
        C1.ret))))]
abbrev gJ:List It:=[It.lp GG.l2,It.blk 2,It.code
       (((C1.ops GG.Cc true).dr [9,10,11,12,13,14,92,277,278,279,280,281,282,283,284]
          []).seq
        C1.ret)]
abbrev gL (v:List Nat) (s ul m:Nat) (j:Int):Tm:=[(14,.int .i64 j),(13,.row 85 0 1 0 m),(12,.int .i64 v.length),(11,.sl false (v.map BZ)),(10,.row 69 0 1 0 ul),(9,.int .i64 (s:Int))]
abbrev Qr:C1:=(((C1.ops GG.Jx false).dr [18,19,20,166,205,206,207] []).seq
                (((C1.ops GG.Jy false).dr [208,209,210,211,212,213,214] []).seq
                 ((C1.ops GG.Jz false).seq
                  ((((C1.ops GG.Ka false).dr [215,216] []).seq
                     (C1.cond 217
                      (((C1.ops GG.Kb false).dr [18,217,218,219] []).seq
                       (C1.ops GG.Kc false))
                      C1.skip)).seq
                   (((C1.ops GG.Kd false).dr
                      [23,24,217,220,221,222,223,224,225,226,227,228] []).seq
                    ((((C1.ops GG.Ke false).dr [18,229] []).seq
                       (C1.cond 230
                        (((C1.ops GG.Kf false).dr [230,231,232] []).seq
                         ((C1.ops GG.Kg false).seq
                          (((C1.ops GG.Kh false).seq
                             (C1.block 8 GG.l5.loop)).seq
                           ((C1.ops GG.Ki false).dr
                            [25,26,235,262,263,264,265,266,267,268,269,270,271]
                            []))))
                        C1.skip)).seq
                     ((C1.ops GG.Kj false).dr [16,230,272,273,274,275,276]
                      [])))))))
abbrev Qt:List It:=It.lp GG.l4::It.blk 6::It.code Qr::It.blk 3::It.code ((C1.ops GG.x8 false).dr [93,94] [])::gJ
section
variable {A W C w y:List Nat} {j m s ul q:Nat} {Q:Tm->Mem->Prop}
theorem YX {e i n:Nat} (hi:i=A.length+n) (he:W[n]? = some e):(A++W++C)[i]? = some e:=by
 rw[Hc hi (zS he).1];exact he
theorem lT (hA:A.length=j) (hW:W.length=y.length+1) (D2:CP W) (bj:CP y) (cp:2<=y.length) (mg:y.length<=549755813888) (u9:0<val y) (hjl:j<=1099511627776)
  (hul:ul=j+(y.length+1)+C.length) (ym:w.length=m) (xx:j<m)
  (r1:q<4294967296) (r2:val W/val y<=q) (r3:q<=val W/val y+1)
  (hk : ∀ (W':List Nat) (q':Nat),W'.length=y.length+1->CP W'->val W'=val W%val y->q'=val W/val y->AH L gJ (gL y s ul m ((j:Int)-1)) [(69,101021,.rw 1 ((A++W'++C).map BZ)),(85,85,.rw 1 ((w.set j q').map BZ))] Q) :
  AH L Qt ([(20,.int .i64 0),(19,.int .u64 0),(18,.int .u64 0),(16,.int .u64 (q:Int))]++gL y s ul m (j:Int)) [(69,101021,.rw 1 ((A++W++C).map BZ)),(85,85,.rw 1 (w.map BZ))] Q:=by
 refine kD (λ i _ _ _=>y.length-i) (λ(i:Nat) (Z:List Nat) (c b:Nat)=>i<=y.length/\Z.length=y.length+1/\CP Z/\c<4294967296/\b<=1/\Z.drop i=W.drop i/\val (Z.take i)+q*val (y.take i)=val (W.take i)+4294967296^i*(c+b)) (λ i Z c b=>[(20,.int .i64 i),(18,.int .u64 (b:Int)),(19,.int .u64 (c:Int))]) (λ i Z c b=>[(69,101021,.rw 1 ((A++Z++C).map BZ))]) [] [] 0 W 0 0 (by (conv=>whnf);exact ⟨rfl,rfl,rfl⟩) ⟨by omega,hW,D2,by omega,by omega,rfl,by simp [val]⟩ ?_;intro i Z c b ⟨p1,p2,p3,p4,p5,p6,p7⟩ ih;by_cases hi:i<y.length
 ·obtain ⟨d,hd⟩ : ∃ d,y[i]? = some d:=⟨_,zE hi⟩
  obtain ⟨u,hu⟩ : ∃ u,Z[i]? = some u:=⟨_,zE (by omega)⟩;have hdb:=bj.at hd;have hub:=p3.at hu;have yg:(A++Z++C)[((i:Int)+(j:Int)).toNat]? = some u:=YX (by omega) hu;obtain ⟨pr,kg⟩ : ∃ pr,pr=c+q*d:=⟨_,rfl⟩;obtain ⟨m1,m2,m3⟩:=Cq r1 hdb p4 (show pr=q*d+c by omega);have nh:W[i]? = some u:=by
   have e1:(Z.drop i)[0]? = (W.drop i)[0]? := by rw[p6]
   simpa [hu] using e1.symm
  have ix : ∀ w,(Z.set i w).drop (i+1)=W.drop (i+1):=λ w=>by
   rw[List.drop_set_of_lt (by omega)];have e1:(Z.drop i).drop 1=(W.drop i).drop 1:=by rw[p6]
   simpa using e1
  have hst : ∀ have' take w y9,take=pr%4294967296+b->((have'=u/\y9=0/\take<=u)\/(have'=u+4294967296/\y9=1/\u<take))->w+take=have'->val ((Z.set i w).take (i+1))+q*val (y.take (i+1))=val (W.take (i+1))+4294967296^(i+1)*(pr/4294967296+y9):=λ have' take w y9 a1 a2 a3=>by
   rw[I2 (by omega),GR hd,GR nh,Nat.pow_succ];exact AjU p7 kg a1 a2 a3
  by_cases l6:u<pr%4294967296+b
  ·have h3:=hst (u+4294967296) (pr%4294967296+b) (u+4294967296-(pr%4294967296+b)) 1 rfl (Or.inr ⟨rfl,rfl,l6⟩) (by omega)
   (repeat' ((first|(apply BR<;>intro hc<;>try (exfalso;omega))|(apply CE;omega)|(apply CG;omega)|(apply I6;omega)|(apply UF;omega)|(apply sJ;omega)|(apply L2;omega;omega)|apply IB|(apply eE;omega)|(apply EG;omega)|(apply G3;omega)|(refine CX (by assumption) ?_ rfl ?_;omega)|refine MP (by assumption) ?_|apply BA)<;>conv=>whnf))
   rw[<-kg];skip
   refine TP i (by omega) (by omega) ?_;(conv=>whnf)
   (repeat' ((first|(apply CG;omega)|fail)<;>conv=>whnf))
   exact DE [] (by (conv=>whnf);exact ⟨rfl,rfl,rfl⟩) (ih (i+1) (Z.set i (u+4294967296-(pr%4294967296+b))) (pr/4294967296) 1 (by omega) ⟨by omega,by simpa using p2,p3.set _ (by omega),m1,by omega,ix _,h3⟩)
  ·have h3:=hst u (pr%4294967296+b) (u-(pr%4294967296+b)) 0 rfl (Or.inl ⟨rfl,rfl,by omega⟩) (by omega)
   (repeat' ((first|(apply BR<;>intro hc<;>try (exfalso;omega))|(apply CE;omega)|(apply CG;omega)|(apply I6;omega)|(apply UF;omega)|(apply sJ;omega)|(apply L2;omega;omega)|apply IB|(apply EG;omega)|(apply G3;omega)|(refine CX (by assumption) ?_ rfl ?_;omega)|refine MP (by assumption) ?_|apply BA)<;>conv=>whnf))
   rw[<-kg];skip
   refine TP i (by omega) (by omega) ?_;(conv=>whnf)
   (repeat' ((first|(apply CG;omega)|fail)<;>conv=>whnf))
   exact DE [] (by (conv=>whnf);exact ⟨rfl,rfl,rfl⟩) (ih (i+1) (Z.set i (u-(pr%4294967296+b))) (pr/4294967296) 0 (by omega) ⟨by omega,by simpa using p2,p3.set _ (by omega),m1,by omega,ix _,h3⟩)
 ·obtain rfl:i=y.length:=by omega
  clear ih;obtain ⟨u,hu⟩ : ∃ u,Z[y.length]? = some u:=⟨_,zE (by omega)⟩;have hub:=p3.at hu;have yg:(A++Z++C)[((j:Int)+(y.length:Int)).toNat]? = some u:=YX (by omega) hu;have nh:W[y.length]? = some u:=by
   have e1:(Z.drop y.length)[0]? = (W.drop y.length)[0]? := by rw[p6]
   simpa [hu] using e1.symm
  rw[FL (Nat.le_refl y.length)]at p7;have eW:val W=val (W.take y.length)+4294967296^y.length*u:=by
   rw[<-GR nh,FL (by omega)]
  have hst : ∀ have' take w y9,take=c+b->((have'=u/\y9=0/\take<=u)\/(have'=u+4294967296/\y9=1/\u<take))->w+take=have'->val (Z.set y.length w)+q*val y=val W+4294967296^y.length*4294967296*y9:=λ have' take w y9 a1 a2 a3=>by
   have h1:=AjS p7 a1 a2 a3;rw[<-eW,<-I2 (show y.length<Z.length by omega),FL (by simp;omega)]at h1;exact h1
  by_cases l6:u<c+b
  ·have h3:=hst (u+4294967296) (c+b) (u+4294967296-(c+b)) 1 rfl (Or.inr ⟨rfl,rfl,l6⟩) (by omega)
   have uj:CP (Z.set y.length (u+4294967296-(c+b))):=p3.set _ (by omega);have hXl:(Z.set y.length (u+4294967296-(c+b))).length=y.length+1:=by simpa using p2
   rw[Nat.mul_one]at h3;have hU':=HS uj;rw[hXl,Nat.pow_succ]at hU';obtain ⟨y1,y2,y3⟩:=vO u9 r3 hU' h3;(repeat' ((first|(apply BR<;>intro hc<;>try (exfalso;omega))|(apply CE;omega)|(apply CG;omega)|(apply I6;omega)|(apply L2;omega;omega)|(apply eE;omega)|(apply EG;omega)|(apply G3;omega)|refine MP (by assumption) ?_|apply BA)<;>conv=>whnf))
   refine TP y.length (by omega) (by omega) ?_;(conv=>whnf)
   (repeat' ((first|(apply BR<;>intro hc<;>try (exfalso;omega))|(apply L2;omega;omega))<;>conv=>whnf))
   clear p7 p6 eW hu nh hub yg p2 p3 hst;generalize Z.set y.length (u+4294967296-(c+b))=X at *;have hRV:val W%val y<val y:=Nat.mod_lt _ u9;have qh:=HS bj;obtain ⟨xw,rz⟩ : ∃ xw,X[y.length]? = some xw:=⟨_,zE (by omega)⟩;have eX:val X=val (X.take y.length)+4294967296^y.length*xw:=by
    rw[<-GR rz,FL (by omega)]
   have hqb:q-1<4294967296:=by omega
   refine JJ (λ i _ _=>y.length-i) (λ(i:Nat) (Z:List Nat) (c:Nat)=>i<=y.length/\Z.length=y.length+1/\CP Z/\c<=1/\Z.drop i=X.drop i/\val (Z.take i)+4294967296^i*c=val (X.take i)+val (y.take i)) (λ i Z c=>[(26,.int .i64 i),(25,.int .u64 (c:Int))]) (λ i Z c=>[(69,101021,.rw 1 ((A++Z++C).map BZ))]) [] [] 0 X 0 (by (conv=>whnf);exact ⟨rfl,rfl,rfl⟩) ⟨by omega,hXl,uj,by omega,rfl,by simp [val]⟩ ?_;intro i Z c ⟨p1,p2,p3,p4,p6,p7⟩ ih;by_cases hi:i<y.length
   ·obtain ⟨d,hd⟩ : ∃ d,y[i]? = some d:=⟨_,zE hi⟩
    obtain ⟨u,hu⟩ : ∃ u,Z[i]? = some u:=⟨_,zE (by omega)⟩;have hdb:=bj.at hd;have hub:=p3.at hu;have yg:(A++Z++C)[((i:Int)+(j:Int)).toNat]? = some u:=YX (by omega) hu;have fq:X[i]? = some u:=by
     have e1:(Z.drop i)[0]? = (X.drop i)[0]? := by rw[p6]
     simpa [hu] using e1.symm
    have hab:=sT (d:=d) (w:=u) (t:=c+(u+d)) p7 (by omega);(repeat' ((first|(apply BR<;>intro hc<;>try (exfalso;omega))|(apply CE;omega)|(apply CG;omega)|(apply I6;omega)|(apply EG;omega)|apply IR|(refine CX (by assumption) ?_ rfl ?_;omega)|refine MP (by assumption) ?_|apply BA)<;>conv=>whnf))
    generalize ht2:c+(u+d)=t2 at *;refine TP i (by omega) (by omega) ?_;(conv=>whnf)
    (repeat' ((first|(apply CG;omega)|apply IB)<;>conv=>whnf))
    refine DE [] (by (conv=>whnf);exact ⟨rfl,rfl,rfl⟩) (ih (i+1) (Z.set i (t2%4294967296)) (t2/4294967296) (by omega) ⟨by omega,by simpa using p2,p3.set _ (by omega),by omega,?_,?_⟩)
    ·rw[List.drop_set_of_lt (by omega)]
     have e1:(Z.drop i).drop 1=(X.drop i).drop 1:=by rw[p6]
     simpa using e1
    ·rw[I2 (by omega),GR hd,GR fq,Nat.pow_succ]
     exact hab
   ·obtain rfl:i=y.length:=by omega
    clear ih;obtain ⟨u,hu⟩ : ∃ u,Z[y.length]? = some u:=⟨_,zE (by omega)⟩;have hub:=p3.at hu;have yg:(A++Z++C)[((j:Int)+(y.length:Int)).toNat]? = some u:=YX (by omega) hu;have fq:X[y.length]? = some u:=by
     have e1:(Z.drop y.length)[0]? = (X.drop y.length)[0]? := by rw[p6]
     simpa [hu] using e1.symm
    rw[fq]at rz;obtain rfl:u=xw:=by simpa using rz
    rw[FL (Nat.le_refl y.length)]at p7;have uk:=HS (p3.take y.length);rw[List.length_take,Nat.min_eq_left (by omega)]at uk;rw[eX]at y3;have hend:=sS p7 y3 (by omega) uk;rw[<-I2 (show y.length<Z.length by omega),FL (by simp;omega)]at hend;(repeat' ((first|(apply BR<;>intro hc<;>try (exfalso;omega))|(apply CE;omega)|(apply CG;omega)|apply sI|(apply G3;omega)|refine MP (by assumption) ?_|apply BA)<;>conv=>whnf))
    refine TP y.length (by omega) (by omega) ?_;(conv=>whnf)
    (repeat' ((first|(apply CE;omega)|(apply G3;omega))<;>conv=>whnf))
    refine H9 (by omega) ?_;(conv=>whnf)
    (repeat' ((first|(apply D4;omega)|fail)<;>conv=>whnf))
    exact DE [] (by (conv=>whnf);exact ⟨rfl,rfl,rfl⟩) (hk _ _ (by simpa using p2) (p3.set _ (by omega)) hend y1)
  ·have h3:=hst u (c+b) (u-(c+b)) 0 rfl (Or.inl ⟨rfl,rfl,by omega⟩) (by omega)
   rw[Nat.mul_zero,Nat.add_zero]at h3;obtain ⟨y1,y2⟩:=vP u9 r2 h3;(repeat' ((first|(apply BR<;>intro hc<;>try (exfalso;omega))|(apply CE;omega)|(apply CG;omega)|(apply I6;omega)|(apply L2;omega;omega)|(apply EG;omega)|(apply G3;omega)|refine MP (by assumption) ?_|apply BA)<;>conv=>whnf))
   refine TP y.length (by omega) (by omega) ?_;(conv=>whnf)
   (repeat' ((first|(apply BR<;>intro hc<;>try (exfalso;omega))|(apply CE;omega)|(apply G3;omega))<;>conv=>whnf))
   refine H9 (by omega) ?_;(conv=>whnf)
   (repeat' ((first|(apply D4;omega)|fail)<;>conv=>whnf))
   exact DE [] (by (conv=>whnf);exact ⟨rfl,rfl,rfl⟩) (hk _ _ (by simpa using p2) (p3.set _ (by omega)) y2 y1)
theorem Qu (hA:A.length=j) (hW:W.length=y.length+1) (D2:CP W) (bj:CP y) (cp:2<=y.length) (mg:y.length<=549755813888) (u9:0<val y) (hjl:j<=1099511627776)
  (n2:4294967296^(y.length-1)*2147483648<=val y) (g2:val W<4294967296*val y) (hul:ul=j+(y.length+1)+C.length) (ym:w.length=m) (xx:j<m)
  (hk : ∀ (W':List Nat) (q':Nat),W'.length=y.length+1->CP W'->val W'=val W%val y->q'=val W/val y->AH L gJ (gL y s ul m ((j:Int)-1)) [(69,101021,.rw 1 ((A++W'++C).map BZ)),(85,85,.rw 1 ((w.set j q').map BZ))] Q) :
  AH L (.code GG.l2::gJ) (gL y s ul m (j:Int)) [(69,101021,.rw 1 ((A++W++C).map BZ)),(85,85,.rw 1 (w.map BZ))] Q:=by
 obtain ⟨UL,a1,a2⟩:=kA D2 (n:=y.length+1) (by omega) (by omega);obtain ⟨VL,b5,b6⟩:=Gy bj (n:=y.length) cp (by omega);obtain ⟨u0,w0⟩ : ∃ d,W[y.length]? = some d:=⟨_,zE (by omega)⟩;obtain ⟨u1,w1⟩ : ∃ d,W[y.length-1]? = some d:=⟨_,zE (by omega)⟩;obtain ⟨u2,w2⟩ : ∃ d,W[y.length-2]? = some d:=⟨_,zE (by omega)⟩;obtain ⟨f1,x1⟩ : ∃ d,y[y.length-1]? = some d:=⟨_,zE (by omega)⟩;obtain ⟨f2,x2⟩ : ∃ d,y[y.length-2]? = some d:=⟨_,zE (by omega)⟩;rw[show y.length+1-3=y.length-2 by omega,show y.length+1-2=y.length-1 by omega,show y.length+1-1=y.length by omega,JN w0,JN w1,JN w2]at a2;rw[show y.length+1-3=y.length-2 by omega]at a1;rw[JN x1,JN x2]at b6;have kz:=Gl bj (k:=y.length-1) (by omega) n2 x1;have k0:=D2.at w0;have k1:=D2.at w1;have k2:=D2.at w2;have k3:=bj.at x1;have k4:=bj.at x2;have z1:y[((y.length:Int)-1).toNat]? = some f1:=by rw[show ((y.length:Int)-1).toNat=y.length-1 by omega];exact x1
 have z2:y[((y.length:Int)-2).toNat]? = some f2:=by rw[show ((y.length:Int)-2).toNat=y.length-2 by omega];exact x2
 have hr0:(A++W++C)[((j:Int)+(y.length:Int)).toNat]? = some u0:=YX (by omega) w0;(repeat' ((first|(apply BR<;>intro hc<;>try (exfalso;omega))|(apply CE;omega)|(apply CG;omega)|(apply D4;omega)|(apply TN;omega)|(apply EG;omega)|refine MP (by assumption) ?_|apply BA)<;>conv=>whnf))
 have w8:(A++W++C)[((j:Int)+(y.length:Int)-1).toNat]? = some u1:=YX (by omega) w1;refine Lq w8 ?_;(conv=>whnf)
 refine sB (by omega) ?_;(conv=>whnf)
 refine UG (by omega) ?_;(conv=>whnf)
 clear hr0 w8;have z7:(A++W++C)[((j:Int)+(y.length:Int)-2).toNat]? = some u2:=YX (by omega) w2;generalize Bk:u0*4294967296+u1=top at *;have htb:top<=18446744073709551615:=by omega
 have hU:val W=UL+4294967296^(y.length-2)*(u2+4294967296*top):=by rw[a2,show u1+4294967296*u0=top by omega]
 (repeat' ((first|(apply D4;omega)|(apply aQ;omega)|(apply eG;omega;omega)|(apply EG;omega)|(refine CX (by assumption) ?_ rfl ?_;omega))<;>conv=>whnf))
 refine I3 (λ q _=>q) (λ(q r:Nat)=>Gs (val W) (val y) f1 f2 u2 top q r) (λ q r=>[(16,.int .u64 (q:Int)),(17,.int .u64 (r:Int))]) (λ_ _=>[]) [] [] (top/f1) (top%f1) (by (conv=>whnf);exact ⟨rfl,rfl,rfl⟩) (Gs.start hU b6 a1 k2 u9 (by omega) k3) ?_;intro q r g ig;have hqt:q<=top:=by
  have h3:=g.hq;have h4:q*1<=q*f1:=Nat.mul_le_mul_left q (by omega);omega
 have hr:=g.hr;have gb:=g.ge;by_cases hb:4294967296<=q
 ·obtain ⟨y1,y2,y3⟩:=g.next hU b6 a1 u9 g2 (Or.inl hb)
  (repeat' ((first|(apply BR<;>intro hc<;>try (exfalso;omega))|(apply D4;omega)|(apply I6;omega)|(apply L2;omega;omega)|(apply EG;omega)|(refine CX (by assumption) ?_ rfl ?_;omega)|apply BA)<;>conv=>whnf))
  ·obtain ⟨t1,t2⟩:=ZU hU b6 b5 kz k4 g2 y2 (Or.inr (by omega))
   exact DE [] (by (conv=>whnf);exact ⟨rfl,rfl,rfl⟩) (lT (w:=w) (C:=C) hA hW D2 bj cp mg u9 hjl hul ym xx t1 y3 t2 hk)
  ·exact DE [] (by (conv=>whnf);exact ⟨rfl,rfl,rfl⟩) (ig (q-1) (r+f1) (by omega) ⟨y2,by omega,y3⟩)
 ·have hmq:=Z0 (show q<4294967296 by omega) k4
  by_cases o4:r*4294967296+u2<q*f2
  ·obtain ⟨y1,y2,y3⟩:=g.next hU b6 a1 u9 g2 (Or.inr o4)
   (repeat' ((first|(apply BR<;>intro hc<;>try (exfalso;omega))|(apply CE;omega)|(apply CG;omega)|(apply D4;omega)|(apply I6;omega)|(apply UF;omega)|(apply TN;omega)|(apply UG;omega)|(apply L2;omega;omega)|(apply EG;omega)|(refine CX (by assumption) ?_ rfl ?_;omega)|refine MP (by assumption) ?_|apply BA)<;>conv=>whnf))
   ·obtain ⟨t1,t2⟩:=ZU hU b6 b5 kz k4 g2 y2 (Or.inr (by omega))
    exact DE [] (by (conv=>whnf);exact ⟨rfl,rfl,rfl⟩) (lT (w:=w) (C:=C) hA hW D2 bj cp mg u9 hjl hul ym xx t1 y3 t2 hk)
   ·exact DE [] (by (conv=>whnf);exact ⟨rfl,rfl,rfl⟩) (ig (q-1) (r+f1) (by omega) ⟨y2,by omega,y3⟩)
  ·obtain ⟨t1,t2⟩:=ZU hU b6 b5 kz k4 g2 g.hq (Or.inl ⟨by omega,by omega⟩)
   (repeat' ((first|(apply BR<;>intro hc<;>try (exfalso;omega))|(apply CE;omega)|(apply CG;omega)|(apply D4;omega)|(apply UF;omega)|(apply TN;omega)|(apply UG;omega)|(apply EG;omega)|(refine CX (by assumption) ?_ rfl ?_;omega)|refine MP (by assumption) ?_|apply BA)<;>conv=>whnf))
   exact DE [] (by (conv=>whnf);exact ⟨rfl,rfl,rfl⟩) (lT (w:=w) (C:=C) hA hW D2 bj cp mg u9 hjl hul ym xx t1 gb t2 hk)
end
theorem Alq {l:List Nat} (hD:CP l) (h:l[l.length-1]? = some 0):val l<4294967296^(l.length-1):=by
 have hl:=(zS h).1;have h1:=NL l (l.length-1) (by omega);have h2:=KF h;rw[List.drop_of_length_le (show l.length<=l.length-1+1 by omega),L0]at h2;rw[h2]at h1;simp only[Nat.mul_zero,Nat.add_zero]at h1;have h3:=HS (hD.take (l.length-1));rw[List.length_take,Nat.min_eq_left (by omega)]at h3;omega
theorem vT (N:a9 L) {X Y s:Nat} {x u y:List Nat} (hY:Y≠0) (ag:s<=31) (xj:CP u) (xn:val u=X*2^s) (hU0:u[u.length-1]? = some 0) (hul:x.length+1<=u.length/\u.length<=549755813888) (bj:CP y) (xo:val y=Y*2^s) (hvl:2<=y.length/\y.length<=x.length) (n2:4294967296^(y.length-1)*2147483648<=val y) :
  AH L Qs [(10,.row 69 0 1 0 u.length),(11,.sl false (y.map BZ)),(9,.int .i64 (s:Int)),(0,.sl false (x.map BZ))] [(69,101021,.rw 1 (u.map BZ))] (VV GG (.tup [.sl false ((dg (X/Y)).map BZ),.sl false ((dg (X%Y)).map BZ),.int .i64 0])):=by
 refine DG (λ(_:Nat)=>0) (λ_=>True) (λ_=>[]) (λ_=>[]) [] [] 0 (by (conv=>whnf);exact ⟨rfl,rfl,rfl⟩) trivial ?_;intro _ _ _;(repeat' ((first|(apply BR<;>intro hc<;>try (exfalso;omega))|(apply CG;omega)|(apply D4;omega)|apply CB|apply BA)<;>conv=>whnf))
 refine GT (enc:=BZ) 0 (u.length-y.length) (by rfl) (by omega) (by omega) ?_;(conv=>whnf)
 (repeat' ((first|(apply D4;omega)|fail)<;>conv=>whnf))
 have u9:0<val y:=by
  have:=Fm (y.length-1)
  omega
 have qi:=HS bj;generalize hm:u.length-y.length=m at *;have ia:val (u.drop m)<val y:=by
  have h1:(u.drop m).length=y.length:=by simp;omega
  have h2:=Alq (l:=u.drop m) (xj.drop _) (by rw[h1,List.getElem?_drop,show m+(y.length-1)=u.length-1 by omega];exact hU0);rw[h1]at h2;omega
 rw[show (u.length:Int)-y.length-1=((m:Nat):Int)-1 by omega];refine JJ (λ n _ _=>n) (λ(n:Nat) (o w:List Nat)=>n<=m/\o.length=u.length/\CP o/\w.length=m/\CP w/\val (o.drop n)<val y/\X*2^s=val (o.take n)+4294967296^n*(val (w.drop n)*val y+val (o.drop n))) (λ n o w=>[(14,.int .i64 ((n:Int)-1))]) (λ n o w=>[(69,101021,.rw 1 (o.map BZ)),(85,85,.rw 1 (w.map BZ))]) [] [] m u (List.replicate m 0) (by (conv=>whnf);exact ⟨rfl,rfl,rfl⟩) ⟨by omega,rfl,xj,by simp,MB _,ia,by rw[<-xn,List.drop_of_length_le (show (List.replicate m 0).length<=m by simp),L0,Nat.zero_mul,Nat.zero_add];exact NL u m (by omega)⟩ ?_;intro n o w ⟨p1,p2,p3,p4,p5,p6,p7⟩ ih;rcases n with _|j
 ·clear ih
  rw[List.drop_zero]at p6;rw[List.take_zero,List.drop_zero,List.drop_zero,L0,Nat.zero_add,Nat.pow_zero,Nat.one_mul]at p7;have ix:val o=val (o.take y.length):=by
   have h1:=YT o y.length;rcases Nat.eq_zero_or_pos (val (o.drop y.length)) with h2|h2
   ·rw[h2,Nat.mul_zero,Nat.add_zero]at h1;exact h1
   ·have h3:4294967296^y.length*1<=4294967296^y.length*val (o.drop y.length):=Nat.mul_le_mul_left _ h2
    omega
  have ni:X/Y=val w/\X%Y=val o/2^s:=by
   obtain ⟨z1,z2⟩:=vR (X:=X) (Y:=Y) (Nat.two_pow_pos s);rw[<-z1,<-z2,<-xo,p7];have e1:(val w*val y+val o)/val y=val w:=by
    rw[Nat.mul_comm,Nat.mul_add_div u9,Nat.div_eq_of_lt p6,Nat.add_zero]
   have e2:(val w*val y+val o)%val y=val o:=by
    rw[Nat.mul_comm,Nat.mul_add_mod,Nat.mod_eq_of_lt p6]
   rw[e1,e2];exact ⟨rfl,rfl⟩
  rw[ni.1,ni.2,ix];have hT:=λ q=>JD N w q p5 (by omega)
  have htl:(o.take y.length).length<=549755813888:=by rw[List.length_take];omega
  clear p7 ni ia;rw[<-p4];rcases Nat.eq_zero_or_pos s with h0|h0
  ·subst h0
   have hS:=λ q=>xS N (o.take y.length) q 0 (p3.take _) htl (by omega)
   rw[Nat.pow_zero,Nat.mul_one]at hS;rw[Nat.pow_zero,Nat.div_one];(repeat' ((first|(apply BR<;>intro hc<;>try (exfalso;omega))|(refine GI (λ_=>rfl) rfl ?_ ?_;(first|rfl|simp))|apply BA|refine BH (hT _) ?_)<;>conv=>whnf))
   refine JK y.length rfl (by omega) ?_;(conv=>whnf)
   refine E6.neg (by omega) ?_;(conv=>whnf)
   refine J0 (enc:=BZ) (λ_=>rfl) (by omega) ?_;(conv=>whnf)
   rw[List.drop_zero,Nat.sub_zero,show -((0:Nat):Int)=((0:Nat):Int) by omega];(repeat' (refine BH (hS _) ?_<;>conv=>whnf))
   exact CJ rfl (fU _ _ _)
  ·have hS:=λ q=>Ve N (o.take y.length) q s (p3.take _) htl (by omega)
   (repeat' ((first|(apply BR<;>intro hc<;>try (exfalso;omega))|(refine GI (λ_=>rfl) rfl ?_ ?_;(first|rfl|simp))|apply BA|refine BH (hT _) ?_)<;>conv=>whnf))
   refine JK y.length rfl (by omega) ?_;(conv=>whnf)
   refine E6.neg (by omega) ?_;(conv=>whnf)
   refine J0 (enc:=BZ) (λ_=>rfl) (by omega) ?_;(conv=>whnf)
   rw[List.drop_zero,Nat.sub_zero];(repeat' (refine BH (hS _) ?_<;>conv=>whnf))
   exact CJ rfl (fU _ _ _)
 ·have e3:((j+1:Nat):Int)-1=j:=by omega
  rw[e3];obtain ⟨A,W,C,hA,hW,rfl⟩:=wL o j (y.length+1) (by omega);obtain ⟨g1,g2,g3⟩:=wN hA hW p3 p6 qi;obtain ⟨D1,D2,D3⟩:=vN p3;have hqb:val W/val y<4294967296:=(Nat.div_lt_iff_lt_mul u9).2 g2;have zm:val W=val W/val y*val y+val W%val y:=by rw[Nat.mul_comm];exact (Nat.div_add_mod _ _).symm
  have hWl:val W%val y<val y:=Nat.mod_lt _ u9;have qg:X*2^s=val A+4294967296^j*val W+4294967296^j*4294967296*(val (w.drop (j+1))*val y):=by
   rw[p7,Nat.mul_add,<-g3,Nat.pow_succ];omega
  have jl:=wM qg zm;have nx : ∀ q',q'=val W/val y->val ((w.set j q').drop j)=val W/val y+4294967296*val (w.drop (j+1)):=λ q' h=>by
   rw[KF (l:=w.set j q') (d:=q') (by rw[List.getElem?_set_self (by omega)]),List.drop_set_of_lt (by omega),h]
  have hlen : ∀ W':List Nat,W'.length=y.length+1->(A++W'++C).length=u.length:=λ W' h=>by
   rw[<-p2];simp [h,hW]
  have Jd:u.length=j+(y.length+1)+C.length:=by rw[<-p2];simp [hA,hW];omega
  refine DE [] (by (conv=>whnf);exact ⟨rfl,rfl,rfl⟩) (Qu (m:=m) (s:=s) (ul:=u.length) (C:=C) hA hW D2 bj hvl.1 (by omega) u9 (by omega) n2 g2 Jd p4 (by omega) (λ W' q' z1 z2 z3 z4 => ?_));obtain ⟨t1,t2⟩:=mC (A:=A) (W:=W') (C:=C) (j:=j) hA g1;refine DE [] (by (conv=>whnf);exact ⟨rfl,rfl,rfl⟩) (ih j (A++W'++C) (w.set j q') (by omega) ⟨by omega,hlen W' z1,(D1.append z2).append D3,by simpa using p4,p5.set _ (by omega),by omega,?_⟩);rw[t1,t2,nx q' z4,z3];exact jl
end Go.Eng
