/-
  Rational numbers as signs and lists of digits, plain.
-/
import Derived.Test.YthgjfcjecnmflaaGreatB7
import Derived.Test.YthgjfcjecnmflaaGreatB1
import Derived.Test.YthgjfcjecnmflaaGreatB2
set_option linter.unusedSimpArgs false
set_option linter.unusedVariables false
set_option linter.unnecessarySimpa false
namespace Go.e8
abbrev rQ (q1 q2 n:Bool) (m d:List Nat):List AV:=[.bool n,.sl q1 (m.map AL),.sl q2 (d.map AL)]
abbrev eQ (x:Rat):List AV:=rQ false false (decide (x.num<0)) (dg x.num.natAbs) (dg x.den)
def qv (n:Bool) (m d:List Nat):Rat:=mkRat (zv n m) (val d)
theorem E2 (x:Rat):qv (decide (x.num<0)) (dg x.num.natAbs) (dg x.den)=x:=by
 unfold qv;rw[ER,BN,Rat.mkRat_self]
theorem tE {d:Nat} (z:Nat) (hd:d≠0):0<Nat.gcd d z:=Nat.gcd_pos_of_pos_left z (by omega)
theorem jW {z:Int} {d:Nat} (hd:d≠0):(mkRat z d).num.natAbs=z.natAbs/Nat.gcd d z.natAbs/\(mkRat z d).den=d/Nat.gcd d z.natAbs/\decide ((mkRat z d).num<0)=decide (z<0):=by
 have hg:=tE z.natAbs hd;have h1:=Rat.num_mkRat z d;have h2:=Rat.den_mkRat z d;rw[if_neg hd]at h1 h2;rw[h1,h2];obtain ⟨k,hk⟩:=Nat.gcd_dvd_right d z.natAbs;generalize hG:Nat.gcd d z.natAbs=g at *;have hz:z=(g:Int)*(z.sign*k):=by
  rw[<-Int.mul_assoc,Int.mul_comm (g:Int),Int.mul_assoc,<-Int.natCast_mul,<-hk,Int.sign_mul_natAbs]
 have e1:z/(g:Int)=z.sign*k:=by
  rw[hz,Int.mul_ediv_cancel_left _ (by omega),<-hz]
 refine ⟨?_,rfl,?_⟩
 ·rw[e1,Int.natAbs_mul,hk,Nat.mul_div_cancel_left _ hg]
  by_cases h0:z=0
  ·subst h0
   have:k=0:=by
    have h5:g*k=0:=hk.symm;rcases Nat.mul_eq_zero.1 h5 with h|h
    ·omega
    ·exact h
   subst this;simp
  ·rw[Int.natAbs_sign_of_ne_zero h0,Nat.one_mul];simp
 ·congr 1
  rw[eq_iff_iff];rw[Int.ediv_lt_iff_lt_mul (by omega),Int.zero_mul]
theorem D9 (x:Rat):A1 (.agg (eQ x)):=by
 simp only[A1,CD,and_true,true_and];exact ⟨CI _,CI _⟩
theorem X7 (b w:Bool) (m d:List Nat):A1 (.agg [.bool b,.sl false (m.map AL),.sl false (d.map AL),.bool w]):=by
 simp only[A1,CD,and_true,true_and];exact ⟨CI _,CI _⟩
theorem Ss (b:Bool) (m:List Nat):A1 (.agg [.bool b,.sl false (m.map AL)]):=by
 simp only[A1,CD,and_true,true_and];exact CI _
theorem aL (b:Bool) (m d:List Nat):A1 (.agg [.bool b,.sl false (m.map AL),.sl false (d.map AL)]):=by
 simp only[A1,CD,and_true,true_and];exact ⟨CI _,CI _⟩
theorem YT (q:Bool) (l:List Nat):XU (.sl q (l.map AL)):=by
 intro e he c hc;obtain ⟨x,_,rfl⟩:=List.mem_map.1 he;simp at hc;subst hc;rfl
theorem dX {r:AV} {K:AV->Prop} (h:JM r) (hk:K (yi r)):BZ r K:=⟨Or.inl h,by rw[jM h];exact hk⟩
theorem GE {b w q1 q2:Bool} {m d:List Nat} {K:AV->Prop} (hk:K (.agg [.bool b,.sl true (m.map AL),.sl true (d.map AL),.bool w])):BZ (.agg [.bool b,.sl q1 (m.map AL),.sl q2 (d.map AL),.bool w]) K:=by
 refine dX ?_ hk;intro c hc;simp only[List.mem_cons,List.not_mem_nil,or_false]at hc;rcases hc with rfl|rfl|rfl|rfl
 ·trivial
 ·exact YT _ _
 ·exact YT _ _
 ·trivial
theorem nB {b q1 q2:Bool} {m d:List Nat} {K:AV->Prop} (hk:K (.agg [.bool b,.sl true (m.map AL),.sl true (d.map AL)])):BZ (.agg [.bool b,.sl q1 (m.map AL),.sl q2 (d.map AL)]) K:=by
 refine dX ?_ hk;intro c hc;simp only[List.mem_cons,List.not_mem_nil,or_false]at hc;rcases hc with rfl|rfl|rfl
 ·trivial
 ·exact YT _ _
 ·exact YT _ _
theorem RO {b q1:Bool} {m:List Nat} {K:AV->Prop} (hk:K (.agg [.bool b,.sl true (m.map AL)])):BZ (.agg [.bool b,.sl q1 (m.map AL)]) K:=by
 refine dX ?_ hk;intro c hc;simp only[List.mem_cons,List.not_mem_nil,or_false]at hc;rcases hc with rfl|rfl
 ·trivial
 ·exact YT _ _
theorem cB {a b:Int} {d e:Nat} (hd:d≠0) (he:e≠0):mkRat a d+mkRat b e=mkRat (a*e+b*d) (d*e):=Rat.mkRat_add_mkRat a b hd he
theorem vD {a b:Int} {d:Nat} (hd:d≠0):mkRat a d+mkRat b d=mkRat (a+b) d:=by
 rw[cB hd hd,<-Int.add_mul,Rat.mkRat_mul_right hd]
theorem jU (a b:Int) (d e:Nat):mkRat a d*mkRat b e=mkRat (a*b) (d*e):=Rat.mkRat_mul_mkRat a b d e
theorem vF (a:Int):mkRat a 1=(a:Rat):=by
 have h:=Rat.mkRat_self (a:Rat);rw[Rat.num_intCast,Rat.den_intCast]at h;exact h
theorem jV {z:Int} {d:Nat} (hd:d≠0):mkRat z d=0↔z=0:=Rat.mkRat_eq_zero hd
theorem vG {z:Int} {d:Nat} (hd:d≠0):y7 (mkRat z d).num=y7 z:=by
 obtain ⟨_,_,h⟩:=jW (z:=z) hd;have h0:(mkRat z d).num=0↔z=0:=by rw[Rat.num_eq_zero,jV hd]
 have h1:(mkRat z d).num<0↔z<0:=by simpa using h
 unfold y7;by_cases a:z<0
 ·rw[if_pos a,if_pos (h1.2 a)]
 ·rw[if_neg a,if_neg (λ h=>a (h1.1 h))]
  by_cases b:z=0
  ·rw[if_neg (by omega),if_neg (by have:=h0.2 b;omega)]
  ·rw[if_pos (by omega),if_pos (by have:=mt h0.1 b;have:=mt h1.1 a;omega)]
theorem Agj {a b:Int} {d e:Nat} (hd:d≠0) (he:e≠0) (hb:b≠0):mkRat a d/mkRat b e=mkRat (b.sign*(a*e)) (d*b.natAbs):=by
 have hbn:b.natAbs≠0:=by omega
 have h1:mkRat b e≠0:=λ h=>hb ((jV he).1 h)
 have key:mkRat (b.sign*(a*e)) (d*b.natAbs)*mkRat b e=mkRat a d:=by
  rw[jU];have e1:b.sign*(a*e)*b=a*((b.natAbs*e:Nat):Int):=by
   have:=Int.sign_mul_self b
   rw[Int.natCast_mul,<-this];grind
  rw[e1,show d*b.natAbs*e=d*(b.natAbs*e) by rw[Nat.mul_assoc]];exact Rat.mkRat_mul_right (Nat.mul_ne_zero hbn he)
 rw[<-key,Rat.mul_div_cancel h1]
theorem AiN {x y:Int} (hy:y≠0):zv (decide (x<0) != decide (y<0)) (dg x.natAbs)=y.sign*x:=by
 unfold zv;rw[BN];rcases Int.lt_or_gt_of_ne hy with h|h
 ·rw[Int.sign_eq_neg_one_of_neg h]
  by_cases hx:x<0
  ·simp [hx,h];omega
  ·simp [hx,h];omega
 ·rw[Int.sign_eq_one_of_pos h]
  by_cases hx:x<0
  ·simp [hx,show ¬ y<0 by omega];omega
  ·simp [hx,show ¬ y<0 by omega];omega
def Bt (k:Nat) (x:Rat):Prop:=x.num.natAbs<=2^k/\x.den<=2^k
theorem Bt.le {k l:Nat} {x:Rat} (h:Bt k x) (hl:k<=l):Bt l x:=by
 have:=Nat.pow_le_pow_right (show 0<2 by omega) hl
 exact ⟨Nat.le_trans h.1 this,Nat.le_trans h.2 this⟩
theorem Bt.mk {k:Nat} {z:Int} {d:Nat} (hz:z.natAbs<=2^k) (hd:d<=2^k):Bt k (mkRat z d):=by
 by_cases h0:d=0
 ·subst h0
  rw[Rat.mkRat_zero];exact ⟨by simp,by simp;exact Nat.one_le_two_pow⟩
 ·obtain ⟨e1,e2,_⟩:=jW (z:=z) h0
  unfold Bt;rw[e1,e2];exact ⟨Nat.le_trans (Nat.div_le_self _ _) hz,Nat.le_trans (Nat.div_le_self _ _) hd⟩
theorem Bt.add {k l:Nat} {x y:Rat} (hx:Bt k x) (hy:Bt l y):Bt (k+l+1) (x+y):=by
 rw[Rat.add_def'];refine Bt.mk ?_ ?_
 ·have h1:(x.num*y.den).natAbs<=2^k*2^l:=by rw[Int.natAbs_mul,Int.natAbs_natCast];exact Nat.mul_le_mul hx.1 hy.2
  have h2:(y.num*x.den).natAbs<=2^l*2^k:=by rw[Int.natAbs_mul,Int.natAbs_natCast];exact Nat.mul_le_mul hy.1 hx.2
  rw[Nat.mul_comm (2^l)]at h2;rw[Nat.pow_succ,Nat.pow_add];have h3:=Int.natAbs_add_le (x.num*y.den) (y.num*x.den);omega
 ·rw[Nat.pow_succ,Nat.pow_add]
  have:=Nat.mul_le_mul hx.2 hy.2
  omega
theorem Bt.mul {k l:Nat} {x y:Rat} (hx:Bt k x) (hy:Bt l y):Bt (k+l) (x*y):=by
 rw[Rat.mul_def'];refine Bt.mk ?_ ?_
 ·rw[Int.natAbs_mul,Nat.pow_add];exact Nat.mul_le_mul hx.1 hy.1
 ·rw[Nat.pow_add];exact Nat.mul_le_mul hx.2 hy.2
theorem Bt.zero (k:Nat):Bt k 0:=⟨by simp,by simp;exact Nat.one_le_two_pow⟩
theorem Bt.one (k:Nat):Bt k 1:=⟨by simp;exact Nat.one_le_two_pow,by simp;exact Nat.one_le_two_pow⟩
theorem Bt.Mt {k n:Nat} {x:Rat} (h:Bt k x) (hn:k<32*n):Sm n (dg x.num.natAbs)/\Sm n (dg x.den):=by
 have e:2^k<4294967296^n:=by
  rw[show 4294967296=2^32 from rfl,<-Nat.pow_mul];exact (Nat.pow_lt_pow_iff_right (by omega)).2 hn
 exact ⟨Sm.dg (Nat.lt_of_le_of_lt h.1 e),Sm.dg (Nat.lt_of_le_of_lt h.2 e)⟩
def Bs (k:Nat) (l:List Rat):Prop := ∀ x∈l,Bt k x
theorem Bs.at {k:Nat} {l:List Rat} (h:Bs k l) {i:Nat} {x:Rat} (hx:l[i]? = some x):Bt k x:=h x (zM hx)
theorem Bs.le {k j:Nat} {l:List Rat} (h:Bs k l) (hj:k<=j):Bs j l:=λ x hx=>(h x hx).le hj
theorem Bs.take {k:Nat} {l:List Rat} (h:Bs k l) (n:Nat):Bs k (l.take n):=λ x hx=>h x (List.mem_of_mem_take hx)
def A2:List Rat->List Rat->Rat
 | x::xs,y::ys=>x*y+A2 xs ys
 | _,_=>0
theorem WD (l:List Rat):A2 l []=0:=by cases l<;>rfl
theorem qM : ∀ {a b:List Rat} {x y:Rat},a.length=b.length->A2 (a++[x]) (b++[y])=A2 a b+x*y
 | [],[],x,y,_=>by show x*y+0=0+x*y;rw[Rat.add_zero,Rat.zero_add]
 | p::a,q::b,x,y,h=>by
  show p*q+A2 (a++[x]) (b++[y])=p*q+A2 a b+x*y;rw[qM (by simpa using h),Rat.add_assoc]
theorem gL {a b:List Rat} {i:Nat} {x y:Rat} (hx:a[i]? = some x) (hy:b[i]? = some y):A2 (a.take (i+1)) (b.take (i+1))=A2 (a.take i) (b.take i)+x*y:=by
 have h1:=(zS hx).1;have h2:=(zS hy).1;rw[List.take_add_one,List.take_add_one,hx,hy,Option.toList_some,Option.toList_some,qM (by rw[List.length_take,List.length_take];omega)]
theorem gI {a b:List Rat} {n:Nat} (h:a.length=n):A2 (a.take n) (b.take n)=A2 a b:=by
 subst h;rw[zT (Nat.le_refl _)];induction a generalizing b with
 | nil=>cases b<;>rfl
 | cons x a ih=>cases b with
  | nil=>rfl
  | cons y b=>simp only[List.length_cons,List.take_succ_cons,A2,ih]
theorem Bs.dot {k l:Nat} : ∀ {a b:List Rat},Bs k a->Bs l b->Bt (a.length*(k+l+1)) (A2 a b)
 | [],b,_,_=>by cases b<;>exact Bt.zero _
 | x::a,[],_,_=>Bt.zero _
 | x::a,y::b,ha,hb=>by
  have h1:=(ha x (by simp)).mul (hb y (by simp));have h2:=Bs.dot (a:=a) (b:=b) (λ z hz=>ha z (by simp [hz])) (λ z hz=>hb z (by simp [hz]));refine (h1.add h2).le ?_;rw[List.length_cons,Nat.succ_mul];omega
def X1 (a b:List Rat):List Rat:=List.zipWith (· + ·) a b
theorem qL : ∀ {a u v:List Rat},u.length=v.length->A2 a (X1 u v)=A2 a u+A2 a v
 | [],_,_,_=>by simp only[A2];rw[Rat.add_zero]
 | x::a,[],[],_=>by simp only[X1,List.zipWith_nil_left,A2];rw[Rat.add_zero]
 | x::a,p::u,q::v,h=>by
  show x*(p+q)+A2 a (X1 u v)=_;rw[qL (by simpa using h)];simp only[A2];grind
structure DQ where
 a:List (List Rat)
 b:List Rat
 c:List Rat
 d:Rat
structure DQ.Ok (S:DQ) (n k:Nat):Prop where
 la:S.a.length=n
 lr : ∀ r∈S.a,r.length=n
 lb:S.b.length=n
 lc:S.c.length=n
 ba : ∀ r∈S.a,Bs k r
 bb:Bs k S.b
 bc:Bs k S.c
 bd:Bt k S.d
def DE (n:Nat) (j:Int):List Rat:=(List.range n).map λ i:Nat=>if (i:Int)=j then 1 else 0
theorem O9 (n:Nat) (j:Int):(DE n j).length=n:=by simp [DE]
def C0 (m:List (List Rat)) (j:Nat):List Rat:=m.map λ r=>r.getD j 0
def GJ (r:List Rat) (m:List (List Rat)) (n:Nat):List Rat:=(List.range n).map λ j=>A2 r (C0 m j)
def EJ (a m:List (List Rat)) (n:Nat):List (List Rat):=a.map λ r=>GJ r m n
def zB (m:List (List Rat)):Nat->Rat
 | 0=>0
 | i+1=>zB m i+(m.getD i []).getD i 0
def Tl (m:List (List Rat)) (c:Rat) (i:Nat):List (List Rat):=(List.range m.length).map λ r=>if r<i then (m.getD r []).set r ((m.getD r []).getD r 0+c) else m.getD r []
def FV (n:Nat):List (List Rat):=(List.range n).map λ i:Nat=>DE n i
def pG (p:List (List Rat)) (n k:Nat):Rat:=zB p n*Rat.divInt (-1) (k:Int)
def iM (a:List (List Rat)) (n:Nat):Nat->List (List Rat)
 | 0=>FV n
 | k+1=>Tl (EJ a (iM a n k) n) (pG (EJ a (iM a n k) n) n (k+1)) n
def Acc (a:List (List Rat)) (n k:Nat):Rat:=pG (EJ a (iM a n k) n) n (k+1)
def A6 (m:List (List Rat)) (b:List Rat):List Rat:=m.map λ r=>A2 r b
theorem aQ (m:List (List Rat)) (j:Nat):(C0 m j).length=m.length:=by simp [C0]
theorem kA (r:List Rat) (m:List (List Rat)) (n:Nat):(GJ r m n).length=n:=by simp [GJ]
theorem vK (a m:List (List Rat)) (n:Nat):(EJ a m n).length=a.length:=by simp [EJ]
theorem GX (m:List (List Rat)) (b:List Rat):(A6 m b).length=m.length:=by simp [A6]
structure Sq (n:Nat) (m:List (List Rat)):Prop where
 l:m.length=n
 r : ∀ r∈m,r.length=n
theorem Sq.at {n:Nat} {m:List (List Rat)} (h:Sq n m) {i:Nat} {r:List Rat} (hr:m[i]? = some r):r.length=n:=h.r r (zM hr)
theorem Sq.mul {n:Nat} {a:List (List Rat)} (h:a.length=n) (m:List (List Rat)):Sq n (EJ a m n):=by
 refine ⟨by rw[vK,h],λ r hr => ?_⟩;obtain ⟨x,_,rfl⟩:=List.mem_map.1 hr;exact kA _ _ _
theorem Sq.id (n:Nat):Sq n (FV n):=by
 refine ⟨by simp [FV],λ r hr => ?_⟩;obtain ⟨i,_,rfl⟩:=List.mem_map.1 hr;exact O9 _ _
def Ms (k:Nat) (m:List (List Rat)):Prop := ∀ r∈m,Bs k r
theorem Ms.at {k:Nat} {m:List (List Rat)} (h:Ms k m) {i:Nat} {r:List Rat} (hr:m[i]? = some r):Bs k r:=h r (zM hr)
theorem Ms.getD {k:Nat} {m:List (List Rat)} (h:Ms k m) (i j:Nat):Bt k ((m.getD i []).getD j 0):=by
 rw[List.getD_eq_getElem?_getD,List.getD_eq_getElem?_getD];cases e:m[i]? with
 | none=>exact Bt.zero k
 | some r =>
  simp only[Option.getD_some];cases e2:r[j]? with
  | none=>exact Bt.zero k
  | some x=>exact (h.at e).at e2
theorem Ms.le {k j:Nat} {m:List (List Rat)} (h:Ms k m) (hj:k<=j):Ms j m:=λ r hr=>(h r hr).le hj
theorem Ms.Mr {k:Nat} {m:List (List Rat)} (h:Ms k m) (j:Nat):Bs k (C0 m j):=by
 intro x hx;obtain ⟨r,hr,rfl⟩:=List.mem_map.1 hx;rw[List.getD_eq_getElem?_getD];cases e:r[j]? with
 | none=>exact Bt.zero k
 | some x=>exact (h r hr).at e
theorem Ms.mul {n k s:Nat} {a m:List (List Rat)} (ha:Ms k a) (hs:Sq n a) (hm:Ms s m):Ms (n*(k+s+1)) (EJ a m n):=by
 intro r hr x hx;obtain ⟨r,h1,rfl⟩:=List.mem_map.1 hr;obtain ⟨j,_,rfl⟩:=List.mem_map.1 hx;have:=(ha r h1).dot (hm.Mr j)
 rw[hs.r r h1]at this;exact this
theorem Ms.id (n k:Nat):Ms k (FV n):=by
 intro r hr x hx;obtain ⟨i,_,rfl⟩:=List.mem_map.1 hr;simp only[DE,List.mem_map]at hx;obtain ⟨a,_,rfl⟩:=hx;split
 ·exact Bt.one k
 ·exact Bt.zero k
theorem F4 : ∀ a b:List Rat,A2 a b=A2 b a
 | [],[]=>rfl
 | [],_::_=>rfl
 | _::_,[]=>rfl
 | x::a,y::b=>by simp only[A2,F4 a b,Rat.mul_comm]
theorem WE : ∀ (v:List Rat) (n:Nat),A2 (List.replicate n 0) v=0
 | [],n=>WD _
 | y::v,0=>rfl
 | y::v,n+1=>by rw[List.replicate_succ];simp only[A2,WE v n];grind
theorem S5 (v:List Rat) (n:Nat):A2 v (List.replicate n 0)=0:=by rw[F4,WE]
theorem aZ (x:Rat) : ∀ a b:List Rat,A2 (a.map (x * ·)) b=x*A2 a b
 | [],_=>by simp [A2]
 | _::_,[]=>by simp [A2]
 | p::a,q::b=>by simp only[List.map_cons,A2,aZ x a b];grind
theorem Agq (u:List Rat) (n:Nat):GJ u [] n=List.replicate n 0:=by
 refine List.ext_getElem? λ j => ?_
 simp only[GJ,C0,List.map_nil,WD,List.getElem?_map,List.getElem?_replicate];by_cases h:j<n
 ·rw[List.getElem?_range h,if_pos h];rfl
 ·rw[List.getElem?_eq_none (by simp;omega),if_neg h];rfl
theorem Agr (m:List (List Rat)) (n:Nat):GJ [] m n=List.replicate n 0:=by
 refine List.ext_getElem? λ j => ?_
 simp only[GJ,A2,List.getElem?_map,List.getElem?_replicate];by_cases h:j<n
 ·rw[List.getElem?_range h,if_pos h];rfl
 ·rw[List.getElem?_eq_none (by simp;omega),if_neg h];rfl
theorem Agp (x:Rat) (u r:List Rat) (m:List (List Rat)) (n:Nat) (hr:r.length=n):GJ (x::u) (r::m) n=X1 (r.map (x * ·)) (GJ u m n):=by
 refine List.ext_getElem? λ j => ?_
 simp only[GJ,X1,List.getElem?_map,List.getElem?_zipWith];by_cases h:j<n
 ·rw[List.getElem?_range h]
  obtain ⟨y,hy⟩ : ∃ y,r[j]? = some y:=⟨_,zE (by omega)⟩;rw[hy];simp only[Option.map_some,C0,List.map_cons,A2,List.getD_eq_getElem?_getD,hy,Option.getD_some]
 ·rw[List.getElem?_eq_none (by simp;omega),List.getElem?_eq_none (l:=r) (by omega)]
  rfl
theorem gJ {n:Nat} {v:List Rat} : ∀ (m:List (List Rat)) (u:List Rat),(∀ r∈m,r.length=n)->A2 (GJ u m n) v=A2 u (A6 m v)
 | [],u,_=>by rw[Agq,WE,A6,List.map_nil,WD]
 | r::m,[],_=>by rw[Agr,WE];rfl
 | r::m,x::u,h=>by
  have hr:=h r (by simp);rw[Agp x u r m n hr,F4,qL (by rw[List.length_map,kA];exact hr),F4 v,F4 v,aZ,gJ m u λ r hr=>h r (by simp [hr])];rfl
theorem cF {n:Nat} (a m:List (List Rat)) (v:List Rat) (h : ∀ r∈m,r.length=n):A6 (EJ a m n) v=A6 a (A6 m v):=by
 simp only[A6,EJ,List.map_map];exact List.map_congr_left λ r _=>gJ m r h
theorem Agu {n:Nat} {b:List Rat} (hb:b.length=n):A6 (FV n) b=b:=by
 have unit : ∀ (k n i:Nat) (b:List Rat),b.length=n->A2 ((List.range' k n).map λ a:Nat=>if (a:Int)=((k+i:Nat):Int) then 1 else 0) b=b.getD i 0:=by
  intro k n;induction n generalizing k with
  | zero=>intro i b hb;obtain rfl:=List.eq_nil_of_length_eq_zero hb;simp [A2]
  | succ n ih =>
   intro i b hb;cases b with
   | nil=>simp at hb
   | cons y b =>
    rw[List.range'_succ,List.map_cons,A2];cases i with
    | zero =>
     have hz:((List.range' (k+1) n).map λ a:Nat=>if (a:Int)=((k+0:Nat):Int) then (1:Rat) else 0)=List.replicate n 0:=by
      rw[List.eq_replicate_iff];refine ⟨by simp,λ x hx => ?_⟩;obtain ⟨a,ha,rfl⟩:=List.mem_map.1 hx;rw[if_neg];have:=(List.mem_range'_1.1 ha).1
      omega
     rw[hz,WE,if_pos (by simp)];simp [Rat.add_zero]
    | succ i =>
     have:=ih (k+1) i b (by simpa using hb)
     rw[show k+1+i=k+(i+1) by omega]at this;rw[this,if_neg (by omega),List.getD_cons_succ];grind
 refine List.ext_getElem? λ r => ?_
 simp only[A6,FV,List.getElem?_map];by_cases h:r<n
 ·rw[List.getElem?_range h]
  have:=unit 0 n r b hb
  rw[Nat.zero_add]at this;simp only[Option.map_some,DE,List.range_eq_range']at this ⊢;rw[this,List.getD_eq_getElem?_getD,zE (by omega)];rfl
 ·rw[List.getElem?_eq_none (by simp;omega),List.getElem?_eq_none (by omega)]
  rfl
def wQ (S:DQ):Nat->List Rat
 | 0=>S.b
 | j+1=>A6 S.a (wQ S j)
def conv (A h:Nat->Rat) (K:Nat):Nat->Rat
 | 0=>0
 | a+1=>conv A h K a+A a*h (K-a)
theorem jJ {α:Type} {l:List α} (h:l.length=1) : ∃ a,l=[a]:=by
 rcases l with _|⟨a,_|⟨b,l⟩⟩<;>simp at h
 exact ⟨a,rfl⟩
theorem uJ {α:Type} {l:List α} (h:l.length=2) : ∃ a b,l=[a,b]:=by
 obtain ⟨a,r,rfl⟩ : ∃ a r,l=a::r:=by
  cases l with
  | nil=>simp at h
  | cons a r=>exact ⟨a,r,rfl⟩
 obtain ⟨b,rfl⟩:=jJ (l:=r) (by simpa using h);exact ⟨_,_,rfl⟩
abbrev eO:Option Rat->List AV
 | none=>[.bool false,.nil,.nil]
 | some x=>eQ x
def D4 (l:List Rat) (m:Nat):List (Option Rat):=l.map some++List.replicate (m-l.length) none
theorem JT (m:Nat):D4 [] m=List.replicate m none:=by simp [D4]
theorem JS {l:List Rat} {m:Nat} (h:l.length<=m):(D4 l m).length=m:=by simp [D4];omega
theorem JU {l:List Rat} {m:Nat} {x:Rat} (h:l.length<m):(D4 l m).set l.length (some x)=D4 (l++[x]) m:=by
 unfold D4;have e:m-l.length=(m-(l++[x]).length)+1:=by simp;omega
 rw[e,List.replicate_succ,List.set_append_right _ _ (by simp)];simp
theorem JR {l:List Rat} {m:Nat} (h:l.length=m):(D4 l m).map eO=l.map eQ:=by
 unfold D4;rw[h,Nat.sub_self];simp [Function.comp_def]
abbrev eS (S:DQ):List AV:=[.sl false (S.a.map λ r=>[AV.sl false (r.map eQ)]),.sl false (S.b.map eQ),.sl false (S.c.map eQ)]++eQ S.d
theorem GF (l:List Rat):FL (l.map eQ):=X9 (λ x=>by simp only[CD,A1,and_true,true_and];exact ⟨CI _,CI _⟩) l
theorem H7 {l:List Rat} {i:Nat} {x:Rat} (h:l[i]? = some x):l.take (i+1)=l.take i++[x]:=by
 rw[List.take_add_one,h];rfl
theorem oS (S:DQ):A1 (.agg (eS S)):=by
 have h:FL (S.a.map λ r=>[AV.sl false (r.map eQ)]):=X9 (λ r=>by simp only[CD,A1,and_true,true_and];exact GF r) S.a;simp only[A1,List.cons_append,List.nil_append,CD,and_true,true_and];exact ⟨h,GF _,GF _,CI _,CI _⟩
def XA (N:Nat):List IO->Bool
 | []=>true
 | .tmp t::r=>Nat.blt t N&&XA N r
 | .cell t _ _::r=>Nat.blt t N&&XA N r
theorem kQ {N:Nat} {s s':St} (ho:s.own=s'.own) (od : ∀ j,j<N->g7 s'.tm j=g7 s.tm j) : ∀ {res:List IO},XA N res=true->res.mapM (EV s)=res.mapM (EV s')
 | [],_=>rfl
 | .tmp t::r,h=>by
  simp only[XA,Bool.and_eq_true]at h;have:=kQ ho od h.2
  simp only[List.mapM_cons,EV,od t (SJ.1 h.1),this]
 | .cell t agg n::r,h=>by
  simp only[XA,Bool.and_eq_true]at h;have:=kQ ho od h.2
  simp only[List.mapM_cons,EV,od t (SJ.1 h.1),this,ho]
def Qp (N:Nat) (fn:AFn) (tm:Tm) (K:AV->Mem->Prop) (bn:Tm) (M':Mem):Prop:=gh N bn=tm/\cS bn M' fn.res (λ rs=>Qa rs λ v=>K v M')
theorem E8 {L:Lib} {f:Nat} {fn:AFn} {vs:List AV} {tm:Tm} {M:Mem} {K:AV->Mem->Prop} (N:Nat) (hL:L f=some fn) (hp:Nat.beq vs.length fn.bm=true) (hN:(Nat.ble fn.bm N&&(HJ N fn.body&&XA N fn.res))=true)
  (h:AA L [.code fn.body] (CB 0 vs++FX N tm) M (Qp N fn tm K)):A7 L f vs tm M K:=by
 intro σ own hs;simp only[Bool.and_eq_true]at hN;obtain ⟨n1,n2,n3⟩:=hN;have n1:=Nat.le_of_ble_eq_true n1;have hp:vs.length=fn.bm:=Nat.eq_of_beq_eq_true hp;have Le:RX σ (CB 0 vs++FX N tm) M ⟨K3 (BC σ) (CB 0 vs++FX N tm),own⟩:=⟨λ j=>Or.inr (by rw[JF];exact JG (J7 σ) j _),hs⟩;obtain ⟨n,c,s',hr,σ',bn,M',hR,hg,lu⟩:=h σ _ Le;have Jz:Gh N (K3 (BC σ) (FX N tm)) (CB 0 (vs.map (BC σ))) (K3 (BC σ) (CB 0 vs++FX N tm)):=by
  constructor
  ·intro j hj
   rw[jD,JG (J7 σ),JG (J7 σ)];rcases ZQ j (FX N tm) (CB 0 vs) with ⟨_,e⟩|⟨hn,e⟩
   ·rw[e]
   ·rw[e,mE hj,mC j 0 vs hn]
  ·intro j hj
   rw[JG (J7 σ),JG (J7 σ)];rcases ZQ j (FX N tm) (CB 0 vs) with ⟨hn,e⟩|⟨_,e⟩
   ·have:=jC j 0 vs hn
    omega
   ·rw[e]
 obtain ⟨s,r1,r2,r3⟩:=H0 n (by simp [QS,n2]) Jz hr;obtain ⟨rs,i1,i2,i3⟩:=kP hR lu;rw[<-kQ (s:=s) r2.symm r3.lo n3,i3]at i1;have key : ∃ r,HB (rs.map (BJ σ'))=BC σ' r/\K r M':=by
  match rs,i2,i3 with
  | [],h,_=>exact ⟨.l6 [],rfl,h⟩
  | [v],h,e =>
   simp only[List.map_cons,List.map_nil,List.cons.injEq,and_true]at e;exact ⟨v,by simp only[List.map_cons,List.map_nil,HB];exact e.symm,h⟩
  | a::b::l,h,_=>exact ⟨.l6 (a::b::l),rfl,h⟩
 obtain ⟨r,k1,k2⟩:=key;refine ⟨r,s.own,σ',M',FZ.intro hL (by simpa using hp) ⟨n,c,s,r1,?_,rfl⟩,?_,?_,k2⟩
 ·rw[i1,Option.map_some,k1]
 ·rw[<-r2];exact hR.sat
 ·intro j
  have e1:tg tm j=tg bn (N+j):=by rw[JF,JF,<-hg,mB]
  rcases hR.tm (N+j) with e|e
  ·rw[e1,e];rfl
  ·rw[e1,<-e,r3.hi (N+j) (by omega),JG (J7 σ),mD,<-JF,e1]
theorem Bs.getD {k:Nat} {l:List Rat} (h:Bs k l) (i:Nat):Bt k (l.getD i 0):=by
 rw[List.getD_eq_getElem?_getD];cases e:l[i]? with
 | none=>exact Bt.zero k
 | some x=>exact h.at e
theorem Bt.ofInt {k:Nat} {z:Int} (h:z.natAbs<=2^k):Bt k ((z:Int):Rat):=⟨by rw[Rat.num_intCast];exact h,by rw[Rat.den_intCast];exact Nat.one_le_two_pow⟩
theorem vL (σ:FC) (k:Nat) : ∀ (n i:Nat),BU σ k i (List.replicate n none)=List.replicate n [.nil]
 | 0,_=>rfl
 | n+1,i=>by
  rw[List.replicate_succ,List.replicate_succ];show [AV.nil]::BU σ k (i+1) (List.replicate n none)=_;rw[vL σ k n (i+1)]
theorem Rw {L:Lib} {kk:List It} {tm:Tm} {M:Mem} {Q:Tm->Mem->Prop} (k s n:Nat) (e:c8 M k=some (s,.mx (List.replicate n none))) (h:AA L kk tm ((k,s,.rw 1 (List.replicate n [.nil]))::M) Q):AA L kk tm M Q:=by
 intro σ st hr;have hg : ∀ j t c,c4 ((k,s,.rw 1 (List.replicate n [.nil]))::M) j t=some c -> ∃ c0,c4 M j t=some c0/\c0.e7 σ j=c.e7 σ j:=by
  intro j t c g;by_cases hj:j=k
  ·subst hj
   cases t with
   | zero =>
    have h1:c8 ((j,s,A3.rw 1 (List.replicate n [.nil]))::M) j=some (s,.rw 1 (List.replicate n [.nil])):=by simp [c8]
    simp only[c4,h1,Option.some.injEq]at g;subst g;refine ⟨.mx (List.replicate n none),by simp only[c4,e],?_⟩;simp only[A3.e7,vL]
   | succ i =>
    have h1:c8 ((j,s,A3.rw 1 (List.replicate n [.nil]))::M) j=some (s,.rw 1 (List.replicate n [.nil])):=by simp [c8]
    simp only[c4,h1]at g;cases g
  ·have h1:c8 ((k,s,A3.rw 1 (List.replicate n [.nil]))::M) j=c8 M j:=by
    have hb:Nat.beq j k=false:=by
     cases fb:Nat.beq j k with
     | false=>rfl
     | true=>exact absurd (Nat.eq_of_beq_eq_true fb) hj
    simp only[c8,hb,cond_false]
   refine ⟨c,?_,rfl⟩;simp only[c4,h1]at g ⊢;exact g
 refine h σ st ⟨hr.tm,⟨?_,?_,?_,?_,?_⟩⟩
 ·intro j s' c g
  by_cases hj:j=k
  ·subst hj
   have h1:c8 ((j,s,A3.rw 1 (List.replicate n [.nil]))::M) j=some (s,.rw 1 (List.replicate n [.nil])):=by simp [c8]
   rw[h1]at g;simp only[Option.some.injEq,Prod.mk.injEq]at g;obtain ⟨rfl,_⟩:=g;exact hr.sat.site _ _ _ e
  ·have h1:c8 ((k,s,A3.rw 1 (List.replicate n [.nil]))::M) j=c8 M j:=by
    have hb:Nat.beq j k=false:=by
     cases fb:Nat.beq j k with
     | false=>rfl
     | true=>exact absurd (Nat.eq_of_beq_eq_true fb) hj
    simp only[c8,hb,cond_false]
   rw[h1]at g;exact hr.sat.site _ _ _ g
 ·intro j t c g
  obtain ⟨c0,q1,q2⟩:=hg j t c g;rw[<-q2];exact hr.sat.e7 _ _ _ q1
 ·intro j t c g
  obtain ⟨c0,q1,_⟩:=hg j t c g;exact hr.sat.old _ _ _ q1
 ·intro j t j' t' c c' g g' hσ
  obtain ⟨c0,q1,_⟩:=hg j t c g;obtain ⟨c1,q2,_⟩:=hg j' t' c' g';exact hr.sat.inj _ _ _ _ _ _ q1 q2 hσ
 ·intro j t c g hw
  cases t with
  | zero =>
   by_cases hj:j=k
   ·subst hj;exact hr.sat.low _ _ _ (DD e) rfl
   ·rw[JZ hj]at g;exact hr.sat.low _ _ _ g hw
  | succ t =>
   obtain ⟨c0,q1,_⟩:=hg _ _ _ g;exact hr.sat.low _ _ _ q1 (cD q1)
def ED (m:List (List Rat)) (X:List Rat):Prop := ∀ r∈m,A2 r X=0
def comb (p f l:Rat) (r t:List Rat):List Rat:=List.zipWith (λ x y=>(x*p-y*f)/l) r t
theorem pI {p f l:Rat} {r t:List Rat} (h:r.length=t.length):(comb p f l r t).length=r.length:=by simp [comb,h]
theorem pH (p f l:Rat) : ∀ (r t X:List Rat),r.length=t.length->A2 (comb p f l r t) X=(p*A2 r X-f*A2 t X)/l
 | [],[],X,_=>by
  show A2 [] X=_;simp only[A2,Rat.div_def];grind
 | x::r,y::t,[],_=>by
  simp only[comb,List.zipWith_cons_cons,A2,Rat.div_def];grind
 | x::r,y::t,z::X,h=>by
  have ih:=pH p f l r t X (by simpa using h);simp only[comb]at ih;simp only[comb,List.zipWith_cons_cons,A2,ih,Rat.div_def];grind
theorem Wt {p f l:Rat} {r t:List Rat} {j:Nat} {x y:Rat} (hx:r[j]? = some x) (hy:t[j]? = some y):(comb p f l r t)[j]? = some ((x*p-y*f)/l):=by
 simp [comb,List.getElem?_zipWith,hx,hy]
theorem OS {m:List (List Rat)} {i:Nat} {x r:List Rat} (h:r∈m.set i x):r=x \/ ∃ j,j≠i/\m[j]? = some r:=by
 obtain ⟨j,hj⟩:=List.getElem?_of_mem h;rw[List.getElem?_set]at hj;by_cases e:i=j
 ·subst e
  rw[if_pos rfl]at hj;split at hj
  ·exact Or.inl (Option.some.inj hj).symm
  ·cases hj
 ·rw[if_neg e]at hj
  exact Or.inr ⟨j,Ne.symm e,hj⟩
theorem AfT {m:List (List Rat)} {i k:Nat} {r t:List Rat} {p f l:Rat} (hi:m[i]? = some r) (hk:m[k]? = some t) (nj:k≠i) (hl:r.length=t.length) (hp:p≠0) (h0:l≠0) (X:List Rat):ED (m.set i (comb p f l r t)) X↔ED m X:=by
 have hc:=pH p f l r t X hl;have aw:=(zS hi).1;constructor
 ·intro h r' ml
  have ht:A2 t X=0:=h t (by
   refine zM (i:=k) ?_;rw[List.getElem?_set,if_neg (Ne.symm nj)];exact hk)
  have hn:A2 (comb p f l r t) X=0:=h _ (zM (i:=i) (by rw[List.getElem?_set,if_pos rfl,if_pos aw]));rw[hc,ht]at hn;have s8:A2 r X=0:=by
   have e1:=Rat.div_mul_cancel h0 (a:=p*A2 r X-f*0);rw[hn]at e1;have e2:p*A2 r X=0:=by grind
   rcases Rat.mul_eq_zero.1 e2 with h|h
   ·exact absurd h hp
   ·exact h
  obtain ⟨j,hj⟩:=List.getElem?_of_mem ml;by_cases e:j=i
  ·subst e
   obtain rfl:=Option.some.inj (hi.symm.trans hj);exact s8
  ·exact h r' (zM (i:=j) (by rw[List.getElem?_set,if_neg (Ne.symm e)];exact hj))
 ·intro h r' ml
  rcases OS ml with rfl|⟨j,_,hj⟩
  ·rw[hc,h r (zM hi),h t (zM hk),Rat.div_def];grind
  ·exact h r' (zM hj)
theorem AfS {m:List (List Rat)} {i k:Nat} {a b:List Rat} (hi:m[i]? = some a) (hk:m[k]? = some b) (X:List Rat):ED ((m.set i b).set k a) X↔ED m X:=by
 have aw:=(zS hi).1;have oa:=(zS hk).1;constructor
 ·intro h r hr
  obtain ⟨j,hj⟩:=List.getElem?_of_mem hr;by_cases e1:j=k
  ·subst e1
   obtain rfl:=Option.some.inj (hk.symm.trans hj);by_cases e2:i=j
   ·subst e2
    obtain rfl:=Option.some.inj (hi.symm.trans hk);exact h _ (zM (i:=i) (by rw[List.getElem?_set,if_pos rfl,List.length_set,if_pos aw]))
   ·exact h _ (zM (i:=i) (by rw[List.getElem?_set,if_neg (Ne.symm e2),List.getElem?_set,if_pos rfl,if_pos aw]))
  ·by_cases e2:j=i
   ·subst e2
    obtain rfl:=Option.some.inj (hi.symm.trans hj);exact h _ (zM (i:=k) (by rw[List.getElem?_set,if_pos rfl,List.length_set,if_pos oa]))
   ·exact h _ (zM (i:=j) (by rw[List.getElem?_set,if_neg (Ne.symm e1),List.getElem?_set,if_neg (Ne.symm e2)];exact hj))
 ·intro h r hr
  rcases OS hr with rfl|⟨j,_,hj⟩
  ·exact h _ (zM hi)
  ·rcases OS (zM hj) with rfl|⟨q,_,hq⟩
   ·exact h _ (zM hk)
   ·exact h _ (zM hq)
structure DY (m:List (List Rat)) (W c:Nat) (P:List Nat):Prop where
 lr : ∀ r∈m,r.length=W
 pl:P.length<=m.length
 inc : ∀ i j p q:Nat,i<j->P[i]? = some p->P[j]? = some q->p<q
 pb : ∀ p∈P,p<c
 nz : ∀ (i p:Nat) (r:List Rat),P[i]? = some p->m[i]? = some r->r.getD p 0≠0 /\ ∀ j,j<p->r.getD j 0=0
 zr : ∀ (i:Nat) (r:List Rat),P.length<=i->m[i]? = some r -> ∀ j,j<c->r.getD j 0=0
theorem DY.start {m:List (List Rat)} {W:Nat} (h : ∀ r∈m,r.length=W):DY m W 0 [] :=
 ⟨h,Nat.zero_le _,λ i j p q _ h=>by simp at h,(λ p h=>by cases h),(λ i p r h=>by simp at h),λ i r _ _ j hj=>absurd hj (by omega)⟩
theorem DY.skip {m:List (List Rat)} {W c:Nat} {P:List Nat} (h:DY m W c P) (hz : ∀ i r,P.length<=i->m[i]? = some r->r.getD c 0=0):DY m W (c+1) P :=
 ⟨h.lr,h.pl,h.inc,λ p hp=>Nat.lt_succ_of_lt (h.pb p hp),h.nz,λ i r hi hr j hj=>by
  by_cases e:j=c
  ·subst e;exact hz i r hi hr
  ·exact h.zr i r hi hr j (by omega)⟩
theorem DY.swap {m:List (List Rat)} {W c i k:Nat} {P:List Nat} {a b:List Rat} (h:DY m W c P) (hi:m[i]? = some a) (hk:m[k]? = some b) (h1:P.length<=i) (h2:P.length<=k):DY ((m.set i b).set k a) W c P:=by
 have hg : ∀ q,q<P.length->((m.set i b).set k a)[q]? = m[q]? := λ q hq=>by
  rw[List.getElem?_set,if_neg (by omega),List.getElem?_set,if_neg (by omega)]
 have hm : ∀ q r,P.length<=q->((m.set i b).set k a)[q]? = some r -> ∃ q',P.length<=q'/\m[q']? = some r:=λ q r hq hr=>by
  rw[List.getElem?_set]at hr;split at hr
  ·split at hr
   ·obtain rfl:=Option.some.inj hr;exact ⟨i,h1,hi⟩
   ·cases hr
  ·rw[List.getElem?_set]at hr
   split at hr
   ·split at hr
    ·obtain rfl:=Option.some.inj hr;exact ⟨k,h2,hk⟩
    ·cases hr
   ·exact ⟨q,hq,hr⟩
 refine ⟨λ r hr => ?_,by simpa using h.pl,h.inc,h.pb,λ q p r hp hr => ?_,λ q r hq hr j hj => ?_⟩
 ·rcases OS hr with rfl|⟨j,_,hj⟩
  ·exact h.lr _ (zM hi)
  ·rcases OS (zM hj) with rfl|⟨q,_,hq⟩
   ·exact h.lr _ (zM hk)
   ·exact h.lr _ (zM hq)
 ·rw[hg q (zS hp).1]at hr
  exact h.nz q p r hp hr
 ·obtain ⟨q',h3,h4⟩:=hm q r hq hr
  exact h.zr q' r h3 h4 j hj
theorem DY.Gl {m:List (List Rat)} {W c:Nat} {P:List Nat} {t:List Rat} (h:DY m W c P) (ht:m[P.length]? = some t) (hn:t.getD c 0≠0) (hz : ∀ i r,P.length<i->m[i]? = some r->r.getD c 0=0):DY m W (c+1) (P++[c]):=by
 have qu:=(zS ht).1;refine ⟨h.lr,by simp;omega,λ i j p q ug hp hq => ?_,λ p hp => ?_,λ i p r hp hr => ?_,λ i r hi hr j hj => ?_⟩
 ·have dv:=(zS hq).1
  rw[List.length_append,List.length_singleton]at dv;rw[List.getElem?_append_left (by omega)]at hp;by_cases e:j<P.length
  ·rw[List.getElem?_append_left e]at hq
   exact h.inc i j p q ug hp hq
  ·rw[List.getElem?_append_right (by omega),show j-P.length=0 by omega]at hq
   obtain rfl:=Option.some.inj hq;exact h.pb p (zM hp)
 ·rcases List.mem_append.1 hp with hp|hp
  ·exact Nat.lt_succ_of_lt (h.pb p hp)
  ·obtain rfl:=List.mem_singleton.1 hp;omega
 ·by_cases e:i<P.length
  ·rw[List.getElem?_append_left e]at hp
   exact h.nz i p r hp hr
  ·have aw:=(zS hp).1
   rw[List.length_append,List.length_singleton]at aw;rw[List.getElem?_append_right (by omega),show i-P.length=0 by omega]at hp;obtain rfl:=Option.some.inj hp;obtain rfl:i=P.length:=by omega
   obtain rfl:=Option.some.inj (ht.symm.trans hr);exact ⟨hn,λ j hj=>h.zr P.length _ (Nat.le_refl _) ht j hj⟩
 ·rw[List.length_append,List.length_singleton]at hi
  by_cases e:j=c
  ·subst e;exact hz i r (by omega) hr
  ·exact h.zr i r (by omega) hr j (by omega)
theorem DY.diag {m:List (List Rat)} {W c:Nat} {P:List Nat} (h:DY m W c P) (hP:P.length=c) : ∀ i p:Nat,P[i]? = some p->p=i:=by
 have up : ∀ d i p:Nat,P[i]? = some p->i+d<c->p+d<c:=by
  intro d;induction d with
  | zero=>intro i p hp _;exact h.pb p (zM hp)
  | succ d ih =>
   intro i p hp hi;obtain ⟨q,hq⟩ : ∃ q,P[i+1]? = some q:=⟨_,zE (by omega)⟩;have h1:=h.inc i (i+1) p q (by omega) hp hq;have h2:=ih (i+1) q hq (by omega);omega
 have dn : ∀ i p:Nat,P[i]? = some p->i<=p:=by
  intro i;induction i with
  | zero=>intro p _;omega
  | succ i ih =>
   intro p hp;have aw:=(zS hp).1;obtain ⟨q,hq⟩ : ∃ q,P[i]? = some q:=⟨_,zE (by omega)⟩;have h1:=h.inc i (i+1) q p (by omega) hq hp;have h2:=ih q hq;omega
 intro i p hp;have aw:=(zS hp).1;have h1:=dn i p hp;have h2:=up (c-1-i) i p hp (by omega);omega
def BS (f:Nat->Rat):Nat->Rat
 | 0=>0
 | n+1=>BS f n+f n
theorem JE {f g:Nat->Rat} : ∀ n,(∀ j,j<n->f j=g j)->BS f n=BS g n
 | 0,_=>rfl
 | n+1,h=>by rw[BS,BS,JE n λ j hj=>h j (by omega),h n (by omega)]
theorem O8 {f:Nat->Rat} : ∀ n,(∀ j,j<n->f j=0)->BS f n=0
 | 0,_=>rfl
 | n+1,h=>by rw[BS,O8 n λ j hj=>h j (by omega),h n (by omega),Rat.add_zero]
theorem lX {f:Nat->Rat} {n:Nat} : ∀ d,(∀ j,n<=j->f j=0)->BS f (n+d)=BS f n
 | 0,_=>rfl
 | d+1,h=>by rw[<-Nat.add_assoc,BS,lX d h,h (n+d) (by omega),Rat.add_zero]
theorem lW {f:Nat->Rat} {k:Nat} : ∀ n,k<n->(∀ j,j<n->j≠k->f j=0)->BS f n=f k
 | n+1,hk,h=>by
  by_cases e:k=n
  ·subst e
   rw[BS,O8 k λ j hj=>h j (by omega) (by omega),Rat.zero_add]
  ·rw[BS,lW n (by omega) λ j hj=>h j (by omega),h n (by omega) (Ne.symm e),Rat.add_zero]
theorem yU (R y:Nat->Rat) (v:Rat) (k:Nat) : ∀ n,BS (λ j=>R j*(if j=k then v else y j)) n=BS (λ j=>R j*y j) n+if k<n then R k*(v-y k) else 0
 | 0=>by simp [BS,Rat.add_zero]
 | n+1=>by
  rw[BS,BS,yU R y v k n];by_cases e:n=k
  ·subst e
   rw[if_pos rfl,if_neg (Nat.lt_irrefl n),if_pos (Nat.lt_succ_self n)];grind
  ·rw[if_neg e]
   by_cases h:k<n
   ·rw[if_pos h,if_pos (by omega)];grind
   ·rw[if_neg h,if_neg (by omega)];grind
theorem yS (f:Nat->Rat) : ∀ n,BS f (n+1)=f 0+BS (λ j=>f (j+1)) n
 | 0=>by simp only[BS];grind
 | n+1=>by rw[BS,yS f n,BS];grind
theorem gK : ∀ (r X:List Rat) (n:Nat),r.length<=n->A2 r X=BS (λ j=>r.getD j 0*X.getD j 0) n
 | [],X,n,_=>by rw[O8 n λ j _=>by simp];rfl
 | x::r,[],n,_=>by rw[WD,O8 n λ j _=>by simp]
 | x::r,y::X,0,h=>by simp at h
 | x::r,y::X,n+1,h=>by
  rw[yS,A2,gK r X n (by simpa using h)];simp
def SI (m:List (List Rat)) (i j:Nat):Rat:=(m.getD i []).getD j 0
theorem X3 {m:List (List Rat)} {i:Nat} {r:List Rat} (h:m[i]? = some r) (j:Nat):SI m i j=r.getD j 0:=by
 rw[SI,show m.getD i []=r by rw[List.getD_eq_getElem?_getD,h];rfl]
def aE (R:Nat->Nat->Rat) (c:Nat):Prop := ∀ i,i<c->R i i≠0 /\ ∀ j,j<i->R i j=0
theorem zK {R:Nat->Nat->Rat} {c:Nat} (h:aE R c) (f:Nat->Rat) : ∀ d,d<=c -> ∃ y:Nat->Rat,∀ i,c-d<=i->i<c->BS (λ j=>R i j*y j) c=f i
 | 0,_=>⟨λ_=>0,λ i h1 h2=>absurd h2 (by omega)⟩
 | d+1,hd=>by
  obtain ⟨y,hy⟩:=zK h f d (by omega);obtain ⟨k,hk⟩ : ∃ k,k=c-(d+1):=⟨_,rfl⟩;have Ke:k<c:=by omega
  refine ⟨λ j=>if j=k then y k+(f k-BS (λ j=>R k j*y j) c)/R k k else y j,λ i h1 h2 => ?_⟩;rw[yU (R i) y _ k c,if_pos Ke];by_cases e:i=k
  ·subst e
   have h0:=(h i Ke).1;have:=Rat.div_mul_cancel h0 (a:=f i-BS (λ j=>R i j*y j) c)
   grind
  ·rw[hy i (by omega) h2,(h i h2).2 k (by omega)];grind
theorem zL {R:Nat->Nat->Rat} {c:Nat} (h:aE R c) {y:Nat->Rat} (hy : ∀ i,i<c->BS (λ j=>R i j*y j) c=0) : ∀ d,d<=c -> ∀ j,c-d<=j->j<c->y j=0
 | 0,_=>λ j h1 h2=>absurd h2 (by omega)
 | d+1,hd=>λ j h1 h2=>by
  have ih:=zL h hy d (by omega);by_cases e:c-d<=j
  ·exact ih j e h2
  ·have h3:=hy j h2
   rw[lW c h2 λ q hq hn=>by
    by_cases e2:q<j
    ·rw[(h j h2).2 q e2,Rat.zero_mul]
    ·rw[ih q (by omega) hq,Rat.mul_zero]]at h3
   rcases Rat.mul_eq_zero.1 h3 with h4|h4
   ·exact absurd h4 (h j h2).1
   ·exact h4
theorem DY.low {m:List (List Rat)} {W c:Nat} {P:List Nat} (h:DY m W c P) : ∀ i p:Nat,P[i]? = some p->i<=p
 | 0,p,_=>Nat.zero_le p
 | i+1,p,hp=>by
  have aw:=(zS hp).1;obtain ⟨q,hq⟩ : ∃ q,P[i]? = some q:=⟨_,zE (by omega)⟩;have h1:=h.inc i (i+1) q p (by omega) hq hp;have h2:=h.low i q hq;omega
theorem DY.le {m:List (List Rat)} {W c:Nat} {P:List Nat} (h:DY m W c P):P.length<=c:=by
 cases e:P.length with
 | zero=>exact Nat.zero_le c
 | succ k =>
  obtain ⟨q,hq⟩ : ∃ q,P[k]? = some q:=⟨_,zE (by omega)⟩;have h1:=h.low k q hq;have h2:=h.pb q (zM hq);omega
theorem DY.wide {m:List (List Rat)} {W c n:Nat} {P:List Nat} (h:DY m W c P) (hP:P.length=m.length) (hn:c<=n):DY m W n P :=
 ⟨h.lr,h.pl,h.inc,λ p hp=>Nat.lt_of_lt_of_le (h.pb p hp) hn,h.nz,λ i r hi hr=>by
  have:=(zS hr).1
  omega⟩
theorem xF {m:List (List Rat)} {W i n:Nat} {r X:List Rat} (hr:m[i]? = some r) (hl:r.length=W) (hn:n<=W) (hX : ∀ j,n<=j->X.getD j 0=0):A2 r X=BS (λ j=>SI m i j*X.getD j 0) n:=by
 obtain ⟨d,rfl⟩:=Nat.exists_eq_add_of_le hn;rw[gK r X (n+d) (by omega),lX d λ j hj=>by rw[hX j hj,Rat.mul_zero]];exact JE n λ j _=>by rw[X3 hr]
theorem DY.Qe {m:List (List Rat)} {W n c:Nat} {P:List Nat} (h:DY m W n P) (hc : ∀ i,i<c->P[i]? = some i):aE (SI m) c:=λ i hi=>by
 have h1:=(zS (hc i hi)).1;obtain ⟨r,hr⟩ : ∃ r,m[i]? = some r:=⟨_,zE (Nat.lt_of_lt_of_le h1 h.pl)⟩;have:=h.nz i i r (hc i hi) hr
 rw[X3 hr];exact ⟨this.1,λ j hj=>by rw[X3 hr];exact this.2 j hj⟩
theorem DY.full {m:List (List Rat)} {W n:Nat} {P:List Nat} (h:DY m W n P) (hP:P.length=n) (hW:n<=W) {X:List Rat} (hk:ED m X) (hX : ∀ j,n<=j->X.getD j 0=0) (j:Nat):X.getD j 0=0:=by
 have hd : ∀ i,i<n->P[i]? = some i:=λ i hi=>by
  obtain ⟨q,hq⟩ : ∃ q,P[i]? = some q:=⟨_,zE (by omega)⟩;rw[hq,h.diag hP i q hq]
 have ht:=h.Qe hd;by_cases e:j<n
 ·refine zL ht (y:=λ j=>X.getD j 0) (λ i hi => ?_) n (Nat.le_refl n) j (by omega) e
  obtain ⟨r,hr⟩ : ∃ r,m[i]? = some r:=⟨_,zE (by have:=h.pl;omega)⟩;rw[<-xF hr (h.lr r (zM hr)) hW hX];exact hk r (zM hr)
 ·exact hX j (by omega)
theorem DY.gap {m:List (List Rat)} {W n:Nat} {P:List Nat} (h:DY m W n P) : ∀ c:Nat,c<=P.length->(∀ i:Nat,i<c->P[i]? = some i) \/ ∃ k,(∀ i,i<k->P[i]? = some i) /\ ∃ p:Nat,P[k]? = some p/\k<p
 | 0,_=>Or.inl λ i hi=>absurd hi (by omega)
 | c+1,hc=>by
  rcases h.gap c (by omega) with h1|h1
  ·obtain ⟨q,hq⟩ : ∃ q,P[c]? = some q:=⟨_,zE (by omega)⟩
   have h2:=h.low c q hq;by_cases e:q=c
   ·subst e
    exact Or.inl λ i hi=>by
     by_cases e:i=q
     ·subst e;exact hq
     ·exact h1 i (by omega)
   ·exact Or.inr ⟨c,h1,q,hq,by omega⟩
  ·exact Or.inr h1
theorem iT (f:Nat->Rat) (W j:Nat):((List.range W).map f).getD j 0=if j<W then f j else 0:=by
 rw[List.getD_eq_getElem?_getD,List.getElem?_map];by_cases h:j<W
 ·rw[List.getElem?_range h,if_pos h];rfl
 ·rw[List.getElem?_eq_none (by simp;omega),if_neg h];rfl
theorem DY.less {m:List (List Rat)} {W n:Nat} {P:List Nat} (h:DY m W n P) (hP:P.length<n) (hW:n<=W) : ∃ X:List Rat,X.length=W/\ED m X/\(∀ j,n<=j->X.getD j 0=0) /\ ∃ j,X.getD j 0≠0:=by
 obtain ⟨c,nw,hc,hz⟩ : ∃ c,c<n/\(∀ i,i<c->P[i]? = some i) /\ ∀ i r,c<=i->m[i]? = some r -> ∀ j,j<=c->r.getD j 0=0:=by
  rcases h.gap P.length (Nat.le_refl _) with h1|⟨k,h1,p,h2,h3⟩
  ·exact ⟨P.length,hP,h1,λ i r hi hr j hj=>h.zr i r hi hr j (by omega)⟩
  ·refine ⟨k,Nat.lt_trans h3 (h.pb p (zM h2)),h1,λ i r hi hr j hj => ?_⟩
   by_cases e:i<P.length
   ·obtain ⟨q,hq⟩ : ∃ q,P[i]? = some q:=⟨_,zE e⟩
    refine (h.nz i q r hq hr).2 j ?_;by_cases e2:i=k
    ·subst e2
     obtain rfl:=Option.some.inj (h2.symm.trans hq);omega
    ·have:=h.inc k i p q (by omega) h2 hq
     omega
   ·exact h.zr i r (by omega) hr j (by have:=h.pb p (zM h2);omega)
 obtain ⟨y,hy⟩:=zK (h.Qe hc) (λ i=>SI m i c) c (Nat.le_refl c);have hg : ∀ j,((List.range W).map λ j=>if j<c then y j else if j=c then (-1:Rat) else 0).getD j 0=if j<c then y j else if j=c then (-1:Rat) else 0:=λ j=>by
  rw[iT];by_cases e:j<W
  ·rw[if_pos e]
  ·rw[if_neg e,if_neg (by omega),if_neg (by omega)]
 refine ⟨(List.range W).map λ j=>if j<c then y j else if j=c then (-1:Rat) else 0,by simp,λ r hr => ?_,λ j hj => ?_,c,?_⟩
 ·obtain ⟨i,hi⟩:=List.getElem?_of_mem hr
  rw[xF hi (h.lr r hr) (show c+1<=W by omega) λ j hj=>by rw[hg,if_neg (by omega),if_neg (by omega)],BS,hg,if_neg (Nat.lt_irrefl c),if_pos rfl];by_cases e:i<c
  ·rw[JE c (g:=λ j=>SI m i j*y j) λ j hj=>by rw[hg,if_pos hj],hy i (by omega) e];grind
  ·rw[O8 c λ j hj=>by rw[X3 hi,hz i r (by omega) hi j (by omega),Rat.zero_mul],X3 hi,hz i r (by omega) hi c (Nat.le_refl c),Rat.zero_mul,Rat.add_zero]
 ·rw[hg,if_neg (by omega),if_neg (by omega)]
 ·rw[hg,if_neg (Nat.lt_irrefl c),if_pos rfl]
  decide
def aA (m a:List (List Rat)):Prop:=m.length=a.length /\ ∀ (i:Nat) (r:List Rat),a[i]? = some r -> ∃ s:Rat,s≠0/\m[i]? = some (r.map (· * s))
theorem YG (x:Rat) : ∀ a b:List Rat,A2 (a.map (· * x)) b=A2 a b*x
 | [],b=>by simp [A2]
 | a::l,[]=>by rw[WD,WD,Rat.zero_mul]
 | a::l,b::k=>by
  simp only[List.map_cons,A2,YG x l k];grind
theorem aA.kt {m a:List (List Rat)} (h:aA m a) (X:List Rat):ED m X↔ED a X:=by
 constructor
 ·intro hk r hr
  obtain ⟨i,hi⟩:=List.getElem?_of_mem hr;obtain ⟨s,hs,hm⟩:=h.2 i r hi;have:=hk _ (zM hm)
  rw[YG]at this;rcases Rat.mul_eq_zero.1 this with h|h
  ·exact h
  ·exact absurd h hs
 ·intro hk r hr
  obtain ⟨i,hi⟩:=List.getElem?_of_mem hr;obtain ⟨q,hq⟩ : ∃ q,a[i]? = some q:=⟨_,zE (by have:=(zS hi).1;have:=h.1;omega)⟩;obtain ⟨s,hs,hm⟩:=h.2 i q hq;obtain rfl:=Option.some.inj (hi.symm.trans hm);rw[YG,hk q (zM hq),Rat.zero_mul]
def E1 (a b:List (List Rat)):List (List Rat):=List.zipWith (· ++ ·) a b
def NS (n:Nat) (a:List (List Rat)):Prop := ∀ X:List Rat,X.length=n->ED a X -> ∀ j,X.getD j 0=0
theorem OM : ∀ (u y v z:List Rat),u.length=y.length->A2 (u++v) (y++z)=A2 u y+A2 v z
 | [],[],v,z,_=>by simp [A2,Rat.zero_add]
 | x::u,w::y,v,z,h=>by
  simp only[List.cons_append,A2,OM u y v z (by simpa using h)];grind
theorem jH {a b:List (List Rat)} {i:Nat} {r s:List Rat} (hr:a[i]? = some r) (hs:b[i]? = some s):(E1 a b)[i]? = some (r++s):=by
 simp [E1,List.getElem?_zipWith,hr,hs]
theorem zN (n i j:Nat):(DE n i).getD j 0=if j<n then (if j=i then 1 else 0) else 0:=by
 rw[DE,iT];by_cases h:j<n
 ·rw[if_pos h,if_pos h]
  by_cases e:j=i
  ·rw[if_pos e,if_pos (by omega)]
  ·rw[if_neg e,if_neg (by omega)]
 ·rw[if_neg h,if_neg h]
end Go.e8
namespace Go.e8
theorem Bt.Gj {k:Nat} {y:Rat} (h:Bt k y):Bt k y⁻¹:=by
 rw[Rat.inv_def];rcases Int.natAbs_eq y.num with e|e
 ·rw[e,Rat.divInt_ofNat]
  exact Bt.mk (by simpa using h.2) h.1
 ·rw[e,Rat.divInt_neg',Rat.divInt_ofNat]
  exact Bt.mk (by simpa using h.2) h.1
theorem Bt.jr {k l:Nat} {x y:Rat} (hx:Bt k x) (hy:Bt l y):Bt (k+l) (x/y):=by
 rw[Rat.div_def];exact hx.mul hy.Gj
theorem Bt.vm {k:Nat} {x:Rat} (h:Bt k x):Bt k (-x):=⟨by rw[Rat.neg_num,Int.natAbs_neg];exact h.1,by rw[Rat.neg_den];exact h.2⟩
theorem Bt.qe {k l:Nat} {x y:Rat} (hx:Bt k x) (hy:Bt l y):Bt (k+l+1) (x-y):=by
 rw[Rat.sub_eq_add_neg];exact hx.add hy.vm
theorem Bt.Dh {k:Nat} {x p y f l:Rat} (hx:Bt k x) (hp:Bt k p) (hy:Bt k y) (hf:Bt k f) (hl:Bt k l):Bt (5*k+1) ((x*p-y*f)/l) :=
 (((hx.mul hp).qe (hy.mul hf)).jr hl).le (by omega)
theorem pJ {p f l:Rat} : ∀ {r t:List Rat} {z:Rat},z∈comb p f l r t -> ∃ x∈r,∃ y∈t,z=(x*p-y*f)/l
 | [],_,z,h=>by simp [comb]at h
 | _::_,[],z,h=>by simp [comb]at h
 | x::r,y::t,z,h=>by
  simp only[comb,List.zipWith_cons_cons,List.mem_cons]at h;rcases h with h|h
  ·exact ⟨x,List.mem_cons_self,y,List.mem_cons_self,h⟩
  ·obtain ⟨a,ha,b,hb,e⟩:=pJ (r:=r) (t:=t) h
   exact ⟨a,List.mem_cons_of_mem _ ha,b,List.mem_cons_of_mem _ hb,e⟩
theorem Bs.comb {k:Nat} {r t:List Rat} {p f l:Rat} (hr:Bs k r) (ht:Bs k t) (hp:Bt k p) (hf:Bt k f) (hl:Bt k l):Bs (5*k+1) (comb p f l r t):=λ z hz=>by
 obtain ⟨x,hx,y,hy,rfl⟩:=pJ hz;exact Bt.Dh (hr x hx) hp (ht y hy) hf hl
theorem fS {p f l:Rat} : ∀ {r t:List Rat},r.length=t.length -> ∀ j,(comb p f l r t).getD j 0=(r.getD j 0*p-t.getD j 0*f)/l
 | [],[],_,j=>by simp [comb,Rat.div_def,Rat.zero_mul,Rat.sub_eq_add_neg,Rat.neg_zero,Rat.add_zero]
 | x::r,y::t,_,0=>by simp [comb]
 | x::r,y::t,h,j+1=>by
  have:=fS (p:=p) (f:=f) (l:=l) (r:=r) (t:=t) (by simpa using h) j
  simp only[comb]at this;simpa [comb] using this
def VE (s x:Rat):Rat:=s*(((s*x).den:Nat):Rat)
def BG (r:List Rat):Rat:=r.foldl VE 1
theorem kY (r:List Rat) (x:Rat):BG (r++[x])=VE (BG r) x:=by rw[BG,List.foldl_append];rfl
theorem AhM {s x:Rat} (h:s≠0):VE s x≠0:=by
 intro e;rcases Rat.mul_eq_zero.1 e with e|e
 ·exact h e
 ·have:=(s*x).den_pos
  have:((s*x).den:Rat)=((0:Nat):Rat):=e
  have:=Rat.natCast_inj.1 this
  omega
theorem kX (r:List Rat):BG r≠0:=by
 have : ∀ (r:List Rat) (s:Rat),s≠0->r.foldl VE s≠0:=by
  intro r;induction r with
  | nil=>intro s h;exact h
  | cons x r ih=>intro s h;exact ih _ (AhM h)
 exact this r 1 (by decide)
theorem AhL {a k:Nat} {s x:Rat} (hs:Bt a s) (hx:Bt k x):Bt (2*a+k) (VE s x):=by
 have h1:=(hs.mul hx).2;have h2:Bt (a+k) (((s*x).den:Nat):Rat):=by
  have:=Bt.ofInt (k:=a+k) (z:=(((s*x).den:Nat):Int)) (by simpa using h1)
  rwa [Rat.intCast_natCast]at this
 exact (hs.mul h2).le (by omega)
theorem dC {k:Nat} (hk:1<=k) : ∀ {r:List Rat},Bs k r->Bt (3^r.length*k-k) (BG r):=by
 have : ∀ (r:List Rat) (s:Rat) (i:Nat),Bs k r->Bt (3^i*k-k) s->Bt (3^(i+r.length)*k-k) (r.foldl VE s):=by
  intro r;induction r with
  | nil=>intro s i _ h;exact h
  | cons x r ih =>
   intro s i hr h;have h1:=AhL h (hr x List.mem_cons_self);have h2:=ih (VE s x) (i+1) (λ y hy=>hr y (List.mem_cons_of_mem _ hy)) (h1.le (by
    have:1<=3^i:=Nat.one_le_pow _ _ (by omega)
    have e:3^(i+1)*k=3*(3^i*k):=by rw[Nat.pow_succ];rw[Nat.mul_comm (3^i) 3,Nat.mul_assoc]
    have h3:k<=3^i*k:=Nat.le_mul_of_pos_left k (by omega);rw[e];omega))
   rw[List.length_cons,show i+(r.length+1)=i+1+r.length by omega];exact h2
 intro r hr;have:=this r 1 0 hr (Bt.one _)
 rwa [Nat.zero_add]at this
def whole (m:List (List Rat)):List (List Rat):=m.map λ r=>r.map (· * BG r)
theorem AiG (m:List (List Rat)):aA (whole m) m:=⟨by simp [whole],λ i r hr=>⟨BG r,kX r,by simp [whole,hr]⟩⟩
theorem mK {m:List (List Rat)} {W:Nat} (h : ∀ r∈m,r.length=W) : ∀ r∈whole m,r.length=W:=λ r hr=>by
 obtain ⟨q,hq,rfl⟩:=List.mem_map.1 hr;simpa using h q hq
theorem mL {m:List (List Rat)} {W k:Nat} (hk:1<=k) (h : ∀ r∈m,r.length=W) (hb:Ms k m):Ms (3^W*k) (whole m):=λ r hr=>by
 obtain ⟨q,hq,rfl⟩:=List.mem_map.1 hr;have h1:=dC hk (hb q hq);rw[h q hq]at h1;intro x hx;obtain ⟨y,hy,rfl⟩:=List.mem_map.1 hx;have h2:k<=3^W*k:=Nat.le_mul_of_pos_left k (Nat.pow_pos (by omega));exact ((hb q hq y hy).mul h1).le (by omega)
theorem mM {m:List (List Rat)} {W k:Nat} (hk:1<=k) (h : ∀ r∈m,r.length=W) (hb:Ms k m) : ∀ r∈m,∀ j,Bt (3^W*k) (BG (r.take j)):=λ r hr j=>(dC hk ((hb r hr).take j)).le (by
 have:3^(r.take j).length<=3^W:=Nat.pow_le_pow_right (by omega) (by rw[List.length_take,h r hr];omega)
 have:=zR k this
 omega)
theorem mJ (k W:Nat):k<=3^W*k:=Nat.le_mul_of_pos_left k (Nat.pow_pos (by omega))
def HS:List (List Rat)->List Nat->Rat
 | r::m,p::P=>r.getD p 0*HS m P
 | _,_=>1
theorem Y5 : ∀ m,HS m []=1
 | []=>rfl
 | _::_=>rfl
theorem cP : ∀ (m:List (List Rat)) (P:List Nat) (i:Nat) (x:List Rat),P.length<=i->HS (m.set i x) P=HS m P
 | [],_,_,_,_=>rfl
 | _::_,[],_,_,_=>by rw[Y5,Y5]
 | r::m,p::P,0,x,h=>by simp at h
 | r::m,p::P,i+1,x,h=>by
  rw[List.set_cons_succ,HS,HS,cP m P i x (by simpa using h)]
theorem wJ (c:Nat) (t:List Rat) : ∀ (m:List (List Rat)) (P:List Nat),m[P.length]? = some t->HS m (P++[c])=HS m P*t.getD c 0
 | [],_,h=>by simp at h
 | r::m,[],h=>by
  obtain rfl:r=t:=by simpa using h
  rw[List.nil_append,HS,Y5,Y5,Rat.mul_one,Rat.one_mul]
 | r::m,p::P,h=>by
  rw[List.cons_append,HS,HS,wJ c t m P (by simpa using h),Rat.mul_assoc]
structure mZ (n W:Nat) (u:Rat) (D:List (List Rat)->Rat):Prop where
 sw : ∀ (m:List (List Rat)) (i k:Nat) (a b:List Rat),m.length=n->(∀ r∈m,r.length=W)->m[i]? = some a->m[k]? = some b->i≠k->D ((m.set i b).set k a) = -D m
 ad : ∀ (m:List (List Rat)) (i k:Nat) (r t:List Rat) (p f l:Rat),m.length=n->(∀ r∈m,r.length=W)->m[i]? = some r->m[k]? = some t->i≠k->l≠0->D (m.set i (comb p f l r t))=D m*(p/l)
 sc : ∀ (m:List (List Rat)) (i:Nat) (r:List Rat) (s:Rat),m.length=n->(∀ r∈m,r.length=W)->m[i]? = some r->D (m.set i (r.map (· * s)))=D m*s
 tr : ∀ m:List (List Rat),m.length=n->(∀ r∈m,r.length=W)->aE (SI m) n->D m=HS m (List.range n)*u
def ZJ (b:Bool):Rat:=bif b then -1 else 1
theorem AhW (b:Bool):ZJ (!b) = -ZJ b:=by cases b<;>decide
theorem vZ : ∀ n:Nat,(1:Rat)^n=1
 | 0=>Rat.pow_zero 1
 | n+1=>by rw[Rat.pow_succ,vZ n,Rat.mul_one]
theorem wM {l:Rat} (h:l≠0) : ∀ n:Nat,l^n≠0
 | 0=>by rw[Rat.pow_zero];decide
 | n+1=>by
  rw[Rat.pow_succ];intro e;rcases Rat.mul_eq_zero.1 e with e|e
  ·exact wM h n e
  ·exact h e
theorem Ags {a b c:Rat} (h:c≠0) (e:a*c=b*c):a=b:=by
 have h1:=Rat.mul_inv_cancel c h;have:a*c*c⁻¹=b*c*c⁻¹:=by rw[e]
 rwa [Rat.mul_assoc,Rat.mul_assoc,h1,Rat.mul_one,Rat.mul_one]at this
structure G3 (m0:List (List Rat)) (K W cu:Nat) (m:List (List Rat)) (P:List Nat) (c:Nat) (odd:Bool) (l:Rat):Prop where
 bf:DY m W c P
 len:m.length=m0.length
 cc:c<=cu
 l0:l≠0
 kt : ∀ X,ED m X↔ED m0 X
 ms:Ms (6^P.length*K) m
 bl:Bt (6^P.length*K) l
 dt : ∀ (u:Rat) (D:List (List Rat)->Rat),mZ m0.length W u D->D m*l=ZJ odd*D m0*HS m P*l^(m0.length-P.length)
theorem G3.start {m0:List (List Rat)} {K W cu:Nat} (h : ∀ r∈m0,r.length=W) (hb:Ms K m0):G3 m0 K W cu m0 [] 0 false 1 :=
 ⟨DY.start h,rfl,Nat.zero_le _,by decide,λ_=>Iff.rfl,by simpa using hb,Bt.one _,λ u D _=>by rw[Y5,vZ,Rat.mul_one,Rat.mul_one,Rat.mul_one];exact (Rat.one_mul _).symm⟩
section
variable {m0 m:List (List Rat)} {K W cu c:Nat} {P:List Nat} {odd:Bool} {l:Rat}
theorem G3.skip (h:G3 m0 K W cu m P c odd l) (hc:c<cu) (hz : ∀ (i:Nat) (r:List Rat),P.length<=i->m[i]? = some r->r.getD c 0=0):G3 m0 K W cu m P (c+1) odd l :=
 ⟨h.bf.skip hz,h.len,hc,h.l0,h.kt,h.ms,h.bl,h.dt⟩
theorem G3.swap {i k:Nat} {a b:List Rat} (h:G3 m0 K W cu m P c odd l) (hi:m[i]? = some a) (hk:m[k]? = some b) (h1:P.length<=i) (h2:P.length<=k) (hn:i≠k):G3 m0 K W cu ((m.set i b).set k a) P c (!odd) l :=
 ⟨h.bf.swap hi hk h1 h2,by simpa using h.len,h.cc,h.l0,λ X=>(AfS hi hk X).trans (h.kt X),λ r hr=>by
  rcases OS hr with rfl|⟨j,_,hj⟩
  ·exact h.ms.at hi
  ·rcases OS (zM hj) with rfl|⟨q,_,hq⟩
   ·exact h.ms.at hk
   ·exact h.ms.at hq,h.bl,λ u D hD=>by
  rw[hD.sw m i k a b h.len h.bf.lr hi hk hn,AhW,cP _ _ _ _ h2,cP _ _ _ _ h1,Rat.neg_mul,h.dt u D hD,Rat.neg_mul,Rat.neg_mul,Rat.neg_mul]⟩
structure PI (m0:List (List Rat)) (K W cu:Nat) (P:List Nat) (c:Nat) (odd:Bool) (l:Rat) (t:List Rat) (m:List (List Rat)) (i:Nat):Prop where
 bf:DY m W c P
 len:m.length=m0.length
 cc:c<cu
 l0:l≠0
 kt : ∀ X,ED m X↔ED m0 X
 ht:m[P.length]? = some t
 nt:t.getD c 0≠0
 lo : ∀ q r,q<i->m[q]? = some r->Bs (5*(6^P.length*K)+1) r
 hi : ∀ q r,i<=q->m[q]? = some r->Bs (6^P.length*K) r
 bt:Bs (6^P.length*K) t
 bl:Bt (6^P.length*K) l
 z : ∀ q r,P.length<q->q<i->m[q]? = some r->r.getD c 0=0
 dt : ∀ (u:Rat) (D:List (List Rat)->Rat),mZ m0.length W u D->D m*l*l^(i-P.length-1)=ZJ odd*D m0*HS m P*l^(m0.length-P.length)*t.getD c 0^(i-P.length-1)
theorem G3.swp {t:List Rat} (h:G3 m0 K W cu m P c odd l) (hc:c<cu) (ht:m[P.length]? = some t) (hn:t.getD c 0≠0):PI m0 K W cu P c odd l t m (P.length+1) :=
 ⟨h.bf,h.len,hc,h.l0,h.kt,ht,hn,λ q r _ hr=>(h.ms.at hr).le (by omega),λ q r _ hr=>h.ms.at hr,h.ms.at ht,h.bl,λ q r h1 h2 _=>absurd h1 (by omega),λ u D hD=>by
  rw[show P.length+1-P.length-1=0 by omega,Rat.pow_zero,Rat.pow_zero,Rat.mul_one,Rat.mul_one];exact h.dt u D hD⟩
theorem PI.step {t r:List Rat} {i:Nat} (h:PI m0 K W cu P c odd l t m i) (hi:P.length<i) (hr:m[i]? = some r):PI m0 K W cu P c odd l t (m.set i (comb (t.getD c 0) (r.getD c 0) l r t)) (i+1):=by
 have aw:=(zS hr).1;have hl:r.length=t.length:=by rw[h.bf.lr r (zM hr),h.bf.lr t (zM h.ht)]
 have hg : ∀ j,(comb (t.getD c 0) (r.getD c 0) l r t).getD j 0=(r.getD j 0*t.getD c 0-t.getD j 0*r.getD c 0)/l:=fS hl;have db : ∀ (q:Nat) (x:List Rat),(m.set i (comb (t.getD c 0) (r.getD c 0) l r t))[q]? = some x->(q=i/\x=comb (t.getD c 0) (r.getD c 0) l r t)\/(q≠i/\m[q]? = some x):=λ q x hx=>by
  rw[List.getElem?_set]at hx;by_cases e:i=q
  ·rw[if_pos e,if_pos aw]at hx
   exact Or.inl ⟨e.symm,(Option.some.inj hx).symm⟩
  ·rw[if_neg e]at hx
   exact Or.inr ⟨Ne.symm e,hx⟩
 have Ef:=h.hi i r (Nat.le_refl i) hr;have htc:Bt (6^P.length*K) (t.getD c 0):=by
  have:Ms (6^P.length*K) [t]:=λ x hx=>by obtain rfl:=List.mem_singleton.1 hx;exact h.bt
  exact this.getD 0 c
 have zl:Bt (6^P.length*K) (r.getD c 0):=by
  have:Ms (6^P.length*K) [r]:=λ x hx=>by obtain rfl:=List.mem_singleton.1 hx;exact Ef
  exact this.getD 0 c
 have er : ∀ j,j<=c->(comb (t.getD c 0) (r.getD c 0) l r t).getD j 0=0:=λ j hj=>by
  rw[hg];by_cases e:j=c
  ·subst e;rw[Rat.div_def];grind
  ·rw[h.bf.zr i r (by omega) hr j (by omega),h.bf.zr P.length t (Nat.le_refl _) h.ht j (by omega),Rat.div_def];grind
 refine ⟨⟨λ x hx => ?_,by simpa using h.bf.pl,h.bf.inc,h.bf.pb,λ q p x hp hx => ?_,λ q x hq hx j hj => ?_⟩,by simpa using h.len,h.cc,h.l0,λ X=>(AfT hr h.ht (by omega) hl h.nt h.l0 X).trans (h.kt X),?_,h.nt,λ q x hq hx => ?_,λ q x hq hx => ?_,h.bt,h.bl,λ q x h1 h2 hx => ?_,λ u D hD => ?_⟩
 ·rcases OS hx with rfl|⟨j,_,hj⟩
  ·rw[pI hl];exact h.bf.lr r (zM hr)
  ·exact h.bf.lr x (zM hj)
 ·have Hi:=(zS hp).1
  rcases db q x hx with ⟨rfl,_⟩|⟨_,hx⟩
  ·omega
  ·exact h.bf.nz q p x hp hx
 ·rcases db q x hx with ⟨rfl,rfl⟩|⟨_,hx⟩
  ·exact er j (by omega)
  ·exact h.bf.zr q x hq hx j hj
 ·rw[List.getElem?_set,if_neg (by omega)];exact h.ht
 ·rcases db q x hx with ⟨rfl,rfl⟩|⟨m8,hx⟩
  ·exact Ef.comb h.bt htc zl h.bl
  ·exact h.lo q x (by omega) hx
 ·rcases db q x hx with ⟨rfl,rfl⟩|⟨m8,hx⟩
  ·omega
  ·exact h.hi q x (by omega) hx
 ·rcases db q x hx with ⟨rfl,rfl⟩|⟨m8,hx⟩
  ·exact er c (Nat.le_refl c)
  ·exact h.z q x h1 (by omega) hx
 ·have hd:=h.dt u D hD
  have vy:=Rat.div_mul_cancel h.l0 (a:=t.getD c 0);rw[hD.ad m i P.length r t _ _ l h.len h.bf.lr hr h.ht (by omega) h.l0,cP _ _ _ _ (by omega),show i+1-P.length-1=(i-P.length-1)+1 by omega,Rat.pow_succ,Rat.pow_succ];rw[show D m*(t.getD c 0/l)*l*(l^(i-P.length-1)*l)=D m*l*l^(i-P.length-1)*(t.getD c 0/l*l) by grind,hd,vy,Rat.mul_assoc]
theorem wL (hK:1<=K) (p:Nat):5*(6^p*K)+1<=6^(p+1)*K:=by
 have h1:1<=6^p*K:=Nat.mul_pos (Nat.pow_pos (by omega)) hK;have e:6^(p+1)*K=6*(6^p*K):=by rw[Nat.pow_succ,Nat.mul_comm (6^p) 6,Nat.mul_assoc]
 omega
theorem kK {p n B:Nat} (h:6^n*K<=B) (hp:p<=n):6^p*K<=B :=
 Nat.le_trans (zR K (Nat.pow_le_pow_right (by omega) hp)) h
theorem PI.done {t:List Rat} {i:Nat} (hK:1<=K) (h:PI m0 K W cu P c odd l t m i) (hi:i=m.length):G3 m0 K W cu m (P++[c]) (c+1) odd (t.getD c 0):=by
 have e:(P++[c]).length=P.length+1:=by simp
 have h6:=wL hK P.length;refine ⟨h.bf.Gl h.ht h.nt λ q r hq hr=>h.z q r hq (hi ▸ (zS hr).1) hr,h.len,h.cc,h.nt,h.kt,?_,?_,λ u D hD => ?_⟩
 ·rw[e]
  intro r hr;obtain ⟨q,hq⟩:=List.getElem?_of_mem hr;exact (h.lo q r (hi ▸ (zS hq).1) hq).le h6
 ·rw[e]
  have:Ms (6^P.length*K) [t]:=λ x hx=>by obtain rfl:=List.mem_singleton.1 hx;exact h.bt
  exact (this.getD 0 c).le (by omega)
 ·have hd:=h.dt u D hD
  have qu:=(zS h.ht).1;have hlen:=h.len;rw[wJ c t m P h.ht,e];rw[hi,hlen,show m0.length-P.length=(m0.length-P.length-1)+1 by omega,Rat.pow_succ,Nat.add_sub_cancel]at hd;rw[show m0.length-(P.length+1)=m0.length-P.length-1 by omega];have hp:=wM h.l0 (m0.length-P.length-1);generalize l^(m0.length-P.length-1)=x at *;generalize t.getD c 0=p at *;generalize p^(m0.length-P.length-1)=y at *;have h0:=h.l0;have h1:D m=ZJ odd*D m0*HS m P*y:=Ags (c:=l*x) (λ e=>by
   rcases Rat.mul_eq_zero.1 e with e|e
   ·exact h0 e
   ·exact hp e) (by grind)
  rw[h1];grind
end
end Go.e8

namespace Go.e8
def jq (f:Rat) (r t:List Rat):List Rat:=List.zipWith (λ x y=>x-f*y) r t
theorem fR {f:Rat} {r t:List Rat} (h:r.length=t.length):(jq f r t).length=r.length:=by simp [jq,h]
theorem pB {f:Rat} {r t:List Rat} {j:Nat} {x y:Rat} (hx:r[j]? = some x) (hy:t[j]? = some y):(jq f r t)[j]? = some (x-f*y):=by
 simp [jq,List.getElem?_zipWith,hx,hy]
theorem pD {f:Rat} : ∀ {r t:List Rat} {z:Rat},z∈jq f r t -> ∃ x∈r,∃ y∈t,z=x-f*y
 | [],_,z,h=>by simp [jq]at h
 | _::_,[],z,h=>by simp [jq]at h
 | x::r,y::t,z,h=>by
  simp only[jq,List.zipWith_cons_cons,List.mem_cons]at h;rcases h with rfl|h
  ·exact ⟨x,by simp,y,by simp,rfl⟩
  ·obtain ⟨a,ha,b,ix,e⟩:=pD h
   exact ⟨a,by simp [ha],b,by simp [ix],e⟩
theorem fQ (f:Rat) : ∀ (r t X:List Rat),r.length=t.length->A2 (jq f r t) X=A2 r X-f*A2 t X
 | [],[],X,_=>by
  show A2 [] X=_;simp only[A2];grind
 | x::r,y::t,[],_=>by
  simp only[jq,List.zipWith_cons_cons,A2];grind
 | x::r,y::t,z::X,h=>by
  have ih:=fQ f r t X (by simpa using h);simp only[jq]at ih;simp only[jq,List.zipWith_cons_cons,A2,ih];grind
theorem pC {f:Rat} {r t:List Rat} (h:r.length=t.length) (j:Nat):(jq f r t).getD j 0=r.getD j 0-f*t.getD j 0:=by
 rw[List.getD_eq_getElem?_getD,List.getD_eq_getElem?_getD,List.getD_eq_getElem?_getD];cases hx:r[j]? with
 | none =>
  have h1:=List.getElem?_eq_none_iff.1 hx;rw[List.getElem?_eq_none (by rw[fR h];exact h1),List.getElem?_eq_none (l:=t) (by omega)];show (0:Rat)=0-f*0;grind
 | some x =>
  have h1:=(zS hx).1;obtain ⟨y,hy⟩ : ∃ y,t[j]? = some y:=⟨_,zE (by omega)⟩;rw[pB hx hy,hy];rfl
theorem qB (l:List Rat) (p:Rat) (j:Nat):(l.map (· / p)).getD j 0=l.getD j 0/p:=by
 rw[List.getD_eq_getElem?_getD,List.getD_eq_getElem?_getD,List.getElem?_map];cases l[j]? with
 | none=>show (0:Rat)=0/p;rw[Rat.div_def,Rat.zero_mul]
 | some x=>rfl
theorem gG (p:Rat) : ∀ (r X:List Rat),A2 (r.map (· / p)) X=A2 r X/p
 | [],X=>by
  show A2 [] X=A2 [] X/p;simp only[A2,Rat.div_def];grind
 | x::r,[]=>by simp only[List.map_cons,A2,Rat.div_def];grind
 | x::r,z::X=>by
  have ih:=gG p r X;simp only[Rat.div_def]at ih;simp only[List.map_cons,A2,ih,Rat.div_def];grind
theorem WG {n i:Nat} {v:List Rat} (hv:v.length=n) (hi:i<n):A2 (DE n i) v=v.getD i 0:=by
 have e:=congrArg (λ l=>l.getD i 0) (Agu hv);simp only[A6,FV,List.map_map]at e;rw[iT,if_pos hi]at e;exact e
def jI (T:List (List Rat)) (v:List Rat):List Rat:=v++(A6 T v).map (-1 * ·)
structure DP (T B:List (List Rat)) (n W:Nat) (m:List (List Rat)) (k c:Nat):Prop where
 len:m.length=n
 wid : ∀ r∈m,r.length=n+W
 kt : ∀ w:List Rat,ED (E1 T B) w->ED m w
 kr : ∀ w:List Rat,ED m w->ED (E1 T B) w
 le:k<=c
 cn:c<=n
 bf:k=c -> ∀ (i:Nat) (r:List Rat),m[i]? = some r -> ∀ j,j<c->r.getD j 0=if i=j then 1 else 0
 sk:k<c -> ¬ NS n T
theorem DP.start {T B:List (List Rat)} {n W:Nat} (hT:Sq n T) (hB:B.length=n) (hW : ∀ r∈B,r.length=W):DP T B n W (E1 T B) 0 0:=by
 refine ⟨?_,?_,λ_ h=>h,λ_ h=>h,Nat.le_refl _,Nat.zero_le _,λ_ _ _ _ j h=>absurd h (by omega),λ h=>absurd h (by omega)⟩
 ·rw[E1,List.length_zipWith,hT.l,hB,Nat.min_self]
 ·intro r hr
  obtain ⟨i,hi⟩:=List.getElem?_of_mem hr;rw[E1,List.getElem?_zipWith]at hi;cases ht:T[i]? with
  | none=>rw[ht]at hi;cases hi
  | some t =>
   cases hb:B[i]? with
   | none=>rw[ht,hb]at hi;cases hi
   | some b =>
    rw[ht,hb]at hi;obtain rfl:=Option.some.inj hi;rw[List.length_append,hT.at ht,hW b (zM hb)]
theorem AfR {T:List (List Rat)} {n:Nat} (hT:Sq n T) {v:List Rat} (hv:v.length=n):ED (E1 T (FV n)) (jI T v):=by
 intro r hr;obtain ⟨i,hi⟩:=List.getElem?_of_mem hr;rw[E1,List.getElem?_zipWith]at hi;cases ht:T[i]? with
 | none=>rw[ht]at hi;cases hi
 | some t =>
  have h1:=(zS ht).1;rw[hT.l]at h1;rw[ht,FV,List.getElem?_map,List.getElem?_range h1]at hi;obtain rfl:=(Option.some.inj hi).symm;rw[jI,OM _ _ _ _ (by rw[hT.at ht,hv]),F4 (DE n i),aZ,F4 _ (DE n i),WG (by rw[GX];exact hT.l) h1];rw[A6,List.getD_eq_getElem?_getD,List.getElem?_map,ht];show A2 t v + -1*A2 t v=0;grind
theorem DP.ns {T B:List (List Rat)} {W:Nat} {n c:Nat} {m:List (List Rat)} (h:DP T B n W m c c) (hT:Sq n T) (Mv:B.length=n) (hc:c<n) (hz : ∀ (q:Nat) (r:List Rat),c<=q->m[q]? = some r->r.getD c 0=0) : ¬ NS n T:=by
 intro jz;have jn:=h.len;have yb:((m.take c).map λ r => -1*r.getD c 0).length=c:=by rw[List.length_map,List.length_take];omega
 have Lw : ∀ (i:Nat) (r:List Rat),i<c->m[i]? = some r->((m.take c).map λ r => -1*r.getD c 0).getD i 0 = -1*r.getD c 0:=λ i r hi hr=>by
  rw[List.getD_eq_getElem?_getD,List.getElem?_map,List.getElem?_take,if_pos hi,hr];rfl
 generalize ((m.take c).map λ r => -1*r.getD c 0)=x at *;have ma:(x++1::List.replicate (n-c-1) (0:Rat)).length=n:=by simp [yb];omega
 have hK:ED m ((x++1::List.replicate (n-c-1) (0:Rat))++List.replicate W 0):=by
  intro r hr;obtain ⟨i,hi⟩:=List.getElem?_of_mem hr;have aw:=(zS hi).1;have bk:=h.wid r hr;have e1:r=(r.take c++r.getD c 0::(r.drop (c+1)).take (n-c-1))++r.drop n:=by
   have e3:r.take n=r.take c++r.getD c 0::(r.drop (c+1)).take (n-c-1):=by
    have e4:(r.drop c).take (n-c)=r.getD c 0::(r.drop (c+1)).take (n-c-1):=by
     rw[List.drop_eq_getElem_cons (show c<r.length by omega),show n-c=(n-c-1)+1 by omega,List.take_succ_cons,List.getD_eq_getElem?_getD,zE (by omega)];simp
    rw[<-e4,<-List.take_add,show c+(n-c)=n by omega]
   rw[<-e3,List.take_append_drop]
  rw[e1,OM _ _ _ _ (by simp [yb];omega),S5,OM _ _ _ _ (by rw[List.length_take,yb];omega),A2,S5];by_cases Nw:i<c
  ·have e2:r.take c=DE c i:=by
    refine List.ext_getElem? λ j => ?_
    by_cases hj:j<c
    ·obtain ⟨y,hy⟩ : ∃ y,r[j]? = some y:=⟨_,zE (by omega)⟩
     have h3:=h.bf rfl i r hi j hj;rw[List.getD_eq_getElem?_getD,hy]at h3;rw[List.getElem?_take,if_pos hj,hy,DE,List.getElem?_map,List.getElem?_range hj];show some y=some (if (j:Int)=(i:Int) then (1:Rat) else 0);rw[show y=(if i=j then 1 else 0:Rat) from h3];by_cases h5:i=j
     ·rw[if_pos h5,if_pos (by omega)]
     ·rw[if_neg h5,if_neg (by omega)]
    ·rw[List.getElem?_eq_none (by rw[List.length_take];omega),List.getElem?_eq_none (by rw[O9];omega)]
   rw[e2,WG yb Nw,Lw i r Nw hi];grind
  ·have e2:r.take c=List.replicate c 0:=by
    refine List.ext_getElem? λ j => ?_
    by_cases hj:j<c
    ·obtain ⟨y,hy⟩ : ∃ y,r[j]? = some y:=⟨_,zE (by omega)⟩
     have h3:=h.bf rfl i r hi j hj;rw[List.getD_eq_getElem?_getD,hy,if_neg (by omega)]at h3;rw[List.getElem?_take,if_pos hj,hy,List.getElem?_replicate,if_pos hj];exact congrArg some h3
    ·rw[List.getElem?_eq_none (by rw[List.length_take];omega),List.getElem?_eq_none (by simp;omega)]
   rw[e2,WE,hz i r (by omega) hi];grind
 have Cc:=h.kr _ hK;have hKT:ED T (x++1::List.replicate (n-c-1) (0:Rat)):=by
  intro t ht;obtain ⟨i,hi⟩:=List.getElem?_of_mem ht;have aw:=(zS hi).1;rw[hT.l]at aw;obtain ⟨b,hb⟩ : ∃ b,B[i]? = some b:=⟨_,zE (by omega)⟩;have h1:=Cc (t++b) (zM (i:=i) (by
   rw[E1,List.getElem?_zipWith,hi,hb]))
  rw[OM _ _ _ _ (by rw[hT.at hi,ma]),S5,Rat.add_zero]at h1;exact h1
 have h1:=jz _ ma hKT c;rw[List.getD_eq_getElem?_getD,List.getElem?_append_right (by omega),yb,Nat.sub_self]at h1;exact absurd (show (1:Rat)=0 from h1) (by decide)
theorem DP.skip {T B:List (List Rat)} {W:Nat} {n k c:Nat} {m:List (List Rat)} (h:DP T B n W m k c) (hT:Sq n T) (Mv:B.length=n) (hc:c<n) (hz : ∀ (q:Nat) (r:List Rat),k<=q->m[q]? = some r->r.getD c 0=0):DP T B n W m k (c+1):=by
 refine ⟨h.len,h.wid,h.kt,h.kr,Nat.le_succ_of_le h.le,hc,λ e=>absurd h.le (by omega),λ_ => ?_⟩;by_cases e:k<c
 ·exact h.sk e
 ·have hle:=h.le
  obtain rfl:k=c:=by omega
  exact h.ns hT Mv hc hz
theorem DP.swap {T B:List (List Rat)} {W:Nat} {n k c i:Nat} {m:List (List Rat)} {r t:List Rat} (h:DP T B n W m k c) (hi:m[i]? = some r) (hk:m[k]? = some t) (hki:k<=i):DP T B n W ((m.set i t).set k r) k c:=by
 have aw:=(zS hi).1;have oa:=(zS hk).1;have db : ∀ (q:Nat) (x:List Rat),((m.set i t).set k r)[q]? = some x->(q=k/\x=r)\/(q≠k/\q=i/\x=t)\/(q≠k/\q≠i/\m[q]? = some x):=λ q x hx=>by
  rw[List.getElem?_set,List.getElem?_set,List.length_set]at hx;by_cases e1:k=q
  ·rw[if_pos e1,if_pos (by omega)]at hx
   exact Or.inl ⟨e1.symm,(Option.some.inj hx).symm⟩
  ·rw[if_neg e1]at hx
   by_cases e2:i=q
   ·rw[if_pos e2,if_pos (by omega)]at hx
    exact Or.inr (Or.inl ⟨Ne.symm e1,e2.symm,(Option.some.inj hx).symm⟩)
   ·rw[if_neg e2]at hx
    exact Or.inr (Or.inr ⟨Ne.symm e1,Ne.symm e2,hx⟩)
 have ri : ∀ x,x∈(m.set i t).set k r->x∈m:=λ x hx=>by
  obtain ⟨q,hq⟩:=List.getElem?_of_mem hx;rcases db q x hq with ⟨_,rfl⟩|⟨_,_,rfl⟩|⟨_,_,h3⟩
  ·exact zM hi
  ·exact zM hk
  ·exact zM h3
 refine ⟨by rw[List.length_set,List.length_set];exact h.len,λ x hx=>h.wid x (ri x hx),λ v hv x hx=>h.kt v hv x (ri x hx),λ w hw=>h.kr w λ x hx => ?_,h.le,h.cn,?_,h.sk⟩
 ·obtain ⟨q,hq⟩:=List.getElem?_of_mem hx
  have bz:A2 r w=0:=hw r (zM (i:=k) (by rw[List.getElem?_set,if_pos rfl,if_pos (by rw[List.length_set];exact oa)]));by_cases e1:q=i
  ·subst e1
   cases hi.symm.trans hq;exact bz
  ·by_cases e2:q=k
   ·subst e2
    cases hk.symm.trans hq;exact hw t (zM (i:=i) (by rw[List.getElem?_set,if_neg (Ne.symm (Ne.symm e1)),List.getElem?_set,if_pos rfl,if_pos aw]))
   ·exact hw x (zM (i:=q) (by rw[List.getElem?_set,if_neg (Ne.symm e2),List.getElem?_set,if_neg (Ne.symm e1)];exact hq))
 intro e q x hx j hj;rcases db q x hx with ⟨e1,rfl⟩|⟨_,e2,rfl⟩|⟨_,_,h3⟩
 ·rw[if_neg (by omega),h.bf e i x hi j hj,if_neg (by omega)]
 ·rw[if_neg (by omega),h.bf e k x hk j hj,if_neg (by omega)]
 ·exact h.bf e q x h3 j hj
theorem DP.scale {T B:List (List Rat)} {W:Nat} {n k c:Nat} {m:List (List Rat)} {t:List Rat} (p:Rat) (h:DP T B n W m k c) (hk:m[k]? = some t) (hp:p≠0):DP T B n W (m.set k (t.map (· / p))) k c:=by
 refine ⟨by rw[List.length_set];exact h.len,?_,?_,λ w hw=>h.kr w λ x hx => ?_,h.le,h.cn,?_,h.sk⟩
 ·intro x hx
  rcases OS hx with rfl|⟨j,_,hj⟩
  ·rw[List.length_map];exact h.wid t (zM hk)
  ·exact h.wid x (zM hj)
 ·intro v hv x hx
  rcases OS hx with rfl|⟨j,_,hj⟩
  ·rw[gG,h.kt v hv t (zM hk),Rat.div_def,Rat.zero_mul]
  ·exact h.kt v hv x (zM hj)
 ·obtain ⟨q,hq⟩:=List.getElem?_of_mem hx
  have oa:=(zS hk).1;by_cases e:q=k
  ·subst e
   cases hk.symm.trans hq;have h1:=hw (t.map (· / p)) (zM (i:=q) (by rw[List.getElem?_set,if_pos rfl,if_pos oa]));rw[gG]at h1;have h2:A2 t w=A2 t w/p*p:=by rw[Rat.div_def,Rat.mul_assoc,Rat.inv_mul_cancel _ hp,Rat.mul_one]
   rw[h2,h1,Rat.zero_mul]
  ·exact hw x (zM (i:=q) (by rw[List.getElem?_set,if_neg (Ne.symm e)];exact hq))
 ·intro e q x hx j hj
  rw[List.getElem?_set]at hx;by_cases e1:k=q
  ·rw[if_pos e1]at hx
   split at hx
   ·obtain rfl:=Option.some.inj hx
    rw[qB,h.bf e k t hk j hj,if_neg (by omega),if_neg (by omega),Rat.div_def,Rat.zero_mul]
   ·cases hx
  ·rw[if_neg e1]at hx
   exact h.bf e q x hx j hj
structure JQ (T B:List (List Rat)) (n W K:Nat) (k c:Nat) (t:List Rat) (m:List (List Rat)) (i:Nat):Prop where
 red:DP T B n W m k c
 ht:m[k]? = some t
 one:t.getD c 0=1
 dn : ∀ (q:Nat) (r:List Rat),q<i->q≠k->m[q]? = some r->r.getD c 0=0
 lo : ∀ (q:Nat) (r:List Rat),q<i->m[q]? = some r->Bs (4*K+1) r
 hi : ∀ (q:Nat) (r:List Rat),i<=q->q≠k->m[q]? = some r->Bs K r
 bt:Bs (2*K) t
theorem JQ.start {T B:List (List Rat)} {W:Nat} {n K k c:Nat} {m:List (List Rat)} {t:List Rat} (h:DP T B n W m k c) (hk:m[k]? = some t) (hp:t.getD c 0≠0) (hM : ∀ (q:Nat) (r:List Rat),m[q]? = some r->Bs K r):JQ T B n W K k c (t.map (· / t.getD c 0)) (m.set k (t.map (· / t.getD c 0))) 0:=by
 have oa:=(zS hk).1;have lv:=hM k t hk;refine ⟨h.scale _ hk hp,by rw[List.getElem?_set,if_pos rfl,if_pos oa],by rw[qB,Rat.div_def,Rat.mul_inv_cancel _ hp],λ q r h1=>absurd h1 (by omega),λ q r h1=>absurd h1 (by omega),λ q r _ h2 hq => ?_,λ y hy => ?_⟩
 ·rw[List.getElem?_set,if_neg (Ne.symm h2)]at hq
  exact hM q r hq
 ·obtain ⟨z,hz,rfl⟩:=List.mem_map.1 hy
  exact ((lv z hz).jr (Bs.getD lv c)).le (by omega)
theorem JQ.same {T B:List (List Rat)} {W:Nat} {n K k c i:Nat} {m:List (List Rat)} {t:List Rat} (h:JQ T B n W K k c t m i) (hz:i≠k -> ∀ r,m[i]? = some r->r.getD c 0=0):JQ T B n W K k c t m (i+1):=by
 refine ⟨h.red,h.ht,h.one,λ q r h1 h2 hq => ?_,λ q r h1 hq => ?_,λ q r h1=>h.hi q r (by omega),h.bt⟩
 ·by_cases e:q=i
  ·subst e;exact hz h2 r hq
  ·exact h.dn q r (by omega) h2 hq
 ·by_cases e:q=i
  ·by_cases e2:q=k
   ·subst e2
    cases h.ht.symm.trans hq;exact λ y hy=>(h.bt y hy).le (by omega)
   ·exact λ y hy=>(h.hi q r (by omega) e2 hq y hy).le (by omega)
  ·exact h.lo q r (by omega) hq
theorem JQ.step {T B:List (List Rat)} {W:Nat} {n K k c i:Nat} {m:List (List Rat)} {t r:List Rat} (h:JQ T B n W K k c t m i) (hi:m[i]? = some r) (nj:i≠k):JQ T B n W K k c t (m.set i (jq (r.getD c 0) r t)) (i+1):=by
 have aw:=(zS hi).1;have bk:=h.red.wid r (zM hi);have ck:=h.red.wid t (zM h.ht);have Fs:r.length=t.length:=by omega
 have db : ∀ (q:Nat) (x:List Rat),(m.set i (jq (r.getD c 0) r t))[q]? = some x->(q=i/\x=jq (r.getD c 0) r t)\/(q≠i/\m[q]? = some x):=λ q x hx=>by
  rw[List.getElem?_set]at hx;by_cases e:i=q
  ·rw[if_pos e,if_pos (by omega)]at hx
   exact Or.inl ⟨e.symm,(Option.some.inj hx).symm⟩
  ·rw[if_neg e]at hx
   exact Or.inr ⟨Ne.symm e,hx⟩
 refine ⟨⟨by rw[List.length_set];exact h.red.len,?_,?_,λ w hw=>h.red.kr w λ x hx => ?_,h.red.le,h.red.cn,?_,h.red.sk⟩,by rw[List.getElem?_set,if_neg nj];exact h.ht,h.one,?_,?_,?_,h.bt⟩
 ·intro x hx
  obtain ⟨q,hq⟩:=List.getElem?_of_mem hx;rcases db q x hq with ⟨_,rfl⟩|⟨_,h2⟩
  ·rw[fR Fs];exact bk
  ·exact h.red.wid x (zM h2)
 ·intro v hv x hx
  obtain ⟨q,hq⟩:=List.getElem?_of_mem hx;rcases db q x hq with ⟨_,rfl⟩|⟨_,h2⟩
  ·rw[fQ _ _ _ _ Fs,h.red.kt v hv r (zM hi),h.red.kt v hv t (zM h.ht)]
   grind
  ·exact h.red.kt v hv x (zM h2)
 ·obtain ⟨q,hq⟩:=List.getElem?_of_mem hx
  have wh:A2 t w=0:=hw t (zM (i:=k) (by rw[List.getElem?_set,if_neg nj];exact h.ht));by_cases e:q=i
  ·subst e
   cases hi.symm.trans hq;have h1:=hw _ (zM (i:=q) (by rw[List.getElem?_set,if_pos rfl,if_pos aw]));rw[fQ _ _ _ _ Fs,wh]at h1;grind
  ·exact hw x (zM (i:=q) (by rw[List.getElem?_set,if_neg (Ne.symm e)];exact hq))
 ·intro e q x hx j hj
  rcases db q x hx with ⟨e1,rfl⟩|⟨_,h2⟩
  ·rw[pC Fs,h.red.bf e i r hi j hj,h.red.bf e k t h.ht j hj,e1,if_neg (show ¬ k=j by omega)]
   grind
  ·exact h.red.bf e q x h2 j hj
 ·intro q x h1 h2 hx
  rcases db q x hx with ⟨e1,rfl⟩|⟨e1,h3⟩
  ·rw[pC Fs,h.one];grind
  ·exact h.dn q x (by omega) h2 h3
 ·intro q x h1 hx
  rcases db q x hx with ⟨e1,rfl⟩|⟨e1,h3⟩
  ·intro y hy
   obtain ⟨a,ha,b,ix,rfl⟩:=pD hy;have Ef:=h.hi i r (Nat.le_refl _) nj hi;exact ((Ef a ha).qe ((Bs.getD Ef c).mul (h.bt b ix))).le (by omega)
  ·exact h.lo q x (by omega) h3
 ·intro q x h1 h2 hx
  rcases db q x hx with ⟨e1,rfl⟩|⟨e1,h3⟩
  ·omega
  ·exact h.hi q x (by omega) h2 h3
theorem JQ.fin {T B:List (List Rat)} {W:Nat} {n K k c:Nat} {m:List (List Rat)} {t:List Rat} (h:JQ T B n W K k c t m n) (hc:c<n):DP T B n W m (k+1) (c+1) /\ ∀ (q:Nat) (r:List Rat),m[q]? = some r->Bs (4*K+1) r:=by
 have m9 : ∀ (q:Nat) (r:List Rat),m[q]? = some r->q<n:=λ q r hq=>by
  have:=(zS hq).1
  rw[h.red.len]at this;exact this
 refine ⟨⟨h.red.len,h.red.wid,h.red.kt,h.red.kr,Nat.succ_le_succ h.red.le,hc,λ e q r hq j hj => ?_,λ AnI=>h.red.sk (by omega)⟩,λ q r hq=>h.lo q r (m9 q r hq) hq⟩;have e2:k=c:=by omega
 by_cases e3:j=c
 ·by_cases e4:q=k
  ·subst e4
   cases h.ht.symm.trans hq;rw[e3,h.one,if_pos e2]
  ·rw[e3,h.dn q r (m9 q r hq) e4 hq,if_neg (by omega)]
 ·exact h.red.bf e2 q r hq j (by omega)
theorem DP.row {T B:List (List Rat)} {n W i:Nat} {m:List (List Rat)} {r:List Rat} (h:DP T B n W m n n) (hi:m[i]? = some r):r.take n=DE n i:=by
 have bk:=h.wid r (zM hi);refine List.ext_getElem? λ j => ?_
 by_cases hj:j<n
 ·obtain ⟨y,hy⟩ : ∃ y,r[j]? = some y:=⟨_,zE (by omega)⟩
  have h3:=h.bf rfl i r hi j hj;rw[List.getD_eq_getElem?_getD,hy]at h3;rw[List.getElem?_take,if_pos hj,hy,DE,List.getElem?_map,List.getElem?_range hj];show some y=some _;rw[show y=(if i=j then 1 else 0:Rat) from h3];show some (if i=j then (1:Rat) else 0)=some (if (j:Int)=(i:Int) then (1:Rat) else 0);by_cases h5:i=j
  ·rw[if_pos h5,if_pos (by omega)]
  ·rw[if_neg h5,if_neg (by omega)]
 ·rw[List.getElem?_eq_none (by rw[List.length_take];omega),List.getElem?_eq_none (by rw[O9];omega)]
theorem DP.nsT {T B:List (List Rat)} {n W:Nat} {m:List (List Rat)} (h:DP T B n W m n n) (hT:Sq n T):NS n T:=by
 intro X hX hk j;have hK:ED (E1 T B) (X++List.replicate W 0):=by
  intro r hr;obtain ⟨i,hi⟩:=List.getElem?_of_mem hr;rw[E1,List.getElem?_zipWith]at hi;cases ht:T[i]? with
  | none=>rw[ht]at hi;cases hi
  | some t =>
   cases hb:B[i]? with
   | none=>rw[ht,hb]at hi;cases hi
   | some b =>
    rw[ht,hb]at hi;obtain rfl:=Option.some.inj hi;rw[OM _ _ _ _ (by rw[hT.at ht,hX]),S5,Rat.add_zero];exact hk t (zM ht)
 have hm:=h.kt _ hK;by_cases hj:j<n
 ·obtain ⟨r,hr⟩ : ∃ r,m[j]? = some r:=⟨_,zE (by rw[h.len];exact hj)⟩
  have h1:=hm r (zM hr);have bk:=h.wid r (zM hr);rw[<-List.take_append_drop n r,OM _ _ _ _ (by rw[List.length_take,hX];omega),S5,h.row hr,WG hX hj,Rat.add_zero]at h1;exact h1
 ·rw[List.getD_eq_getElem?_getD,List.getElem?_eq_none (by omega)];rfl
theorem DP.inv {T:List (List Rat)} {n:Nat} {m:List (List Rat)} (h:DP T (FV n) n n m n n) {v:List Rat} (hv:v.length=n) (hTs:Sq n T):A6 (m.map (·.drop n)) (A6 T v)=v:=by
 refine List.ext_getElem? λ i => ?_
 rw[A6,List.getElem?_map,List.getElem?_map];cases hi:m[i]? with
 | none =>
  have h1:=List.getElem?_eq_none_iff.1 hi;rw[List.getElem?_eq_none (l:=v) (by rw[hv,<-h.len];exact h1)];rfl
 | some r =>
  have h1:=(zS hi).1;rw[h.len]at h1;have bk:=h.wid r (zM hi);obtain ⟨x,hx⟩ : ∃ x,v[i]? = some x:=⟨_,zE (by omega)⟩;have h2:=h.kt _ (AfR hTs hv) r (zM hi);have e:r.take n=DE n i:=by
   refine List.ext_getElem? λ j => ?_
   by_cases hj:j<n
   ·obtain ⟨y,hy⟩ : ∃ y,r[j]? = some y:=⟨_,zE (by omega)⟩
    have h3:=h.bf rfl i r hi j hj;rw[List.getD_eq_getElem?_getD,hy]at h3;rw[List.getElem?_take,if_pos hj,hy,DE,List.getElem?_map,List.getElem?_range hj];show some y=some _;rw[show y=(if i=j then 1 else 0:Rat) from h3];show some (if i=j then (1:Rat) else 0)=some (if (j:Int)=(i:Int) then (1:Rat) else 0);by_cases h5:i=j
    ·rw[if_pos h5,if_pos (by omega)]
    ·rw[if_neg h5,if_neg (by omega)]
   ·rw[List.getElem?_eq_none (by rw[List.length_take];omega),List.getElem?_eq_none (by rw[O9];omega)]
  rw[<-List.take_append_drop n r,jI,OM _ _ _ _ (by rw[List.length_take,hv];omega),e,WG hv h1,F4 (r.drop n),aZ,F4 _ (r.drop n),List.getD_eq_getElem?_getD,hx]at h2;rw[hx];show some (A2 (r.drop n) (A6 T v))=some x;have h3:x + -1*A2 (r.drop n) (A6 T v)=0:=h2;congr 1;grind
def Z0 (a:List (List Rat)) (W r:Nat):Prop := ∃ m P,DY m W W P/\(∀ X,ED m X↔ED a X)/\P.length=r
structure Pt where
 x:Rat
 y:Rat
 w:Rat
def Aim (g:List Pt) (f:Pt->Rat):Rat:=g.foldl (λ s p=>s+f p) 0
def rhs (g:List Pt) (k:Nat):Rat:=Aim g λ p=>p.w*p.x^k*p.y
def G2 (a:List (List Rat)) (w:Nat):List (List Rat):=(List.range w).map (C0 a)
theorem zJ (a:List (List Rat)) (w:Nat):(G2 a w).length=w:=by simp [G2]
theorem zC {a:List (List Rat)} {w i:Nat} (h:i<w):(G2 a w)[i]? = some (C0 a i):=by
 simp only[G2,List.getElem?_map,List.getElem?_range h,Option.map_some]
theorem Aiv {a:List (List Rat)} {w n:Nat} (h:a.length=n) : ∀ r∈G2 a w,r.length=n:=λ r hr=>by
 obtain ⟨i,_,rfl⟩:=List.mem_map.1 hr;rw[aQ];exact h
theorem Rv {L:Lib} {kk:List It} {tm:Tm} {M:Mem} {Q Q':Tm->Mem->Prop} (h:AA L kk tm M Q) (hq : ∀ tm M,Q tm M->Q' tm M):AA L kk tm M Q':=λ σ st hr=>by
 obtain ⟨n,c,s,h1,σ',bn,M',h2,h3⟩:=h σ st hr;exact ⟨n,c,s,h1,σ',bn,M',h2,hq _ _ h3⟩
end Go.e8

namespace Go.e8
open F
attribute [local irreducible] AA AF AM AE C8 AX BF BD B9 B2 CX E9 B0 A5 B5 CQ AB A7 AJ pw BR BO C4 D0 DZ DU DN BZ DW
variable {L:Lib}
set_option maxHeartbeats 1000000
def CS (a b:Int):Int:=if a<b then -1 else if b<a then 1 else 0
theorem HM {a b:Int} (h:a<b) : -1=CS a b:=by unfold CS;rw[if_pos h]
theorem OK {a b:Int} (h:b<a):1=CS a b:=by unfold CS;rw[if_neg (by omega),if_pos h]
theorem SX {a b:Int} (h:a=b):0=CS a b:=by unfold CS;rw[if_neg (by omega),if_neg (by omega)]
theorem Aeb (N:e5 L) (a:Int):Ev L 58 [.int .i64 a] (.bool false):=by
 refine Ev.x N.KD rfl rfl ?_;(repeat' ((first|(apply AG<;>intro hc<;>try omega)|apply AD)<;>conv=>whnf))
 exact HH rfl
theorem Aec (N:e5 L) (a:Int):Ev L 59 [.int .u32 a] (.bool false):=by
 refine Ev.x N.KE rfl rfl ?_;(repeat' ((first|(apply AG<;>intro hc<;>try omega)|apply AD)<;>conv=>whnf))
 exact HH rfl
theorem Yn (N:e5 L) (a b:Int):Ev L 60 [.int .i64 a,.int .i64 b] (.int .i64 (CS a b)):=by
 refine Ev.x N.KB rfl rfl ?_;(repeat' ((first|(apply AG<;>intro hc<;>try omega)|apply AD|refine AC (Aeb N _) ?_)<;>conv=>whnf))
 ·exact CM (HM (by omega))
 ·exact CM (OK (by omega))
 ·exact CM (SX (by omega))
theorem Yo (N:e5 L) (a b:Int):Ev L 61 [.int .u32 a,.int .u32 b] (.int .i64 (CS a b)):=by
 refine Ev.x N.KC rfl rfl ?_;(repeat' ((first|(apply AG<;>intro hc<;>try omega)|apply AD|refine AC (Aec N _) ?_)<;>conv=>whnf))
 ·exact CM (HM (by omega))
 ·exact CM (OK (by omega))
 ·exact CM (SX (by omega))
theorem rB (N:e5 L) (l:List Nat) (q:Bool) (hl:l.length<=1099511627776):Ev L 62 [.sl q (l.map AL)] (.sl false (l.map AL)):=by
 cases l with
 | nil =>
  refine FH.nil N.G1 (FH.x N.G1 rfl rfl ?_) (FH.x N.G1 rfl rfl ?_)
  ·(repeat' (apply AD<;>conv=>whnf))
   exact AW rfl (by simp [A1,FL])
  ·(repeat' (apply AD<;>conv=>whnf))
   refine ZW (enc:=AL) (l:=[]) (l':=[]) rfl (λ_=>rfl) (by simp) (by simp) ?_;(conv=>whnf)
   (repeat' ((refine C7 (λ_=>rfl) rfl ?_ ?_;(first|rfl|simp))<;>conv=>whnf))
   exact AW rfl (by simp [A1,FL])
 | cons d l =>
  refine FH.cons (FH.x N.G1 rfl rfl ?_);(repeat' (apply AD<;>conv=>whnf))
  refine AU (by simp) ?_;(conv=>whnf)
  skip
  refine ZW (enc:=AL) (l:=[]) (l':=d::l) rfl (λ_=>rfl) (by simp at hl ⊢;omega) (by simp at hl ⊢;omega) ?_;(conv=>whnf)
  (repeat' ((refine C7 (λ_=>rfl) rfl ?_ ?_;(first|rfl|simp))<;>conv=>whnf))
  exact AW rfl (by simp only[A1,true_and];exact CI (d::l))
theorem J5 (N:e5 L) (l:List Nat) (q:Bool) (hD:AY l) (hl:l.length<=1099511627776):XY L 65 [.sl q (l.map AL)] (.sl q ((dg (val l)).map AL)):=by
 refine Ug N.FD rfl rfl rfl rfl rfl ?_;(repeat' ((first|apply AQ|apply AD)<;>conv=>whnf))
 refine DF (λ n=>n) (λ(n:Nat)=>n<=l.length /\ ∀ i,n<=i->i<l.length->l[i]? = some 0) (λ n=>[(3,.int .i64 n)]) (λ_=>[]) l.length ⟨Nat.le_refl _,λ i h1 h2=>by omega⟩ ?_;intro n ⟨p1,p2⟩ ih;rcases n with _|n
 ·(repeat' ((first|(apply AG<;>intro hc<;>try omega)|apply AD)<;>conv=>whnf))
  refine OC (k:=0) (λ_=>rfl) (by omega) ?_;(conv=>whnf)
  refine ⟨_,rfl,?_⟩;rw[FQ hD p1 p2 (Or.inl rfl)];rfl
 ·have e1:((n+1:Nat):Int)-1=n:=by omega
  (repeat' ((first|(apply AG<;>intro hc<;>try omega)|(apply BT;omega)|(refine QF (by assumption) ?_ (λ e he hb => ?_);omega)|apply AD)<;>conv=>whnf))
  ·rw[e1]
   exact BQ [] (ih n (by omega) ⟨by omega,λ i h1 h2=>by
    by_cases h:i=n
    ·subst h
     rw[e1,Int.toNat_natCast]at he;rw[he];congr 1;omega
    ·exact p2 i (by omega) h2⟩)
  ·refine OC (k:=n+1) (λ_=>rfl) (by omega) ?_
   (conv=>whnf)
   refine ⟨_,rfl,?_⟩;rw[e1,Int.toNat_natCast]at he;rw[FQ hD p1 p2 (Or.inr ⟨e,he,by omega⟩)];rfl
theorem YI (N:e5 L) (l:List Nat) (q:Bool) (hD:AY l) (hl:l.length<=1099511627776):Ev L 66 [.sl q (l.map AL)] (.sl false ((dg (val l)).map AL)):=by
 have hc:=EI hD;refine Ev.x N.LD rfl rfl ?_;(repeat' ((first|apply AD|refine JK (J5 N l _ hD hl) ?_|refine AC (rB N (dg (val l)) _ (by omega)) ?_)<;>conv=>whnf))
 exact AW rfl (by simp only[A1,true_and];exact CI _)
theorem Wq {a b:Nat} (h:((dg a).length:Int)≠(dg b).length):CS (dg a).length (dg b).length=CS a b:=by
 rcases Nat.lt_trichotomy (dg a).length (dg b).length with h1|h1|h1
 ·have:=XN h1
  rw[<-HM (by omega),<-HM (by omega)]
 ·omega
 ·have:=XN h1
  rw[<-OK (by omega),<-OK (by omega)]
theorem PM (N:e5 L) (a b:List Nat) (q1 q2:Bool) (hA:AY a) (hB:AY b) (la:a.length<=1099511627776) (lb:b.length<=1099511627776):Ev L 67 [.sl q1 (a.map AL),.sl q2 (b.map AL)] (.int .i64 (CS (val a) (val b))):=by
 have l1:=EI hA;have l2:=EI hB;have d1:=DI (val a);have d2:=DI (val b);refine Ev.x N.K9 rfl rfl ?_;(repeat' ((first|(apply AG<;>intro hc<;>try omega)|(apply BT;omega)|apply AQ|apply AD|refine JK (J5 N a _ hA la) ?_|refine JK (J5 N b _ hB lb) ?_|refine AC (Yn N _ _) ?_)<;>conv=>whnf))
 ·exact CM (Wq (by omega))
 have hlen:(dg (val a)).length=(dg (val b)).length:=by omega
 have v1:=BN (val a);have v2:=BN (val b);generalize dg (val a)=X at *;generalize dg (val b)=Y at *;refine DF (λ n=>n) (λ(n:Nat)=>n<=X.length/\X.drop n=Y.drop n) (λ n=>[(7,.int .i64 ((n:Int)-1))]) (λ_=>[]) X.length ⟨Nat.le_refl _,by rw[List.drop_of_length_le (Nat.le_refl _),List.drop_of_length_le (by omega)]⟩ ?_;intro n ⟨p1,p2⟩ ih;rcases n with _|n
 ·(repeat' ((first|(apply AG<;>intro hc<;>try omega)|apply AD)<;>conv=>whnf))
  rw[List.drop_zero,List.drop_zero]at p2;exact CM (SX (by rw[<-v1,<-v2,p2]))
 ·have e1:((n+1:Nat):Int)-1=n:=by omega
  rw[e1];(repeat' ((first|(apply AG<;>intro hc<;>try omega)|(apply BT;omega)|(refine A8 (by assumption) ?_ rfl ?_;omega)|(refine Z8 (by assumption) ?_ (λ e he hb => ?_);omega)|apply AD|refine AC (Yo N _ _) ?_)<;>conv=>whnf))
  ·rename_i x hx _
   rcases Nat.lt_trichotomy x e with h|h|h
   ·have:=dN d1 d2 hlen hx he p2 h
    refine CM ?_;rw[<-HM (by omega),<-HM (by omega)]
   ·omega
   ·have:=dN d2 d1 hlen.symm he hx p2.symm h
    refine CM ?_;rw[<-OK (by omega),<-OK (by omega)]
  ·rename_i x hx _
   refine BH [] (by (conv=>whnf);exact ⟨rfl,rfl,rfl⟩) (ih n (by omega) ⟨by omega,?_⟩);obtain ⟨i1,e1⟩:=zS hx;obtain ⟨i2,e2⟩:=zS he;rw[List.drop_eq_getElem_cons i1,List.drop_eq_getElem_cons i2,p2,e1,e2];congr 1;omega
theorem dQ {y:List Nat} {i:Nat} (h:y.length<=i):val (y.take (i+1))=val (y.take i):=by
 rw[CW h,CW (by omega)]
theorem Aeh (N:e5 L) (a b:List Nat) (q1 q2:Bool) (hA:AY a) (hB:AY b) (la:a.length<=1099511627775) (lb:b.length<=1099511627775):Ev L 68 [.sl q1 (a.map AL),.sl q2 (b.map AL)] (.sl false ((dg (val a+val b)).map AL)):=by
 have l1:=EI hA;have l2:=EI hB;have d1:=DI (val a);have d2:=DI (val b);have v1:=BN (val a);have v2:=BN (val b);refine Ev.x N.K8 rfl rfl ?_;(repeat' ((first|(apply AG<;>intro hc<;>try omega)|(apply A0;omega)|apply AQ|apply AD|refine JK (J5 N a _ hA (by omega)) ?_|refine JK (J5 N b _ hB (by omega)) ?_)<;>conv=>whnf))
 ·generalize dg (val a)=y at *
  generalize dg (val b)=x at *;rw[<-v1,<-v2,Nat.add_comm (val y)];have hlen:y.length<=x.length:=by omega
  have yb:x.length<=1099511627775:=by omega
  clear v1 v2 hA hB la lb;refine EH (enc:=AL) 0 (x.length+1) rfl (by omega) (by omega) ?_;(conv=>whnf)
  (repeat' (apply AQ<;>conv=>whnf))
  refine FY (λ i _ _=>x.length-i) (λ(i:Nat) (o:List Nat) (c:Nat)=>i<=x.length/\o.length=x.length+1/\AY o/\c<=1/\val (o.take i)+4294967296^i*c=val (x.take i)+val (y.take i)) (λ i o c=>[(8,.int .u64 (c:Int)),(29,.int .i64 i)]) (λ i o c=>[(26,26,.rw 1 (o.map AL))]) 0 (List.replicate (x.length+1) 0) 0 ⟨by omega,by simp,ID _,by omega,by simp [val]⟩ ?_;intro i o c ⟨p1,p2,p3,p4,p5⟩ ih;by_cases hi:i<x.length
  ·(repeat' ((first|(apply AG<;>intro hc<;>try omega)|(apply AU;omega)|(apply FN;omega)|(apply B6;omega)|apply FG|apply AQ|(refine Z8 (by assumption) ?_ (λ e he hb => ?_);omega)|apply AD)<;>conv=>whnf))
   ·rename_i d hd _
    refine EY (by omega) ?_;(conv=>whnf)
    (repeat' ((first|(apply A0;omega)|apply E4)<;>conv=>whnf))
    refine BH [] (by (conv=>whnf);exact ⟨rfl,rfl,rfl⟩) (ih (i+1) _ _ (by omega) ⟨by omega,by simpa using p2,p3.set _ (by omega),by omega,?_⟩);have h1:=DK hd;have h2:=DK he;have h3:=PJ (val (o.take i)) (4294967296^i) (d+c+e);have h4:=FK (v:=(d+c+e)%4294967296) (show i<o.length by omega);rw[h4,h1,h2,Nat.pow_succ];generalize 4294967296^i=p at *;rw[h3,Nat.mul_add,Nat.mul_add];omega
   ·refine EY (by omega) ?_
    (conv=>whnf)
    (repeat' ((first|(apply A0;omega)|apply E4)<;>conv=>whnf))
    refine BH [] (by (conv=>whnf);exact ⟨rfl,rfl,rfl⟩) (ih (i+1) _ _ (by omega) ⟨by omega,by simpa using p2,p3.set _ (by omega),by omega,?_⟩);have h1:=DK he;have h2:=dQ (y:=y) (i:=i) (by omega);have h3:=PJ (val (o.take i)) (4294967296^i) (e+c);have h4:=FK (v:=(e+c)%4294967296) (show i<o.length by omega);rw[h4,h1,h2,Nat.pow_succ];generalize 4294967296^i=p at *;rw[h3,Nat.mul_add];omega
  ·obtain rfl:i=x.length:=by omega
   clear ih;(repeat' ((first|(apply AG<;>intro hc<;>try omega)|(apply AU;omega)|(apply DX;omega)|apply AQ|apply AD)<;>conv=>whnf))
   refine EY (by omega) ?_;(conv=>whnf)
   skip
   have hV:val (o.set x.length c)=val x+val y:=by
    have h4:=FK (v:=c) (show x.length<o.length by omega);rw[zT (by simp;omega)]at h4;rw[h4,p5,CW (Nat.le_refl _),CW hlen]
   have hD:AY (o.set x.length c):=p3.set _ (by omega);have hL:(o.set x.length c).length=x.length+1:=by simpa using p2
   clear p3 p4 p5 p2;generalize o.set x.length c=O at *;rw[<-hL];refine EM 1000 N.FD rfl rfl ?_;(repeat' (apply AD<;>conv=>whnf))
   refine DL (λ n=>n) (λ(n:Nat)=>n<=(O).length /\ ∀ i,n<=i->i<(O).length->(O)[i]? = some 0) (λ n=>[(3,.int .i64 n)]) (λ_=>[]) [] [] (O).length (by first|exact (by (conv=>whnf);exact ⟨rfl,rfl,rfl⟩)|(simp only[List.length_set,List.length_replicate];exact (by (conv=>whnf);exact ⟨rfl,rfl,rfl⟩))) ⟨Nat.le_refl _,λ i h1 h2=>by omega⟩ ?_;intro n ⟨p1,p2⟩ ih;rcases n with _|n
   ·(repeat' ((first|(apply AG<;>intro hc<;>try omega)|apply AD)<;>conv=>whnf))
    refine GN 0 (by omega) (by omega) ?_;(conv=>whnf)
    refine ⟨rfl,_,rfl,?_⟩;(conv=>whnf)
    have hm:=p1;have cg:=FQ (l:=O) (by assumption) p1 p2 (Or.inl rfl);clear ih p1 p2;(refine G9 (enc:=AL) (λ_=>rfl) (by omega) ?_;(conv=>whnf);exact AW (by rw[<-hV,<-cg];rfl) (by simp only[A1,true_and];exact CI _))
   ·have e1:((n+1:Nat):Int)-1=n:=by omega
    (repeat' ((first|(apply AG<;>intro hc<;>try omega)|(apply AU;omega)|(apply BT;omega)|(refine RS (by assumption) ?_ (λ v hv hb => ?_);omega)|apply AD)<;>conv=>whnf))
    ·rw[e1]
     exact BQ [] (ih n (by omega) ⟨by omega,λ i h1 h2=>by
      by_cases h:i=n
      ·subst h
       rw[e1,Int.toNat_natCast]at hv;rw[hv];congr 1;omega
      ·exact p2 i (by omega) h2⟩)
    ·refine GN (n+1) (by omega) (by omega) ?_
     (conv=>whnf)
     refine ⟨rfl,_,rfl,?_⟩;(conv=>whnf)
     rw[e1,Int.toNat_natCast]at hv;have hm:=p1;have cg:=FQ (l:=O) (by assumption) p1 p2 (Or.inr ⟨_,hv,by omega⟩);clear ih p1 p2 hv;(refine G9 (enc:=AL) (λ_=>rfl) (by omega) ?_;(conv=>whnf);exact AW (by rw[<-hV,<-cg];rfl) (by simp only[A1,true_and];exact CI _))
 ·generalize dg (val a)=x at *
  generalize dg (val b)=y at *;rw[<-v1,<-v2];have hlen:y.length<=x.length:=by omega
  have yb:x.length<=1099511627775:=by omega
  clear v1 v2 hA hB la lb;refine EH (enc:=AL) 0 (x.length+1) rfl (by omega) (by omega) ?_;(conv=>whnf)
  (repeat' (apply AQ<;>conv=>whnf))
  refine FY (λ i _ _=>x.length-i) (λ(i:Nat) (o:List Nat) (c:Nat)=>i<=x.length/\o.length=x.length+1/\AY o/\c<=1/\val (o.take i)+4294967296^i*c=val (x.take i)+val (y.take i)) (λ i o c=>[(8,.int .u64 (c:Int)),(29,.int .i64 i)]) (λ i o c=>[(26,26,.rw 1 (o.map AL))]) 0 (List.replicate (x.length+1) 0) 0 ⟨by omega,by simp,ID _,by omega,by simp [val]⟩ ?_;intro i o c ⟨p1,p2,p3,p4,p5⟩ ih;by_cases hi:i<x.length
  ·(repeat' ((first|(apply AG<;>intro hc<;>try omega)|(apply AU;omega)|(apply FN;omega)|(apply B6;omega)|apply FG|apply AQ|(refine Z8 (by assumption) ?_ (λ e he hb => ?_);omega)|apply AD)<;>conv=>whnf))
   ·rename_i d hd _
    refine EY (by omega) ?_;(conv=>whnf)
    (repeat' ((first|(apply A0;omega)|apply E4)<;>conv=>whnf))
    refine BH [] (by (conv=>whnf);exact ⟨rfl,rfl,rfl⟩) (ih (i+1) _ _ (by omega) ⟨by omega,by simpa using p2,p3.set _ (by omega),by omega,?_⟩);have h1:=DK hd;have h2:=DK he;have h3:=PJ (val (o.take i)) (4294967296^i) (d+c+e);have h4:=FK (v:=(d+c+e)%4294967296) (show i<o.length by omega);rw[h4,h1,h2,Nat.pow_succ];generalize 4294967296^i=p at *;rw[h3,Nat.mul_add,Nat.mul_add];omega
   ·refine EY (by omega) ?_
    (conv=>whnf)
    (repeat' ((first|(apply A0;omega)|apply E4)<;>conv=>whnf))
    refine BH [] (by (conv=>whnf);exact ⟨rfl,rfl,rfl⟩) (ih (i+1) _ _ (by omega) ⟨by omega,by simpa using p2,p3.set _ (by omega),by omega,?_⟩);have h1:=DK he;have h2:=dQ (y:=y) (i:=i) (by omega);have h3:=PJ (val (o.take i)) (4294967296^i) (e+c);have h4:=FK (v:=(e+c)%4294967296) (show i<o.length by omega);rw[h4,h1,h2,Nat.pow_succ];generalize 4294967296^i=p at *;rw[h3,Nat.mul_add];omega
  ·obtain rfl:i=x.length:=by omega
   clear ih;(repeat' ((first|(apply AG<;>intro hc<;>try omega)|(apply AU;omega)|(apply DX;omega)|apply AQ|apply AD)<;>conv=>whnf))
   refine EY (by omega) ?_;(conv=>whnf)
   skip
   have hV:val (o.set x.length c)=val x+val y:=by
    have h4:=FK (v:=c) (show x.length<o.length by omega);rw[zT (by simp;omega)]at h4;rw[h4,p5,CW (Nat.le_refl _),CW hlen]
   have hD:AY (o.set x.length c):=p3.set _ (by omega);have hL:(o.set x.length c).length=x.length+1:=by simpa using p2
   clear p3 p4 p5 p2;generalize o.set x.length c=O at *;rw[<-hL];refine EM 1000 N.FD rfl rfl ?_;(repeat' (apply AD<;>conv=>whnf))
   refine DL (λ n=>n) (λ(n:Nat)=>n<=(O).length /\ ∀ i,n<=i->i<(O).length->(O)[i]? = some 0) (λ n=>[(3,.int .i64 n)]) (λ_=>[]) [] [] (O).length (by first|exact (by (conv=>whnf);exact ⟨rfl,rfl,rfl⟩)|(simp only[List.length_set,List.length_replicate];exact (by (conv=>whnf);exact ⟨rfl,rfl,rfl⟩))) ⟨Nat.le_refl _,λ i h1 h2=>by omega⟩ ?_;intro n ⟨p1,p2⟩ ih;rcases n with _|n
   ·(repeat' ((first|(apply AG<;>intro hc<;>try omega)|apply AD)<;>conv=>whnf))
    refine GN 0 (by omega) (by omega) ?_;(conv=>whnf)
    refine ⟨rfl,_,rfl,?_⟩;(conv=>whnf)
    have hm:=p1;have cg:=FQ (l:=O) (by assumption) p1 p2 (Or.inl rfl);clear ih p1 p2;(refine G9 (enc:=AL) (λ_=>rfl) (by omega) ?_;(conv=>whnf);exact AW (by rw[<-hV,<-cg];rfl) (by simp only[A1,true_and];exact CI _))
   ·have e1:((n+1:Nat):Int)-1=n:=by omega
    (repeat' ((first|(apply AG<;>intro hc<;>try omega)|(apply AU;omega)|(apply BT;omega)|(refine RS (by assumption) ?_ (λ v hv hb => ?_);omega)|apply AD)<;>conv=>whnf))
    ·rw[e1]
     exact BQ [] (ih n (by omega) ⟨by omega,λ i h1 h2=>by
      by_cases h:i=n
      ·subst h
       rw[e1,Int.toNat_natCast]at hv;rw[hv];congr 1;omega
      ·exact p2 i (by omega) h2⟩)
    ·refine GN (n+1) (by omega) (by omega) ?_
     (conv=>whnf)
     refine ⟨rfl,_,rfl,?_⟩;(conv=>whnf)
     rw[e1,Int.toNat_natCast]at hv;have hm:=p1;have cg:=FQ (l:=O) (by assumption) p1 p2 (Or.inr ⟨_,hv,by omega⟩);clear ih p1 p2 hv;(refine G9 (enc:=AL) (λ_=>rfl) (by omega) ?_;(conv=>whnf);exact AW (by rw[<-hV,<-cg];rfl) (by simp only[A1,true_and];exact CI _))
theorem Sz {a b:Int} (h:CS a b<=0):a<=b:=by
 unfold CS at h;split at h
 ·omega
 ·split at h<;>omega
theorem Ta {a b:Int} (h:0<CS a b):b<a:=by
 unfold CS at h;split at h
 ·omega
 ·split at h<;>omega
theorem rR (N:e5 L) (a b:List Nat) (q1 q2:Bool) (hA:AY a) (hB:AY b) (la:a.length<=1099511627776) (lb:b.length<=1099511627776):Ev L 69 [.sl q1 (a.map AL),.sl q2 (b.map AL)] (.sl false ((dg (val a-val b)).map AL)):=by
 have l1:=EI hA;have l2:=EI hB;have d1:=DI (val a);have d2:=DI (val b);have v1:=BN (val a);have v2:=BN (val b);refine Ev.x N.LC rfl rfl ?_;(repeat' ((first|(apply AG<;>intro hc<;>try omega)|apply AQ|apply AD|refine AC (PM N a b _ _ hA hB la lb) ?_|refine JK (J5 N a _ hA la) ?_|refine JK (J5 N b _ hB lb) ?_)<;>conv=>whnf))
 ·have:=Sz hc
  refine AW ?_ (by simp only[A1,true_and];exact CI _);rw[show val a-val b=0 by omega,EN];rfl
 ·have m9:=Ta hc
  have xp:(dg (val b)).length<=(dg (val a)).length:=by
   rcases Nat.lt_or_ge (dg (val a)).length (dg (val b)).length with h|h
   ·have:=XN h;omega
   ·exact h
  have ui:val b<val a:=by omega
  clear m9 hc;generalize dg (val a)=x at *;generalize dg (val b)=y at *;rw[<-v1,<-v2]at ui ⊢;clear v1 v2 hA hB lb;refine EH (enc:=AL) 0 x.length rfl rfl (by omega) ?_;(conv=>whnf)
  (repeat' (apply AQ<;>conv=>whnf))
  refine FY (λ i _ _=>x.length-i) (λ(i:Nat) (o:List Nat) (c:Nat)=>i<=x.length/\o.length=x.length/\AY o/\c<=1/\val (o.take i)+val (y.take i)=val (x.take i)+4294967296^i*c) (λ i o c=>[(8,.int .u64 (c:Int)),(25,.int .i64 i)]) (λ i o c=>[(22,22,.rw 1 (o.map AL))]) 0 (List.replicate x.length 0) 0 ⟨by omega,by simp,ID _,by omega,by simp [val]⟩ ?_;intro i o c ⟨p1,p2,p3,p4,p5⟩ ih;by_cases hi:i<x.length
  ·(repeat' ((first|(apply AG<;>intro hc<;>try omega)|(apply AU;omega)|(apply Z7;omega)|(apply B6;omega)|apply FG|apply AQ|(refine Z8 (by assumption) ?_ (λ e he hb => ?_);omega)|apply AD)<;>conv=>whnf))
   ·rename_i d hd dk
    obtain ⟨s1,s2⟩:=Ail dk hb p4;refine EY (by omega) ?_;(conv=>whnf)
    (repeat' ((first|(apply A0;omega)|apply Z6)<;>conv=>whnf))
    generalize D7 (D7 d c) e=t at *;refine BH [] (by (conv=>whnf);exact ⟨rfl,rfl,rfl⟩) (ih (i+1) _ _ (by omega) ⟨by omega,by simpa using p2,p3.set _ (by omega),s2,?_⟩);rw[FK (by omega),DK hd,DK he,Nat.pow_succ];exact yR p5 s1
   ·obtain ⟨s1,s2⟩:=Aik hb p4
    refine EY (by omega) ?_;(conv=>whnf)
    (repeat' ((first|(apply A0;omega)|apply Z6)<;>conv=>whnf))
    generalize D7 e c=t at *;refine BH [] (by (conv=>whnf);exact ⟨rfl,rfl,rfl⟩) (ih (i+1) _ _ (by omega) ⟨by omega,by simpa using p2,p3.set _ (by omega),s2,?_⟩);rw[FK (by omega),DK he,dQ (by omega),Nat.pow_succ];rw[<-Nat.add_zero (t%4294967296)]at s1;have:=yR (e:=0) p5 s1
    rw[Nat.mul_zero,Nat.add_zero]at this;exact this
  ·obtain rfl:i=x.length:=by omega
   clear ih;have fp:c=0:=by
    rw[CW (by omega),CW xp,CW (Nat.le_refl _)]at p5;have:=EQ p3
    rw[p2]at this;rcases Nat.eq_zero_or_pos c with h|h
    ·exact h
    ·have:c=1:=by omega
     subst this;omega
   subst fp;have hV:val o=val x-val y:=by
    rw[CW (by omega),CW xp,CW (Nat.le_refl _)]at p5;omega
   clear p5 p4;rw[<-p2];(repeat' ((first|(apply AG<;>intro hc<;>try omega)|apply AD)<;>conv=>whnf))
   refine EM 1000 N.FD rfl rfl ?_;(repeat' (apply AD<;>conv=>whnf))
   refine DL (λ n=>n) (λ(n:Nat)=>n<=(o).length /\ ∀ i,n<=i->i<(o).length->(o)[i]? = some 0) (λ n=>[(3,.int .i64 n)]) (λ_=>[]) [] [] (o).length (by first|exact (by (conv=>whnf);exact ⟨rfl,rfl,rfl⟩)|(simp only[List.length_set,List.length_replicate];exact (by (conv=>whnf);exact ⟨rfl,rfl,rfl⟩))) ⟨Nat.le_refl _,λ i h1 h2=>by omega⟩ ?_;intro n ⟨p1,p2⟩ ih;rcases n with _|n
   ·(repeat' ((first|(apply AG<;>intro hc<;>try omega)|apply AD)<;>conv=>whnf))
    refine GN 0 (by omega) (by omega) ?_;(conv=>whnf)
    refine ⟨rfl,_,rfl,?_⟩;(conv=>whnf)
    have hm:=p1;have cg:=FQ (l:=o) (by assumption) p1 p2 (Or.inl rfl);clear ih p1 p2;(refine G9 (enc:=AL) (λ_=>rfl) (by omega) ?_;(conv=>whnf);exact AW (by rw[<-hV,<-cg];rfl) (by simp only[A1,true_and];exact CI _))
   ·have e1:((n+1:Nat):Int)-1=n:=by omega
    (repeat' ((first|(apply AG<;>intro hc<;>try omega)|(apply AU;omega)|(apply BT;omega)|(refine RS (by assumption) ?_ (λ v hv hb => ?_);omega)|apply AD)<;>conv=>whnf))
    ·rw[e1]
     exact BQ [] (ih n (by omega) ⟨by omega,λ i h1 h2=>by
      by_cases h:i=n
      ·subst h
       rw[e1,Int.toNat_natCast]at hv;rw[hv];congr 1;omega
      ·exact p2 i (by omega) h2⟩)
    ·refine GN (n+1) (by omega) (by omega) ?_
     (conv=>whnf)
     refine ⟨rfl,_,rfl,?_⟩;(conv=>whnf)
     rw[e1,Int.toNat_natCast]at hv;have hm:=p1;have cg:=FQ (l:=o) (by assumption) p1 p2 (Or.inr ⟨_,hv,by omega⟩);clear ih p1 p2 hv;(refine G9 (enc:=AL) (λ_=>rfl) (by omega) ?_;(conv=>whnf);exact AW (by rw[<-hV,<-cg];rfl) (by simp only[A1,true_and];exact CI _))
theorem gZ (N:e5 L) (a b:List Nat) (q1 q2:Bool) (hA:AY a) (hB:AY b) (Pg:a.length+b.length<=1099511627776):Ev L 70 [.sl q1 (a.map AL),.sl q2 (b.map AL)] (.sl false ((dg (val a*val b)).map AL)):=by
 have l1:=EI hA;have l2:=EI hB;have d1:=DI (val a);have d2:=DI (val b);have v1:=BN (val a);have v2:=BN (val b);refine Ev.x N.LB rfl rfl ?_;have hz : ∀ p:Prop,((dg (val a)).length:Int)=0\/((dg (val b)).length:Int)=0->AJ (.sl false []) (.sl false ((dg (val a*val b)).map AL)):=λ_ h=>by
  have:val a*val b=0:=by
   rcases h with h|h
   ·have:dg (val a)=[]:=List.eq_nil_of_length_eq_zero (by omega)
    rw[gC.1 this,Nat.zero_mul]
   ·have:dg (val b)=[]:=List.eq_nil_of_length_eq_zero (by omega)
    rw[gC.1 this,Nat.mul_zero]
  exact AW (by rw[this,EN];rfl) (by simp only[A1,true_and];exact CI _)
 (repeat' ((first|(apply AG<;>intro hc<;>try omega)|(apply A0;omega)|apply AQ|apply AD|refine JK (J5 N a _ hA (by omega)) ?_|refine JK (J5 N b _ hB (by omega)) ?_)<;>conv=>whnf))
 ·exact hz True (Or.inl hc)
 ·exact hz True (Or.inr hc)
 ·clear hz
  generalize dg (val a)=x at *;generalize dg (val b)=y at *;rw[<-v1,<-v2];have np:x.length+y.length<=1099511627776:=by omega
  clear v1 v2 hA hB Pg l1 l2;refine EH (enc:=AL) 0 (x.length+y.length) rfl (by omega) (by omega) ?_;(conv=>whnf)
  (repeat' (apply AQ<;>conv=>whnf))
  refine HG (λ i _=>x.length-i) (λ(i:Nat) (o:List Nat)=>i<=x.length/\o.length=x.length+y.length/\AY o/\val o=val (x.take i)*val y /\ ∀ k,i+y.length<=k->k<o.length->o[k]? = some 0) (λ i o=>[(34,.int .i64 i)]) (λ i o=>[(31,31,.rw 1 (o.map AL))]) 0 (List.replicate (x.length+y.length) 0) ⟨by omega,by simp,ID _,by simp [val,dT],λ k h1 h2=>by simp at h2;simp [h2]⟩ ?_;intro i O ⟨p1,p2,p3,p4,p5⟩ ih;by_cases hi:i<x.length
  ·obtain ⟨d,hd⟩ : ∃ d,x[i]? = some d:=⟨_,zE hi⟩
   have dk:=d1.at hd;(repeat' ((first|(apply AG<;>intro hc<;>try omega)|(apply A0;omega)|apply AQ|(refine A8 (by assumption) ?_ rfl ?_;omega)|apply AD)<;>conv=>whnf))
   ·refine BH [] (by (conv=>whnf);exact ⟨rfl,rfl,rfl⟩) (ih (i+1) O (by omega) ⟨by omega,p2,p3,?_,λ k h1 h2=>p5 k (by omega) h2⟩)
    rw[DK hd,p4,show d=0 by omega,Nat.mul_zero,Nat.add_zero]
   ·refine FY (λ j _ _=>y.length-j) (λ(j:Nat) (o:List Nat) (c:Nat)=>j<=y.length/\o.length=x.length+y.length/\AY o/\c<4294967296/\val o+4294967296^(i+j)*c=val O+4294967296^i*(d*val (y.take j)) /\ ∀ k,i+j<=k->o[k]? = O[k]?) (λ j o c=>[(10,.int .u64 (c:Int)),(43,.int .i64 j)]) (λ j o c=>[(31,31,.rw 1 (o.map AL))]) 0 O 0 ⟨by omega,p2,p3,by omega,by simp [val],λ_ _=>rfl⟩ ?_
    intro j o c ⟨r1,r2,r3,r4,r5,r6⟩ jh;have e1:((i:Int)+j).toNat=i+j:=by omega
    by_cases hj:j<y.length
    ·obtain ⟨w,hw⟩ : ∃ w,y[j]? = some w:=⟨_,zE hj⟩
     have Lu:=d2.at hw;have hm:=W2 dk Lu;(repeat' ((first|(apply AG<;>intro hc<;>try omega)|(apply AU;omega)|(apply A0;omega)|(apply FN;omega)|(apply PD;omega)|(apply B6;omega)|apply FG|(refine A8 (by assumption) ?_ rfl ?_;omega)|(refine nD (by assumption) ?_ (λ v hv hb => ?_);omega)|apply AD)<;>conv=>whnf))
     refine aC (i+j) (by omega) (by omega) ?_;(conv=>whnf)
     (repeat' ((first|(apply A0;omega)|apply E4)<;>conv=>whnf))
     refine BH [] (by (conv=>whnf);exact ⟨rfl,rfl,rfl⟩) (jh (j+1) _ _ (by omega) ⟨by omega,by simpa using r2,r3.set _ (by omega),by omega,?_,?_⟩)
     ·have h1:=dP (v:=(d*w+v+c)%4294967296) hv
      have h2:=PJ 0 (4294967296^(i+j)) (d*w+v+c);rw[DK hw,show i+(j+1)=i+j+1 by omega,Nat.pow_succ (4294967296) (i+j)];have h3:4294967296^i*(d*(val (y.take j)+4294967296^j*w))=4294967296^i*(d*val (y.take j))+4294967296^(i+j)*(d*w):=by rw[Nat.pow_add];grind
      rw[h3];generalize 4294967296^(i+j)=P at *;rw[Nat.mul_add P,Nat.mul_add P]at h2;omega
     ·intro k hk
      rw[List.getElem?_set_ne (by omega)];exact r6 k (by omega)
    ·obtain rfl:j=y.length:=by omega
     clear jh;(repeat' ((first|(apply AG<;>intro hc<;>try omega)|(apply AU;omega)|(apply A0;omega)|(apply DX;omega)|apply AQ|apply AD)<;>conv=>whnf))
     have hz:=r6 (i+y.length) (by omega);rw[p5 (i+y.length) (by omega) (by omega)]at hz;refine aC (i+y.length) (by omega) (by omega) ?_;(conv=>whnf)
     (repeat' ((first|(apply A0;omega)|fail)<;>conv=>whnf))
     refine BH [] (by (conv=>whnf);exact ⟨rfl,rfl,rfl⟩) (ih (i+1) _ (by omega) ⟨by omega,by simpa using r2,r3.set _ (by omega),?_,?_⟩)
     ·have h1:=dP (v:=c) hz
      rw[Nat.mul_zero,Nat.add_zero]at h1;rw[h1,r5,p4,CW (Nat.le_refl _),DK hd,Nat.add_mul,Nat.mul_assoc]
     ·intro k h1 h2
      rw[List.length_set]at h2;rw[List.getElem?_set_ne (by omega),r6 k (by omega)];exact p5 k (by omega) (by omega)
  ·obtain rfl:i=x.length:=by omega
   clear ih;rw[CW (Nat.le_refl _)]at p4;rw[<-p4,<-p2];(repeat' ((first|(apply AG<;>intro hc<;>try omega)|apply AD)<;>conv=>whnf))
   clear p5;refine EM 1000 N.FD rfl rfl ?_;(repeat' (apply AD<;>conv=>whnf))
   refine DL (λ n=>n) (λ(n:Nat)=>n<=(O).length /\ ∀ i,n<=i->i<(O).length->(O)[i]? = some 0) (λ n=>[(3,.int .i64 n)]) (λ_=>[]) [] [] (O).length (by first|exact (by (conv=>whnf);exact ⟨rfl,rfl,rfl⟩)|(simp only[List.length_set,List.length_replicate];exact (by (conv=>whnf);exact ⟨rfl,rfl,rfl⟩))) ⟨Nat.le_refl _,λ i h1 h2=>by omega⟩ ?_;intro n ⟨p1,p2⟩ ih;rcases n with _|n
   ·(repeat' ((first|(apply AG<;>intro hc<;>try omega)|apply AD)<;>conv=>whnf))
    refine GN 0 (by omega) (by omega) ?_;(conv=>whnf)
    refine ⟨rfl,_,rfl,?_⟩;(conv=>whnf)
    have hm:=p1;have cg:=FQ (l:=O) (by assumption) p1 p2 (Or.inl rfl);clear ih p1 p2;(refine G9 (enc:=AL) (λ_=>rfl) (by omega) ?_;(conv=>whnf);exact AW (by rw[<-cg];rfl) (by simp only[A1,true_and];exact CI _))
   ·have e1:((n+1:Nat):Int)-1=n:=by omega
    (repeat' ((first|(apply AG<;>intro hc<;>try omega)|(apply AU;omega)|(apply BT;omega)|(refine RS (by assumption) ?_ (λ v hv hb => ?_);omega)|apply AD)<;>conv=>whnf))
    ·rw[e1]
     exact BQ [] (ih n (by omega) ⟨by omega,λ i h1 h2=>by
      by_cases h:i=n
      ·subst h
       rw[e1,Int.toNat_natCast]at hv;rw[hv];congr 1;omega
      ·exact p2 i (by omega) h2⟩)
    ·refine GN (n+1) (by omega) (by omega) ?_
     (conv=>whnf)
     refine ⟨rfl,_,rfl,?_⟩;(conv=>whnf)
     rw[e1,Int.toNat_natCast]at hv;have hm:=p1;have cg:=FQ (l:=O) (by assumption) p1 p2 (Or.inr ⟨_,hv,by omega⟩);clear ih p1 p2 hv;(refine G9 (enc:=AL) (λ_=>rfl) (by omega) ?_;(conv=>whnf);exact AW (by rw[<-cg];rfl) (by simp only[A1,true_and];exact CI _))
end Go.e8

namespace Go.e8
open F
section
variable {K:AV->Prop} {a b s:Nat} {k':IntKind}
theorem nH (hs:s<=32) (hk:K (.int .u32 ((P5 a s:Nat):Int))):AE .shl .u32 (a:Int) k' (s:Int) K:=by
 refine eB (show s<=IntKind.u32.bits from hs) ?_;rw[wrap_u32,<-lE];exact hk
theorem PG (hs:s<=64) (h:a*2^s<=18446744073709551615) (hk:K (.int .u64 ((a*2^s:Nat):Int))):AE .shl .u64 (a:Int) k' (s:Int) K:=by
 refine eB (show s<=IntKind.u64.bits from hs) ?_;rw[IntWalk.u64_in _ (by omega)];exact hk
theorem eC (n:Nat) (hx:a%2^n=0) (hy:b<2^n) (h:a+b<=4294967295) (hk:K (.int .u32 ((a+b:Nat):Int))):AE .or .u32 (a:Int) .u32 (b:Int) K :=
 eA n hx hy (show a+b<4294967296 by omega) (IntWalk.u32_in _ (by omega)) hk
theorem Qh (n:Nat) (hx:b%2^n=0) (hy:a<2^n) (h:a+b<=4294967295) (hk:K (.int .u32 ((a+b:Nat):Int))):AE .or .u32 (a:Int) .u32 (b:Int) K:=by
 have e:C3 .or .u32 (a:Int) .u32 (b:Int)=C3 .or .u32 (b:Int) .u32 (a:Int):=by
  simp only[C3,if_true,BitVec.or_comm]
 rw[Nat.add_comm]at hk h;obtain ⟨v,h1,h2⟩:=eC (K:=K) n hx hy h hk;exact ⟨v,by rw[e];exact h1,h2⟩
theorem Qk (hs:s<=32) (hk:K (.int .u32 ((a/2^s:Nat):Int))):AE .shr .u32 (a:Int) k' (s:Int) K:=PF (show s<=IntKind.u32.bits from hs) hk
end
attribute [local irreducible] AA AF AM AE C8 AX BF BD B9 B2 CX E9 B0 A5 B5 CQ AB A7 AJ pw BR BO C4 D0 DZ DU DN BZ DW
set_option maxHeartbeats 1000000
variable {L:Lib}
def dZ (a:List Nat) (s:Nat) (o:List Nat):Prop:=AY o/\(a.length<=o.length/\o.length<=a.length+1)/\(val a*2^s<4294967296^o.length->val o=val a*2^s)
theorem Af3 {a o:List Nat} {s lo:Nat} (hD:AY o) (hl:o.length=a.length) (h:val (o.take a.length)+4294967296^a.length*lo=val (a.take a.length)*2^s):dZ a s o:=by
 refine ⟨hD,by omega,λ m9 => ?_⟩;rw[CW (by omega),CW (Nat.le_refl _)]at h;rw[hl]at m9;have:lo=0:=by
  rcases Nat.eq_zero_or_pos lo with h0|h0
  ·exact h0
  ·have:4294967296^a.length*1<=4294967296^a.length*lo:=Nat.mul_le_mul_left _ h0
   omega
 subst this;omega
theorem uR {a o:List Nat} {s lo:Nat} (hD:AY o) (od:lo<4294967296) (hl:o.length=a.length+1) (h:val (o.take a.length)+4294967296^a.length*lo=val (a.take a.length)*2^s):dZ a s (o.set a.length lo):=by
 refine ⟨hD.set _ od,by simp;omega,λ_ => ?_⟩;have h1:=FK (v:=lo) (show a.length<o.length by omega);rw[CW (by simp;omega),h,CW (Nat.le_refl _)]at h1;exact h1
theorem Ael (N:e5 L) (a:List Nat) (q:Bool) (s n:Nat) (hA:AY a) (hs:s<=31) (hn:a.length<=n/\n<=a.length+1) (la:a.length<=1099511627776) : ∃ r,Ev L 71 [.sl q (a.map AL),.int .u64 (s:Int),.int .i64 (n:Int)] r /\ ∃ o,dZ a s o/\o.length=n/\r = .sl false (o.map AL):=by
 refine Ev.xE N.I0 rfl rfl ?_;(repeat' (apply AD<;>conv=>whnf))
 refine EH (enc:=AL) 0 n rfl rfl (by omega) ?_;(conv=>whnf)
 (repeat' (apply AQ<;>conv=>whnf))
 refine FY (λ i _ _=>a.length-i) (λ(i:Nat) (o:List Nat) (lo:Nat)=>i<=a.length/\o.length=n/\AY o/\lo<2^s/\val (o.take i)+4294967296^i*lo=val (a.take i)*2^s) (λ i o lo=>[(8,.int .u32 (lo:Int)),(15,.int .i64 i)]) (λ i o lo=>[(71012,71012,.rw 1 (o.map AL))]) 0 (List.replicate n 0) 0 ⟨by omega,by simp,ID _,Nat.two_pow_pos s,by simp [val]⟩ ?_;intro i o lo ⟨p1,p2,p3,p4,p5⟩ ih;have sj:=Y6 (s:=s) (by omega);by_cases hi:i<a.length
 ·obtain ⟨d,hd⟩ : ∃ d,a[i]? = some d:=⟨_,zE hi⟩
  have dk:=hA.at hd;obtain ⟨f1,f2,f3,f4⟩:=VH (s:=s) dk (by omega);(repeat' ((first|(apply AG<;>intro hc<;>try omega)|(refine A8 (by assumption) ?_ rfl ?_;omega)|apply AD)<;>conv=>whnf))
  refine nH (by omega) ?_;(conv=>whnf)
  skip
  refine eC s f1 p4 (by omega) ?_;(conv=>whnf)
  (repeat' ((first|(apply AU;omega)|fail)<;>conv=>whnf))
  refine EY (by omega) ?_;(conv=>whnf)
  (repeat' ((first|(apply B6;omega)|fail)<;>conv=>whnf))
  refine PG (by omega) f4 ?_;(conv=>whnf)
  (repeat' ((first|(apply A0;omega)|apply E4|(apply DX;omega))<;>conv=>whnf))
  rw[<-VG];refine BH [] (by (conv=>whnf);exact ⟨rfl,rfl,rfl⟩) (ih (i+1) _ _ (by omega) ⟨by omega,by simpa using p2,p3.set _ (by omega),f2,?_⟩);rw[FK (by omega),DK hd,Nat.pow_succ];exact uS p5
 ·obtain rfl:i=a.length:=by omega
  clear ih;(repeat' ((first|(apply AG<;>intro hc<;>try omega)|(apply AU;omega)|apply AQ|apply AD)<;>conv=>whnf))
  ·refine EY (by omega) ?_
   (conv=>whnf)
   skip
   refine ⟨_,?_,_,uR p3 (by omega) (by omega) p5,by simpa using p2,rfl⟩;(conv=>whnf)
   refine C7 (enc:=AL) (λ_=>rfl) rfl (by simp [p2]) ?_;(conv=>whnf)
   exact AW rfl (by simp only[A1,true_and];exact CI _)
  ·refine ⟨_,?_,_,Af3 p3 (by omega) p5,p2,rfl⟩
   (conv=>whnf)
   refine C7 (enc:=AL) (λ_=>rfl) rfl (by simp [p2]) ?_;(conv=>whnf)
   exact AW rfl (by simp only[A1,true_and];exact CI _)
theorem Aem (N:e5 L) (a:List Nat) (q:Bool) (s:Nat) (hA:AY a) (hs:s<=31) (la:a.length<=1099511627776) : ∃ r,Ev L 72 [.sl q (a.map AL),.int .u64 (s:Int)] r /\ ∃ o,AY o/\o.length=a.length/\val o=val a/2^s/\r = .sl false (o.map AL):=by
 refine Ev.xE N.LI rfl rfl ?_;(repeat' ((first|apply AQ|apply AD)<;>conv=>whnf))
 refine EH (enc:=AL) 0 a.length rfl rfl (by omega) ?_;(conv=>whnf)
 (repeat' ((first|(apply BT;omega)|apply AQ)<;>conv=>whnf))
 refine FY (λ n _ _=>n) (λ(n:Nat) (o:List Nat) (hi:Nat)=>n<=a.length/\o.length=a.length/\AY o/\hi=val (a.drop n)%2^s*2^(32-s)/\val (o.drop n)=val (a.drop n)/2^s) (λ n o hi=>[(6,.int .u32 (hi:Int)),(7,.int .i64 ((n:Int)-1))]) (λ n o hi=>[(10,10,.rw 1 (o.map AL))]) a.length (List.replicate a.length 0) 0 ⟨by omega,by simp,ID _,by rw[List.drop_of_length_le (Nat.le_refl _)];simp [val],by rw[List.drop_of_length_le (Nat.le_refl _),List.drop_of_length_le (by simp)];simp [val]⟩ ?_;intro n o hi ⟨p1,p2,p3,p4,p5⟩ ih;rcases n with _|n
 ·(repeat' ((first|(apply AG<;>intro hc<;>try omega)|apply AD)<;>conv=>whnf))
  rw[List.drop_zero,List.drop_zero]at p5;refine ⟨_,?_,_,p3,p2,p5,rfl⟩;(conv=>whnf)
  refine C7 (enc:=AL) (λ_=>rfl) rfl p2.symm ?_;(conv=>whnf)
  exact AW rfl (by simp only[A1,true_and];exact CI _)
 ·have e1:((n+1:Nat):Int)-1=n:=by omega
  rw[e1];obtain ⟨d,hd⟩ : ∃ d,a[n]? = some d:=⟨_,zE (by omega)⟩;have dk:=hA.at hd;obtain ⟨f1,f2,f3⟩:=uX (V:=val (a.drop (n+1))) dk (show s<=32 by omega);obtain ⟨g1,g2,g3,g4⟩:=VH dk (show 32-s<=32 by omega);rw[<-p4]at f2 f3;(repeat' ((first|(apply AG<;>intro hc<;>try omega)|(refine A8 (by assumption) ?_ rfl ?_;omega)|apply AD)<;>conv=>whnf))
  refine Qk (by omega) ?_;(conv=>whnf)
  skip
  refine Qh (32-s) f2 f1 (by omega) ?_;(conv=>whnf)
  (repeat' ((first|(apply AU;omega)|fail)<;>conv=>whnf))
  refine EY (by omega) ?_;(conv=>whnf)
  (repeat' ((first|(apply Z7;omega)|(apply B6;omega)|(refine A8 (by assumption) ?_ rfl ?_;omega))<;>conv=>whnf))
  rw[show D7 32 s=32-s by rw[VQ];omega];refine PG (by omega) g4 ?_;(conv=>whnf)
  (repeat' ((first|(apply BT;omega)|apply FG)<;>conv=>whnf))
  rw[Af9 (by omega)];refine BH [] (by (conv=>whnf);exact ⟨rfl,rfl,rfl⟩) (ih n _ _ (by omega) ⟨by omega,by simpa using p2,p3.set _ (by omega),?_,?_⟩)
  ·rw[GM hd,uY (by omega)]
  ·rw[GM (l:=o.set n (d/2^s+hi)) (d:=d/2^s+hi) (by rw[List.getElem?_set_self (by omega)]),List.drop_set_of_lt (by omega),p5,GM hd,jO (by omega),<-p4]
theorem bW : ∀ n<256,(List.replicate 1 0++List.replicate 1 1++List.replicate 2 2++List.replicate 4 3++List.replicate 8 4++List.replicate 16 5++List.replicate 32 6++List.replicate 64 7++List.replicate 128 8)[n]? = some (o9 n):=by decide +kernel
theorem Yt (N:e5 L) (x:Nat) (hx:x<4294967296):Ev L 63 [.int .u32 (x:Int)] (.int .i64 (o9 x:Int)):=by
 have fy : ∀ y<256,o9 y<=8:=λ y h=>aF (k:=8) h
 refine Ev.x N.K5 rfl rfl ?_;(repeat' ((first|(apply AG<;>intro hc<;>try omega)|(apply A0;omega)|apply Rp|apply Qg|(apply Rh;omega)|apply AD)<;>conv=>whnf))
 ·have Jg:=fy (x/65536/256) (by omega)
  refine aD (bW _ (by omega)) ?_;(conv=>whnf)
  (repeat' ((first|(apply A0;omega)|(apply RG;omega))<;>conv=>whnf))
  have h1:o9 (x/65536)+16=o9 x:=X4 16 (x:=x) (by omega);have h2:o9 (x/65536/256)+8=o9 (x/65536):=X4 8 (x:=x/65536) (by omega);refine CM ?_;rw[<-h1,<-h2];omega
 ·have Jg:=fy (x/65536) (by omega)
  refine aD (bW _ (by omega)) ?_;(conv=>whnf)
  (repeat' ((first|(apply A0;omega)|(apply RG;omega))<;>conv=>whnf))
  have h1:o9 (x/65536)+16=o9 x:=X4 16 (x:=x) (by omega);refine CM ?_;rw[<-h1];omega
 ·have Jg:=fy (x/256) (by omega)
  refine aD (bW _ (by omega)) ?_;(conv=>whnf)
  (repeat' ((first|(apply A0;omega)|(apply RG;omega))<;>conv=>whnf))
  have h2:o9 (x/256)+8=o9 x:=X4 8 (x:=x) (by omega);refine CM ?_;rw[<-h2];omega
 ·have Jg:=fy (x) (by omega)
  refine aD (bW _ (by omega)) ?_;(conv=>whnf)
  (repeat' ((first|(apply A0;omega)|(apply RG;omega))<;>conv=>whnf))
  refine CM ?_;omega
theorem rD (N:e5 L) (x:Nat) (hx:x<4294967296):Ev L 64 [.int .u32 (x:Int)] (.int .i64 ((32-o9 x:Nat):Int)):=by
 have h:=aF (k:=32) hx;refine Ev.x N.K4 rfl rfl ?_;(repeat' ((first|(apply BT;omega)|apply AD|refine AC (Yt N x hx) ?_)<;>conv=>whnf))
 refine CM ?_;omega
end Go.e8
