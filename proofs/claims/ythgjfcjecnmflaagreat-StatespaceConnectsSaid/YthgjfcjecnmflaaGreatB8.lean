/-
  Rational numbers as signs and lists of digits, plain.
-/
import Derived.Test.YthgjfcjecnmflaaGreatB7
import Derived.Test.YthgjfcjecnmflaaGreatB1
import Derived.Test.YthgjfcjecnmflaaGreatB2
set_option linter.unusedSimpArgs false
set_option linter.unusedVariables false
set_option linter.unnecessarySimpa false
namespace Go.e9
abbrev rQ (q1 q2 n:Bool) (m d:List Nat):List AV:=[.bool n,.sl q1 (m.map AL),.sl q2 (d.map AL)]
abbrev eQ (x:Rat):List AV:=rQ false false (decide (x.num<0)) (dg x.num.natAbs) (dg x.den)
def qv (n:Bool) (m d:List Nat):Rat:=mkRat (zv n m) (val d)
theorem FA (x:Rat):qv (decide (x.num<0)) (dg x.num.natAbs) (dg x.den)=x:=by
 unfold qv;rw[FB,BS,Rat.mkRat_self]
theorem lM {d:Nat} (z:Nat) (hd:d≠0):0<Nat.gcd d z:=Nat.gcd_pos_of_pos_left z (by omega)
theorem bO {z:Int} {d:Nat} (hd:d≠0):(mkRat z d).num.natAbs=z.natAbs/Nat.gcd d z.natAbs/\(mkRat z d).den=d/Nat.gcd d z.natAbs/\decide ((mkRat z d).num<0)=decide (z<0):=by
 have hg:=lM z.natAbs hd;have h1:=Rat.num_mkRat z d;have h2:=Rat.den_mkRat z d;rw[if_neg hd]at h1 h2;rw[h1,h2];obtain ⟨k,hk⟩:=Nat.gcd_dvd_right d z.natAbs;generalize hG:Nat.gcd d z.natAbs=g at *;have hz:z=(g:Int)*(z.sign*k):=by
  rw[<-Int.mul_assoc,Int.mul_comm (g:Int),Int.mul_assoc,<-Int.natCast_mul,<-hk,Int.sign_mul_natAbs]
 have e1:z/(g:Int)=z.sign*k:=by
  rw[hz,Int.mul_ediv_cancel_left _ (by omega),<-hz]
 refine ⟨?_,rfl,?_⟩
 ·rw[e1,Int.natAbs_mul,hk,Nat.mul_div_cancel_left _ hg]
  by_cases h0:z=0
  ·subst h0
   have:k=0:=by
    have h5:g*k=0:=hk.symm;rcases Nat.mul_eq_zero.1 h5 with h|h
    ·omega
    ·exact h
   subst this;simp
  ·rw[Int.natAbs_sign_of_ne_zero h0,Nat.one_mul];simp
 ·congr 1
  rw[eq_iff_iff];rw[Int.ediv_lt_iff_lt_mul (by omega),Int.zero_mul]
theorem EA (x:Rat):A6 (.agg (eQ x)):=by
 simp only[A6,C6,and_true,true_and];exact ⟨CQ _,CQ _⟩
theorem TN (b w:Bool) (m d:List Nat):A6 (.agg [.bool b,.sl false (m.map AL),.sl false (d.map AL),.bool w]):=by
 simp only[A6,C6,and_true,true_and];exact ⟨CQ _,CQ _⟩
theorem xB (b:Bool) (m:List Nat):A6 (.agg [.bool b,.sl false (m.map AL)]):=by
 simp only[A6,C6,and_true,true_and];exact CQ _
theorem WC (b:Bool) (m d:List Nat):A6 (.agg [.bool b,.sl false (m.map AL),.sl false (d.map AL)]):=by
 simp only[A6,C6,and_true,true_and];exact ⟨CQ _,CQ _⟩
theorem UC (q:Bool) (l:List Nat):S8 (.sl q (l.map AL)):=by
 intro e he c hc;obtain ⟨x,_,rfl⟩:=List.mem_map.1 he;simp at hc;subst hc;rfl
theorem YQ {r:AV} {K:AV->Prop} (h:JR r) (hk:K (tt r)):B9 r K:=⟨Or.inl h,by rw[bF h];exact hk⟩
theorem GK {b w q1 q2:Bool} {m d:List Nat} {K:AV->Prop} (hk:K (.agg [.bool b,.sl true (m.map AL),.sl true (d.map AL),.bool w])):B9 (.agg [.bool b,.sl q1 (m.map AL),.sl q2 (d.map AL),.bool w]) K:=by
 refine YQ ?_ hk;intro c hc;simp only[List.mem_cons,List.not_mem_nil,or_false]at hc;rcases hc with rfl|rfl|rfl|rfl
 ·trivial
 ·exact UC _ _
 ·exact UC _ _
 ·trivial
theorem eH {b q1 q2:Bool} {m d:List Nat} {K:AV->Prop} (hk:K (.agg [.bool b,.sl true (m.map AL),.sl true (d.map AL)])):B9 (.agg [.bool b,.sl q1 (m.map AL),.sl q2 (d.map AL)]) K:=by
 refine YQ ?_ hk;intro c hc;simp only[List.mem_cons,List.not_mem_nil,or_false]at hc;rcases hc with rfl|rfl|rfl
 ·trivial
 ·exact UC _ _
 ·exact UC _ _
theorem PZ {b q1:Bool} {m:List Nat} {K:AV->Prop} (hk:K (.agg [.bool b,.sl true (m.map AL)])):B9 (.agg [.bool b,.sl q1 (m.map AL)]) K:=by
 refine YQ ?_ hk;intro c hc;simp only[List.mem_cons,List.not_mem_nil,or_false]at hc;rcases hc with rfl|rfl
 ·trivial
 ·exact UC _ _
theorem XC {a b:Int} {d e:Nat} (hd:d≠0) (he:e≠0):mkRat a d+mkRat b e=mkRat (a*e+b*d) (d*e):=Rat.mkRat_add_mkRat a b hd he
theorem nS {a b:Int} {d:Nat} (hd:d≠0):mkRat a d+mkRat b d=mkRat (a+b) d:=by
 rw[XC hd hd,<-Int.add_mul,Rat.mkRat_mul_right hd]
theorem bN (a b:Int) (d e:Nat):mkRat a d*mkRat b e=mkRat (a*b) (d*e):=Rat.mkRat_mul_mkRat a b d e
theorem nU (a:Int):mkRat a 1=(a:Rat):=by
 have h:=Rat.mkRat_self (a:Rat);rw[Rat.num_intCast,Rat.den_intCast]at h;exact h
theorem XD {z:Int} {d:Nat} (hd:d≠0):mkRat z d=0↔z=0:=Rat.mkRat_eq_zero hd
theorem nV {z:Int} {d:Nat} (hd:d≠0):u9 (mkRat z d).num=u9 z:=by
 obtain ⟨_,_,h⟩:=bO (z:=z) hd;have h0:(mkRat z d).num=0↔z=0:=by rw[Rat.num_eq_zero,XD hd]
 have h1:(mkRat z d).num<0↔z<0:=by simpa using h
 unfold u9;by_cases a:z<0
 ·rw[if_pos a,if_pos (h1.2 a)]
 ·rw[if_neg a,if_neg (λ h=>a (h1.1 h))]
  by_cases b:z=0
  ·rw[if_neg (by omega),if_neg (by have:=h0.2 b;omega)]
  ·rw[if_pos (by omega),if_pos (by have:=mt h0.1 b;have:=mt h1.1 a;omega)]
theorem Pz {a b:Int} {d e:Nat} (hd:d≠0) (he:e≠0) (hb:b≠0):mkRat a d/mkRat b e=mkRat (b.sign*(a*e)) (d*b.natAbs):=by
 have Yi:b.natAbs≠0:=by omega
 have h1:mkRat b e≠0:=λ h=>hb ((XD he).1 h)
 have key:mkRat (b.sign*(a*e)) (d*b.natAbs)*mkRat b e=mkRat a d:=by
  rw[bN];have e1:b.sign*(a*e)*b=a*((b.natAbs*e:Nat):Int):=by
   have:=Int.sign_mul_self b
   rw[Int.natCast_mul,<-this];grind
  rw[e1,show d*b.natAbs*e=d*(b.natAbs*e) by rw[Nat.mul_assoc]];exact Rat.mkRat_mul_right (Nat.mul_ne_zero Yi he)
 rw[<-key,Rat.mul_div_cancel h1]
theorem rY {x y:Int} (hy:y≠0):zv (decide (x<0) != decide (y<0)) (dg x.natAbs)=y.sign*x:=by
 unfold zv;rw[BS];rcases Int.lt_or_gt_of_ne hy with h|h
 ·rw[Int.sign_eq_neg_one_of_neg h]
  by_cases hx:x<0
  ·simp [hx,h];omega
  ·simp [hx,h];omega
 ·rw[Int.sign_eq_one_of_pos h]
  by_cases hx:x<0
  ·simp [hx,show ¬ y<0 by omega];omega
  ·simp [hx,show ¬ y<0 by omega];omega
def Bt (k:Nat) (x:Rat):Prop:=x.num.natAbs<=2^k/\x.den<=2^k
theorem Bt.le {k l:Nat} {x:Rat} (h:Bt k x) (hl:k<=l):Bt l x:=by
 have:=Nat.pow_le_pow_right (show 0<2 by omega) hl
 exact ⟨Nat.le_trans h.1 this,Nat.le_trans h.2 this⟩
theorem Bt.mk {k:Nat} {z:Int} {d:Nat} (hz:z.natAbs<=2^k) (hd:d<=2^k):Bt k (mkRat z d):=by
 by_cases h0:d=0
 ·subst h0
  rw[Rat.mkRat_zero];exact ⟨by simp,by simp;exact Nat.one_le_two_pow⟩
 ·obtain ⟨e1,e2,_⟩:=bO (z:=z) h0
  unfold Bt;rw[e1,e2];exact ⟨Nat.le_trans (Nat.div_le_self _ _) hz,Nat.le_trans (Nat.div_le_self _ _) hd⟩
theorem Bt.add {k l:Nat} {x y:Rat} (hx:Bt k x) (hy:Bt l y):Bt (k+l+1) (x+y):=by
 rw[Rat.add_def'];refine Bt.mk ?_ ?_
 ·have h1:(x.num*y.den).natAbs<=2^k*2^l:=by rw[Int.natAbs_mul,Int.natAbs_natCast];exact Nat.mul_le_mul hx.1 hy.2
  have h2:(y.num*x.den).natAbs<=2^l*2^k:=by rw[Int.natAbs_mul,Int.natAbs_natCast];exact Nat.mul_le_mul hy.1 hx.2
  rw[Nat.mul_comm (2^l)]at h2;rw[Nat.pow_succ,Nat.pow_add];have h3:=Int.natAbs_add_le (x.num*y.den) (y.num*x.den);omega
 ·rw[Nat.pow_succ,Nat.pow_add]
  have:=Nat.mul_le_mul hx.2 hy.2
  omega
theorem Bt.mul {k l:Nat} {x y:Rat} (hx:Bt k x) (hy:Bt l y):Bt (k+l) (x*y):=by
 rw[Rat.mul_def'];refine Bt.mk ?_ ?_
 ·rw[Int.natAbs_mul,Nat.pow_add];exact Nat.mul_le_mul hx.1 hy.1
 ·rw[Nat.pow_add];exact Nat.mul_le_mul hx.2 hy.2
theorem Bt.zero (k:Nat):Bt k 0:=⟨by simp,by simp;exact Nat.one_le_two_pow⟩
theorem Bt.one (k:Nat):Bt k 1:=⟨by simp;exact Nat.one_le_two_pow,by simp;exact Nat.one_le_two_pow⟩
theorem Bt.Hr {k n:Nat} {x:Rat} (h:Bt k x) (hn:k<32*n):Sm n (dg x.num.natAbs)/\Sm n (dg x.den):=by
 have e:2^k<4294967296^n:=by
  rw[show 4294967296=2^32 from rfl,<-Nat.pow_mul];exact (Nat.pow_lt_pow_iff_right (by omega)).2 hn
 exact ⟨Sm.dg (Nat.lt_of_le_of_lt h.1 e),Sm.dg (Nat.lt_of_le_of_lt h.2 e)⟩
def Bs (k:Nat) (l:List Rat):Prop := ∀ x∈l,Bt k x
theorem Bs.at {k:Nat} {l:List Rat} (h:Bs k l) {i:Nat} {x:Rat} (hx:l[i]? = some x):Bt k x:=h x (zM hx)
theorem Bs.le {k j:Nat} {l:List Rat} (h:Bs k l) (hj:k<=j):Bs j l:=λ x hx=>(h x hx).le hj
theorem Bs.take {k:Nat} {l:List Rat} (h:Bs k l) (n:Nat):Bs k (l.take n):=λ x hx=>h x (List.mem_of_mem_take hx)
def BM:List Rat->List Rat->Rat
 | x::xs,y::ys=>x*y+BM xs ys
 | _,_=>0
theorem WR (l:List Rat):BM l []=0:=by cases l<;>rfl
theorem iU : ∀ {a b:List Rat} {x y:Rat},a.length=b.length->BM (a++[x]) (b++[y])=BM a b+x*y
 | [],[],x,y,_=>by show x*y+0=0+x*y;rw[Rat.add_zero,Rat.zero_add]
 | p::a,q::b,x,y,h=>by
  show p*q+BM (a++[x]) (b++[y])=p*q+BM a b+x*y;rw[iU (by simpa using h),Rat.add_assoc]
theorem Mn {a b:List Rat} {i:Nat} {x y:Rat} (hx:a[i]? = some x) (hy:b[i]? = some y):BM (a.take (i+1)) (b.take (i+1))=BM (a.take i) (b.take i)+x*y:=by
 have h1:=(zS hx).1;have h2:=(zS hy).1;rw[List.take_add_one,List.take_add_one,hx,hy,Option.toList_some,Option.toList_some,iU (by rw[List.length_take,List.length_take];omega)]
theorem Mm {a b:List Rat} {n:Nat} (h:a.length=n):BM (a.take n) (b.take n)=BM a b:=by
 subst h;rw[zT (Nat.le_refl _)];induction a generalizing b with
 | nil=>cases b<;>rfl
 | cons x a ih=>cases b with
  | nil=>rfl
  | cons y b=>simp only[List.length_cons,List.take_succ_cons,BM,ih]
theorem Bs.dot {k l:Nat} : ∀ {a b:List Rat},Bs k a->Bs l b->Bt (a.length*(k+l+1)) (BM a b)
 | [],b,_,_=>by cases b<;>exact Bt.zero _
 | x::a,[],_,_=>Bt.zero _
 | x::a,y::b,ha,hb=>by
  have h1:=(ha x (by simp)).mul (hb y (by simp));have h2:=Bs.dot (a:=a) (b:=b) (λ z hz=>ha z (by simp [hz])) (λ z hz=>hb z (by simp [hz]));refine (h1.add h2).le ?_;rw[List.length_cons,Nat.succ_mul];omega
def JT (a b:List Rat):List Rat:=List.zipWith (· + ·) a b
theorem WQ : ∀ {a u v:List Rat},u.length=v.length->BM a (JT u v)=BM a u+BM a v
 | [],_,_,_=>by simp only[BM];rw[Rat.add_zero]
 | x::a,[],[],_=>by simp only[JT,List.zipWith_nil_left,BM];rw[Rat.add_zero]
 | x::a,p::u,q::v,h=>by
  show x*(p+q)+BM a (JT u v)=_;rw[WQ (by simpa using h)];simp only[BM];grind
structure B3 where
 a:List (List Rat)
 b:List Rat
 c:List Rat
 d:Rat
structure B3.Ok (S:B3) (n k:Nat):Prop where
 la:S.a.length=n
 lr : ∀ r∈S.a,r.length=n
 lb:S.b.length=n
 lc:S.c.length=n
 ba : ∀ r∈S.a,Bs k r
 bb:Bs k S.b
 bc:Bs k S.c
 bd:Bt k S.d
def G2 (n:Nat) (j:Int):List Rat:=(List.range n).map λ i:Nat=>if (i:Int)=j then 1 else 0
theorem YJ (n:Nat) (j:Int):(G2 n j).length=n:=by simp [G2]
def HK (m:List (List Rat)) (j:Nat):List Rat:=m.map λ r=>r.getD j 0
def FV (r:List Rat) (m:List (List Rat)) (n:Nat):List Rat:=(List.range n).map λ j=>BM r (HK m j)
def BG (a m:List (List Rat)) (n:Nat):List (List Rat):=a.map λ r=>FV r m n
def B6 (m:List (List Rat)):Nat->Rat
 | 0=>0
 | i+1=>B6 m i+(m.getD i []).getD i 0
def o8 (m:List (List Rat)) (c:Rat) (i:Nat):List (List Rat):=(List.range m.length).map λ r=>if r<i then (m.getD r []).set r ((m.getD r []).getD r 0+c) else m.getD r []
def F5 (n:Nat):List (List Rat):=(List.range n).map λ i:Nat=>G2 n i
def gR (p:List (List Rat)) (n k:Nat):Rat:=B6 p n*Rat.divInt (-1) (k:Int)
def A5 (a:List (List Rat)) (n:Nat):Nat->List (List Rat)
 | 0=>F5 n
 | k+1=>o8 (BG a (A5 a n k) n) (gR (BG a (A5 a n k) n) n (k+1)) n
def BH (a:List (List Rat)) (n k:Nat):Rat:=gR (BG a (A5 a n k) n) n (k+1)
def CI (a:List (List Rat)) (n k:Nat):List Rat:=1::(List.range k).map (BH a n)
def CS (m:List (List Rat)) (b:List Rat):List Rat:=m.map λ r=>BM r b
def EO (S:B3) (n k:Nat):List Rat:=0::(List.range k).map λ i=>BM S.c (CS (A5 S.a n i) S.b)
theorem xQ (m:List (List Rat)) (j:Nat):(HK m j).length=m.length:=by simp [HK]
theorem QW (r:List Rat) (m:List (List Rat)) (n:Nat):(FV r m n).length=n:=by simp [FV]
theorem oE (a m:List (List Rat)) (n:Nat):(BG a m n).length=a.length:=by simp [BG]
theorem OJ (m:List (List Rat)) (c:Rat) (i:Nat):(o8 m c i).length=m.length:=by simp [o8]
theorem UO (m:List (List Rat)) (b:List Rat):(CS m b).length=m.length:=by simp [CS]
theorem P9 (a:List (List Rat)) (n k:Nat):(CI a n k).length=k+1:=by simp [CI]
theorem RT (S:B3) (n k:Nat):(EO S n k).length=k+1:=by simp [EO]
theorem wJ (a:List (List Rat)) (n k:Nat):CI a n (k+1)=CI a n k++[BH a n k]:=by simp [CI,List.range_succ]
theorem vW (S:B3) (n k:Nat):EO S n (k+1)=EO S n k++[BM S.c (CS (A5 S.a n k) S.b)]:=by simp [EO,List.range_succ]
structure Sq (n:Nat) (m:List (List Rat)):Prop where
 l:m.length=n
 r : ∀ r∈m,r.length=n
theorem Sq.at {n:Nat} {m:List (List Rat)} (h:Sq n m) {i:Nat} {r:List Rat} (hr:m[i]? = some r):r.length=n:=h.r r (zM hr)
theorem Sq.mul {n:Nat} {a:List (List Rat)} (h:a.length=n) (m:List (List Rat)):Sq n (BG a m n):=by
 refine ⟨by rw[oE,h],λ r hr => ?_⟩;obtain ⟨x,_,rfl⟩:=List.mem_map.1 hr;exact QW _ _ _
theorem P7 {m:List (List Rat)} {c:Rat} {i r:Nat} {row:List Rat} (h:m[r]? = some row):(o8 m c i)[r]? = some (if r<i then row.set r (row.getD r 0+c) else row):=by
 have h1:=(zS h).1;have e:m.getD r []=row:=by rw[List.getD_eq_getElem?_getD,h];rfl
 simp only[o8,List.getElem?_map,List.getElem?_range h1,Option.map_some,e]
theorem Sq.o8 {n:Nat} {m:List (List Rat)} (h:Sq n m) (c:Rat) (i:Nat):Sq n (o8 m c i):=by
 refine ⟨by rw[OJ,h.l],λ r hr => ?_⟩;obtain ⟨j,hj⟩:=List.getElem?_of_mem hr;have h1:=(zS hj).1;rw[OJ]at h1;obtain ⟨row,u6⟩ : ∃ row,m[j]? = some row:=⟨_,zE h1⟩;rw[P7 u6]at hj;obtain rfl:=Option.some.inj hj;have:=h.at u6
 split
 ·rw[List.length_set];exact this
 ·exact this
theorem vZ (m:List (List Rat)) (c:Rat):o8 m c 0=m:=by
 refine List.ext_getElem? λ r => ?_
 cases e:m[r]? with
 | none=>rw[List.getElem?_eq_none (by rw[OJ];exact List.getElem?_eq_none_iff.1 e)]
 | some row=>rw[P7 e,if_neg (by omega)]
theorem vY {m:List (List Rat)} {c:Rat} {i:Nat} {row:List Rat} (h:m[i]? = some row):o8 m c (i+1)=(o8 m c i).set i (row.set i (row.getD i 0+c)):=by
 refine List.ext_getElem? λ r => ?_
 rw[List.getElem?_set];cases e:m[r]? with
 | none =>
  have h1:=List.getElem?_eq_none_iff.1 e;have h2:=(zS h).1;rw[List.getElem?_eq_none (by rw[OJ];exact h1),if_neg (by omega),List.getElem?_eq_none (by rw[OJ];exact h1)]
 | some rw' =>
  rw[P7 e,P7 e];by_cases hi:i=r
  ·subst hi
   obtain rfl:=Option.some.inj (h.symm.trans e);have h2:=(zS h).1;rw[if_pos (by omega),if_pos rfl,if_pos (by rw[OJ];exact h2)]
  ·rw[if_neg hi]
   by_cases h3:r<i
   ·rw[if_pos (by omega),if_pos h3]
   ·rw[if_neg (by omega),if_neg h3]
theorem vX {m:List (List Rat)} {c:Rat} {i:Nat} {row:List Rat} (h:m[i]? = some row):(o8 m c i)[i]? = some row:=by rw[P7 h,if_neg (by omega)]
theorem Sq.id (n:Nat):Sq n (F5 n):=by
 refine ⟨by simp [F5],λ r hr => ?_⟩;obtain ⟨i,_,rfl⟩:=List.mem_map.1 hr;exact YJ _ _
theorem Sq.fl {n:Nat} {a:List (List Rat)} (h:a.length=n) : ∀ k,Sq n (A5 a n k)
 | 0=>Sq.id n
 | k+1=>(Sq.mul h _).o8 _ _
def Ms (k:Nat) (m:List (List Rat)):Prop := ∀ r∈m,Bs k r
theorem Ms.at {k:Nat} {m:List (List Rat)} (h:Ms k m) {i:Nat} {r:List Rat} (hr:m[i]? = some r):Bs k r:=h r (zM hr)
theorem Ms.getD {k:Nat} {m:List (List Rat)} (h:Ms k m) (i j:Nat):Bt k ((m.getD i []).getD j 0):=by
 rw[List.getD_eq_getElem?_getD,List.getD_eq_getElem?_getD];cases e:m[i]? with
 | none=>exact Bt.zero k
 | some r =>
  simp only[Option.getD_some];cases e2:r[j]? with
  | none=>exact Bt.zero k
  | some x=>exact (h.at e).at e2
theorem Ms.le {k j:Nat} {m:List (List Rat)} (h:Ms k m) (hj:k<=j):Ms j m:=λ r hr=>(h r hr).le hj
theorem Ms.Hq {k:Nat} {m:List (List Rat)} (h:Ms k m) (j:Nat):Bs k (HK m j):=by
 intro x hx;obtain ⟨r,hr,rfl⟩:=List.mem_map.1 hx;rw[List.getD_eq_getElem?_getD];cases e:r[j]? with
 | none=>exact Bt.zero k
 | some x=>exact (h r hr).at e
theorem Ms.mul {n k s:Nat} {a m:List (List Rat)} (ha:Ms k a) (hs:Sq n a) (hm:Ms s m):Ms (n*(k+s+1)) (BG a m n):=by
 intro r hr x hx;obtain ⟨r,h1,rfl⟩:=List.mem_map.1 hr;obtain ⟨j,_,rfl⟩:=List.mem_map.1 hx;have:=(ha r h1).dot (hm.Hq j)
 rw[hs.r r h1]at this;exact this
theorem Ms.tr {k:Nat} {m:List (List Rat)} (h:Ms k m) : ∀ i,Bt (i*(k+1)) (B6 m i)
 | 0=>Bt.zero _
 | i+1=>by
  refine ((Ms.tr h i).add (h.getD i i)).le ?_;rw[Nat.succ_mul];omega
theorem Ms.o8 {k j:Nat} {m:List (List Rat)} (h:Ms k m) {c:Rat} (hc:Bt j c) (i:Nat):Ms (k+j+1) (o8 m c i):=by
 intro r hr;obtain ⟨q,hq⟩:=List.getElem?_of_mem hr;have h1:=(zS hq).1;rw[OJ]at h1;obtain ⟨row,u6⟩ : ∃ row,m[q]? = some row:=⟨_,zE h1⟩;rw[P7 u6]at hq;obtain rfl:=Option.some.inj hq;have hb:=h.at u6;split
 ·intro x hx
  rcases List.mem_or_eq_of_mem_set hx with hx|rfl
  ·exact (hb x hx).le (by omega)
  ·refine Bt.add ?_ hc
   rw[List.getD_eq_getElem?_getD];cases e:row[q]? with
   | none=>exact Bt.zero k
   | some x=>exact hb.at e
 ·exact hb.le (by omega)
theorem Ms.id (n k:Nat):Ms k (F5 n):=by
 intro r hr x hx;obtain ⟨i,_,rfl⟩:=List.mem_map.1 hr;simp only[G2,List.mem_map]at hx;obtain ⟨a,_,rfl⟩:=hx;split
 ·exact Bt.one k
 ·exact Bt.zero k
theorem fX {k:Nat} (hk:k<=7):Bt 3 (Rat.divInt (-1) (k:Int)):=by
 rw[Rat.divInt_ofNat];refine Bt.mk ?_ ?_
 ·decide
 ·show k<=8;omega
def GY (s:Nat):Nat->Nat
 | 0=>0
 | k+1=>20*GY s k+(20*s+100)
theorem Ms.Bw {n s:Nat} {a:List (List Rat)} (hs:Sq n a) (ha:Ms s a) (hn:n<=4) : ∀ k,k<=4->Ms (GY s k) (A5 a n k)/\Ms (4*(GY s k+(s+1))) (BG a (A5 a n k) n)/\Bt (16*(GY s k+(s+1))+10) (BH a n k):=by
 have key : ∀ k,k<=4->Ms (GY s k) (A5 a n k)->Ms (4*(GY s k+(s+1))) (BG a (A5 a n k) n)/\Bt (16*(GY s k+(s+1))+10) (BH a n k):=λ k hk h=>by
  have h1:Ms (4*(GY s k+(s+1))) (BG a (A5 a n k) n):=(Ms.mul ha hs h).le (Nat.mul_le_mul hn (by omega));refine ⟨h1,?_⟩;refine ((h1.tr n).mul (fX (k:=k+1) (by omega))).le ?_;have:=zR (4*(GY s k+(s+1))+1) hn
  generalize GY s k=f at this ⊢;generalize hX:4*(f+(s+1))+1=X at this ⊢;generalize n*X=Y at this ⊢;omega
 intro k;induction k with
 | zero=>exact λ hk=>⟨Ms.id n _,key 0 hk (Ms.id n _)⟩
 | succ k ih =>
  intro hk;obtain ⟨h1,h2,h3⟩:=ih (by omega);have h4:Ms (GY s (k+1)) (A5 a n (k+1)):=(h2.o8 h3 n).le (by show _<=20*GY s k+(20*s+100);omega);exact ⟨h4,key (k+1) hk h4⟩
def KC:Nat->Nat:=GY 80
theorem Ms.fl {n:Nat} {a:List (List Rat)} (hs:Sq n a) (ha:Ms 80 a) (hn:n<=4) : ∀ k,k<=4->Ms (KC k) (A5 a n k)/\Ms (4*(KC k+81)) (BG a (A5 a n k) n)/\Bt (16*(KC k+81)+10) (BH a n k):=Ms.Bw hs ha hn
theorem aI : ∀ k,k<=4->GY 400 k<=69000000:=by decide
theorem lG : ∀ k,k<=4->KC k<=15000000:=by decide
theorem J9 : ∀ a b:List Rat,BM a b=BM b a
 | [],[]=>rfl
 | [],_::_=>rfl
 | _::_,[]=>rfl
 | x::a,y::b=>by simp only[BM,J9 a b,Rat.mul_comm]
theorem OO : ∀ (v:List Rat) (n:Nat),BM (List.replicate n 0) v=0
 | [],n=>WR _
 | y::v,0=>rfl
 | y::v,n+1=>by rw[List.replicate_succ];simp only[BM,OO v n];grind
theorem ZR (v:List Rat) (n:Nat):BM v (List.replicate n 0)=0:=by rw[J9,OO]
theorem QG (x:Rat) : ∀ a b:List Rat,BM (a.map (x * ·)) b=x*BM a b
 | [],_=>by simp [BM]
 | _::_,[]=>by simp [BM]
 | p::a,q::b=>by simp only[List.map_cons,BM,QG x a b];grind
theorem Add (u:List Rat) (n:Nat):FV u [] n=List.replicate n 0:=by
 refine List.ext_getElem? λ j => ?_
 simp only[FV,HK,List.map_nil,WR,List.getElem?_map,List.getElem?_replicate];by_cases h:j<n
 ·rw[List.getElem?_range h,if_pos h];rfl
 ·rw[List.getElem?_eq_none (by simp;omega),if_neg h];rfl
theorem Tp (m:List (List Rat)) (n:Nat):FV [] m n=List.replicate n 0:=by
 refine List.ext_getElem? λ j => ?_
 simp only[FV,BM,List.getElem?_map,List.getElem?_replicate];by_cases h:j<n
 ·rw[List.getElem?_range h,if_pos h];rfl
 ·rw[List.getElem?_eq_none (by simp;omega),if_neg h];rfl
theorem To (x:Rat) (u r:List Rat) (m:List (List Rat)) (n:Nat) (hr:r.length=n):FV (x::u) (r::m) n=JT (r.map (x * ·)) (FV u m n):=by
 refine List.ext_getElem? λ j => ?_
 simp only[FV,JT,List.getElem?_map,List.getElem?_zipWith];by_cases h:j<n
 ·rw[List.getElem?_range h]
  obtain ⟨y,hy⟩ : ∃ y,r[j]? = some y:=⟨_,zE (by omega)⟩;rw[hy];simp only[Option.map_some,HK,List.map_cons,BM,List.getD_eq_getElem?_getD,hy,Option.getD_some]
 ·rw[List.getElem?_eq_none (by simp;omega),List.getElem?_eq_none (l:=r) (by omega)]
  rfl
theorem PD {n:Nat} {v:List Rat} : ∀ (m:List (List Rat)) (u:List Rat),(∀ r∈m,r.length=n)->BM (FV u m n) v=BM u (CS m v)
 | [],u,_=>by rw[Add,OO,CS,List.map_nil,WR]
 | r::m,[],_=>by rw[Tp,OO];rfl
 | r::m,x::u,h=>by
  have hr:=h r (by simp);rw[To x u r m n hr,J9,WQ (by rw[List.length_map,QW];exact hr),J9 v,J9 v,QG,PD m u λ r hr=>h r (by simp [hr])];rfl
theorem Ts {n:Nat} (a m:List (List Rat)) (v:List Rat) (h : ∀ r∈m,r.length=n):CS (BG a m n) v=CS a (CS m v):=by
 simp only[CS,BG,List.map_map];exact List.map_congr_left λ r _=>PD m r h
theorem iT (c:Rat) : ∀ (row b:List Rat) (i:Nat),row.length=b.length->i<row.length->BM (row.set i (row.getD i 0+c)) b=BM row b+c*b.getD i 0
 | [],_,_,_,h=>by simp at h
 | x::row,[],_,h,_=>by simp at h
 | x::row,y::b,0,_,_=>by simp [BM];grind
 | x::row,y::b,i+1,h,hi=>by
  simp only[List.set_cons_succ,List.getD_cons_succ,BM];rw[iT c row b i (by simpa using h) (by simpa using hi)];grind
theorem Tq {n:Nat} {m:List (List Rat)} (hs:Sq n m) (c:Rat) (b:List Rat) (hb:b.length=n):CS (o8 m c n) b=JT (CS m b) (b.map (c * ·)):=by
 refine List.ext_getElem? λ r => ?_
 simp only[CS,JT,List.getElem?_map,List.getElem?_zipWith];cases e:m[r]? with
 | none =>
  have h1:=List.getElem?_eq_none_iff.1 e;rw[List.getElem?_eq_none (by rw[OJ];exact h1)];rfl
 | some row =>
  have h1:=(zS e).1;have hl:=hs.at e;have hm:=hs.l;obtain ⟨y,hy⟩ : ∃ y,b[r]? = some y:=⟨_,zE (by omega)⟩;rw[P7 e,if_pos (by omega),hy];simp only[Option.map_some];rw[iT c row b r (by omega) (by omega),List.getD_eq_getElem?_getD,hy];rfl
theorem Tr {n:Nat} {b:List Rat} (hb:b.length=n):CS (F5 n) b=b:=by
 have unit : ∀ (k n i:Nat) (b:List Rat),b.length=n->BM ((List.range' k n).map λ a:Nat=>if (a:Int)=((k+i:Nat):Int) then 1 else 0) b=b.getD i 0:=by
  intro k n;induction n generalizing k with
  | zero=>intro i b hb;obtain rfl:=List.eq_nil_of_length_eq_zero hb;simp [BM]
  | succ n ih =>
   intro i b hb;cases b with
   | nil=>simp at hb
   | cons y b =>
    rw[List.range'_succ,List.map_cons,BM];cases i with
    | zero =>
     have hz:((List.range' (k+1) n).map λ a:Nat=>if (a:Int)=((k+0:Nat):Int) then (1:Rat) else 0)=List.replicate n 0:=by
      rw[List.eq_replicate_iff];refine ⟨by simp,λ x hx => ?_⟩;obtain ⟨a,ha,rfl⟩:=List.mem_map.1 hx;rw[if_neg];have:=(List.mem_range'_1.1 ha).1
      omega
     rw[hz,OO,if_pos (by simp)];simp [Rat.add_zero]
    | succ i =>
     have:=ih (k+1) i b (by simpa using hb)
     rw[show k+1+i=k+(i+1) by omega]at this;rw[this,if_neg (by omega),List.getD_cons_succ];grind
 refine List.ext_getElem? λ r => ?_
 simp only[CS,F5,List.getElem?_map];by_cases h:r<n
 ·rw[List.getElem?_range h]
  have:=unit 0 n r b hb
  rw[Nat.zero_add]at this;simp only[Option.map_some,G2,List.range_eq_range']at this ⊢;rw[this,List.getD_eq_getElem?_getD,zE (by omega)];rfl
 ·rw[List.getElem?_eq_none (by simp;omega),List.getElem?_eq_none (by omega)]
  rfl
def wQ (S:B3):Nat->List Rat
 | 0=>S.b
 | j+1=>CS S.a (wQ S j)
def conv (A h:Nat->Rat) (K:Nat):Nat->Rat
 | 0=>0
 | a+1=>conv A h K a+A a*h (K-a)
theorem J8 {A A' h h':Nat->Rat} {K K':Nat} : ∀ m,(∀ a,a<m->A a=A' a)->(∀ a,a<m->h (K-a)=h' (K'-a))->conv A h K m=conv A' h' K' m
 | 0,_,_=>rfl
 | m+1,h1,h2=>by rw[conv,conv,J8 m (λ a ha=>h1 a (by omega)) (λ a ha=>h2 a (by omega)),h1 m (by omega),h2 m (by omega)]
theorem QE {A h:Nat->Rat} {K m:Nat} (hz : ∀ a,m<=a->A a=0) : ∀ j,conv A h K (m+j)=conv A h K m
 | 0=>rfl
 | j+1=>by rw[<-Nat.add_assoc,conv,QE hz j,hz (m+j) (by omega),Rat.zero_mul,Rat.add_zero]
def NV (a:List (List Rat)) (n:Nat):Nat->Rat
 | 0=>1
 | k+1=>BH a n k
theorem UB {n:Nat} {S:B3} (hs:Sq n S.a) (hb:S.b.length=n) : ∀ (k:Nat) (u:List Rat),u.length=n->BM u (CS (A5 S.a n k) S.b)=conv (NV S.a n) (λ j=>BM u (wQ S j)) k (k+1)
 | 0,u,_=>by
  rw[A5,Tr hb];simp only[conv,NV,wQ,Nat.sub_zero];grind
 | k+1,u,hu=>by
  have eg:A5 S.a n (k+1)=o8 (BG S.a (A5 S.a n k) n) (BH S.a n k) n:=rfl;have hM:=Sq.fl (a:=S.a) hs.l k;rw[eg,Tq (Sq.mul hs.l _) _ _ hb,WQ (by rw[UO,oE,List.length_map,hs.l,hb]),Ts _ _ _ hM.r];have e1:BM u (CS S.a (CS (A5 S.a n k) S.b))=BM (FV u S.a n) (CS (A5 S.a n k) S.b):=(PD S.a u hs.r).symm;rw[e1,UB hs hb k (FV u S.a n) (QW _ _ _),J9 u,QG];have e2:conv (NV S.a n) (λ j=>BM u (wQ S j)) (k+1) (k+1+1)=conv (NV S.a n) (λ j=>BM u (wQ S j)) (k+1) (k+1)+BH S.a n k*BM S.b u:=by
   rw[conv,Nat.sub_self,J9 S.b];rfl
  rw[e2];congr 1;refine J8 (k+1) (λ a _=>rfl) λ a ha => ?_
  show BM (FV u S.a n) (wQ S (k-a))=BM u (wQ S (k+1-a));rw[PD S.a u hs.r,show k+1-a=(k-a)+1 by omega];rfl
theorem E9 (k:Nat) (hk:k≠0) (t:Rat):((k:Nat):Rat)*(t*Rat.divInt (-1) (k:Int)) = -t:=by
 have h:Rat.divInt (-1) (k:Int)=(-1)/((k:Nat):Rat):=by
  rw[Rat.divInt_ofNat,Rat.mkRat_eq_div];rfl
 have h0:((k:Nat):Rat)≠0:=by exact_mod_cast hk
 rw[h];grind
theorem BW {α:Type} {l:List α} (h:l.length=1) : ∃ a,l=[a]:=by
 rcases l with _|⟨a,_|⟨b,l⟩⟩<;>simp at h
 exact ⟨a,rfl⟩
theorem BO {α:Type} {l:List α} (h:l.length=2) : ∃ a b,l=[a,b]:=by
 obtain ⟨a,r,rfl⟩ : ∃ a r,l=a::r:=by
  cases l with
  | nil=>simp at h
  | cons a r=>exact ⟨a,r,rfl⟩
 obtain ⟨b,rfl⟩:=BW (l:=r) (by simpa using h);exact ⟨_,_,rfl⟩
theorem UF {α:Type} {l:List α} (h:l.length=3) : ∃ a b c,l=[a,b,c]:=by
 obtain ⟨a,r,rfl⟩ : ∃ a r,l=a::r:=by
  cases l with
  | nil=>simp at h
  | cons a r=>exact ⟨a,r,rfl⟩
 obtain ⟨b,c,rfl⟩:=BO (l:=r) (by simpa using h);exact ⟨_,_,_,rfl⟩
theorem UG {α:Type} {l:List α} (h:l.length=4) : ∃ a b c d,l=[a,b,c,d]:=by
 obtain ⟨a,r,rfl⟩ : ∃ a r,l=a::r:=by
  cases l with
  | nil=>simp at h
  | cons a r=>exact ⟨a,r,rfl⟩
 obtain ⟨b,c,d,rfl⟩:=UF (l:=r) (by simpa using h);exact ⟨_,_,_,_,rfl⟩
theorem Wc (b7 dt c:Rat):o8 (BG [[b7]] [[dt]] 1) c 1=[[(b7*dt+0)+c]]:=rfl
theorem rJ (b7 dt:Rat):B6 (BG [[b7]] [[dt]] 1) 1=0+(b7*dt+0):=rfl
theorem mD:F5 1=[[1]]:=rfl
set_option maxHeartbeats 40000000 in
theorem wX (b7:Rat):A5 [[b7]] 1 1=List.replicate 1 (List.replicate 1 0):=by
 have h0:A5 [[b7]] 1 0=F5 1:=rfl;rw[mD]at h0;have h1:A5 [[b7]] 1 1=o8 (BG [[b7]] (A5 [[b7]] 1 0) 1) (BH [[b7]] 1 0) 1:=rfl;have k0:=E9 1 (by omega) (B6 (BG [[b7]] (A5 [[b7]] 1 0) 1) 1);rw[show B6 (BG [[b7]] (A5 [[b7]] 1 0) 1) 1*Rat.divInt (-1) ((1:Nat):Int)=BH [[b7]] 1 0 from rfl,h0,rJ]at k0;generalize BH [[b7]] 1 0=c0 at *;rw[h0,Wc]at h1;clear h0;rw[h1];clear h1;simp only[List.replicate,List.cons.injEq,and_true];grind
theorem YE (b7 c9 e5 g7 dt gk gl gm c:Rat):o8 (BG [[b7,c9],[e5,g7]] [[dt,gk],[gl,gm]] 2) c 2=[[(b7*dt+(c9*gl+0))+c,b7*gk+(c9*gm+0)],[e5*dt+(g7*gl+0),(e5*gk+(g7*gm+0))+c]]:=rfl
theorem S0 (b7 c9 e5 g7 dt gk gl gm:Rat):B6 (BG [[b7,c9],[e5,g7]] [[dt,gk],[gl,gm]] 2) 2=(0+(b7*dt+(c9*gl+0)))+(e5*gk+(g7*gm+0)):=rfl
theorem aS:F5 2=[[1,0],[0,1]]:=rfl
set_option maxHeartbeats 40000000 in
theorem wY (b7 c9 e5 g7:Rat):A5 [[b7,c9],[e5,g7]] 2 2=List.replicate 2 (List.replicate 2 0):=by
 have h0:A5 [[b7,c9],[e5,g7]] 2 0=F5 2:=rfl;rw[aS]at h0;have h1:A5 [[b7,c9],[e5,g7]] 2 1=o8 (BG [[b7,c9],[e5,g7]] (A5 [[b7,c9],[e5,g7]] 2 0) 2) (BH [[b7,c9],[e5,g7]] 2 0) 2:=rfl;have k0:=E9 1 (by omega) (B6 (BG [[b7,c9],[e5,g7]] (A5 [[b7,c9],[e5,g7]] 2 0) 2) 2);rw[show B6 (BG [[b7,c9],[e5,g7]] (A5 [[b7,c9],[e5,g7]] 2 0) 2) 2*Rat.divInt (-1) ((1:Nat):Int)=BH [[b7,c9],[e5,g7]] 2 0 from rfl,h0,S0]at k0;generalize BH [[b7,c9],[e5,g7]] 2 0=c0 at *;rw[h0,YE]at h1;have h2:A5 [[b7,c9],[e5,g7]] 2 2=o8 (BG [[b7,c9],[e5,g7]] (A5 [[b7,c9],[e5,g7]] 2 1) 2) (BH [[b7,c9],[e5,g7]] 2 1) 2:=rfl;have k1:=E9 2 (by omega) (B6 (BG [[b7,c9],[e5,g7]] (A5 [[b7,c9],[e5,g7]] 2 1) 2) 2);rw[show B6 (BG [[b7,c9],[e5,g7]] (A5 [[b7,c9],[e5,g7]] 2 1) 2) 2*Rat.divInt (-1) ((2:Nat):Int)=BH [[b7,c9],[e5,g7]] 2 1 from rfl,h1,S0]at k1;generalize BH [[b7,c9],[e5,g7]] 2 1=c1 at *;rw[h1,YE]at h2;clear h0 h1;rw[h2];clear h2;simp only[List.replicate,List.cons.injEq,and_true];refine ⟨⟨?_,?_⟩,⟨?_,?_⟩⟩<;>grind
theorem RB (b7 c9 n0 e5 g7 n6 n7 n8 n9 dt gk mb gl gm mc me mf mg c:Rat):o8 (BG [[b7,c9,n0],[e5,g7,n6],[n7,n8,n9]] [[dt,gk,mb],[gl,gm,mc],[me,mf,mg]] 3) c 3=[[(b7*dt+(c9*gl+(n0*me+0)))+c,b7*gk+(c9*gm+(n0*mf+0)),b7*mb+(c9*mc+(n0*mg+0))],[e5*dt+(g7*gl+(n6*me+0)),(e5*gk+(g7*gm+(n6*mf+0)))+c,e5*mb+(g7*mc+(n6*mg+0))],[n7*dt+(n8*gl+(n9*me+0)),n7*gk+(n8*gm+(n9*mf+0)),(n7*mb+(n8*mc+(n9*mg+0)))+c]]:=rfl
theorem O2 (b7 c9 n0 e5 g7 n6 n7 n8 n9 dt gk mb gl gm mc me mf mg:Rat):B6 (BG [[b7,c9,n0],[e5,g7,n6],[n7,n8,n9]] [[dt,gk,mb],[gl,gm,mc],[me,mf,mg]] 3) 3=((0+(b7*dt+(c9*gl+(n0*me+0))))+(e5*gk+(g7*gm+(n6*mf+0))))+(n7*mb+(n8*mc+(n9*mg+0))):=rfl
theorem aT:F5 3=[[1,0,0],[0,1,0],[0,0,1]]:=rfl
set_option maxHeartbeats 40000000 in
theorem wZ (b7 c9 n0 e5 g7 n6 n7 n8 n9:Rat):A5 [[b7,c9,n0],[e5,g7,n6],[n7,n8,n9]] 3 3=List.replicate 3 (List.replicate 3 0):=by
 have h0:A5 [[b7,c9,n0],[e5,g7,n6],[n7,n8,n9]] 3 0=F5 3:=rfl;rw[aT]at h0;have h1:A5 [[b7,c9,n0],[e5,g7,n6],[n7,n8,n9]] 3 1=o8 (BG [[b7,c9,n0],[e5,g7,n6],[n7,n8,n9]] (A5 [[b7,c9,n0],[e5,g7,n6],[n7,n8,n9]] 3 0) 3) (BH [[b7,c9,n0],[e5,g7,n6],[n7,n8,n9]] 3 0) 3:=rfl;have k0:=E9 1 (by omega) (B6 (BG [[b7,c9,n0],[e5,g7,n6],[n7,n8,n9]] (A5 [[b7,c9,n0],[e5,g7,n6],[n7,n8,n9]] 3 0) 3) 3);rw[show B6 (BG [[b7,c9,n0],[e5,g7,n6],[n7,n8,n9]] (A5 [[b7,c9,n0],[e5,g7,n6],[n7,n8,n9]] 3 0) 3) 3*Rat.divInt (-1) ((1:Nat):Int)=BH [[b7,c9,n0],[e5,g7,n6],[n7,n8,n9]] 3 0 from rfl,h0,O2]at k0;generalize BH [[b7,c9,n0],[e5,g7,n6],[n7,n8,n9]] 3 0=c0 at *;rw[h0,RB]at h1;have h2:A5 [[b7,c9,n0],[e5,g7,n6],[n7,n8,n9]] 3 2=o8 (BG [[b7,c9,n0],[e5,g7,n6],[n7,n8,n9]] (A5 [[b7,c9,n0],[e5,g7,n6],[n7,n8,n9]] 3 1) 3) (BH [[b7,c9,n0],[e5,g7,n6],[n7,n8,n9]] 3 1) 3:=rfl;have k1:=E9 2 (by omega) (B6 (BG [[b7,c9,n0],[e5,g7,n6],[n7,n8,n9]] (A5 [[b7,c9,n0],[e5,g7,n6],[n7,n8,n9]] 3 1) 3) 3);rw[show B6 (BG [[b7,c9,n0],[e5,g7,n6],[n7,n8,n9]] (A5 [[b7,c9,n0],[e5,g7,n6],[n7,n8,n9]] 3 1) 3) 3*Rat.divInt (-1) ((2:Nat):Int)=BH [[b7,c9,n0],[e5,g7,n6],[n7,n8,n9]] 3 1 from rfl,h1,O2]at k1;generalize BH [[b7,c9,n0],[e5,g7,n6],[n7,n8,n9]] 3 1=c1 at *;rw[h1,RB]at h2;have h3:A5 [[b7,c9,n0],[e5,g7,n6],[n7,n8,n9]] 3 3=o8 (BG [[b7,c9,n0],[e5,g7,n6],[n7,n8,n9]] (A5 [[b7,c9,n0],[e5,g7,n6],[n7,n8,n9]] 3 2) 3) (BH [[b7,c9,n0],[e5,g7,n6],[n7,n8,n9]] 3 2) 3:=rfl;have k2:=E9 3 (by omega) (B6 (BG [[b7,c9,n0],[e5,g7,n6],[n7,n8,n9]] (A5 [[b7,c9,n0],[e5,g7,n6],[n7,n8,n9]] 3 2) 3) 3);rw[show B6 (BG [[b7,c9,n0],[e5,g7,n6],[n7,n8,n9]] (A5 [[b7,c9,n0],[e5,g7,n6],[n7,n8,n9]] 3 2) 3) 3*Rat.divInt (-1) ((3:Nat):Int)=BH [[b7,c9,n0],[e5,g7,n6],[n7,n8,n9]] 3 2 from rfl,h2,O2]at k2;generalize BH [[b7,c9,n0],[e5,g7,n6],[n7,n8,n9]] 3 2=c2 at *;rw[h2,RB]at h3;clear h0 h1 h2;rw[h3];clear h3;simp only[List.replicate,List.cons.injEq,and_true];refine ⟨⟨?_,?_,?_⟩,⟨?_,?_,?_⟩,⟨?_,?_,?_⟩⟩<;>grind
theorem RC (b7 c9 n0 w8 e5 g7 n6 w9 n7 n8 n9 x5 x6 x7 x8 x9 dt gk mb vb gl gm mc vd me mf mg ve vf vg m32 vh c:Rat):o8 (BG [[b7,c9,n0,w8],[e5,g7,n6,w9],[n7,n8,n9,x5],[x6,x7,x8,x9]] [[dt,gk,mb,vb],[gl,gm,mc,vd],[me,mf,mg,ve],[vf,vg,m32,vh]] 4) c 4=[[(b7*dt+(c9*gl+(n0*me+(w8*vf+0))))+c,b7*gk+(c9*gm+(n0*mf+(w8*vg+0))),b7*mb+(c9*mc+(n0*mg+(w8*m32+0))),b7*vb+(c9*vd+(n0*ve+(w8*vh+0)))],[e5*dt+(g7*gl+(n6*me+(w9*vf+0))),(e5*gk+(g7*gm+(n6*mf+(w9*vg+0))))+c,e5*mb+(g7*mc+(n6*mg+(w9*m32+0))),e5*vb+(g7*vd+(n6*ve+(w9*vh+0)))],[n7*dt+(n8*gl+(n9*me+(x5*vf+0))),n7*gk+(n8*gm+(n9*mf+(x5*vg+0))),(n7*mb+(n8*mc+(n9*mg+(x5*m32+0))))+c,n7*vb+(n8*vd+(n9*ve+(x5*vh+0)))],[x6*dt+(x7*gl+(x8*me+(x9*vf+0))),x6*gk+(x7*gm+(x8*mf+(x9*vg+0))),x6*mb+(x7*mc+(x8*mg+(x9*m32+0))),(x6*vb+(x7*vd+(x8*ve+(x9*vh+0))))+c]]:=rfl
theorem PV (b7 c9 n0 w8 e5 g7 n6 w9 n7 n8 n9 x5 x6 x7 x8 x9 dt gk mb vb gl gm mc vd me mf mg ve vf vg m32 vh:Rat):B6 (BG [[b7,c9,n0,w8],[e5,g7,n6,w9],[n7,n8,n9,x5],[x6,x7,x8,x9]] [[dt,gk,mb,vb],[gl,gm,mc,vd],[me,mf,mg,ve],[vf,vg,m32,vh]] 4) 4=(((0+(b7*dt+(c9*gl+(n0*me+(w8*vf+0)))))+(e5*gk+(g7*gm+(n6*mf+(w9*vg+0)))))+(n7*mb+(n8*mc+(n9*mg+(x5*m32+0)))))+(x6*vb+(x7*vd+(x8*ve+(x9*vh+0)))):=rfl
theorem mE:F5 4=[[1,0,0,0],[0,1,0,0],[0,0,1,0],[0,0,0,1]]:=rfl
set_option maxHeartbeats 40000000 in
theorem xA (b7 c9 n0 w8 e5 g7 n6 w9 n7 n8 n9 x5 x6 x7 x8 x9:Rat):A5 [[b7,c9,n0,w8],[e5,g7,n6,w9],[n7,n8,n9,x5],[x6,x7,x8,x9]] 4 4=List.replicate 4 (List.replicate 4 0):=by
 have h0:A5 [[b7,c9,n0,w8],[e5,g7,n6,w9],[n7,n8,n9,x5],[x6,x7,x8,x9]] 4 0=F5 4:=rfl;rw[mE]at h0;have h1:A5 [[b7,c9,n0,w8],[e5,g7,n6,w9],[n7,n8,n9,x5],[x6,x7,x8,x9]] 4 1=o8 (BG [[b7,c9,n0,w8],[e5,g7,n6,w9],[n7,n8,n9,x5],[x6,x7,x8,x9]] (A5 [[b7,c9,n0,w8],[e5,g7,n6,w9],[n7,n8,n9,x5],[x6,x7,x8,x9]] 4 0) 4) (BH [[b7,c9,n0,w8],[e5,g7,n6,w9],[n7,n8,n9,x5],[x6,x7,x8,x9]] 4 0) 4:=rfl;have k0:=E9 1 (by omega) (B6 (BG [[b7,c9,n0,w8],[e5,g7,n6,w9],[n7,n8,n9,x5],[x6,x7,x8,x9]] (A5 [[b7,c9,n0,w8],[e5,g7,n6,w9],[n7,n8,n9,x5],[x6,x7,x8,x9]] 4 0) 4) 4);rw[show B6 (BG [[b7,c9,n0,w8],[e5,g7,n6,w9],[n7,n8,n9,x5],[x6,x7,x8,x9]] (A5 [[b7,c9,n0,w8],[e5,g7,n6,w9],[n7,n8,n9,x5],[x6,x7,x8,x9]] 4 0) 4) 4*Rat.divInt (-1) ((1:Nat):Int)=BH [[b7,c9,n0,w8],[e5,g7,n6,w9],[n7,n8,n9,x5],[x6,x7,x8,x9]] 4 0 from rfl,h0,PV]at k0;generalize BH [[b7,c9,n0,w8],[e5,g7,n6,w9],[n7,n8,n9,x5],[x6,x7,x8,x9]] 4 0=c0 at *;rw[h0,RC]at h1;have h2:A5 [[b7,c9,n0,w8],[e5,g7,n6,w9],[n7,n8,n9,x5],[x6,x7,x8,x9]] 4 2=o8 (BG [[b7,c9,n0,w8],[e5,g7,n6,w9],[n7,n8,n9,x5],[x6,x7,x8,x9]] (A5 [[b7,c9,n0,w8],[e5,g7,n6,w9],[n7,n8,n9,x5],[x6,x7,x8,x9]] 4 1) 4) (BH [[b7,c9,n0,w8],[e5,g7,n6,w9],[n7,n8,n9,x5],[x6,x7,x8,x9]] 4 1) 4:=rfl;have k1:=E9 2 (by omega) (B6 (BG [[b7,c9,n0,w8],[e5,g7,n6,w9],[n7,n8,n9,x5],[x6,x7,x8,x9]] (A5 [[b7,c9,n0,w8],[e5,g7,n6,w9],[n7,n8,n9,x5],[x6,x7,x8,x9]] 4 1) 4) 4);rw[show B6 (BG [[b7,c9,n0,w8],[e5,g7,n6,w9],[n7,n8,n9,x5],[x6,x7,x8,x9]] (A5 [[b7,c9,n0,w8],[e5,g7,n6,w9],[n7,n8,n9,x5],[x6,x7,x8,x9]] 4 1) 4) 4*Rat.divInt (-1) ((2:Nat):Int)=BH [[b7,c9,n0,w8],[e5,g7,n6,w9],[n7,n8,n9,x5],[x6,x7,x8,x9]] 4 1 from rfl,h1,PV]at k1;generalize BH [[b7,c9,n0,w8],[e5,g7,n6,w9],[n7,n8,n9,x5],[x6,x7,x8,x9]] 4 1=c1 at *;rw[h1,RC]at h2;have h3:A5 [[b7,c9,n0,w8],[e5,g7,n6,w9],[n7,n8,n9,x5],[x6,x7,x8,x9]] 4 3=o8 (BG [[b7,c9,n0,w8],[e5,g7,n6,w9],[n7,n8,n9,x5],[x6,x7,x8,x9]] (A5 [[b7,c9,n0,w8],[e5,g7,n6,w9],[n7,n8,n9,x5],[x6,x7,x8,x9]] 4 2) 4) (BH [[b7,c9,n0,w8],[e5,g7,n6,w9],[n7,n8,n9,x5],[x6,x7,x8,x9]] 4 2) 4:=rfl;have k2:=E9 3 (by omega) (B6 (BG [[b7,c9,n0,w8],[e5,g7,n6,w9],[n7,n8,n9,x5],[x6,x7,x8,x9]] (A5 [[b7,c9,n0,w8],[e5,g7,n6,w9],[n7,n8,n9,x5],[x6,x7,x8,x9]] 4 2) 4) 4);rw[show B6 (BG [[b7,c9,n0,w8],[e5,g7,n6,w9],[n7,n8,n9,x5],[x6,x7,x8,x9]] (A5 [[b7,c9,n0,w8],[e5,g7,n6,w9],[n7,n8,n9,x5],[x6,x7,x8,x9]] 4 2) 4) 4*Rat.divInt (-1) ((3:Nat):Int)=BH [[b7,c9,n0,w8],[e5,g7,n6,w9],[n7,n8,n9,x5],[x6,x7,x8,x9]] 4 2 from rfl,h2,PV]at k2;generalize BH [[b7,c9,n0,w8],[e5,g7,n6,w9],[n7,n8,n9,x5],[x6,x7,x8,x9]] 4 2=c2 at *;rw[h2,RC]at h3;have h4:A5 [[b7,c9,n0,w8],[e5,g7,n6,w9],[n7,n8,n9,x5],[x6,x7,x8,x9]] 4 4=o8 (BG [[b7,c9,n0,w8],[e5,g7,n6,w9],[n7,n8,n9,x5],[x6,x7,x8,x9]] (A5 [[b7,c9,n0,w8],[e5,g7,n6,w9],[n7,n8,n9,x5],[x6,x7,x8,x9]] 4 3) 4) (BH [[b7,c9,n0,w8],[e5,g7,n6,w9],[n7,n8,n9,x5],[x6,x7,x8,x9]] 4 3) 4:=rfl;have k3:=E9 4 (by omega) (B6 (BG [[b7,c9,n0,w8],[e5,g7,n6,w9],[n7,n8,n9,x5],[x6,x7,x8,x9]] (A5 [[b7,c9,n0,w8],[e5,g7,n6,w9],[n7,n8,n9,x5],[x6,x7,x8,x9]] 4 3) 4) 4);rw[show B6 (BG [[b7,c9,n0,w8],[e5,g7,n6,w9],[n7,n8,n9,x5],[x6,x7,x8,x9]] (A5 [[b7,c9,n0,w8],[e5,g7,n6,w9],[n7,n8,n9,x5],[x6,x7,x8,x9]] 4 3) 4) 4*Rat.divInt (-1) ((4:Nat):Int)=BH [[b7,c9,n0,w8],[e5,g7,n6,w9],[n7,n8,n9,x5],[x6,x7,x8,x9]] 4 3 from rfl,h3,PV]at k3;generalize BH [[b7,c9,n0,w8],[e5,g7,n6,w9],[n7,n8,n9,x5],[x6,x7,x8,x9]] 4 3=c3 at *;rw[h3,RC]at h4;clear h0 h1 h2 h3;rw[h4];clear h4;simp only[List.replicate,List.cons.injEq,and_true];refine ⟨⟨?_,?_,?_,?_⟩,⟨?_,?_,?_,?_⟩,⟨?_,?_,?_,?_⟩,⟨?_,?_,?_,?_⟩⟩<;>grind
theorem gG {n:Nat} {a:List (List Rat)} (hs:Sq n a) (hn:n<=4):A5 a n n=List.replicate n (List.replicate n 0):=by
 obtain ⟨hl,hr⟩:=hs;rcases n with _|_|_|_|_|n
 ·rfl
 ·obtain ⟨r0,rfl⟩:=BW hl
  obtain ⟨b7,rfl⟩:=BW (hr r0 (by simp));exact wX b7
 ·obtain ⟨r0,r1,rfl⟩:=BO hl
  obtain ⟨b7,c9,rfl⟩:=BO (hr r0 (by simp));obtain ⟨e5,g7,rfl⟩:=BO (hr r1 (by simp));exact wY b7 c9 e5 g7
 ·obtain ⟨r0,r1,r2,rfl⟩:=UF hl
  obtain ⟨b7,c9,n0,rfl⟩:=UF (hr r0 (by simp));obtain ⟨e5,g7,n6,rfl⟩:=UF (hr r1 (by simp));obtain ⟨n7,n8,n9,rfl⟩:=UF (hr r2 (by simp));exact wZ b7 c9 n0 e5 g7 n6 n7 n8 n9
 ·obtain ⟨r0,r1,r2,r3,rfl⟩:=UG hl
  obtain ⟨b7,c9,n0,w8,rfl⟩:=UG (hr r0 (by simp));obtain ⟨e5,g7,n6,w9,rfl⟩:=UG (hr r1 (by simp));obtain ⟨n7,n8,n9,x5,rfl⟩:=UG (hr r2 (by simp));obtain ⟨x6,x7,x8,x9,rfl⟩:=UG (hr r3 (by simp));exact xA b7 c9 n0 w8 e5 g7 n6 w9 n7 n8 n9 x5 x6 x7 x8 x9
 ·omega
abbrev eO:Option Rat->List AV
 | none=>[.bool false,.nil,.nil]
 | some x=>eQ x
def EK (l:List Rat) (m:Nat):List (Option Rat):=l.map some++List.replicate (m-l.length) none
theorem I2 (m:Nat):EK [] m=List.replicate m none:=by simp [EK]
theorem IM {l:List Rat} {m:Nat} (h:l.length<=m):(EK l m).length=m:=by simp [EK];omega
theorem I3 {l:List Rat} {m:Nat} {x:Rat} (h:l.length<m):(EK l m).set l.length (some x)=EK (l++[x]) m:=by
 unfold EK;have e:m-l.length=(m-(l++[x]).length)+1:=by simp;omega
 rw[e,List.replicate_succ,List.set_append_right _ _ (by simp)];simp
theorem I1 {l:List Rat} {m:Nat} (h:l.length=m):(EK l m).map eO=l.map eQ:=by
 unfold EK;rw[h,Nat.sub_self];simp [Function.comp_def]
abbrev eS (S:B3):List AV:=[.sl false (S.a.map λ r=>[AV.sl false (r.map eQ)]),.sl false (S.b.map eQ),.sl false (S.c.map eQ)]++eQ S.d
theorem EY (l:List Rat):F9 (l.map eQ):=WF (λ x=>by simp only[C6,A6,and_true,true_and];exact ⟨CQ _,CQ _⟩) l
theorem RD {l:List Rat} {i:Nat} {x:Rat} (h:l[i]? = some x):l.take (i+1)=l.take i++[x]:=by
 rw[List.take_add_one,h];rfl
theorem ZC (S:B3):A6 (.agg (eS S)):=by
 have h:F9 (S.a.map λ r=>[AV.sl false (r.map eQ)]):=WF (λ r=>by simp only[C6,A6,and_true,true_and];exact EY r) S.a;simp only[A6,List.cons_append,List.nil_append,C6,and_true,true_and];exact ⟨h,EY _,EY _,CQ _,CQ _⟩
def SS (N:Nat):List IV->Bool
 | []=>true
 | .tmp t::r=>Nat.blt t N&&SS N r
 | .cell t _ _::r=>Nat.blt t N&&SS N r
theorem cP {N:Nat} {s s':St} (ho:s.own=s'.own) (ln : ∀ j,j<N->g6 s'.tm j=g6 s.tm j) : ∀ {res:List IV},SS N res=true->res.mapM (E6 s)=res.mapM (E6 s')
 | [],_=>rfl
 | .tmp t::r,h=>by
  simp only[SS,Bool.and_eq_true]at h;have:=cP ho ln h.2
  simp only[List.mapM_cons,E6,ln t (QA.1 h.1),this]
 | .cell t agg n::r,h=>by
  simp only[SS,Bool.and_eq_true]at h;have:=cP ho ln h.2
  simp only[List.mapM_cons,E6,ln t (QA.1 h.1),this,ho]
def uN (N:Nat) (fn:AFn) (tm:Tm) (K:AV->Mem->Prop) (ag:Tm) (M':Mem):Prop:=gh N ag=tm/\XY ag M' fn.res (λ rs=>Ki rs λ v=>K v M')
theorem FD {L:Lib} {f:Nat} {fn:AFn} {vs:List AV} {tm:Tm} {M:Mem} {K:AV->Mem->Prop} (N:Nat) (hL:L f=some fn) (hp:Nat.beq vs.length fn.af=true) (hN:(Nat.ble fn.af N&&(HT N fn.body&&SS N fn.res))=true)
  (h:AA L [.code fn.body] (CR 0 vs++GF N tm) M (uN N fn tm K)):BA L f vs tm M K:=by
 intro σ own hs;simp only[Bool.and_eq_true]at hN;obtain ⟨n1,n2,n3⟩:=hN;have n1:=Nat.le_of_ble_eq_true n1;have hp:vs.length=fn.af:=Nat.eq_of_beq_eq_true hp;have Ge:RX σ (CR 0 vs++GF N tm) M ⟨KP (BC σ) (CR 0 vs++GF N tm),own⟩:=⟨λ j=>Or.inr (by rw[JL];exact JM (J1 σ) j _),hs⟩;obtain ⟨n,c,s',hr,σ',ag,M',hR,hg,jk⟩:=h σ _ Ge;have Fb:Gh N (KP (BC σ) (GF N tm)) (CR 0 (vs.map (BC σ))) (KP (BC σ) (CR 0 vs++GF N tm)):=by
  constructor
  ·intro j hj
   rw[aV,JM (J1 σ),JM (J1 σ)];rcases VH j (GF N tm) (CR 0 vs) with ⟨_,e⟩|⟨hn,e⟩
   ·rw[e]
   ·rw[e,dQ hj,dO j 0 vs hn]
  ·intro j hj
   rw[JM (J1 σ),JM (J1 σ)];rcases VH j (GF N tm) (CR 0 vs) with ⟨hn,e⟩|⟨_,e⟩
   ·have:=aU j 0 vs hn
    omega
   ·rw[e]
 obtain ⟨s,r1,r2,r3⟩:=H9 n (by simp [PJ,n2]) Fb hr;obtain ⟨rs,i1,i2,i3⟩:=cO hR jk;rw[<-cP (s:=s) r2.symm r3.lo n3,i3]at i1;have key : ∃ r,HN (rs.map (BT σ'))=BC σ' r/\K r M':=by
  match rs,i2,i3 with
  | [],h,_=>exact ⟨.j4 [],rfl,h⟩
  | [v],h,e =>
   simp only[List.map_cons,List.map_nil,List.cons.injEq,and_true]at e;exact ⟨v,by simp only[List.map_cons,List.map_nil,HN];exact e.symm,h⟩
  | a::b::l,h,_=>exact ⟨.j4 (a::b::l),rfl,h⟩
 obtain ⟨r,k1,k2⟩:=key;refine ⟨r,s.own,σ',M',GJ.intro hL (by simpa using hp) ⟨n,c,s,r1,?_,rfl⟩,?_,?_,k2⟩
 ·rw[i1,Option.map_some,k1]
 ·rw[<-r2];exact hR.sat
 ·intro j
  have e1:tg tm j=tg ag (N+j):=by rw[JL,JL,<-hg,dN]
  rcases hR.tm (N+j) with e|e
  ·rw[e1,e];rfl
  ·rw[e1,<-e,r3.hi (N+j) (by omega),JM (J1 σ),dP,<-JL,e1]
theorem Bt.ofInt {k:Nat} {z:Int} (h:z.natAbs<=2^k):Bt k ((z:Int):Rat):=⟨by rw[Rat.num_intCast];exact h,by rw[Rat.den_intCast];exact Nat.one_le_two_pow⟩
end Go.e9
namespace Go.e9
theorem Bt.Ha {k:Nat} {y:Rat} (h:Bt k y):Bt k y⁻¹:=by
 rw[Rat.inv_def];rcases Int.natAbs_eq y.num with e|e
 ·rw[e,Rat.divInt_ofNat]
  exact Bt.mk (by simpa using h.2) h.1
 ·rw[e,Rat.divInt_neg',Rat.divInt_ofNat]
  exact Bt.mk (by simpa using h.2) h.1
theorem Bt.nv {k l:Nat} {x y:Rat} (hx:Bt k x) (hy:Bt l y):Bt (k+l) (x/y):=by
 rw[Rat.div_def];exact hx.mul hy.Ha
theorem Bt.Hd {k:Nat} {x:Rat} (h:Bt k x):Bt k (-x):=⟨by rw[Rat.neg_num,Int.natAbs_neg];exact h.1,by rw[Rat.neg_den];exact h.2⟩
section
variable {m0 m:List (List Rat)} {K W Wp c:Nat} {P:List Nat} {odd:Bool} {l:Rat}
end
end Go.e9

namespace Go.e9
structure Pt where
 x:Rat
 y:Rat
 w:Rat
def Up (g:List Pt) (f:Pt->Rat):Rat:=g.foldl (λ s p=>s+f p) 0
def rhs (g:List Pt) (k:Nat):Rat:=Up g λ p=>p.w*p.x^k*p.y
theorem sI {L:Lib} {kk:List It} {tm:Tm} {M:Mem} {Q Q':Tm->Mem->Prop} (h:AA L kk tm M Q) (hq : ∀ tm M,Q tm M->Q' tm M):AA L kk tm M Q':=λ σ st hr=>by
 obtain ⟨n,c,s,h1,σ',ag,M',h2,h3⟩:=h σ st hr;exact ⟨n,c,s,h1,σ',ag,M',h2,hq _ _ h3⟩
end Go.e9

namespace Go.e9
open F
attribute [local irreducible] AA AF AQ AD DW AW A9 BD CO AX BI FZ CE A4 CD C7 AB BA AJ pw D6 C3 E7 EH FE BP C4 B9 CF
variable {L:Lib}
set_option maxHeartbeats 1000000
def DB (a b:Int):Int:=if a<b then -1 else if b<a then 1 else 0
theorem HV {a b:Int} (h:a<b) : -1=DB a b:=by unfold DB;rw[if_pos h]
theorem NZ {a b:Int} (h:b<a):1=DB a b:=by unfold DB;rw[if_neg (by omega),if_pos h]
theorem QD {a b:Int} (h:a=b):0=DB a b:=by unfold DB;rw[if_neg (by omega),if_neg (by omega)]
theorem Kn (N:c7 L) (a:Int):Ev L 58 [.int .i64 a] (.bool false):=by
 refine Ev.x N.J5 rfl rfl ?_;(repeat' ((first|(apply AG<;>intro hc<;>try omega)|apply AE)<;>conv=>whnf))
 exact HQ rfl
theorem Ko (N:c7 L) (a:Int):Ev L 59 [.int .u32 a] (.bool false):=by
 refine Ev.x N.J6 rfl rfl ?_;(repeat' ((first|(apply AG<;>intro hc<;>try omega)|apply AE)<;>conv=>whnf))
 exact HQ rfl
theorem Lg (N:c7 L) (a b:Int):Ev L 60 [.int .i64 a,.int .i64 b] (.int .i64 (DB a b)):=by
 refine Ev.x N.J3 rfl rfl ?_;(repeat' ((first|(apply AG<;>intro hc<;>try omega)|apply AE|refine AC (Kn N _) ?_)<;>conv=>whnf))
 ·exact C2 (HV (by omega))
 ·exact C2 (NZ (by omega))
 ·exact C2 (QD (by omega))
theorem Lh (N:c7 L) (a b:Int):Ev L 61 [.int .u32 a,.int .u32 b] (.int .i64 (DB a b)):=by
 refine Ev.x N.J4 rfl rfl ?_;(repeat' ((first|(apply AG<;>intro hc<;>try omega)|apply AE|refine AC (Ko N _) ?_)<;>conv=>whnf))
 ·exact C2 (HV (by omega))
 ·exact C2 (NZ (by omega))
 ·exact C2 (QD (by omega))
theorem jK (N:c7 L) (l:List Nat) (q:Bool) (hl:l.length<=1099511627776):Ev L 62 [.sl q (l.map AL)] (.sl false (l.map AL)):=by
 cases l with
 | nil =>
  refine FQ.nil N.HF (FQ.x N.HF rfl rfl ?_) (FQ.x N.HF rfl rfl ?_)
  ·(repeat' (apply AE<;>conv=>whnf))
   exact AU rfl (by simp [A6,F9])
  ·(repeat' (apply AE<;>conv=>whnf))
   refine NM (enc:=AL) (l:=[]) (l':=[]) rfl (λ_=>rfl) (by simp) (by simp) ?_;(conv=>whnf)
   (repeat' ((refine D4 (λ_=>rfl) rfl ?_ ?_;(first|rfl|simp))<;>conv=>whnf))
   exact AU rfl (by simp [A6,F9])
 | cons d l =>
  refine FQ.cons (FQ.x N.HF rfl rfl ?_);(repeat' (apply AE<;>conv=>whnf))
  refine A3 (by simp) ?_;(conv=>whnf)
  skip
  refine NM (enc:=AL) (l:=[]) (l':=d::l) rfl (λ_=>rfl) (by simp at hl ⊢;omega) (by simp at hl ⊢;omega) ?_;(conv=>whnf)
  (repeat' ((refine D4 (λ_=>rfl) rfl ?_ ?_;(first|rfl|simp))<;>conv=>whnf))
  exact AU rfl (by simp only[A6,true_and];exact CQ (d::l))
theorem J0 (N:c7 L) (l:List Nat) (q:Bool) (hD:AY l) (hl:l.length<=1099511627776):TD L 65 [.sl q (l.map AL)] (.sl q ((dg (val l)).map AL)):=by
 refine uQ N.FO rfl rfl rfl rfl rfl ?_;(repeat' ((first|apply AR|apply AE)<;>conv=>whnf))
 refine ED (λ n=>n) (λ(n:Nat)=>n<=l.length /\ ∀ i,n<=i->i<l.length->l[i]? = some 0) (λ n=>[(3,.int .i64 n)]) (λ_=>[]) l.length ⟨Nat.le_refl _,λ i h1 h2=>by omega⟩ ?_;intro n ⟨p1,p2⟩ ih;rcases n with _|n
 ·(repeat' ((first|(apply AG<;>intro hc<;>try omega)|apply AE)<;>conv=>whnf))
  refine NR (k:=0) (λ_=>rfl) (by omega) ?_;(conv=>whnf)
  refine ⟨_,rfl,?_⟩;rw[GA hD p1 p2 (Or.inl rfl)];rfl
 ·have e1:((n+1:Nat):Int)-1=n:=by omega
  (repeat' ((first|(apply AG<;>intro hc<;>try omega)|(apply BX;omega)|(refine O8 (by assumption) ?_ (λ e he hb => ?_);omega)|apply AE)<;>conv=>whnf))
  ·rw[e1]
   exact B0 [] (ih n (by omega) ⟨by omega,λ i h1 h2=>by
    by_cases h:i=n
    ·subst h
     rw[e1,Int.toNat_natCast]at he;rw[he];congr 1;omega
    ·exact p2 i (by omega) h2⟩)
  ·refine NR (k:=n+1) (λ_=>rfl) (by omega) ?_
   (conv=>whnf)
   refine ⟨_,rfl,?_⟩;rw[e1,Int.toNat_natCast]at he;rw[GA hD p1 p2 (Or.inr ⟨e,he,by omega⟩)];rfl
theorem TY (N:c7 L) (l:List Nat) (q:Bool) (hD:AY l) (hl:l.length<=1099511627776):Ev L 66 [.sl q (l.map AL)] (.sl false ((dg (val l)).map AL)):=by
 have hc:=ET hD;refine Ev.x N.KY rfl rfl ?_;(repeat' ((first|apply AE|refine JP (J0 N l _ hD hl) ?_|refine AC (jK N (dg (val l)) _ (by omega)) ?_)<;>conv=>whnf))
 exact AU rfl (by simp only[A6,true_and];exact CQ _)
theorem xK {a b:Nat} (h:((dg a).length:Int)≠(dg b).length):DB (dg a).length (dg b).length=DB a b:=by
 rcases Nat.lt_trichotomy (dg a).length (dg b).length with h1|h1|h1
 ·have:=S3 h1
  rw[<-HV (by omega),<-HV (by omega)]
 ·omega
 ·have:=S3 h1
  rw[<-NZ (by omega),<-NZ (by omega)]
theorem OR (N:c7 L) (a b:List Nat) (q1 q2:Bool) (hA:AY a) (hB:AY b) (la:a.length<=1099511627776) (lb:b.length<=1099511627776):Ev L 67 [.sl q1 (a.map AL),.sl q2 (b.map AL)] (.int .i64 (DB (val a) (val b))):=by
 have l1:=ET hA;have l2:=ET hB;have d1:=DX (val a);have d2:=DX (val b);refine Ev.x N.KU rfl rfl ?_;(repeat' ((first|(apply AG<;>intro hc<;>try omega)|(apply BX;omega)|apply AR|apply AE|refine JP (J0 N a _ hA la) ?_|refine JP (J0 N b _ hB lb) ?_|refine AC (Lg N _ _) ?_)<;>conv=>whnf))
 ·exact C2 (xK (by omega))
 have hlen:(dg (val a)).length=(dg (val b)).length:=by omega
 have v1:=BS (val a);have v2:=BS (val b);generalize dg (val a)=X at *;generalize dg (val b)=Y at *;refine ED (λ n=>n) (λ(n:Nat)=>n<=X.length/\X.drop n=Y.drop n) (λ n=>[(7,.int .i64 ((n:Int)-1))]) (λ_=>[]) X.length ⟨Nat.le_refl _,by rw[List.drop_of_length_le (Nat.le_refl _),List.drop_of_length_le (by omega)]⟩ ?_;intro n ⟨p1,p2⟩ ih;rcases n with _|n
 ·(repeat' ((first|(apply AG<;>intro hc<;>try omega)|apply AE)<;>conv=>whnf))
  rw[List.drop_zero,List.drop_zero]at p2;exact C2 (QD (by rw[<-v1,<-v2,p2]))
 ·have e1:((n+1:Nat):Int)-1=n:=by omega
  rw[e1];(repeat' ((first|(apply AG<;>intro hc<;>try omega)|(apply BX;omega)|(refine BL (by assumption) ?_ rfl ?_;omega)|(refine VZ (by assumption) ?_ (λ e he hb => ?_);omega)|apply AE|refine AC (Lh N _ _) ?_)<;>conv=>whnf))
  ·rename_i x hx _
   rcases Nat.lt_trichotomy x e with h|h|h
   ·have:=YK d1 d2 hlen hx he p2 h
    refine C2 ?_;rw[<-HV (by omega),<-HV (by omega)]
   ·omega
   ·have:=YK d2 d1 hlen.symm he hx p2.symm h
    refine C2 ?_;rw[<-NZ (by omega),<-NZ (by omega)]
  ·rename_i x hx _
   refine B5 [] (by (conv=>whnf);exact ⟨rfl,rfl,rfl⟩) (ih n (by omega) ⟨by omega,?_⟩);obtain ⟨i1,e1⟩:=zS hx;obtain ⟨i2,e2⟩:=zS he;rw[List.drop_eq_getElem_cons i1,List.drop_eq_getElem_cons i2,p2,e1,e2];congr 1;omega
theorem YM {y:List Nat} {i:Nat} (h:y.length<=i):val (y.take (i+1))=val (y.take i):=by
 rw[DD h,DD (by omega)]
theorem Ks (N:c7 L) (a b:List Nat) (q1 q2:Bool) (hA:AY a) (hB:AY b) (la:a.length<=1099511627775) (lb:b.length<=1099511627775):Ev L 68 [.sl q1 (a.map AL),.sl q2 (b.map AL)] (.sl false ((dg (val a+val b)).map AL)):=by
 have l1:=ET hA;have l2:=ET hB;have d1:=DX (val a);have d2:=DX (val b);have v1:=BS (val a);have v2:=BS (val b);refine Ev.x N.KT rfl rfl ?_;(repeat' ((first|(apply AG<;>intro hc<;>try omega)|(apply AZ;omega)|apply AR|apply AE|refine JP (J0 N a _ hA (by omega)) ?_|refine JP (J0 N b _ hB (by omega)) ?_)<;>conv=>whnf))
 ·generalize dg (val a)=y at *
  generalize dg (val b)=x at *;rw[<-v1,<-v2,Nat.add_comm (val y)];have hlen:y.length<=x.length:=by omega
  have Dc:x.length<=1099511627775:=by omega
  clear v1 v2 hA hB la lb;refine EM (enc:=AL) 0 (x.length+1) rfl (by omega) (by omega) ?_;(conv=>whnf)
  (repeat' (apply AR<;>conv=>whnf))
  refine GH (λ i _ _=>x.length-i) (λ(i:Nat) (o:List Nat) (c:Nat)=>i<=x.length/\o.length=x.length+1/\AY o/\c<=1/\val (o.take i)+4294967296^i*c=val (x.take i)+val (y.take i)) (λ i o c=>[(8,.int .u64 (c:Int)),(29,.int .i64 i)]) (λ i o c=>[(26,26,.rw 1 (o.map AL))]) 0 (List.replicate (x.length+1) 0) 0 ⟨by omega,by simp,IK _,by omega,by simp [val]⟩ ?_;intro i o c ⟨p1,p2,p3,p4,p5⟩ ih;by_cases hi:i<x.length
  ·(repeat' ((first|(apply AG<;>intro hc<;>try omega)|(apply A3;omega)|(apply F2;omega)|(apply CH;omega)|apply FP|apply AR|(refine VZ (by assumption) ?_ (λ e he hb => ?_);omega)|apply AE)<;>conv=>whnf))
   ·rename_i d hd _
    refine E8 (by omega) ?_;(conv=>whnf)
    (repeat' ((first|(apply AZ;omega)|apply FF)<;>conv=>whnf))
    refine B5 [] (by (conv=>whnf);exact ⟨rfl,rfl,rfl⟩) (ih (i+1) _ _ (by omega) ⟨by omega,by simpa using p2,p3.set _ (by omega),by omega,?_⟩);have h1:=DY hd;have h2:=DY he;have h3:=OL (val (o.take i)) (4294967296^i) (d+c+e);have h4:=FY (v:=(d+c+e)%4294967296) (show i<o.length by omega);rw[h4,h1,h2,Nat.pow_succ];generalize 4294967296^i=p at *;rw[h3,Nat.mul_add,Nat.mul_add];omega
   ·refine E8 (by omega) ?_
    (conv=>whnf)
    (repeat' ((first|(apply AZ;omega)|apply FF)<;>conv=>whnf))
    refine B5 [] (by (conv=>whnf);exact ⟨rfl,rfl,rfl⟩) (ih (i+1) _ _ (by omega) ⟨by omega,by simpa using p2,p3.set _ (by omega),by omega,?_⟩);have h1:=DY he;have h2:=YM (y:=y) (i:=i) (by omega);have h3:=OL (val (o.take i)) (4294967296^i) (e+c);have h4:=FY (v:=(e+c)%4294967296) (show i<o.length by omega);rw[h4,h1,h2,Nat.pow_succ];generalize 4294967296^i=p at *;rw[h3,Nat.mul_add];omega
  ·obtain rfl:i=x.length:=by omega
   clear ih;(repeat' ((first|(apply AG<;>intro hc<;>try omega)|(apply A3;omega)|(apply D9;omega)|apply AR|apply AE)<;>conv=>whnf))
   refine E8 (by omega) ?_;(conv=>whnf)
   skip
   have hV:val (o.set x.length c)=val x+val y:=by
    have h4:=FY (v:=c) (show x.length<o.length by omega);rw[zT (by simp;omega)]at h4;rw[h4,p5,DD (Nat.le_refl _),DD hlen]
   have hD:AY (o.set x.length c):=p3.set _ (by omega);have hL:(o.set x.length c).length=x.length+1:=by simpa using p2
   clear p3 p4 p5 p2;generalize o.set x.length c=O at *;rw[<-hL];refine FC 1000 N.FO rfl rfl ?_;(repeat' (apply AE<;>conv=>whnf))
   refine ES (λ n=>n) (λ(n:Nat)=>n<=(O).length /\ ∀ i,n<=i->i<(O).length->(O)[i]? = some 0) (λ n=>[(3,.int .i64 n)]) (λ_=>[]) [] [] (O).length (by first|exact (by (conv=>whnf);exact ⟨rfl,rfl,rfl⟩)|(simp only[List.length_set,List.length_replicate];exact (by (conv=>whnf);exact ⟨rfl,rfl,rfl⟩))) ⟨Nat.le_refl _,λ i h1 h2=>by omega⟩ ?_;intro n ⟨p1,p2⟩ ih;rcases n with _|n
   ·(repeat' ((first|(apply AG<;>intro hc<;>try omega)|apply AE)<;>conv=>whnf))
    refine F8 0 (by omega) (by omega) ?_;(conv=>whnf)
    refine ⟨rfl,_,rfl,?_⟩;(conv=>whnf)
    have hm:=p1;have cb:=GA (l:=O) (by assumption) p1 p2 (Or.inl rfl);clear ih p1 p2;(refine GL (enc:=AL) (λ_=>rfl) (by omega) ?_;(conv=>whnf);exact AU (by rw[<-hV,<-cb];rfl) (by simp only[A6,true_and];exact CQ _))
   ·have e1:((n+1:Nat):Int)-1=n:=by omega
    (repeat' ((first|(apply AG<;>intro hc<;>try omega)|(apply A3;omega)|(apply BX;omega)|(refine P2 (by assumption) ?_ (λ v hv hb => ?_);omega)|apply AE)<;>conv=>whnf))
    ·rw[e1]
     exact B0 [] (ih n (by omega) ⟨by omega,λ i h1 h2=>by
      by_cases h:i=n
      ·subst h
       rw[e1,Int.toNat_natCast]at hv;rw[hv];congr 1;omega
      ·exact p2 i (by omega) h2⟩)
    ·refine F8 (n+1) (by omega) (by omega) ?_
     (conv=>whnf)
     refine ⟨rfl,_,rfl,?_⟩;(conv=>whnf)
     rw[e1,Int.toNat_natCast]at hv;have hm:=p1;have cb:=GA (l:=O) (by assumption) p1 p2 (Or.inr ⟨_,hv,by omega⟩);clear ih p1 p2 hv;(refine GL (enc:=AL) (λ_=>rfl) (by omega) ?_;(conv=>whnf);exact AU (by rw[<-hV,<-cb];rfl) (by simp only[A6,true_and];exact CQ _))
 ·generalize dg (val a)=x at *
  generalize dg (val b)=y at *;rw[<-v1,<-v2];have hlen:y.length<=x.length:=by omega
  have Dc:x.length<=1099511627775:=by omega
  clear v1 v2 hA hB la lb;refine EM (enc:=AL) 0 (x.length+1) rfl (by omega) (by omega) ?_;(conv=>whnf)
  (repeat' (apply AR<;>conv=>whnf))
  refine GH (λ i _ _=>x.length-i) (λ(i:Nat) (o:List Nat) (c:Nat)=>i<=x.length/\o.length=x.length+1/\AY o/\c<=1/\val (o.take i)+4294967296^i*c=val (x.take i)+val (y.take i)) (λ i o c=>[(8,.int .u64 (c:Int)),(29,.int .i64 i)]) (λ i o c=>[(26,26,.rw 1 (o.map AL))]) 0 (List.replicate (x.length+1) 0) 0 ⟨by omega,by simp,IK _,by omega,by simp [val]⟩ ?_;intro i o c ⟨p1,p2,p3,p4,p5⟩ ih;by_cases hi:i<x.length
  ·(repeat' ((first|(apply AG<;>intro hc<;>try omega)|(apply A3;omega)|(apply F2;omega)|(apply CH;omega)|apply FP|apply AR|(refine VZ (by assumption) ?_ (λ e he hb => ?_);omega)|apply AE)<;>conv=>whnf))
   ·rename_i d hd _
    refine E8 (by omega) ?_;(conv=>whnf)
    (repeat' ((first|(apply AZ;omega)|apply FF)<;>conv=>whnf))
    refine B5 [] (by (conv=>whnf);exact ⟨rfl,rfl,rfl⟩) (ih (i+1) _ _ (by omega) ⟨by omega,by simpa using p2,p3.set _ (by omega),by omega,?_⟩);have h1:=DY hd;have h2:=DY he;have h3:=OL (val (o.take i)) (4294967296^i) (d+c+e);have h4:=FY (v:=(d+c+e)%4294967296) (show i<o.length by omega);rw[h4,h1,h2,Nat.pow_succ];generalize 4294967296^i=p at *;rw[h3,Nat.mul_add,Nat.mul_add];omega
   ·refine E8 (by omega) ?_
    (conv=>whnf)
    (repeat' ((first|(apply AZ;omega)|apply FF)<;>conv=>whnf))
    refine B5 [] (by (conv=>whnf);exact ⟨rfl,rfl,rfl⟩) (ih (i+1) _ _ (by omega) ⟨by omega,by simpa using p2,p3.set _ (by omega),by omega,?_⟩);have h1:=DY he;have h2:=YM (y:=y) (i:=i) (by omega);have h3:=OL (val (o.take i)) (4294967296^i) (e+c);have h4:=FY (v:=(e+c)%4294967296) (show i<o.length by omega);rw[h4,h1,h2,Nat.pow_succ];generalize 4294967296^i=p at *;rw[h3,Nat.mul_add];omega
  ·obtain rfl:i=x.length:=by omega
   clear ih;(repeat' ((first|(apply AG<;>intro hc<;>try omega)|(apply A3;omega)|(apply D9;omega)|apply AR|apply AE)<;>conv=>whnf))
   refine E8 (by omega) ?_;(conv=>whnf)
   skip
   have hV:val (o.set x.length c)=val x+val y:=by
    have h4:=FY (v:=c) (show x.length<o.length by omega);rw[zT (by simp;omega)]at h4;rw[h4,p5,DD (Nat.le_refl _),DD hlen]
   have hD:AY (o.set x.length c):=p3.set _ (by omega);have hL:(o.set x.length c).length=x.length+1:=by simpa using p2
   clear p3 p4 p5 p2;generalize o.set x.length c=O at *;rw[<-hL];refine FC 1000 N.FO rfl rfl ?_;(repeat' (apply AE<;>conv=>whnf))
   refine ES (λ n=>n) (λ(n:Nat)=>n<=(O).length /\ ∀ i,n<=i->i<(O).length->(O)[i]? = some 0) (λ n=>[(3,.int .i64 n)]) (λ_=>[]) [] [] (O).length (by first|exact (by (conv=>whnf);exact ⟨rfl,rfl,rfl⟩)|(simp only[List.length_set,List.length_replicate];exact (by (conv=>whnf);exact ⟨rfl,rfl,rfl⟩))) ⟨Nat.le_refl _,λ i h1 h2=>by omega⟩ ?_;intro n ⟨p1,p2⟩ ih;rcases n with _|n
   ·(repeat' ((first|(apply AG<;>intro hc<;>try omega)|apply AE)<;>conv=>whnf))
    refine F8 0 (by omega) (by omega) ?_;(conv=>whnf)
    refine ⟨rfl,_,rfl,?_⟩;(conv=>whnf)
    have hm:=p1;have cb:=GA (l:=O) (by assumption) p1 p2 (Or.inl rfl);clear ih p1 p2;(refine GL (enc:=AL) (λ_=>rfl) (by omega) ?_;(conv=>whnf);exact AU (by rw[<-hV,<-cb];rfl) (by simp only[A6,true_and];exact CQ _))
   ·have e1:((n+1:Nat):Int)-1=n:=by omega
    (repeat' ((first|(apply AG<;>intro hc<;>try omega)|(apply A3;omega)|(apply BX;omega)|(refine P2 (by assumption) ?_ (λ v hv hb => ?_);omega)|apply AE)<;>conv=>whnf))
    ·rw[e1]
     exact B0 [] (ih n (by omega) ⟨by omega,λ i h1 h2=>by
      by_cases h:i=n
      ·subst h
       rw[e1,Int.toNat_natCast]at hv;rw[hv];congr 1;omega
      ·exact p2 i (by omega) h2⟩)
    ·refine F8 (n+1) (by omega) (by omega) ?_
     (conv=>whnf)
     refine ⟨rfl,_,rfl,?_⟩;(conv=>whnf)
     rw[e1,Int.toNat_natCast]at hv;have hm:=p1;have cb:=GA (l:=O) (by assumption) p1 p2 (Or.inr ⟨_,hv,by omega⟩);clear ih p1 p2 hv;(refine GL (enc:=AL) (λ_=>rfl) (by omega) ?_;(conv=>whnf);exact AU (by rw[<-hV,<-cb];rfl) (by simp only[A6,true_and];exact CQ _))
theorem xI {a b:Int} (h:DB a b<=0):a<=b:=by
 unfold DB at h;split at h
 ·omega
 ·split at h<;>omega
theorem xJ {a b:Int} (h:0<DB a b):b<a:=by
 unfold DB at h;split at h
 ·omega
 ·split at h<;>omega
theorem jW (N:c7 L) (a b:List Nat) (q1 q2:Bool) (hA:AY a) (hB:AY b) (la:a.length<=1099511627776) (lb:b.length<=1099511627776):Ev L 69 [.sl q1 (a.map AL),.sl q2 (b.map AL)] (.sl false ((dg (val a-val b)).map AL)):=by
 have l1:=ET hA;have l2:=ET hB;have d1:=DX (val a);have d2:=DX (val b);have v1:=BS (val a);have v2:=BS (val b);refine Ev.x N.KX rfl rfl ?_;(repeat' ((first|(apply AG<;>intro hc<;>try omega)|apply AR|apply AE|refine AC (OR N a b _ _ hA hB la lb) ?_|refine JP (J0 N a _ hA la) ?_|refine JP (J0 N b _ hB lb) ?_)<;>conv=>whnf))
 ·have:=xI hc
  refine AU ?_ (by simp only[A6,true_and];exact CQ _);rw[show val a-val b=0 by omega,EZ];rfl
 ·have l7:=xJ hc
  have sw:(dg (val b)).length<=(dg (val a)).length:=by
   rcases Nat.lt_or_ge (dg (val a)).length (dg (val b)).length with h|h
   ·have:=S3 h;omega
   ·exact h
  have qh:val b<val a:=by omega
  clear l7 hc;generalize dg (val a)=x at *;generalize dg (val b)=y at *;rw[<-v1,<-v2]at qh ⊢;clear v1 v2 hA hB lb;refine EM (enc:=AL) 0 x.length rfl rfl (by omega) ?_;(conv=>whnf)
  (repeat' (apply AR<;>conv=>whnf))
  refine GH (λ i _ _=>x.length-i) (λ(i:Nat) (o:List Nat) (c:Nat)=>i<=x.length/\o.length=x.length/\AY o/\c<=1/\val (o.take i)+val (y.take i)=val (x.take i)+4294967296^i*c) (λ i o c=>[(8,.int .u64 (c:Int)),(25,.int .i64 i)]) (λ i o c=>[(22,22,.rw 1 (o.map AL))]) 0 (List.replicate x.length 0) 0 ⟨by omega,by simp,IK _,by omega,by simp [val]⟩ ?_;intro i o c ⟨p1,p2,p3,p4,p5⟩ ih;by_cases hi:i<x.length
  ·(repeat' ((first|(apply AG<;>intro hc<;>try omega)|(apply A3;omega)|(apply VY;omega)|(apply CH;omega)|apply FP|apply AR|(refine VZ (by assumption) ?_ (λ e he hb => ?_);omega)|apply AE)<;>conv=>whnf))
   ·rename_i d hd bk
    obtain ⟨s1,s2⟩:=Uo bk hb p4;refine E8 (by omega) ?_;(conv=>whnf)
    (repeat' ((first|(apply AZ;omega)|apply VX)<;>conv=>whnf))
    generalize EG (EG d c) e=t at *;refine B5 [] (by (conv=>whnf);exact ⟨rfl,rfl,rfl⟩) (ih (i+1) _ _ (by omega) ⟨by omega,by simpa using p2,p3.set _ (by omega),s2,?_⟩);rw[FY (by omega),DY hd,DY he,Nat.pow_succ];exact qU p5 s1
   ·obtain ⟨s1,s2⟩:=Un hb p4
    refine E8 (by omega) ?_;(conv=>whnf)
    (repeat' ((first|(apply AZ;omega)|apply VX)<;>conv=>whnf))
    generalize EG e c=t at *;refine B5 [] (by (conv=>whnf);exact ⟨rfl,rfl,rfl⟩) (ih (i+1) _ _ (by omega) ⟨by omega,by simpa using p2,p3.set _ (by omega),s2,?_⟩);rw[FY (by omega),DY he,YM (by omega),Nat.pow_succ];rw[<-Nat.add_zero (t%4294967296)]at s1;have:=qU (e:=0) p5 s1
    rw[Nat.mul_zero,Nat.add_zero]at this;exact this
  ·obtain rfl:i=x.length:=by omega
   clear ih;have fy:c=0:=by
    rw[DD (by omega),DD sw,DD (Nat.le_refl _)]at p5;have:=E2 p3
    rw[p2]at this;rcases Nat.eq_zero_or_pos c with h|h
    ·exact h
    ·have:c=1:=by omega
     subst this;omega
   subst fy;have hV:val o=val x-val y:=by
    rw[DD (by omega),DD sw,DD (Nat.le_refl _)]at p5;omega
   clear p5 p4;rw[<-p2];(repeat' ((first|(apply AG<;>intro hc<;>try omega)|apply AE)<;>conv=>whnf))
   refine FC 1000 N.FO rfl rfl ?_;(repeat' (apply AE<;>conv=>whnf))
   refine ES (λ n=>n) (λ(n:Nat)=>n<=(o).length /\ ∀ i,n<=i->i<(o).length->(o)[i]? = some 0) (λ n=>[(3,.int .i64 n)]) (λ_=>[]) [] [] (o).length (by first|exact (by (conv=>whnf);exact ⟨rfl,rfl,rfl⟩)|(simp only[List.length_set,List.length_replicate];exact (by (conv=>whnf);exact ⟨rfl,rfl,rfl⟩))) ⟨Nat.le_refl _,λ i h1 h2=>by omega⟩ ?_;intro n ⟨p1,p2⟩ ih;rcases n with _|n
   ·(repeat' ((first|(apply AG<;>intro hc<;>try omega)|apply AE)<;>conv=>whnf))
    refine F8 0 (by omega) (by omega) ?_;(conv=>whnf)
    refine ⟨rfl,_,rfl,?_⟩;(conv=>whnf)
    have hm:=p1;have cb:=GA (l:=o) (by assumption) p1 p2 (Or.inl rfl);clear ih p1 p2;(refine GL (enc:=AL) (λ_=>rfl) (by omega) ?_;(conv=>whnf);exact AU (by rw[<-hV,<-cb];rfl) (by simp only[A6,true_and];exact CQ _))
   ·have e1:((n+1:Nat):Int)-1=n:=by omega
    (repeat' ((first|(apply AG<;>intro hc<;>try omega)|(apply A3;omega)|(apply BX;omega)|(refine P2 (by assumption) ?_ (λ v hv hb => ?_);omega)|apply AE)<;>conv=>whnf))
    ·rw[e1]
     exact B0 [] (ih n (by omega) ⟨by omega,λ i h1 h2=>by
      by_cases h:i=n
      ·subst h
       rw[e1,Int.toNat_natCast]at hv;rw[hv];congr 1;omega
      ·exact p2 i (by omega) h2⟩)
    ·refine F8 (n+1) (by omega) (by omega) ?_
     (conv=>whnf)
     refine ⟨rfl,_,rfl,?_⟩;(conv=>whnf)
     rw[e1,Int.toNat_natCast]at hv;have hm:=p1;have cb:=GA (l:=o) (by assumption) p1 p2 (Or.inr ⟨_,hv,by omega⟩);clear ih p1 p2 hv;(refine GL (enc:=AL) (λ_=>rfl) (by omega) ?_;(conv=>whnf);exact AU (by rw[<-hV,<-cb];rfl) (by simp only[A6,true_and];exact CQ _))
theorem Z6 (N:c7 L) (a b:List Nat) (q1 q2:Bool) (hA:AY a) (hB:AY b) (Jr:a.length+b.length<=1099511627776):Ev L 70 [.sl q1 (a.map AL),.sl q2 (b.map AL)] (.sl false ((dg (val a*val b)).map AL)):=by
 have l1:=ET hA;have l2:=ET hB;have d1:=DX (val a);have d2:=DX (val b);have v1:=BS (val a);have v2:=BS (val b);refine Ev.x N.KW rfl rfl ?_;have hz : ∀ p:Prop,((dg (val a)).length:Int)=0\/((dg (val b)).length:Int)=0->AJ (.sl false []) (.sl false ((dg (val a*val b)).map AL)):=λ_ h=>by
  have:val a*val b=0:=by
   rcases h with h|h
   ·have:dg (val a)=[]:=List.eq_nil_of_length_eq_zero (by omega)
    rw[ZL.1 this,Nat.zero_mul]
   ·have:dg (val b)=[]:=List.eq_nil_of_length_eq_zero (by omega)
    rw[ZL.1 this,Nat.mul_zero]
  exact AU (by rw[this,EZ];rfl) (by simp only[A6,true_and];exact CQ _)
 (repeat' ((first|(apply AG<;>intro hc<;>try omega)|(apply AZ;omega)|apply AR|apply AE|refine JP (J0 N a _ hA (by omega)) ?_|refine JP (J0 N b _ hB (by omega)) ?_)<;>conv=>whnf))
 ·exact hz True (Or.inl hc)
 ·exact hz True (Or.inr hc)
 ·clear hz
  generalize dg (val a)=x at *;generalize dg (val b)=y at *;rw[<-v1,<-v2];have ko:x.length+y.length<=1099511627776:=by omega
  clear v1 v2 hA hB Jr l1 l2;refine EM (enc:=AL) 0 (x.length+y.length) rfl (by omega) (by omega) ?_;(conv=>whnf)
  (repeat' (apply AR<;>conv=>whnf))
  refine J2 (λ i _=>x.length-i) (λ(i:Nat) (o:List Nat)=>i<=x.length/\o.length=x.length+y.length/\AY o/\val o=val (x.take i)*val y /\ ∀ k,i+y.length<=k->k<o.length->o[k]? = some 0) (λ i o=>[(34,.int .i64 i)]) (λ i o=>[(31,31,.rw 1 (o.map AL))]) 0 (List.replicate (x.length+y.length) 0) ⟨by omega,by simp,IK _,by simp [val,YO],λ k h1 h2=>by simp at h2;simp [h2]⟩ ?_;intro i O ⟨p1,p2,p3,p4,p5⟩ ih;by_cases hi:i<x.length
  ·obtain ⟨d,hd⟩ : ∃ d,x[i]? = some d:=⟨_,zE hi⟩
   have bk:=d1.at hd;(repeat' ((first|(apply AG<;>intro hc<;>try omega)|(apply AZ;omega)|apply AR|(refine BL (by assumption) ?_ rfl ?_;omega)|apply AE)<;>conv=>whnf))
   ·refine B5 [] (by (conv=>whnf);exact ⟨rfl,rfl,rfl⟩) (ih (i+1) O (by omega) ⟨by omega,p2,p3,?_,λ k h1 h2=>p5 k (by omega) h2⟩)
    rw[DY hd,p4,show d=0 by omega,Nat.mul_zero,Nat.add_zero]
   ·refine GH (λ j _ _=>y.length-j) (λ(j:Nat) (o:List Nat) (c:Nat)=>j<=y.length/\o.length=x.length+y.length/\AY o/\c<4294967296/\val o+4294967296^(i+j)*c=val O+4294967296^i*(d*val (y.take j)) /\ ∀ k,i+j<=k->o[k]? = O[k]?) (λ j o c=>[(10,.int .u64 (c:Int)),(43,.int .i64 j)]) (λ j o c=>[(31,31,.rw 1 (o.map AL))]) 0 O 0 ⟨by omega,p2,p3,by omega,by simp [val],λ_ _=>rfl⟩ ?_
    intro j o c ⟨r1,r2,r3,r4,r5,r6⟩ jh;have e1:((i:Int)+j).toNat=i+j:=by omega
    by_cases hj:j<y.length
    ·obtain ⟨w,hw⟩ : ∃ w,y[j]? = some w:=⟨_,zE hj⟩
     have Gt:=d2.at hw;have hm:=SM bk Gt;(repeat' ((first|(apply AG<;>intro hc<;>try omega)|(apply A3;omega)|(apply AZ;omega)|(apply F2;omega)|(apply OD;omega)|(apply CH;omega)|apply FP|(refine BL (by assumption) ?_ rfl ?_;omega)|(refine eI (by assumption) ?_ (λ v hv hb => ?_);omega)|apply AE)<;>conv=>whnf))
     refine V2 (i+j) (by omega) (by omega) ?_;(conv=>whnf)
     (repeat' ((first|(apply AZ;omega)|apply FF)<;>conv=>whnf))
     refine B5 [] (by (conv=>whnf);exact ⟨rfl,rfl,rfl⟩) (jh (j+1) _ _ (by omega) ⟨by omega,by simpa using r2,r3.set _ (by omega),by omega,?_,?_⟩)
     ·have h1:=YL (v:=(d*w+v+c)%4294967296) hv
      have h2:=OL 0 (4294967296^(i+j)) (d*w+v+c);rw[DY hw,show i+(j+1)=i+j+1 by omega,Nat.pow_succ (4294967296) (i+j)];have h3:4294967296^i*(d*(val (y.take j)+4294967296^j*w))=4294967296^i*(d*val (y.take j))+4294967296^(i+j)*(d*w):=by rw[Nat.pow_add];grind
      rw[h3];generalize 4294967296^(i+j)=P at *;rw[Nat.mul_add P,Nat.mul_add P]at h2;omega
     ·intro k hk
      rw[List.getElem?_set_ne (by omega)];exact r6 k (by omega)
    ·obtain rfl:j=y.length:=by omega
     clear jh;(repeat' ((first|(apply AG<;>intro hc<;>try omega)|(apply A3;omega)|(apply AZ;omega)|(apply D9;omega)|apply AR|apply AE)<;>conv=>whnf))
     have hz:=r6 (i+y.length) (by omega);rw[p5 (i+y.length) (by omega) (by omega)]at hz;refine V2 (i+y.length) (by omega) (by omega) ?_;(conv=>whnf)
     (repeat' ((first|(apply AZ;omega)|fail)<;>conv=>whnf))
     refine B5 [] (by (conv=>whnf);exact ⟨rfl,rfl,rfl⟩) (ih (i+1) _ (by omega) ⟨by omega,by simpa using r2,r3.set _ (by omega),?_,?_⟩)
     ·have h1:=YL (v:=c) hz
      rw[Nat.mul_zero,Nat.add_zero]at h1;rw[h1,r5,p4,DD (Nat.le_refl _),DY hd,Nat.add_mul,Nat.mul_assoc]
     ·intro k h1 h2
      rw[List.length_set]at h2;rw[List.getElem?_set_ne (by omega),r6 k (by omega)];exact p5 k (by omega) (by omega)
  ·obtain rfl:i=x.length:=by omega
   clear ih;rw[DD (Nat.le_refl _)]at p4;rw[<-p4,<-p2];(repeat' ((first|(apply AG<;>intro hc<;>try omega)|apply AE)<;>conv=>whnf))
   clear p5;refine FC 1000 N.FO rfl rfl ?_;(repeat' (apply AE<;>conv=>whnf))
   refine ES (λ n=>n) (λ(n:Nat)=>n<=(O).length /\ ∀ i,n<=i->i<(O).length->(O)[i]? = some 0) (λ n=>[(3,.int .i64 n)]) (λ_=>[]) [] [] (O).length (by first|exact (by (conv=>whnf);exact ⟨rfl,rfl,rfl⟩)|(simp only[List.length_set,List.length_replicate];exact (by (conv=>whnf);exact ⟨rfl,rfl,rfl⟩))) ⟨Nat.le_refl _,λ i h1 h2=>by omega⟩ ?_;intro n ⟨p1,p2⟩ ih;rcases n with _|n
   ·(repeat' ((first|(apply AG<;>intro hc<;>try omega)|apply AE)<;>conv=>whnf))
    refine F8 0 (by omega) (by omega) ?_;(conv=>whnf)
    refine ⟨rfl,_,rfl,?_⟩;(conv=>whnf)
    have hm:=p1;have cb:=GA (l:=O) (by assumption) p1 p2 (Or.inl rfl);clear ih p1 p2;(refine GL (enc:=AL) (λ_=>rfl) (by omega) ?_;(conv=>whnf);exact AU (by rw[<-cb];rfl) (by simp only[A6,true_and];exact CQ _))
   ·have e1:((n+1:Nat):Int)-1=n:=by omega
    (repeat' ((first|(apply AG<;>intro hc<;>try omega)|(apply A3;omega)|(apply BX;omega)|(refine P2 (by assumption) ?_ (λ v hv hb => ?_);omega)|apply AE)<;>conv=>whnf))
    ·rw[e1]
     exact B0 [] (ih n (by omega) ⟨by omega,λ i h1 h2=>by
      by_cases h:i=n
      ·subst h
       rw[e1,Int.toNat_natCast]at hv;rw[hv];congr 1;omega
      ·exact p2 i (by omega) h2⟩)
    ·refine F8 (n+1) (by omega) (by omega) ?_
     (conv=>whnf)
     refine ⟨rfl,_,rfl,?_⟩;(conv=>whnf)
     rw[e1,Int.toNat_natCast]at hv;have hm:=p1;have cb:=GA (l:=O) (by assumption) p1 p2 (Or.inr ⟨_,hv,by omega⟩);clear ih p1 p2 hv;(refine GL (enc:=AL) (λ_=>rfl) (by omega) ?_;(conv=>whnf);exact AU (by rw[<-cb];rfl) (by simp only[A6,true_and];exact CQ _))
end Go.e9

namespace Go.e9
open F
section
variable {K:AV->Prop} {a b s:Nat} {k':IntKind}
theorem eN (hs:s<=32) (hk:K (.int .u32 ((OZ a s:Nat):Int))):AD .shl .u32 (a:Int) k' (s:Int) K:=by
 refine YV (show s<=IntKind.u32.bits from hs) ?_;rw[wrap_u32,<-cZ];exact hk
theorem OH (hs:s<=64) (h:a*2^s<=18446744073709551615) (hk:K (.int .u64 ((a*2^s:Nat):Int))):AD .shl .u64 (a:Int) k' (s:Int) K:=by
 refine YV (show s<=IntKind.u64.bits from hs) ?_;rw[IntWalk.u64_in _ (by omega)];exact hk
theorem YW (n:Nat) (hx:a%2^n=0) (hy:b<2^n) (h:a+b<=4294967295) (hk:K (.int .u32 ((a+b:Nat):Int))):AD .or .u32 (a:Int) .u32 (b:Int) K :=
 YU n hx hy (show a+b<4294967296 by omega) (IntWalk.u32_in _ (by omega)) hk
theorem uE (n:Nat) (hx:b%2^n=0) (hy:a<2^n) (h:a+b<=4294967295) (hk:K (.int .u32 ((a+b:Nat):Int))):AD .or .u32 (a:Int) .u32 (b:Int) K:=by
 have e:DJ .or .u32 (a:Int) .u32 (b:Int)=DJ .or .u32 (b:Int) .u32 (a:Int):=by
  simp only[DJ,if_true,BitVec.or_comm]
 rw[Nat.add_comm]at hk h;obtain ⟨v,h1,h2⟩:=YW (K:=K) n hx hy h hk;exact ⟨v,by rw[e];exact h1,h2⟩
theorem uH (hs:s<=32) (hk:K (.int .u32 ((a/2^s:Nat):Int))):AD .shr .u32 (a:Int) k' (s:Int) K:=OG (show s<=IntKind.u32.bits from hs) hk
end
attribute [local irreducible] AA AF AQ AD DW AW A9 BD CO AX BI FZ CE A4 CD C7 AB BA AJ pw D6 C3 E7 EH FE BP C4 B9 CF
set_option maxHeartbeats 1000000
variable {L:Lib}
def YT (a:List Nat) (s:Nat) (o:List Nat):Prop:=AY o/\(a.length<=o.length/\o.length<=a.length+1)/\(val a*2^s<4294967296^o.length->val o=val a*2^s)
theorem Qt {a o:List Nat} {s lo:Nat} (hD:AY o) (hl:o.length=a.length) (h:val (o.take a.length)+4294967296^a.length*lo=val (a.take a.length)*2^s):YT a s o:=by
 refine ⟨hD,by omega,λ l7 => ?_⟩;rw[DD (by omega),DD (Nat.le_refl _)]at h;rw[hl]at l7;have:lo=0:=by
  rcases Nat.eq_zero_or_pos lo with h0|h0
  ·exact h0
  ·have:4294967296^a.length*1<=4294967296^a.length*lo:=Nat.mul_le_mul_left _ h0
   omega
 subst this;omega
theorem nA {a o:List Nat} {s lo:Nat} (hD:AY o) (ln:lo<4294967296) (hl:o.length=a.length+1) (h:val (o.take a.length)+4294967296^a.length*lo=val (a.take a.length)*2^s):YT a s (o.set a.length lo):=by
 refine ⟨hD.set _ ln,by simp;omega,λ_ => ?_⟩;have h1:=FY (v:=lo) (show a.length<o.length by omega);rw[DD (by simp;omega),h,DD (Nat.le_refl _)]at h1;exact h1
theorem On (N:c7 L) (a:List Nat) (q:Bool) (s n:Nat) (hA:AY a) (hs:s<=31) (hn:a.length<=n/\n<=a.length+1) (la:a.length<=1099511627776) : ∃ r,Ev L 71 [.sl q (a.map AL),.int .u64 (s:Int),.int .i64 (n:Int)] r /\ ∃ o,YT a s o/\o.length=n/\r = .sl false (o.map AL):=by
 refine Ev.xE N.I5 rfl rfl ?_;(repeat' (apply AE<;>conv=>whnf))
 refine EM (enc:=AL) 0 n rfl rfl (by omega) ?_;(conv=>whnf)
 (repeat' (apply AR<;>conv=>whnf))
 refine GH (λ i _ _=>a.length-i) (λ(i:Nat) (o:List Nat) (lo:Nat)=>i<=a.length/\o.length=n/\AY o/\lo<2^s/\val (o.take i)+4294967296^i*lo=val (a.take i)*2^s) (λ i o lo=>[(8,.int .u32 (lo:Int)),(15,.int .i64 i)]) (λ i o lo=>[(71012,71012,.rw 1 (o.map AL))]) 0 (List.replicate n 0) 0 ⟨by omega,by simp,IK _,Nat.two_pow_pos s,by simp [val]⟩ ?_;intro i o lo ⟨p1,p2,p3,p4,p5⟩ ih;have oy:=UV (s:=s) (by omega);by_cases hi:i<a.length
 ·obtain ⟨d,hd⟩ : ∃ d,a[i]? = some d:=⟨_,zE hi⟩
  have bk:=hA.at hd;obtain ⟨f1,f2,f3,f4⟩:=Q6 (s:=s) bk (by omega);(repeat' ((first|(apply AG<;>intro hc<;>try omega)|(refine BL (by assumption) ?_ rfl ?_;omega)|apply AE)<;>conv=>whnf))
  refine eN (by omega) ?_;(conv=>whnf)
  skip
  refine YW s f1 p4 (by omega) ?_;(conv=>whnf)
  (repeat' ((first|(apply A3;omega)|fail)<;>conv=>whnf))
  refine E8 (by omega) ?_;(conv=>whnf)
  (repeat' ((first|(apply CH;omega)|fail)<;>conv=>whnf))
  refine OH (by omega) f4 ?_;(conv=>whnf)
  (repeat' ((first|(apply AZ;omega)|apply FF|(apply D9;omega))<;>conv=>whnf))
  rw[<-Q5];refine B5 [] (by (conv=>whnf);exact ⟨rfl,rfl,rfl⟩) (ih (i+1) _ _ (by omega) ⟨by omega,by simpa using p2,p3.set _ (by omega),f2,?_⟩);rw[FY (by omega),DY hd,Nat.pow_succ];exact nB p5
 ·obtain rfl:i=a.length:=by omega
  clear ih;(repeat' ((first|(apply AG<;>intro hc<;>try omega)|(apply A3;omega)|apply AR|apply AE)<;>conv=>whnf))
  ·refine E8 (by omega) ?_
   (conv=>whnf)
   skip
   refine ⟨_,?_,_,nA p3 (by omega) (by omega) p5,by simpa using p2,rfl⟩;(conv=>whnf)
   refine D4 (enc:=AL) (λ_=>rfl) rfl (by simp [p2]) ?_;(conv=>whnf)
   exact AU rfl (by simp only[A6,true_and];exact CQ _)
  ·refine ⟨_,?_,_,Qt p3 (by omega) p5,p2,rfl⟩
   (conv=>whnf)
   refine D4 (enc:=AL) (λ_=>rfl) rfl (by simp [p2]) ?_;(conv=>whnf)
   exact AU rfl (by simp only[A6,true_and];exact CQ _)
theorem Oo (N:c7 L) (a:List Nat) (q:Bool) (s:Nat) (hA:AY a) (hs:s<=31) (la:a.length<=1099511627776) : ∃ r,Ev L 72 [.sl q (a.map AL),.int .u64 (s:Int)] r /\ ∃ o,AY o/\o.length=a.length/\val o=val a/2^s/\r = .sl false (o.map AL):=by
 refine Ev.xE N.K3 rfl rfl ?_;(repeat' ((first|apply AR|apply AE)<;>conv=>whnf))
 refine EM (enc:=AL) 0 a.length rfl rfl (by omega) ?_;(conv=>whnf)
 (repeat' ((first|(apply BX;omega)|apply AR)<;>conv=>whnf))
 refine GH (λ n _ _=>n) (λ(n:Nat) (o:List Nat) (hi:Nat)=>n<=a.length/\o.length=a.length/\AY o/\hi=val (a.drop n)%2^s*2^(32-s)/\val (o.drop n)=val (a.drop n)/2^s) (λ n o hi=>[(6,.int .u32 (hi:Int)),(7,.int .i64 ((n:Int)-1))]) (λ n o hi=>[(10,10,.rw 1 (o.map AL))]) a.length (List.replicate a.length 0) 0 ⟨by omega,by simp,IK _,by rw[List.drop_of_length_le (Nat.le_refl _)];simp [val],by rw[List.drop_of_length_le (Nat.le_refl _),List.drop_of_length_le (by simp)];simp [val]⟩ ?_;intro n o hi ⟨p1,p2,p3,p4,p5⟩ ih;rcases n with _|n
 ·(repeat' ((first|(apply AG<;>intro hc<;>try omega)|apply AE)<;>conv=>whnf))
  rw[List.drop_zero,List.drop_zero]at p5;refine ⟨_,?_,_,p3,p2,p5,rfl⟩;(conv=>whnf)
  refine D4 (enc:=AL) (λ_=>rfl) rfl p2.symm ?_;(conv=>whnf)
  exact AU rfl (by simp only[A6,true_and];exact CQ _)
 ·have e1:((n+1:Nat):Int)-1=n:=by omega
  rw[e1];obtain ⟨d,hd⟩ : ∃ d,a[n]? = some d:=⟨_,zE (by omega)⟩;have bk:=hA.at hd;obtain ⟨f1,f2,f3⟩:=nG (V:=val (a.drop (n+1))) bk (show s<=32 by omega);obtain ⟨g1,g2,g3,g4⟩:=Q6 bk (show 32-s<=32 by omega);rw[<-p4]at f2 f3;(repeat' ((first|(apply AG<;>intro hc<;>try omega)|(refine BL (by assumption) ?_ rfl ?_;omega)|apply AE)<;>conv=>whnf))
  refine uH (by omega) ?_;(conv=>whnf)
  skip
  refine uE (32-s) f2 f1 (by omega) ?_;(conv=>whnf)
  (repeat' ((first|(apply A3;omega)|fail)<;>conv=>whnf))
  refine E8 (by omega) ?_;(conv=>whnf)
  (repeat' ((first|(apply VY;omega)|(apply CH;omega)|(refine BL (by assumption) ?_ rfl ?_;omega))<;>conv=>whnf))
  rw[show EG 32 s=32-s by rw[RJ];omega];refine OH (by omega) g4 ?_;(conv=>whnf)
  (repeat' ((first|(apply BX;omega)|apply FP)<;>conv=>whnf))
  rw[Qz (by omega)];refine B5 [] (by (conv=>whnf);exact ⟨rfl,rfl,rfl⟩) (ih n _ _ (by omega) ⟨by omega,by simpa using p2,p3.set _ (by omega),?_,?_⟩)
  ·rw[G3 hd,nH (by omega)]
  ·rw[G3 (l:=o.set n (d/2^s+hi)) (d:=d/2^s+hi) (by rw[List.getElem?_set_self (by omega)]),List.drop_set_of_lt (by omega),p5,G3 hd,bH (by omega),<-p4]
theorem W8 : ∀ n<256,(List.replicate 1 0++List.replicate 1 1++List.replicate 2 2++List.replicate 4 3++List.replicate 8 4++List.replicate 16 5++List.replicate 32 6++List.replicate 64 7++List.replicate 128 8)[n]? = some (o7 n):=by decide +kernel
theorem Lk (N:c7 L) (x:Nat) (hx:x<4294967296):Ev L 63 [.int .u32 (x:Int)] (.int .i64 (o7 x:Int)):=by
 have dk : ∀ y<256,o7 y<=8:=λ y h=>V7 (k:=8) h
 refine Ev.x N.KR rfl rfl ?_;(repeat' ((first|(apply AG<;>intro hc<;>try omega)|(apply AZ;omega)|apply uB|apply uD|(apply tU;omega)|apply AE)<;>conv=>whnf))
 ·have Eo:=dk (x/65536/256) (by omega)
  refine V3 (W8 _ (by omega)) ?_;(conv=>whnf)
  (repeat' ((first|(apply AZ;omega)|(apply PY;omega))<;>conv=>whnf))
  have h1:o7 (x/65536)+16=o7 x:=TJ 16 (x:=x) (by omega);have h2:o7 (x/65536/256)+8=o7 (x/65536):=TJ 8 (x:=x/65536) (by omega);refine C2 ?_;rw[<-h1,<-h2];omega
 ·have Eo:=dk (x/65536) (by omega)
  refine V3 (W8 _ (by omega)) ?_;(conv=>whnf)
  (repeat' ((first|(apply AZ;omega)|(apply PY;omega))<;>conv=>whnf))
  have h1:o7 (x/65536)+16=o7 x:=TJ 16 (x:=x) (by omega);refine C2 ?_;rw[<-h1];omega
 ·have Eo:=dk (x/256) (by omega)
  refine V3 (W8 _ (by omega)) ?_;(conv=>whnf)
  (repeat' ((first|(apply AZ;omega)|(apply PY;omega))<;>conv=>whnf))
  have h2:o7 (x/256)+8=o7 x:=TJ 8 (x:=x) (by omega);refine C2 ?_;rw[<-h2];omega
 ·have Eo:=dk (x) (by omega)
  refine V3 (W8 _ (by omega)) ?_;(conv=>whnf)
  (repeat' ((first|(apply AZ;omega)|(apply PY;omega))<;>conv=>whnf))
  refine C2 ?_;omega
theorem jL (N:c7 L) (x:Nat) (hx:x<4294967296):Ev L 64 [.int .u32 (x:Int)] (.int .i64 ((32-o7 x:Nat):Int)):=by
 have h:=V7 (k:=32) hx;refine Ev.x N.KQ rfl rfl ?_;(repeat' ((first|(apply BX;omega)|apply AE|refine AC (Lk N x hx) ?_)<;>conv=>whnf))
 refine C2 ?_;omega
end Go.e9

namespace Go.e9
open F
attribute [local irreducible] AA AF AQ AD DW AW A9 BD CO AX BI FZ CE A4 CD C7 AB BA AJ pw D6 C3 E7 EH FE BP C4 B9 CF
variable {L:Lib}
set_option maxHeartbeats 4000000
theorem IX (l:List Nat):A6 (.sl false (l.map AL)):=by
 simp only[A6,true_and];exact CQ l
theorem fP {M:Mem} {v:AV} {ky t z off len s:Nat} {l:List Nat} (hv:v = .row ky t z off len) (h:c8 M ky=some (s,.rw 1 (l.map AL))):P8 M v=none:=by
 subst hv;unfold P8;split
 ·rename_i e
  simp only[AV.row.injEq]at e;obtain ⟨rfl,_⟩:=e;rw[h];cases l with
  | nil=>rfl
  | cons a l=>cases l<;>rfl
 ·rfl
theorem GD (N:b8 L) (l:List Nat) (q:Bool) (hD:AY l) (hl:l.length<=1099511627776):Ev L 101 [.sl q (l.map AL)] (.sl false ((dg (val l)).map AL)):=by
 refine Ev.x N.HD rfl rfl ?_;(repeat' ((first|apply AR|apply AE)<;>conv=>whnf))
 refine ED (λ n=>n) (λ(n:Nat)=>n<=l.length /\ ∀ i,n<=i->i<l.length->l[i]? = some 0) (λ n=>[(3,.int .i64 n)]) (λ_=>[]) l.length ⟨Nat.le_refl _,λ i h1 h2=>by omega⟩ ?_;intro n ⟨p1,p2⟩ ih;rcases n with _|n
 ·have hv:=GA hD p1 p2 (Or.inl rfl)
  rw[<-hv];clear ih;(repeat' ((first|(apply AG<;>intro hc<;>try omega)|apply AE)<;>conv=>whnf))
  refine NR (k:=0) (λ_=>rfl) (by omega) ?_;(conv=>whnf)
  refine O5 (enc:=AL) (λ_=>rfl) (by rw[List.length_take];omega) (by rw[List.length_take];omega) ?_;(conv=>whnf)
  (repeat' ((refine D4 (λ_=>rfl) rfl ?_ ?_;(first|rfl|simp))<;>conv=>whnf))
  exact AU rfl (IX _)
 ·have e1:((n+1:Nat):Int)-1=n:=by omega
  (repeat' ((first|(apply AG<;>intro hc<;>try omega)|(apply BX;omega)|(refine O8 (by assumption) ?_ (λ e he hb => ?_);omega)|apply AE)<;>conv=>whnf))
  ·rw[e1]
   exact B0 [] (ih n (by omega) ⟨by omega,λ i h1 h2=>by
    by_cases h:i=n
    ·subst h
     rw[e1,Int.toNat_natCast]at he;rw[he];congr 1;omega
    ·exact p2 i (by omega) h2⟩)
  ·rw[e1,Int.toNat_natCast]at he
   have hv:=GA hD p1 p2 (Or.inr ⟨e,he,by omega⟩);rw[<-hv];clear ih;refine NR (k:=n+1) (λ_=>rfl) (by omega) ?_;(conv=>whnf)
   refine O5 (enc:=AL) (λ_=>rfl) (by rw[List.length_take];omega) (by rw[List.length_take];omega) ?_;(conv=>whnf)
   (repeat' ((refine D4 (λ_=>rfl) rfl ?_ ?_;(first|rfl|simp))<;>conv=>whnf))
   exact AU rfl (IX _)
theorem Z9 (N:b8 L) (a b:List Nat) (q1 q2:Bool) (hA:AY a) (hB:AY b) (la:a.length<=1099511627776) (lb:b.length<=1099511627776):Ev L 102 [.sl q1 (a.map AL),.sl q2 (b.map AL)] (.int .i64 (DB (val a) (val b))):=by
 have t1:=λ q=>GD N a q hA la
 have t2:=λ q=>GD N b q hB lb
 have l1:=ET hA;have l2:=ET hB;have d1:=DX (val a);have d2:=DX (val b);refine Ev.x N.L0 rfl rfl ?_;by_cases hlen:(dg (val a)).length=(dg (val b)).length
 ·have v1:=BS (val a)
  have v2:=BS (val b);generalize dg (val a)=X at *;generalize dg (val b)=Y at *;(repeat' ((first|(apply AG<;>intro hc<;>try omega)|(apply BX;omega)|apply AR|apply AE|refine AC (t1 _) ?_|refine AC (t2 _) ?_)<;>conv=>whnf))
  refine ED (λ n=>n) (λ(n:Nat)=>n<=X.length/\X.drop n=Y.drop n) (λ n=>[(5,.int .i64 ((n:Int)-1))]) (λ_=>[]) X.length ⟨Nat.le_refl _,by rw[List.drop_of_length_le (Nat.le_refl _),List.drop_of_length_le (by omega)]⟩ ?_;intro n ⟨p1,p2⟩ ih;rcases n with _|n
  ·(repeat' ((first|(apply AG<;>intro hc<;>try omega)|apply AE)<;>conv=>whnf))
   rw[List.drop_zero,List.drop_zero]at p2;exact C2 (QD (by rw[<-v1,<-v2,p2]))
  ·have e1:((n+1:Nat):Int)-1=n:=by omega
   rw[e1];obtain ⟨x,hx⟩ : ∃ x,X[n]? = some x:=⟨_,zE (by omega)⟩;obtain ⟨y,hy⟩ : ∃ y,Y[n]? = some y:=⟨_,zE (by omega)⟩;rcases Nat.lt_trichotomy x y with h|h|h
   ·have:=YK d1 d2 hlen hx hy p2 h
    (repeat' ((first|(apply AG<;>intro hc<;>try omega)|(refine BL (by assumption) ?_ rfl ?_;omega)|apply AE)<;>conv=>whnf))
    exact C2 (HV (by omega))
   ·subst h
    (repeat' ((first|(apply AG<;>intro hc<;>try omega)|(apply BX;omega)|(refine BL (by assumption) ?_ rfl ?_;omega)|apply AE)<;>conv=>whnf))
    refine B5 [] (by (conv=>whnf);exact ⟨rfl,rfl,rfl⟩) (ih n (by omega) ⟨by omega,?_⟩);obtain ⟨i1,e1⟩:=zS hx;obtain ⟨i2,e2⟩:=zS hy;rw[List.drop_eq_getElem_cons i1,List.drop_eq_getElem_cons i2,p2,e1,e2]
   ·have:=YK d2 d1 hlen.symm hy hx p2.symm h
    (repeat' ((first|(apply AG<;>intro hc<;>try omega)|(refine BL (by assumption) ?_ rfl ?_;omega)|apply AE)<;>conv=>whnf))
    exact C2 (NZ (by omega))
 ·rcases Nat.lt_trichotomy (dg (val a)).length (dg (val b)).length with h1|h1|h1
  ·have:=S3 h1
   (repeat' ((first|(apply AG<;>intro hc<;>try omega)|apply AR|apply AE|refine AC (t1 _) ?_|refine AC (t2 _) ?_)<;>conv=>whnf))
   exact C2 (HV (by omega))
  ·exact absurd h1 hlen
  ·have:=S3 h1
   (repeat' ((first|(apply AG<;>intro hc<;>try omega)|apply AR|apply AE|refine AC (t1 _) ?_|refine AC (t2 _) ?_)<;>conv=>whnf))
   exact C2 (NZ (by omega))
theorem dT {y:List Nat} (i:Nat):val (y.take (i+1))=val (y.take i)+4294967296^i*y.getD i 0:=by
 rcases Nat.lt_or_ge i y.length with h|h
 ·rw[DY (zE h),GM (zE h)]
 ·rw[<-PI h,DD h,DD (by omega)];omega
theorem kB (N:b8 L) (a b:List Nat) (q1 q2:Bool) (hA:AY a) (hB:AY b) (la:a.length<=549755813888) (lb:b.length<=549755813888):Ev L 103 [.sl q1 (a.map AL),.sl q2 (b.map AL)] (.sl false ((dg (val a+val b)).map AL)):=by
 refine Ev.x N.LY rfl rfl ?_;(repeat' (apply AE<;>conv=>whnf))
 refine GH (λ i _ _=>a.length+b.length-i) (λ(i:Nat) (o:List Nat) (c:Nat)=>(i<=a.length\/i<=b.length)/\o.length=i/\AY o/\c<=1/\val o+4294967296^i*c=val (a.take i)+val (b.take i)) (λ i o c=>[(7,.int .i64 i),(6,.int .u64 (c:Int)),(5,.row 5 0 1 0 o.length)]) (λ i o c=>[(5,5,.rw 1 (o.map AL))]) 0 [] 0 ⟨by omega,rfl,R7,by omega,by simp [val]⟩ ?_;intro i o c ⟨p1,p2,p3,p4,p5⟩ ih;by_cases hi:i<a.length\/i<b.length
 ·have g1:=dT (y:=a) i
  have g2:=dT (y:=b) i;have k1:=PH hA i;have k2:=PH hB i;have j7 : ∀ t,t=c+a.getD i 0+b.getD i 0->val (o++[t%4294967296])+4294967296^(i+1)*(t/4294967296)=val (a.take (i+1))+val (b.take (i+1)):=λ t ht=>by
   have h3:=OL (val o) (4294967296^i) t;rw[NH,p2,g1,g2,Nat.pow_succ];rw[h3,ht,Nat.mul_add,Nat.mul_add];omega
  by_cases h1:i<a.length
  ·obtain ⟨x,hx⟩ : ∃ x,a[i]? = some x:=⟨_,zE h1⟩
   have hxb:=hA.at hx;rw[GM hx]at j7;by_cases h2:i<b.length
   ·obtain ⟨y,hy⟩ : ∃ y,b[i]? = some y:=⟨_,zE h2⟩
    have zd:=hB.at hy;rw[GM hy]at j7;(repeat' ((first|(apply AG<;>intro hc<;>try omega)|(apply F2;omega)|(apply CH;omega)|apply FP|apply AR|(refine BL (by assumption) ?_ rfl ?_;omega)|apply EN|apply AE)<;>conv=>whnf))
    refine GI (enc:=AL) (((c+x+y)%4294967296:Nat)) rfl rfl rfl (by omega) (by omega) ?_;(conv=>whnf)
    (repeat' ((first|(apply AZ;omega)|apply FF)<;>conv=>whnf))
    refine B5 [(5,46)] (by (conv=>whnf);exact ⟨rfl,rfl,rfl⟩) (ih (i+1) (o++[(c+x+y)%4294967296]) ((c+x+y)/4294967296) (by omega) ⟨by omega,by simp;omega,p3.append (G7 (by omega)),by omega,?_⟩);exact j7 (c+x+y) (by omega)
   ·rw[<-PI (show b.length<=i by omega)]at j7
    (repeat' ((first|(apply AG<;>intro hc<;>try omega)|(apply F2;omega)|(apply CH;omega)|apply FP|apply AR|(refine BL (by assumption) ?_ rfl ?_;omega)|apply EN|apply AE)<;>conv=>whnf))
    refine GI (enc:=AL) (((c+x)%4294967296:Nat)) rfl rfl rfl (by omega) (by omega) ?_;(conv=>whnf)
    (repeat' ((first|(apply AZ;omega)|apply FF)<;>conv=>whnf))
    refine B5 [(5,46)] (by (conv=>whnf);exact ⟨rfl,rfl,rfl⟩) (ih (i+1) (o++[(c+x)%4294967296]) ((c+x)/4294967296) (by omega) ⟨by omega,by simp;omega,p3.append (G7 (by omega)),by omega,?_⟩);exact j7 (c+x) (by omega)
  ·obtain ⟨y,hy⟩ : ∃ y,b[i]? = some y:=⟨_,zE (by omega)⟩
   have zd:=hB.at hy;rw[GM hy,<-PI (show a.length<=i by omega)]at j7;(repeat' ((first|(apply AG<;>intro hc<;>try omega)|(apply F2;omega)|(apply CH;omega)|apply FP|apply AR|(refine BL (by assumption) ?_ rfl ?_;omega)|apply EN|apply AE)<;>conv=>whnf))
   refine GI (enc:=AL) (((c+y)%4294967296:Nat)) rfl rfl rfl (by omega) (by omega) ?_;(conv=>whnf)
   (repeat' ((first|(apply AZ;omega)|apply FF)<;>conv=>whnf))
   refine B5 [(5,46)] (by (conv=>whnf);exact ⟨rfl,rfl,rfl⟩) (ih (i+1) (o++[(c+y)%4294967296]) ((c+y)/4294967296) (by omega) ⟨by omega,by simp;omega,p3.append (G7 (by omega)),by omega,?_⟩);exact j7 (c+y) (by omega)
 ·clear ih
  have hv:val (o++[c])=val a+val b:=by
   rw[DD (by omega),DD (by omega)]at p5;rw[NH,p2,p5]
  have hT:=λ q=>GD N (o++[c]) q (p3.append (G7 (by omega))) (by simp;omega)
  rw[hv]at hT;(repeat' ((first|(apply AG<;>intro hc<;>try omega)|(apply D9;omega)|apply AR|apply EN|apply AE)<;>conv=>whnf))
  refine GI (enc:=AL) c rfl rfl rfl (by omega) (by omega) ?_;(conv=>whnf)
  (repeat' ((first|(refine D4 (λ_=>rfl) rfl ?_ ?_;(first|rfl|simp))|refine AC (hT _) ?_)<;>conv=>whnf))
  exact AU rfl (IX _)
theorem WG {a b:Nat} (h:b<=a):0<=DB a b:=by unfold DB;split<;>(try split)<;>omega
theorem Th {V Y X p d e bw have' take w bj:Nat} (h:V+Y=X+p*bw) (h1:take=bw+e) (h2:(have'=d/\bj=0/\take<=d)\/(have'=d+4294967296/\bj=1/\d<take)) (h3:w+take=have'):V+p*w+(Y+p*e)=X+p*d+p*4294967296*bj:=by
 have h4:w+bw+e=d+4294967296*bj:=by omega
 have h5:p*(w+bw+e)=p*(d+4294967296*bj):=by rw[h4]
 rw[Nat.mul_add,Nat.mul_add,Nat.mul_add,<-Nat.mul_assoc]at h5;omega
theorem pH (N:b8 L) (x y:List Nat) (hX:AY x) (hY:AY y) (lx:x.length<=549755813888) (ly:y.length<=549755813888) (hle:val y<=val x) :
  AA L [It.lp IO.l1,It.e6 0,It.code (((BF.ops IO.gq false).dr [1,5,6,7,21,53,54] []).seq BF.ret)]
  [(7,AV.int IntKind.i64 0),(6,AV.int IntKind.u64 0),(5,AV.row 101021 0 1 0 x.length),(1,AV.sl false (List.map AL y))]
  [(101021,101021,A7.rw 1 (List.map AL x))]
  (NQ IO (AV.sl false (List.map AL (dg (val x-val y))))):=by
 refine GH (λ i _ _=>x.length-i) (λ(i:Nat) (o:List Nat) (bw:Nat)=>i<=x.length/\o.length=x.length/\AY o/\bw<=1/\o.drop i=x.drop i/\val (o.take i)+val (y.take i)=val (x.take i)+4294967296^i*bw) (λ i o bw=>[(7,.int .i64 i),(6,.int .u64 (bw:Int))]) (λ i o bw=>[(101021,101021,.rw 1 (o.map AL))]) 0 x 0 ⟨by omega,rfl,hX,by omega,rfl,by simp [val]⟩ ?_;intro i o bw ⟨p1,p2,p3,p4,p5,p6⟩ ih;by_cases hi:i<x.length
 ·obtain ⟨d,hd⟩ : ∃ d,o[i]? = some d:=⟨_,zE (by omega)⟩
  have bk:=p3.at hd;have hxi:x[i]? = some d:=by
   have e1:(o.drop i)[0]? = (x.drop i)[0]? := by rw[p5]
   simpa [hd] using e1.symm
  have g1:=DY hxi;have g2:=dT (y:=y) i;have ge:=PH hY i;have j7 : ∀ have' take w bj,take=bw+y.getD i 0->((have'=d/\bj=0/\take<=d)\/(have'=d+4294967296/\bj=1/\d<take))->w+take=have'->val ((o.set i w).take (i+1))+val (y.take (i+1))=val (x.take (i+1))+4294967296^(i+1)*bj:=λ have' take w bj a1 a2 a3=>by
   rw[FY (by omega),g1,g2,Nat.pow_succ];exact Th p6 a1 a2 a3
  have mw : ∀ w,(o.set i w).drop (i+1)=x.drop (i+1):=λ w=>by
   rw[List.drop_set_of_lt (by omega)];have e1:(o.drop i).drop 1=(x.drop i).drop 1:=by rw[p5]
   simpa using e1
  by_cases hy:i<y.length
  ·obtain ⟨e,he⟩ : ∃ e,y[i]? = some e:=⟨_,zE hy⟩
   have Ex:=hY.at he;rw[GM he]at j7;by_cases l7:d<bw+e
   ·have h3:=j7 (d+4294967296) (bw+e) (d+4294967296-(bw+e)) 1 (by omega) (Or.inr ⟨rfl,rfl,l7⟩) (by omega)
    (repeat' ((first|(apply AG<;>intro hc<;>try omega)|(apply A3;omega)|(apply F2;omega)|(apply IG;omega;omega)|(apply VU;omega)|(apply CH;omega)|(apply D9;omega)|apply AR|(refine BL (by assumption) ?_ rfl ?_;omega)|refine IW (by assumption) ?_|apply AE)<;>conv=>whnf))
    refine E8 (by omega) ?_;(conv=>whnf)
    (repeat' ((first|(apply AZ;omega)|fail)<;>conv=>whnf))
    exact B5 [] (by (conv=>whnf);exact ⟨rfl,rfl,rfl⟩) (ih (i+1) (o.set i (d+4294967296-(bw+e))) 1 (by omega) ⟨by omega,by simpa using p2,p3.set _ (by omega),by omega,mw _,h3⟩)
   ·have h3:=j7 d (bw+e) (d-(bw+e)) 0 (by omega) (Or.inl ⟨rfl,rfl,by omega⟩) (by omega)
    (repeat' ((first|(apply AG<;>intro hc<;>try omega)|(apply A3;omega)|(apply F2;omega)|(apply IG;omega;omega)|(apply CH;omega)|(apply D9;omega)|apply AR|(refine BL (by assumption) ?_ rfl ?_;omega)|refine IW (by assumption) ?_|apply AE)<;>conv=>whnf))
    refine E8 (by omega) ?_;(conv=>whnf)
    (repeat' ((first|(apply AZ;omega)|fail)<;>conv=>whnf))
    exact B5 [] (by (conv=>whnf);exact ⟨rfl,rfl,rfl⟩) (ih (i+1) (o.set i (d-(bw+e))) 0 (by omega) ⟨by omega,by simpa using p2,p3.set _ (by omega),by omega,mw _,h3⟩)
  ·rw[<-PI (show y.length<=i by omega)]at j7
   by_cases l7:d<bw
   ·have h3:=j7 (d+4294967296) (bw) (d+4294967296-(bw)) 1 (by omega) (Or.inr ⟨rfl,rfl,l7⟩) (by omega)
    (repeat' ((first|(apply AG<;>intro hc<;>try omega)|(apply A3;omega)|(apply IG;omega;omega)|(apply VU;omega)|(apply CH;omega)|(apply D9;omega)|apply AR|refine IW (by assumption) ?_|apply AE)<;>conv=>whnf))
    refine E8 (by omega) ?_;(conv=>whnf)
    (repeat' ((first|(apply AZ;omega)|fail)<;>conv=>whnf))
    exact B5 [] (by (conv=>whnf);exact ⟨rfl,rfl,rfl⟩) (ih (i+1) (o.set i (d+4294967296-(bw))) 1 (by omega) ⟨by omega,by simpa using p2,p3.set _ (by omega),by omega,mw _,h3⟩)
   ·have h3:=j7 d (bw) (d-(bw)) 0 (by omega) (Or.inl ⟨rfl,rfl,by omega⟩) (by omega)
    (repeat' ((first|(apply AG<;>intro hc<;>try omega)|(apply A3;omega)|(apply IG;omega;omega)|(apply CH;omega)|(apply D9;omega)|apply AR|refine IW (by assumption) ?_|apply AE)<;>conv=>whnf))
    refine E8 (by omega) ?_;(conv=>whnf)
    (repeat' ((first|(apply AZ;omega)|fail)<;>conv=>whnf))
    exact B5 [] (by (conv=>whnf);exact ⟨rfl,rfl,rfl⟩) (ih (i+1) (o.set i (d-(bw))) 0 (by omega) ⟨by omega,by simpa using p2,p3.set _ (by omega),by omega,mw _,h3⟩)
 ·obtain rfl:i=x.length:=by omega
  clear ih;rw[DD (by omega),DD (Nat.le_refl _)]at p6;have h1:=E2 p3;rw[p2]at h1;have h2:val (y.take x.length)<=val y:=by have:=RI y x.length;omega
  have ov:bw=0:=by
   rcases Nat.eq_zero_or_pos bw with h|h
   ·exact h
   ·have:bw=1:=by omega
    subst this;omega
  subst ov;have hve:val (y.take x.length)=val y:=by
   have h3:=RI y x.length;rcases Nat.eq_zero_or_pos (val (y.drop x.length)) with h|h
   ·rw[h]at h3;omega
   ·have h4:4294967296^x.length*1<=4294967296^x.length*val (y.drop x.length):=Nat.mul_le_mul_left _ h
    have h5:=E2 hX;omega
  have hv:val o=val x-val y:=by omega
  have hT:=λ q=>GD N o q p3 (by omega)
  rw[<-hv,<-p2];(repeat' ((first|(apply AG<;>intro hc<;>try omega)|(refine D4 (λ_=>rfl) rfl ?_ ?_;(first|rfl|simp))|apply AE|refine AC (hT _) ?_)<;>conv=>whnf))
  exact AU rfl (IX _)
theorem aA (N:b8 L) (a b:List Nat) (q1 q2:Bool) (hA:AY a) (hB:AY b) (la:a.length<=549755813888) (lb:b.length<=549755813888):Ev L 104 [.sl q1 (a.map AL),.sl q2 (b.map AL)] (.sl false ((dg (val a-val b)).map AL)):=by
 have l6:=λ q q'=>Z9 N a b q q' hA hB (by omega) (by omega)
 have t2:=λ q=>GD N b q hB (by omega)
 refine Ev.x N.IO rfl rfl ?_;by_cases l7:val a<val b
 ·rw[<-HV (by omega)]at l6
  rw[show val a-val b=0 by omega,EZ];(repeat' ((first|(apply AG<;>intro hc<;>try omega)|apply AE|refine AC (l6 _ _) ?_)<;>conv=>whnf))
  exact AU rfl (IX [])
 ·have kg:=WG (show val b<=val a by omega)
  generalize DB (val a) (val b)=cm at *;have d2:=DX (val b);have v2:=BS (val b);have l2:=ET hB;rw[<-v2];rw[<-v2]at l7;generalize dg (val b)=y at *;have Ic : ∀ n,a.take n=dg (val a)->val (a.take n)=val a:=λ n h=>by rw[h,BS]
  (repeat' ((first|(apply AG<;>intro hc<;>try omega)|apply AE|refine AC (l6 _ _) ?_|refine AC (t2 _) ?_)<;>conv=>whnf))
  refine FC 1000 N.HD rfl rfl ?_;(repeat' ((first|apply AR|apply AE)<;>conv=>whnf))
  refine ED (λ n=>n) (λ(n:Nat)=>n<=a.length /\ ∀ i,n<=i->i<a.length->a[i]? = some 0) (λ n=>[(3,.int .i64 n)]) (λ_=>[]) a.length ⟨Nat.le_refl _,λ i h1 h2=>by omega⟩ ?_;intro n ⟨p1,p2⟩ ih;rcases n with _|n
  ·have hv:=Ic _ (GA hA p1 p2 (Or.inl rfl))
   clear ih;(repeat' ((first|(apply AG<;>intro hc<;>try omega)|apply AE)<;>conv=>whnf))
   refine NR (k:=0) (λ_=>rfl) (by omega) ?_;(conv=>whnf)
   refine O5 (enc:=AL) (λ_=>rfl) (by rw[List.length_take];omega) (by rw[List.length_take];omega) ?_;(conv=>whnf)
   refine ⟨rfl,_,rfl,?_⟩;(conv=>whnf)
   skip
   rw[<-hv];exact B5 [] (by (conv=>whnf);exact ⟨rfl,rfl,rfl⟩) (pH N (a.take 0) y (hA.take _) d2 (by simp) (by omega) (by omega))
  ·have e1:((n+1:Nat):Int)-1=n:=by omega
   (repeat' ((first|(apply AG<;>intro hc<;>try omega)|(apply BX;omega)|(refine O8 (by assumption) ?_ (λ e he hb => ?_);omega)|apply AE)<;>conv=>whnf))
   ·rw[e1]
    exact B0 [] (ih n (by omega) ⟨by omega,λ i h1 h2=>by
     by_cases h:i=n
     ·subst h
      rw[e1,Int.toNat_natCast]at he;rw[he];congr 1;omega
     ·exact p2 i (by omega) h2⟩)
   ·rw[e1,Int.toNat_natCast]at he
    have hv:=Ic _ (GA hA p1 p2 (Or.inr ⟨_,he,by omega⟩));clear ih;refine NR (k:=n+1) (λ_=>rfl) (by omega) ?_;(conv=>whnf)
    refine O5 (enc:=AL) (λ_=>rfl) (by rw[List.length_take];omega) (by rw[List.length_take];omega) ?_;(conv=>whnf)
    refine ⟨rfl,_,rfl,?_⟩;(conv=>whnf)
    skip
    rw[<-hv];exact B5 [] (by (conv=>whnf);exact ⟨rfl,rfl,rfl⟩) (pH N (a.take (n+1)) y (hA.take _) d2 (by rw[List.length_take];omega) (by omega) (by omega))
theorem Pb (N:b8 L) (x y:List Nat) (q1 q2:Bool) (hA:AY x) (hB:AY y) (Jr:x.length+y.length<=549755813888):Ev L 105 [.sl q1 (x.map AL),.sl q2 (y.map AL)] (.sl false ((dg (val x*val y)).map AL)):=by
 refine Ev.x N.L2 rfl rfl ?_;(repeat' ((first|(apply AZ;omega)|apply AR|apply AE)<;>conv=>whnf))
 refine EM (enc:=AL) 0 (x.length+y.length+1) rfl (by omega) (by omega) ?_;(conv=>whnf)
 skip
 refine J2 (λ i _=>x.length-i) (λ(i:Nat) (o:List Nat)=>i<=x.length/\o.length=x.length+y.length+1/\AY o/\val o=val (x.take i)*val y /\ ∀ k,i+y.length<=k->k<o.length->o[k]? = some 0) (λ i o=>[(6,.int .i64 i)]) (λ i o=>[(15,15,.rw 1 (o.map AL))]) 0 (List.replicate (x.length+y.length+1) 0) ⟨by omega,by simp,IK _,by simp [val,YO],λ k h1 h2=>by simp at h2;simp [h2]⟩ ?_;intro i O ⟨p1,p2,p3,p4,p5⟩ ih;by_cases hi:i<x.length
 ·obtain ⟨d,hd⟩ : ∃ d,x[i]? = some d:=⟨_,zE hi⟩
  have bk:=hA.at hd;(repeat' ((first|(apply AG<;>intro hc<;>try omega)|apply AR|apply AE)<;>conv=>whnf))
  refine GH (λ j _ _=>y.length-j) (λ(j:Nat) (o:List Nat) (c:Nat)=>j<=y.length/\o.length=x.length+y.length+1/\AY o/\c<4294967296/\val o+4294967296^(i+j)*c=val O+4294967296^i*(d*val (y.take j)) /\ ∀ k,i+j<=k->o[k]? = O[k]?) (λ j o c=>[(7,.int .u64 (c:Int)),(8,.int .i64 j)]) (λ j o c=>[(15,15,.rw 1 (o.map AL))]) 0 O 0 ⟨by omega,p2,p3,by omega,by simp [val],λ_ _=>rfl⟩ ?_;intro j o c ⟨r1,r2,r3,r4,r5,r6⟩ jh;have e1:((i:Int)+j).toNat=i+j:=by omega
  by_cases hj:j<y.length
  ·obtain ⟨w,hw⟩ : ∃ w,y[j]? = some w:=⟨_,zE hj⟩
   have Gt:=hB.at hw;have hm:=SM bk Gt;(repeat' ((first|(apply AG<;>intro hc<;>try omega)|(apply A3;omega)|(apply AZ;omega)|(apply F2;omega)|(apply OD;omega)|(apply CH;omega)|apply FP|apply AR|(refine BL (by assumption) ?_ rfl ?_;omega)|(refine eI (by assumption) ?_ (λ v hv hb => ?_);omega)|apply AE)<;>conv=>whnf))
   refine V2 (i+j) (by omega) (by omega) ?_;(conv=>whnf)
   (repeat' ((first|(apply AZ;omega)|apply FF)<;>conv=>whnf))
   refine B5 [] (by (conv=>whnf);exact ⟨rfl,rfl,rfl⟩) (jh (j+1) _ _ (by omega) ⟨by omega,by simpa using r2,r3.set _ (by omega),by omega,?_,?_⟩)
   ·have h1:=YL (v:=(c+(d*w+v))%4294967296) hv
    have h2:=OL 0 (4294967296^(i+j)) (c+(d*w+v));rw[DY hw,show i+(j+1)=i+j+1 by omega,Nat.pow_succ (4294967296) (i+j)];have h3:4294967296^i*(d*(val (y.take j)+4294967296^j*w))=4294967296^i*(d*val (y.take j))+4294967296^(i+j)*(d*w):=by rw[Nat.pow_add];grind
    rw[h3];generalize 4294967296^(i+j)=P at *;rw[Nat.mul_add P c,Nat.mul_add P]at h2;omega
   ·intro k hk
    rw[List.getElem?_set_ne (by omega)];exact r6 k (by omega)
  ·obtain rfl:j=y.length:=by omega
   clear jh;have hz:=r6 (i+y.length) (by omega);rw[p5 (i+y.length) (by omega) (by omega)]at hz;(repeat' ((first|(apply AG<;>intro hc<;>try omega)|(apply A3;omega)|(apply AZ;omega)|(apply D9;omega)|apply AR|apply AE)<;>conv=>whnf))
   refine V2 (i+y.length) (by omega) (by omega) ?_;(conv=>whnf)
   (repeat' ((first|(apply AZ;omega)|fail)<;>conv=>whnf))
   refine B5 [] (by (conv=>whnf);exact ⟨rfl,rfl,rfl⟩) (ih (i+1) _ (by omega) ⟨by omega,by simpa using r2,r3.set _ (by omega),?_,?_⟩)
   ·have h1:=YL (v:=c) hz
    rw[Nat.mul_zero,Nat.add_zero]at h1;rw[h1,r5,p4,DD (Nat.le_refl _),DY hd,Nat.add_mul,Nat.mul_assoc]
   ·intro k h1 h2
    rw[List.length_set]at h2;rw[List.getElem?_set_ne (by omega),r6 k (by omega)];exact p5 k (by omega) (by omega)
 ·obtain rfl:i=x.length:=by omega
  clear ih;rw[DD (Nat.le_refl _)]at p4;have hT:=λ q=>GD N O q p3 (by omega)
  rw[p4]at hT;rw[<-p2];(repeat' ((first|(apply AG<;>intro hc<;>try omega)|apply AR|(refine D4 (λ_=>rfl) rfl ?_ ?_;(first|rfl|simp))|apply AE|refine AC (hT _) ?_)<;>conv=>whnf))
  exact AU rfl (IX _)
theorem yR {d:Nat} (h0:d≠0) (hd:d<4294967296):dg d=[d]:=by
 rw[IJ h0,Nat.div_eq_of_lt hd,EZ,Nat.mod_eq_of_lt hd]
theorem Oz (N:b8 L) (d:Nat) (q:Bool) (h0:d≠0) (hd:d<4294967296):Ev L 106 [.sl q ([d].map AL)] (.int .i64 (o7 d:Int)):=by
 have hT:=λ q=>GD N [d] q (G7 hd) (by simp)
 rw[show val [d]=d by simp [val],yR h0 hd]at hT;have sw:[d].length=1:=rfl;have su:[d][(([d].length:Int)-1).toNat]? = some d:=rfl;have hb:=V7 (k:=32) hd;refine Ev.x N.LZ rfl rfl ?_;(repeat' ((first|(apply AG<;>intro hc<;>try omega)|(apply BX;omega)|(apply NN;omega)|apply AR|(refine BL (by assumption) ?_ rfl ?_;omega)|apply AE|refine AC (hT _) ?_)<;>conv=>whnf))
 refine J2 (λ_ x=>x) (λ(n x:Nat)=>n+o7 x=o7 d/\x<=d) (λ n x=>[(3,.int .i64 n),(4,.int .u32 (x:Int))]) (λ_ _=>[]) 0 d ⟨by omega,Nat.le_refl _⟩ ?_;intro n x ⟨p1,p2⟩ ih;by_cases hx:x=0
 ·subst hx
  have:o7 0=0:=by unfold o7;simp
  (repeat' ((first|(apply AG<;>intro hc<;>try omega)|apply AE)<;>conv=>whnf))
  exact C2 (by omega)
 ·have h1:o7 (x/2)+1=o7 x:=by
   by_cases h1:x=1
   ·subst h1;decide
   ·exact TJ 1 (x:=x) (by omega)
  (repeat' ((first|(apply AG<;>intro hc<;>try omega)|(apply AZ;omega)|apply uA|apply AE)<;>conv=>whnf))
  exact B0 [] (ih (n+1) (x/2) (by omega) ⟨by omega,by omega⟩)
theorem rK {V P X lo s d p t:Nat} (h:V+P*p*lo=P*(X*2^s)) (ht:t=lo+d*2^s):V+P*p*(t%4294967296)+P*p*4294967296*(t/4294967296)=P*((X+p*d)*2^s):=by
 have h1:=OL V (P*p) t;rw[h1,ht];have:P*((X+p*d)*2^s)=P*(X*2^s)+P*p*(d*2^s):=by grind
 rw[this,<-h,Nat.mul_add];omega
theorem kE (N:b8 L) (l:List Nat) (q:Bool) (n:Nat) (hD:AY l) (hl:l.length<=549755813888) (hn:n<=65536):Ev L 107 [.sl q (l.map AL),.int .i64 (n:Int)] (.sl false ((dg (val l*2^n)).map AL)):=by
 have hT:=λ q=>GD N l q hD (by omega)
 have d1:=DX (val l);have v1:=BS (val l);have l1:=ET hD;have hz:=HY (val l);refine Ev.x N.H6 rfl rfl ?_;by_cases h0:val l=0
 ·rw[h0,Nat.zero_mul,EZ]
  (repeat' ((first|(apply AG<;>intro hc<;>try omega)|apply AR|apply AE|refine AC (hT _) ?_)<;>conv=>whnf))
  exact AU rfl (IX [])
 rw[<-v1];generalize dg (val l)=x at *;have cp:n%32<32:=Nat.mod_lt _ (by omega);have e1:(n:Int)/32=((n/32:Nat):Int):=by omega
 have e2:(n:Int)%32=((n%32:Nat):Int):=by omega
 (repeat' ((first|(apply AG<;>intro hc<;>try omega)|(refine P4 ?_ ?_ (λ_ => ?_) (λ_ _ => ?_);omega;omega;all_goals try omega)|apply AR|apply AE|refine AC (hT _) ?_)<;>conv=>whnf))
 rw[e1];refine EM (enc:=AL) 0 (n/32) rfl rfl (by omega) ?_;(conv=>whnf)
 skip
 refine GH (λ i _ _=>x.length-i) (λ(i:Nat) (o:List Nat) (c:Nat)=>i<=x.length/\o.length=n/32+i/\AY o/\c<2^(n%32)/\val o+4294967296^(n/32)*4294967296^i*c=4294967296^(n/32)*(val (x.take i)*2^(n%32))) (λ i o c=>[(10,.int .i64 i),(9,.int .u64 (c:Int)),(8,.row 107069 0 1 0 (n/32+i))]) (λ i o c=>[(107069,107069,.rw 1 (o.map AL))]) 0 (List.replicate (n/32) 0) 0 ⟨by omega,by simp,IK _,Nat.two_pow_pos _,by simp [val,YO]⟩ ?_;intro i o c ⟨p1,p2,p3,p4,p5⟩ ih;have oy:=UV (s:=n%32) (by omega);by_cases hi:i<x.length
 ·obtain ⟨d,hd⟩ : ∃ d,x[i]? = some d:=⟨_,zE hi⟩
  have bk:=d1.at hd;obtain ⟨f1,f2,f3,f4⟩:=Q6 (s:=n%32) bk (by omega);have hr:=XJ (show n%32<=64 by omega) f4;(repeat' ((first|(apply AG<;>intro hc<;>try omega)|(refine RR ?_ (λ_ _ _ => ?_) (λ_ _ _ _ => ?_);omega;all_goals try omega)|(apply CH;omega)|apply AR|(refine BL (by assumption) ?_ rfl ?_;omega)|apply AE)<;>conv=>whnf))
  rw[e2];refine OH (by omega) f4 ?_;(conv=>whnf)
  skip
  refine VV (n%32) (Nat.mul_mod_left _ _) p4 (by omega) ?_;(conv=>whnf)
  have j7:=rK (d:=d) p5 rfl;have ow:(c+d*2^(n%32))/4294967296<2^(n%32):=by
   rw[Nat.div_lt_iff_lt_mul (by omega)];have:=zR (2^(n%32)) (show d<=4294967295 by omega)
   omega
  generalize c+d*2^(n%32)=t at *;(repeat' ((first|apply FP|apply EN)<;>conv=>whnf))
  refine GI (enc:=AL) (t%4294967296) rfl p2.symm rfl (by omega) (by omega) ?_;(conv=>whnf)
  (repeat' ((first|(apply AZ;omega)|apply FF)<;>conv=>whnf))
  rw[show (o++[t%4294967296]).length=n/32+(i+1) by simp [p2];omega];refine B5 [(107069,107091)] (by (conv=>whnf);exact ⟨rfl,rfl,rfl⟩) (ih (i+1) (o++[t%4294967296]) (t/4294967296) (by omega) ⟨by omega,by simp;omega,p3.append (G7 (by omega)),ow,?_⟩);rw[NH,p2,DY hd,Nat.pow_add,Nat.pow_succ,<-Nat.mul_assoc];exact j7
 ·obtain rfl:i=x.length:=by omega
  clear ih;have wi:c<4294967296:=by omega
  have Xi:AY (o++[c]):=p3.append (G7 wi);have zz:val (o++[c])=val x*2^n:=by
   rw[NH,p2,Nat.pow_add,p5,DD (Nat.le_refl _)];have e3:2^n=4294967296^(n/32)*2^(n%32):=by
    rw[show 4294967296=2^32 from rfl,<-Nat.pow_mul,<-Nat.pow_add];congr 1;omega
   rw[e3];grind
  have zw:(o++[c]).length=n/32+x.length+1:=by simp [p2]
  (repeat' ((first|(apply AG<;>intro hc<;>try omega)|(apply D9;omega)|apply AR|apply EN|apply AE)<;>conv=>whnf))
  refine GI (enc:=AL) c rfl p2.symm rfl (by omega) (by omega) ?_;(conv=>whnf)
  rw[<-zz,zw];generalize o++[c]=O at *;rw[<-zw];clear p3 p4 p5 zz;refine FC 1000 N.HD rfl rfl ?_;(repeat' (apply AE<;>conv=>whnf))
  refine ED (λ n=>n) (λ(n:Nat)=>n<=(O).length /\ ∀ i,n<=i->i<(O).length->(O)[i]? = some 0) (λ n=>[(3,.int .i64 n)]) (λ_=>[]) (O).length ⟨Nat.le_refl _,λ i h1 h2=>by omega⟩ ?_;intro n ⟨p1,p2⟩ ih;rcases n with _|n
  ·(repeat' ((first|(apply AG<;>intro hc<;>try omega)|apply AE)<;>conv=>whnf))
   refine F8 0 (by omega) (by omega) ?_;(conv=>whnf)
   have cb:=GA (l:=O) (by assumption) p1 p2 (Or.inl rfl);have j6:(List.take 0 O).length<=(O).length:=by rw[List.length_take];omega
   clear ih p2;refine V0 (enc:=AL) (by omega) ?_;(conv=>whnf)
   rw[List.drop_zero,Nat.sub_zero];generalize Dw:List.take 0 O=T0 at *;refine O5 (enc:=AL) (λ_=>rfl) (by omega) (by omega) ?_;(conv=>whnf)
   refine ⟨rfl,_,rfl,?_⟩;(conv=>whnf)
   (refine D4 (enc:=AL) (λ_=>rfl) rfl rfl ?_;(conv=>whnf);exact AU (by rw[<-cb]) (IX _))
  ·have e1:((n+1:Nat):Int)-1=n:=by omega
   (repeat' ((first|(apply AG<;>intro hc<;>try omega)|(apply A3;omega)|(apply BX;omega)|(refine P2 (by assumption) ?_ (λ v hv hb => ?_);omega)|apply AE)<;>conv=>whnf))
   ·rw[e1]
    exact B0 [] (ih n (by omega) ⟨by omega,λ i h1 h2=>by
     by_cases h:i=n
     ·subst h
      rw[e1,Int.toNat_natCast]at hv;rw[hv];congr 1;omega
     ·exact p2 i (by omega) h2⟩)
   ·refine F8 (n+1) (by omega) (by omega) ?_
    (conv=>whnf)
    rw[e1,Int.toNat_natCast]at hv;have cb:=GA (l:=O) (by assumption) p1 p2 (Or.inr ⟨_,hv,by omega⟩);have j6:(List.take (n+1) O).length<=(O).length:=by rw[List.length_take];omega
    clear ih p2 hv;(rw[fP (l:=O)];rotate_left;exact rfl;exact rfl);(conv=>whnf)
    refine V0 (enc:=AL) (by omega) ?_;(conv=>whnf)
    rw[List.drop_zero,Nat.sub_zero];generalize Dw:List.take (n+1) O=T0 at *;refine O5 (enc:=AL) (λ_=>rfl) (by omega) (by omega) ?_;(conv=>whnf)
    refine ⟨rfl,_,rfl,?_⟩;(conv=>whnf)
    (refine D4 (enc:=AL) (λ_=>rfl) rfl rfl ?_;(conv=>whnf);exact AU (by rw[<-cb]) (IX _))
theorem Ux {l:List Nat} (hD:AY l) (k:Nat) (hk:k<=l.length):val (l.drop k)=val l/4294967296^k:=by
 have h1:=JN l k hk;have h2:=E2 (hD.take k);rw[List.length_take,Nat.min_eq_left hk]at h2;rw[h1,Nat.add_mul_div_left _ _ (Nat.pow_pos (by omega)),Nat.div_eq_of_lt h2,Nat.zero_add]
theorem Sp (n:Nat):2^n=4294967296^(n/32)*2^(n%32):=by
 rw[show 4294967296=2^32 from rfl,<-Nat.pow_mul,<-Nat.pow_add];congr 1;omega
theorem Mp {d e V r:Nat} (hd:d<4294967296) (hr:r<32):(d+e*4294967296)/2^r%4294967296+4294967296*((e+4294967296*V)/2^r)=(d+4294967296*(e+4294967296*V))/2^r:=by
 obtain ⟨f1,f2,f3⟩:=nG (V:=e) hd (show r<=32 by omega);rw[bH (d:=d) (V:=e+4294967296*V) (by omega),nH (d:=e) (V:=V) (by omega)];have h1:=bH (d:=d) (V:=e) (s:=r) (by omega);rw[show d+e*4294967296=d+4294967296*e by omega,h1];clear h1;generalize d/2^r=A at *;generalize e%2^r*2^(32-r)=Q at *;generalize e/2^r=Z at *;generalize 2^(32-r)=P at *;omega
theorem Pc (N:b8 L) (l:List Nat) (q:Bool) (n:Nat) (hD:AY l) (hl:l.length<=549755813888) (hn:1<=n/\n<=65536):Ev L 107 [.sl q (l.map AL),.int .i64 (-(n:Int))] (.sl false ((dg (val l/2^n)).map AL)):=by
 have hT:=λ q=>GD N l q hD (by omega)
 have d1:=DX (val l);have v1:=BS (val l);have l1:=ET hD;have hz:=HY (val l);refine Ev.x N.H6 rfl rfl ?_;by_cases h0:val l=0
 ·rw[h0,Nat.zero_div,EZ]
  (repeat' ((first|(apply AG<;>intro hc<;>try omega)|apply AR|apply AE|refine AC (hT _) ?_)<;>conv=>whnf))
  exact AU rfl (IX [])
 rw[<-v1];generalize dg (val l)=x at *;have Ga:n%32<32:=Nat.mod_lt _ (by omega);have e1:(- -(n:Int))/32=((n/32:Nat):Int):=by omega
 have e2:(- -(n:Int))%32=((n%32:Nat):Int):=by omega
 by_cases Yh:32*x.length<n
 ·have l7:val x/2^n=0:=by
   refine Nat.div_eq_of_lt (Nat.lt_of_lt_of_le (E2 d1) ?_);rw[show 4294967296=2^32 from rfl,<-Nat.pow_mul];exact Nat.pow_le_pow_right (by omega) (by omega)
  rw[l7,EZ];(repeat' ((first|(apply AG<;>intro hc<;>try omega)|(apply NN;omega)|apply AR|apply AE|refine AC (hT _) ?_)<;>conv=>whnf))
  exact AU rfl (IX [])
 have hk:n/32<=x.length:=by omega
 have hvd:=Ux d1 _ hk;(repeat' ((first|(apply AG<;>intro hc<;>try omega)|(apply NN;omega)|(refine P4 ?_ ?_ (λ_ => ?_) (λ_ _ => ?_);omega;omega;all_goals try omega)|(apply DW.neg;omega)|apply AR|apply AE|refine AC (hT _) ?_)<;>conv=>whnf))
 rw[e1];refine J2 (λ i _=>x.length-i) (λ(i:Nat) (o:List Nat)=>n/32<=i/\i<=x.length/\o.length=i-n/32/\AY o/\val o+4294967296^(i-n/32)*(val (x.drop i)/2^(n%32))=val (x.drop (n/32))/2^(n%32)) (λ i o=>[(6,.int .i64 i),(5,.row 107005 0 1 0 o.length)]) (λ i o=>[(107005,107005,.rw 1 (o.map AL))]) (n/32) [] ⟨Nat.le_refl _,hk,by simp,R7,by simp [val]⟩ ?_;intro i o ⟨p0,p1,p2,p3,p5⟩ ih;by_cases hi:i<x.length
 ·obtain ⟨d,hd⟩ : ∃ d,x[i]? = some d:=⟨_,zE hi⟩
  have bk:=d1.at hd;have g1:=G3 hd;have g2:=RH x (i+1);have g3:=Mp (e:=x.getD (i+1) 0) (V:=val (x.drop (i+1+1))) bk Ga;rw[<-g2,<-g1]at g3;have key : ∀ t,t=d+x.getD (i+1) 0*4294967296->val (o++[t/2^(n%32)%4294967296])+4294967296^(i+1-n/32)*(val (x.drop (i+1))/2^(n%32))=val (x.drop (n/32))/2^(n%32):=λ t ht=>by
   rw[NH,p2,show i+1-n/32=(i-n/32)+1 by omega,Nat.pow_succ,ht,Nat.add_assoc,Nat.mul_assoc,<-Nat.mul_add,g3];exact p5
  by_cases hy:i+1<x.length
  ·obtain ⟨e,he⟩ : ∃ e,x[i+1]? = some e:=⟨_,zE hy⟩
   have Ex:=d1.at he;have ga:x[((i:Int)+1).toNat]? = some e:=by rw[show ((i:Int)+1).toNat=i+1 by omega];exact he
   rw[GM he]at key;(repeat' ((first|(apply AG<;>intro hc<;>try omega)|(apply AZ;omega)|(apply NP;omega)|(apply CH;omega)|apply AR|(refine BL (by assumption) ?_ rfl ?_;omega)|apply AE)<;>conv=>whnf))
   refine VV 32 (Nat.mul_mod_left _ _) (by omega) (by omega) ?_;(conv=>whnf)
   (repeat' ((first|(refine RR ?_ (λ_ _ _ => ?_) (λ_ _ _ _ => ?_);omega;all_goals try omega)|(apply CH;omega))<;>conv=>whnf))
   rw[e2];refine OG (n:=n%32) (by show n%32<=64;omega) ?_;(conv=>whnf)
   (repeat' ((first|apply FP|apply EN)<;>conv=>whnf))
   refine GI (enc:=AL) ((d+e*4294967296)/2^(n%32)%4294967296) rfl rfl rfl (by omega) (by omega) ?_;(conv=>whnf)
   (repeat' ((first|(apply AZ;omega)|fail)<;>conv=>whnf))
   exact B0 [(107005,107064)] (ih (i+1) (o++[(d+e*4294967296)/2^(n%32)%4294967296]) (by omega) ⟨by omega,by omega,by simp;omega,p3.append (G7 (by omega)),key (d+e*4294967296) rfl⟩)
  ·rw[<-PI (show x.length<=i+1 by omega),Nat.zero_mul]at key
   (repeat' ((first|(apply AG<;>intro hc<;>try omega)|(apply AZ;omega)|(refine RR ?_ (λ_ _ _ => ?_) (λ_ _ _ _ => ?_);omega;all_goals try omega)|(apply CH;omega)|apply AR|(refine BL (by assumption) ?_ rfl ?_;omega)|apply AE)<;>conv=>whnf))
   rw[e2];refine OG (n:=n%32) (by show n%32<=64;omega) ?_;(conv=>whnf)
   (repeat' ((first|apply FP|apply EN)<;>conv=>whnf))
   refine GI (enc:=AL) (d/2^(n%32)%4294967296) rfl rfl rfl (by omega) (by omega) ?_;(conv=>whnf)
   (repeat' ((first|(apply AZ;omega)|fail)<;>conv=>whnf))
   exact B0 [(107005,107064)] (ih (i+1) (o++[d/2^(n%32)%4294967296]) (by omega) ⟨by omega,by omega,by simp;omega,p3.append (G7 (by omega)),key d rfl⟩)
 ·obtain rfl:i=x.length:=by omega
  clear ih;rw[List.drop_of_length_le (Nat.le_refl _),IE,Nat.zero_div,Nat.mul_zero,Nat.add_zero,hvd,Nat.div_div_eq_div_mul,<-Sp]at p5;have ye:=λ q=>GD N o q p3 (by omega)
  rw[p5]at ye;(repeat' ((first|(apply AG<;>intro hc<;>try omega)|apply AR|(refine D4 (λ_=>rfl) rfl ?_ ?_;(first|rfl|simp))|apply AE|refine AC (ye _) ?_)<;>conv=>whnf))
  exact AU rfl (IX _)
end Go.e9
