/-
  Rational numbers as signs and lists of digits, plain.
-/
import Derived.Test.YtgdojcofnobpeaaGreatB7
import Derived.Test.YtgdojcofnobpeaaGreatB3
import Derived.Test.YtgdojcofnobpeaaGreatB5
import Derived.Test.YtgdojcofnobpeaaGreatB4
set_option linter.unusedSimpArgs false
set_option linter.unusedVariables false
set_option linter.unnecessarySimpa false
namespace Go.Eng
abbrev rQ (q1 q2 n:Bool) (m d:List Nat):List AV:=[.bool n,.sl q1 (m.map BZ),.sl q2 (d.map BZ)]
abbrev eQ (x:Rat):List AV:=rQ false false (decide (x.num<0)) (dg x.num.natAbs) (dg x.den)
def qv (n:Bool) (m d:List Nat):Rat:=mkRat (zv n m) (val d)
theorem IB (x:Rat):qv (decide (x.num<0)) (dg x.num.natAbs) (dg x.den)=x:=by
 unfold qv;rw[HW,DP,Rat.mkRat_self]
theorem zW {d:Nat} (z:Nat) (hd:d≠0):0<Nat.gcd d z:=Nat.gcd_pos_of_pos_left z (by omega)
theorem oZ {z:Int} {d:Nat} (hd:d≠0):(mkRat z d).num.natAbs=z.natAbs/Nat.gcd d z.natAbs/\(mkRat z d).den=d/Nat.gcd d z.natAbs/\decide ((mkRat z d).num<0)=decide (z<0):=by
 have hg:=zW z.natAbs hd;have h1:=Rat.num_mkRat z d;have h2:=Rat.den_mkRat z d;rw[if_neg hd]at h1 h2;rw[h1,h2];obtain ⟨k,hk⟩:=Nat.gcd_dvd_right d z.natAbs;generalize hG:Nat.gcd d z.natAbs=g at *;have hz:z=(g:Int)*(z.sign*k):=by
  rw[<-Int.mul_assoc,Int.mul_comm (g:Int),Int.mul_assoc,<-Int.natCast_mul,<-hk,Int.sign_mul_natAbs]
 have e1:z/(g:Int)=z.sign*k:=by
  rw[hz,Int.mul_ediv_cancel_left _ (by omega),<-hz]
 refine ⟨?_,rfl,?_⟩
 ·rw[e1,Int.natAbs_mul,hk,Nat.mul_div_cancel_left _ hg]
  by_cases h0:z=0
  ·subst h0
   have:k=0:=by
    have h5:g*k=0:=hk.symm;rcases Nat.mul_eq_zero.1 h5 with h|h
    ·omega
    ·exact h
   subst this;simp
  ·rw[Int.natAbs_sign_of_ne_zero h0,Nat.one_mul];simp
 ·congr 1
  rw[eq_iff_iff];rw[Int.ediv_lt_iff_lt_mul (by omega),Int.zero_mul]
theorem G3 (x:Rat):CT (.agg (eQ x)):=by
 simp only[CT,FG,and_true,true_and];exact ⟨E5 _,E5 _⟩
theorem bR (b w:Bool) (m d:List Nat):CT (.agg [.bool b,.sl false (m.map BZ),.sl false (d.map BZ),.bool w]):=by
 simp only[CT,FG,and_true,true_and];exact ⟨E5 _,E5 _⟩
theorem We (b:Bool) (m:List Nat):CT (.agg [.bool b,.sl false (m.map BZ)]):=by
 simp only[CT,FG,and_true,true_and];exact E5 _
theorem gI (b:Bool) (m d:List Nat):CT (.agg [.bool b,.sl false (m.map BZ),.sl false (d.map BZ)]):=by
 simp only[CT,FG,and_true,true_and];exact ⟨E5 _,E5 _⟩
theorem cW (q:Bool) (l:List Nat):aW (.sl q (l.map BZ)):=by
 intro e he c hc;obtain ⟨x,_,rfl⟩:=List.mem_map.1 he;simp at hc;subst hc;rfl
theorem J4 {b w q1 q2:Bool} {m d:List Nat} {K:AV->Prop} (hk:K (.agg [.bool b,.sl true (m.map BZ),.sl true (d.map BZ),.bool w])):D4 (.agg [.bool b,.sl q1 (m.map BZ),.sl q2 (d.map BZ),.bool w]) K:=by
 refine ⟨λ c hc => ?_,hk⟩;simp only[List.mem_cons,List.not_mem_nil,or_false]at hc;rcases hc with rfl|rfl|rfl|rfl
 ·trivial
 ·exact cW _ _
 ·exact cW _ _
 ·trivial
theorem sS {b q1 q2:Bool} {m d:List Nat} {K:AV->Prop} (hk:K (.agg [.bool b,.sl true (m.map BZ),.sl true (d.map BZ)])):D4 (.agg [.bool b,.sl q1 (m.map BZ),.sl q2 (d.map BZ)]) K:=by
 refine ⟨λ c hc => ?_,hk⟩;simp only[List.mem_cons,List.not_mem_nil,or_false]at hc;rcases hc with rfl|rfl|rfl
 ·trivial
 ·exact cW _ _
 ·exact cW _ _
theorem W6 {b q1:Bool} {m:List Nat} {K:AV->Prop} (hk:K (.agg [.bool b,.sl true (m.map BZ)])):D4 (.agg [.bool b,.sl q1 (m.map BZ)]) K:=by
 refine ⟨λ c hc => ?_,hk⟩;simp only[List.mem_cons,List.not_mem_nil,or_false]at hc;rcases hc with rfl|rfl
 ·trivial
 ·exact cW _ _
theorem iP {a b:Int} {d e:Nat} (hd:d≠0) (he:e≠0):mkRat a d+mkRat b e=mkRat (a*e+b*d) (d*e):=Rat.mkRat_add_mkRat a b hd he
theorem Jc {a b:Int} {d:Nat} (hd:d≠0):mkRat a d+mkRat b d=mkRat (a+b) d:=by
 rw[iP hd hd,<-Int.add_mul,Rat.mkRat_mul_right hd]
theorem oX (a b:Int) (d e:Nat):mkRat a d*mkRat b e=mkRat (a*b) (d*e):=Rat.mkRat_mul_mkRat a b d e
theorem Je (a:Int):mkRat a 1=(a:Rat):=by
 have h:=Rat.mkRat_self (a:Rat);rw[Rat.num_intCast,Rat.den_intCast]at h;exact h
theorem oY {z:Int} {d:Nat} (hd:d≠0):mkRat z d=0↔z=0:=Rat.mkRat_eq_zero hd
theorem Jf {z:Int} {d:Nat} (hd:d≠0):sgn (mkRat z d).num=sgn z:=by
 obtain ⟨_,_,h⟩:=oZ (z:=z) hd;have h0:(mkRat z d).num=0↔z=0:=by rw[Rat.num_eq_zero,oY hd]
 have h1:(mkRat z d).num<0↔z<0:=by simpa using h
 unfold sgn;by_cases a:z<0
 ·rw[if_pos a,if_pos (h1.2 a)]
 ·rw[if_neg a,if_neg (λ h=>a (h1.1 h))]
  by_cases b:z=0
  ·rw[if_neg (by omega),if_neg (by have:=h0.2 b;omega)]
  ·rw[if_pos (by omega),if_pos (by have:=mt h0.1 b;have:=mt h1.1 a;omega)]
theorem Akf {a b:Int} {d e:Nat} (hd:d≠0) (he:e≠0) (hb:b≠0):mkRat a d/mkRat b e=mkRat (b.sign*(a*e)) (d*b.natAbs):=by
 have hbn:b.natAbs≠0:=by omega
 have h1:mkRat b e≠0:=λ h=>hb ((oY he).1 h)
 have key:mkRat (b.sign*(a*e)) (d*b.natAbs)*mkRat b e=mkRat a d:=by
  rw[oX];have e1:b.sign*(a*e)*b=a*((b.natAbs*e:Nat):Int):=by
   have:=Int.sign_mul_self b
   rw[Int.natCast_mul,<-this];grind
  rw[e1,show d*b.natAbs*e=d*(b.natAbs*e) by rw[Nat.mul_assoc]];exact Rat.mkRat_mul_right (Nat.mul_ne_zero hbn he)
 rw[<-key,Rat.mul_div_cancel h1]
theorem Pa {x y:Int} (hy:y≠0):zv (decide (x<0) != decide (y<0)) (dg x.natAbs)=y.sign*x:=by
 unfold zv;rw[DP];rcases Int.lt_or_gt_of_ne hy with h|h
 ·rw[Int.sign_eq_neg_one_of_neg h]
  by_cases hx:x<0
  ·simp [hx,h];omega
  ·simp [hx,h];omega
 ·rw[Int.sign_eq_one_of_pos h]
  by_cases hx:x<0
  ·simp [hx,show ¬ y<0 by omega];omega
  ·simp [hx,show ¬ y<0 by omega];omega
def Bt (k:Nat) (x:Rat):Prop:=x.num.natAbs<=2^k/\x.den<=2^k
theorem Bt.le {k l:Nat} {x:Rat} (h:Bt k x) (hl:k<=l):Bt l x:=by
 have:=Nat.pow_le_pow_right (show 0<2 by omega) hl
 exact ⟨Nat.le_trans h.1 this,Nat.le_trans h.2 this⟩
theorem Bt.mk {k:Nat} {z:Int} {d:Nat} (hz:z.natAbs<=2^k) (hd:d<=2^k):Bt k (mkRat z d):=by
 by_cases h0:d=0
 ·subst h0
  rw[Rat.mkRat_zero];exact ⟨by simp,by simp;exact Nat.one_le_two_pow⟩
 ·obtain ⟨e1,e2,_⟩:=oZ (z:=z) h0
  unfold Bt;rw[e1,e2];exact ⟨Nat.le_trans (Nat.div_le_self _ _) hz,Nat.le_trans (Nat.div_le_self _ _) hd⟩
theorem Bt.add {k l:Nat} {x y:Rat} (hx:Bt k x) (hy:Bt l y):Bt (k+l+1) (x+y):=by
 rw[Rat.add_def'];refine Bt.mk ?_ ?_
 ·have h1:(x.num*y.den).natAbs<=2^k*2^l:=by rw[Int.natAbs_mul,Int.natAbs_natCast];exact Nat.mul_le_mul hx.1 hy.2
  have h2:(y.num*x.den).natAbs<=2^l*2^k:=by rw[Int.natAbs_mul,Int.natAbs_natCast];exact Nat.mul_le_mul hy.1 hx.2
  rw[Nat.mul_comm (2^l)]at h2;rw[Nat.pow_succ,Nat.pow_add];have h3:=Int.natAbs_add_le (x.num*y.den) (y.num*x.den);omega
 ·rw[Nat.pow_succ,Nat.pow_add]
  have:=Nat.mul_le_mul hx.2 hy.2
  omega
theorem Bt.mul {k l:Nat} {x y:Rat} (hx:Bt k x) (hy:Bt l y):Bt (k+l) (x*y):=by
 rw[Rat.mul_def'];refine Bt.mk ?_ ?_
 ·rw[Int.natAbs_mul,Nat.pow_add];exact Nat.mul_le_mul hx.1 hy.1
 ·rw[Nat.pow_add];exact Nat.mul_le_mul hx.2 hy.2
theorem Bt.zero (k:Nat):Bt k 0:=⟨by simp,by simp;exact Nat.one_le_two_pow⟩
theorem Bt.one (k:Nat):Bt k 1:=⟨by simp;exact Nat.one_le_two_pow,by simp;exact Nat.one_le_two_pow⟩
theorem Bt.Pj {k n:Nat} {x:Rat} (h:Bt k x) (hn:k<32*n):Sm n (dg x.num.natAbs)/\Sm n (dg x.den):=by
 have e:2^k<4294967296^n:=by
  rw[show 4294967296=2^32 from rfl,<-Nat.pow_mul];exact (Nat.pow_lt_pow_iff_right (by omega)).2 hn
 exact ⟨Sm.dg (Nat.lt_of_le_of_lt h.1 e),Sm.dg (Nat.lt_of_le_of_lt h.2 e)⟩
def Bs (k:Nat) (l:List Rat):Prop := ∀ x∈l,Bt k x
theorem Bs.at {k:Nat} {l:List Rat} (h:Bs k l) {i:Nat} {x:Rat} (hx:l[i]? = some x):Bt k x:=h x (zM hx)
theorem Bs.le {k j:Nat} {l:List Rat} (h:Bs k l) (hj:k<=j):Bs j l:=λ x hx=>(h x hx).le hj
theorem Bs.take {k:Nat} {l:List Rat} (h:Bs k l) (n:Nat):Bs k (l.take n):=λ x hx=>h x (List.mem_of_mem_take hx)
def CI:List Rat->List Rat->Rat
 | x::xs,y::ys=>x*y+CI xs ys
 | _,_=>0
theorem WB (l:List Rat):CI l []=0:=by cases l<;>rfl
theorem wW : ∀ {a b:List Rat} {x y:Rat},a.length=b.length->CI (a++[x]) (b++[y])=CI a b+x*y
 | [],[],x,y,_=>by show x*y+0=0+x*y;rw[Rat.add_zero,Rat.zero_add]
 | p::a,q::b,x,y,h=>by
  show p*q+CI (a++[x]) (b++[y])=p*q+CI a b+x*y;rw[wW (by simpa using h),Rat.add_assoc]
theorem cE {a b:List Rat} {i:Nat} {x y:Rat} (hx:a[i]? = some x) (hy:b[i]? = some y):CI (a.take (i+1)) (b.take (i+1))=CI (a.take i) (b.take i)+x*y:=by
 have h1:=(zS hx).1;have h2:=(zS hy).1;rw[List.take_add_one,List.take_add_one,hx,hy,Option.toList_some,Option.toList_some,wW (by rw[List.length_take,List.length_take];omega)]
theorem XQ {a b:List Rat} {n:Nat} (h:a.length=n):CI (a.take n) (b.take n)=CI a b:=by
 subst h;rw[List.take_of_length_le (Nat.le_refl _)];induction a generalizing b with
 | nil=>cases b<;>rfl
 | cons x a ih=>cases b with
  | nil=>rfl
  | cons y b=>simp only[List.length_cons,List.take_succ_cons,CI,ih]
theorem Bs.dot {k l:Nat} : ∀ {a b:List Rat},Bs k a->Bs l b->Bt (a.length*(k+l+1)) (CI a b)
 | [],b,_,_=>by cases b<;>exact Bt.zero _
 | x::a,[],_,_=>Bt.zero _
 | x::a,y::b,ha,hb=>by
  have h1:=(ha x (by simp)).mul (hb y (by simp));have h2:=Bs.dot (a:=a) (b:=b) (λ z hz=>ha z (by simp [hz])) (λ z hz=>hb z (by simp [hz]));refine (h1.add h2).le ?_;rw[List.length_cons,Nat.succ_mul];omega
def N4 (a b:List Rat):List Rat:=List.zipWith (· + ·) a b
theorem mK : ∀ {a u v:List Rat},u.length=v.length->CI a (N4 u v)=CI a u+CI a v
 | [],_,_,_=>by simp only[CI];rw[Rat.add_zero]
 | x::a,[],[],_=>by simp only[N4,List.zipWith_nil_left,CI];rw[Rat.add_zero]
 | x::a,p::u,q::v,h=>by
  show x*(p+q)+CI a (N4 u v)=_;rw[mK (by simpa using h)];simp only[CI];grind
structure GA where
 a:List (List Rat)
 b:List Rat
 c:List Rat
 d:Rat
structure GA.Ok (S:GA) (n k:Nat):Prop where
 la:S.a.length=n
 lr : ∀ r∈S.a,r.length=n
 lb:S.b.length=n
 lc:S.c.length=n
 ba : ∀ r∈S.a,Bs k r
 bb:Bs k S.b
 bc:Bs k S.c
 bd:Bt k S.d
def GA.out (S:GA) (now:List Rat) (x:Rat):Rat:=CI S.c now+S.d*x
def Ih (now:List Rat) (x:Rat):List (List Rat)->List Rat->List Rat
 | r::a,b::bs=>(CI r now+b*x)::Ih now x a bs
 | _,_=>[]
def GA.next (S:GA) (now:List Rat) (x:Rat):List Rat:=Ih now x S.a S.b
def FP (n:Nat) (j:Int):List Rat:=(List.range n).map λ i:Nat=>if (i:Int)=j then 1 else 0
theorem TJ (n:Nat) (j:Int):(FP n j).length=n:=by simp [FP]
def ED (m:List (List Rat)) (j:Nat):List Rat:=m.map λ r=>r.getD j 0
def H1 (r:List Rat) (m:List (List Rat)) (n:Nat):List Rat:=(List.range n).map λ j=>CI r (ED m j)
def EA (a m:List (List Rat)) (n:Nat):List (List Rat):=a.map λ r=>H1 r m n
def L1 (m:List (List Rat)):Nat->Rat
 | 0=>0
 | i+1=>L1 m i+(m.getD i []).getD i 0
def u9 (m:List (List Rat)) (c:Rat) (i:Nat):List (List Rat):=(List.range m.length).map λ r=>if r<i then (m.getD r []).set r ((m.getD r []).getD r 0+c) else m.getD r []
def FJ (n:Nat):List (List Rat):=(List.range n).map λ i:Nat=>FP n i
def ZP (p:List (List Rat)) (n k:Nat):Rat:=L1 p n*Rat.divInt (-1) (k:Int)
def FV (a:List (List Rat)) (n:Nat):Nat->List (List Rat)
 | 0=>FJ n
 | k+1=>u9 (EA a (FV a n k) n) (ZP (EA a (FV a n k) n) n (k+1)) n
def MB (a:List (List Rat)) (n k:Nat):Rat:=ZP (EA a (FV a n k) n) n (k+1)
def GG (a:List (List Rat)) (n k:Nat):List Rat:=1::(List.range k).map (MB a n)
def CO (m:List (List Rat)) (b:List Rat):List Rat:=m.map λ r=>CI r b
def IK (S:GA) (n k:Nat):List Rat:=0::(List.range k).map λ i=>CI S.c (CO (FV S.a n i) S.b)
theorem bZ (m:List (List Rat)) (j:Nat):(ED m j).length=m.length:=by simp [ED]
theorem iS (r:List Rat) (m:List (List Rat)) (n:Nat):(H1 r m n).length=n:=by simp [H1]
theorem Jj (a m:List (List Rat)) (n:Nat):(EA a m n).length=a.length:=by simp [EA]
theorem UT (m:List (List Rat)) (c:Rat) (i:Nat):(u9 m c i).length=m.length:=by simp [u9]
theorem LA (m:List (List Rat)) (b:List Rat):(CO m b).length=m.length:=by simp [CO]
theorem fS (a:List (List Rat)) (n k:Nat):(GG a n k).length=k+1:=by simp [GG]
theorem fQ (S:GA) (n k:Nat):(IK S n k).length=k+1:=by simp [IK]
theorem Xr (a:List (List Rat)) (n k:Nat):GG a n (k+1)=GG a n k++[MB a n k]:=by simp [GG,List.range_succ]
theorem Tx (S:GA) (n k:Nat):IK S n (k+1)=IK S n k++[CI S.c (CO (FV S.a n k) S.b)]:=by simp [IK,List.range_succ]
structure Sq (n:Nat) (m:List (List Rat)):Prop where
 l:m.length=n
 r : ∀ r∈m,r.length=n
theorem Sq.at {n:Nat} {m:List (List Rat)} (h:Sq n m) {i:Nat} {r:List Rat} (hr:m[i]? = some r):r.length=n:=h.r r (zM hr)
theorem Sq.mul {n:Nat} {a:List (List Rat)} (h:a.length=n) (m:List (List Rat)):Sq n (EA a m n):=by
 refine ⟨by rw[Jj,h],λ r hr => ?_⟩;obtain ⟨x,_,rfl⟩:=List.mem_map.1 hr;exact iS _ _ _
theorem XD {m:List (List Rat)} {c:Rat} {i r:Nat} {row:List Rat} (h:m[r]? = some row):(u9 m c i)[r]? = some (if r<i then row.set r (row.getD r 0+c) else row):=by
 have h1:=(zS h).1;have e:m.getD r []=row:=by rw[List.getD_eq_getElem?_getD,h];rfl
 simp only[u9,List.getElem?_map,List.getElem?_range h1,Option.map_some,e]
theorem Sq.u9 {n:Nat} {m:List (List Rat)} (h:Sq n m) (c:Rat) (i:Nat):Sq n (u9 m c i):=by
 refine ⟨by rw[UT,h.l],λ r hr => ?_⟩;obtain ⟨j,hj⟩:=List.getElem?_of_mem hr;have h1:=(zS hj).1;rw[UT]at h1;obtain ⟨row,n7⟩ : ∃ row,m[j]? = some row:=⟨_,zE h1⟩;rw[XD n7]at hj;obtain rfl:=Option.some.inj hj;have:=h.at n7;split
 ·rw[List.length_set];exact this
 ·exact this
theorem Xh (m:List (List Rat)) (c:Rat):u9 m c 0=m:=by
 refine List.ext_getElem? λ r => ?_
 cases e:m[r]? with
 | none=>rw[List.getElem?_eq_none (by rw[UT];exact List.getElem?_eq_none_iff.1 e)]
 | some row=>rw[XD e,if_neg (by omega)]
theorem Xg {m:List (List Rat)} {c:Rat} {i:Nat} {row:List Rat} (h:m[i]? = some row):u9 m c (i+1)=(u9 m c i).set i (row.set i (row.getD i 0+c)):=by
 refine List.ext_getElem? λ r => ?_
 rw[List.getElem?_set];cases e:m[r]? with
 | none =>
  have h1:=List.getElem?_eq_none_iff.1 e;have h2:=(zS h).1;rw[List.getElem?_eq_none (by rw[UT];exact h1),if_neg (by omega),List.getElem?_eq_none (by rw[UT];exact h1)]
 | some rw' =>
  rw[XD e,XD e];by_cases hi:i=r
  ·subst hi
   obtain rfl:=Option.some.inj (h.symm.trans e);have h2:=(zS h).1;rw[if_pos (by omega),if_pos rfl,if_pos (by rw[UT];exact h2)]
  ·rw[if_neg hi]
   by_cases h3:r<i
   ·rw[if_pos (by omega),if_pos h3]
   ·rw[if_neg (by omega),if_neg h3]
theorem Xf {m:List (List Rat)} {c:Rat} {i:Nat} {row:List Rat} (h:m[i]? = some row):(u9 m c i)[i]? = some row:=by rw[XD h,if_neg (by omega)]
theorem Sq.id (n:Nat):Sq n (FJ n):=by
 refine ⟨by simp [FJ],λ r hr => ?_⟩;obtain ⟨i,_,rfl⟩:=List.mem_map.1 hr;exact TJ _ _
theorem Sq.fl {n:Nat} {a:List (List Rat)} (h:a.length=n) : ∀ k,Sq n (FV a n k)
 | 0=>Sq.id n
 | k+1=>(Sq.mul h _).u9 _ _
def Ms (k:Nat) (m:List (List Rat)):Prop := ∀ r∈m,Bs k r
theorem Ms.at {k:Nat} {m:List (List Rat)} (h:Ms k m) {i:Nat} {r:List Rat} (hr:m[i]? = some r):Bs k r:=h r (zM hr)
theorem Ms.getD {k:Nat} {m:List (List Rat)} (h:Ms k m) (i j:Nat):Bt k ((m.getD i []).getD j 0):=by
 rw[List.getD_eq_getElem?_getD,List.getD_eq_getElem?_getD];cases e:m[i]? with
 | none=>exact Bt.zero k
 | some r =>
  simp only[Option.getD_some];cases e2:r[j]? with
  | none=>exact Bt.zero k
  | some x=>exact (h.at e).at e2
theorem Ms.le {k j:Nat} {m:List (List Rat)} (h:Ms k m) (hj:k<=j):Ms j m:=λ r hr=>(h r hr).le hj
theorem Ms.Bi {k:Nat} {m:List (List Rat)} (h:Ms k m) (j:Nat):Bs k (ED m j):=by
 intro x hx;obtain ⟨r,hr,rfl⟩:=List.mem_map.1 hx;rw[List.getD_eq_getElem?_getD];cases e:r[j]? with
 | none=>exact Bt.zero k
 | some x=>exact (h r hr).at e
theorem Ms.mul {n k s:Nat} {a m:List (List Rat)} (ha:Ms k a) (hs:Sq n a) (hm:Ms s m):Ms (n*(k+s+1)) (EA a m n):=by
 intro r hr x hx;obtain ⟨r,h1,rfl⟩:=List.mem_map.1 hr;obtain ⟨j,_,rfl⟩:=List.mem_map.1 hx;have:=(ha r h1).dot (hm.Bi j);rw[hs.r r h1]at this;exact this
theorem Ms.tr {k:Nat} {m:List (List Rat)} (h:Ms k m) : ∀ i,Bt (i*(k+1)) (L1 m i)
 | 0=>Bt.zero _
 | i+1=>by
  refine ((Ms.tr h i).add (h.getD i i)).le ?_;rw[Nat.succ_mul];omega
theorem Ms.u9 {k j:Nat} {m:List (List Rat)} (h:Ms k m) {c:Rat} (hc:Bt j c) (i:Nat):Ms (k+j+1) (u9 m c i):=by
 intro r hr;obtain ⟨q,hq⟩:=List.getElem?_of_mem hr;have h1:=(zS hq).1;rw[UT]at h1;obtain ⟨row,n7⟩ : ∃ row,m[q]? = some row:=⟨_,zE h1⟩;rw[XD n7]at hq;obtain rfl:=Option.some.inj hq;have hb:=h.at n7;split
 ·intro x hx
  rcases List.mem_or_eq_of_mem_set hx with hx|rfl
  ·exact (hb x hx).le (by omega)
  ·refine Bt.add ?_ hc
   rw[List.getD_eq_getElem?_getD];cases e:row[q]? with
   | none=>exact Bt.zero k
   | some x=>exact hb.at e
 ·exact hb.le (by omega)
theorem Ms.id (n k:Nat):Ms k (FJ n):=by
 intro r hr x hx;obtain ⟨i,_,rfl⟩:=List.mem_map.1 hr;simp only[FP,List.mem_map]at hx;obtain ⟨a,_,rfl⟩:=hx;split
 ·exact Bt.one k
 ·exact Bt.zero k
theorem uD {k:Nat} (hk:k<=7):Bt 3 (Rat.divInt (-1) (k:Int)):=by
 rw[Rat.divInt_ofNat];refine Bt.mk ?_ ?_
 ·decide
 ·show k<=8;omega
def J9 (s:Nat):Nat->Nat
 | 0=>0
 | k+1=>20*J9 s k+(20*s+100)
theorem Ms.xe {n s:Nat} {a:List (List Rat)} (hs:Sq n a) (ha:Ms s a) (hn:n<=4) : ∀ k,k<=4->Ms (J9 s k) (FV a n k)/\Ms (4*(J9 s k+(s+1))) (EA a (FV a n k) n)/\Bt (16*(J9 s k+(s+1))+10) (MB a n k):=by
 have key : ∀ k,k<=4->Ms (J9 s k) (FV a n k)->Ms (4*(J9 s k+(s+1))) (EA a (FV a n k) n)/\Bt (16*(J9 s k+(s+1))+10) (MB a n k):=λ k hk h=>by
  have h1:Ms (4*(J9 s k+(s+1))) (EA a (FV a n k) n):=(Ms.mul ha hs h).le (Nat.mul_le_mul hn (by omega));refine ⟨h1,?_⟩;refine ((h1.tr n).mul (uD (k:=k+1) (by omega))).le ?_;have:=Nat.mul_le_mul_right (4*(J9 s k+(s+1))+1) hn;generalize J9 s k=f at this ⊢;generalize hX:4*(f+(s+1))+1=X at this ⊢;generalize n*X=Y at this ⊢;omega
 intro k;induction k with
 | zero=>exact λ hk=>⟨Ms.id n _,key 0 hk (Ms.id n _)⟩
 | succ k ih =>
  intro hk;obtain ⟨h1,h2,h3⟩:=ih (by omega);have h4:Ms (J9 s (k+1)) (FV a n (k+1)):=(h2.u9 h3 n).le (by show _<=20*J9 s k+(20*s+100);omega);exact ⟨h4,key (k+1) hk h4⟩
def XZ:Nat->Nat:=J9 80
theorem Ms.fl {n:Nat} {a:List (List Rat)} (hs:Sq n a) (ha:Ms 80 a) (hn:n<=4) : ∀ k,k<=4->Ms (XZ k) (FV a n k)/\Ms (4*(XZ k+81)) (EA a (FV a n k) n)/\Bt (16*(XZ k+81)+10) (MB a n k):=Ms.xe hs ha hn
theorem nT : ∀ k,k<=4->J9 400 k<=69000000:=by decide
theorem zJ : ∀ k,k<=4->XZ k<=15000000:=by decide
theorem JA : ∀ a b:List Rat,CI a b=CI b a
 | [],[]=>rfl
 | [],_::_=>rfl
 | _::_,[]=>rfl
 | x::a,y::b=>by simp only[CI,JA a b,Rat.mul_comm]
theorem ZT : ∀ (v:List Rat) (n:Nat),CI (List.replicate n 0) v=0
 | [],n=>WB _
 | y::v,0=>rfl
 | y::v,n+1=>by rw[List.replicate_succ];simp only[CI,ZT v n];grind
theorem cF (v:List Rat) (n:Nat):CI v (List.replicate n 0)=0:=by rw[JA,ZT]
theorem cD (x:Rat) : ∀ a b:List Rat,CI (a.map (x * ·)) b=x*CI a b
 | [],_=>by simp [CI]
 | _::_,[]=>by simp [CI]
 | p::a,q::b=>by simp only[List.map_cons,CI,cD x a b];grind
theorem Akn (u:List Rat) (n:Nat):H1 u [] n=List.replicate n 0:=by
 refine List.ext_getElem? λ j => ?_
 simp only[H1,ED,List.map_nil,WB,List.getElem?_map,List.getElem?_replicate];by_cases h:j<n
 ·rw[List.getElem?_range h,if_pos h];rfl
 ·rw[List.getElem?_eq_none (by simp;omega),if_neg h];rfl
theorem Ako (m:List (List Rat)) (n:Nat):H1 [] m n=List.replicate n 0:=by
 refine List.ext_getElem? λ j => ?_
 simp only[H1,CI,List.getElem?_map,List.getElem?_replicate];by_cases h:j<n
 ·rw[List.getElem?_range h,if_pos h];rfl
 ·rw[List.getElem?_eq_none (by simp;omega),if_neg h];rfl
theorem Akm (x:Rat) (u r:List Rat) (m:List (List Rat)) (n:Nat) (hr:r.length=n):H1 (x::u) (r::m) n=N4 (r.map (x * ·)) (H1 u m n):=by
 refine List.ext_getElem? λ j => ?_
 simp only[H1,N4,List.getElem?_map,List.getElem?_zipWith];by_cases h:j<n
 ·rw[List.getElem?_range h]
  obtain ⟨y,hy⟩ : ∃ y,r[j]? = some y:=⟨_,zE (by omega)⟩;rw[hy];simp only[Option.map_some,ED,List.map_cons,CI,List.getD_eq_getElem?_getD,hy,Option.getD_some]
 ·rw[List.getElem?_eq_none (by simp;omega),List.getElem?_eq_none (l:=r) (by omega)]
  rfl
theorem mL {n:Nat} {v:List Rat} : ∀ (m:List (List Rat)) (u:List Rat),(∀ r∈m,r.length=n)->CI (H1 u m n) v=CI u (CO m v)
 | [],u,_=>by rw[Akn,ZT,CO,List.map_nil,WB]
 | r::m,[],_=>by rw[Ako,ZT];rfl
 | r::m,x::u,h=>by
  have hr:=h r (by simp);rw[Akm x u r m n hr,JA,mK (by rw[List.length_map,iS];exact hr),JA v,JA v,cD,mL m u λ r hr=>h r (by simp [hr])];rfl
theorem MH {n:Nat} (a m:List (List Rat)) (v:List Rat) (h : ∀ r∈m,r.length=n):CO (EA a m n) v=CO a (CO m v):=by
 simp only[CO,EA,List.map_map];exact List.map_congr_left λ r _=>mL m r h
theorem wV (c:Rat) : ∀ (row b:List Rat) (i:Nat),row.length=b.length->i<row.length->CI (row.set i (row.getD i 0+c)) b=CI row b+c*b.getD i 0
 | [],_,_,_,h=>by simp at h
 | x::row,[],_,h,_=>by simp at h
 | x::row,y::b,0,_,_=>by simp [CI];grind
 | x::row,y::b,i+1,h,hi=>by
  simp only[List.set_cons_succ,List.getD_cons_succ,CI];rw[wV c row b i (by simpa using h) (by simpa using hi)];grind
theorem Hy {n:Nat} {m:List (List Rat)} (hs:Sq n m) (c:Rat) (b:List Rat) (hb:b.length=n):CO (u9 m c n) b=N4 (CO m b) (b.map (c * ·)):=by
 refine List.ext_getElem? λ r => ?_
 simp only[CO,N4,List.getElem?_map,List.getElem?_zipWith];cases e:m[r]? with
 | none =>
  have h1:=List.getElem?_eq_none_iff.1 e;rw[List.getElem?_eq_none (by rw[UT];exact h1)];rfl
 | some row =>
  have h1:=(zS e).1;have hl:=hs.at e;have hm:=hs.l;obtain ⟨y,hy⟩ : ∃ y,b[r]? = some y:=⟨_,zE (by omega)⟩;rw[XD e,if_pos (by omega),hy];simp only[Option.map_some];rw[wV c row b r (by omega) (by omega),List.getD_eq_getElem?_getD,hy];rfl
theorem X8 {n:Nat} {b:List Rat} (hb:b.length=n):CO (FJ n) b=b:=by
 have unit : ∀ (k n i:Nat) (b:List Rat),b.length=n->CI ((List.range' k n).map λ a:Nat=>if (a:Int)=((k+i:Nat):Int) then 1 else 0) b=b.getD i 0:=by
  intro k n;induction n generalizing k with
  | zero=>intro i b hb;obtain rfl:=List.eq_nil_of_length_eq_zero hb;simp [CI]
  | succ n ih =>
   intro i b hb;cases b with
   | nil=>simp at hb
   | cons y b =>
    rw[List.range'_succ,List.map_cons,CI];cases i with
    | zero =>
     have hz:((List.range' (k+1) n).map λ a:Nat=>if (a:Int)=((k+0:Nat):Int) then (1:Rat) else 0)=List.replicate n 0:=by
      rw[List.eq_replicate_iff];refine ⟨by simp,λ x hx => ?_⟩;obtain ⟨a,ha,rfl⟩:=List.mem_map.1 hx;rw[if_neg];have:=(List.mem_range'_1.1 ha).1;omega
     rw[hz,ZT,if_pos (by simp)];simp [Rat.add_zero]
    | succ i =>
     have:=ih (k+1) i b (by simpa using hb)
     rw[show k+1+i=k+(i+1) by omega]at this;rw[this,if_neg (by omega),List.getD_cons_succ];grind
 refine List.ext_getElem? λ r => ?_
 simp only[CO,FJ,List.getElem?_map];by_cases h:r<n
 ·rw[List.getElem?_range h]
  have:=unit 0 n r b hb
  rw[Nat.zero_add]at this;simp only[Option.map_some,FP,List.range_eq_range']at this ⊢;rw[this,List.getD_eq_getElem?_getD,zE (by omega)];rfl
 ·rw[List.getElem?_eq_none (by simp;omega),List.getElem?_eq_none (by omega)]
  rfl
def wQ (S:GA):Nat->List Rat
 | 0=>S.b
 | j+1=>CO S.a (wQ S j)
def conv (A h:Nat->Rat) (K:Nat):Nat->Rat
 | 0=>0
 | a+1=>conv A h K a+A a*h (K-a)
theorem Io {α:Type} {l:List α} (h:l.length=1) : ∃ a,l=[a]:=by
 rcases l with _|⟨a,_|⟨b,l⟩⟩<;>simp at h
 exact ⟨a,rfl⟩
end Go.Eng
namespace Go.Eng
open F
attribute [local irreducible] AH BJ B1 BD EZ CF CG CR CU DW B5 DT EG F7 DM CQ DR EE AR CW BW pw DC C9 EI ET E1 E7 EW D4 E8
variable {L:Lib}
set_option maxHeartbeats 1000000
def FI (a b:Int):Int:=if a<b then -1 else if b<a then 1 else 0
theorem LL {a b:Int} (h:a<b) : -1=FI a b:=by unfold FI;rw[if_pos h]
theorem T5 {a b:Int} (h:b<a):1=FI a b:=by unfold FI;rw[if_neg (by omega),if_pos h]
theorem XM {a b:Int} (h:a=b):0=FI a b:=by unfold FI;rw[if_neg (by omega),if_neg (by omega)]
theorem AhJ (N:d4 L) (a:Int):Ev L 58 [.int .i64 a] (.bool false):=by
 refine Ev.x N.OY rfl rfl ?_;(repeat' ((first|(apply BR<;>intro hc<;>try (exfalso;omega))|apply BA)<;>conv=>whnf));exact I5 rfl
theorem AhN (N:d4 L) (a:Int):Ev L 59 [.int .u32 a] (.bool false):=by
 refine Ev.x N.O0 rfl rfl ?_;(repeat' ((first|(apply BR<;>intro hc<;>try (exfalso;omega))|apply BA)<;>conv=>whnf));exact I5 rfl
theorem Ahj (N:d4 L) (a b:Int):Ev L 60 [.int .i64 a,.int .i64 b] (.int .i64 (FI a b)):=by
 refine Ev.x N.OW rfl rfl ?_;(repeat' ((first|(apply BR<;>intro hc<;>try (exfalso;omega))|apply BA|refine BH (AhJ N _) ?_)<;>conv=>whnf))
 ·exact FF (LL (by omega))
 ·exact FF (T5 (by omega))
 ·exact FF (XM (by omega))
theorem Ahk (N:d4 L) (a b:Int):Ev L 61 [.int .u32 a,.int .u32 b] (.int .i64 (FI a b)):=by
 refine Ev.x N.OX rfl rfl ?_;(repeat' ((first|(apply BR<;>intro hc<;>try (exfalso;omega))|apply BA|refine BH (AhN N _) ?_)<;>conv=>whnf))
 ·exact FF (LL (by omega))
 ·exact FF (T5 (by omega))
 ·exact FF (XM (by omega))
theorem xR (N:d4 L) (l:List Nat) (q:Bool) (hl:l.length<=1099511627776):Ev L 62 [.sl q (l.map BZ)] (.sl false (l.map BZ)):=by
 cases l with
 | nil =>
  refine IV.nil N.K2 (IV.x N.K2 rfl rfl ?_) (IV.x N.K2 rfl rfl ?_)
  ·(repeat' (apply BA<;>conv=>whnf))
   exact CK rfl (by simp [CT,IR])
  ·(repeat' (apply BA<;>conv=>whnf))
   refine eH (enc:=BZ) (l:=[]) (l':=[]) rfl (λ_=>rfl) (by simp) (by simp) ?_;(conv=>whnf);(repeat' ((refine GK (λ_=>rfl) rfl ?_ ?_;(first|rfl|simp))<;>conv=>whnf));exact CK rfl (by simp [CT,IR])
 | cons d l =>
  refine IV.cons (IV.x N.K2 rfl rfl ?_);(repeat' (apply BA<;>conv=>whnf));refine CE (by simp) ?_;(conv=>whnf);skip;refine eH (enc:=BZ) (l:=[]) (l':=d::l) rfl (λ_=>rfl) (by simp at hl ⊢;omega) (by simp at hl ⊢;omega) ?_;(conv=>whnf);(repeat' ((refine GK (λ_=>rfl) rfl ?_ ?_;(first|rfl|simp))<;>conv=>whnf));exact CK rfl (by simp only[CT,true_and];exact E5 (d::l))
theorem OM (N:d4 L) (l:List Nat) (q:Bool) (hD:CP l) (hl:l.length<=1099511627776):bF L 65 [.sl q (l.map BZ)] (.sl q ((dg (val l)).map BZ)):=by
 refine Vq N.IM rfl rfl rfl rfl rfl ?_;(repeat' ((first|apply CB|apply BA)<;>conv=>whnf));refine DG (λ n=>n) (λ(n:Nat)=>n<=l.length /\ ∀ i,n<=i->i<l.length->l[i]? = some 0) (λ n=>[(3,.int .i64 n)]) (λ_=>[]) [] [] l.length (by (conv=>whnf);exact ⟨rfl,rfl,rfl⟩) ⟨Nat.le_refl _,λ i h1 h2=>by omega⟩ ?_;intro n ⟨p1,p2⟩ ih;rcases n with _|n
 ·(repeat' ((first|(apply BR<;>intro hc<;>try (exfalso;omega))|apply BA)<;>conv=>whnf))
  refine US (k:=0) (λ_=>rfl) (by omega) ?_;(conv=>whnf);refine ⟨_,rfl,?_⟩;rw[JE hD p1 p2 (Or.inl rfl)];rfl
 ·have e1:((n+1:Nat):Int)-1=n:=by omega
  (repeat' ((first|(apply BR<;>intro hc<;>try (exfalso;omega))|(apply D5;omega)|(refine V2 (by assumption) ?_ (λ e he hb => ?_);omega)|apply BA)<;>conv=>whnf))
  ·rw[e1]
   exact C7 [] (ih n (by omega) ⟨by omega,λ i h1 h2=>by
    by_cases h:i=n
    ·subst h
     rw[e1,Int.toNat_natCast]at he;rw[he];congr 1;omega
    ·exact p2 i (by omega) h2⟩)
  ·refine US (k:=n+1) (λ_=>rfl) (by omega) ?_
   (conv=>whnf)
   refine ⟨_,rfl,?_⟩;rw[e1,Int.toNat_natCast]at he;rw[JE hD p1 p2 (Or.inr ⟨e,he,by omega⟩)];rfl
theorem cK (N:d4 L) (l:List Nat) (q:Bool) (hD:CP l) (hl:l.length<=1099511627776):Ev L 66 [.sl q (l.map BZ)] (.sl false ((dg (val l)).map BZ)):=by
 have hc:=HL hD;refine Ev.x N.PY rfl rfl ?_;(repeat' ((first|apply BA|refine NU (OM N l _ hD hl) ?_|refine BH (xR N (dg (val l)) _ (by omega)) ?_)<;>conv=>whnf));exact CK rfl (by simp only[CT,true_and];exact E5 _)
theorem Wm {a b:Nat} (h:((dg a).length:Int)≠(dg b).length):FI (dg a).length (dg b).length=FI a b:=by
 rcases Nat.lt_trichotomy (dg a).length (dg b).length with h1|h1|h1
 ·have:=aS h1
  rw[<-LL (by omega),<-LL (by omega)]
 ·omega
 ·have:=aS h1
  rw[<-T5 (by omega),<-T5 (by omega)]
theorem U6 (N:d4 L) (a b:List Nat) (q1 q2:Bool) (hA:CP a) (hB:CP b) (la:a.length<=1099511627776) (lb:b.length<=1099511627776):Ev L 67 [.sl q1 (a.map BZ),.sl q2 (b.map BZ)] (.int .i64 (FI (val a) (val b))):=by
 have l1:=HL hA;have l2:=HL hB;have d1:=GR (val a);have d2:=GR (val b);refine Ev.x N.PU rfl rfl ?_;(repeat' ((first|(apply BR<;>intro hc<;>try (exfalso;omega))|(apply D5;omega)|apply CB|apply BA|refine NU (OM N a _ hA la) ?_|refine NU (OM N b _ hB lb) ?_|refine BH (Ahj N _ _) ?_)<;>conv=>whnf))
 ·exact FF (Wm (by omega))
 have hlen:(dg (val a)).length=(dg (val b)).length:=by omega
 have v1:=DP (val a);have v2:=DP (val b);generalize dg (val a)=X at *;generalize dg (val b)=Y at *;refine DG (λ n=>n) (λ(n:Nat)=>n<=X.length/\X.drop n=Y.drop n) (λ n=>[(7,.int .i64 ((n:Int)-1))]) (λ_=>[]) [] [] X.length (by (conv=>whnf);exact ⟨rfl,rfl,rfl⟩) ⟨Nat.le_refl _,by rw[List.drop_of_length_le (Nat.le_refl _),List.drop_of_length_le (by omega)]⟩ ?_;intro n ⟨p1,p2⟩ ih;rcases n with _|n
 ·(repeat' ((first|(apply BR<;>intro hc<;>try (exfalso;omega))|apply BA)<;>conv=>whnf))
  rw[List.drop_zero,List.drop_zero]at p2;exact FF (XM (by rw[<-v1,<-v2,p2]))
 ·have e1:((n+1:Nat):Int)-1=n:=by omega
  rw[e1];(repeat' ((first|(apply BR<;>intro hc<;>try (exfalso;omega))|(apply D5;omega)|(refine CY (by assumption) ?_ rfl ?_;omega)|(refine fH (by assumption) ?_ (λ e he hb => ?_);omega)|apply BA|refine BH (Ahk N _ _) ?_)<;>conv=>whnf))
  ·rename_i x hx _
   rcases Nat.lt_trichotomy x e with h|h|h
   ·have:=kI d1 d2 hlen hx he p2 h
    refine FF ?_;rw[<-LL (by omega),<-LL (by omega)]
   ·omega
   ·have:=kI d2 d1 hlen.symm he hx p2.symm h
    refine FF ?_;rw[<-T5 (by omega),<-T5 (by omega)]
  ·rename_i x hx _
   refine DE [] (by (conv=>whnf);exact ⟨rfl,rfl,rfl⟩) (ih n (by omega) ⟨by omega,?_⟩);obtain ⟨i1,e1⟩:=zS hx;obtain ⟨i2,e2⟩:=zS he;rw[List.drop_eq_getElem_cons i1,List.drop_eq_getElem_cons i2,p2,e1,e2];congr 1;omega
theorem kK {y:List Nat} {i:Nat} (h:y.length<=i):val (y.take (i+1))=val (y.take i):=by
 rw[FL h,FL (by omega)]
theorem AhT (N:d4 L) (a b:List Nat) (q1 q2:Bool) (hA:CP a) (hB:CP b) (la:a.length<=1099511627775) (lb:b.length<=1099511627775):Ev L 68 [.sl q1 (a.map BZ),.sl q2 (b.map BZ)] (.sl false ((dg (val a+val b)).map BZ)):=by
 have l1:=HL hA;have l2:=HL hB;have d1:=GR (val a);have d2:=GR (val b);have v1:=DP (val a);have v2:=DP (val b);refine Ev.x N.PS rfl rfl ?_;(repeat' ((first|(apply BR<;>intro hc<;>try (exfalso;omega))|(apply CJ;omega)|apply CB|apply BA|refine NU (OM N a _ hA (by omega)) ?_|refine NU (OM N b _ hB (by omega)) ?_)<;>conv=>whnf))
 ·generalize dg (val a)=y at *
  generalize dg (val b)=x at *;rw[<-v1,<-v2,Nat.add_comm (val y)];have hlen:y.length<=x.length:=by omega
  have hxl:x.length<=1099511627775:=by omega
  clear v1 v2 hA hB la lb;refine GU (enc:=BZ) 0 (x.length+1) rfl (by omega) (by omega) ?_;(conv=>whnf);(repeat' (apply CB<;>conv=>whnf));refine JL (λ i _ _=>x.length-i) (λ(i:Nat) (o:List Nat) (c:Nat)=>i<=x.length/\o.length=x.length+1/\CP o/\c<=1/\val (o.take i)+4294967296^i*c=val (x.take i)+val (y.take i)) (λ i o c=>[(8,.int .u64 (c:Int)),(29,.int .i64 i)]) (λ i o c=>[(26,26,.rw 1 (o.map BZ))]) [] [] 0 (List.replicate (x.length+1) 0) 0 (by (conv=>whnf);exact ⟨rfl,rfl,rfl⟩) ⟨by omega,by simp,MF _,by omega,by simp [val]⟩ ?_;intro i o c ⟨p1,p2,p3,p4,p5⟩ ih;by_cases hi:i<x.length
  ·(repeat' ((first|(apply BR<;>intro hc<;>try (exfalso;omega))|(apply CE;omega)|(apply I9;omega)|(apply EJ;omega)|apply IU|apply CB|(refine fH (by assumption) ?_ (λ e he hb => ?_);omega)|apply BA)<;>conv=>whnf))
   ·rename_i d hd _
    refine IA (by omega) ?_;(conv=>whnf);(repeat' ((first|(apply CJ;omega)|apply IE)<;>conv=>whnf));refine DE [] (by (conv=>whnf);exact ⟨rfl,rfl,rfl⟩) (ih (i+1) _ _ (by omega) ⟨by omega,by simpa using p2,p3.set _ (by omega),by omega,?_⟩);have h1:=GT hd;have h2:=GT he;have h3:=UX (val (o.take i)) (4294967296^i) (d+c+e);have h4:=I3 (v:=(d+c+e)%4294967296) (show i<o.length by omega);rw[h4,h1,h2,Nat.pow_succ];generalize 4294967296^i=p at *;rw[h3,Nat.mul_add,Nat.mul_add];omega
   ·refine IA (by omega) ?_
    (conv=>whnf)
    (repeat' ((first|(apply CJ;omega)|apply IE)<;>conv=>whnf))
    refine DE [] (by (conv=>whnf);exact ⟨rfl,rfl,rfl⟩) (ih (i+1) _ _ (by omega) ⟨by omega,by simpa using p2,p3.set _ (by omega),by omega,?_⟩);have h1:=GT he;have h2:=kK (y:=y) (i:=i) (by omega);have h3:=UX (val (o.take i)) (4294967296^i) (e+c);have h4:=I3 (v:=(e+c)%4294967296) (show i<o.length by omega);rw[h4,h1,h2,Nat.pow_succ];generalize 4294967296^i=p at *;rw[h3,Nat.mul_add];omega
  ·obtain rfl:i=x.length:=by omega
   clear ih;(repeat' ((first|(apply BR<;>intro hc<;>try (exfalso;omega))|(apply CE;omega)|(apply GZ;omega)|apply CB|apply BA)<;>conv=>whnf));refine IA (by omega) ?_;(conv=>whnf);skip;have hV:val (o.set x.length c)=val x+val y:=by
    have h4:=I3 (v:=c) (show x.length<o.length by omega);rw[List.take_of_length_le (by simp;omega)]at h4;rw[h4,p5,FL (Nat.le_refl _),FL hlen]
   have hD:CP (o.set x.length c):=p3.set _ (by omega);have hL:(o.set x.length c).length=x.length+1:=by simpa using p2
   clear p3 p4 p5 p2;generalize o.set x.length c=O at *;rw[<-hL];refine HI 1000 N.IM rfl rfl ?_;(repeat' (apply BA<;>conv=>whnf));refine DG (λ n=>n) (λ(n:Nat)=>n<=(O).length /\ ∀ i,n<=i->i<(O).length->(O)[i]? = some 0) (λ n=>[(3,.int .i64 n)]) (λ_=>[]) [] [] (O).length (by first|exact (by (conv=>whnf);exact ⟨rfl,rfl,rfl⟩)|(simp only[List.length_set,List.length_replicate];exact (by (conv=>whnf);exact ⟨rfl,rfl,rfl⟩))) ⟨Nat.le_refl _,λ i h1 h2=>by omega⟩ ?_;intro n ⟨p1,p2⟩ ih;rcases n with _|n
   ·(repeat' ((first|(apply BR<;>intro hc<;>try (exfalso;omega))|apply BA)<;>conv=>whnf))
    refine JM 0 (by omega) (by omega) ?_;(conv=>whnf);refine ⟨rfl,_,rfl,?_⟩;(conv=>whnf);have hm:=p1;have u5:=JE (l:=O) (by assumption) p1 p2 (Or.inl rfl);clear ih p1 p2;(refine J5 (enc:=BZ) (λ_=>rfl) (by omega) ?_;(conv=>whnf);exact CK (by rw[<-hV,<-u5];rfl) (by simp only[CT,true_and];exact E5 _))
   ·have e1:((n+1:Nat):Int)-1=n:=by omega
    (repeat' ((first|(apply BR<;>intro hc<;>try (exfalso;omega))|(apply CE;omega)|(apply D5;omega)|(refine W9 (by assumption) ?_ (λ v hv hb => ?_);omega)|apply BA)<;>conv=>whnf))
    ·rw[e1]
     exact C7 [] (ih n (by omega) ⟨by omega,λ i h1 h2=>by
      by_cases h:i=n
      ·subst h
       rw[e1,Int.toNat_natCast]at hv;rw[hv];congr 1;omega
      ·exact p2 i (by omega) h2⟩)
    ·refine JM (n+1) (by omega) (by omega) ?_
     (conv=>whnf)
     refine ⟨rfl,_,rfl,?_⟩;(conv=>whnf);rw[e1,Int.toNat_natCast]at hv;have hm:=p1;have u5:=JE (l:=O) (by assumption) p1 p2 (Or.inr ⟨_,hv,by omega⟩);clear ih p1 p2 hv;(refine J5 (enc:=BZ) (λ_=>rfl) (by omega) ?_;(conv=>whnf);exact CK (by rw[<-hV,<-u5];rfl) (by simp only[CT,true_and];exact E5 _))
 ·generalize dg (val a)=x at *
  generalize dg (val b)=y at *;rw[<-v1,<-v2];have hlen:y.length<=x.length:=by omega
  have hxl:x.length<=1099511627775:=by omega
  clear v1 v2 hA hB la lb;refine GU (enc:=BZ) 0 (x.length+1) rfl (by omega) (by omega) ?_;(conv=>whnf);(repeat' (apply CB<;>conv=>whnf));refine JL (λ i _ _=>x.length-i) (λ(i:Nat) (o:List Nat) (c:Nat)=>i<=x.length/\o.length=x.length+1/\CP o/\c<=1/\val (o.take i)+4294967296^i*c=val (x.take i)+val (y.take i)) (λ i o c=>[(8,.int .u64 (c:Int)),(29,.int .i64 i)]) (λ i o c=>[(26,26,.rw 1 (o.map BZ))]) [] [] 0 (List.replicate (x.length+1) 0) 0 (by (conv=>whnf);exact ⟨rfl,rfl,rfl⟩) ⟨by omega,by simp,MF _,by omega,by simp [val]⟩ ?_;intro i o c ⟨p1,p2,p3,p4,p5⟩ ih;by_cases hi:i<x.length
  ·(repeat' ((first|(apply BR<;>intro hc<;>try (exfalso;omega))|(apply CE;omega)|(apply I9;omega)|(apply EJ;omega)|apply IU|apply CB|(refine fH (by assumption) ?_ (λ e he hb => ?_);omega)|apply BA)<;>conv=>whnf))
   ·rename_i d hd _
    refine IA (by omega) ?_;(conv=>whnf);(repeat' ((first|(apply CJ;omega)|apply IE)<;>conv=>whnf));refine DE [] (by (conv=>whnf);exact ⟨rfl,rfl,rfl⟩) (ih (i+1) _ _ (by omega) ⟨by omega,by simpa using p2,p3.set _ (by omega),by omega,?_⟩);have h1:=GT hd;have h2:=GT he;have h3:=UX (val (o.take i)) (4294967296^i) (d+c+e);have h4:=I3 (v:=(d+c+e)%4294967296) (show i<o.length by omega);rw[h4,h1,h2,Nat.pow_succ];generalize 4294967296^i=p at *;rw[h3,Nat.mul_add,Nat.mul_add];omega
   ·refine IA (by omega) ?_
    (conv=>whnf)
    (repeat' ((first|(apply CJ;omega)|apply IE)<;>conv=>whnf))
    refine DE [] (by (conv=>whnf);exact ⟨rfl,rfl,rfl⟩) (ih (i+1) _ _ (by omega) ⟨by omega,by simpa using p2,p3.set _ (by omega),by omega,?_⟩);have h1:=GT he;have h2:=kK (y:=y) (i:=i) (by omega);have h3:=UX (val (o.take i)) (4294967296^i) (e+c);have h4:=I3 (v:=(e+c)%4294967296) (show i<o.length by omega);rw[h4,h1,h2,Nat.pow_succ];generalize 4294967296^i=p at *;rw[h3,Nat.mul_add];omega
  ·obtain rfl:i=x.length:=by omega
   clear ih;(repeat' ((first|(apply BR<;>intro hc<;>try (exfalso;omega))|(apply CE;omega)|(apply GZ;omega)|apply CB|apply BA)<;>conv=>whnf));refine IA (by omega) ?_;(conv=>whnf);skip;have hV:val (o.set x.length c)=val x+val y:=by
    have h4:=I3 (v:=c) (show x.length<o.length by omega);rw[List.take_of_length_le (by simp;omega)]at h4;rw[h4,p5,FL (Nat.le_refl _),FL hlen]
   have hD:CP (o.set x.length c):=p3.set _ (by omega);have hL:(o.set x.length c).length=x.length+1:=by simpa using p2
   clear p3 p4 p5 p2;generalize o.set x.length c=O at *;rw[<-hL];refine HI 1000 N.IM rfl rfl ?_;(repeat' (apply BA<;>conv=>whnf));refine DG (λ n=>n) (λ(n:Nat)=>n<=(O).length /\ ∀ i,n<=i->i<(O).length->(O)[i]? = some 0) (λ n=>[(3,.int .i64 n)]) (λ_=>[]) [] [] (O).length (by first|exact (by (conv=>whnf);exact ⟨rfl,rfl,rfl⟩)|(simp only[List.length_set,List.length_replicate];exact (by (conv=>whnf);exact ⟨rfl,rfl,rfl⟩))) ⟨Nat.le_refl _,λ i h1 h2=>by omega⟩ ?_;intro n ⟨p1,p2⟩ ih;rcases n with _|n
   ·(repeat' ((first|(apply BR<;>intro hc<;>try (exfalso;omega))|apply BA)<;>conv=>whnf))
    refine JM 0 (by omega) (by omega) ?_;(conv=>whnf);refine ⟨rfl,_,rfl,?_⟩;(conv=>whnf);have hm:=p1;have u5:=JE (l:=O) (by assumption) p1 p2 (Or.inl rfl);clear ih p1 p2;(refine J5 (enc:=BZ) (λ_=>rfl) (by omega) ?_;(conv=>whnf);exact CK (by rw[<-hV,<-u5];rfl) (by simp only[CT,true_and];exact E5 _))
   ·have e1:((n+1:Nat):Int)-1=n:=by omega
    (repeat' ((first|(apply BR<;>intro hc<;>try (exfalso;omega))|(apply CE;omega)|(apply D5;omega)|(refine W9 (by assumption) ?_ (λ v hv hb => ?_);omega)|apply BA)<;>conv=>whnf))
    ·rw[e1]
     exact C7 [] (ih n (by omega) ⟨by omega,λ i h1 h2=>by
      by_cases h:i=n
      ·subst h
       rw[e1,Int.toNat_natCast]at hv;rw[hv];congr 1;omega
      ·exact p2 i (by omega) h2⟩)
    ·refine JM (n+1) (by omega) (by omega) ?_
     (conv=>whnf)
     refine ⟨rfl,_,rfl,?_⟩;(conv=>whnf);rw[e1,Int.toNat_natCast]at hv;have hm:=p1;have u5:=JE (l:=O) (by assumption) p1 p2 (Or.inr ⟨_,hv,by omega⟩);clear ih p1 p2 hv;(refine J5 (enc:=BZ) (λ_=>rfl) (by omega) ?_;(conv=>whnf);exact CK (by rw[<-hV,<-u5];rfl) (by simp only[CT,true_and];exact E5 _))
theorem Wk {a b:Int} (h:FI a b<=0):a<=b:=by
 unfold FI at h;split at h
 ·omega
 ·split at h<;>omega
theorem Wl {a b:Int} (h:0<FI a b):b<a:=by
 unfold FI at h;split at h
 ·omega
 ·split at h<;>omega
theorem yE (N:d4 L) (a b:List Nat) (q1 q2:Bool) (hA:CP a) (hB:CP b) (la:a.length<=1099511627776) (lb:b.length<=1099511627776):Ev L 69 [.sl q1 (a.map BZ),.sl q2 (b.map BZ)] (.sl false ((dg (val a-val b)).map BZ)):=by
 have l1:=HL hA;have l2:=HL hB;have d1:=GR (val a);have d2:=GR (val b);have v1:=DP (val a);have v2:=DP (val b);refine Ev.x N.PX rfl rfl ?_;(repeat' ((first|(apply BR<;>intro hc<;>try (exfalso;omega))|apply CB|apply BA|refine BH (U6 N a b _ _ hA hB la lb) ?_|refine NU (OM N a _ hA la) ?_|refine NU (OM N b _ hB lb) ?_)<;>conv=>whnf))
 ·have:=Wk hc
  refine CK ?_ (by simp only[CT,true_and];exact E5 _);rw[show val a-val b=0 by omega,HS];rfl
 ·have e9:=Wl hc
  have nf:(dg (val b)).length<=(dg (val a)).length:=by
   rcases Nat.lt_or_ge (dg (val a)).length (dg (val b)).length with h|h
   ·have:=aS h;omega
   ·exact h
  have kz:val b<val a:=by omega
  clear e9 hc;generalize dg (val a)=x at *;generalize dg (val b)=y at *;rw[<-v1,<-v2]at kz ⊢;clear v1 v2 hA hB lb;refine GU (enc:=BZ) 0 x.length rfl rfl (by omega) ?_;(conv=>whnf);(repeat' (apply CB<;>conv=>whnf));refine JL (λ i _ _=>x.length-i) (λ(i:Nat) (o:List Nat) (c:Nat)=>i<=x.length/\o.length=x.length/\CP o/\c<=1/\val (o.take i)+val (y.take i)=val (x.take i)+4294967296^i*c) (λ i o c=>[(8,.int .u64 (c:Int)),(25,.int .i64 i)]) (λ i o c=>[(22,22,.rw 1 (o.map BZ))]) [] [] 0 (List.replicate x.length 0) 0 (by (conv=>whnf);exact ⟨rfl,rfl,rfl⟩) ⟨by omega,by simp,MF _,by omega,by simp [val]⟩ ?_;intro i o c ⟨p1,p2,p3,p4,p5⟩ ih;by_cases hi:i<x.length
  ·(repeat' ((first|(apply BR<;>intro hc<;>try (exfalso;omega))|(apply CE;omega)|(apply fE;omega)|(apply EJ;omega)|apply IU|apply CB|(refine fH (by assumption) ?_ (λ e he hb => ?_);omega)|apply BA)<;>conv=>whnf))
   ·rename_i d hd hdb
    obtain ⟨s1,s2⟩:=Alw hdb hb p4;refine IA (by omega) ?_;(conv=>whnf);(repeat' ((first|(apply CJ;omega)|apply fD)<;>conv=>whnf));generalize HC (HC d c) e=t at *;refine DE [] (by (conv=>whnf);exact ⟨rfl,rfl,rfl⟩) (ih (i+1) _ _ (by omega) ⟨by omega,by simpa using p2,p3.set _ (by omega),s2,?_⟩);rw[I3 (by omega),GT hd,GT he,Nat.pow_succ];exact Nb p5 s1
   ·obtain ⟨s1,s2⟩:=Alv hb p4
    refine IA (by omega) ?_;(conv=>whnf);(repeat' ((first|(apply CJ;omega)|apply fD)<;>conv=>whnf));generalize HC e c=t at *;refine DE [] (by (conv=>whnf);exact ⟨rfl,rfl,rfl⟩) (ih (i+1) _ _ (by omega) ⟨by omega,by simpa using p2,p3.set _ (by omega),s2,?_⟩);rw[I3 (by omega),GT he,kK (by omega),Nat.pow_succ];rw[<-Nat.add_zero (t%4294967296)]at s1;have:=Nb (e:=0) p5 s1;rw[Nat.mul_zero,Nat.add_zero]at this;exact this
  ·obtain rfl:i=x.length:=by omega
   clear ih;have hc0:c=0:=by
    rw[FL (by omega),FL nf,FL (Nat.le_refl _)]at p5;have:=HT p3;rw[p2]at this;rcases Nat.eq_zero_or_pos c with h|h
    ·exact h
    ·have:c=1:=by omega
     subst this;omega
   subst hc0;have hV:val o=val x-val y:=by
    rw[FL (by omega),FL nf,FL (Nat.le_refl _)]at p5;omega
   clear p5 p4;rw[<-p2];(repeat' ((first|(apply BR<;>intro hc<;>try (exfalso;omega))|apply BA)<;>conv=>whnf));refine HI 1000 N.IM rfl rfl ?_;(repeat' (apply BA<;>conv=>whnf));refine DG (λ n=>n) (λ(n:Nat)=>n<=(o).length /\ ∀ i,n<=i->i<(o).length->(o)[i]? = some 0) (λ n=>[(3,.int .i64 n)]) (λ_=>[]) [] [] (o).length (by first|exact (by (conv=>whnf);exact ⟨rfl,rfl,rfl⟩)|(simp only[List.length_set,List.length_replicate];exact (by (conv=>whnf);exact ⟨rfl,rfl,rfl⟩))) ⟨Nat.le_refl _,λ i h1 h2=>by omega⟩ ?_;intro n ⟨p1,p2⟩ ih;rcases n with _|n
   ·(repeat' ((first|(apply BR<;>intro hc<;>try (exfalso;omega))|apply BA)<;>conv=>whnf))
    refine JM 0 (by omega) (by omega) ?_;(conv=>whnf);refine ⟨rfl,_,rfl,?_⟩;(conv=>whnf);have hm:=p1;have u5:=JE (l:=o) (by assumption) p1 p2 (Or.inl rfl);clear ih p1 p2;(refine J5 (enc:=BZ) (λ_=>rfl) (by omega) ?_;(conv=>whnf);exact CK (by rw[<-hV,<-u5];rfl) (by simp only[CT,true_and];exact E5 _))
   ·have e1:((n+1:Nat):Int)-1=n:=by omega
    (repeat' ((first|(apply BR<;>intro hc<;>try (exfalso;omega))|(apply CE;omega)|(apply D5;omega)|(refine W9 (by assumption) ?_ (λ v hv hb => ?_);omega)|apply BA)<;>conv=>whnf))
    ·rw[e1]
     exact C7 [] (ih n (by omega) ⟨by omega,λ i h1 h2=>by
      by_cases h:i=n
      ·subst h
       rw[e1,Int.toNat_natCast]at hv;rw[hv];congr 1;omega
      ·exact p2 i (by omega) h2⟩)
    ·refine JM (n+1) (by omega) (by omega) ?_
     (conv=>whnf)
     refine ⟨rfl,_,rfl,?_⟩;(conv=>whnf);rw[e1,Int.toNat_natCast]at hv;have hm:=p1;have u5:=JE (l:=o) (by assumption) p1 p2 (Or.inr ⟨_,hv,by omega⟩);clear ih p1 p2 hv;(refine J5 (enc:=BZ) (λ_=>rfl) (by omega) ?_;(conv=>whnf);exact CK (by rw[<-hV,<-u5];rfl) (by simp only[CT,true_and];exact E5 _))
theorem nE (N:d4 L) (a b:List Nat) (q1 q2:Bool) (hA:CP a) (hB:CP b) (Qy:a.length+b.length<=1099511627776):Ev L 70 [.sl q1 (a.map BZ),.sl q2 (b.map BZ)] (.sl false ((dg (val a*val b)).map BZ)):=by
 have l1:=HL hA;have l2:=HL hB;have d1:=GR (val a);have d2:=GR (val b);have v1:=DP (val a);have v2:=DP (val b);refine Ev.x N.PW rfl rfl ?_;have hz : ∀ p:Prop,((dg (val a)).length:Int)=0\/((dg (val b)).length:Int)=0->BW (.sl false []) (.sl false ((dg (val a*val b)).map BZ)):=λ_ h=>by
  have:val a*val b=0:=by
   rcases h with h|h
   ·have:dg (val a)=[]:=List.eq_nil_of_length_eq_zero (by omega)
    rw[mE.1 this,Nat.zero_mul]
   ·have:dg (val b)=[]:=List.eq_nil_of_length_eq_zero (by omega)
    rw[mE.1 this,Nat.mul_zero]
  exact CK (by rw[this,HS];rfl) (by simp only[CT,true_and];exact E5 _)
 (repeat' ((first|(apply BR<;>intro hc<;>try (exfalso;omega))|(apply CJ;omega)|apply CB|apply BA|refine NU (OM N a _ hA (by omega)) ?_|refine NU (OM N b _ hB (by omega)) ?_)<;>conv=>whnf))
 ·exact hz True (Or.inl hc)
 ·exact hz True (Or.inr hc)
 ·clear hz
  generalize dg (val a)=x at *;generalize dg (val b)=y at *;rw[<-v1,<-v2];have fw:x.length+y.length<=1099511627776:=by omega
  clear v1 v2 hA hB Qy l1 l2;refine GU (enc:=BZ) 0 (x.length+y.length) rfl (by omega) (by omega) ?_;(conv=>whnf);(repeat' (apply CB<;>conv=>whnf));refine I4 (λ i _=>x.length-i) (λ(i:Nat) (o:List Nat)=>i<=x.length/\o.length=x.length+y.length/\CP o/\val o=val (x.take i)*val y /\ ∀ k,i+y.length<=k->k<o.length->o[k]? = some 0) (λ i o=>[(34,.int .i64 i)]) (λ i o=>[(31,31,.rw 1 (o.map BZ))]) [] [] 0 (List.replicate (x.length+y.length) 0) (by (conv=>whnf);exact ⟨rfl,rfl,rfl⟩) ⟨by omega,by simp,MF _,by simp [val,kM],λ k h1 h2=>by simp at h2;simp [h2]⟩ ?_;intro i O ⟨p1,p2,p3,p4,p5⟩ ih;by_cases hi:i<x.length
  ·obtain ⟨d,hd⟩ : ∃ d,x[i]? = some d:=⟨_,zE hi⟩
   have hdb:=d1.at hd;(repeat' ((first|(apply BR<;>intro hc<;>try (exfalso;omega))|(apply CJ;omega)|apply CB|(refine CY (by assumption) ?_ rfl ?_;omega)|apply BA)<;>conv=>whnf))
   ·refine DE [] (by (conv=>whnf);exact ⟨rfl,rfl,rfl⟩) (ih (i+1) O (by omega) ⟨by omega,p2,p3,?_,λ k h1 h2=>p5 k (by omega) h2⟩)
    rw[GT hd,p4,show d=0 by omega,Nat.mul_zero,Nat.add_zero]
   ·refine JL (λ j _ _=>y.length-j) (λ(j:Nat) (o:List Nat) (c:Nat)=>j<=y.length/\o.length=x.length+y.length/\CP o/\c<4294967296/\val o+4294967296^(i+j)*c=val O+4294967296^i*(d*val (y.take j)) /\ ∀ k,i+j<=k->o[k]? = O[k]?) (λ j o c=>[(10,.int .u64 (c:Int)),(43,.int .i64 j)]) (λ j o c=>[(31,31,.rw 1 (o.map BZ))]) [] [] 0 O 0 (by (conv=>whnf);exact ⟨rfl,rfl,rfl⟩) ⟨by omega,p2,p3,by omega,by simp [val],λ_ _=>rfl⟩ ?_
    intro j o c ⟨r1,r2,r3,r4,r5,r6⟩ jh;have e1:((i:Int)+j).toNat=i+j:=by omega
    by_cases hj:j<y.length
    ·obtain ⟨w,hw⟩ : ∃ w,y[j]? = some w:=⟨_,zE hj⟩
     have hwb:=d2.at hw;have hm:=Z9 hdb hwb;(repeat' ((first|(apply BR<;>intro hc<;>try (exfalso;omega))|(apply CE;omega)|(apply CJ;omega)|(apply I9;omega)|(apply UN;omega)|(apply EJ;omega)|apply IU|(refine CY (by assumption) ?_ rfl ?_;omega)|(refine sX (by assumption) ?_ (λ v hv hb => ?_);omega)|apply BA)<;>conv=>whnf));refine fK (i+j) (by omega) (by omega) ?_;(conv=>whnf);(repeat' ((first|(apply CJ;omega)|apply IE)<;>conv=>whnf));refine DE [] (by (conv=>whnf);exact ⟨rfl,rfl,rfl⟩) (jh (j+1) _ _ (by omega) ⟨by omega,by simpa using r2,r3.set _ (by omega),by omega,?_,?_⟩)
     ·have h1:=kJ (v:=(d*w+v+c)%4294967296) hv
      have h2:=UX 0 (4294967296^(i+j)) (d*w+v+c);rw[GT hw,show i+(j+1)=i+j+1 by omega,Nat.pow_succ (4294967296) (i+j)];have h3:4294967296^i*(d*(val (y.take j)+4294967296^j*w))=4294967296^i*(d*val (y.take j))+4294967296^(i+j)*(d*w):=by rw[Nat.pow_add];grind
      rw[h3];generalize 4294967296^(i+j)=P at *;rw[Nat.mul_add P,Nat.mul_add P]at h2;omega
     ·intro k hk
      rw[List.getElem?_set_ne (by omega)];exact r6 k (by omega)
    ·obtain rfl:j=y.length:=by omega
     clear jh;(repeat' ((first|(apply BR<;>intro hc<;>try (exfalso;omega))|(apply CE;omega)|(apply CJ;omega)|(apply GZ;omega)|apply CB|apply BA)<;>conv=>whnf));have hz:=r6 (i+y.length) (by omega);rw[p5 (i+y.length) (by omega) (by omega)]at hz;refine fK (i+y.length) (by omega) (by omega) ?_;(conv=>whnf);(repeat' ((first|(apply CJ;omega)|fail)<;>conv=>whnf));refine DE [] (by (conv=>whnf);exact ⟨rfl,rfl,rfl⟩) (ih (i+1) _ (by omega) ⟨by omega,by simpa using r2,r3.set _ (by omega),?_,?_⟩)
     ·have h1:=kJ (v:=c) hz
      rw[Nat.mul_zero,Nat.add_zero]at h1;rw[h1,r5,p4,FL (Nat.le_refl _),GT hd,Nat.add_mul,Nat.mul_assoc]
     ·intro k h1 h2
      rw[List.length_set]at h2;rw[List.getElem?_set_ne (by omega),r6 k (by omega)];exact p5 k (by omega) (by omega)
  ·obtain rfl:i=x.length:=by omega
   clear ih;rw[FL (Nat.le_refl _)]at p4;rw[<-p4,<-p2];(repeat' ((first|(apply BR<;>intro hc<;>try (exfalso;omega))|apply BA)<;>conv=>whnf));clear p5;refine HI 1000 N.IM rfl rfl ?_;(repeat' (apply BA<;>conv=>whnf));refine DG (λ n=>n) (λ(n:Nat)=>n<=(O).length /\ ∀ i,n<=i->i<(O).length->(O)[i]? = some 0) (λ n=>[(3,.int .i64 n)]) (λ_=>[]) [] [] (O).length (by first|exact (by (conv=>whnf);exact ⟨rfl,rfl,rfl⟩)|(simp only[List.length_set,List.length_replicate];exact (by (conv=>whnf);exact ⟨rfl,rfl,rfl⟩))) ⟨Nat.le_refl _,λ i h1 h2=>by omega⟩ ?_;intro n ⟨p1,p2⟩ ih;rcases n with _|n
   ·(repeat' ((first|(apply BR<;>intro hc<;>try (exfalso;omega))|apply BA)<;>conv=>whnf))
    refine JM 0 (by omega) (by omega) ?_;(conv=>whnf);refine ⟨rfl,_,rfl,?_⟩;(conv=>whnf);have hm:=p1;have u5:=JE (l:=O) (by assumption) p1 p2 (Or.inl rfl);clear ih p1 p2;(refine J5 (enc:=BZ) (λ_=>rfl) (by omega) ?_;(conv=>whnf);exact CK (by rw[<-u5];rfl) (by simp only[CT,true_and];exact E5 _))
   ·have e1:((n+1:Nat):Int)-1=n:=by omega
    (repeat' ((first|(apply BR<;>intro hc<;>try (exfalso;omega))|(apply CE;omega)|(apply D5;omega)|(refine W9 (by assumption) ?_ (λ v hv hb => ?_);omega)|apply BA)<;>conv=>whnf))
    ·rw[e1]
     exact C7 [] (ih n (by omega) ⟨by omega,λ i h1 h2=>by
      by_cases h:i=n
      ·subst h
       rw[e1,Int.toNat_natCast]at hv;rw[hv];congr 1;omega
      ·exact p2 i (by omega) h2⟩)
    ·refine JM (n+1) (by omega) (by omega) ?_
     (conv=>whnf)
     refine ⟨rfl,_,rfl,?_⟩;(conv=>whnf);rw[e1,Int.toNat_natCast]at hv;have hm:=p1;have u5:=JE (l:=O) (by assumption) p1 p2 (Or.inr ⟨_,hv,by omega⟩);clear ih p1 p2 hv;(refine J5 (enc:=BZ) (λ_=>rfl) (by omega) ?_;(conv=>whnf);exact CK (by rw[<-u5];rfl) (by simp only[CT,true_and];exact E5 _))
end Go.Eng

namespace Go.Eng
open F
section
variable {K:AV->Prop} {a b s:Nat} {k':IntKind}
theorem tD (hs:s<=32) (hk:K (.int .u32 ((VQ a s:Nat):Int))):BD .shl .u32 (a:Int) k' (s:Int) K:=by
 refine kV (show s<=IntKind.u32.bits from hs) ?_;rw[wrap_u32,<-qM];exact hk
theorem UR (hs:s<=64) (h:a*2^s<=18446744073709551615) (hk:K (.int .u64 ((a*2^s:Nat):Int))):BD .shl .u64 (a:Int) k' (s:Int) K:=by
 refine kV (show s<=IntKind.u64.bits from hs) ?_;rw[IntWalk.u64_in _ (by omega)];exact hk
theorem kW (n:Nat) (hx:a%2^n=0) (hy:b<2^n) (h:a+b<=4294967295) (hk:K (.int .u32 ((a+b:Nat):Int))):BD .or .u32 (a:Int) .u32 (b:Int) K :=
 kU n hx hy (show a+b<4294967296 by omega) (IntWalk.u32_in _ (by omega)) hk
theorem Vf (n:Nat) (hx:b%2^n=0) (hy:a<2^n) (h:a+b<=4294967295) (hk:K (.int .u32 ((a+b:Nat):Int))):BD .or .u32 (a:Int) .u32 (b:Int) K:=by
 have e:F4 .or .u32 (a:Int) .u32 (b:Int)=F4 .or .u32 (b:Int) .u32 (a:Int):=by
  simp only[F4,if_true,BitVec.or_comm]
 rw[Nat.add_comm]at hk h;obtain ⟨v,h1,h2⟩:=kW (K:=K) n hx hy h hk;exact ⟨v,by rw[e];exact h1,h2⟩
theorem Vj (hs:s<=32) (hk:K (.int .u32 ((a/2^s:Nat):Int))):BD .shr .u32 (a:Int) k' (s:Int) K:=UQ (show s<=IntKind.u32.bits from hs) hk
theorem Al8 {K:Int->Prop} (hk:K ((VP a s:Nat):Int)) (h:VP a s<=4294967295):CF .u32 ((a*2^s/4294967296:Nat):Int) K:=by
 rw[<-WT];exact GZ h hk
end
attribute [local irreducible] AH BJ B1 BD EZ CF CG CR CU DW B5 DT EG F7 DM CQ DR EE AR CW BW pw DC C9 EI ET E1 E7 EW D4 E8
set_option maxHeartbeats 1000000
variable {L:Lib}
def kT (a:List Nat) (s:Nat) (o:List Nat):Prop:=CP o/\(a.length<=o.length/\o.length<=a.length+1)/\(val a*2^s<4294967296^o.length->val o=val a*2^s)
theorem Aj0 {a o:List Nat} {s lo:Nat} (hD:CP o) (hl:o.length=a.length) (h:val (o.take a.length)+4294967296^a.length*lo=val (a.take a.length)*2^s):kT a s o:=by
 refine ⟨hD,by omega,λ e9 => ?_⟩;rw[FL (by omega),FL (Nat.le_refl _)]at h;rw[hl]at e9;have:lo=0:=by
  rcases Nat.eq_zero_or_pos lo with h0|h0
  ·exact h0
  ·have:4294967296^a.length*1<=4294967296^a.length*lo:=Nat.mul_le_mul_left _ h0
   omega
 subst this;omega
theorem Iq {a o:List Nat} {s lo:Nat} (hD:CP o) (gm:lo<4294967296) (hl:o.length=a.length+1) (h:val (o.take a.length)+4294967296^a.length*lo=val (a.take a.length)*2^s):kT a s (o.set a.length lo):=by
 refine ⟨hD.set _ gm,by simp;omega,λ_ => ?_⟩;have h1:=I3 (v:=lo) (show a.length<o.length by omega);rw[FL (by simp;omega),h,FL (Nat.le_refl _)]at h1;exact h1
theorem AhX (N:d4 L) (a:List Nat) (q:Bool) (s n:Nat) (hA:CP a) (hs:s<=31) (hn:a.length<=n/\n<=a.length+1) (la:a.length<=1099511627776) : ∃ r,Ev L 71 [.sl q (a.map BZ),.int .u64 (s:Int),.int .i64 (n:Int)] r /\ ∃ o,kT a s o/\o.length=n/\r = .sl false (o.map BZ):=by
 refine Ev.xE N.M8 rfl rfl ?_;(repeat' (apply BA<;>conv=>whnf));refine GU (enc:=BZ) 0 n rfl rfl (by omega) ?_;(conv=>whnf);(repeat' (apply CB<;>conv=>whnf));refine JL (λ i _ _=>a.length-i) (λ(i:Nat) (o:List Nat) (lo:Nat)=>i<=a.length/\o.length=n/\CP o/\lo<2^s/\val (o.take i)+4294967296^i*lo=val (a.take i)*2^s) (λ i o lo=>[(8,.int .u32 (lo:Int)),(15,.int .i64 i)]) (λ i o lo=>[(71012,71012,.rw 1 (o.map BZ))]) [] [] 0 (List.replicate n 0) 0 (by (conv=>whnf);exact ⟨rfl,rfl,rfl⟩) ⟨by omega,by simp,MF _,Nat.two_pow_pos s,by simp [val]⟩ ?_;intro i o lo ⟨p1,p2,p3,p4,p5⟩ ih;have jy:=dN (s:=s) (by omega);by_cases hi:i<a.length
 ·obtain ⟨d,hd⟩ : ∃ d,a[i]? = some d:=⟨_,zE hi⟩
  have hdb:=hA.at hd;obtain ⟨f1,f2,f3,f4⟩:=YS (s:=s) hdb (by omega);(repeat' ((first|(apply BR<;>intro hc<;>try (exfalso;omega))|(refine CY (by assumption) ?_ rfl ?_;omega)|apply BA)<;>conv=>whnf));refine tD (by omega) ?_;(conv=>whnf);skip;refine kW s f1 p4 (by omega) ?_;(conv=>whnf);(repeat' ((first|(apply CE;omega)|fail)<;>conv=>whnf));refine IA (by omega) ?_;(conv=>whnf);(repeat' ((first|(apply EJ;omega)|fail)<;>conv=>whnf));refine UR (by omega) f4 ?_;(conv=>whnf);(repeat' ((first|(apply CJ;omega)|apply IE|(apply GZ;omega))<;>conv=>whnf));rw[<-WT];refine DE [] (by (conv=>whnf);exact ⟨rfl,rfl,rfl⟩) (ih (i+1) _ _ (by omega) ⟨by omega,by simpa using p2,p3.set _ (by omega),f2,?_⟩);rw[I3 (by omega),GT hd,Nat.pow_succ];exact Ir p5
 ·obtain rfl:i=a.length:=by omega
  clear ih;(repeat' ((first|(apply BR<;>intro hc<;>try (exfalso;omega))|(apply CE;omega)|apply CB|apply BA)<;>conv=>whnf))
  ·refine IA (by omega) ?_
   (conv=>whnf)
   skip
   refine ⟨_,?_,_,Iq p3 (by omega) (by omega) p5,by simpa using p2,rfl⟩;(conv=>whnf);refine GK (enc:=BZ) (λ_=>rfl) rfl (by simp [p2]) ?_;(conv=>whnf);exact CK rfl (by simp only[CT,true_and];exact E5 _)
  ·refine ⟨_,?_,_,Aj0 p3 (by omega) p5,p2,rfl⟩
   (conv=>whnf)
   refine GK (enc:=BZ) (λ_=>rfl) rfl (by simp [p2]) ?_;(conv=>whnf);exact CK rfl (by simp only[CT,true_and];exact E5 _)
theorem AhY (N:d4 L) (a:List Nat) (q:Bool) (s:Nat) (hA:CP a) (hs:s<=31) (la:a.length<=1099511627776) : ∃ r,Ev L 72 [.sl q (a.map BZ),.int .u64 (s:Int)] r /\ ∃ o,CP o/\o.length=a.length/\val o=val a/2^s/\r = .sl false (o.map BZ):=by
 refine Ev.xE N.P4 rfl rfl ?_;(repeat' ((first|apply CB|apply BA)<;>conv=>whnf));refine GU (enc:=BZ) 0 a.length rfl rfl (by omega) ?_;(conv=>whnf);(repeat' ((first|(apply D5;omega)|apply CB)<;>conv=>whnf));refine JL (λ n _ _=>n) (λ(n:Nat) (o:List Nat) (hi:Nat)=>n<=a.length/\o.length=a.length/\CP o/\hi=val (a.drop n)%2^s*2^(32-s)/\val (o.drop n)=val (a.drop n)/2^s) (λ n o hi=>[(6,.int .u32 (hi:Int)),(7,.int .i64 ((n:Int)-1))]) (λ n o hi=>[(10,10,.rw 1 (o.map BZ))]) [] [] a.length (List.replicate a.length 0) 0 (by (conv=>whnf);exact ⟨rfl,rfl,rfl⟩) ⟨by omega,by simp,MF _,by rw[List.drop_of_length_le (Nat.le_refl _)];simp [val],by rw[List.drop_of_length_le (Nat.le_refl _),List.drop_of_length_le (by simp)];simp [val]⟩ ?_;intro n o hi ⟨p1,p2,p3,p4,p5⟩ ih;rcases n with _|n
 ·(repeat' ((first|(apply BR<;>intro hc<;>try (exfalso;omega))|apply BA)<;>conv=>whnf))
  rw[List.drop_zero,List.drop_zero]at p5;refine ⟨_,?_,_,p3,p2,p5,rfl⟩;(conv=>whnf);refine GK (enc:=BZ) (λ_=>rfl) rfl p2.symm ?_;(conv=>whnf);exact CK rfl (by simp only[CT,true_and];exact E5 _)
 ·have e1:((n+1:Nat):Int)-1=n:=by omega
  rw[e1];obtain ⟨d,hd⟩ : ∃ d,a[n]? = some d:=⟨_,zE (by omega)⟩;have hdb:=hA.at hd;obtain ⟨f1,f2,f3⟩:=Iv (V:=val (a.drop (n+1))) hdb (show s<=32 by omega);obtain ⟨g1,g2,g3,g4⟩:=YS hdb (show 32-s<=32 by omega);rw[<-p4]at f2 f3;(repeat' ((first|(apply BR<;>intro hc<;>try (exfalso;omega))|(refine CY (by assumption) ?_ rfl ?_;omega)|apply BA)<;>conv=>whnf));refine Vj (by omega) ?_;(conv=>whnf);skip;refine Vf (32-s) f2 f1 (by omega) ?_;(conv=>whnf);(repeat' ((first|(apply CE;omega)|fail)<;>conv=>whnf));refine IA (by omega) ?_;(conv=>whnf);(repeat' ((first|(apply fE;omega)|(apply EJ;omega)|(refine CY (by assumption) ?_ rfl ?_;omega))<;>conv=>whnf));rw[show HC 32 s=32-s by rw[Y4];omega];refine UR (by omega) g4 ?_;(conv=>whnf);(repeat' ((first|(apply D5;omega)|apply IU)<;>conv=>whnf));rw[Aj4 (by omega)];refine DE [] (by (conv=>whnf);exact ⟨rfl,rfl,rfl⟩) (ih n _ _ (by omega) ⟨by omega,by simpa using p2,p3.set _ (by omega),?_,?_⟩)
  ·rw[KI hd,Iw (by omega)]
  ·rw[KI (l:=o.set n (d/2^s+hi)) (d:=d/2^s+hi) (by rw[List.getElem?_set_self (by omega)]),List.drop_set_of_lt (by omega),p5,KI hd,oP (by omega),<-p4]
theorem iM : ∀ n<256,(List.replicate 1 0++List.replicate 1 1++List.replicate 2 2++List.replicate 4 3++List.replicate 8 4++List.replicate 16 5++List.replicate 32 6++List.replicate 64 7++List.replicate 128 8)[n]? = some (l7 n):=by decide +kernel
theorem Ahs (N:d4 L) (x:Nat) (hx:x<4294967296):Ev L 63 [.int .u32 (x:Int)] (.int .i64 (l7 x:Int)):=by
 have hbl : ∀ y<256,l7 y<=8:=λ y h=>fU (k:=8) h
 refine Ev.x N.PO rfl rfl ?_;(repeat' ((first|(apply BR<;>intro hc<;>try (exfalso;omega))|(apply CJ;omega)|apply Vc|apply Ve|(apply Sb;omega)|apply BA)<;>conv=>whnf))
 ·have Fq:=hbl (x/65536/256) (by omega)
  refine fO (iM _ (by omega)) ?_;(conv=>whnf);(repeat' ((first|(apply CJ;omega)|(apply W5;omega))<;>conv=>whnf));have h1:l7 (x/65536)+16=l7 x:=bN 16 (x:=x) (by omega);have h2:l7 (x/65536/256)+8=l7 (x/65536):=bN 8 (x:=x/65536) (by omega);refine FF ?_;rw[<-h1,<-h2];omega
 ·have Fq:=hbl (x/65536) (by omega)
  refine fO (iM _ (by omega)) ?_;(conv=>whnf);(repeat' ((first|(apply CJ;omega)|(apply W5;omega))<;>conv=>whnf));have h1:l7 (x/65536)+16=l7 x:=bN 16 (x:=x) (by omega);refine FF ?_;rw[<-h1];omega
 ·have Fq:=hbl (x/256) (by omega)
  refine fO (iM _ (by omega)) ?_;(conv=>whnf);(repeat' ((first|(apply CJ;omega)|(apply W5;omega))<;>conv=>whnf));have h2:l7 (x/256)+8=l7 x:=bN 8 (x:=x) (by omega);refine FF ?_;rw[<-h2];omega
 ·have Fq:=hbl (x) (by omega)
  refine fO (iM _ (by omega)) ?_;(conv=>whnf);(repeat' ((first|(apply CJ;omega)|(apply W5;omega))<;>conv=>whnf));refine FF ?_;omega
theorem xS (N:d4 L) (x:Nat) (hx:x<4294967296):Ev L 64 [.int .u32 (x:Int)] (.int .i64 ((32-l7 x:Nat):Int)):=by
 have h:=fU (k:=32) hx;refine Ev.x N.PN rfl rfl ?_;(repeat' ((first|(apply D5;omega)|apply BA|refine BH (Ahs N x hx) ?_)<;>conv=>whnf));refine FF ?_;omega
end Go.Eng

namespace Go.Eng
open F
attribute [local irreducible] AH BJ B1 BD EZ CF CG CR CU DW B5 DT EG F7 DM CQ DR EE AR CW BW pw DC C9 EI ET E1 E7 EW D4 E8
variable {L:Lib}
set_option maxHeartbeats 4000000
theorem M3 (l:List Nat):CT (.sl false (l.map BZ)):=by
 simp only[CT,true_and];exact E5 l
theorem tT {M:Mem} {v:AV} {ky t z off len s:Nat} {l:List Nat} (hv:v = .row ky t z off len) (h:b9 M ky=some (s,.rw 1 (l.map BZ))):XG M v=none:=by
 subst hv;unfold XG;split
 ·rename_i e
  simp only[AV.row.injEq]at e;obtain ⟨rfl,_⟩:=e;rw[h];cases l with
  | nil=>rfl
  | cons a l=>cases l<;>rfl
 ·rfl
theorem JG (N:c6 L) (l:List Nat) (q:Bool) (hD:CP l) (hl:l.length<=1099511627776):Ev L 101 [.sl q (l.map BZ)] (.sl false ((dg (val l)).map BZ)):=by
 refine Ev.x N.KZ rfl rfl ?_;(repeat' ((first|apply CB|apply BA)<;>conv=>whnf));refine DG (λ n=>n) (λ(n:Nat)=>n<=l.length /\ ∀ i,n<=i->i<l.length->l[i]? = some 0) (λ n=>[(3,.int .i64 n)]) (λ_=>[]) [] [] l.length (by (conv=>whnf);exact ⟨rfl,rfl,rfl⟩) ⟨Nat.le_refl _,λ i h1 h2=>by omega⟩ ?_;intro n ⟨p1,p2⟩ ih;rcases n with _|n
 ·have hv:=JE hD p1 p2 (Or.inl rfl)
  rw[<-hv];clear ih;(repeat' ((first|(apply BR<;>intro hc<;>try (exfalso;omega))|apply BA)<;>conv=>whnf));refine US (k:=0) (λ_=>rfl) (by omega) ?_;(conv=>whnf);refine VW (enc:=BZ) (λ_=>rfl) (by rw[List.length_take];omega) (by rw[List.length_take];omega) ?_;(conv=>whnf);(repeat' ((refine GK (λ_=>rfl) rfl ?_ ?_;(first|rfl|simp))<;>conv=>whnf));exact CK rfl (M3 _)
 ·have e1:((n+1:Nat):Int)-1=n:=by omega
  (repeat' ((first|(apply BR<;>intro hc<;>try (exfalso;omega))|(apply D5;omega)|(refine V2 (by assumption) ?_ (λ e he hb => ?_);omega)|apply BA)<;>conv=>whnf))
  ·rw[e1]
   exact C7 [] (ih n (by omega) ⟨by omega,λ i h1 h2=>by
    by_cases h:i=n
    ·subst h
     rw[e1,Int.toNat_natCast]at he;rw[he];congr 1;omega
    ·exact p2 i (by omega) h2⟩)
  ·rw[e1,Int.toNat_natCast]at he
   have hv:=JE hD p1 p2 (Or.inr ⟨e,he,by omega⟩);rw[<-hv];clear ih;refine US (k:=n+1) (λ_=>rfl) (by omega) ?_;(conv=>whnf);refine VW (enc:=BZ) (λ_=>rfl) (by rw[List.length_take];omega) (by rw[List.length_take];omega) ?_;(conv=>whnf);(repeat' ((refine GK (λ_=>rfl) rfl ?_ ?_;(first|rfl|simp))<;>conv=>whnf));exact CK rfl (M3 _)
theorem nI (N:c6 L) (a b:List Nat) (q1 q2:Bool) (hA:CP a) (hB:CP b) (la:a.length<=1099511627776) (lb:b.length<=1099511627776):Ev L 102 [.sl q1 (a.map BZ),.sl q2 (b.map BZ)] (.int .i64 (FI (val a) (val b))):=by
 have t1:=λ q=>JG N a q hA la
 have t2:=λ q=>JG N b q hB lb
 have l1:=HL hA;have l2:=HL hB;have d1:=GR (val a);have d2:=GR (val b);refine Ev.x N.Q4 rfl rfl ?_;by_cases hlen:(dg (val a)).length=(dg (val b)).length
 ·have v1:=DP (val a)
  have v2:=DP (val b);generalize dg (val a)=X at *;generalize dg (val b)=Y at *;(repeat' ((first|(apply BR<;>intro hc<;>try (exfalso;omega))|(apply D5;omega)|apply CB|apply BA|refine BH (t1 _) ?_|refine BH (t2 _) ?_)<;>conv=>whnf));refine DG (λ n=>n) (λ(n:Nat)=>n<=X.length/\X.drop n=Y.drop n) (λ n=>[(5,.int .i64 ((n:Int)-1))]) (λ_=>[]) [] [] X.length (by (conv=>whnf);exact ⟨rfl,rfl,rfl⟩) ⟨Nat.le_refl _,by rw[List.drop_of_length_le (Nat.le_refl _),List.drop_of_length_le (by omega)]⟩ ?_;intro n ⟨p1,p2⟩ ih;rcases n with _|n
  ·(repeat' ((first|(apply BR<;>intro hc<;>try (exfalso;omega))|apply BA)<;>conv=>whnf))
   rw[List.drop_zero,List.drop_zero]at p2;exact FF (XM (by rw[<-v1,<-v2,p2]))
  ·have e1:((n+1:Nat):Int)-1=n:=by omega
   rw[e1];obtain ⟨x,hx⟩ : ∃ x,X[n]? = some x:=⟨_,zE (by omega)⟩;obtain ⟨y,hy⟩ : ∃ y,Y[n]? = some y:=⟨_,zE (by omega)⟩;rcases Nat.lt_trichotomy x y with h|h|h
   ·have:=kI d1 d2 hlen hx hy p2 h
    (repeat' ((first|(apply BR<;>intro hc<;>try (exfalso;omega))|(refine CY (by assumption) ?_ rfl ?_;omega)|apply BA)<;>conv=>whnf))
    exact FF (LL (by omega))
   ·subst h
    (repeat' ((first|(apply BR<;>intro hc<;>try (exfalso;omega))|(apply D5;omega)|(refine CY (by assumption) ?_ rfl ?_;omega)|apply BA)<;>conv=>whnf))
    refine DE [] (by (conv=>whnf);exact ⟨rfl,rfl,rfl⟩) (ih n (by omega) ⟨by omega,?_⟩);obtain ⟨i1,e1⟩:=zS hx;obtain ⟨i2,e2⟩:=zS hy;rw[List.drop_eq_getElem_cons i1,List.drop_eq_getElem_cons i2,p2,e1,e2]
   ·have:=kI d2 d1 hlen.symm hy hx p2.symm h
    (repeat' ((first|(apply BR<;>intro hc<;>try (exfalso;omega))|(refine CY (by assumption) ?_ rfl ?_;omega)|apply BA)<;>conv=>whnf))
    exact FF (T5 (by omega))
 ·rcases Nat.lt_trichotomy (dg (val a)).length (dg (val b)).length with h1|h1|h1
  ·have:=aS h1
   (repeat' ((first|(apply BR<;>intro hc<;>try (exfalso;omega))|apply CB|apply BA|refine BH (t1 _) ?_|refine BH (t2 _) ?_)<;>conv=>whnf))
   exact FF (LL (by omega))
  ·exact absurd h1 hlen
  ·have:=aS h1
   (repeat' ((first|(apply BR<;>intro hc<;>try (exfalso;omega))|apply CB|apply BA|refine BH (t1 _) ?_|refine BH (t2 _) ?_)<;>conv=>whnf))
   exact FF (T5 (by omega))
theorem rX {y:List Nat} (i:Nat):val (y.take (i+1))=val (y.take i)+4294967296^i*y.getD i 0:=by
 rcases Nat.lt_or_ge i y.length with h|h
 ·rw[GT (zE h),JP (zE h)]
 ·rw[<-getD_none h,FL h,FL (by omega)];omega
theorem yI (N:c6 L) (a b:List Nat) (q1 q2:Bool) (hA:CP a) (hB:CP b) (la:a.length<=549755813888) (lb:b.length<=549755813888):Ev L 103 [.sl q1 (a.map BZ),.sl q2 (b.map BZ)] (.sl false ((dg (val a+val b)).map BZ)):=by
 refine Ev.x N.Q2 rfl rfl ?_;(repeat' (apply BA<;>conv=>whnf));refine JL (λ i _ _=>a.length+b.length-i) (λ(i:Nat) (o:List Nat) (c:Nat)=>(i<=a.length\/i<=b.length)/\o.length=i/\CP o/\c<=1/\val o+4294967296^i*c=val (a.take i)+val (b.take i)) (λ i o c=>[(7,.int .i64 i),(6,.int .u64 (c:Int)),(5,.row 5 0 1 0 o.length)]) (λ i o c=>[(5,5,.rw 1 (o.map BZ))]) [] [] 0 [] 0 (by (conv=>whnf);exact ⟨rfl,rfl,rfl⟩) ⟨by omega,rfl,T8,by omega,by simp [val]⟩ ?_;intro i o c ⟨p1,p2,p3,p4,p5⟩ ih;by_cases hi:i<a.length\/i<b.length
 ·have g1:=rX (y:=a) i
  have g2:=rX (y:=b) i;have k1:=WE hA i;have k2:=WE hB i;have hst : ∀ t,t=c+a.getD i 0+b.getD i 0->val (o++[t%4294967296])+4294967296^(i+1)*(t/4294967296)=val (a.take (i+1))+val (b.take (i+1)):=λ t ht=>by
   have h3:=UX (val o) (4294967296^i) t;rw[TK,p2,g1,g2,Nat.pow_succ];rw[h3,ht,Nat.mul_add,Nat.mul_add];omega
  by_cases h1:i<a.length
  ·obtain ⟨x,hx⟩ : ∃ x,a[i]? = some x:=⟨_,zE h1⟩
   have hxb:=hA.at hx;rw[JP hx]at hst;by_cases h2:i<b.length
   ·obtain ⟨y,hy⟩ : ∃ y,b[i]? = some y:=⟨_,zE h2⟩
    have hyb:=hB.at hy;rw[JP hy]at hst;(repeat' ((first|(apply BR<;>intro hc<;>try (exfalso;omega))|(apply I9;omega)|(apply EJ;omega)|apply IU|apply CB|(refine CY (by assumption) ?_ rfl ?_;omega)|apply G0|apply BA)<;>conv=>whnf));refine HP (enc:=BZ) (((c+x+y)%4294967296:Nat)) rfl rfl rfl (by omega) (by omega) ?_;(conv=>whnf);(repeat' ((first|(apply CJ;omega)|apply IE)<;>conv=>whnf));refine DE [(5,46)] (by (conv=>whnf);exact ⟨rfl,rfl,rfl⟩) (ih (i+1) (o++[(c+x+y)%4294967296]) ((c+x+y)/4294967296) (by omega) ⟨by omega,by simp;omega,p3.append (KQ (by omega)),by omega,?_⟩);exact hst (c+x+y) (by omega)
   ·rw[<-getD_none (show b.length<=i by omega)]at hst
    (repeat' ((first|(apply BR<;>intro hc<;>try (exfalso;omega))|(apply I9;omega)|(apply EJ;omega)|apply IU|apply CB|(refine CY (by assumption) ?_ rfl ?_;omega)|apply G0|apply BA)<;>conv=>whnf))
    refine HP (enc:=BZ) (((c+x)%4294967296:Nat)) rfl rfl rfl (by omega) (by omega) ?_;(conv=>whnf);(repeat' ((first|(apply CJ;omega)|apply IE)<;>conv=>whnf));refine DE [(5,46)] (by (conv=>whnf);exact ⟨rfl,rfl,rfl⟩) (ih (i+1) (o++[(c+x)%4294967296]) ((c+x)/4294967296) (by omega) ⟨by omega,by simp;omega,p3.append (KQ (by omega)),by omega,?_⟩);exact hst (c+x) (by omega)
  ·obtain ⟨y,hy⟩ : ∃ y,b[i]? = some y:=⟨_,zE (by omega)⟩
   have hyb:=hB.at hy;rw[JP hy,<-getD_none (show a.length<=i by omega)]at hst;(repeat' ((first|(apply BR<;>intro hc<;>try (exfalso;omega))|(apply I9;omega)|(apply EJ;omega)|apply IU|apply CB|(refine CY (by assumption) ?_ rfl ?_;omega)|apply G0|apply BA)<;>conv=>whnf));refine HP (enc:=BZ) (((c+y)%4294967296:Nat)) rfl rfl rfl (by omega) (by omega) ?_;(conv=>whnf);(repeat' ((first|(apply CJ;omega)|apply IE)<;>conv=>whnf));refine DE [(5,46)] (by (conv=>whnf);exact ⟨rfl,rfl,rfl⟩) (ih (i+1) (o++[(c+y)%4294967296]) ((c+y)/4294967296) (by omega) ⟨by omega,by simp;omega,p3.append (KQ (by omega)),by omega,?_⟩);exact hst (c+y) (by omega)
 ·clear ih
  have hv:val (o++[c])=val a+val b:=by
   rw[FL (by omega),FL (by omega)]at p5;rw[TK,p2,p5]
  have hT:=λ q=>JG N (o++[c]) q (p3.append (KQ (by omega))) (by simp;omega)
  rw[hv]at hT;(repeat' ((first|(apply BR<;>intro hc<;>try (exfalso;omega))|(apply GZ;omega)|apply CB|apply G0|apply BA)<;>conv=>whnf));refine HP (enc:=BZ) c rfl rfl rfl (by omega) (by omega) ?_;(conv=>whnf);(repeat' ((first|(refine GK (λ_=>rfl) rfl ?_ ?_;(first|rfl|simp))|refine BH (hT _) ?_)<;>conv=>whnf));exact CK rfl (M3 _)
theorem gM {a b:Nat} (h:b<=a):0<=FI a b:=by unfold FI;split<;>(try split)<;>omega
theorem AkR {V Y X p d e bw have' take w w5:Nat} (h:V+Y=X+p*bw) (h1:take=bw+e) (h2:(have'=d/\w5=0/\take<=d)\/(have'=d+4294967296/\w5=1/\d<take)) (h3:w+take=have'):V+p*w+(Y+p*e)=X+p*d+p*4294967296*w5:=by
 have h4:w+bw+e=d+4294967296*w5:=by omega
 have h5:p*(w+bw+e)=p*(d+4294967296*w5):=by rw[h4]
 rw[Nat.mul_add,Nat.mul_add,Nat.mul_add,<-Nat.mul_assoc]at h5;omega
theorem Kz (N:c6 L) (x y:List Nat) (hX:CP x) (hY:CP y) (lx:x.length<=549755813888) (ly:y.length<=549755813888) (hle:val y<=val x) :
  AH L [It.lp MJ.l1,It.blk 0,It.code (((C4.ops MJ.v9 false).dr [1,5,6,7,21,53,54] []).seq C4.ret)]
  [(7,AV.int IntKind.i64 0),(6,AV.int IntKind.u64 0),(5,AV.row 101021 0 1 0 x.length),(1,AV.sl false (List.map BZ y))]
  [(101021,101021,CS.rw 1 (List.map BZ x))]
  (V3 MJ (AV.sl false (List.map BZ (dg (val x-val y))))):=by
 refine JL (λ i _ _=>x.length-i) (λ(i:Nat) (o:List Nat) (bw:Nat)=>i<=x.length/\o.length=x.length/\CP o/\bw<=1/\o.drop i=x.drop i/\val (o.take i)+val (y.take i)=val (x.take i)+4294967296^i*bw) (λ i o bw=>[(7,.int .i64 i),(6,.int .u64 (bw:Int))]) (λ i o bw=>[(101021,101021,.rw 1 (o.map BZ))]) [] [] 0 x 0 (by (conv=>whnf);exact ⟨rfl,rfl,rfl⟩) ⟨by omega,rfl,hX,by omega,rfl,by simp [val]⟩ ?_;intro i o bw ⟨p1,p2,p3,p4,p5,p6⟩ ih;by_cases hi:i<x.length
 ·obtain ⟨d,hd⟩ : ∃ d,o[i]? = some d:=⟨_,zE (by omega)⟩
  have hdb:=p3.at hd;have hxi:x[i]? = some d:=by
   have e1:(o.drop i)[0]? = (x.drop i)[0]? := by rw[p5]
   simpa [hd] using e1.symm
  have g1:=GT hxi;have g2:=rX (y:=y) i;have ge:=WE hY i;have hst : ∀ have' take w w5,take=bw+y.getD i 0->((have'=d/\w5=0/\take<=d)\/(have'=d+4294967296/\w5=1/\d<take))->w+take=have'->val ((o.set i w).take (i+1))+val (y.take (i+1))=val (x.take (i+1))+4294967296^(i+1)*w5:=λ have' take w w5 a1 a2 a3=>by
   rw[I3 (by omega),g1,g2,Nat.pow_succ];exact AkR p6 a1 a2 a3
  have ij : ∀ w,(o.set i w).drop (i+1)=x.drop (i+1):=λ w=>by
   rw[List.drop_set_of_lt (by omega)];have e1:(o.drop i).drop 1=(x.drop i).drop 1:=by rw[p5]
   simpa using e1
  by_cases hy:i<y.length
  ·obtain ⟨e,he⟩ : ∃ e,y[i]? = some e:=⟨_,zE hy⟩
   have Fw:=hY.at he;rw[JP he]at hst;by_cases e9:d<bw+e
   ·have h3:=hst (d+4294967296) (bw+e) (d+4294967296-(bw+e)) 1 (by omega) (Or.inr ⟨rfl,rfl,e9⟩) (by omega)
    (repeat' ((first|(apply BR<;>intro hc<;>try (exfalso;omega))|(apply CE;omega)|(apply I9;omega)|(apply L4;omega;omega)|(apply eT;omega)|(apply EJ;omega)|(apply GZ;omega)|apply CB|(refine CY (by assumption) ?_ rfl ?_;omega)|refine MX (by assumption) ?_|apply BA)<;>conv=>whnf))
    refine IA (by omega) ?_;(conv=>whnf);(repeat' ((first|(apply CJ;omega)|fail)<;>conv=>whnf));exact DE [] (by (conv=>whnf);exact ⟨rfl,rfl,rfl⟩) (ih (i+1) (o.set i (d+4294967296-(bw+e))) 1 (by omega) ⟨by omega,by simpa using p2,p3.set _ (by omega),by omega,ij _,h3⟩)
   ·have h3:=hst d (bw+e) (d-(bw+e)) 0 (by omega) (Or.inl ⟨rfl,rfl,by omega⟩) (by omega)
    (repeat' ((first|(apply BR<;>intro hc<;>try (exfalso;omega))|(apply CE;omega)|(apply I9;omega)|(apply L4;omega;omega)|(apply EJ;omega)|(apply GZ;omega)|apply CB|(refine CY (by assumption) ?_ rfl ?_;omega)|refine MX (by assumption) ?_|apply BA)<;>conv=>whnf))
    refine IA (by omega) ?_;(conv=>whnf);(repeat' ((first|(apply CJ;omega)|fail)<;>conv=>whnf));exact DE [] (by (conv=>whnf);exact ⟨rfl,rfl,rfl⟩) (ih (i+1) (o.set i (d-(bw+e))) 0 (by omega) ⟨by omega,by simpa using p2,p3.set _ (by omega),by omega,ij _,h3⟩)
  ·rw[<-getD_none (show y.length<=i by omega)]at hst
   by_cases e9:d<bw
   ·have h3:=hst (d+4294967296) (bw) (d+4294967296-(bw)) 1 (by omega) (Or.inr ⟨rfl,rfl,e9⟩) (by omega)
    (repeat' ((first|(apply BR<;>intro hc<;>try (exfalso;omega))|(apply CE;omega)|(apply L4;omega;omega)|(apply eT;omega)|(apply EJ;omega)|(apply GZ;omega)|apply CB|refine MX (by assumption) ?_|apply BA)<;>conv=>whnf))
    refine IA (by omega) ?_;(conv=>whnf);(repeat' ((first|(apply CJ;omega)|fail)<;>conv=>whnf));exact DE [] (by (conv=>whnf);exact ⟨rfl,rfl,rfl⟩) (ih (i+1) (o.set i (d+4294967296-(bw))) 1 (by omega) ⟨by omega,by simpa using p2,p3.set _ (by omega),by omega,ij _,h3⟩)
   ·have h3:=hst d (bw) (d-(bw)) 0 (by omega) (Or.inl ⟨rfl,rfl,by omega⟩) (by omega)
    (repeat' ((first|(apply BR<;>intro hc<;>try (exfalso;omega))|(apply CE;omega)|(apply L4;omega;omega)|(apply EJ;omega)|(apply GZ;omega)|apply CB|refine MX (by assumption) ?_|apply BA)<;>conv=>whnf))
    refine IA (by omega) ?_;(conv=>whnf);(repeat' ((first|(apply CJ;omega)|fail)<;>conv=>whnf));exact DE [] (by (conv=>whnf);exact ⟨rfl,rfl,rfl⟩) (ih (i+1) (o.set i (d-(bw))) 0 (by omega) ⟨by omega,by simpa using p2,p3.set _ (by omega),by omega,ij _,h3⟩)
 ·obtain rfl:i=x.length:=by omega
  clear ih;rw[FL (by omega),FL (Nat.le_refl _)]at p6;have h1:=HT p3;rw[p2]at h1;have h2:val (y.take x.length)<=val y:=by have:=Y3 y x.length;omega
  have oc:bw=0:=by
   rcases Nat.eq_zero_or_pos bw with h|h
   ·exact h
   ·have:bw=1:=by omega
    subst this;omega
  subst oc;have hve:val (y.take x.length)=val y:=by
   have h3:=Y3 y x.length;rcases Nat.eq_zero_or_pos (val (y.drop x.length)) with h|h
   ·rw[h]at h3;omega
   ·have h4:4294967296^x.length*1<=4294967296^x.length*val (y.drop x.length):=Nat.mul_le_mul_left _ h
    have h5:=HT hX;omega
  have hv:val o=val x-val y:=by omega
  have hT:=λ q=>JG N o q p3 (by omega)
  rw[<-hv,<-p2];(repeat' ((first|(apply BR<;>intro hc<;>try (exfalso;omega))|(refine GK (λ_=>rfl) rfl ?_ ?_;(first|rfl|simp))|apply BA|refine BH (hT _) ?_)<;>conv=>whnf));exact CK rfl (M3 _)
theorem nJ (N:c6 L) (a b:List Nat) (q1 q2:Bool) (hA:CP a) (hB:CP b) (la:a.length<=549755813888) (lb:b.length<=549755813888):Ev L 104 [.sl q1 (a.map BZ),.sl q2 (b.map BZ)] (.sl false ((dg (val a-val b)).map BZ)):=by
 have e8:=λ q q'=>nI N a b q q' hA hB (by omega) (by omega)
 have t2:=λ q=>JG N b q hB (by omega)
 refine Ev.x N.MJ rfl rfl ?_;by_cases e9:val a<val b
 ·rw[<-LL (by omega)]at e8
  rw[show val a-val b=0 by omega,HS];(repeat' ((first|(apply BR<;>intro hc<;>try (exfalso;omega))|apply BA|refine BH (e8 _ _) ?_)<;>conv=>whnf));exact CK rfl (M3 [])
 ·have fp:=gM (show val b<=val a by omega)
  generalize FI (val a) (val b)=cm at *;have d2:=GR (val b);have v2:=DP (val b);have l2:=HL hB;rw[<-v2];rw[<-v2]at e9;generalize dg (val b)=y at *;have hdg : ∀ n,a.take n=dg (val a)->val (a.take n)=val a:=λ n h=>by rw[h,DP]
  (repeat' ((first|(apply BR<;>intro hc<;>try (exfalso;omega))|apply BA|refine BH (e8 _ _) ?_|refine BH (t2 _) ?_)<;>conv=>whnf))
  refine HI 1000 N.KZ rfl rfl ?_;(repeat' ((first|apply CB|apply BA)<;>conv=>whnf));refine DG (λ n=>n) (λ(n:Nat)=>n<=a.length /\ ∀ i,n<=i->i<a.length->a[i]? = some 0) (λ n=>[(3,.int .i64 n)]) (λ_=>[]) [] [] a.length (by (conv=>whnf);exact ⟨rfl,rfl,rfl⟩) ⟨Nat.le_refl _,λ i h1 h2=>by omega⟩ ?_;intro n ⟨p1,p2⟩ ih;rcases n with _|n
  ·have hv:=hdg _ (JE hA p1 p2 (Or.inl rfl))
   clear ih;(repeat' ((first|(apply BR<;>intro hc<;>try (exfalso;omega))|apply BA)<;>conv=>whnf));refine US (k:=0) (λ_=>rfl) (by omega) ?_;(conv=>whnf);refine VW (enc:=BZ) (λ_=>rfl) (by rw[List.length_take];omega) (by rw[List.length_take];omega) ?_;(conv=>whnf);refine ⟨rfl,_,rfl,?_⟩;(conv=>whnf);skip;rw[<-hv];exact DE [] (by (conv=>whnf);exact ⟨rfl,rfl,rfl⟩) (Kz N (a.take 0) y (hA.take _) d2 (by simp) (by omega) (by omega))
  ·have e1:((n+1:Nat):Int)-1=n:=by omega
   (repeat' ((first|(apply BR<;>intro hc<;>try (exfalso;omega))|(apply D5;omega)|(refine V2 (by assumption) ?_ (λ e he hb => ?_);omega)|apply BA)<;>conv=>whnf))
   ·rw[e1]
    exact C7 [] (ih n (by omega) ⟨by omega,λ i h1 h2=>by
     by_cases h:i=n
     ·subst h
      rw[e1,Int.toNat_natCast]at he;rw[he];congr 1;omega
     ·exact p2 i (by omega) h2⟩)
   ·rw[e1,Int.toNat_natCast]at he
    have hv:=hdg _ (JE hA p1 p2 (Or.inr ⟨_,he,by omega⟩));clear ih;refine US (k:=n+1) (λ_=>rfl) (by omega) ?_;(conv=>whnf);refine VW (enc:=BZ) (λ_=>rfl) (by rw[List.length_take];omega) (by rw[List.length_take];omega) ?_;(conv=>whnf);refine ⟨rfl,_,rfl,?_⟩;(conv=>whnf);skip;rw[<-hv];exact DE [] (by (conv=>whnf);exact ⟨rfl,rfl,rfl⟩) (Kz N (a.take (n+1)) y (hA.take _) d2 (by rw[List.length_take];omega) (by omega) (by omega))
theorem Aie (N:c6 L) (x y:List Nat) (q1 q2:Bool) (hA:CP x) (hB:CP y) (Qy:x.length+y.length<=549755813888):Ev L 105 [.sl q1 (x.map BZ),.sl q2 (y.map BZ)] (.sl false ((dg (val x*val y)).map BZ)):=by
 refine Ev.x N.Q6 rfl rfl ?_;(repeat' ((first|(apply CJ;omega)|apply CB|apply BA)<;>conv=>whnf));refine GU (enc:=BZ) 0 (x.length+y.length+1) rfl (by omega) (by omega) ?_;(conv=>whnf);skip;refine I4 (λ i _=>x.length-i) (λ(i:Nat) (o:List Nat)=>i<=x.length/\o.length=x.length+y.length+1/\CP o/\val o=val (x.take i)*val y /\ ∀ k,i+y.length<=k->k<o.length->o[k]? = some 0) (λ i o=>[(6,.int .i64 i)]) (λ i o=>[(15,15,.rw 1 (o.map BZ))]) [] [] 0 (List.replicate (x.length+y.length+1) 0) (by (conv=>whnf);exact ⟨rfl,rfl,rfl⟩) ⟨by omega,by simp,MF _,by simp [val,kM],λ k h1 h2=>by simp at h2;simp [h2]⟩ ?_;intro i O ⟨p1,p2,p3,p4,p5⟩ ih;by_cases hi:i<x.length
 ·obtain ⟨d,hd⟩ : ∃ d,x[i]? = some d:=⟨_,zE hi⟩
  have hdb:=hA.at hd;(repeat' ((first|(apply BR<;>intro hc<;>try (exfalso;omega))|apply CB|apply BA)<;>conv=>whnf));refine JL (λ j _ _=>y.length-j) (λ(j:Nat) (o:List Nat) (c:Nat)=>j<=y.length/\o.length=x.length+y.length+1/\CP o/\c<4294967296/\val o+4294967296^(i+j)*c=val O+4294967296^i*(d*val (y.take j)) /\ ∀ k,i+j<=k->o[k]? = O[k]?) (λ j o c=>[(7,.int .u64 (c:Int)),(8,.int .i64 j)]) (λ j o c=>[(15,15,.rw 1 (o.map BZ))]) [] [] 0 O 0 (by (conv=>whnf);exact ⟨rfl,rfl,rfl⟩) ⟨by omega,p2,p3,by omega,by simp [val],λ_ _=>rfl⟩ ?_;intro j o c ⟨r1,r2,r3,r4,r5,r6⟩ jh;have e1:((i:Int)+j).toNat=i+j:=by omega
  by_cases hj:j<y.length
  ·obtain ⟨w,hw⟩ : ∃ w,y[j]? = some w:=⟨_,zE hj⟩
   have hwb:=hB.at hw;have hm:=Z9 hdb hwb;(repeat' ((first|(apply BR<;>intro hc<;>try (exfalso;omega))|(apply CE;omega)|(apply CJ;omega)|(apply I9;omega)|(apply UN;omega)|(apply EJ;omega)|apply IU|apply CB|(refine CY (by assumption) ?_ rfl ?_;omega)|(refine sX (by assumption) ?_ (λ v hv hb => ?_);omega)|apply BA)<;>conv=>whnf));refine fK (i+j) (by omega) (by omega) ?_;(conv=>whnf);(repeat' ((first|(apply CJ;omega)|apply IE)<;>conv=>whnf));refine DE [] (by (conv=>whnf);exact ⟨rfl,rfl,rfl⟩) (jh (j+1) _ _ (by omega) ⟨by omega,by simpa using r2,r3.set _ (by omega),by omega,?_,?_⟩)
   ·have h1:=kJ (v:=(c+(d*w+v))%4294967296) hv
    have h2:=UX 0 (4294967296^(i+j)) (c+(d*w+v));rw[GT hw,show i+(j+1)=i+j+1 by omega,Nat.pow_succ (4294967296) (i+j)];have h3:4294967296^i*(d*(val (y.take j)+4294967296^j*w))=4294967296^i*(d*val (y.take j))+4294967296^(i+j)*(d*w):=by rw[Nat.pow_add];grind
    rw[h3];generalize 4294967296^(i+j)=P at *;rw[Nat.mul_add P c,Nat.mul_add P]at h2;omega
   ·intro k hk
    rw[List.getElem?_set_ne (by omega)];exact r6 k (by omega)
  ·obtain rfl:j=y.length:=by omega
   clear jh;have hz:=r6 (i+y.length) (by omega);rw[p5 (i+y.length) (by omega) (by omega)]at hz;(repeat' ((first|(apply BR<;>intro hc<;>try (exfalso;omega))|(apply CE;omega)|(apply CJ;omega)|(apply GZ;omega)|apply CB|apply BA)<;>conv=>whnf));refine fK (i+y.length) (by omega) (by omega) ?_;(conv=>whnf);(repeat' ((first|(apply CJ;omega)|fail)<;>conv=>whnf));refine DE [] (by (conv=>whnf);exact ⟨rfl,rfl,rfl⟩) (ih (i+1) _ (by omega) ⟨by omega,by simpa using r2,r3.set _ (by omega),?_,?_⟩)
   ·have h1:=kJ (v:=c) hz
    rw[Nat.mul_zero,Nat.add_zero]at h1;rw[h1,r5,p4,FL (Nat.le_refl _),GT hd,Nat.add_mul,Nat.mul_assoc]
   ·intro k h1 h2
    rw[List.length_set]at h2;rw[List.getElem?_set_ne (by omega),r6 k (by omega)];exact p5 k (by omega) (by omega)
 ·obtain rfl:i=x.length:=by omega
  clear ih;rw[FL (Nat.le_refl _)]at p4;have hT:=λ q=>JG N O q p3 (by omega)
  rw[p4]at hT;rw[<-p2];(repeat' ((first|(apply BR<;>intro hc<;>try (exfalso;omega))|apply CB|(refine GK (λ_=>rfl) rfl ?_ ?_;(first|rfl|simp))|apply BA|refine BH (hT _) ?_)<;>conv=>whnf));exact CK rfl (M3 _)
theorem Vy {d:Nat} (h0:d≠0) (hd:d<4294967296):dg d=[d]:=by
 rw[ME h0,Nat.div_eq_of_lt hd,HS,Nat.mod_eq_of_lt hd]
theorem Aic (N:c6 L) (d:Nat) (q:Bool) (h0:d≠0) (hd:d<4294967296):Ev L 106 [.sl q ([d].map BZ)] (.int .i64 (l7 d:Int)):=by
 have hT:=λ q=>JG N [d] q (KQ hd) (by simp)
 rw[show val [d]=d by simp [val],Vy h0 hd]at hT;have nf:[d].length=1:=rfl;have nb:[d][(([d].length:Int)-1).toNat]? = some d:=rfl;have hb:=fU (k:=32) hd;refine Ev.x N.Q3 rfl rfl ?_;(repeat' ((first|(apply BR<;>intro hc<;>try (exfalso;omega))|(apply D5;omega)|(apply NW;omega)|apply CB|(refine CY (by assumption) ?_ rfl ?_;omega)|apply BA|refine BH (hT _) ?_)<;>conv=>whnf));refine I4 (λ_ x=>x) (λ(n x:Nat)=>n+l7 x=l7 d/\x<=d) (λ n x=>[(3,.int .i64 n),(4,.int .u32 (x:Int))]) (λ_ _=>[]) [] [] 0 d (by (conv=>whnf);exact ⟨rfl,rfl,rfl⟩) ⟨by omega,Nat.le_refl _⟩ ?_;intro n x ⟨p1,p2⟩ ih;by_cases hx:x=0
 ·subst hx
  have:l7 0=0:=by unfold l7;simp
  (repeat' ((first|(apply BR<;>intro hc<;>try (exfalso;omega))|apply BA)<;>conv=>whnf))
  exact FF (by omega)
 ·have h1:l7 (x/2)+1=l7 x:=by
   by_cases h1:x=1
   ·subst h1;decide
   ·exact bN 1 (x:=x) (by omega)
  (repeat' ((first|(apply BR<;>intro hc<;>try (exfalso;omega))|(apply CJ;omega)|apply Vb|apply BA)<;>conv=>whnf))
  exact C7 [] (ih (n+1) (x/2) (by omega) ⟨by omega,by omega⟩)
theorem On {V P X lo s d p t:Nat} (h:V+P*p*lo=P*(X*2^s)) (ht:t=lo+d*2^s):V+P*p*(t%4294967296)+P*p*4294967296*(t/4294967296)=P*((X+p*d)*2^s):=by
 have h1:=UX V (P*p) t;rw[h1,ht];have:P*((X+p*d)*2^s)=P*(X*2^s)+P*p*(d*2^s):=by grind
 rw[this,<-h,Nat.mul_add];omega
theorem yL (N:c6 L) (l:List Nat) (q:Bool) (n:Nat) (hD:CP l) (hl:l.length<=549755813888) (hn:n<=65536):Ev L 107 [.sl q (l.map BZ),.int .i64 (n:Int)] (.sl false ((dg (val l*2^n)).map BZ)):=by
 have hT:=λ q=>JG N l q hD (by omega)
 have d1:=GR (val l);have v1:=DP (val l);have l1:=HL hD;have hz:=LM (val l);refine Ev.x N.LU rfl rfl ?_;by_cases h0:val l=0
 ·rw[h0,Nat.zero_mul,HS]
  (repeat' ((first|(apply BR<;>intro hc<;>try (exfalso;omega))|apply CB|apply BA|refine BH (hT _) ?_)<;>conv=>whnf))
  exact CK rfl (M3 [])
 rw[<-v1];generalize dg (val l)=x at *;have x8:n%32<32:=Nat.mod_lt _ (by omega);have e1:(n:Int)/32=((n/32:Nat):Int):=by omega
 have e2:(n:Int)%32=((n%32:Nat):Int):=by omega
 (repeat' ((first|(apply BR<;>intro hc<;>try (exfalso;omega))|(refine XA ?_ ?_ (λ_ => ?_) (λ_ _ => ?_);omega;omega;all_goals try (exfalso;omega))|apply CB|apply BA|refine BH (hT _) ?_)<;>conv=>whnf))
 rw[e1];refine GU (enc:=BZ) 0 (n/32) rfl rfl (by omega) ?_;(conv=>whnf);skip;refine JL (λ i _ _=>x.length-i) (λ(i:Nat) (o:List Nat) (c:Nat)=>i<=x.length/\o.length=n/32+i/\CP o/\c<2^(n%32)/\val o+4294967296^(n/32)*4294967296^i*c=4294967296^(n/32)*(val (x.take i)*2^(n%32))) (λ i o c=>[(10,.int .i64 i),(9,.int .u64 (c:Int)),(8,.row 107069 0 1 0 (n/32+i))]) (λ i o c=>[(107069,107069,.rw 1 (o.map BZ))]) [] [] 0 (List.replicate (n/32) 0) 0 (by (conv=>whnf);exact ⟨rfl,rfl,rfl⟩) ⟨by omega,by simp,MF _,Nat.two_pow_pos _,by simp [val,kM]⟩ ?_;intro i o c ⟨p1,p2,p3,p4,p5⟩ ih;have jy:=dN (s:=n%32) (by omega);by_cases hi:i<x.length
 ·obtain ⟨d,hd⟩ : ∃ d,x[i]? = some d:=⟨_,zE hi⟩
  have hdb:=d1.at hd;obtain ⟨f1,f2,f3,f4⟩:=YS (s:=n%32) hdb (by omega);have hr:=iT (show n%32<=64 by omega) f4;(repeat' ((first|(apply BR<;>intro hc<;>try (exfalso;omega))|(refine ZG ?_ (λ_ _ _ => ?_) (λ_ _ _ _ => ?_);omega;all_goals try (exfalso;omega))|(apply EJ;omega)|apply CB|(refine CY (by assumption) ?_ rfl ?_;omega)|apply BA)<;>conv=>whnf));rw[e2];refine UR (by omega) f4 ?_;(conv=>whnf);skip;refine eV (n%32) (Nat.mul_mod_left _ _) p4 (by omega) ?_;(conv=>whnf);have hst:=On (d:=d) p5 rfl;have hc2:(c+d*2^(n%32))/4294967296<2^(n%32):=by
   rw[Nat.div_lt_iff_lt_mul (by omega)];have:=Nat.mul_le_mul_right (2^(n%32)) (show d<=4294967295 by omega);omega
  generalize c+d*2^(n%32)=t at *;(repeat' ((first|apply IU|apply G0)<;>conv=>whnf));refine HP (enc:=BZ) (t%4294967296) rfl p2.symm rfl (by omega) (by omega) ?_;(conv=>whnf);(repeat' ((first|(apply CJ;omega)|apply IE)<;>conv=>whnf));rw[show (o++[t%4294967296]).length=n/32+(i+1) by simp [p2];omega];refine DE [(107069,107091)] (by (conv=>whnf);exact ⟨rfl,rfl,rfl⟩) (ih (i+1) (o++[t%4294967296]) (t/4294967296) (by omega) ⟨by omega,by simp;omega,p3.append (KQ (by omega)),hc2,?_⟩);rw[TK,p2,GT hd,Nat.pow_add,Nat.pow_succ,<-Nat.mul_assoc];exact hst
 ·obtain rfl:i=x.length:=by omega
  clear ih;have hcb:c<4294967296:=by omega
  have hOD:CP (o++[c]):=p3.append (KQ hcb);have ud:val (o++[c])=val x*2^n:=by
   rw[TK,p2,Nat.pow_add,p5,FL (Nat.le_refl _)];have e3:2^n=4294967296^(n/32)*2^(n%32):=by
    rw[show 4294967296=2^32 from rfl,<-Nat.pow_mul,<-Nat.pow_add];congr 1;omega
   rw[e3];grind
  have uc:(o++[c]).length=n/32+x.length+1:=by simp [p2]
  (repeat' ((first|(apply BR<;>intro hc<;>try (exfalso;omega))|(apply GZ;omega)|apply CB|apply G0|apply BA)<;>conv=>whnf))
  refine HP (enc:=BZ) c rfl p2.symm rfl (by omega) (by omega) ?_;(conv=>whnf);rw[<-ud,uc];generalize o++[c]=O at *;rw[<-uc];clear p3 p4 p5 ud;refine HI 1000 N.KZ rfl rfl ?_;(repeat' (apply BA<;>conv=>whnf));refine DG (λ n=>n) (λ(n:Nat)=>n<=(O).length /\ ∀ i,n<=i->i<(O).length->(O)[i]? = some 0) (λ n=>[(3,.int .i64 n)]) (λ_=>[]) [] [] (O).length (by (conv=>whnf);exact ⟨rfl,rfl,rfl⟩) ⟨Nat.le_refl _,λ i h1 h2=>by omega⟩ ?_;intro n ⟨p1,p2⟩ ih;rcases n with _|n
  ·(repeat' ((first|(apply BR<;>intro hc<;>try (exfalso;omega))|apply BA)<;>conv=>whnf))
   refine JM 0 (by omega) (by omega) ?_;(conv=>whnf);have u5:=JE (l:=O) (by assumption) p1 p2 (Or.inl rfl);have hcl:(List.take 0 O).length<=(O).length:=by rw[List.length_take];omega
   clear ih p2;refine fI (enc:=BZ) (by omega) ?_;(conv=>whnf);rw[List.drop_zero,Nat.sub_zero];generalize hT0:List.take 0 O=T0 at *;refine VW (enc:=BZ) (λ_=>rfl) (by omega) (by omega) ?_;(conv=>whnf);refine ⟨rfl,_,rfl,?_⟩;(conv=>whnf);(refine GK (enc:=BZ) (λ_=>rfl) rfl rfl ?_;(conv=>whnf);exact CK (by rw[<-u5]) (M3 _))
  ·have e1:((n+1:Nat):Int)-1=n:=by omega
   (repeat' ((first|(apply BR<;>intro hc<;>try (exfalso;omega))|(apply CE;omega)|(apply D5;omega)|(refine W9 (by assumption) ?_ (λ v hv hb => ?_);omega)|apply BA)<;>conv=>whnf))
   ·rw[e1]
    exact C7 [] (ih n (by omega) ⟨by omega,λ i h1 h2=>by
     by_cases h:i=n
     ·subst h
      rw[e1,Int.toNat_natCast]at hv;rw[hv];congr 1;omega
     ·exact p2 i (by omega) h2⟩)
   ·refine JM (n+1) (by omega) (by omega) ?_
    (conv=>whnf)
    rw[e1,Int.toNat_natCast]at hv;have u5:=JE (l:=O) (by assumption) p1 p2 (Or.inr ⟨_,hv,by omega⟩);have hcl:(List.take (n+1) O).length<=(O).length:=by rw[List.length_take];omega
    clear ih p2 hv;(rw[tT (l:=O)];rotate_left;exact rfl;exact rfl);(conv=>whnf);refine fI (enc:=BZ) (by omega) ?_;(conv=>whnf);rw[List.drop_zero,Nat.sub_zero];generalize hT0:List.take (n+1) O=T0 at *;refine VW (enc:=BZ) (λ_=>rfl) (by omega) (by omega) ?_;(conv=>whnf);refine ⟨rfl,_,rfl,?_⟩;(conv=>whnf);(refine GK (enc:=BZ) (λ_=>rfl) rfl rfl ?_;(conv=>whnf);exact CK (by rw[<-u5]) (M3 _))
theorem AlQ {l:List Nat} (hD:CP l) (k:Nat) (hk:k<=l.length):val (l.drop k)=val l/4294967296^k:=by
 have h1:=NQ l k hk;have h2:=HT (hD.take k);rw[List.length_take,Nat.min_eq_left hk]at h2;rw[h1,Nat.add_mul_div_left _ _ (Nat.pow_pos (by omega)),Nat.div_eq_of_lt h2,Nat.zero_add]
theorem Akz (n:Nat):2^n=4294967296^(n/32)*2^(n%32):=by
 rw[show 4294967296=2^32 from rfl,<-Nat.pow_mul,<-Nat.pow_add];congr 1;omega
theorem Zn {d e V r:Nat} (hd:d<4294967296) (hr:r<32):(d+e*4294967296)/2^r%4294967296+4294967296*((e+4294967296*V)/2^r)=(d+4294967296*(e+4294967296*V))/2^r:=by
 obtain ⟨f1,f2,f3⟩:=Iv (V:=e) hd (show r<=32 by omega);rw[oP (d:=d) (V:=e+4294967296*V) (by omega),Iw (d:=e) (V:=V) (by omega)];have h1:=oP (d:=d) (V:=e) (s:=r) (by omega);rw[show d+e*4294967296=d+4294967296*e by omega,h1];clear h1;generalize d/2^r=A at *;generalize e%2^r*2^(32-r)=Q at *;generalize e/2^r=Z at *;generalize 2^(32-r)=P at *;omega
theorem Aif (N:c6 L) (l:List Nat) (q:Bool) (n:Nat) (hD:CP l) (hl:l.length<=549755813888) (hn:1<=n/\n<=65536):Ev L 107 [.sl q (l.map BZ),.int .i64 (-(n:Int))] (.sl false ((dg (val l/2^n)).map BZ)):=by
 have hT:=λ q=>JG N l q hD (by omega)
 have d1:=GR (val l);have v1:=DP (val l);have l1:=HL hD;have hz:=LM (val l);refine Ev.x N.LU rfl rfl ?_;by_cases h0:val l=0
 ·rw[h0,Nat.zero_div,HS]
  (repeat' ((first|(apply BR<;>intro hc<;>try (exfalso;omega))|apply CB|apply BA|refine BH (hT _) ?_)<;>conv=>whnf))
  exact CK rfl (M3 [])
 rw[<-v1];generalize dg (val l)=x at *;have Gv:n%32<32:=Nat.mod_lt _ (by omega);have e1:(- -(n:Int))/32=((n/32:Nat):Int):=by omega
 have e2:(- -(n:Int))%32=((n%32:Nat):Int):=by omega
 by_cases Ash:32*x.length<n
 ·have e9:val x/2^n=0:=by
   refine Nat.div_eq_of_lt (Nat.lt_of_lt_of_le (HT d1) ?_);rw[show 4294967296=2^32 from rfl,<-Nat.pow_mul];exact Nat.pow_le_pow_right (by omega) (by omega)
  rw[e9,HS];(repeat' ((first|(apply BR<;>intro hc<;>try (exfalso;omega))|(apply NW;omega)|apply CB|apply BA|refine BH (hT _) ?_)<;>conv=>whnf));exact CK rfl (M3 [])
 have hk:n/32<=x.length:=by omega
 have hvd:=AlQ d1 _ hk;(repeat' ((first|(apply BR<;>intro hc<;>try (exfalso;omega))|(apply NW;omega)|(refine XA ?_ ?_ (λ_ => ?_) (λ_ _ => ?_);omega;omega;all_goals try (exfalso;omega))|(apply EZ.neg;omega)|apply CB|apply BA|refine BH (hT _) ?_)<;>conv=>whnf));rw[e1];refine I4 (λ i _=>x.length-i) (λ(i:Nat) (o:List Nat)=>n/32<=i/\i<=x.length/\o.length=i-n/32/\CP o/\val o+4294967296^(i-n/32)*(val (x.drop i)/2^(n%32))=val (x.drop (n/32))/2^(n%32)) (λ i o=>[(6,.int .i64 i),(5,.row 107005 0 1 0 o.length)]) (λ i o=>[(107005,107005,.rw 1 (o.map BZ))]) [] [] (n/32) [] (by (conv=>whnf);exact ⟨rfl,rfl,rfl⟩) ⟨Nat.le_refl _,hk,by simp,T8,by simp [val]⟩ ?_;intro i o ⟨p0,p1,p2,p3,p5⟩ ih;by_cases hi:i<x.length
 ·obtain ⟨d,hd⟩ : ∃ d,x[i]? = some d:=⟨_,zE hi⟩
  have hdb:=d1.at hd;have g1:=KI hd;have g2:=Y2 x (i+1);have g3:=Zn (e:=x.getD (i+1) 0) (V:=val (x.drop (i+1+1))) hdb Gv;rw[<-g2,<-g1]at g3;have key : ∀ t,t=d+x.getD (i+1) 0*4294967296->val (o++[t/2^(n%32)%4294967296])+4294967296^(i+1-n/32)*(val (x.drop (i+1))/2^(n%32))=val (x.drop (n/32))/2^(n%32):=λ t ht=>by
   rw[TK,p2,show i+1-n/32=(i-n/32)+1 by omega,Nat.pow_succ,ht,Nat.add_assoc,Nat.mul_assoc,<-Nat.mul_add,g3];exact p5
  by_cases hy:i+1<x.length
  ·obtain ⟨e,he⟩ : ∃ e,x[i+1]? = some e:=⟨_,zE hy⟩
   have Fw:=d1.at he;have di:x[((i:Int)+1).toNat]? = some e:=by rw[show ((i:Int)+1).toNat=i+1 by omega];exact he
   rw[JP he]at key;(repeat' ((first|(apply BR<;>intro hc<;>try (exfalso;omega))|(apply CJ;omega)|(apply TS;omega)|(apply EJ;omega)|apply CB|(refine CY (by assumption) ?_ rfl ?_;omega)|apply BA)<;>conv=>whnf));refine eV 32 (Nat.mul_mod_left _ _) (by omega) (by omega) ?_;(conv=>whnf);(repeat' ((first|(refine ZG ?_ (λ_ _ _ => ?_) (λ_ _ _ _ => ?_);omega;all_goals try (exfalso;omega))|(apply EJ;omega))<;>conv=>whnf));rw[e2];refine UQ (n:=n%32) (by show n%32<=64;omega) ?_;(conv=>whnf);(repeat' ((first|apply IU|apply G0)<;>conv=>whnf));refine HP (enc:=BZ) ((d+e*4294967296)/2^(n%32)%4294967296) rfl rfl rfl (by omega) (by omega) ?_;(conv=>whnf);(repeat' ((first|(apply CJ;omega)|fail)<;>conv=>whnf));exact C7 [(107005,107064)] (ih (i+1) (o++[(d+e*4294967296)/2^(n%32)%4294967296]) (by omega) ⟨by omega,by omega,by simp;omega,p3.append (KQ (by omega)),key (d+e*4294967296) rfl⟩)
  ·rw[<-getD_none (show x.length<=i+1 by omega),Nat.zero_mul]at key
   (repeat' ((first|(apply BR<;>intro hc<;>try (exfalso;omega))|(apply CJ;omega)|(refine ZG ?_ (λ_ _ _ => ?_) (λ_ _ _ _ => ?_);omega;all_goals try (exfalso;omega))|(apply EJ;omega)|apply CB|(refine CY (by assumption) ?_ rfl ?_;omega)|apply BA)<;>conv=>whnf))
   rw[e2];refine UQ (n:=n%32) (by show n%32<=64;omega) ?_;(conv=>whnf);(repeat' ((first|apply IU|apply G0)<;>conv=>whnf));refine HP (enc:=BZ) (d/2^(n%32)%4294967296) rfl rfl rfl (by omega) (by omega) ?_;(conv=>whnf);(repeat' ((first|(apply CJ;omega)|fail)<;>conv=>whnf));exact C7 [(107005,107064)] (ih (i+1) (o++[d/2^(n%32)%4294967296]) (by omega) ⟨by omega,by omega,by simp;omega,p3.append (KQ (by omega)),key d rfl⟩)
 ·obtain rfl:i=x.length:=by omega
  clear ih;rw[List.drop_of_length_le (Nat.le_refl _),L2,Nat.zero_div,Nat.mul_zero,Nat.add_zero,hvd,Nat.div_div_eq_div_mul,<-Akz]at p5;have hT2:=λ q=>JG N o q p3 (by omega)
  rw[p5]at hT2;(repeat' ((first|(apply BR<;>intro hc<;>try (exfalso;omega))|apply CB|(refine GK (λ_=>rfl) rfl ?_ ?_;(first|rfl|simp))|apply BA|refine BH (hT2 _) ?_)<;>conv=>whnf));exact CK rfl (M3 _)
end Go.Eng
