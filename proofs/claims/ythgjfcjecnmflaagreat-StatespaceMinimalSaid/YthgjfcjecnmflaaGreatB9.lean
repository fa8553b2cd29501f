/-
  The references of natural numbers (ref01).
-/
import Derived.Test.YthgjfcjecnmflaaGreatB8
import Derived.Test.YthgjfcjecnmflaaGreatB7
import Derived.Test.YthgjfcjecnmflaaGreatB1
set_option linter.unusedSimpArgs false
set_option linter.unusedVariables false
set_option linter.unnecessarySimpa false
namespace Go.e8
open F
attribute [local irreducible] AA AF AM AE C8 AX BF BD B9 B2 CX E9 B0 A5 B5 CQ AB A7 AJ pw BR BO C4 D0 DZ DU DN BZ DW
variable {L:Lib}
set_option maxHeartbeats 4000000
theorem IV (l:List Nat):A1 (.sl false (l.map AL)):=by
 simp only[A1,true_and];exact CI l
theorem nW {M:Mem} {v:AV} {ky t z off len s:Nat} {l:List Nat} (hv:v = .row ky t z off len) (h:c8 M ky=some (s,.rw 1 (l.map AL))):SF M v=none:=by
 subst hv;unfold SF;split
 ·rename_i e
  simp only[AV.row.injEq]at e;obtain ⟨rfl,_⟩:=e;rw[h];cases l with
  | nil=>rfl
  | cons a l=>cases l<;>rfl
 ·rfl
theorem FS (N:a7 L) (l:List Nat) (q:Bool) (hD:AY l) (hl:l.length<=1099511627776):Ev L 101 [.sl q (l.map AL)] (.sl false ((dg (val l)).map AL)):=by
 refine Ev.x N.GZ rfl rfl ?_;(repeat' ((first|apply AQ|apply AD)<;>conv=>whnf))
 refine DF (λ n=>n) (λ(n:Nat)=>n<=l.length /\ ∀ i,n<=i->i<l.length->l[i]? = some 0) (λ n=>[(3,.int .i64 n)]) (λ_=>[]) l.length ⟨Nat.le_refl _,λ i h1 h2=>by omega⟩ ?_;intro n ⟨p1,p2⟩ ih;rcases n with _|n
 ·have hv:=FQ hD p1 p2 (Or.inl rfl)
  rw[<-hv];clear ih;(repeat' ((first|(apply AG<;>intro hc<;>try omega)|apply AD)<;>conv=>whnf))
  refine OC (k:=0) (λ_=>rfl) (by omega) ?_;(conv=>whnf)
  refine PB (enc:=AL) (λ_=>rfl) (by rw[List.length_take];omega) (by rw[List.length_take];omega) ?_;(conv=>whnf)
  (repeat' ((refine C7 (λ_=>rfl) rfl ?_ ?_;(first|rfl|simp))<;>conv=>whnf))
  exact AW rfl (IV _)
 ·have e1:((n+1:Nat):Int)-1=n:=by omega
  (repeat' ((first|(apply AG<;>intro hc<;>try omega)|(apply BT;omega)|(refine QF (by assumption) ?_ (λ e he hb => ?_);omega)|apply AD)<;>conv=>whnf))
  ·rw[e1]
   exact BQ [] (ih n (by omega) ⟨by omega,λ i h1 h2=>by
    by_cases h:i=n
    ·subst h
     rw[e1,Int.toNat_natCast]at he;rw[he];congr 1;omega
    ·exact p2 i (by omega) h2⟩)
  ·rw[e1,Int.toNat_natCast]at he
   have hv:=FQ hD p1 p2 (Or.inr ⟨e,he,by omega⟩);rw[<-hv];clear ih;refine OC (k:=n+1) (λ_=>rfl) (by omega) ?_;(conv=>whnf)
   refine PB (enc:=AL) (λ_=>rfl) (by rw[List.length_take];omega) (by rw[List.length_take];omega) ?_;(conv=>whnf)
   (repeat' ((refine C7 (λ_=>rfl) rfl ?_ ?_;(first|rfl|simp))<;>conv=>whnf))
   exact AW rfl (IV _)
theorem iD (N:a7 L) (a b:List Nat) (q1 q2:Bool) (hA:AY a) (hB:AY b) (la:a.length<=1099511627776) (lb:b.length<=1099511627776):Ev L 102 [.sl q1 (a.map AL),.sl q2 (b.map AL)] (.int .i64 (CS (val a) (val b))):=by
 have t1:=λ q=>FS N a q hA la
 have t2:=λ q=>FS N b q hB lb
 have l1:=EI hA;have l2:=EI hB;have d1:=DI (val a);have d2:=DI (val b);refine Ev.x N.L5 rfl rfl ?_;by_cases hlen:(dg (val a)).length=(dg (val b)).length
 ·have v1:=BN (val a)
  have v2:=BN (val b);generalize dg (val a)=X at *;generalize dg (val b)=Y at *;(repeat' ((first|(apply AG<;>intro hc<;>try omega)|(apply BT;omega)|apply AQ|apply AD|refine AC (t1 _) ?_|refine AC (t2 _) ?_)<;>conv=>whnf))
  refine DF (λ n=>n) (λ(n:Nat)=>n<=X.length/\X.drop n=Y.drop n) (λ n=>[(5,.int .i64 ((n:Int)-1))]) (λ_=>[]) X.length ⟨Nat.le_refl _,by rw[List.drop_of_length_le (Nat.le_refl _),List.drop_of_length_le (by omega)]⟩ ?_;intro n ⟨p1,p2⟩ ih;rcases n with _|n
  ·(repeat' ((first|(apply AG<;>intro hc<;>try omega)|apply AD)<;>conv=>whnf))
   rw[List.drop_zero,List.drop_zero]at p2;exact CM (SX (by rw[<-v1,<-v2,p2]))
  ·have e1:((n+1:Nat):Int)-1=n:=by omega
   rw[e1];obtain ⟨x,hx⟩ : ∃ x,X[n]? = some x:=⟨_,zE (by omega)⟩;obtain ⟨y,hy⟩ : ∃ y,Y[n]? = some y:=⟨_,zE (by omega)⟩;rcases Nat.lt_trichotomy x y with h|h|h
   ·have:=dN d1 d2 hlen hx hy p2 h
    (repeat' ((first|(apply AG<;>intro hc<;>try omega)|(refine A8 (by assumption) ?_ rfl ?_;omega)|apply AD)<;>conv=>whnf))
    exact CM (HM (by omega))
   ·subst h
    (repeat' ((first|(apply AG<;>intro hc<;>try omega)|(apply BT;omega)|(refine A8 (by assumption) ?_ rfl ?_;omega)|apply AD)<;>conv=>whnf))
    refine BH [] (by (conv=>whnf);exact ⟨rfl,rfl,rfl⟩) (ih n (by omega) ⟨by omega,?_⟩);obtain ⟨i1,e1⟩:=zS hx;obtain ⟨i2,e2⟩:=zS hy;rw[List.drop_eq_getElem_cons i1,List.drop_eq_getElem_cons i2,p2,e1,e2]
   ·have:=dN d2 d1 hlen.symm hy hx p2.symm h
    (repeat' ((first|(apply AG<;>intro hc<;>try omega)|(refine A8 (by assumption) ?_ rfl ?_;omega)|apply AD)<;>conv=>whnf))
    exact CM (OK (by omega))
 ·rcases Nat.lt_trichotomy (dg (val a)).length (dg (val b)).length with h1|h1|h1
  ·have:=XN h1
   (repeat' ((first|(apply AG<;>intro hc<;>try omega)|apply AQ|apply AD|refine AC (t1 _) ?_|refine AC (t2 _) ?_)<;>conv=>whnf))
   exact CM (HM (by omega))
  ·exact absurd h1 hlen
  ·have:=XN h1
   (repeat' ((first|(apply AG<;>intro hc<;>try omega)|apply AQ|apply AD|refine AC (t1 _) ?_|refine AC (t2 _) ?_)<;>conv=>whnf))
   exact CM (OK (by omega))
theorem mI {y:List Nat} (i:Nat):val (y.take (i+1))=val (y.take i)+4294967296^i*y.getD i 0:=by
 rcases Nat.lt_or_ge i y.length with h|h
 ·rw[DK (zE h),F5 (zE h)]
 ·rw[<-QQ h,CW h,CW (by omega)];omega
theorem rV (N:a7 L) (a b:List Nat) (q1 q2:Bool) (hA:AY a) (hB:AY b) (la:a.length<=549755813888) (lb:b.length<=549755813888):Ev L 103 [.sl q1 (a.map AL),.sl q2 (b.map AL)] (.sl false ((dg (val a+val b)).map AL)):=by
 refine Ev.x N.L3 rfl rfl ?_;(repeat' (apply AD<;>conv=>whnf))
 refine FY (λ i _ _=>a.length+b.length-i) (λ(i:Nat) (o:List Nat) (c:Nat)=>(i<=a.length\/i<=b.length)/\o.length=i/\AY o/\c<=1/\val o+4294967296^i*c=val (a.take i)+val (b.take i)) (λ i o c=>[(7,.int .i64 i),(6,.int .u64 (c:Int)),(5,.row 5 0 1 0 o.length)]) (λ i o c=>[(5,5,.rw 1 (o.map AL))]) 0 [] 0 ⟨by omega,rfl,WB,by omega,by simp [val]⟩ ?_;intro i o c ⟨p1,p2,p3,p4,p5⟩ ih;by_cases hi:i<a.length\/i<b.length
 ·have g1:=mI (y:=a) i
  have g2:=mI (y:=b) i;have k1:=QP hA i;have k2:=QP hB i;have m5 : ∀ t,t=c+a.getD i 0+b.getD i 0->val (o++[t%4294967296])+4294967296^(i+1)*(t/4294967296)=val (a.take (i+1))+val (b.take (i+1)):=λ t ht=>by
   have h3:=PJ (val o) (4294967296^i) t;rw[NY,p2,g1,g2,Nat.pow_succ];rw[h3,ht,Nat.mul_add,Nat.mul_add];omega
  by_cases h1:i<a.length
  ·obtain ⟨x,hx⟩ : ∃ x,a[i]? = some x:=⟨_,zE h1⟩
   have Bn:=hA.at hx;rw[F5 hx]at m5;by_cases h2:i<b.length
   ·obtain ⟨y,hy⟩ : ∃ y,b[i]? = some y:=⟨_,zE h2⟩
    have yd:=hB.at hy;rw[F5 hy]at m5;(repeat' ((first|(apply AG<;>intro hc<;>try omega)|(apply FN;omega)|(apply B6;omega)|apply FG|apply AQ|(refine A8 (by assumption) ?_ rfl ?_;omega)|apply EE|apply AD)<;>conv=>whnf))
    refine EX (enc:=AL) (((c+x+y)%4294967296:Nat)) rfl rfl rfl (by omega) (by omega) ?_;(conv=>whnf)
    (repeat' ((first|(apply A0;omega)|apply E4)<;>conv=>whnf))
    refine BH [(5,46)] (by (conv=>whnf);exact ⟨rfl,rfl,rfl⟩) (ih (i+1) (o++[(c+x+y)%4294967296]) ((c+x+y)/4294967296) (by omega) ⟨by omega,by simp;omega,p3.append (GS (by omega)),by omega,?_⟩);exact m5 (c+x+y) (by omega)
   ·rw[<-QQ (show b.length<=i by omega)]at m5
    (repeat' ((first|(apply AG<;>intro hc<;>try omega)|(apply FN;omega)|(apply B6;omega)|apply FG|apply AQ|(refine A8 (by assumption) ?_ rfl ?_;omega)|apply EE|apply AD)<;>conv=>whnf))
    refine EX (enc:=AL) (((c+x)%4294967296:Nat)) rfl rfl rfl (by omega) (by omega) ?_;(conv=>whnf)
    (repeat' ((first|(apply A0;omega)|apply E4)<;>conv=>whnf))
    refine BH [(5,46)] (by (conv=>whnf);exact ⟨rfl,rfl,rfl⟩) (ih (i+1) (o++[(c+x)%4294967296]) ((c+x)/4294967296) (by omega) ⟨by omega,by simp;omega,p3.append (GS (by omega)),by omega,?_⟩);exact m5 (c+x) (by omega)
  ·obtain ⟨y,hy⟩ : ∃ y,b[i]? = some y:=⟨_,zE (by omega)⟩
   have yd:=hB.at hy;rw[F5 hy,<-QQ (show a.length<=i by omega)]at m5;(repeat' ((first|(apply AG<;>intro hc<;>try omega)|(apply FN;omega)|(apply B6;omega)|apply FG|apply AQ|(refine A8 (by assumption) ?_ rfl ?_;omega)|apply EE|apply AD)<;>conv=>whnf))
   refine EX (enc:=AL) (((c+y)%4294967296:Nat)) rfl rfl rfl (by omega) (by omega) ?_;(conv=>whnf)
   (repeat' ((first|(apply A0;omega)|apply E4)<;>conv=>whnf))
   refine BH [(5,46)] (by (conv=>whnf);exact ⟨rfl,rfl,rfl⟩) (ih (i+1) (o++[(c+y)%4294967296]) ((c+y)/4294967296) (by omega) ⟨by omega,by simp;omega,p3.append (GS (by omega)),by omega,?_⟩);exact m5 (c+y) (by omega)
 ·clear ih
  have hv:val (o++[c])=val a+val b:=by
   rw[CW (by omega),CW (by omega)]at p5;rw[NY,p2,p5]
  have hT:=λ q=>FS N (o++[c]) q (p3.append (GS (by omega))) (by simp;omega)
  rw[hv]at hT;(repeat' ((first|(apply AG<;>intro hc<;>try omega)|(apply DX;omega)|apply AQ|apply EE|apply AD)<;>conv=>whnf))
  refine EX (enc:=AL) c rfl rfl rfl (by omega) (by omega) ?_;(conv=>whnf)
  (repeat' ((first|(refine C7 (λ_=>rfl) rfl ?_ ?_;(first|rfl|simp))|refine AC (hT _) ?_)<;>conv=>whnf))
  exact AW rfl (IV _)
theorem aO {a b:Nat} (h:b<=a):0<=CS a b:=by unfold CS;split<;>(try split)<;>omega
theorem Ahx {V Y X p d e bw have' take w df:Nat} (h:V+Y=X+p*bw) (h1:take=bw+e) (h2:(have'=d/\df=0/\take<=d)\/(have'=d+4294967296/\df=1/\d<take)) (h3:w+take=have'):V+p*w+(Y+p*e)=X+p*d+p*4294967296*df:=by
 have h4:w+bw+e=d+4294967296*df:=by omega
 have h5:p*(w+bw+e)=p*(d+4294967296*df):=by rw[h4]
 rw[Nat.mul_add,Nat.mul_add,Nat.mul_add,<-Nat.mul_assoc]at h5;omega
theorem wU (N:a7 L) (x y:List Nat) (hX:AY x) (hY:AY y) (lx:x.length<=549755813888) (ly:y.length<=549755813888) (hle:val y<=val x) :
  AA L [It.lp II.l1,It.e7 0,It.code (((A9.ops II.fk false).dr [1,5,6,7,21,53,54] []).seq A9.ret)]
  [(7,AV.int IntKind.i64 0),(6,AV.int IntKind.u64 0),(5,AV.row 101021 0 1 0 x.length),(1,AV.sl false (List.map AL y))]
  [(101021,101021,A3.rw 1 (List.map AL x))]
  (OA II (AV.sl false (List.map AL (dg (val x-val y))))):=by
 refine FY (λ i _ _=>x.length-i) (λ(i:Nat) (o:List Nat) (bw:Nat)=>i<=x.length/\o.length=x.length/\AY o/\bw<=1/\o.drop i=x.drop i/\val (o.take i)+val (y.take i)=val (x.take i)+4294967296^i*bw) (λ i o bw=>[(7,.int .i64 i),(6,.int .u64 (bw:Int))]) (λ i o bw=>[(101021,101021,.rw 1 (o.map AL))]) 0 x 0 ⟨by omega,rfl,hX,by omega,rfl,by simp [val]⟩ ?_;intro i o bw ⟨p1,p2,p3,p4,p5,p6⟩ ih;by_cases hi:i<x.length
 ·obtain ⟨d,hd⟩ : ∃ d,o[i]? = some d:=⟨_,zE (by omega)⟩
  have dk:=p3.at hd;have hxi:x[i]? = some d:=by
   have e1:(o.drop i)[0]? = (x.drop i)[0]? := by rw[p5]
   simpa [hd] using e1.symm
  have g1:=DK hxi;have g2:=mI (y:=y) i;have ge:=QP hY i;have m5 : ∀ have' take w df,take=bw+y.getD i 0->((have'=d/\df=0/\take<=d)\/(have'=d+4294967296/\df=1/\d<take))->w+take=have'->val ((o.set i w).take (i+1))+val (y.take (i+1))=val (x.take (i+1))+4294967296^(i+1)*df:=λ have' take w df a1 a2 a3=>by
   rw[FK (by omega),g1,g2,Nat.pow_succ];exact Ahx p6 a1 a2 a3
  have pd : ∀ w,(o.set i w).drop (i+1)=x.drop (i+1):=λ w=>by
   rw[List.drop_set_of_lt (by omega)];have e1:(o.drop i).drop 1=(x.drop i).drop 1:=by rw[p5]
   simpa using e1
  by_cases hy:i<y.length
  ·obtain ⟨e,he⟩ : ∃ e,y[i]? = some e:=⟨_,zE hy⟩
   have Jt:=hY.at he;rw[F5 he]at m5;by_cases m9:d<bw+e
   ·have h3:=m5 (d+4294967296) (bw+e) (d+4294967296-(bw+e)) 1 (by omega) (Or.inr ⟨rfl,rfl,m9⟩) (by omega)
    (repeat' ((first|(apply AG<;>intro hc<;>try omega)|(apply AU;omega)|(apply FN;omega)|(apply H9;omega;omega)|(apply Z3;omega)|(apply B6;omega)|(apply DX;omega)|apply AQ|(refine A8 (by assumption) ?_ rfl ?_;omega)|refine IQ (by assumption) ?_|apply AD)<;>conv=>whnf))
    refine EY (by omega) ?_;(conv=>whnf)
    (repeat' ((first|(apply A0;omega)|fail)<;>conv=>whnf))
    exact BH [] (by (conv=>whnf);exact ⟨rfl,rfl,rfl⟩) (ih (i+1) (o.set i (d+4294967296-(bw+e))) 1 (by omega) ⟨by omega,by simpa using p2,p3.set _ (by omega),by omega,pd _,h3⟩)
   ·have h3:=m5 d (bw+e) (d-(bw+e)) 0 (by omega) (Or.inl ⟨rfl,rfl,by omega⟩) (by omega)
    (repeat' ((first|(apply AG<;>intro hc<;>try omega)|(apply AU;omega)|(apply FN;omega)|(apply H9;omega;omega)|(apply B6;omega)|(apply DX;omega)|apply AQ|(refine A8 (by assumption) ?_ rfl ?_;omega)|refine IQ (by assumption) ?_|apply AD)<;>conv=>whnf))
    refine EY (by omega) ?_;(conv=>whnf)
    (repeat' ((first|(apply A0;omega)|fail)<;>conv=>whnf))
    exact BH [] (by (conv=>whnf);exact ⟨rfl,rfl,rfl⟩) (ih (i+1) (o.set i (d-(bw+e))) 0 (by omega) ⟨by omega,by simpa using p2,p3.set _ (by omega),by omega,pd _,h3⟩)
  ·rw[<-QQ (show y.length<=i by omega)]at m5
   by_cases m9:d<bw
   ·have h3:=m5 (d+4294967296) (bw) (d+4294967296-(bw)) 1 (by omega) (Or.inr ⟨rfl,rfl,m9⟩) (by omega)
    (repeat' ((first|(apply AG<;>intro hc<;>try omega)|(apply AU;omega)|(apply H9;omega;omega)|(apply Z3;omega)|(apply B6;omega)|(apply DX;omega)|apply AQ|refine IQ (by assumption) ?_|apply AD)<;>conv=>whnf))
    refine EY (by omega) ?_;(conv=>whnf)
    (repeat' ((first|(apply A0;omega)|fail)<;>conv=>whnf))
    exact BH [] (by (conv=>whnf);exact ⟨rfl,rfl,rfl⟩) (ih (i+1) (o.set i (d+4294967296-(bw))) 1 (by omega) ⟨by omega,by simpa using p2,p3.set _ (by omega),by omega,pd _,h3⟩)
   ·have h3:=m5 d (bw) (d-(bw)) 0 (by omega) (Or.inl ⟨rfl,rfl,by omega⟩) (by omega)
    (repeat' ((first|(apply AG<;>intro hc<;>try omega)|(apply AU;omega)|(apply H9;omega;omega)|(apply B6;omega)|(apply DX;omega)|apply AQ|refine IQ (by assumption) ?_|apply AD)<;>conv=>whnf))
    refine EY (by omega) ?_;(conv=>whnf)
    (repeat' ((first|(apply A0;omega)|fail)<;>conv=>whnf))
    exact BH [] (by (conv=>whnf);exact ⟨rfl,rfl,rfl⟩) (ih (i+1) (o.set i (d-(bw))) 0 (by omega) ⟨by omega,by simpa using p2,p3.set _ (by omega),by omega,pd _,h3⟩)
 ·obtain rfl:i=x.length:=by omega
  clear ih;rw[CW (by omega),CW (Nat.le_refl _)]at p6;have h1:=EQ p3;rw[p2]at h1;have h2:val (y.take x.length)<=val y:=by have:=VP y x.length;omega
  have vq:bw=0:=by
   rcases Nat.eq_zero_or_pos bw with h|h
   ·exact h
   ·have:bw=1:=by omega
    subst this;omega
  subst vq;have hve:val (y.take x.length)=val y:=by
   have h3:=VP y x.length;rcases Nat.eq_zero_or_pos (val (y.drop x.length)) with h|h
   ·rw[h]at h3;omega
   ·have h4:4294967296^x.length*1<=4294967296^x.length*val (y.drop x.length):=Nat.mul_le_mul_left _ h
    have h5:=EQ hX;omega
  have hv:val o=val x-val y:=by omega
  have hT:=λ q=>FS N o q p3 (by omega)
  rw[<-hv,<-p2];(repeat' ((first|(apply AG<;>intro hc<;>try omega)|(refine C7 (λ_=>rfl) rfl ?_ ?_;(first|rfl|simp))|apply AD|refine AC (hT _) ?_)<;>conv=>whnf))
  exact AW rfl (IV _)
theorem iE (N:a7 L) (a b:List Nat) (q1 q2:Bool) (hA:AY a) (hB:AY b) (la:a.length<=549755813888) (lb:b.length<=549755813888):Ev L 104 [.sl q1 (a.map AL),.sl q2 (b.map AL)] (.sl false ((dg (val a-val b)).map AL)):=by
 have n6:=λ q q'=>iD N a b q q' hA hB (by omega) (by omega)
 have t2:=λ q=>FS N b q hB (by omega)
 refine Ev.x N.II rfl rfl ?_;by_cases m9:val a<val b
 ·rw[<-HM (by omega)]at n6
  rw[show val a-val b=0 by omega,EN];(repeat' ((first|(apply AG<;>intro hc<;>try omega)|apply AD|refine AC (n6 _ _) ?_)<;>conv=>whnf))
  exact AW rfl (IV [])
 ·have nh:=aO (show val b<=val a by omega)
  generalize CS (val a) (val b)=cm at *;have d2:=DI (val b);have v2:=BN (val b);have l2:=EI hB;rw[<-v2];rw[<-v2]at m9;generalize dg (val b)=y at *;have Nk : ∀ n,a.take n=dg (val a)->val (a.take n)=val a:=λ n h=>by rw[h,BN]
  (repeat' ((first|(apply AG<;>intro hc<;>try omega)|apply AD|refine AC (n6 _ _) ?_|refine AC (t2 _) ?_)<;>conv=>whnf))
  refine EM 1000 N.GZ rfl rfl ?_;(repeat' ((first|apply AQ|apply AD)<;>conv=>whnf))
  refine DF (λ n=>n) (λ(n:Nat)=>n<=a.length /\ ∀ i,n<=i->i<a.length->a[i]? = some 0) (λ n=>[(3,.int .i64 n)]) (λ_=>[]) a.length ⟨Nat.le_refl _,λ i h1 h2=>by omega⟩ ?_;intro n ⟨p1,p2⟩ ih;rcases n with _|n
  ·have hv:=Nk _ (FQ hA p1 p2 (Or.inl rfl))
   clear ih;(repeat' ((first|(apply AG<;>intro hc<;>try omega)|apply AD)<;>conv=>whnf))
   refine OC (k:=0) (λ_=>rfl) (by omega) ?_;(conv=>whnf)
   refine PB (enc:=AL) (λ_=>rfl) (by rw[List.length_take];omega) (by rw[List.length_take];omega) ?_;(conv=>whnf)
   refine ⟨rfl,_,rfl,?_⟩;(conv=>whnf)
   skip
   rw[<-hv];exact BH [] (by (conv=>whnf);exact ⟨rfl,rfl,rfl⟩) (wU N (a.take 0) y (hA.take _) d2 (by simp) (by omega) (by omega))
  ·have e1:((n+1:Nat):Int)-1=n:=by omega
   (repeat' ((first|(apply AG<;>intro hc<;>try omega)|(apply BT;omega)|(refine QF (by assumption) ?_ (λ e he hb => ?_);omega)|apply AD)<;>conv=>whnf))
   ·rw[e1]
    exact BQ [] (ih n (by omega) ⟨by omega,λ i h1 h2=>by
     by_cases h:i=n
     ·subst h
      rw[e1,Int.toNat_natCast]at he;rw[he];congr 1;omega
     ·exact p2 i (by omega) h2⟩)
   ·rw[e1,Int.toNat_natCast]at he
    have hv:=Nk _ (FQ hA p1 p2 (Or.inr ⟨_,he,by omega⟩));clear ih;refine OC (k:=n+1) (λ_=>rfl) (by omega) ?_;(conv=>whnf)
    refine PB (enc:=AL) (λ_=>rfl) (by rw[List.length_take];omega) (by rw[List.length_take];omega) ?_;(conv=>whnf)
    refine ⟨rfl,_,rfl,?_⟩;(conv=>whnf)
    skip
    rw[<-hv];exact BH [] (by (conv=>whnf);exact ⟨rfl,rfl,rfl⟩) (wU N (a.take (n+1)) y (hA.take _) d2 (by rw[List.length_take];omega) (by omega) (by omega))
theorem Aer (N:a7 L) (x y:List Nat) (q1 q2:Bool) (hA:AY x) (hB:AY y) (Pg:x.length+y.length<=549755813888):Ev L 105 [.sl q1 (x.map AL),.sl q2 (y.map AL)] (.sl false ((dg (val x*val y)).map AL)):=by
 refine Ev.x N.L7 rfl rfl ?_;(repeat' ((first|(apply A0;omega)|apply AQ|apply AD)<;>conv=>whnf))
 refine EH (enc:=AL) 0 (x.length+y.length+1) rfl (by omega) (by omega) ?_;(conv=>whnf)
 skip
 refine HG (λ i _=>x.length-i) (λ(i:Nat) (o:List Nat)=>i<=x.length/\o.length=x.length+y.length+1/\AY o/\val o=val (x.take i)*val y /\ ∀ k,i+y.length<=k->k<o.length->o[k]? = some 0) (λ i o=>[(6,.int .i64 i)]) (λ i o=>[(15,15,.rw 1 (o.map AL))]) 0 (List.replicate (x.length+y.length+1) 0) ⟨by omega,by simp,ID _,by simp [val,dT],λ k h1 h2=>by simp at h2;simp [h2]⟩ ?_;intro i O ⟨p1,p2,p3,p4,p5⟩ ih;by_cases hi:i<x.length
 ·obtain ⟨d,hd⟩ : ∃ d,x[i]? = some d:=⟨_,zE hi⟩
  have dk:=hA.at hd;(repeat' ((first|(apply AG<;>intro hc<;>try omega)|apply AQ|apply AD)<;>conv=>whnf))
  refine FY (λ j _ _=>y.length-j) (λ(j:Nat) (o:List Nat) (c:Nat)=>j<=y.length/\o.length=x.length+y.length+1/\AY o/\c<4294967296/\val o+4294967296^(i+j)*c=val O+4294967296^i*(d*val (y.take j)) /\ ∀ k,i+j<=k->o[k]? = O[k]?) (λ j o c=>[(7,.int .u64 (c:Int)),(8,.int .i64 j)]) (λ j o c=>[(15,15,.rw 1 (o.map AL))]) 0 O 0 ⟨by omega,p2,p3,by omega,by simp [val],λ_ _=>rfl⟩ ?_;intro j o c ⟨r1,r2,r3,r4,r5,r6⟩ jh;have e1:((i:Int)+j).toNat=i+j:=by omega
  by_cases hj:j<y.length
  ·obtain ⟨w,hw⟩ : ∃ w,y[j]? = some w:=⟨_,zE hj⟩
   have Lu:=hB.at hw;have hm:=W2 dk Lu;(repeat' ((first|(apply AG<;>intro hc<;>try omega)|(apply AU;omega)|(apply A0;omega)|(apply FN;omega)|(apply PD;omega)|(apply B6;omega)|apply FG|apply AQ|(refine A8 (by assumption) ?_ rfl ?_;omega)|(refine nD (by assumption) ?_ (λ v hv hb => ?_);omega)|apply AD)<;>conv=>whnf))
   refine aC (i+j) (by omega) (by omega) ?_;(conv=>whnf)
   (repeat' ((first|(apply A0;omega)|apply E4)<;>conv=>whnf))
   refine BH [] (by (conv=>whnf);exact ⟨rfl,rfl,rfl⟩) (jh (j+1) _ _ (by omega) ⟨by omega,by simpa using r2,r3.set _ (by omega),by omega,?_,?_⟩)
   ·have h1:=dP (v:=(c+(d*w+v))%4294967296) hv
    have h2:=PJ 0 (4294967296^(i+j)) (c+(d*w+v));rw[DK hw,show i+(j+1)=i+j+1 by omega,Nat.pow_succ (4294967296) (i+j)];have h3:4294967296^i*(d*(val (y.take j)+4294967296^j*w))=4294967296^i*(d*val (y.take j))+4294967296^(i+j)*(d*w):=by rw[Nat.pow_add];grind
    rw[h3];generalize 4294967296^(i+j)=P at *;rw[Nat.mul_add P c,Nat.mul_add P]at h2;omega
   ·intro k hk
    rw[List.getElem?_set_ne (by omega)];exact r6 k (by omega)
  ·obtain rfl:j=y.length:=by omega
   clear jh;have hz:=r6 (i+y.length) (by omega);rw[p5 (i+y.length) (by omega) (by omega)]at hz;(repeat' ((first|(apply AG<;>intro hc<;>try omega)|(apply AU;omega)|(apply A0;omega)|(apply DX;omega)|apply AQ|apply AD)<;>conv=>whnf))
   refine aC (i+y.length) (by omega) (by omega) ?_;(conv=>whnf)
   (repeat' ((first|(apply A0;omega)|fail)<;>conv=>whnf))
   refine BH [] (by (conv=>whnf);exact ⟨rfl,rfl,rfl⟩) (ih (i+1) _ (by omega) ⟨by omega,by simpa using r2,r3.set _ (by omega),?_,?_⟩)
   ·have h1:=dP (v:=c) hz
    rw[Nat.mul_zero,Nat.add_zero]at h1;rw[h1,r5,p4,CW (Nat.le_refl _),DK hd,Nat.add_mul,Nat.mul_assoc]
   ·intro k h1 h2
    rw[List.length_set]at h2;rw[List.getElem?_set_ne (by omega),r6 k (by omega)];exact p5 k (by omega) (by omega)
 ·obtain rfl:i=x.length:=by omega
  clear ih;rw[CW (Nat.le_refl _)]at p4;have hT:=λ q=>FS N O q p3 (by omega)
  rw[p4]at hT;rw[<-p2];(repeat' ((first|(apply AG<;>intro hc<;>try omega)|apply AQ|(refine C7 (λ_=>rfl) rfl ?_ ?_;(first|rfl|simp))|apply AD|refine AC (hT _) ?_)<;>conv=>whnf))
  exact AW rfl (IV _)
theorem Vt {d:Nat} (h0:d≠0) (hd:d<4294967296):dg d=[d]:=by
 rw[IC h0,Nat.div_eq_of_lt hd,EN,Nat.mod_eq_of_lt hd]
theorem Aep (N:a7 L) (d:Nat) (q:Bool) (h0:d≠0) (hd:d<4294967296):Ev L 106 [.sl q ([d].map AL)] (.int .i64 (o9 d:Int)):=by
 have hT:=λ q=>FS N [d] q (GS hd) (by simp)
 rw[show val [d]=d by simp [val],Vt h0 hd]at hT;have xp:[d].length=1:=rfl;have Cm:[d][(([d].length:Int)-1).toNat]? = some d:=rfl;have hb:=aF (k:=32) hd;refine Ev.x N.L4 rfl rfl ?_;(repeat' ((first|(apply AG<;>intro hc<;>try omega)|(apply BT;omega)|(apply PC;omega)|apply AQ|(refine A8 (by assumption) ?_ rfl ?_;omega)|apply AD|refine AC (hT _) ?_)<;>conv=>whnf))
 refine HG (λ_ x=>x) (λ(n x:Nat)=>n+o9 x=o9 d/\x<=d) (λ n x=>[(3,.int .i64 n),(4,.int .u32 (x:Int))]) (λ_ _=>[]) 0 d ⟨by omega,Nat.le_refl _⟩ ?_;intro n x ⟨p1,p2⟩ ih;by_cases hx:x=0
 ·subst hx
  have:o9 0=0:=by unfold o9;simp
  (repeat' ((first|(apply AG<;>intro hc<;>try omega)|apply AD)<;>conv=>whnf))
  exact CM (by omega)
 ·have h1:o9 (x/2)+1=o9 x:=by
   by_cases h1:x=1
   ·subst h1;decide
   ·exact X4 1 (x:=x) (by omega)
  (repeat' ((first|(apply AG<;>intro hc<;>try omega)|(apply A0;omega)|apply Ro|apply AD)<;>conv=>whnf))
  exact BQ [] (ih (n+1) (x/2) (by omega) ⟨by omega,by omega⟩)
theorem zO {V P X lo s d p t:Nat} (h:V+P*p*lo=P*(X*2^s)) (ht:t=lo+d*2^s):V+P*p*(t%4294967296)+P*p*4294967296*(t/4294967296)=P*((X+p*d)*2^s):=by
 have h1:=PJ V (P*p) t;rw[h1,ht];have:P*((X+p*d)*2^s)=P*(X*2^s)+P*p*(d*2^s):=by grind
 rw[this,<-h,Nat.mul_add];omega
theorem rX (N:a7 L) (l:List Nat) (q:Bool) (n:Nat) (hD:AY l) (hl:l.length<=549755813888) (hn:n<=65536):Ev L 107 [.sl q (l.map AL),.int .i64 (n:Int)] (.sl false ((dg (val l*2^n)).map AL)):=by
 have hT:=λ q=>FS N l q hD (by omega)
 have d1:=DI (val l);have v1:=BN (val l);have l1:=EI hD;have hz:=HO (val l);refine Ev.x N.HX rfl rfl ?_;by_cases h0:val l=0
 ·rw[h0,Nat.zero_mul,EN]
  (repeat' ((first|(apply AG<;>intro hc<;>try omega)|apply AQ|apply AD|refine AC (hT _) ?_)<;>conv=>whnf))
  exact AW rfl (IV [])
 rw[<-v1];generalize dg (val l)=x at *;have dw:n%32<32:=Nat.mod_lt _ (by omega);have e1:(n:Int)/32=((n/32:Nat):Int):=by omega
 have e2:(n:Int)%32=((n%32:Nat):Int):=by omega
 (repeat' ((first|(apply AG<;>intro hc<;>try omega)|(refine RT ?_ ?_ (λ_ => ?_) (λ_ _ => ?_);omega;omega;all_goals try omega)|apply AQ|apply AD|refine AC (hT _) ?_)<;>conv=>whnf))
 rw[e1];refine EH (enc:=AL) 0 (n/32) rfl rfl (by omega) ?_;(conv=>whnf)
 skip
 refine FY (λ i _ _=>x.length-i) (λ(i:Nat) (o:List Nat) (c:Nat)=>i<=x.length/\o.length=n/32+i/\AY o/\c<2^(n%32)/\val o+4294967296^(n/32)*4294967296^i*c=4294967296^(n/32)*(val (x.take i)*2^(n%32))) (λ i o c=>[(10,.int .i64 i),(9,.int .u64 (c:Int)),(8,.row 107069 0 1 0 (n/32+i))]) (λ i o c=>[(107069,107069,.rw 1 (o.map AL))]) 0 (List.replicate (n/32) 0) 0 ⟨by omega,by simp,ID _,Nat.two_pow_pos _,by simp [val,dT]⟩ ?_;intro i o c ⟨p1,p2,p3,p4,p5⟩ ih;have sj:=Y6 (s:=n%32) (by omega);by_cases hi:i<x.length
 ·obtain ⟨d,hd⟩ : ∃ d,x[i]? = some d:=⟨_,zE hi⟩
  have dk:=d1.at hd;obtain ⟨f1,f2,f3,f4⟩:=VH (s:=n%32) dk (by omega);have hr:=cE (show n%32<=64 by omega) f4;(repeat' ((first|(apply AG<;>intro hc<;>try omega)|(refine V0 ?_ (λ_ _ _ => ?_) (λ_ _ _ _ => ?_);omega;all_goals try omega)|(apply B6;omega)|apply AQ|(refine A8 (by assumption) ?_ rfl ?_;omega)|apply AD)<;>conv=>whnf))
  rw[e2];refine PG (by omega) f4 ?_;(conv=>whnf)
  skip
  refine Z4 (n%32) (Nat.mul_mod_left _ _) p4 (by omega) ?_;(conv=>whnf)
  have m5:=zO (d:=d) p5 rfl;have vu:(c+d*2^(n%32))/4294967296<2^(n%32):=by
   rw[Nat.div_lt_iff_lt_mul (by omega)];have:=zR (2^(n%32)) (show d<=4294967295 by omega)
   omega
  generalize c+d*2^(n%32)=t at *;(repeat' ((first|apply FG|apply EE)<;>conv=>whnf))
  refine EX (enc:=AL) (t%4294967296) rfl p2.symm rfl (by omega) (by omega) ?_;(conv=>whnf)
  (repeat' ((first|(apply A0;omega)|apply E4)<;>conv=>whnf))
  rw[show (o++[t%4294967296]).length=n/32+(i+1) by simp [p2];omega];refine BH [(107069,107091)] (by (conv=>whnf);exact ⟨rfl,rfl,rfl⟩) (ih (i+1) (o++[t%4294967296]) (t/4294967296) (by omega) ⟨by omega,by simp;omega,p3.append (GS (by omega)),vu,?_⟩);rw[NY,p2,DK hd,Nat.pow_add,Nat.pow_succ,<-Nat.mul_assoc];exact m5
 ·obtain rfl:i=x.length:=by omega
  clear ih;have jt:c<4294967296:=by omega
  have hOD:AY (o++[c]):=p3.append (GS jt);have wy:val (o++[c])=val x*2^n:=by
   rw[NY,p2,Nat.pow_add,p5,CW (Nat.le_refl _)];have e3:2^n=4294967296^(n/32)*2^(n%32):=by
    rw[show 4294967296=2^32 from rfl,<-Nat.pow_mul,<-Nat.pow_add];congr 1;omega
   rw[e3];grind
  have Dp:(o++[c]).length=n/32+x.length+1:=by simp [p2]
  (repeat' ((first|(apply AG<;>intro hc<;>try omega)|(apply DX;omega)|apply AQ|apply EE|apply AD)<;>conv=>whnf))
  refine EX (enc:=AL) c rfl p2.symm rfl (by omega) (by omega) ?_;(conv=>whnf)
  rw[<-wy,Dp];generalize o++[c]=O at *;rw[<-Dp];clear p3 p4 p5 wy;refine EM 1000 N.GZ rfl rfl ?_;(repeat' (apply AD<;>conv=>whnf))
  refine DF (λ n=>n) (λ(n:Nat)=>n<=(O).length /\ ∀ i,n<=i->i<(O).length->(O)[i]? = some 0) (λ n=>[(3,.int .i64 n)]) (λ_=>[]) (O).length ⟨Nat.le_refl _,λ i h1 h2=>by omega⟩ ?_;intro n ⟨p1,p2⟩ ih;rcases n with _|n
  ·(repeat' ((first|(apply AG<;>intro hc<;>try omega)|apply AD)<;>conv=>whnf))
   refine GN 0 (by omega) (by omega) ?_;(conv=>whnf)
   have cg:=FQ (l:=O) (by assumption) p1 p2 (Or.inl rfl);have q6:(List.take 0 O).length<=(O).length:=by rw[List.length_take];omega
   clear ih p2;refine Z9 (enc:=AL) (by omega) ?_;(conv=>whnf)
   rw[List.drop_zero,Nat.sub_zero];generalize yw:List.take 0 O=T0 at *;refine PB (enc:=AL) (λ_=>rfl) (by omega) (by omega) ?_;(conv=>whnf)
   refine ⟨rfl,_,rfl,?_⟩;(conv=>whnf)
   (refine C7 (enc:=AL) (λ_=>rfl) rfl rfl ?_;(conv=>whnf);exact AW (by rw[<-cg]) (IV _))
  ·have e1:((n+1:Nat):Int)-1=n:=by omega
   (repeat' ((first|(apply AG<;>intro hc<;>try omega)|(apply AU;omega)|(apply BT;omega)|(refine RS (by assumption) ?_ (λ v hv hb => ?_);omega)|apply AD)<;>conv=>whnf))
   ·rw[e1]
    exact BQ [] (ih n (by omega) ⟨by omega,λ i h1 h2=>by
     by_cases h:i=n
     ·subst h
      rw[e1,Int.toNat_natCast]at hv;rw[hv];congr 1;omega
     ·exact p2 i (by omega) h2⟩)
   ·refine GN (n+1) (by omega) (by omega) ?_
    (conv=>whnf)
    rw[e1,Int.toNat_natCast]at hv;have cg:=FQ (l:=O) (by assumption) p1 p2 (Or.inr ⟨_,hv,by omega⟩);have q6:(List.take (n+1) O).length<=(O).length:=by rw[List.length_take];omega
    clear ih p2 hv;(rw[nW (l:=O)];rotate_left;exact rfl;exact rfl);(conv=>whnf)
    refine Z9 (enc:=AL) (by omega) ?_;(conv=>whnf)
    rw[List.drop_zero,Nat.sub_zero];generalize yw:List.take (n+1) O=T0 at *;refine PB (enc:=AL) (λ_=>rfl) (by omega) (by omega) ?_;(conv=>whnf)
    refine ⟨rfl,_,rfl,?_⟩;(conv=>whnf)
    (refine C7 (enc:=AL) (λ_=>rfl) rfl rfl ?_;(conv=>whnf);exact AW (by rw[<-cg]) (IV _))
theorem AiC {l:List Nat} (hD:AY l) (k:Nat) (hk:k<=l.length):val (l.drop k)=val l/4294967296^k:=by
 have h1:=JH l k hk;have h2:=EQ (hD.take k);rw[List.length_take,Nat.min_eq_left hk]at h2;rw[h1,Nat.add_mul_div_left _ _ (Nat.pow_pos (by omega)),Nat.div_eq_of_lt h2,Nat.zero_add]
theorem Ag0 (n:Nat):2^n=4294967296^(n/32)*2^(n%32):=by
 rw[show 4294967296=2^32 from rfl,<-Nat.pow_mul,<-Nat.pow_add];congr 1;omega
theorem Zt {d e V r:Nat} (hd:d<4294967296) (hr:r<32):(d+e*4294967296)/2^r%4294967296+4294967296*((e+4294967296*V)/2^r)=(d+4294967296*(e+4294967296*V))/2^r:=by
 obtain ⟨f1,f2,f3⟩:=uX (V:=e) hd (show r<=32 by omega);rw[jO (d:=d) (V:=e+4294967296*V) (by omega),uY (d:=e) (V:=V) (by omega)];have h1:=jO (d:=d) (V:=e) (s:=r) (by omega);rw[show d+e*4294967296=d+4294967296*e by omega,h1];clear h1;generalize d/2^r=A at *;generalize e%2^r*2^(32-r)=Q at *;generalize e/2^r=Z at *;generalize 2^(32-r)=P at *;omega
theorem Aes (N:a7 L) (l:List Nat) (q:Bool) (n:Nat) (hD:AY l) (hl:l.length<=549755813888) (hn:1<=n/\n<=65536):Ev L 107 [.sl q (l.map AL),.int .i64 (-(n:Int))] (.sl false ((dg (val l/2^n)).map AL)):=by
 have hT:=λ q=>FS N l q hD (by omega)
 have d1:=DI (val l);have v1:=BN (val l);have l1:=EI hD;have hz:=HO (val l);refine Ev.x N.HX rfl rfl ?_;by_cases h0:val l=0
 ·rw[h0,Nat.zero_div,EN]
  (repeat' ((first|(apply AG<;>intro hc<;>try omega)|apply AQ|apply AD|refine AC (hT _) ?_)<;>conv=>whnf))
  exact AW rfl (IV [])
 rw[<-v1];generalize dg (val l)=x at *;have Kz:n%32<32:=Nat.mod_lt _ (by omega);have e1:(- -(n:Int))/32=((n/32:Nat):Int):=by omega
 have e2:(- -(n:Int))%32=((n%32:Nat):Int):=by omega
 by_cases Anf:32*x.length<n
 ·have m9:val x/2^n=0:=by
   refine Nat.div_eq_of_lt (Nat.lt_of_lt_of_le (EQ d1) ?_);rw[show 4294967296=2^32 from rfl,<-Nat.pow_mul];exact Nat.pow_le_pow_right (by omega) (by omega)
  rw[m9,EN];(repeat' ((first|(apply AG<;>intro hc<;>try omega)|(apply PC;omega)|apply AQ|apply AD|refine AC (hT _) ?_)<;>conv=>whnf))
  exact AW rfl (IV [])
 have hk:n/32<=x.length:=by omega
 have hvd:=AiC d1 _ hk;(repeat' ((first|(apply AG<;>intro hc<;>try omega)|(apply PC;omega)|(refine RT ?_ ?_ (λ_ => ?_) (λ_ _ => ?_);omega;omega;all_goals try omega)|(apply C8.neg;omega)|apply AQ|apply AD|refine AC (hT _) ?_)<;>conv=>whnf))
 rw[e1];refine HG (λ i _=>x.length-i) (λ(i:Nat) (o:List Nat)=>n/32<=i/\i<=x.length/\o.length=i-n/32/\AY o/\val o+4294967296^(i-n/32)*(val (x.drop i)/2^(n%32))=val (x.drop (n/32))/2^(n%32)) (λ i o=>[(6,.int .i64 i),(5,.row 107005 0 1 0 o.length)]) (λ i o=>[(107005,107005,.rw 1 (o.map AL))]) (n/32) [] ⟨Nat.le_refl _,hk,by simp,WB,by simp [val]⟩ ?_;intro i o ⟨p0,p1,p2,p3,p5⟩ ih;by_cases hi:i<x.length
 ·obtain ⟨d,hd⟩ : ∃ d,x[i]? = some d:=⟨_,zE hi⟩
  have dk:=d1.at hd;have g1:=GM hd;have g2:=VO x (i+1);have g3:=Zt (e:=x.getD (i+1) 0) (V:=val (x.drop (i+1+1))) dk Kz;rw[<-g2,<-g1]at g3;have key : ∀ t,t=d+x.getD (i+1) 0*4294967296->val (o++[t/2^(n%32)%4294967296])+4294967296^(i+1-n/32)*(val (x.drop (i+1))/2^(n%32))=val (x.drop (n/32))/2^(n%32):=λ t ht=>by
   rw[NY,p2,show i+1-n/32=(i-n/32)+1 by omega,Nat.pow_succ,ht,Nat.add_assoc,Nat.mul_assoc,<-Nat.mul_add,g3];exact p5
  by_cases hy:i+1<x.length
  ·obtain ⟨e,he⟩ : ∃ e,x[i+1]? = some e:=⟨_,zE hy⟩
   have Jt:=d1.at he;have ja:x[((i:Int)+1).toNat]? = some e:=by rw[show ((i:Int)+1).toNat=i+1 by omega];exact he
   rw[F5 he]at key;(repeat' ((first|(apply AG<;>intro hc<;>try omega)|(apply A0;omega)|(apply N9;omega)|(apply B6;omega)|apply AQ|(refine A8 (by assumption) ?_ rfl ?_;omega)|apply AD)<;>conv=>whnf))
   refine Z4 32 (Nat.mul_mod_left _ _) (by omega) (by omega) ?_;(conv=>whnf)
   (repeat' ((first|(refine V0 ?_ (λ_ _ _ => ?_) (λ_ _ _ _ => ?_);omega;all_goals try omega)|(apply B6;omega))<;>conv=>whnf))
   rw[e2];refine PF (n:=n%32) (by show n%32<=64;omega) ?_;(conv=>whnf)
   (repeat' ((first|apply FG|apply EE)<;>conv=>whnf))
   refine EX (enc:=AL) ((d+e*4294967296)/2^(n%32)%4294967296) rfl rfl rfl (by omega) (by omega) ?_;(conv=>whnf)
   (repeat' ((first|(apply A0;omega)|fail)<;>conv=>whnf))
   exact BQ [(107005,107064)] (ih (i+1) (o++[(d+e*4294967296)/2^(n%32)%4294967296]) (by omega) ⟨by omega,by omega,by simp;omega,p3.append (GS (by omega)),key (d+e*4294967296) rfl⟩)
  ·rw[<-QQ (show x.length<=i+1 by omega),Nat.zero_mul]at key
   (repeat' ((first|(apply AG<;>intro hc<;>try omega)|(apply A0;omega)|(refine V0 ?_ (λ_ _ _ => ?_) (λ_ _ _ _ => ?_);omega;all_goals try omega)|(apply B6;omega)|apply AQ|(refine A8 (by assumption) ?_ rfl ?_;omega)|apply AD)<;>conv=>whnf))
   rw[e2];refine PF (n:=n%32) (by show n%32<=64;omega) ?_;(conv=>whnf)
   (repeat' ((first|apply FG|apply EE)<;>conv=>whnf))
   refine EX (enc:=AL) (d/2^(n%32)%4294967296) rfl rfl rfl (by omega) (by omega) ?_;(conv=>whnf)
   (repeat' ((first|(apply A0;omega)|fail)<;>conv=>whnf))
   exact BQ [(107005,107064)] (ih (i+1) (o++[d/2^(n%32)%4294967296]) (by omega) ⟨by omega,by omega,by simp;omega,p3.append (GS (by omega)),key d rfl⟩)
 ·obtain rfl:i=x.length:=by omega
  clear ih;rw[List.drop_of_length_le (Nat.le_refl _),H8,Nat.zero_div,Nat.mul_zero,Nat.add_zero,hvd,Nat.div_div_eq_div_mul,<-Ag0]at p5;have re:=λ q=>FS N o q p3 (by omega)
  rw[p5]at re;(repeat' ((first|(apply AG<;>intro hc<;>try omega)|apply AQ|(refine C7 (λ_=>rfl) rfl ?_ ?_;(first|rfl|simp))|apply AD|refine AC (re _) ?_)<;>conv=>whnf))
  exact AW rfl (IV _)
end Go.e8
namespace Go.e8
open F
attribute [local irreducible] AA AF AM AE C8 AX BF BD B9 B2 CX E9 B0 A5 B5 CQ AB A7 AJ pw BR BO C4 D0 DZ DU DN BZ DW
set_option maxHeartbeats 4000000
variable {L:Lib}
theorem Ah7 {V R y d t Q:Nat} (h:Q*y+R=V) (ht:t=R*4294967296+d):(t/y+4294967296*Q)*y+t%y=d+4294967296*V:=by
 have:=Nat.div_add_mod t y
 rw[<-h,Nat.add_mul];have e:t/y*y=y*(t/y):=Nat.mul_comm _ _;grind
theorem Aet (N:a7 L) (x:List Nat) (Y:Nat) (q:Bool) (d1:AY x) (hx:x.length<=549755813888) (h0:Y≠0) (hY:Y<4294967296):Ev L 108 [.sl q (x.map AL),.int .u32 (Y:Int)] (.l6 [.sl false ((dg (val x/Y)).map AL),.int .u32 ((val x%Y:Nat):Int)]):=by
 refine Ev.x N.L8 rfl rfl ?_;(repeat' ((first|apply AQ|apply AD)<;>conv=>whnf))
 refine EH (enc:=AL) 0 x.length rfl (by omega) (by omega) ?_;(conv=>whnf)
 (repeat' ((first|(apply BT;omega)|apply AQ)<;>conv=>whnf))
 refine FY (λ n _ _=>n) (λ(n:Nat) (o:List Nat) (r:Nat)=>n<=x.length/\o.length=x.length/\AY o/\r<Y/\val (o.drop n)*Y+r=val (x.drop n)) (λ n o r=>[(7,.int .u64 (r:Int)),(8,.int .i64 ((n:Int)-1))]) (λ n o r=>[(11,11,.rw 1 (o.map AL))]) x.length (List.replicate x.length 0) 0 ⟨by omega,by simp,ID _,by omega,by rw[List.drop_of_length_le (Nat.le_refl _),List.drop_of_length_le (by simp)];simp [val]⟩ ?_;intro n o r ⟨p1,p2,p3,p4,p5⟩ ih;rcases n with _|n
 ·rw[List.drop_zero,List.drop_zero]at p5
  have hq:val x/Y=val o/\val x%Y=r:=by
   rw[<-p5];have e1:(val o*Y+r)/Y=val o:=by
    rw[Nat.mul_comm,Nat.mul_add_div (by omega),Nat.div_eq_of_lt p4,Nat.add_zero]
   have e2:(val o*Y+r)%Y=r:=by
    rw[Nat.mul_comm,Nat.mul_add_mod,Nat.mod_eq_of_lt p4]
   exact ⟨e1,e2⟩
  have hT:=λ q=>FS N o q p3 (by omega)
  rw[hq.1,hq.2,<-p2];clear ih hq p5;(repeat' ((first|(apply AG<;>intro hc<;>try omega)|(apply DX;omega)|(refine C7 (λ_=>rfl) rfl ?_ ?_;(first|rfl|simp))|apply AD|refine AC (hT _) ?_)<;>conv=>whnf))
  refine AW rfl ?_;simp only[A1,CD,and_true,true_and];exact CI _
 ·have e1:((n+1:Nat):Int)-1=n:=by omega
  rw[e1];obtain ⟨d,hd⟩ : ∃ d,x[n]? = some d:=⟨_,zE (by omega)⟩;have dk:=d1.at hd;have hR:r*4294967296+d<Y*4294967296:=by omega
  have ka:(r*4294967296+d)/Y<4294967296:=(Nat.div_lt_iff_lt_mul (by omega)).2 (by omega);(repeat' ((first|(apply AG<;>intro hc<;>try omega)|(apply AU;omega)|(apply N9;omega)|(apply PE;omega)|(apply Z5;omega;omega)|(apply B6;omega)|(apply DX;omega)|(refine A8 (by assumption) ?_ rfl ?_;omega)|apply AD)<;>conv=>whnf))
  obtain ⟨t,ht⟩ : ∃ t,t=r*4294967296+d:=⟨_,rfl⟩;rw[<-ht]at hR ka ⊢;have hm:t%Y<Y:=Nat.mod_lt _ (by omega);have m5:=Ah7 p5 ht;rw[<-GM hd]at m5;clear ht;skip
  refine EY (by omega) ?_;(conv=>whnf)
  (repeat' ((first|(apply BT;omega)|(apply XW;omega)|(apply B6;omega))<;>conv=>whnf))
  generalize t/Y=tq at *;generalize t%Y=tr at *;refine BH [] (by (conv=>whnf);exact ⟨rfl,rfl,rfl⟩) (ih n _ _ (by omega) ⟨by omega,by simpa using p2,p3.set _ (by omega),hm,?_⟩);rw[GM (l:=o.set n tq) (d:=tq) (by rw[List.getElem?_set_self (by omega)]),List.drop_set_of_lt (by omega)];exact m5
theorem aM (a b:List Nat) (e:Int):A1 (.l6 [.sl false (a.map AL),.sl false (b.map AL),.int .i64 e]):=by
 simp only[A1,CD,and_true,true_and];exact ⟨CI a,CI b⟩
abbrev Wg:List It:=[It.lp DB.l1,It.e7 0,
   It.code
    (((A9.ops DB.di false).dr [0,75,79,80] []).seq
     (((A9.ops DB.dj false).dr [81,82,83,84,85] []).seq
      ((((A9.ops DB.fj false).dr [86,87,88,89,90] []).seq
         (A9.block 2 DB.l2.loop)).seq
       (((A9.ops DB.Mh true).dr [9,10,11,12,13,14,92,277,278,279,280,281,282,283,284]
          []).seq
        A9.ret))))]
abbrev aW:List It:=[It.lp DB.l2,It.e7 2,It.code
       (((A9.ops DB.Mh true).dr [9,10,11,12,13,14,92,277,278,279,280,281,282,283,284]
          []).seq
        A9.ret)]
abbrev aX (v:List Nat) (s ul m:Nat) (j:Int):Tm:=[(14,.int .i64 j),(13,.row 85 0 1 0 m),(12,.int .i64 v.length),(11,.sl false (v.map AL)),(10,.row 69 0 1 0 ul),(9,.int .i64 (s:Int))]
abbrev Wf:A9:=(((A9.ops DB.Pk false).dr [18,19,20,166,205,206,207] []).seq
                (((A9.ops DB.Pl false).dr [208,209,210,211,212,213,214] []).seq
                 ((A9.ops DB.Pm false).seq
                  ((((A9.ops DB.Pn false).dr [215,216] []).seq
                     (A9.cond 217
                      (((A9.ops DB.Po false).dr [18,217,218,219] []).seq
                       (A9.ops DB.Pp false))
                      A9.skip)).seq
                   (((A9.ops DB.Pq false).dr
                      [23,24,217,220,221,222,223,224,225,226,227,228] []).seq
                    ((((A9.ops DB.Pr false).dr [18,229] []).seq
                       (A9.cond 230
                        (((A9.ops DB.Ps false).dr [230,231,232] []).seq
                         ((A9.ops DB.Pu false).seq
                          (((A9.ops DB.Pv false).seq
                             (A9.block 8 DB.l5.loop)).seq
                           ((A9.ops DB.Pw false).dr
                            [25,26,235,262,263,264,265,266,267,268,269,270,271]
                            []))))
                        A9.skip)).seq
                     ((A9.ops DB.Px false).dr [16,230,272,273,274,275,276]
                      [])))))))
abbrev Wh:List It:=It.lp DB.l4::It.e7 6::It.code Wf::It.e7 3::It.code ((A9.ops DB.fk false).dr [93,94] [])::aW
section
variable {A W C w y:List Nat} {j m s ul q:Nat} {Q:Tm->Mem->Prop}
theorem VR {e i n:Nat} (hi:i=A.length+n) (he:W[n]? = some e):(A++W++C)[i]? = some e:=by
 rw[zX hi (zS he).1];exact he
theorem gH (hA:A.length=j) (hW:W.length=y.length+1) (D2:AY W) (fo:AY y) (gj:2<=y.length) (vg:y.length<=549755813888) (bh:0<val y) (dv:j<=1099511627776)
  (fu:ul=j+(y.length+1)+C.length) (Hp:w.length=m) (Hd:j<m)
  (r1:q<4294967296) (r2:val W/val y<=q) (r3:q<=val W/val y+1)
  (hk : ∀ (W':List Nat) (q':Nat),W'.length=y.length+1->AY W'->val W'=val W%val y->q'=val W/val y->AA L aW (aX y s ul m ((j:Int)-1)) [(69,101021,.rw 1 ((A++W'++C).map AL)),(85,85,.rw 1 ((w.set j q').map AL))] Q) :
  AA L Wh ([(20,.int .i64 0),(19,.int .u64 0),(18,.int .u64 0),(16,.int .u64 (q:Int))]++aX y s ul m (j:Int)) [(69,101021,.rw 1 ((A++W++C).map AL)),(85,85,.rw 1 (w.map AL))] Q:=by
 refine dV (λ i _ _ _=>y.length-i) (λ(i:Nat) (Z:List Nat) (c b:Nat)=>i<=y.length/\Z.length=y.length+1/\AY Z/\c<4294967296/\b<=1/\Z.drop i=W.drop i/\val (Z.take i)+q*val (y.take i)=val (W.take i)+4294967296^i*(c+b)) (λ i Z c b=>[(20,.int .i64 i),(18,.int .u64 (b:Int)),(19,.int .u64 (c:Int))]) (λ i Z c b=>[(69,101021,.rw 1 ((A++Z++C).map AL))]) [] [] 0 W 0 0 (by (conv=>whnf);exact ⟨rfl,rfl,rfl⟩) ⟨by omega,hW,D2,by omega,by omega,rfl,by simp [val]⟩ ?_;intro i Z c b ⟨p1,p2,p3,p4,p5,p6,p7⟩ ih;by_cases hi:i<y.length
 ·obtain ⟨d,hd⟩ : ∃ d,y[i]? = some d:=⟨_,zE hi⟩
  obtain ⟨u,hu⟩ : ∃ u,Z[i]? = some u:=⟨_,zE (by omega)⟩;have dk:=fo.at hd;have nn:=p3.at hu;have Hk:(A++Z++C)[((i:Int)+(j:Int)).toNat]? = some u:=VR (by omega) hu;obtain ⟨pr,si⟩ : ∃ pr,pr=c+q*d:=⟨_,rfl⟩;obtain ⟨m1,m2,m3⟩:=vJ r1 dk p4 (show pr=q*d+c by omega);have xe:W[i]? = some u:=by
   have e1:(Z.drop i)[0]? = (W.drop i)[0]? := by rw[p6]
   simpa [hu] using e1.symm
  have pd : ∀ w,(Z.set i w).drop (i+1)=W.drop (i+1):=λ w=>by
   rw[List.drop_set_of_lt (by omega)];have e1:(Z.drop i).drop 1=(W.drop i).drop 1:=by rw[p6]
   simpa using e1
  have m5 : ∀ have' take w df,take=pr%4294967296+b->((have'=u/\df=0/\take<=u)\/(have'=u+4294967296/\df=1/\u<take))->w+take=have'->val ((Z.set i w).take (i+1))+q*val (y.take (i+1))=val (W.take (i+1))+4294967296^(i+1)*(pr/4294967296+df):=λ have' take w df a1 a2 a3=>by
   rw[FK (by omega),DK hd,DK xe,Nat.pow_succ];exact Ago p7 si a1 a2 a3
  by_cases m9:u<pr%4294967296+b
  ·have h3:=m5 (u+4294967296) (pr%4294967296+b) (u+4294967296-(pr%4294967296+b)) 1 rfl (Or.inr ⟨rfl,rfl,m9⟩) (by omega)
   (repeat' ((first|(apply AG<;>intro hc<;>try omega)|(apply AU;omega)|(apply A0;omega)|(apply FN;omega)|(apply PD;omega)|(apply nF;omega)|(apply H9;omega;omega)|apply E4|(apply Z3;omega)|(apply B6;omega)|(apply DX;omega)|(refine A8 (by assumption) ?_ rfl ?_;omega)|refine IQ (by assumption) ?_|apply AD)<;>conv=>whnf))
   rw[<-si];skip
   refine OD i (by omega) (by omega) ?_;(conv=>whnf)
   (repeat' ((first|(apply A0;omega)|fail)<;>conv=>whnf))
   exact BH [] (by (conv=>whnf);exact ⟨rfl,rfl,rfl⟩) (ih (i+1) (Z.set i (u+4294967296-(pr%4294967296+b))) (pr/4294967296) 1 (by omega) ⟨by omega,by simpa using p2,p3.set _ (by omega),m1,by omega,pd _,h3⟩)
  ·have h3:=m5 u (pr%4294967296+b) (u-(pr%4294967296+b)) 0 rfl (Or.inl ⟨rfl,rfl,by omega⟩) (by omega)
   (repeat' ((first|(apply AG<;>intro hc<;>try omega)|(apply AU;omega)|(apply A0;omega)|(apply FN;omega)|(apply PD;omega)|(apply nF;omega)|(apply H9;omega;omega)|apply E4|(apply B6;omega)|(apply DX;omega)|(refine A8 (by assumption) ?_ rfl ?_;omega)|refine IQ (by assumption) ?_|apply AD)<;>conv=>whnf))
   rw[<-si];skip
   refine OD i (by omega) (by omega) ?_;(conv=>whnf)
   (repeat' ((first|(apply A0;omega)|fail)<;>conv=>whnf))
   exact BH [] (by (conv=>whnf);exact ⟨rfl,rfl,rfl⟩) (ih (i+1) (Z.set i (u-(pr%4294967296+b))) (pr/4294967296) 0 (by omega) ⟨by omega,by simpa using p2,p3.set _ (by omega),m1,by omega,pd _,h3⟩)
 ·obtain rfl:i=y.length:=by omega
  clear ih;obtain ⟨u,hu⟩ : ∃ u,Z[y.length]? = some u:=⟨_,zE (by omega)⟩;have nn:=p3.at hu;have Hk:(A++Z++C)[((j:Int)+(y.length:Int)).toNat]? = some u:=VR (by omega) hu;have xe:W[y.length]? = some u:=by
   have e1:(Z.drop y.length)[0]? = (W.drop y.length)[0]? := by rw[p6]
   simpa [hu] using e1.symm
  rw[CW (Nat.le_refl y.length)]at p7;have eW:val W=val (W.take y.length)+4294967296^y.length*u:=by
   rw[<-DK xe,CW (by omega)]
  have m5 : ∀ have' take w df,take=c+b->((have'=u/\df=0/\take<=u)\/(have'=u+4294967296/\df=1/\u<take))->w+take=have'->val (Z.set y.length w)+q*val y=val W+4294967296^y.length*4294967296*df:=λ have' take w df a1 a2 a3=>by
   have h1:=Agm p7 a1 a2 a3;rw[<-eW,<-FK (show y.length<Z.length by omega),CW (by simp;omega)]at h1;exact h1
  by_cases m9:u<c+b
  ·have h3:=m5 (u+4294967296) (c+b) (u+4294967296-(c+b)) 1 rfl (Or.inr ⟨rfl,rfl,m9⟩) (by omega)
   have Ec:AY (Z.set y.length (u+4294967296-(c+b))):=p3.set _ (by omega);have Am:(Z.set y.length (u+4294967296-(c+b))).length=y.length+1:=by simpa using p2
   rw[Nat.mul_one]at h3;have Ci:=EQ Ec;rw[Am,Nat.pow_succ]at Ci;obtain ⟨y1,y2,y3⟩:=pZ bh r3 Ci h3;(repeat' ((first|(apply AG<;>intro hc<;>try omega)|(apply AU;omega)|(apply A0;omega)|(apply FN;omega)|(apply H9;omega;omega)|(apply Z3;omega)|(apply B6;omega)|(apply DX;omega)|refine IQ (by assumption) ?_|apply AD)<;>conv=>whnf))
   refine OD y.length (by omega) (by omega) ?_;(conv=>whnf)
   (repeat' ((first|(apply AG<;>intro hc<;>try omega)|(apply H9;omega;omega))<;>conv=>whnf))
   clear p7 p6 eW hu xe nn Hk p2 p3 m5;generalize Z.set y.length (u+4294967296-(c+b))=X at *;have hRV:val W%val y<val y:=Nat.mod_lt _ bh;have Ak:=EQ fo;obtain ⟨xw,Bo⟩ : ∃ xw,X[y.length]? = some xw:=⟨_,zE (by omega)⟩;have eX:val X=val (X.take y.length)+4294967296^y.length*xw:=by
    rw[<-DK Bo,CW (by omega)]
   have xv:q-1<4294967296:=by omega
   refine FY (λ i _ _=>y.length-i) (λ(i:Nat) (Z:List Nat) (c:Nat)=>i<=y.length/\Z.length=y.length+1/\AY Z/\c<=1/\Z.drop i=X.drop i/\val (Z.take i)+4294967296^i*c=val (X.take i)+val (y.take i)) (λ i Z c=>[(26,.int .i64 i),(25,.int .u64 (c:Int))]) (λ i Z c=>[(69,101021,.rw 1 ((A++Z++C).map AL))]) 0 X 0 ⟨by omega,Am,Ec,by omega,rfl,by simp [val]⟩ ?_;intro i Z c ⟨p1,p2,p3,p4,p6,p7⟩ ih;by_cases hi:i<y.length
   ·obtain ⟨d,hd⟩ : ∃ d,y[i]? = some d:=⟨_,zE hi⟩
    obtain ⟨u,hu⟩ : ∃ u,Z[i]? = some u:=⟨_,zE (by omega)⟩;have dk:=fo.at hd;have nn:=p3.at hu;have Hk:(A++Z++C)[((i:Int)+(j:Int)).toNat]? = some u:=VR (by omega) hu;have mg:X[i]? = some u:=by
     have e1:(Z.drop i)[0]? = (X.drop i)[0]? := by rw[p6]
     simpa [hu] using e1.symm
    have au:=nP (d:=d) (w:=u) (t:=c+(u+d)) p7 (by omega);(repeat' ((first|(apply AG<;>intro hc<;>try omega)|(apply AU;omega)|(apply A0;omega)|(apply FN;omega)|(apply B6;omega)|apply FG|(refine A8 (by assumption) ?_ rfl ?_;omega)|refine IQ (by assumption) ?_|apply AD)<;>conv=>whnf))
    generalize ht2:c+(u+d)=t2 at *;refine OD i (by omega) (by omega) ?_;(conv=>whnf)
    (repeat' ((first|(apply A0;omega)|apply E4)<;>conv=>whnf))
    refine BH [] (by (conv=>whnf);exact ⟨rfl,rfl,rfl⟩) (ih (i+1) (Z.set i (t2%4294967296)) (t2/4294967296) (by omega) ⟨by omega,by simpa using p2,p3.set _ (by omega),by omega,?_,?_⟩)
    ·rw[List.drop_set_of_lt (by omega)]
     have e1:(Z.drop i).drop 1=(X.drop i).drop 1:=by rw[p6]
     simpa using e1
    ·rw[FK (by omega),DK hd,DK mg,Nat.pow_succ]
     exact au
   ·obtain rfl:i=y.length:=by omega
    clear ih;obtain ⟨u,hu⟩ : ∃ u,Z[y.length]? = some u:=⟨_,zE (by omega)⟩;have nn:=p3.at hu;have Hk:(A++Z++C)[((j:Int)+(y.length:Int)).toNat]? = some u:=VR (by omega) hu;have mg:X[y.length]? = some u:=by
     have e1:(Z.drop y.length)[0]? = (X.drop y.length)[0]? := by rw[p6]
     simpa [hu] using e1.symm
    rw[mg]at Bo;obtain rfl:u=xw:=by simpa using Bo
    rw[CW (Nat.le_refl y.length)]at p7;have Ed:=EQ (p3.take y.length);rw[List.length_take,Nat.min_eq_left (by omega)]at Ed;rw[eX]at y3;have jb:=nN p7 y3 (by omega) Ed;rw[<-FK (show y.length<Z.length by omega),CW (by simp;omega)]at jb;(repeat' ((first|(apply AG<;>intro hc<;>try omega)|(apply AU;omega)|(apply A0;omega)|apply nE|(apply DX;omega)|refine IQ (by assumption) ?_|apply AD)<;>conv=>whnf))
    refine OD y.length (by omega) (by omega) ?_;(conv=>whnf)
    (repeat' ((first|(apply AU;omega)|(apply DX;omega))<;>conv=>whnf))
    refine EY (by omega) ?_;(conv=>whnf)
    (repeat' ((first|(apply BT;omega)|fail)<;>conv=>whnf))
    exact BH [] (by (conv=>whnf);exact ⟨rfl,rfl,rfl⟩) (hk _ _ (by simpa using p2) (p3.set _ (by omega)) jb y1)
  ·have h3:=m5 u (c+b) (u-(c+b)) 0 rfl (Or.inl ⟨rfl,rfl,by omega⟩) (by omega)
   rw[Nat.mul_zero,Nat.add_zero]at h3;obtain ⟨y1,y2⟩:=qA bh r2 h3;(repeat' ((first|(apply AG<;>intro hc<;>try omega)|(apply AU;omega)|(apply A0;omega)|(apply FN;omega)|(apply H9;omega;omega)|(apply B6;omega)|(apply DX;omega)|refine IQ (by assumption) ?_|apply AD)<;>conv=>whnf))
   refine OD y.length (by omega) (by omega) ?_;(conv=>whnf)
   (repeat' ((first|(apply AG<;>intro hc<;>try omega)|(apply AU;omega)|(apply DX;omega))<;>conv=>whnf))
   refine EY (by omega) ?_;(conv=>whnf)
   (repeat' ((first|(apply BT;omega)|fail)<;>conv=>whnf))
   exact BH [] (by (conv=>whnf);exact ⟨rfl,rfl,rfl⟩) (hk _ _ (by simpa using p2) (p3.set _ (by omega)) y2 y1)
theorem Wi (hA:A.length=j) (hW:W.length=y.length+1) (D2:AY W) (fo:AY y) (gj:2<=y.length) (vg:y.length<=549755813888) (bh:0<val y) (dv:j<=1099511627776)
  (n2:4294967296^(y.length-1)*2147483648<=val y) (g2:val W<4294967296*val y) (fu:ul=j+(y.length+1)+C.length) (Hp:w.length=m) (Hd:j<m)
  (hk : ∀ (W':List Nat) (q':Nat),W'.length=y.length+1->AY W'->val W'=val W%val y->q'=val W/val y->AA L aW (aX y s ul m ((j:Int)-1)) [(69,101021,.rw 1 ((A++W'++C).map AL)),(85,85,.rw 1 ((w.set j q').map AL))] Q) :
  AA L (.code DB.l2::aW) (aX y s ul m (j:Int)) [(69,101021,.rw 1 ((A++W++C).map AL)),(85,85,.rw 1 (w.map AL))] Q:=by
 obtain ⟨UL,a1,a2⟩:=dR D2 (n:=y.length+1) (by omega) (by omega);obtain ⟨VL,b5,b6⟩:=zQ fo (n:=y.length) gj (by omega);obtain ⟨u0,w0⟩ : ∃ d,W[y.length]? = some d:=⟨_,zE (by omega)⟩;obtain ⟨u1,w1⟩ : ∃ d,W[y.length-1]? = some d:=⟨_,zE (by omega)⟩;obtain ⟨u2,w2⟩ : ∃ d,W[y.length-2]? = some d:=⟨_,zE (by omega)⟩;obtain ⟨f1,x1⟩ : ∃ d,y[y.length-1]? = some d:=⟨_,zE (by omega)⟩;obtain ⟨f2,x2⟩ : ∃ d,y[y.length-2]? = some d:=⟨_,zE (by omega)⟩;rw[show y.length+1-3=y.length-2 by omega,show y.length+1-2=y.length-1 by omega,show y.length+1-1=y.length by omega,F5 w0,F5 w1,F5 w2]at a2;rw[show y.length+1-3=y.length-2 by omega]at a1;rw[F5 x1,F5 x2]at b6;have uc:=zA fo (k:=y.length-1) (by omega) n2 x1;have k0:=D2.at w0;have k1:=D2.at w1;have k2:=D2.at w2;have k3:=fo.at x1;have k4:=fo.at x2;have z1:y[((y.length:Int)-1).toNat]? = some f1:=by rw[show ((y.length:Int)-1).toNat=y.length-1 by omega];exact x1
 have z2:y[((y.length:Int)-2).toNat]? = some f2:=by rw[show ((y.length:Int)-2).toNat=y.length-2 by omega];exact x2
 have s8:(A++W++C)[((j:Int)+(y.length:Int)).toNat]? = some u0:=VR (by omega) w0;(repeat' ((first|(apply AG<;>intro hc<;>try omega)|(apply AU;omega)|(apply A0;omega)|(apply BT;omega)|(apply N9;omega)|(apply B6;omega)|refine IQ (by assumption) ?_|apply AD)<;>conv=>whnf))
 have bz:(A++W++C)[((j:Int)+(y.length:Int)-1).toNat]? = some u1:=VR (by omega) w1;refine Rm bz ?_;(conv=>whnf)
 refine mY (by omega) ?_;(conv=>whnf)
 refine PE (by omega) ?_;(conv=>whnf)
 clear s8 bz;have dc:(A++W++C)[((j:Int)+(y.length:Int)-2).toNat]? = some u2:=VR (by omega) w2;generalize Lt:u0*4294967296+u1=top at *;have lv:top<=18446744073709551615:=by omega
 have hU:val W=UL+4294967296^(y.length-2)*(u2+4294967296*top):=by rw[a2,show u1+4294967296*u0=top by omega]
 (repeat' ((first|(apply BT;omega)|(apply XW;omega)|(apply Z5;omega;omega)|(apply B6;omega)|(refine A8 (by assumption) ?_ rfl ?_;omega))<;>conv=>whnf))
 refine ZT (λ q _=>q) (λ(q r:Nat)=>Gs (val W) (val y) f1 f2 u2 top q r) (λ q r=>[(16,.int .u64 (q:Int)),(17,.int .u64 (r:Int))]) (λ_ _=>[]) [] [] (top/f1) (top%f1) (by (conv=>whnf);exact ⟨rfl,rfl,rfl⟩) (Gs.start hU b6 a1 k2 bh (by omega) k3) ?_;intro q r g oi;have hqt:q<=top:=by
  have h3:=g.hq;have h4:q*1<=q*f1:=Nat.mul_le_mul_left q (by omega);omega
 have hr:=g.hr;have nh:=g.ge;by_cases hb:4294967296<=q
 ·obtain ⟨y1,y2,y3⟩:=g.next hU b6 a1 bh g2 (Or.inl hb)
  (repeat' ((first|(apply AG<;>intro hc<;>try omega)|(apply BT;omega)|(apply FN;omega)|(apply H9;omega;omega)|(apply B6;omega)|(refine A8 (by assumption) ?_ rfl ?_;omega)|apply AD)<;>conv=>whnf))
  ·obtain ⟨t1,t2⟩:=WP hU b6 b5 uc k4 g2 y2 (Or.inr (by omega))
   exact BH [] (by (conv=>whnf);exact ⟨rfl,rfl,rfl⟩) (gH (w:=w) (C:=C) hA hW D2 fo gj vg bh dv fu Hp Hd t1 y3 t2 hk)
  ·exact BH [] (by (conv=>whnf);exact ⟨rfl,rfl,rfl⟩) (oi (q-1) (r+f1) (by omega) ⟨y2,by omega,y3⟩)
 ·have hmq:=W2 (show q<4294967296 by omega) k4
  by_cases u7:r*4294967296+u2<q*f2
  ·obtain ⟨y1,y2,y3⟩:=g.next hU b6 a1 bh g2 (Or.inr u7)
   (repeat' ((first|(apply AG<;>intro hc<;>try omega)|(apply AU;omega)|(apply A0;omega)|(apply BT;omega)|(apply FN;omega)|(apply PD;omega)|(apply N9;omega)|(apply PE;omega)|(apply H9;omega;omega)|(apply B6;omega)|(refine A8 (by assumption) ?_ rfl ?_;omega)|refine IQ (by assumption) ?_|apply AD)<;>conv=>whnf))
   ·obtain ⟨t1,t2⟩:=WP hU b6 b5 uc k4 g2 y2 (Or.inr (by omega))
    exact BH [] (by (conv=>whnf);exact ⟨rfl,rfl,rfl⟩) (gH (w:=w) (C:=C) hA hW D2 fo gj vg bh dv fu Hp Hd t1 y3 t2 hk)
   ·exact BH [] (by (conv=>whnf);exact ⟨rfl,rfl,rfl⟩) (oi (q-1) (r+f1) (by omega) ⟨y2,by omega,y3⟩)
  ·obtain ⟨t1,t2⟩:=WP hU b6 b5 uc k4 g2 g.hq (Or.inl ⟨by omega,by omega⟩)
   (repeat' ((first|(apply AG<;>intro hc<;>try omega)|(apply AU;omega)|(apply A0;omega)|(apply BT;omega)|(apply PD;omega)|(apply N9;omega)|(apply PE;omega)|(apply B6;omega)|(refine A8 (by assumption) ?_ rfl ?_;omega)|refine IQ (by assumption) ?_|apply AD)<;>conv=>whnf))
   exact BH [] (by (conv=>whnf);exact ⟨rfl,rfl,rfl⟩) (gH (w:=w) (C:=C) hA hW D2 fo gj vg bh dv fu Hp Hd t1 nh t2 hk)
end
theorem AiD {l:List Nat} (hD:AY l) (h:l[l.length-1]? = some 0):val l<4294967296^(l.length-1):=by
 have hl:=(zS h).1;have h1:=JH l (l.length-1) (by omega);have h2:=GM h;rw[List.drop_of_length_le (show l.length<=l.length-1+1 by omega),H8]at h2;rw[h2]at h1;simp only[Nat.mul_zero,Nat.add_zero]at h1;have h3:=EQ (hD.take (l.length-1));rw[List.length_take,Nat.min_eq_left (by omega)]at h3;omega
theorem qD (N:a7 L) {X Y s:Nat} {x u y:List Nat} (hY:Y≠0) (dw:s<=31) (Gt:AY u) (Gv:val u=X*2^s) (hU0:u[u.length-1]? = some 0) (fu:x.length+1<=u.length/\u.length<=549755813888) (fo:AY y) (Gy:val y=Y*2^s) (ma:2<=y.length/\y.length<=x.length) (n2:4294967296^(y.length-1)*2147483648<=val y) :
  AA L Wg [(10,.row 69 0 1 0 u.length),(11,.sl false (y.map AL)),(9,.int .i64 (s:Int)),(0,.sl false (x.map AL))] [(69,101021,.rw 1 (u.map AL))] (OA DB (.l6 [.sl false ((dg (X/Y)).map AL),.sl false ((dg (X%Y)).map AL),.int .i64 0])):=by
 refine DF (λ(_:Nat)=>0) (λ_=>True) (λ_=>[]) (λ_=>[]) 0 trivial ?_;intro _ _ _;(repeat' ((first|(apply AG<;>intro hc<;>try omega)|(apply A0;omega)|(apply BT;omega)|apply AQ|apply AD)<;>conv=>whnf))
 refine EH (enc:=AL) 0 (u.length-y.length) (by rfl) (by omega) (by omega) ?_;(conv=>whnf)
 (repeat' ((first|(apply BT;omega)|fail)<;>conv=>whnf))
 have bh:0<val y:=by
  have:=wO (y.length-1)
  omega
 have Al:=EQ fo;generalize hm:u.length-y.length=m at *;have uf:val (u.drop m)<val y:=by
  have h1:(u.drop m).length=y.length:=by simp;omega
  have h2:=AiD (l:=u.drop m) (Gt.drop _) (by rw[h1,List.getElem?_drop,show m+(y.length-1)=u.length-1 by omega];exact hU0);rw[h1]at h2;omega
 rw[show (u.length:Int)-y.length-1=((m:Nat):Int)-1 by omega];refine FY (λ n _ _=>n) (λ(n:Nat) (o w:List Nat)=>n<=m/\o.length=u.length/\AY o/\w.length=m/\AY w/\val (o.drop n)<val y/\X*2^s=val (o.take n)+4294967296^n*(val (w.drop n)*val y+val (o.drop n))) (λ n o w=>[(14,.int .i64 ((n:Int)-1))]) (λ n o w=>[(69,101021,.rw 1 (o.map AL)),(85,85,.rw 1 (w.map AL))]) m u (List.replicate m 0) ⟨by omega,rfl,Gt,by simp,ID _,uf,by rw[<-Gv,List.drop_of_length_le (show (List.replicate m 0).length<=m by simp),H8,Nat.zero_mul,Nat.zero_add];exact JH u m (by omega)⟩ ?_;intro n o w ⟨p1,p2,p3,p4,p5,p6,p7⟩ ih;rcases n with _|j
 ·clear ih
  rw[List.drop_zero]at p6;rw[List.take_zero,List.drop_zero,List.drop_zero,H8,Nat.zero_add,Nat.pow_zero,Nat.one_mul]at p7;have pd:val o=val (o.take y.length):=by
   have h1:=VP o y.length;rcases Nat.eq_zero_or_pos (val (o.drop y.length)) with h2|h2
   ·rw[h2,Nat.mul_zero,Nat.add_zero]at h1;exact h1
   ·have h3:4294967296^y.length*1<=4294967296^y.length*val (o.drop y.length):=Nat.mul_le_mul_left _ h2
    omega
  have xf:X/Y=val w/\X%Y=val o/2^s:=by
   obtain ⟨z1,z2⟩:=qC (X:=X) (Y:=Y) (Nat.two_pow_pos s);rw[<-z1,<-z2,<-Gy,p7];have e1:(val w*val y+val o)/val y=val w:=by
    rw[Nat.mul_comm,Nat.mul_add_div bh,Nat.div_eq_of_lt p6,Nat.add_zero]
   have e2:(val w*val y+val o)%val y=val o:=by
    rw[Nat.mul_comm,Nat.mul_add_mod,Nat.mod_eq_of_lt p6]
   rw[e1,e2];exact ⟨rfl,rfl⟩
  rw[xf.1,xf.2,pd];have hT:=λ q=>FS N w q p5 (by omega)
  have ck:(o.take y.length).length<=549755813888:=by rw[List.length_take];omega
  clear p7 xf uf;rw[<-p4];rcases Nat.eq_zero_or_pos s with h0|h0
  ·subst h0
   have hS:=λ q=>rX N (o.take y.length) q 0 (p3.take _) ck (by omega)
   rw[Nat.pow_zero,Nat.mul_one]at hS;rw[Nat.pow_zero,Nat.div_one];(repeat' ((first|(apply AG<;>intro hc<;>try omega)|(refine C7 (λ_=>rfl) rfl ?_ ?_;(first|rfl|simp))|apply AD|refine AC (hT _) ?_)<;>conv=>whnf))
   refine GN y.length rfl (by omega) ?_;(conv=>whnf)
   refine C8.neg (by omega) ?_;(conv=>whnf)
   refine G9 (enc:=AL) (λ_=>rfl) (by omega) ?_;(conv=>whnf)
   rw[List.drop_zero,Nat.sub_zero,show -((0:Nat):Int)=((0:Nat):Int) by omega];(repeat' (refine AC (hS _) ?_<;>conv=>whnf))
   exact AW rfl (aM _ _ _)
  ·have hS:=λ q=>Aes N (o.take y.length) q s (p3.take _) ck (by omega)
   (repeat' ((first|(apply AG<;>intro hc<;>try omega)|(refine C7 (λ_=>rfl) rfl ?_ ?_;(first|rfl|simp))|apply AD|refine AC (hT _) ?_)<;>conv=>whnf))
   refine GN y.length rfl (by omega) ?_;(conv=>whnf)
   refine C8.neg (by omega) ?_;(conv=>whnf)
   refine G9 (enc:=AL) (λ_=>rfl) (by omega) ?_;(conv=>whnf)
   rw[List.drop_zero,Nat.sub_zero];(repeat' (refine AC (hS _) ?_<;>conv=>whnf))
   exact AW rfl (aM _ _ _)
 ·have e3:((j+1:Nat):Int)-1=j:=by omega
  rw[e3];obtain ⟨A,W,C,hA,hW,rfl⟩:=qR o j (y.length+1) (by omega);obtain ⟨g1,g2,g3⟩:=qT hA hW p3 p6 Al;obtain ⟨D1,D2,D3⟩:=pY p3;have xv:val W/val y<4294967296:=(Nat.div_lt_iff_lt_mul bh).2 g2;have Ip:val W=val W/val y*val y+val W%val y:=by rw[Nat.mul_comm];exact (Nat.div_add_mod _ _).symm
  have hWl:val W%val y<val y:=Nat.mod_lt _ bh;have Aj:X*2^s=val A+4294967296^j*val W+4294967296^j*4294967296*(val (w.drop (j+1))*val y):=by
   rw[p7,Nat.mul_add,<-g3,Nat.pow_succ];omega
  have qj:=qS Aj Ip;have rm : ∀ q',q'=val W/val y->val ((w.set j q').drop j)=val W/val y+4294967296*val (w.drop (j+1)):=λ q' h=>by
   rw[GM (l:=w.set j q') (d:=q') (by rw[List.getElem?_set_self (by omega)]),List.drop_set_of_lt (by omega),h]
  have hlen : ∀ W':List Nat,W'.length=y.length+1->(A++W'++C).length=u.length:=λ W' h=>by
   rw[<-p2];simp [h,hW]
  have Oe:u.length=j+(y.length+1)+C.length:=by rw[<-p2];simp [hA,hW];omega
  refine BH [] (by (conv=>whnf);exact ⟨rfl,rfl,rfl⟩) (Wi (m:=m) (s:=s) (ul:=u.length) (C:=C) hA hW D2 fo ma.1 (by omega) bh (by omega) n2 g2 Oe p4 (by omega) (λ W' q' z1 z2 z3 z4 => ?_));obtain ⟨t1,t2⟩:=gO (A:=A) (W:=W') (C:=C) (j:=j) hA g1;refine BH [] (by (conv=>whnf);exact ⟨rfl,rfl,rfl⟩) (ih j (A++W'++C) (w.set j q') (by omega) ⟨by omega,hlen W' z1,(D1.append z2).append D3,by simpa using p4,p5.set _ (by omega),by omega,?_⟩);rw[t1,t2,rm q' z4,z3];exact qj
end Go.e8

namespace Go.e8
open F
attribute [local irreducible] AA AF AM AE C8 AX BF BD B9 B2 CX E9 B0 A5 B5 CQ AB A7 AJ pw BR BO C4 D0 DZ DU DN BZ DW
variable {L:Lib}
set_option maxHeartbeats 8000000
theorem rW (N:a7 L) (a b:List Nat) (q1 q2:Bool) (hA:AY a) (hB:AY b) (la:a.length<=274877906944) (lb:b.length<=274877906944) (h0:val b≠0) :
  Ev L 109 [.sl q1 (a.map AL),.sl q2 (b.map AL)] (.l6 [.sl false ((dg (val a/val b)).map AL),.sl false ((dg (val a%val b)).map AL),.int .i64 0]):=by
 have t1:=λ q=>FS N a q hA (by omega)
 have t2:=λ q=>FS N b q hB (by omega)
 have l1:=EI hA;have l2:=EI hB;have n6:=λ q q'=>iD N (dg (val a)) (dg (val b)) q q' (DI _) (DI _) (by omega) (by omega)
 rw[BN,BN]at n6;generalize val a=X at *;generalize val b=Y at *;have d1:=DI X;have d2:=DI Y;have v1:=BN X;have v2:=BN Y;have hy1:=YE h0;refine Ev.x N.DB rfl rfl ?_;by_cases h1:(dg Y).length=1
 ·obtain ⟨y0,pq⟩ : ∃ y0,dg Y=[y0]:=List.length_eq_one_iff.1 h1
  have wi:Y=y0:=by rw[<-v2,pq];simp [val]
  subst wi;have yd:Y<4294967296:=d2 Y (by rw[pq];simp);have hyg:(dg Y)[(0:Int).toNat]? = some Y:=by rw[pq];rfl
  have Oo:=λ q=>Aet N (dg X) Y q d1 (by omega) h0 yd
  rw[v1]at Oo;have gy:X%Y<4294967296:=Nat.lt_trans (Nat.mod_lt _ (by omega)) yd;have Gr:=λ q=>FS N [X%Y] q (GS gy) (by simp)
  rw[show val [X%Y]=X%Y by simp [val]]at Gr;clear pq v2;generalize dg Y=y at *;(repeat' ((first|(apply AG<;>intro hc<;>try omega)|apply AQ|(refine A8 (by assumption) ?_ rfl ?_;omega)|refine G7 rfl ?_|apply AD|refine AC (t1 _) ?_|refine AC (t2 _) ?_|refine AC (Oo _) ?_|refine AC (Gr _) ?_)<;>conv=>whnf))
  exact AW rfl (aM _ _ _)
 by_cases m9:X<Y
 ·rw[<-HM (by omega)]at n6
  (repeat' ((first|(apply AG<;>intro hc<;>try omega)|apply AQ|apply AD|refine AC (t1 _) ?_|refine AC (t2 _) ?_|refine AC (n6 _ _) ?_)<;>conv=>whnf))
  refine AW ?_ (aM _ _ _);rw[Nat.div_eq_of_lt m9,Nat.mod_eq_of_lt m9,EN];rfl
 have nh:=aO (show Y<=X by omega);generalize CS X Y=cm at *;have Km:2<=(dg Y).length:=by omega
 obtain ⟨yt,yf,yg⟩:=gE h0;have vh:=d2.at yf;obtain ⟨b1,b2,b3,b4⟩:=jP yg vh;have fy:=λ q=>Aep N yt q yg vh
 generalize hs:32-o9 yt=s at *;have dw:s<=31:=by omega
 have Lp:=λ q=>rX N (dg Y) q s d2 (by omega) (by omega)
 obtain ⟨n1,n2⟩:=jK d2 yf (by omega) dw b3 b4;rw[v2]at Lp n1 n2;have pd:(dg Y).drop ((dg Y).length-1)=[yt]:=by
  obtain ⟨hi,he⟩:=zS yf;rw[List.drop_eq_getElem_cons hi,he,List.drop_of_length_le (by omega)]
 have ma:(dg (Y*2^s)).length=(dg Y).length:=by
  have a1:=OL.2 n1;have a2 : ¬ (dg (Y*2^s)).length<=(dg Y).length-1:=λ h=>by
   have:=OL.1 h
   omega
  omega
 have Am8:(dg (X*2^s)).length<=(dg X).length+1:=by
  refine OL.2 ?_;have a1:X<4294967296^(dg X).length:=OL.1 (Nat.le_refl _);rw[Nat.pow_succ];have a2:=Y6 (s:=s) (by omega);exact Nat.lt_of_lt_of_le (Nat.mul_lt_mul_of_pos_right a1 (Nat.two_pow_pos s)) (Nat.mul_le_mul_left _ a2)
 have Am:(dg X).length<=(dg (X*2^s)).length:=QJ (Nat.le_mul_of_pos_right _ (Nat.two_pow_pos s));have xp:=QJ (show Y<=X by omega);generalize hx:dg X=x at *;generalize hy:dg Y=y at *;have t3:=λ q=>FS N x q d1 (by omega)
 rw[v1,hx]at t3;(repeat' ((first|(apply AG<;>intro hc<;>try omega)|(apply BT;omega)|apply AQ|apply AD|refine AC (t1 _) ?_|refine AC (t2 _) ?_|refine AC (n6 _ _) ?_)<;>conv=>whnf))
 rw[show (y.length:Int)-1=((y.length-1:Nat):Int) by omega];refine Uh (k:=y.length-1) (λ_=>rfl) (by omega) ?_;(conv=>whnf)
 rw[pd];(repeat' ((first|(apply BT;omega)|refine AC (fy _) ?_)<;>conv=>whnf))
 rw[show (32:Int)-(o9 yt:Nat)=((s:Nat):Int) by omega];refine EM 1000 N.HX rfl rfl ?_;have hsq:(s:Int)/32=((0:Nat):Int):=by omega
 have hsr:(s:Int)%32=((s:Nat):Int):=by omega
 (repeat' ((first|(apply AG<;>intro hc<;>try omega)|(refine RT ?_ ?_ (λ_ => ?_) (λ_ _ => ?_);omega;omega;all_goals try omega)|apply AQ|apply AD|refine AC (t3 _) ?_)<;>conv=>whnf))
 rw[hsq];refine EH (enc:=AL) 0 0 rfl rfl (by omega) ?_;(conv=>whnf)
 skip
 refine FY (λ i _ _=>x.length-i) (λ(i:Nat) (o:List Nat) (c:Nat)=>i<=x.length/\o.length=i/\AY o/\c<2^s/\val o+4294967296^i*c=val (x.take i)*2^s) (λ i o c=>[(10,.int .i64 i),(9,.int .u64 (c:Int)),(8,.row 107069 0 1 0 i)]) (λ i o c=>[(107069,107069,.rw 1 (o.map AL))]) 0 [] 0 ⟨by omega,rfl,WB,Nat.two_pow_pos _,by simp [val]⟩ ?_;intro i o c ⟨p1,p2,p3,p4,p5⟩ ih;have sj:=Y6 (s:=s) (by omega);by_cases hi:i<x.length
 ·obtain ⟨d,hd⟩ : ∃ d,x[i]? = some d:=⟨_,zE hi⟩
  have dk:=d1.at hd;obtain ⟨f1,f2,f3,f4⟩:=VH (s:=s) dk (by omega);have hr:=cE (show s<=64 by omega) f4;(repeat' ((first|(apply AG<;>intro hc<;>try omega)|(refine V0 ?_ (λ_ _ _ => ?_) (λ_ _ _ _ => ?_);omega;all_goals try omega)|(apply B6;omega)|apply AQ|(refine A8 (by assumption) ?_ rfl ?_;omega)|apply AD)<;>conv=>whnf))
  rw[hsr];refine PG (by omega) f4 ?_;(conv=>whnf)
  skip
  refine Z4 s (Nat.mul_mod_left _ _) p4 (by omega) ?_;(conv=>whnf)
  have m5:=zO (d:=d) (P:=1) (V:=val o) (p:=4294967296^i) (lo:=c) (X:=val (x.take i)) (s:=s) (by rw[Nat.one_mul,Nat.one_mul];exact p5) rfl;have vu:(c+d*2^s)/4294967296<2^s:=by
   rw[Nat.div_lt_iff_lt_mul (by omega)];have:=zR (2^s) (show d<=4294967295 by omega)
   omega
  generalize c+d*2^s=t at *;(repeat' ((first|apply FG|apply EE)<;>conv=>whnf))
  refine EX (enc:=AL) (t%4294967296) rfl p2.symm rfl (by omega) (by omega) ?_;(conv=>whnf)
  (repeat' ((first|(apply A0;omega)|apply E4)<;>conv=>whnf))
  rw[show (o++[t%4294967296]).length=i+1 by simp [p2]];refine BH [(107069,107091)] (by (conv=>whnf);exact ⟨rfl,rfl,rfl⟩) (ih (i+1) (o++[t%4294967296]) (t/4294967296) (by omega) ⟨by omega,by simp;omega,p3.append (GS (by omega)),vu,?_⟩);rw[NY,p2,DK hd,Nat.pow_succ];rw[Nat.one_mul,Nat.one_mul]at m5;exact m5
 obtain rfl:i=x.length:=by omega
 clear ih;have jt:c<4294967296:=by omega
 have hOD:AY (o++[c]):=p3.append (GS jt);have wy:val (o++[c])=X*2^s:=by
  rw[NY,p2,p5,CW (Nat.le_refl _),v1]
 have Dp:(o++[c]).length=x.length+1:=by simp [p2]
 (repeat' ((first|(apply AG<;>intro hc<;>try omega)|(apply DX;omega)|apply AQ|apply EE|apply AD)<;>conv=>whnf))
 refine EX (enc:=AL) c rfl p2.symm rfl (by omega) (by omega) ?_;(conv=>whnf)
 rw[Dp];generalize o++[c]=O at *;rw[<-Dp];clear p3 p4 p5;refine EM 1000 N.GZ rfl rfl ?_;(repeat' (apply AD<;>conv=>whnf))
 refine DF (λ n=>n) (λ(n:Nat)=>n<=(O).length /\ ∀ i,n<=i->i<(O).length->(O)[i]? = some 0) (λ n=>[(3,.int .i64 n)]) (λ_=>[]) (O).length ⟨Nat.le_refl _,λ i h1 h2=>by omega⟩ ?_;intro n ⟨p1,p2⟩ ih;rcases n with _|n
 ·(repeat' ((first|(apply AG<;>intro hc<;>try omega)|apply AD)<;>conv=>whnf))
  refine GN 0 (by omega) (by omega) ?_;(conv=>whnf)
  have cg:=FQ (l:=O) (by assumption) p1 p2 (Or.inl rfl);have q6:(List.take 0 O).length<=(O).length:=by rw[List.length_take];omega
  clear ih p2;refine Z9 (enc:=AL) (by omega) ?_;(conv=>whnf)
  rw[List.drop_zero,Nat.sub_zero];generalize yw:List.take 0 O=T0 at *;refine PB (enc:=AL) (λ_=>rfl) (by omega) (by omega) ?_;(conv=>whnf)
  refine ⟨rfl,_,rfl,?_⟩;(conv=>whnf)
  (refine ⟨rfl,_,rfl,?_⟩;(conv=>whnf);(repeat' ((first|apply EE|refine AC (Lp _) ?_)<;>conv=>whnf));refine EX (enc:=AL) 0 rfl rfl rfl (by omega) (by omega) ?_;(conv=>whnf);rw[wy]at cg;rw[cg];exact BH [] (by (conv=>whnf);exact ⟨rfl,rfl,rfl⟩) (qD N (x:=x) (X:=X) (Y:=Y) (s:=s) (u:=dg (X*2^s)++[0]) (y:=dg (Y*2^s)) h0 dw ((DI _).append (GS (by omega))) (by rw[NY,BN,Nat.mul_zero,Nat.add_zero]) (by simp) (by simp;omega) (DI _) (BN _) (by omega) (by rw[BN,ma];exact n2)))
 ·have e1:((n+1:Nat):Int)-1=n:=by omega
  (repeat' ((first|(apply AG<;>intro hc<;>try omega)|(apply AU;omega)|(apply BT;omega)|(refine RS (by assumption) ?_ (λ v hv hb => ?_);omega)|apply AD)<;>conv=>whnf))
  ·rw[e1]
   exact BQ [] (ih n (by omega) ⟨by omega,λ i h1 h2=>by
    by_cases h:i=n
    ·subst h
     rw[e1,Int.toNat_natCast]at hv;rw[hv];congr 1;omega
    ·exact p2 i (by omega) h2⟩)
  ·refine GN (n+1) (by omega) (by omega) ?_
   (conv=>whnf)
   rw[e1,Int.toNat_natCast]at hv;have cg:=FQ (l:=O) (by assumption) p1 p2 (Or.inr ⟨_,hv,by omega⟩);have q6:(List.take (n+1) O).length<=(O).length:=by rw[List.length_take];omega
   clear ih p2 hv;(rw[nW (l:=O)];rotate_left;exact rfl;exact rfl);(conv=>whnf)
   refine Z9 (enc:=AL) (by omega) ?_;(conv=>whnf)
   rw[List.drop_zero,Nat.sub_zero];generalize yw:List.take (n+1) O=T0 at *;refine PB (enc:=AL) (λ_=>rfl) (by omega) (by omega) ?_;(conv=>whnf)
   refine ⟨rfl,_,rfl,?_⟩;(conv=>whnf)
   (refine ⟨rfl,_,rfl,?_⟩;(conv=>whnf);(repeat' ((first|apply EE|refine AC (Lp _) ?_)<;>conv=>whnf));refine EX (enc:=AL) 0 rfl rfl rfl (by omega) (by omega) ?_;(conv=>whnf);rw[wy]at cg;rw[cg];exact BH [] (by (conv=>whnf);exact ⟨rfl,rfl,rfl⟩) (qD N (x:=x) (X:=X) (Y:=Y) (s:=s) (u:=dg (X*2^s)++[0]) (y:=dg (Y*2^s)) h0 dw ((DI _).append (GS (by omega))) (by rw[NY,BN,Nat.mul_zero,Nat.add_zero]) (by simp) (by simp;omega) (DI _) (BN _) (by omega) (by rw[BN,ma];exact n2)))
theorem Aeq (N:a7 L) (a b:List Nat) (q1 q2:Bool) (hA:AY a) (hB:AY b) (la:a.length<=274877906944) (lb:b.length<=274877906944) :
  Ev L 110 [.sl q1 (a.map AL),.sl q2 (b.map AL)] (.sl false ((dg (Nat.gcd (val a) (val b))).map AL)):=by
 have t1:=λ q=>FS N a q hA (by omega)
 have t2:=λ q=>FS N b q hB (by omega)
 have l1:=EI hA;have l2:=EI hB;generalize val a=X at *;generalize val b=Y at *;refine Ev.x N.L6 rfl rfl ?_;(repeat' ((first|apply AD|refine AC (t1 _) ?_|refine AC (t2 _) ?_)<;>conv=>whnf))
 refine HG (λ_ y=>y) (λ(x y:Nat)=>(dg x).length<=274877906944/\(dg y).length<=274877906944/\Nat.gcd x y=Nat.gcd X Y) (λ x y=>[(0,.sl false ((dg x).map AL)),(1,.sl false ((dg y).map AL))]) (λ_ _=>[]) X Y ⟨by omega,by omega,rfl⟩ ?_;intro x y ⟨p1,p2,p3⟩ ih;rw[<-p3];by_cases h0:y=0
 ·subst h0
  have jv:(dg 0).length=0:=by rw[EN];rfl
  clear ih;rw[Nat.gcd_zero_right];(repeat' ((first|(apply AG<;>intro hc<;>try omega)|apply AQ|apply AD)<;>conv=>whnf))
  exact AW rfl (IV _)
 ·have hp:=YE h0
  have hD:=λ q q'=>rW N (dg x) (dg y) q q' (DI _) (DI _) p1 p2 (by rw[BN];exact h0)
  rw[BN,BN]at hD;have m9:x%y<y:=Nat.mod_lt _ (by omega);have jn:=QJ (Nat.le_of_lt m9);(repeat' ((first|(apply AG<;>intro hc<;>try omega)|apply AQ|apply AD|refine AC (hD _ _) ?_)<;>conv=>whnf))
  rw[p3];exact BQ [] (ih y (x%y) m9 ⟨p2,by omega,by rw[YU];exact p3⟩)
theorem IY (N:a7 L) (n q:Bool) (m:List Nat) (hm:Sm 274877906944 m):Ev L 111 [.agg (rZ q n m)] (.agg (eZ (zv n m))):=by
 have hT:=λ q=>FS N m q hm.1 (by have:=hm.2;omega)
 have hz:=HO (val m);have ha:=EL n m;refine Ev.x N.MI rfl rfl ?_;cases n
 ·rw[D8]at *
  (repeat' ((first|apply AD|refine AC (hT _) ?_)<;>conv=>whnf))
  exact AW (EF ha.symm (FW (by omega))) (C5 _)
 ·rw[PA]at *
  (repeat' ((first|(apply AG<;>intro hc<;>try omega)|apply AQ|apply AD|refine AC (hT _) ?_)<;>conv=>whnf))
  ·exact AW (EF ha.symm (NG (by omega))) (C5 _)
  ·exact AW (EF ha.symm (FW (by omega))) (C5 _)
theorem WJ (N:a7 L) (n q:Bool) (m:List Nat) (hm:Sm 274877906944 m):Ev L 113 [.agg (rZ q n m)] (.int .i64 (y7 (zv n m))):=by
 have hT:=λ q=>IY N n q m hm
 generalize zv n m=z at *;have hz:=HO z.natAbs;refine Ev.x N.MG rfl rfl ?_;(repeat' ((first|(apply AG<;>intro hc<;>try omega)|apply AQ|apply AD|refine AC (hT _) ?_)<;>conv=>whnf))
 ·exact CM (dE (by omega))
 ·cases hd:decide (z<0)
  ·(conv=>whnf)
   exact CM (lC (by have:=of_decide_eq_false hd;omega))
  ·(conv=>whnf)
   exact CM (kZ (of_decide_eq_true hd))
theorem iF (N:a7 L) (n q:Bool) (m:List Nat) (hm:Sm 274877906944 m):Ev L 114 [.agg (rZ q n m)] (.agg (eZ (-(zv n m)))):=by
 have hT:=λ q=>IY N n q m hm
 generalize zv n m=z at *;have hz:=HO z.natAbs;refine Ev.x N.ME rfl rfl ?_;(repeat' ((first|apply AD|refine AC (hT _) ?_)<;>conv=>whnf))
 cases hd:decide (z<0)
 ·have h1:=of_decide_eq_false hd
  (conv=>whnf)
  (repeat' ((first|(apply AG<;>intro hc<;>try omega)|apply AQ)<;>conv=>whnf))
  ·exact AW (EF (by omega) (NG (by omega))) (C5 _)
  ·exact AW (EF (by omega) (FW (by omega))) (C5 _)
 ·have h1:=of_decide_eq_true hd
  (conv=>whnf)
  skip
  exact AW (EF (by omega) (FW (by omega))) (C5 _)
theorem PN (N:a7 L) (n1 n2 q1 q2:Bool) (a b:List Nat) (ha:AY a) (hb:AY b) (hl:a.length+b.length<=274877906944):Ev L 118 [.agg (rZ q1 n1 a),.agg (rZ q2 n2 b)] (.agg (eZ (zv n1 a*zv n2 b))):=by
 have h1:=λ q q'=>Aer N a b q q' ha hb (by omega)
 have sa:Sm a.length a:=⟨ha,Nat.le_refl _⟩;have sb:Sm b.length b:=⟨hb,Nat.le_refl _⟩;have hT:=λ n q=>IY N n q (dg (val a*val b)) ((sa.mul sb rfl).le hl)
 have e : ∀ n,zv n (dg (val a*val b))=bif n then -((val a*val b:Nat):Int) else ((val a*val b:Nat):Int):=λ n=>by unfold zv;rw[BN]
 have e2:zv n1 a*zv n2 b=zv (n1 != n2) (dg (val a*val b)):=by
  rw[e];cases n1<;>cases n2<;>simp [D8,PA,Int.mul_neg,Int.neg_mul]
 rw[e2];refine Ev.x N.MD rfl rfl ?_;cases n1<;>cases n2;all_goals
  (repeat' ((first|apply AD|refine AC (h1 _ _) ?_|refine AC (hT _ _) ?_)<;>conv=>whnf))
  exact AW rfl (C5 _)
theorem rY (N:a7 L) (n1 n2 q1 q2:Bool) (a b:List Nat) (ha:Sm 274877906943 a) (hb:Sm 274877906943 b):Ev L 115 [.agg (rZ q1 n1 a),.agg (rZ q2 n2 b)] (.agg (eZ (zv n1 a+zv n2 b))):=by
 have t1:=λ q=>IY N n1 q a (ha.le (by omega))
 have t2:=λ q=>IY N n2 q b (hb.le (by omega))
 have s1:Sm 274877906943 (dg (zv n1 a).natAbs):=by rw[EL];exact ha.wj
 have s2:Sm 274877906943 (dg (zv n2 b).natAbs):=by rw[EL];exact hb.wj
 generalize zv n1 a=x at *;generalize zv n2 b=y at *;have h1:=λ q q'=>rV N (dg x.natAbs) (dg y.natAbs) q q' s1.1 s2.1 (by have:=s1.2;omega) (by have:=s2.2;omega)
 have h2:=λ q q'=>iE N (dg x.natAbs) (dg y.natAbs) q q' s1.1 s2.1 (by have:=s1.2;omega) (by have:=s2.2;omega)
 have h3:=λ q q'=>iE N (dg y.natAbs) (dg x.natAbs) q q' s2.1 s1.1 (by have:=s2.2;omega) (by have:=s1.2;omega)
 have n6:=λ q q'=>iD N (dg x.natAbs) (dg y.natAbs) q q' s1.1 s2.1 (by have:=s1.2;omega) (by have:=s2.2;omega)
 rw[BN,BN]at h1 h2 h3 n6;have u1:=λ n q=>IY N n q (dg (x.natAbs+y.natAbs)) (s1.add s2 (by rw[BN,BN];omega))
 have u2:=λ n q=>IY N n q (dg (x.natAbs-y.natAbs)) ((s1.low (V:=x.natAbs-y.natAbs) (by rw[BN];omega)).le (by omega))
 have u3:=λ n q=>IY N n q (dg (y.natAbs-x.natAbs)) ((s2.low (V:=y.natAbs-x.natAbs) (by rw[BN];omega)).le (by omega))
 have e : ∀ n V,zv n (dg V)=bif n then -(V:Int) else (V:Int):=λ n V=>by unfold zv;rw[BN]
 refine Ev.x N.L9 rfl rfl ?_;(repeat' ((first|apply AD|refine AC (t1 _) ?_|refine AC (t2 _) ?_)<;>conv=>whnf))
 cases hx:decide (x<0)<;>cases hy:decide (y<0)
 ·have g1:=of_decide_eq_false hx
  have g2:=of_decide_eq_false hy;have hz:x+y=zv false (dg (x.natAbs+y.natAbs)):=by rw[e];simp only[cond_true,cond_false];omega
  rw[hz];(conv=>whnf)
  (repeat' ((first|refine AC (h1 _ _) ?_|refine AC (u1 _ _) ?_)<;>conv=>whnf))
  exact AW rfl (C5 _)
 ·have g1:=of_decide_eq_false hx
  have g2:=of_decide_eq_true hy;by_cases m9:x.natAbs<y.natAbs
  ·have hz:x+y=zv true (dg (y.natAbs-x.natAbs)):=by rw[e];simp only[cond_true,cond_false];omega
   rw[hz];rw[<-HM (by omega)]at n6;(conv=>whnf)
   (repeat' ((first|(apply AG<;>intro hc<;>try omega)|refine AC (n6 _ _) ?_|refine AC (h3 _ _) ?_|refine AC (u3 _ _) ?_)<;>conv=>whnf))
   exact AW rfl (C5 _)
  ·have hz:x+y=zv false (dg (x.natAbs-y.natAbs)):=by rw[e];simp only[cond_true,cond_false];omega
   rw[hz];have nh:=aO (show y.natAbs<=x.natAbs by omega);generalize CS (x.natAbs:Nat) (y.natAbs:Nat)=cm at *;(conv=>whnf)
   (repeat' ((first|(apply AG<;>intro hc<;>try omega)|refine AC (n6 _ _) ?_|refine AC (h2 _ _) ?_|refine AC (u2 _ _) ?_)<;>conv=>whnf))
   exact AW rfl (C5 _)
 ·have g1:=of_decide_eq_true hx
  have g2:=of_decide_eq_false hy;by_cases m9:x.natAbs<y.natAbs
  ·have hz:x+y=zv false (dg (y.natAbs-x.natAbs)):=by rw[e];simp only[cond_true,cond_false];omega
   rw[hz];rw[<-HM (by omega)]at n6;(conv=>whnf)
   (repeat' ((first|(apply AG<;>intro hc<;>try omega)|refine AC (n6 _ _) ?_|refine AC (h3 _ _) ?_|refine AC (u3 _ _) ?_)<;>conv=>whnf))
   exact AW rfl (C5 _)
  ·have hz:x+y=zv true (dg (x.natAbs-y.natAbs)):=by rw[e];simp only[cond_true,cond_false];omega
   rw[hz];have nh:=aO (show y.natAbs<=x.natAbs by omega);generalize CS (x.natAbs:Nat) (y.natAbs:Nat)=cm at *;(conv=>whnf)
   (repeat' ((first|(apply AG<;>intro hc<;>try omega)|refine AC (n6 _ _) ?_|refine AC (h2 _ _) ?_|refine AC (u2 _ _) ?_)<;>conv=>whnf))
   exact AW rfl (C5 _)
 ·have g1:=of_decide_eq_true hx
  have g2:=of_decide_eq_true hy;have hz:x+y=zv true (dg (x.natAbs+y.natAbs)):=by rw[e];simp only[cond_true,cond_false];omega
  rw[hz];(conv=>whnf)
  (repeat' ((first|refine AC (h1 _ _) ?_|refine AC (u1 _ _) ?_)<;>conv=>whnf))
  exact AW rfl (C5 _)
theorem Aew (N:a7 L) (n1 n2 q1 q2:Bool) (a b:List Nat) (ha:Sm 274877906943 a) (hb:Sm 274877906943 b):Ev L 116 [.agg (rZ q1 n1 a),.agg (rZ q2 n2 b)] (.agg (eZ (zv n1 a-zv n2 b))):=by
 have t2:=λ q=>iF N n2 q b (hb.le (by omega))
 have s2:Sm 274877906943 (dg (-(zv n2 b)).natAbs):=by rw[Int.natAbs_neg,EL];exact hb.wj
 have h1:=λ q q'=>rY N n1 (decide (-(zv n2 b)<0)) q q' a (dg (-(zv n2 b)).natAbs) ha s2
 rw[ER,<-Int.sub_eq_add_neg]at h1;refine Ev.x N.MH rfl rfl ?_;(repeat' ((first|apply AD|refine AC (t2 _) ?_|refine AC (h1 _ _) ?_)<;>conv=>whnf))
 exact AW rfl (C5 _)
theorem Aeu (N:a7 L) (n1 n2 q1 q2:Bool) (a b:List Nat) (ha:Sm 274877906943 a) (hb:Sm 274877906943 b):Ev L 117 [.agg (rZ q1 n1 a),.agg (rZ q2 n2 b)] (.int .i64 (y7 (zv n1 a-zv n2 b))):=by
 have h1:=λ q q'=>Aew N n1 n2 q q' a b ha hb
 have s1:Sm 274877906943 (dg (zv n1 a).natAbs):=by rw[EL];exact ha.wj
 have s2:Sm 274877906943 (dg (zv n2 b).natAbs):=by rw[EL];exact hb.wj
 have s3:Sm 274877906944 (dg (zv n1 a-zv n2 b).natAbs):=s1.add s2 (by rw[BN,BN];omega);have h2:=λ q=>WJ N (decide (zv n1 a-zv n2 b<0)) q (dg (zv n1 a-zv n2 b).natAbs) s3
 rw[ER]at h2;refine Ev.x N.MA rfl rfl ?_;(repeat' ((first|apply AD|refine AC (h1 _ _) ?_|refine AC (h2 _) ?_)<;>conv=>whnf))
 exact CM rfl
theorem iG (N:a7 L) (z:Int) (hz : -9223372036854775808<=z/\z<=9223372036854775807):Ev L 112 [.int .i64 z] (.agg (eZ z)):=by
 have two : ∀ k:Nat,k<18446744073709551616 -> ∀ n q,Ev L 111 [.agg [.bool n,.sl q [[.int .u32 ((k%4294967296:Nat):Int)],[.int .u32 ((k/4294967296:Nat):Int)]]]] (.agg (eZ (bif n then -(k:Int) else (k:Int)))):=λ k hk n q=>by
  have:=IY N n q [k%4294967296,k/4294967296] ⟨(gB hk).2,by simp⟩
  unfold zv at this;rw[zU hk]at this;exact this
 refine Ev.x N.MF rfl rfl ?_;by_cases h0:0<=z
 ·obtain ⟨k,rfl⟩:=Int.eq_ofNat_of_zero_le h0
  have hT:=two k (by omega);(repeat' ((first|(apply AG<;>intro hc<;>try omega)|apply E4|(apply B6;omega)|(apply DX;omega)|apply FG|refine XZ rfl rfl ?_|apply AD)<;>conv=>whnf))
  generalize k%4294967296=lo at *;generalize k/4294967296=hi at *;(repeat' (refine AC (hT _ _) ?_<;>conv=>whnf))
  exact AW rfl (C5 _)
 ·obtain ⟨k,hk⟩:=Int.eq_ofNat_of_zero_le (show 0 <= -(z+1) by omega)
  have qw:z = -((k+1:Nat):Int):=by omega
  have hT:=two (k+1) (by omega);(repeat' ((first|(apply AG<;>intro hc<;>try omega)|(apply A0;omega)|apply Ql|(apply C8.neg;omega)|(apply B6;omega)|apply AD)<;>conv=>whnf))
  rw[show IntKind.u64.wrap (-(z+1)+1)=((k+1:Nat):Int) by rw[IntWalk.u64_in _ (by omega)];omega];rw[qw];generalize k+1=k1 at *;(repeat' ((first|apply E4|(apply DX;omega)|apply FG|refine XZ rfl rfl ?_)<;>conv=>whnf))
  generalize k1%4294967296=lo at *;generalize k1/4294967296=hi at *;(repeat' (refine AC (hT _ _) ?_<;>conv=>whnf))
  exact AW rfl (C5 _)
theorem Aev (N:a7 L) (n1 n2 q1 q2:Bool) (a b:List Nat) (ha:Sm 274877906944 a) (hb:Sm 274877906944 b):Ev L 120 [.agg (rZ q1 n1 a),.agg (rZ q2 n2 b)] (.agg (eZ ((Nat.gcd (val a) (val b):Nat):Int))):=by
 have h1:=λ q q'=>Aeq N a b q q' ha.1 hb.1 ha.2 hb.2
 refine Ev.x N.MC rfl rfl ?_;(repeat' ((first|apply AD|refine AC (h1 _ _) ?_)<;>conv=>whnf))
 exact AW (EF (by omega) (FW (by omega))) (C5 _)
theorem Yb (n1 n2:Bool) (A B:Nat) (hB:B≠0):(bif n1 then -(A:Int) else (A:Int))/(bif n2 then -(B:Int) else (B:Int))=(bif n1 != n2 then -((if n1=true/\A%B≠0 then A/B+1 else A/B:Nat):Int) else ((if n1=true/\A%B≠0 then A/B+1 else A/B:Nat):Int)) /\
  (bif n1 then -(A:Int) else (A:Int))%(bif n2 then -(B:Int) else (B:Int))=((if n1=true/\A%B≠0 then B-A%B else A%B:Nat):Int):=by
 have hBp:(0:Int)<B:=by omega
 have key : ∀ x:Int,x/(bif n2 then -(B:Int) else (B:Int))=(bif n2 then -(x/B) else x/B)/\x%(bif n2 then -(B:Int) else (B:Int))=x%B:=λ x=>by
  cases n2
  ·exact ⟨rfl,rfl⟩
  ·exact ⟨Int.ediv_neg x B,Int.emod_neg x B⟩
 rw[(key _).1,(key _).2];cases n1
 ·have h1:((A:Int))/B=((A/B:Nat):Int):=by simp
  have h2:((A:Int))%B=((A%B:Nat):Int):=by simp
  simp only[cond_false,h1,h2];cases n2<;>simp
 ·have hd:=Nat.div_add_mod A B
  have m9:=Nat.mod_lt A (show B>0 by omega);by_cases h0:A%B=0
  ·have e : -(A:Int)=(B:Int)*(-((A/B:Nat):Int)):=by
    rw[h0,Nat.add_zero]at hd;rw[Int.mul_neg,<-Int.natCast_mul,hd]
   have h1 : -(A:Int)/B = -((A/B:Nat):Int):=by rw[e,Int.mul_ediv_cancel_left _ (by omega)]
   have h2 : -(A:Int)%B=0:=by rw[e,Int.mul_emod_right]
   simp only[cond_true,h1,h2,h0];cases n2<;>simp
  ·have e : -(A:Int)=(B:Int)*(-((A/B+1:Nat):Int))+((B-A%B:Nat):Int):=by
    have h3:(B:Int)*((A/B:Nat):Int)+((A%B:Nat):Int)=A:=by rw[<-Int.natCast_mul,<-Int.natCast_add,hd]
    rw[Int.mul_neg,Int.natCast_add,Int.mul_add];omega
   have h1 : -(A:Int)/B = -((A/B+1:Nat):Int):=by
    rw[e,Int.mul_add_ediv_left _ _ (by omega),Int.ediv_eq_zero_of_lt (by omega) (by omega),Int.add_zero]
   have h2 : -(A:Int)%B=((B-A%B:Nat):Int):=by
    rw[e,Int.mul_add_emod_self_left,Int.emod_eq_of_lt (by omega) (by omega)]
   simp only[cond_true,h1,h2];cases n2<;>simp [h0]
theorem sA (N:a7 L) (n1 n2 q1 q2:Bool) (a b:List Nat) (ha:Sm 274877906943 a) (hb:Sm 274877906943 b) (h0:zv n2 b≠0):Ev L 119 [.agg (rZ q1 n1 a),.agg (rZ q2 n2 b)] (.l6 [.agg (eZ (zv n1 a/zv n2 b)),.agg (eZ (zv n1 a%zv n2 b)),.int .i64 0]):=by
 have t1:=λ q=>IY N n1 q a (ha.le (by omega))
 have t2:=λ q=>IY N n2 q b (hb.le (by omega))
 have s1:Sm 274877906943 (dg (zv n1 a).natAbs):=by rw[EL];exact ha.wj
 have s2:Sm 274877906943 (dg (zv n2 b).natAbs):=by rw[EL];exact hb.wj
 generalize zv n1 a=x at *;generalize zv n2 b=y at *;have Ca:=λ q q'=>rW N (dg x.natAbs) (dg y.natAbs) q q' s1.1 s2.1 (by have:=s1.2;omega) (by have:=s2.2;omega) (by rw[BN];omega)
 rw[BN,BN]at Ca;obtain ⟨e1,e2⟩:=Yb (decide (x<0)) (decide (y<0)) x.natAbs y.natAbs (by omega);have hx:(bif decide (x<0) then -(x.natAbs:Int) else (x.natAbs:Int))=x:=by have:=ER x;unfold zv at this;rw[BN]at this;exact this
 have hy:(bif decide (y<0) then -(y.natAbs:Int) else (y.natAbs:Int))=y:=by have:=ER y;unfold zv at this;rw[BN]at this;exact this
 rw[hx,hy]at e1 e2;rw[e1,e2];have l1:=s1.2;have l2:=s2.2;have hq:Sm 274877906943 (dg (x.natAbs/y.natAbs)):=s1.low (by rw[BN];exact Nat.div_le_self _ _);have hr:Sm 274877906943 (dg (x.natAbs%y.natAbs)):=s2.low (by rw[BN];exact Nat.le_of_lt (Nat.mod_lt _ (by omega)));have hrz:=HO (x.natAbs%y.natAbs);have lq:Ev L 103 [.sl false ((dg (x.natAbs/y.natAbs)).map AL),.sl true [[.int .u32 1]]] (.sl false ((dg (x.natAbs/y.natAbs+1)).map AL)):=by
  have:=rV N (dg (x.natAbs/y.natAbs)) [1] false true (DI _) (GS (by omega)) (by have:=hq.2;omega) (by simp)
  rw[BN,show val [1]=1 from rfl]at this;exact this
 have zk:Sm 274877906944 (dg (x.natAbs/y.natAbs+1)):=hq.add (b:=[1]) (lH (by omega) (by omega)) (by rw[BN];simp [val]);have Fy:=λ q q'=>iE N (dg y.natAbs) (dg (x.natAbs%y.natAbs)) q q' s2.1 hr.1 (by omega) (by have:=hr.2;omega)
 rw[BN,BN]at Fy;have u1:=λ n q=>IY N n q (dg (x.natAbs/y.natAbs)) (hq.le (by omega))
 have u2:=λ n q=>IY N n q (dg (x.natAbs/y.natAbs+1)) zk
 have ez : ∀ n V,zv n (dg V)=bif n then -(V:Int) else (V:Int):=λ n V=>by unfold zv;rw[BN]
 have fin : ∀ (z:Int) (V:Nat),AJ (.l6 [.agg (eZ z),.agg [.bool false,.sl false ((dg V).map AL)],.int .i64 0]) (.l6 [.agg (eZ z),.agg (eZ (V:Int)),.int .i64 0]):=λ z V=>by
  have e3:AV.agg (eZ (V:Int)) = .agg [.bool false,.sl false ((dg V).map AL)]:=(EF (by omega) (FW (by omega))).symm;rw[e3];refine AW rfl ?_;simp only[A1,CD,and_true,true_and];exact ⟨CI _,CI _⟩
 clear e1 e2 hx hy;generalize x.natAbs/y.natAbs=qq at *;generalize x.natAbs%y.natAbs=rr at *;refine Ev.x N.MB rfl rfl ?_;(repeat' ((first|(apply AG<;>intro hc<;>try omega)|apply AD|refine AC (t1 _) ?_|refine AC (t2 _) ?_|refine AC (Ca _ _) ?_)<;>conv=>whnf))
 generalize decide (x<0)=p at *;generalize decide (y<0)=r at *;cases p
 ·rw[if_neg (by simp),if_neg (by simp),<-ez]
  cases r;all_goals
   (conv=>whnf)
   (repeat' (refine AC (u1 _ _) ?_<;>conv=>whnf))
   exact fin _ _
 ·by_cases s8:rr=0
  ·rw[if_neg (by simp [s8]),if_neg (by simp [s8]),<-ez]
   cases r;all_goals
    (conv=>whnf)
    (repeat' ((first|(apply AG<;>intro hc<;>try omega)|apply AQ|refine AC (u1 _ _) ?_)<;>conv=>whnf))
    exact fin _ _
  ·rw[if_pos ⟨rfl,s8⟩,if_pos ⟨rfl,s8⟩,<-ez]
   cases r;all_goals
    (conv=>whnf)
    (repeat' ((first|(apply AG<;>intro hc<;>try omega)|apply AQ|refine G7 rfl ?_|refine AC (lq) ?_|refine AC (Fy _ _) ?_|refine AC (u2 _ _) ?_)<;>conv=>whnf))
    exact fin _ _
theorem pW:dg 1=[1]:=by rw[IC (by omega)];simp [EN]
theorem nV:AV.agg [.bool false,.sl false [],.sl false [[.int .u32 1]]] = .agg (eQ 0):=by
 show _=AV.agg (rQ _ _ _ _ _);rw[Rat.zero_num,Rat.zero_den,pW,show (0:Int).natAbs=0 from rfl,EN];rfl
theorem Wb {x y:Int} (hy:y≠0):(Rat.divInt x y).num=(if y<0 then -(x/((Nat.gcd x.natAbs y.natAbs:Nat):Int)) else x/((Nat.gcd x.natAbs y.natAbs:Nat):Int))/\(Rat.divInt x y).den=(y/((Nat.gcd x.natAbs y.natAbs:Nat):Int)).natAbs:=by
 have h1:=Rat.num_divInt x y;have h2:=Rat.den_divInt x y;rw[if_neg hy]at h2;have hg:Int.gcd y x=Nat.gcd x.natAbs y.natAbs:=by rw[Int.gcd,Nat.gcd_comm]
 rw[hg]at h1 h2;have Ka:0<Nat.gcd x.natAbs y.natAbs:=Nat.gcd_pos_of_pos_right _ (by omega);have dx:((Nat.gcd x.natAbs y.natAbs:Nat):Int) ∣ x:=Int.ofNat_dvd_left.2 (Nat.gcd_dvd_left _ _);have dy:((Nat.gcd x.natAbs y.natAbs:Nat):Int) ∣ y:=Int.ofNat_dvd_left.2 (Nat.gcd_dvd_right _ _);generalize Nat.gcd x.natAbs y.natAbs=g at *;rw[h1,h2];obtain ⟨u,rfl⟩:=dx;obtain ⟨v,rfl⟩:=dy;have Ax:(g:Int)≠0:=by omega
 refine ⟨?_,?_⟩
 ·rw[Int.mul_ediv_cancel_left _ Ax]
  split
  ·rename_i h
   rw[Int.sign_eq_neg_one_of_neg h,show -1*((g:Int)*u)=g*(-u) by rw[Int.mul_neg];omega,Int.mul_ediv_cancel_left _ Ax]
  ·rw[Int.sign_eq_one_of_pos (by omega),Int.one_mul,Int.mul_ediv_cancel_left _ Ax]
 ·rw[Int.mul_ediv_cancel_left _ Ax,Int.natAbs_mul,Int.natAbs_natCast,Nat.mul_div_cancel_left _ Ka]
theorem YK (N:a7 L) (n1 n2 q1 q2:Bool) (a b:List Nat) (ha:Sm 274877906943 a) (hb:Sm 274877906943 b):Ev L 121 [.agg (rZ q1 n1 a),.agg (rZ q2 n2 b)] (.agg (eQ (Rat.divInt (zv n1 a) (zv n2 b)))):=by
 have t1:=λ q=>WJ N n1 q a (ha.le (by omega))
 have t2:=λ q=>WJ N n2 q b (hb.le (by omega))
 by_cases h1:zv n1 a=0
 ·rw[h1,Rat.zero_divInt,<-nV]
  rw[h1,<-dE rfl]at t1;refine Ev.x N.HY rfl rfl ?_;(repeat' ((first|(apply AG<;>intro hc<;>try omega)|refine G7 rfl ?_|apply AD|refine AC (t1 _) ?_)<;>conv=>whnf))
  exact AW rfl (aL false [] [1])
 have s1:y7 (zv n1 a)≠0:=by unfold y7;split<;>(try split)<;>omega
 by_cases h2:zv n2 b=0
 ·rw[h2,Rat.divInt_zero,<-nV]
  rw[h2,<-dE rfl]at t2;generalize y7 (zv n1 a)=sg at *;refine Ev.x N.HY rfl rfl ?_;(repeat' ((first|(apply AG<;>intro hc<;>try omega)|refine G7 rfl ?_|apply AD|refine AC (t1 _) ?_|refine AC (t2 _) ?_)<;>conv=>whnf))
  exact AW rfl (aL false [] [1])
 have s2:y7 (zv n2 b)≠0:=by unfold y7;split<;>(try split)<;>omega
 obtain ⟨p1,p2⟩:=Wb (x:=zv n1 a) h2;have hG:=λ q q'=>Aev N n1 n2 q q' a b (ha.le (by omega)) (hb.le (by omega))
 have hle:Nat.gcd (val a) (val b)<=val b:=Nat.gcd_le_right _ (by have:=EL n2 b;omega);have Ka:0<Nat.gcd (val a) (val b):=Nat.gcd_pos_of_pos_right _ (by have:=EL n2 b;omega);have sg:Sm 274877906943 (dg (Nat.gcd (val a) (val b))):=hb.low hle;rw[EL,EL]at p1 p2;have hgf:decide (((Nat.gcd (val a) (val b):Nat):Int)<0)=false:=by simp
 have Qc:Sm 274877906943 (dg (((Nat.gcd (val a) (val b):Nat):Int)).natAbs):=by rw[Int.natAbs_natCast];exact sg
 have zg:zv (decide (((Nat.gcd (val a) (val b):Nat):Int)<0)) (dg (((Nat.gcd (val a) (val b):Nat):Int)).natAbs)=((Nat.gcd (val a) (val b):Nat):Int):=ER _;have tn:=λ q q'=>sA N n1 _ q q' a _ ha Qc (by rw[zg];omega)
 have tt:=λ q q'=>sA N n2 _ q q' b _ hb Qc (by rw[zg];omega)
 rw[zg]at tn tt;have uo:Sm 274877906943 (dg (zv n1 a/((Nat.gcd (val a) (val b):Nat):Int)).natAbs):=ha.low (by
  have:(zv n1 a/((Nat.gcd (val a) (val b):Nat):Int)).natAbs<=(zv n1 a).natAbs:=Int.natAbs_ediv_le_natAbs _ _
  rw[EL]at this;exact this)
 have Ax:0<((Nat.gcd (val a) (val b):Nat):Int):=by omega
 generalize ((Nat.gcd (val a) (val b):Nat):Int)=g at *;generalize zv n1 a=x at *;generalize zv n2 b=y at *;generalize y7 x=sx at *;generalize y7 y=sy at *;have hN:=λ q=>iF N (decide (x/g<0)) q (dg (x/g).natAbs) (uo.le (by omega))
 rw[ER]at hN;have Hq:decide (y/g<0)=decide (y<0):=by
  congr 1;rw[eq_iff_iff,Int.ediv_lt_iff_lt_mul (by omega),Int.zero_mul]
 refine Ev.x N.HY rfl rfl ?_;(repeat' ((first|(apply AG<;>intro hc<;>try omega)|apply AD|refine AC (t1 _) ?_|refine AC (t2 _) ?_|refine AC (hG _ _) ?_|refine AC (tn _ _) ?_|refine AC (tt _ _) ?_)<;>conv=>whnf))
 cases Pa:decide (y/g<0)
 ·rw[Pa]at Hq
  rw[if_neg (of_decide_eq_false Hq.symm)]at p1;(conv=>whnf)
  skip
  refine AW ?_ (D9 _);show _=AV.agg (rQ _ _ _ _ _);rw[p1,p2]
 ·rw[Pa]at Hq
  rw[if_pos (of_decide_eq_true Hq.symm)]at p1;(conv=>whnf)
  (repeat' (refine AC (hN _) ?_<;>conv=>whnf))
  refine AW ?_ (D9 _);show _=AV.agg (rQ _ _ _ _ _);rw[p1,p2]
theorem Wc {z:Int} {d:List Nat}:Rat.divInt z (zv false d)=mkRat z (val d):=by rw[D8,Rat.divInt_ofNat]
def Qm (n:Bool) (m d:List Nat) (n':Bool) (m' d':List Nat) (k:Nat):Prop:=Sm k m'/\Sm k d'/\val d'≠0/\qv n m d=mkRat (zv n' m') (val d')
theorem oU (n:Bool) (m d:List Nat):A1 (.l6 [.agg (rZ false n m),.agg (rZ false false d)]):=by
 simp only[A1,CD,and_true,true_and];exact ⟨CI _,CI _⟩
theorem KH (N:a7 L) (n q:Bool) (m d:List Nat) (k:Nat) (hk:1<=k/\k<=274877906943) (hm:Sm k m) (hd:Sm k d) : ∃ n' m' d',Ev L 122 [.agg (rQ false q n m d)] (.l6 [.agg (rZ false n' m'),.agg (rZ false false d')])/\Qm n m d n' m' d' k:=by
 have t1:=λ q=>FS N d q hd.1 (by have:=hd.2;omega)
 have hl:=HO (val d);by_cases h0:val d=0
 ·refine ⟨false,[],[1],?_,XF _,lH hk.1 (by omega),by decide,by unfold qv;rw[h0,Rat.mkRat_zero,Ml,Rat.zero_mkRat]⟩
  refine Ev.x N.I5 rfl rfl ?_;(repeat' ((first|(apply AG<;>intro hc<;>try omega)|apply AQ|refine G7 rfl ?_|apply AD|refine AC (t1 _) ?_)<;>conv=>whnf))
  exact AW rfl (oU false [] [1])
 ·refine ⟨n,m,dg (val d),?_,hm,hd.wj,by rw[BN];exact h0,by rw[BN];rfl⟩
  refine Ev.x N.I5 rfl rfl ?_;(repeat' ((first|(apply AG<;>intro hc<;>try omega)|apply AQ|apply AD|refine AC (t1 _) ?_)<;>conv=>whnf))
  exact AW rfl (oU _ _ _)
theorem sC (N:a7 L) (n q:Bool) (m d:List Nat) (hm:Sm 274877906943 m) (hd:Sm 274877906943 d):Ev L 123 [.agg (rQ false q n m d)] (.agg (eQ (qv n m d))):=by
 obtain ⟨n',m',d',hp,s1,s2,s3,s4⟩:=KH N n q m d 274877906943 (by omega) hm hd;have hr:=λ q q'=>YK N n' false q q' m' d' s1 s2
 rw[Wc,<-s4]at hr;refine Ev.x N.MS rfl rfl ?_;(repeat' ((first|apply AD|refine AC (hp) ?_|refine AC (hr _ _) ?_)<;>conv=>whnf))
 exact AW rfl (D9 _)
theorem Tp (z:Int):AV.agg [.bool (decide (z<0)),.sl false ((dg z.natAbs).map AL),.sl false [[.int .u32 1]]] = .agg (eQ (z:Rat)):=by
 show _=AV.agg (rQ _ _ _ _ _);rw[Rat.num_intCast,Rat.den_intCast,pW];rfl
theorem QK (N:a7 L) (z:Int) (hz : -9223372036854775808<=z/\z<=9223372036854775807):Ev L 124 [.int .i64 z] (.agg (eQ (z:Rat))):=by
 have h1:=iG N z hz;refine Ev.x N.MP rfl rfl ?_;(repeat' ((first|refine G7 rfl ?_|apply AD|refine AC (h1) ?_)<;>conv=>whnf))
 exact AW (Tp z) (D9 _)
theorem xP {z:Int} (hz : -9223372036854775808<=z/\z<=9223372036854775808):Sm 2 (dg z.natAbs):=Sm.dg (by omega)
theorem sB (N:a7 L) (x y:Int) (hx : -9223372036854775808<=x/\x<=9223372036854775807) (hy : -9223372036854775808<=y/\y<=9223372036854775807):Ev L 125 [.int .i64 x,.int .i64 y] (.agg (eQ (Rat.divInt x y))):=by
 have h1:=iG N x hx;have h2:=iG N y hy;have hr:=λ q q'=>YK N (decide (x<0)) (decide (y<0)) q q' _ _ ((xP (z:=x) (by omega)).le (by omega)) ((xP (z:=y) (by omega)).le (by omega))
 rw[ER,ER]at hr;refine Ev.x N.MM rfl rfl ?_;(repeat' ((first|apply AD|refine AC (h1) ?_|refine AC (h2) ?_|refine AC (hr _ _) ?_)<;>conv=>whnf))
 exact AW rfl (D9 _)
theorem P6 {k l:Nat} {n1 n2:Bool} {a b:List Nat} (ha:Sm k a) (hb:Sm l b):Sm (k+l) (dg (zv n1 a*zv n2 b).natAbs):=ha.mul hb (by rw[Int.natAbs_mul,EL,EL])
theorem Ah5 {k:Nat} {x y:Int} (ha:Sm k (dg x.natAbs)) (hb:Sm k (dg y.natAbs)):Sm (k+1) (dg (x+y).natAbs):=ha.add hb (by rw[BN,BN];omega)
theorem Aex (N:a7 L) (k:Nat) (hk:1<=k/\k<=68719476736) (n1 n2 q2 q4:Bool) (m1 d1 m2 d2:List Nat) (lk:Sm k m1) (ki:Sm k d1) (gx:Sm k m2) (nx:Sm k d2) :
  Ev L 126 [.agg (rQ false q2 n1 m1 d1),.agg (rQ false q4 n2 m2 d2)] (.agg (eQ (qv n1 m1 d1+qv n2 m2 d2))):=by
 obtain ⟨a1,a2,a3,bz,s1,s2,s3,s5⟩:=KH N n1 q2 m1 d1 k (by omega) lk ki;obtain ⟨b1,b2,b3,dc,t1,t2,t3,t5⟩:=KH N n2 q4 m2 d2 k (by omega) gx nx;have l1:=s1.2;have l2:=s2.2;have l3:=t1.2;have l4:=t2.2;rw[s5,t5,cB s3 t3,<-D8 b3,<-D8 a3];have aq:=λ q q'=>PN N a1 false q q' a2 b3 s1.1 t2.1 (by omega)
 have eb:=λ q q'=>PN N b1 false q q' b2 a3 t1.1 s2.1 (by omega)
 have rb:=λ q q'=>PN N false false q q' a3 b3 s2.1 t2.1 (by omega)
 have g1:Sm (k+k) (dg (zv a1 a2*zv false b3).natAbs):=P6 s1 t2;have g2:Sm (k+k) (dg (zv b1 b2*zv false a3).natAbs):=P6 t1 s2;have g3:=Ah5 g1 g2;have g4:Sm (k+k) (dg (zv false a3*zv false b3).natAbs):=P6 s2 t2;have hA:=λ q q'=>rY N (decide (zv a1 a2*zv false b3<0)) (decide (zv b1 b2*zv false a3<0)) q q' _ _ (g1.le (by omega)) (g2.le (by omega))
 rw[ER,ER]at hA;have hR:=λ q q'=>YK N (decide (zv a1 a2*zv false b3+zv b1 b2*zv false a3<0)) (decide (zv false a3*zv false b3<0)) q q' _ _ (g3.le (by omega)) (g4.le (by omega))
 rw[ER,ER,show zv false a3*zv false b3=((val a3*val b3:Nat):Int) by rw[D8,D8];simp,Rat.divInt_ofNat]at hR;rw[show zv false a3*zv false b3=((val a3*val b3:Nat):Int) by rw[D8,D8];simp]at rb;refine Ev.x N.MJ rfl rfl ?_;(repeat' ((first|apply AD|refine AC (bz) ?_|refine AC (dc) ?_|refine AC (aq _ _) ?_|refine AC (eb _ _) ?_|refine AC (hA _ _) ?_|refine AC (rb _ _) ?_|refine AC (hR _ _) ?_)<;>conv=>whnf))
 exact AW rfl (D9 _)
theorem Aez (N:a7 L) (k:Nat) (hk:1<=k/\k<=68719476736) (n1 n2 q2 q4:Bool) (m1 d1 m2 d2:List Nat) (lk:Sm k m1) (ki:Sm k d1) (gx:Sm k m2) (nx:Sm k d2) :
  Ev L 128 [.agg (rQ false q2 n1 m1 d1),.agg (rQ false q4 n2 m2 d2)] (.agg (eQ (qv n1 m1 d1*qv n2 m2 d2))):=by
 obtain ⟨a1,a2,a3,bz,s1,s2,s3,s5⟩:=KH N n1 q2 m1 d1 k (by omega) lk ki;obtain ⟨b1,b2,b3,dc,t1,t2,t3,t5⟩:=KH N n2 q4 m2 d2 k (by omega) gx nx;have l1:=s1.2;have l2:=s2.2;have l3:=t1.2;have l4:=t2.2;rw[s5,t5,jU];have aq:=λ q q'=>PN N a1 b1 q q' a2 b2 s1.1 t1.1 (by omega)
 have rb:=λ q q'=>PN N false false q q' a3 b3 s2.1 t2.1 (by omega)
 have g1:Sm (k+k) (dg (zv a1 a2*zv b1 b2).natAbs):=P6 s1 t1;have g4:Sm (k+k) (dg (zv false a3*zv false b3).natAbs):=P6 s2 t2;have hR:=λ q q'=>YK N (decide (zv a1 a2*zv b1 b2<0)) (decide (zv false a3*zv false b3<0)) q q' _ _ (g1.le (by omega)) (g4.le (by omega))
 rw[ER,ER,show zv false a3*zv false b3=((val a3*val b3:Nat):Int) by rw[D8,D8];simp,Rat.divInt_ofNat]at hR;rw[show zv false a3*zv false b3=((val a3*val b3:Nat):Int) by rw[D8,D8];simp]at rb;refine Ev.x N.MN rfl rfl ?_;(repeat' ((first|apply AD|refine AC (bz) ?_|refine AC (dc) ?_|refine AC (aq _ _) ?_|refine AC (rb _ _) ?_|refine AC (hR _ _) ?_)<;>conv=>whnf))
 exact AW rfl (D9 _)
theorem vE {a b:Int} {d e:Nat} (hd:d≠0) (he:e≠0):y7 (a*e-b*d)=y7 (mkRat a d-mkRat b e).num:=by
 have h:mkRat a d-mkRat b e=mkRat (a*e-b*d) (d*e):=by
  rw[Rat.sub_eq_add_neg,Rat.neg_mkRat,cB hd he,Int.neg_mul,<-Int.sub_eq_add_neg]
 rw[h,vG (Nat.mul_ne_zero hd he)]
theorem Aey (N:a7 L) (k:Nat) (hk:1<=k/\k<=68719476736) (n1 n2 q2 q4:Bool) (m1 d1 m2 d2:List Nat) (lk:Sm k m1) (ki:Sm k d1) (gx:Sm k m2) (nx:Sm k d2) :
  Ev L 127 [.agg (rQ false q2 n1 m1 d1),.agg (rQ false q4 n2 m2 d2)] (.int .i64 (y7 (qv n1 m1 d1-qv n2 m2 d2).num)):=by
 obtain ⟨a1,a2,a3,bz,s1,s2,s3,s5⟩:=KH N n1 q2 m1 d1 k (by omega) lk ki;obtain ⟨b1,b2,b3,dc,t1,t2,t3,t5⟩:=KH N n2 q4 m2 d2 k (by omega) gx nx;have l1:=s1.2;have l2:=s2.2;have l3:=t1.2;have l4:=t2.2;rw[s5,t5,<-vE s3 t3,<-D8 b3,<-D8 a3];have aq:=λ q q'=>PN N a1 false q q' a2 b3 s1.1 t2.1 (by omega)
 have eb:=λ q q'=>PN N b1 false q q' b2 a3 t1.1 s2.1 (by omega)
 have g1:Sm (k+k) (dg (zv a1 a2*zv false b3).natAbs):=P6 s1 t2;have g2:Sm (k+k) (dg (zv b1 b2*zv false a3).natAbs):=P6 t1 s2;have hC:=λ q q'=>Aeu N (decide (zv a1 a2*zv false b3<0)) (decide (zv b1 b2*zv false a3<0)) q q' _ _ (g1.le (by omega)) (g2.le (by omega))
 rw[ER,ER]at hC;refine Ev.x N.MK rfl rfl ?_;(repeat' ((first|apply AD|refine AC (bz) ?_|refine AC (dc) ?_|refine AC (aq _ _) ?_|refine AC (eb _ _) ?_|refine AC (hC _ _) ?_)<;>conv=>whnf))
 exact CM rfl
theorem Bt.ku {k:Nat} {x:Rat} (h:Bt k x) (hk:k<2199023255552):Sm 68719476736 (dg x.num.natAbs)/\Sm 68719476736 (dg x.den):=h.Mt (by omega)
theorem gW (N:a7 L) {x y:Rat} {k l:Nat} (hx:Bt k x) (hy:Bt l y) (hk:k<2199023255552) (hl:l<2199023255552):Ev L 126 [.agg (eQ x),.agg (eQ y)] (.agg (eQ (x+y))):=by
 have:=Aex N 68719476736 (by omega) (decide (x.num<0)) (decide (y.num<0)) false false _ _ _ _ (hx.ku hk).1 (hx.ku hk).2 (hy.ku hl).1 (hy.ku hl).2
 rw[E2,E2]at this;exact this
theorem T4 (N:a7 L) {x y:Rat} {k l:Nat} (hx:Bt k x) (hy:Bt l y) (hk:k<2199023255552) (hl:l<2199023255552):Ev L 128 [.agg (eQ x),.agg (eQ y)] (.agg (eQ (x*y))):=by
 have:=Aez N 68719476736 (by omega) (decide (x.num<0)) (decide (y.num<0)) false false _ _ _ _ (hx.ku hk).1 (hx.ku hk).2 (hy.ku hl).1 (hy.ku hl).2
 rw[E2,E2]at this;exact this
theorem WL (N:a7 L) {x:Rat} {k:Nat} (hx:Bt k x) (hk:k<2199023255552):Ev L 123 [.agg (eQ x)] (.agg (eQ x)):=by
 have:=sC N (decide (x.num<0)) false _ _ ((hx.ku hk).1.le (by omega)) ((hx.ku hk).2.le (by omega))
 rw[E2]at this;exact this
theorem rG (N:a7 L) {x y:Rat} {k l:Nat} (hx:Bt k x) (hy:Bt l y) (hk:k<2199023255552) (hl:l<2199023255552):Ev L 127 [.agg (eQ x),.agg (eQ y)] (.int .i64 (y7 (x-y).num)):=by
 have:=Aey N 68719476736 (by omega) (decide (x.num<0)) (decide (y.num<0)) false false _ _ _ _ (hx.ku hk).1 (hx.ku hk).2 (hy.ku hl).1 (hy.ku hl).2
 rw[E2,E2]at this;exact this
theorem lD {x y:Rat}:y7 (x-y).num=0↔x=y:=by
 have h:y7 (x-y).num=0↔(x-y).num=0:=by unfold y7;split<;>(try split)<;>omega
 rw[h,Rat.num_eq_zero];constructor
 ·intro h;grind
 ·rintro rfl;exact Rat.sub_self
theorem gV (N:a7 L) (a b:List Rat) (q1 q2:Bool) (k:Nat) (ha:Bs k a) (hb:Bs k b) (hk:k<2199023255552) (hl:a.length<=1099511627776):Ev L 129 [.sl q1 (a.map eQ),.sl q2 (b.map eQ)] (.bool (decide (a=b))):=by
 refine Ev.x N.M5 rfl rfl ?_;by_cases hlen:a.length=b.length
 ·(repeat' ((first|(apply AG<;>intro hc<;>try omega)|apply AQ|apply AD)<;>conv=>whnf))
  refine DF (λ i=>a.length-i) (λ(i:Nat)=>i<=a.length/\a.take i=b.take i) (λ i=>[(5,.int .i64 i)]) (λ_=>[]) 0 ⟨by omega,rfl⟩ ?_;intro i ⟨p1,p2⟩ ih;by_cases hi:i<a.length
  ·obtain ⟨x,hx⟩ : ∃ x,a[i]? = some x:=⟨_,zE hi⟩
   obtain ⟨y,hy⟩ : ∃ y,b[i]? = some y:=⟨_,zE (by omega)⟩;have jg:a[(i:Int).toNat]? = some x:=hx;have yc:b[(i:Int).toNat]? = some y:=hy;have Mw:=rG N (ha.at hx) (hb.at hy) hk hk;have hs:=lD (x:=x) (y:=y);generalize y7 (x-y).num=sg at *;by_cases np:x=y
   ·have h0:sg=0:=hs.2 np
    (repeat' ((first|(apply AG<;>intro hc<;>try omega)|(apply A0;omega)|apply AQ|(refine A8 (by assumption) ?_ rfl ?_;omega)|apply AD|refine AC (Mw) ?_)<;>conv=>whnf))
    refine BH [] (by (conv=>whnf);exact ⟨rfl,rfl,rfl⟩) (ih (i+1) (by omega) ⟨by omega,?_⟩);rw[List.take_add_one,List.take_add_one,p2,hx,hy,np]
   ·have m8:sg≠0:=λ h=>np (hs.1 h)
    (repeat' ((first|(apply AG<;>intro hc<;>try omega)|apply AQ|(refine A8 (by assumption) ?_ rfl ?_;omega)|apply AD|refine AC (Mw) ?_)<;>conv=>whnf))
    refine RN (λ h=>np ?_);rw[h,hy]at hx;exact (Option.some.inj hx).symm
  ·obtain rfl:i=a.length:=by omega
   clear ih;(repeat' ((first|(apply AG<;>intro hc<;>try omega)|apply AQ|apply AD)<;>conv=>whnf))
   refine XT ?_;rw[zT (Nat.le_refl _),zT (by omega)]at p2;exact p2
 ·(repeat' ((first|(apply AG<;>intro hc<;>try omega)|apply AQ|apply AD)<;>conv=>whnf))
  exact RN (λ h=>hlen (by rw[h]))
theorem hJ (N:n7 L) {x:Rat} {k:Nat} (hx:Bt k x) (hk:k<2199023255552):Ev L 152 [.agg (eQ x)] (.agg (eQ (-x))):=by
 have hT:=WL N.toa7 hx hk;have hN:=λ q=>iF N.toa7 (decide (x.num<0)) q (dg x.num.natAbs) ((hx.ku hk).1.le (by omega))
 rw[ER]at hN;refine Ev.x N.MO rfl rfl ?_;(repeat' ((first|apply AD|refine AC (hT) ?_|refine AC (hN _) ?_)<;>conv=>whnf))
 refine AW ?_ (D9 _);show _=AV.agg (rQ _ _ _ _ _);rw[Rat.neg_num,Rat.neg_den]
theorem sJ (N:n7 L) {x y:Rat} {k l:Nat} (hx:Bt k x) (hy:Bt l y) (hk:k<2199023255552) (hl:l<2199023255552):Ev L 153 [.agg (eQ x),.agg (eQ y)] (.agg (eQ (x-y))):=by
 have hn:Bt l (-y):=⟨by rw[Rat.neg_num,Int.natAbs_neg];exact hy.1,by rw[Rat.neg_den];exact hy.2⟩;have hN:=hJ N hy hl;have hA:=gW N.toa7 hx hn hk hl;rw[<-Rat.sub_eq_add_neg]at hA;refine Ev.x N.MR rfl rfl ?_;(repeat' ((first|apply AD|refine AC (hN) ?_|refine AC (hA) ?_)<;>conv=>whnf))
 exact AW rfl (D9 _)
theorem Agk {a c:Int} {b d:Nat} (hb:b≠0) (hd:d≠0) (hc:c≠0):mkRat a b/mkRat c d=Rat.divInt (a*d) (b*c):=by
 rw[Rat.div_def,<-Rat.divInt_ofNat,<-Rat.divInt_ofNat,Rat.inv_divInt,Rat.divInt_mul_divInt]
theorem Xw (N:n7 L) {x y:Rat} {k l:Nat} (hx:Bt k x) (hy:Bt l y) (hk:k<2199023255552) (hl:l<2199023255552) (h0:y≠0):Ev L 154 [.agg (eQ x),.agg (eQ y)] (.l6 [.agg (eQ (x/y)),.int .i64 0]):=by
 obtain ⟨a1,a2,a3,bz,s1,s2,s3,s5⟩:=KH N.toa7 (decide (x.num<0)) false (dg x.num.natAbs) (dg x.den) 68719476736 (by omega) (hx.ku hk).1 (hx.ku hk).2;obtain ⟨b1,b2,b3,dc,t1,t2,t3,t5⟩:=KH N.toa7 (decide (y.num<0)) false (dg y.num.natAbs) (dg y.den) 68719476736 (by omega) (hy.ku hl).1 (hy.ku hl).2;have l1:=s1.2;have l2:=s2.2;have l3:=t1.2;have l4:=t2.2;rw[E2]at s5 t5;have vq:zv b1 b2≠0:=λ h=>h0 (by rw[t5,h,Rat.zero_mkRat])
 have hS:=λ q=>WJ N.toa7 b1 q b2 (t1.le (by omega))
 have rn:y7 (zv b1 b2)≠0:=by unfold y7;split<;>(try split)<;>omega
 have aq:=λ q q'=>PN N.toa7 a1 false q q' a2 b3 s1.1 t2.1 (by omega)
 have eb:=λ q q'=>PN N.toa7 false b1 q q' a3 b2 s2.1 t1.1 (by omega)
 have g1:Sm (68719476736+68719476736) (dg (zv a1 a2*zv false b3).natAbs):=P6 s1 t2;have g2:Sm (68719476736+68719476736) (dg (zv false a3*zv b1 b2).natAbs):=P6 s2 t1;have hR:=λ q q'=>YK N.toa7 (decide (zv a1 a2*zv false b3<0)) (decide (zv false a3*zv b1 b2<0)) q q' _ _ (g1.le (by omega)) (g2.le (by omega))
 rw[ER,ER]at hR;have he:x/y=Rat.divInt (zv a1 a2*zv false b3) (zv false a3*zv b1 b2):=by rw[s5,t5,Agk s3 t3 vq,D8,D8]
 rw[he];generalize y7 (zv b1 b2)=sg at *;refine Ev.x N.ML rfl rfl ?_;(repeat' ((first|(apply AG<;>intro hc<;>try omega)|apply AD|refine AC (bz) ?_|refine AC (dc) ?_|refine AC (hS _) ?_|refine AC (aq _ _) ?_|refine AC (eb _ _) ?_|refine AC (hR _ _) ?_)<;>conv=>whnf))
 exact AW rfl (by simp only[A1,CD,and_true,true_and];exact ⟨CI _,CI _⟩)
theorem YL (N:n7 L) {x:Rat} {k:Nat} (hx:Bt k x) (hk:k<2199023255552) : ∃ s:Int,Ev L 155 [.agg (eQ x)] (.int .i64 s)/\(s=0↔x=0):=by
 have hm:=hx.ku hk;obtain ⟨n',m',d',hp,s1,s2,s3,s4⟩:=KH N.toa7 (decide (x.num<0)) false (dg x.num.natAbs) (dg x.den) 274877906943 (by omega) (hm.1.le (by omega)) (hm.2.le (by omega));have hS:=λ q=>WJ N.toa7 n' q m' (s1.le (by omega))
 rw[E2]at s4;have hz:y7 (zv n' m')=0↔x=0:=by
  rw[s4,Rat.mkRat_eq_zero s3];unfold y7;split<;>(try split)<;>omega
 generalize y7 (zv n' m')=s at *;refine ⟨s,?_,hz⟩;refine Ev.x N.I3 rfl rfl ?_;(repeat' ((first|apply AD|refine AC (hp) ?_|refine AC (hS _) ?_)<;>conv=>whnf))
 exact CM rfl
def CP (l:List Rat):Nat->Nat
 | 0=>0
 | n+1=>if l.getD n 0=0 then CP l n else n+1
theorem IW (l:List Rat) : ∀ n,CP l n<=n
 | 0=>Nat.le_refl _
 | n+1=>by rw[CP];split;exact Nat.le_succ_of_le (IW l n);exact Nat.le_refl _
def BW (l:List Rat):List Rat:=l.take (CP l l.length)
theorem pP (l:List Rat) (k:Nat) : ∀ n,n<=k->CP (l.take k) n=CP l n
 | 0,_=>rfl
 | n+1,h=>by
  rw[CP,CP,pP l k n (by omega),List.getD_eq_getElem?_getD,List.getD_eq_getElem?_getD,List.getElem?_take_of_lt (by omega)]
theorem pN (l:List Rat) : ∀ n,CP l (CP l n)=CP l n
 | 0=>rfl
 | n+1=>by
  rw[CP];split
  ·exact pN l n
  ·next h=>rw[CP,if_neg h]
theorem J8 (l:List Rat):(BW l).length=CP l l.length:=by rw[BW,List.length_take];exact Nat.min_eq_left (IW _ _)
theorem VN (l:List Rat):BW (BW l)=BW l:=by
 have h:=J8 l;have h2:CP (BW l) (BW l).length=(BW l).length:=by
  rw[h,BW,pP _ _ _ (Nat.le_refl _),pN]
 rw[BW,h2,List.take_length]
theorem Bs.trim {k:Nat} {l:List Rat} (h:Bs k l):Bs k (BW l):=λ x hx=>h x (List.mem_of_mem_take hx)
theorem lY {l:List Rat} {i:Nat} {x:Rat} (h:l[i]? = some x):l.take (i+1)=l.take i++[x]:=by
 rw[List.take_add_one,h];rfl
theorem QL (N:u5 L) (q:Bool) (l:List Rat) (k:Nat) (hl:Bs k l) (hk:k<2199023255552) (hn:l.length<=1000000):Ev L 171 [.sl q (l.map eQ)] (.sl false ((BW l).map eQ)):=by
 refine Ev.x N.I7 rfl rfl ?_;(repeat' ((first|apply AQ|apply AD)<;>conv=>whnf))
 refine DF (λ n=>n) (λ(n:Nat)=>n<=l.length/\CP l l.length=CP l n) (λ n=>[(3,.int .i64 n)]) (λ_=>[]) l.length ⟨Nat.le_refl _,rfl⟩ ?_;intro n ⟨p1,p2⟩ ih;have done : ∀ {n:Nat},CP l l.length=n->BW l=l.take n:=λ h=>by rw[BW,h]
 by_cases hz:n=0\/(∃ m x,n=m+1/\l[m]? = some x/\x≠0)
 ·have ju:CP l l.length=n:=by
   rw[p2];rcases hz with rfl|⟨m,x,rfl,h1,h2⟩
   ·rfl
   ·rw[CP,if_neg]
    rw[List.getD_eq_getElem?_getD,h1];exact h2
  rw[done ju];have ck:(l.take n).length=n:=by rw[List.length_take];omega
  have lv:Bs k (l.take n):=hl.take n;clear ih ju p2 done;rcases hz with h0|⟨m,x,Oh,h1,h2⟩
  case' inl=>(repeat' ((first|(apply AG<;>intro hc<;>try omega)|apply AD)<;>conv=>whnf))
  case' inr =>
   have wv:l[((n:Int)-1).toNat]? = some x:=by rw[show ((n:Int)-1).toNat=m by omega];exact h1
   obtain ⟨s,hS,hs⟩:=YL N.ton7 (hl.at h1) hk;have rl:s≠0:=λ h=>h2 (hs.1 h)
   (repeat' ((first|(apply AG<;>intro hc<;>try omega)|(apply BT;omega)|(refine A8 (by assumption) ?_ rfl ?_;omega)|apply AD|refine AC (hS) ?_)<;>conv=>whnf))
  all_goals
   refine OC (λ_=>rfl) p1 ?_;generalize l.take n=t at *;(conv=>whnf)
   (repeat' (apply AQ<;>conv=>whnf))
   refine DF (λ i=>n-i) (λ(i:Nat)=>i<=n) (λ i=>[(26,.int .i64 i),(4,.row 171004 0 3 0 i)]) (λ i=>[(171004,171004,.rw 3 ((t.take i).map eQ))]) 0 (by omega) ?_;intro i g1 ih;have jf:(t.take i).length=i:=by rw[List.length_take];omega
   by_cases hi:i<n
   ·all_goals try omega
    all_goals
     obtain ⟨y,hy⟩ : ∃ y,t[i]? = some y:=⟨_,zE (by omega)⟩;have yc:t[(i:Int).toNat]? = some y:=hy;have Fu:=lY hy;have vf:(t.take (i+1)).length=i+1:=by rw[List.length_take];omega
     have hT:=WL N.toa7 (lv.at hy) hk;(repeat' ((first|(apply AG<;>intro hc<;>try omega)|(refine A8 (by assumption) ?_ rfl ?_;omega)|apply EE|apply AD|refine AC (hT) ?_)<;>conv=>whnf))
     refine EX (enc:=eQ) y rfl jf.symm rfl (by omega) (by omega) ?_;rw[<-Fu,vf];(conv=>whnf)
     (repeat' ((first|(apply A0;omega)|fail)<;>conv=>whnf))
     exact BQ [(171004,171034)] (ih (i+1) (by omega) (by omega))
   ·obtain rfl:i=n:=by omega
    clear ih;rw[zT (Nat.le_of_eq ck)];(repeat' ((first|(apply AG<;>intro hc<;>try omega)|apply AD)<;>conv=>whnf))
    refine C7 (enc:=eQ) (λ_=>rfl) rfl ck.symm ?_;(conv=>whnf)
    exact AW rfl (by simp only[A1,true_and];exact GF _)
 ·obtain ⟨m,rfl⟩ : ∃ m,n=m+1:=⟨n-1,by omega⟩
  obtain ⟨x,hx⟩ : ∃ x,l[m]? = some x:=⟨_,zE (by omega)⟩;have mq:x=0:=by
   rcases Classical.em (x=0) with h|h
   ·exact h
   ·exact (hz (Or.inr ⟨m,x,rfl,hx,h⟩)).elim
  have jg:l[((m+1:Nat)-1:Int).toNat]? = some x:=by rw[show ((m+1:Nat)-1:Int).toNat=m by omega];exact hx
  obtain ⟨s,hS,hs⟩:=YL N.ton7 (hl.at hx) hk;have rl:=hs.2 mq;(repeat' ((first|(apply AG<;>intro hc<;>try omega)|(apply BT;omega)|(refine A8 (by assumption) ?_ rfl ?_;omega)|apply AD|refine AC (hS) ?_)<;>conv=>whnf))
  rw[show ((m+1:Nat):Int)-1=(m:Int) by omega];exact BQ [] (ih m (by omega) ⟨by omega,by rw[p2,CP,if_pos (by rw[List.getD_eq_getElem?_getD,hx];exact mq)]⟩)
end Go.e8

namespace Go.e8
open F
theorem Ym {L:Lib} {f:Nat} {fn:AFn} {vs:List AV} {own n9:AH} {r:AV} (hL:L f=some fn) (Fp:HK fn.body=true) (h:FZ L f vs own r n9):n9=own:=by
 obtain ⟨n,h⟩:=h;cases n with
 | zero=>simp [C6]at h
 | succ n =>
  rw[YH]at h;simp only[hL]at h;split at h
  ·split at h
   ·rename_i st m5
    split at h
    ·simp only[Option.some.injEq,Prod.mk.injEq]at h
     rw[<-h.2];exact H1 n (by simp [PQ,Fp]) m5
    ·cases h
   ·cases h
  ·cases h
attribute [local irreducible] AA AF AM AE C8 AX BF BD B9 B2 CX E9 B0 A5 B5 CQ AB A7 AJ pw BR BO C4 D0 DZ DU DN BZ DW
set_option maxHeartbeats 1000000
variable {L:Lib}
theorem Xd (N:e5 L) (l:List Nat) (s:Nat) (hD:AY l) (hl:l.length<=1099511627776):A7 L 65 [.row 5 0 1 0 l.length] [(0,.row 5 0 1 0 l.length)] [(5,s,.rw 1 (l.map AL))] (λ r _=>r = .row 5 0 1 0 (dg (val l)).length):=by
 have hlen : ∀ n,n<=l.length->l.take n=dg (val l)->n=(dg (val l)).length:=λ n h1 h2=>by
  rw[<-h2,List.length_take];omega
 refine EM 1000 N.FD rfl rfl ?_;(repeat' (apply AD<;>conv=>whnf))
 refine DF (λ n=>n) (λ(n:Nat)=>n<=l.length /\ ∀ i,n<=i->i<l.length->l[i]? = some 0) (λ n=>[(3,.int .i64 n)]) (λ_=>[]) l.length ⟨Nat.le_refl _,λ i h1 h2=>by omega⟩ ?_;intro n ⟨p1,p2⟩ ih;rcases n with _|n
 ·(repeat' ((first|(apply AG<;>intro hc<;>try omega)|apply AD)<;>conv=>whnf))
  refine GN 0 (by omega) (by omega) ?_;(conv=>whnf)
  refine ⟨rfl,_,rfl,?_⟩;rw[<-hlen 0 p1 (FQ hD p1 p2 (Or.inl rfl))];rfl
 ·have e1:((n+1:Nat):Int)-1=n:=by omega
  (repeat' ((first|(apply AG<;>intro hc<;>try omega)|(apply AU;omega)|(apply BT;omega)|(refine RS (by assumption) ?_ (λ v hv hb => ?_);omega)|apply AD)<;>conv=>whnf))
  ·rw[e1]
   exact BQ [] (ih n (by omega) ⟨by omega,λ i h1 h2=>by
    by_cases h:i=n
    ·subst h
     rw[e1,Int.toNat_natCast]at hv;rw[hv];congr 1;omega
    ·exact p2 i (by omega) h2⟩)
  ·refine GN (n+1) (by omega) (by omega) ?_
   (conv=>whnf)
   refine ⟨rfl,_,rfl,?_⟩;rw[e1,Int.toNat_natCast]at hv;rw[<-hlen (n+1) p1 (FQ hD p1 p2 (Or.inr ⟨_,hv,by omega⟩))];rfl
theorem Xc (N:e5 L) (l:List Nat) (s t:Nat) (own:AH) (hD:AY l) (hl:l.length<=1099511627776) (hb:(own s).e7 t=some ⟨1,l.map AL⟩) (ht:t<(own s).g8) (od:ES s=true):FZ L 65 [.row s t 1 0 l.length] own (.row s t 1 0 (dg (val l)).length) own:=by
 have hs:JP (λ_ _=>(s,t)) own [(5,s,.rw 1 (l.map AL))]:=by
  have key : ∀ k u c,c4 [(5,s,A3.rw 1 (l.map AL))] k u=some c->k=5/\u=0/\c = .rw 1 (l.map AL):=λ k u c e=>by
   simp only[c4,c8]at e;cases hk:Nat.beq k 5<;>simp only[hk,cond_true,cond_false]at e
   ·cases e
   ·cases u with
    | zero=>simp only[Option.some.injEq]at e;exact ⟨Nat.eq_of_beq_eq_true hk,rfl,e.symm⟩
    | succ u=>cases e
  refine ⟨λ k s' c e => ?_,λ k u c e => ?_,λ k u c e=>ht,λ k u k' u' c c' e e' _ => ?_,λ_ _ _ _ _=>od⟩
  ·simp only[c8]at e
   cases hk:Nat.beq k 5<;>simp only[hk,cond_true,cond_false]at e
   ·cases e
   ·simp only[Option.some.injEq,Prod.mk.injEq]at e;exact e.1
  ·obtain ⟨_,_,rfl⟩:=key k u c e
   exact hb
  ·obtain ⟨rfl,rfl,_⟩:=key k u c e
   obtain ⟨rfl,rfl,_⟩:=key k' u' c' e';exact ⟨rfl,rfl⟩
 have hw:=Xd N l s hD hl;unfold A7 at hw;obtain ⟨r,n9,σ',M',h1,h2,h3,rfl⟩:=hw _ own hs;have ho:=Ym N.FD (by decide +kernel) h1;subst ho;have h4:AV.row (σ' 5 0).1 (σ' 5 0).2 1 0 l.length=AV.row s t 1 0 l.length:=h3 0;simp only[AV.row.injEq]at h4;have h5:FZ L 65 [.row s t 1 0 l.length] n9 (.row (σ' 5 0).1 (σ' 5 0).2 1 0 (dg (val l)).length) n9:=h1;rw[h4.1,h4.2.1]at h5;exact h5
theorem ZX (N:e5 L) {l:List Nat} {tm:Tm} {M:Mem} {K:AV->Mem->Prop} {key s len:Nat} (hD:AY l) (hl:l.length<=1099511627776) (hm:c8 M key=some (s,.rw 1 (l.map AL))) (hlen:len=l.length) (hk:K (.row key 0 1 0 (dg (val l)).length) M):A7 L 65 [.row key 0 1 0 len] tm M K:=by
 subst hlen;unfold A7;intro σ own hs;have ft:=hs.site _ _ _ hm;have Fm:c4 M key 0=some (.rw 1 (l.map AL)):=by simp only[c4,hm]
 have hb:=hs.e7 _ _ _ Fm;have ht:=hs.old _ _ _ Fm;refine ⟨.row key 0 1 0 (dg (val l)).length,own,σ,M,?_,hs,λ_=>rfl,hk⟩;exact Xc N l (σ key 0).1 (σ key 0).2 own hD hl hb ht (hs.low _ _ _ (DD hm) rfl)
end Go.e8
