/-
  The references of natural numbers (ref01).
-/
import Derived.Test.YtekdjalmkdjplaaGreatB8
import Derived.Test.YtekdjalmkdjplaaGreatB1
set_option linter.unusedSimpArgs false
set_option linter.unusedVariables false
set_option linter.unnecessarySimpa false
namespace Go.c8
open F
attribute [local irreducible] AA AF AX AB CQ AY BB A9 BS BR CX D9 BT A1 BP CK AC A5 AL pw C7 CE DM DF DP DU DY BQ DE
variable {L:Lib}
set_option maxHeartbeats 4000000
theorem H1 (l:List Nat):AZ (.sl false (l.map AJ)):=by
 simp only[AZ,true_and];exact CR l
theorem bQ {M:Mem} {v:AV} {ky t z off len s:Nat} {l:List Nat} (hv:v = .row ky t z off len) (h:b8 M ky=some (s,.rw 1 (l.map AJ))):OB M v=none:=by
 subst hv;unfold OB;split
 ·rename_i e
  simp only[AV.row.injEq]at e;obtain ⟨rfl,_⟩:=e;rw[h];cases l with
  | nil=>rfl
  | cons a l=>cases l<;>rfl
 ·rfl
theorem FE (N:a8 L) (l:List Nat) (q:Bool) (hD:AR l) (hl:l.length<=1099511627776):Ev L 101 [.sl q (l.map AJ)] (.sl false ((dg (val l)).map AJ)):=by
 refine Ev.x N.GA rfl rfl ?_;(repeat' ((first|apply AQ|apply AD)<;>conv=>whnf))
 refine DL (λ n=>n) (λ(n:Nat)=>n<=l.length /\ ∀ i,n<=i->i<l.length->l[i]? = some 0) (λ n=>[(3,.int .i64 n)]) (λ_=>[]) l.length ⟨Nat.le_refl _,λ i h1 h2=>by omega⟩ ?_;intro n ⟨p1,p2⟩ ih;rcases n with _|n
 ·have hv:=FC hD p1 p2 (Or.inl rfl)
  rw[<-hv];clear ih;(repeat' ((first|(apply AH<;>intro hc<;>try omega)|apply AD)<;>conv=>whnf))
  refine N8 (k:=0) (λ_=>rfl) (by omega) ?_;(conv=>whnf)
  refine M7 (enc:=AJ) (λ_=>rfl) (by rw[List.length_take];omega) (by rw[List.length_take];omega) ?_;(conv=>whnf)
  (repeat' ((refine C8 (λ_=>rfl) rfl ?_ ?_;(first|rfl|simp))<;>conv=>whnf))
  exact AU rfl (H1 _)
 ·have e1:((n+1:Nat):Int)-1=n:=by omega
  (repeat' ((first|(apply AH<;>intro hc<;>try omega)|(apply BN;omega)|(refine NA (by assumption) ?_ (λ e he hb => ?_);omega)|apply AD)<;>conv=>whnf))
  ·rw[e1]
   exact B2 [] (ih n (by omega) ⟨by omega,λ i h1 h2=>by
    by_cases h:i=n
    ·subst h
     rw[e1,Int.toNat_natCast]at he;rw[he];congr 1;omega
    ·exact p2 i (by omega) h2⟩)
  ·rw[e1,Int.toNat_natCast]at he
   have hv:=FC hD p1 p2 (Or.inr ⟨e,he,by omega⟩);rw[<-hv];clear ih;refine N8 (k:=n+1) (λ_=>rfl) (by omega) ?_;(conv=>whnf)
   refine M7 (enc:=AJ) (λ_=>rfl) (by rw[List.length_take];omega) (by rw[List.length_take];omega) ?_;(conv=>whnf)
   (repeat' ((refine C8 (λ_=>rfl) rfl ?_ ?_;(first|rfl|simp))<;>conv=>whnf))
   exact AU rfl (H1 _)
theorem XL (N:a8 L) (a b:List Nat) (q1 q2:Bool) (hA:AR a) (hB:AR b) (la:a.length<=1099511627776) (lb:b.length<=1099511627776):Ev L 102 [.sl q1 (a.map AJ),.sl q2 (b.map AJ)] (.int .i64 (CM (val a) (val b))):=by
 have t1:=λ q=>FE N a q hA la
 have t2:=λ q=>FE N b q hB lb
 have l1:=DR hA;have l2:=DR hB;have d1:=C3 (val a);have d2:=C3 (val b);refine Ev.x N.K1 rfl rfl ?_;by_cases hlen:(dg (val a)).length=(dg (val b)).length
 ·have v1:=BF (val a)
  have v2:=BF (val b);generalize dg (val a)=X at *;generalize dg (val b)=Y at *;(repeat' ((first|(apply AH<;>intro hc<;>try omega)|(apply BN;omega)|apply AQ|apply AD|refine AG (t1 _) ?_|refine AG (t2 _) ?_)<;>conv=>whnf))
  refine DL (λ n=>n) (λ(n:Nat)=>n<=X.length/\X.drop n=Y.drop n) (λ n=>[(5,.int .i64 ((n:Int)-1))]) (λ_=>[]) X.length ⟨Nat.le_refl _,by rw[List.drop_of_length_le (Nat.le_refl _),List.drop_of_length_le (by omega)]⟩ ?_;intro n ⟨p1,p2⟩ ih;rcases n with _|n
  ·(repeat' ((first|(apply AH<;>intro hc<;>try omega)|apply AD)<;>conv=>whnf))
   rw[List.drop_zero,List.drop_zero]at p2;exact B9 (OH (by rw[<-v1,<-v2,p2]))
  ·have e1:((n+1:Nat):Int)-1=n:=by omega
   rw[e1];obtain ⟨x,hx⟩ : ∃ x,X[n]? = some x:=⟨_,zE (by omega)⟩;obtain ⟨y,hy⟩ : ∃ y,Y[n]? = some y:=⟨_,zE (by omega)⟩;rcases Nat.lt_trichotomy x y with h|h|h
   ·have:=VT d1 d2 hlen hx hy p2 h
    (repeat' ((first|(apply AH<;>intro hc<;>try omega)|(refine BH (by assumption) ?_ rfl ?_;omega)|apply AD)<;>conv=>whnf))
    exact B9 (GV (by omega))
   ·subst h
    (repeat' ((first|(apply AH<;>intro hc<;>try omega)|(apply BN;omega)|(refine BH (by assumption) ?_ rfl ?_;omega)|apply AD)<;>conv=>whnf))
    refine BJ [] (by (conv=>whnf);exact ⟨rfl,rfl,rfl⟩) (ih n (by omega) ⟨by omega,?_⟩);obtain ⟨i1,e1⟩:=zS hx;obtain ⟨i2,e2⟩:=zS hy;rw[List.drop_eq_getElem_cons i1,List.drop_eq_getElem_cons i2,p2,e1,e2]
   ·have:=VT d2 d1 hlen.symm hy hx p2.symm h
    (repeat' ((first|(apply AH<;>intro hc<;>try omega)|(refine BH (by assumption) ?_ rfl ?_;omega)|apply AD)<;>conv=>whnf))
    exact B9 (L1 (by omega))
 ·rcases Nat.lt_trichotomy (dg (val a)).length (dg (val b)).length with h1|h1|h1
  ·have:=QZ h1
   (repeat' ((first|(apply AH<;>intro hc<;>try omega)|apply AQ|apply AD|refine AG (t1 _) ?_|refine AG (t2 _) ?_)<;>conv=>whnf))
   exact B9 (GV (by omega))
  ·exact absurd h1 hlen
  ·have:=QZ h1
   (repeat' ((first|(apply AH<;>intro hc<;>try omega)|apply AQ|apply AD|refine AG (t1 _) ?_|refine AG (t2 _) ?_)<;>conv=>whnf))
   exact B9 (L1 (by omega))
theorem aC {y:List Nat} (i:Nat):val (y.take (i+1))=val (y.take i)+4294967296^i*y.getD i 0:=by
 rcases Nat.lt_or_ge i y.length with h|h
 ·rw[C5 (zE h),FN (zE h)]
 ·rw[<-NK h,CJ h,CJ (by omega)];omega
theorem eV (N:a8 L) (a b:List Nat) (q1 q2:Bool) (hA:AR a) (hB:AR b) (la:a.length<=549755813888) (lb:b.length<=549755813888):Ev L 103 [.sl q1 (a.map AJ),.sl q2 (b.map AJ)] (.sl false ((dg (val a+val b)).map AJ)):=by
 refine Ev.x N.KZ rfl rfl ?_;(repeat' (apply AD<;>conv=>whnf))
 refine E9 (λ i _ _=>a.length+b.length-i) (λ(i:Nat) (o:List Nat) (c:Nat)=>(i<=a.length\/i<=b.length)/\o.length=i/\AR o/\c<=1/\val o+4294967296^i*c=val (a.take i)+val (b.take i)) (λ i o c=>[(7,.int .i64 i),(6,.int .u64 (c:Int)),(5,.row 5 0 1 0 o.length)]) (λ i o c=>[(5,5,.rw 1 (o.map AJ))]) 0 [] 0 ⟨by omega,rfl,P2,by omega,by simp [val]⟩ ?_;intro i o c ⟨p1,p2,p3,p4,p5⟩ ih;by_cases hi:i<a.length\/i<b.length
 ·have g1:=aC (y:=a) i
  have g2:=aC (y:=b) i;have k1:=NJ hA i;have k2:=NJ hB i;have g8 : ∀ t,t=c+a.getD i 0+b.getD i 0->val (o++[t%4294967296])+4294967296^(i+1)*(t/4294967296)=val (a.take (i+1))+val (b.take (i+1)):=λ t ht=>by
   have h3:=MK (val o) (4294967296^i) t;rw[LU,p2,g1,g2,Nat.pow_succ];rw[h3,ht,Nat.mul_add,Nat.mul_add];omega
  by_cases h1:i<a.length
  ·obtain ⟨x,hx⟩ : ∃ x,a[i]? = some x:=⟨_,zE h1⟩
   have Rp:=hA.at hx;rw[FN hx]at g8;by_cases h2:i<b.length
   ·obtain ⟨y,hy⟩ : ∃ y,b[i]? = some y:=⟨_,zE h2⟩
    have vq:=hB.at hy;rw[FN hy]at g8;(repeat' ((first|(apply AH<;>intro hc<;>try omega)|(apply E5;omega)|(apply BV;omega)|apply ET|apply AQ|(refine BH (by assumption) ?_ rfl ?_;omega)|apply EW|apply AD)<;>conv=>whnf))
    refine ER (enc:=AJ) (((c+x+y)%4294967296:Nat)) rfl rfl rfl (by omega) (by omega) ?_;(conv=>whnf)
    (repeat' ((first|(apply A2;omega)|apply EF)<;>conv=>whnf))
    refine BJ [(5,46)] (by (conv=>whnf);exact ⟨rfl,rfl,rfl⟩) (ih (i+1) (o++[(c+x+y)%4294967296]) ((c+x+y)/4294967296) (by omega) ⟨by omega,by simp;omega,p3.append (F6 (by omega)),by omega,?_⟩);exact g8 (c+x+y) (by omega)
   ·rw[<-NK (show b.length<=i by omega)]at g8
    (repeat' ((first|(apply AH<;>intro hc<;>try omega)|(apply E5;omega)|(apply BV;omega)|apply ET|apply AQ|(refine BH (by assumption) ?_ rfl ?_;omega)|apply EW|apply AD)<;>conv=>whnf))
    refine ER (enc:=AJ) (((c+x)%4294967296:Nat)) rfl rfl rfl (by omega) (by omega) ?_;(conv=>whnf)
    (repeat' ((first|(apply A2;omega)|apply EF)<;>conv=>whnf))
    refine BJ [(5,46)] (by (conv=>whnf);exact ⟨rfl,rfl,rfl⟩) (ih (i+1) (o++[(c+x)%4294967296]) ((c+x)/4294967296) (by omega) ⟨by omega,by simp;omega,p3.append (F6 (by omega)),by omega,?_⟩);exact g8 (c+x) (by omega)
  ·obtain ⟨y,hy⟩ : ∃ y,b[i]? = some y:=⟨_,zE (by omega)⟩
   have vq:=hB.at hy;rw[FN hy,<-NK (show a.length<=i by omega)]at g8;(repeat' ((first|(apply AH<;>intro hc<;>try omega)|(apply E5;omega)|(apply BV;omega)|apply ET|apply AQ|(refine BH (by assumption) ?_ rfl ?_;omega)|apply EW|apply AD)<;>conv=>whnf))
   refine ER (enc:=AJ) (((c+y)%4294967296:Nat)) rfl rfl rfl (by omega) (by omega) ?_;(conv=>whnf)
   (repeat' ((first|(apply A2;omega)|apply EF)<;>conv=>whnf))
   refine BJ [(5,46)] (by (conv=>whnf);exact ⟨rfl,rfl,rfl⟩) (ih (i+1) (o++[(c+y)%4294967296]) ((c+y)/4294967296) (by omega) ⟨by omega,by simp;omega,p3.append (F6 (by omega)),by omega,?_⟩);exact g8 (c+y) (by omega)
 ·clear ih
  have hv:val (o++[c])=val a+val b:=by
   rw[CJ (by omega),CJ (by omega)]at p5;rw[LU,p2,p5]
  have hT:=λ q=>FE N (o++[c]) q (p3.append (F6 (by omega))) (by simp;omega)
  rw[hv]at hT;(repeat' ((first|(apply AH<;>intro hc<;>try omega)|(apply DD;omega)|apply AQ|apply EW|apply AD)<;>conv=>whnf))
  refine ER (enc:=AJ) c rfl rfl rfl (by omega) (by omega) ?_;(conv=>whnf)
  (repeat' ((first|(refine C8 (λ_=>rfl) rfl ?_ ?_;(first|rfl|simp))|refine AG (hT _) ?_)<;>conv=>whnf))
  exact AU rfl (H1 _)
theorem TZ {a b:Nat} (h:b<=a):0<=CM a b:=by unfold CM;split<;>(try split)<;>omega
theorem Iw {V Y X p d e bw have' take w w7:Nat} (h:V+Y=X+p*bw) (h1:take=bw+e) (h2:(have'=d/\w7=0/\take<=d)\/(have'=d+4294967296/\w7=1/\d<take)) (h3:w+take=have'):V+p*w+(Y+p*e)=X+p*d+p*4294967296*w7:=by
 have h4:w+bw+e=d+4294967296*w7:=by omega
 have h5:p*(w+bw+e)=p*(d+4294967296*w7):=by rw[h4]
 rw[Nat.mul_add,Nat.mul_add,Nat.mul_add,<-Nat.mul_assoc]at h5;omega
theorem jY (N:a8 L) (x y:List Nat) (hX:AR x) (hY:AR y) (lx:x.length<=549755813888) (ly:y.length<=549755813888) (hle:val y<=val x) :
  AA L [It.lp HR.l1,It.c7 0,It.code (((A8.ops HR.bu false).dr [1,5,6,7,21,53,54] []).seq A8.ret)]
  [(7,AV.int IntKind.i64 0),(6,AV.int IntKind.u64 0),(5,AV.row 101021 0 1 0 x.length),(1,AV.sl false (List.map AJ y))]
  [(101021,101021,A4.rw 1 (List.map AJ x))]
  (NC HR (AV.sl false (List.map AJ (dg (val x-val y))))):=by
 refine E9 (λ i _ _=>x.length-i) (λ(i:Nat) (o:List Nat) (bw:Nat)=>i<=x.length/\o.length=x.length/\AR o/\bw<=1/\o.drop i=x.drop i/\val (o.take i)+val (y.take i)=val (x.take i)+4294967296^i*bw) (λ i o bw=>[(7,.int .i64 i),(6,.int .u64 (bw:Int))]) (λ i o bw=>[(101021,101021,.rw 1 (o.map AJ))]) 0 x 0 ⟨by omega,rfl,hX,by omega,rfl,by simp [val]⟩ ?_;intro i o bw ⟨p1,p2,p3,p4,p5,p6⟩ ih;by_cases hi:i<x.length
 ·obtain ⟨d,hd⟩ : ∃ d,o[i]? = some d:=⟨_,zE (by omega)⟩
  have x5:=p3.at hd;have Ps:x[i]? = some d:=by
   have e1:(o.drop i)[0]? = (x.drop i)[0]? := by rw[p5]
   simpa [hd] using e1.symm
  have g1:=C5 Ps;have g2:=aC (y:=y) i;have ge:=NJ hY i;have g8 : ∀ have' take w w7,take=bw+y.getD i 0->((have'=d/\w7=0/\take<=d)\/(have'=d+4294967296/\w7=1/\d<take))->w+take=have'->val ((o.set i w).take (i+1))+val (y.take (i+1))=val (x.take (i+1))+4294967296^(i+1)*w7:=λ have' take w w7 a1 a2 a3=>by
   rw[E3 (by omega),g1,g2,Nat.pow_succ];exact Iw p6 a1 a2 a3
  have iq : ∀ w,(o.set i w).drop (i+1)=x.drop (i+1):=λ w=>by
   rw[List.drop_set_of_lt (by omega)];have e1:(o.drop i).drop 1=(x.drop i).drop 1:=by rw[p5]
   simpa using e1
  by_cases hy:i<y.length
  ·obtain ⟨e,he⟩ : ∃ e,y[i]? = some e:=⟨_,zE hy⟩
   have Co:=hY.at he;rw[FN he]at g8;by_cases k6:d<bw+e
   ·have h3:=g8 (d+4294967296) (bw+e) (d+4294967296-(bw+e)) 1 (by omega) (Or.inr ⟨rfl,rfl,k6⟩) (by omega)
    (repeat' ((first|(apply AH<;>intro hc<;>try omega)|(apply BA;omega)|(apply E5;omega)|(apply HN;omega;omega)|(apply TA;omega)|(apply BV;omega)|(apply DD;omega)|apply AQ|(refine BH (by assumption) ?_ rfl ?_;omega)|refine HX (by assumption) ?_|apply AD)<;>conv=>whnf))
    refine EA (by omega) ?_;(conv=>whnf)
    (repeat' ((first|(apply A2;omega)|fail)<;>conv=>whnf))
    exact BJ [] (by (conv=>whnf);exact ⟨rfl,rfl,rfl⟩) (ih (i+1) (o.set i (d+4294967296-(bw+e))) 1 (by omega) ⟨by omega,by simpa using p2,p3.set _ (by omega),by omega,iq _,h3⟩)
   ·have h3:=g8 d (bw+e) (d-(bw+e)) 0 (by omega) (Or.inl ⟨rfl,rfl,by omega⟩) (by omega)
    (repeat' ((first|(apply AH<;>intro hc<;>try omega)|(apply BA;omega)|(apply E5;omega)|(apply HN;omega;omega)|(apply BV;omega)|(apply DD;omega)|apply AQ|(refine BH (by assumption) ?_ rfl ?_;omega)|refine HX (by assumption) ?_|apply AD)<;>conv=>whnf))
    refine EA (by omega) ?_;(conv=>whnf)
    (repeat' ((first|(apply A2;omega)|fail)<;>conv=>whnf))
    exact BJ [] (by (conv=>whnf);exact ⟨rfl,rfl,rfl⟩) (ih (i+1) (o.set i (d-(bw+e))) 0 (by omega) ⟨by omega,by simpa using p2,p3.set _ (by omega),by omega,iq _,h3⟩)
  ·rw[<-NK (show y.length<=i by omega)]at g8
   by_cases k6:d<bw
   ·have h3:=g8 (d+4294967296) (bw) (d+4294967296-(bw)) 1 (by omega) (Or.inr ⟨rfl,rfl,k6⟩) (by omega)
    (repeat' ((first|(apply AH<;>intro hc<;>try omega)|(apply BA;omega)|(apply HN;omega;omega)|(apply TA;omega)|(apply BV;omega)|(apply DD;omega)|apply AQ|refine HX (by assumption) ?_|apply AD)<;>conv=>whnf))
    refine EA (by omega) ?_;(conv=>whnf)
    (repeat' ((first|(apply A2;omega)|fail)<;>conv=>whnf))
    exact BJ [] (by (conv=>whnf);exact ⟨rfl,rfl,rfl⟩) (ih (i+1) (o.set i (d+4294967296-(bw))) 1 (by omega) ⟨by omega,by simpa using p2,p3.set _ (by omega),by omega,iq _,h3⟩)
   ·have h3:=g8 d (bw) (d-(bw)) 0 (by omega) (Or.inl ⟨rfl,rfl,by omega⟩) (by omega)
    (repeat' ((first|(apply AH<;>intro hc<;>try omega)|(apply BA;omega)|(apply HN;omega;omega)|(apply BV;omega)|(apply DD;omega)|apply AQ|refine HX (by assumption) ?_|apply AD)<;>conv=>whnf))
    refine EA (by omega) ?_;(conv=>whnf)
    (repeat' ((first|(apply A2;omega)|fail)<;>conv=>whnf))
    exact BJ [] (by (conv=>whnf);exact ⟨rfl,rfl,rfl⟩) (ih (i+1) (o.set i (d-(bw))) 0 (by omega) ⟨by omega,by simpa using p2,p3.set _ (by omega),by omega,iq _,h3⟩)
 ·obtain rfl:i=x.length:=by omega
  clear ih;rw[CJ (by omega),CJ (Nat.le_refl _)]at p6;have h1:=DX p3;rw[p2]at h1;have h2:val (y.take x.length)<=val y:=by have:=PL y x.length;omega
  have kv:bw=0:=by
   rcases Nat.eq_zero_or_pos bw with h|h
   ·exact h
   ·have:bw=1:=by omega
    subst this;omega
  subst kv;have Rm:val (y.take x.length)=val y:=by
   have h3:=PL y x.length;rcases Nat.eq_zero_or_pos (val (y.drop x.length)) with h|h
   ·rw[h]at h3;omega
   ·have h4:4294967296^x.length*1<=4294967296^x.length*val (y.drop x.length):=Nat.mul_le_mul_left _ h
    have h5:=DX hX;omega
  have hv:val o=val x-val y:=by omega
  have hT:=λ q=>FE N o q p3 (by omega)
  rw[<-hv,<-p2];(repeat' ((first|(apply AH<;>intro hc<;>try omega)|(refine C8 (λ_=>rfl) rfl ?_ ?_;(first|rfl|simp))|apply AD|refine AG (hT _) ?_)<;>conv=>whnf))
  exact AU rfl (H1 _)
theorem XM (N:a8 L) (a b:List Nat) (q1 q2:Bool) (hA:AR a) (hB:AR b) (la:a.length<=549755813888) (lb:b.length<=549755813888):Ev L 104 [.sl q1 (a.map AJ),.sl q2 (b.map AJ)] (.sl false ((dg (val a-val b)).map AJ)):=by
 have j6:=λ q q'=>XL N a b q q' hA hB (by omega) (by omega)
 have t2:=λ q=>FE N b q hB (by omega)
 refine Ev.x N.HR rfl rfl ?_;by_cases k6:val a<val b
 ·rw[<-GV (by omega)]at j6
  rw[show val a-val b=0 by omega,DZ];(repeat' ((first|(apply AH<;>intro hc<;>try omega)|apply AD|refine AG (j6 _ _) ?_)<;>conv=>whnf))
  exact AU rfl (H1 [])
 ·have iu:=TZ (show val b<=val a by omega)
  generalize CM (val a) (val b)=cm at *;have d2:=C3 (val b);have v2:=BF (val b);have l2:=DR hB;rw[<-v2];rw[<-v2]at k6;generalize dg (val b)=y at *;have Fx : ∀ n,a.take n=dg (val a)->val (a.take n)=val a:=λ n h=>by rw[h,BF]
  (repeat' ((first|(apply AH<;>intro hc<;>try omega)|apply AD|refine AG (j6 _ _) ?_|refine AG (t2 _) ?_)<;>conv=>whnf))
  refine FA 1000 N.GA rfl rfl ?_;(repeat' ((first|apply AQ|apply AD)<;>conv=>whnf))
  refine DL (λ n=>n) (λ(n:Nat)=>n<=a.length /\ ∀ i,n<=i->i<a.length->a[i]? = some 0) (λ n=>[(3,.int .i64 n)]) (λ_=>[]) a.length ⟨Nat.le_refl _,λ i h1 h2=>by omega⟩ ?_;intro n ⟨p1,p2⟩ ih;rcases n with _|n
  ·have hv:=Fx _ (FC hA p1 p2 (Or.inl rfl))
   clear ih;(repeat' ((first|(apply AH<;>intro hc<;>try omega)|apply AD)<;>conv=>whnf))
   refine N8 (k:=0) (λ_=>rfl) (by omega) ?_;(conv=>whnf)
   refine M7 (enc:=AJ) (λ_=>rfl) (by rw[List.length_take];omega) (by rw[List.length_take];omega) ?_;(conv=>whnf)
   refine ⟨rfl,_,rfl,?_⟩;(conv=>whnf)
   skip
   rw[<-hv];exact BJ [] (by (conv=>whnf);exact ⟨rfl,rfl,rfl⟩) (jY N (a.take 0) y (hA.take _) d2 (by simp) (by omega) (by omega))
  ·have e1:((n+1:Nat):Int)-1=n:=by omega
   (repeat' ((first|(apply AH<;>intro hc<;>try omega)|(apply BN;omega)|(refine NA (by assumption) ?_ (λ e he hb => ?_);omega)|apply AD)<;>conv=>whnf))
   ·rw[e1]
    exact B2 [] (ih n (by omega) ⟨by omega,λ i h1 h2=>by
     by_cases h:i=n
     ·subst h
      rw[e1,Int.toNat_natCast]at he;rw[he];congr 1;omega
     ·exact p2 i (by omega) h2⟩)
   ·rw[e1,Int.toNat_natCast]at he
    have hv:=Fx _ (FC hA p1 p2 (Or.inr ⟨_,he,by omega⟩));clear ih;refine N8 (k:=n+1) (λ_=>rfl) (by omega) ?_;(conv=>whnf)
    refine M7 (enc:=AJ) (λ_=>rfl) (by rw[List.length_take];omega) (by rw[List.length_take];omega) ?_;(conv=>whnf)
    refine ⟨rfl,_,rfl,?_⟩;(conv=>whnf)
    skip
    rw[<-hv];exact BJ [] (by (conv=>whnf);exact ⟨rfl,rfl,rfl⟩) (jY N (a.take (n+1)) y (hA.take _) d2 (by rw[List.length_take];omega) (by omega) (by omega))
theorem wB (N:a8 L) (x y:List Nat) (q1 q2:Bool) (hA:AR x) (hB:AR y) (He:x.length+y.length<=549755813888):Ev L 105 [.sl q1 (x.map AJ),.sl q2 (y.map AJ)] (.sl false ((dg (val x*val y)).map AJ)):=by
 refine Ev.x N.K3 rfl rfl ?_;(repeat' ((first|(apply A2;omega)|apply AQ|apply AD)<;>conv=>whnf))
 refine DQ (enc:=AJ) 0 (x.length+y.length+1) rfl (by omega) (by omega) ?_;(conv=>whnf)
 skip
 refine IH (λ i _=>x.length-i) (λ(i:Nat) (o:List Nat)=>i<=x.length/\o.length=x.length+y.length+1/\AR o/\val o=val (x.take i)*val y /\ ∀ k,i+y.length<=k->k<o.length->o[k]? = some 0) (λ i o=>[(6,.int .i64 i)]) (λ i o=>[(15,15,.rw 1 (o.map AJ))]) 0 (List.replicate (x.length+y.length+1) 0) ⟨by omega,by simp,HP _,by simp [val,VX],λ k h1 h2=>by simp at h2;simp [h2]⟩ ?_;intro i O ⟨p1,p2,p3,p4,p5⟩ ih;by_cases hi:i<x.length
 ·obtain ⟨d,hd⟩ : ∃ d,x[i]? = some d:=⟨_,zE hi⟩
  have x5:=hA.at hd;(repeat' ((first|(apply AH<;>intro hc<;>try omega)|apply AQ|apply AD)<;>conv=>whnf))
  refine E9 (λ j _ _=>y.length-j) (λ(j:Nat) (o:List Nat) (c:Nat)=>j<=y.length/\o.length=x.length+y.length+1/\AR o/\c<4294967296/\val o+4294967296^(i+j)*c=val O+4294967296^i*(d*val (y.take j)) /\ ∀ k,i+j<=k->o[k]? = O[k]?) (λ j o c=>[(7,.int .u64 (c:Int)),(8,.int .i64 j)]) (λ j o c=>[(15,15,.rw 1 (o.map AJ))]) 0 O 0 ⟨by omega,p2,p3,by omega,by simp [val],λ_ _=>rfl⟩ ?_;intro j o c ⟨r1,r2,r3,r4,r5,r6⟩ jh;have e1:((i:Int)+j).toNat=i+j:=by omega
  by_cases hj:j<y.length
  ·obtain ⟨w,hw⟩ : ∃ w,y[j]? = some w:=⟨_,zE hj⟩
   have Ep:=hB.at hw;have hm:=QI x5 Ep;(repeat' ((first|(apply AH<;>intro hc<;>try omega)|(apply BA;omega)|(apply A2;omega)|(apply E5;omega)|(apply MG;omega)|(apply BV;omega)|apply ET|apply AQ|(refine BH (by assumption) ?_ rfl ?_;omega)|(refine aO (by assumption) ?_ (λ v hv hb => ?_);omega)|apply AD)<;>conv=>whnf))
   refine TJ (i+j) (by omega) (by omega) ?_;(conv=>whnf)
   (repeat' ((first|(apply A2;omega)|apply EF)<;>conv=>whnf))
   refine BJ [] (by (conv=>whnf);exact ⟨rfl,rfl,rfl⟩) (jh (j+1) _ _ (by omega) ⟨by omega,by simpa using r2,r3.set _ (by omega),by omega,?_,?_⟩)
   ·have h1:=VU (v:=(c+(d*w+v))%4294967296) hv
    have h2:=MK 0 (4294967296^(i+j)) (c+(d*w+v));rw[C5 hw,show i+(j+1)=i+j+1 by omega,Nat.pow_succ (4294967296) (i+j)];have h3:4294967296^i*(d*(val (y.take j)+4294967296^j*w))=4294967296^i*(d*val (y.take j))+4294967296^(i+j)*(d*w):=by rw[Nat.pow_add];grind
    rw[h3];generalize 4294967296^(i+j)=P at *;rw[Nat.mul_add P c,Nat.mul_add P]at h2;omega
   ·intro k hk
    rw[List.getElem?_set_ne (by omega)];exact r6 k (by omega)
  ·obtain rfl:j=y.length:=by omega
   clear jh;have hz:=r6 (i+y.length) (by omega);rw[p5 (i+y.length) (by omega) (by omega)]at hz;(repeat' ((first|(apply AH<;>intro hc<;>try omega)|(apply BA;omega)|(apply A2;omega)|(apply DD;omega)|apply AQ|apply AD)<;>conv=>whnf))
   refine TJ (i+y.length) (by omega) (by omega) ?_;(conv=>whnf)
   (repeat' ((first|(apply A2;omega)|fail)<;>conv=>whnf))
   refine BJ [] (by (conv=>whnf);exact ⟨rfl,rfl,rfl⟩) (ih (i+1) _ (by omega) ⟨by omega,by simpa using r2,r3.set _ (by omega),?_,?_⟩)
   ·have h1:=VU (v:=c) hz
    rw[Nat.mul_zero,Nat.add_zero]at h1;rw[h1,r5,p4,CJ (Nat.le_refl _),C5 hd,Nat.add_mul,Nat.mul_assoc]
   ·intro k h1 h2
    rw[List.length_set]at h2;rw[List.getElem?_set_ne (by omega),r6 k (by omega)];exact p5 k (by omega) (by omega)
 ·obtain rfl:i=x.length:=by omega
  clear ih;rw[CJ (Nat.le_refl _)]at p4;have hT:=λ q=>FE N O q p3 (by omega)
  rw[p4]at hT;rw[<-p2];(repeat' ((first|(apply AH<;>intro hc<;>try omega)|apply AQ|(refine C8 (λ_=>rfl) rfl ?_ ?_;(first|rfl|simp))|apply AD|refine AG (hT _) ?_)<;>conv=>whnf))
  exact AU rfl (H1 _)
theorem rT {d:Nat} (h0:d≠0) (hd:d<4294967296):dg d=[d]:=by
 rw[H2 h0,Nat.div_eq_of_lt hd,DZ,Nat.mod_eq_of_lt hd]
theorem vZ (N:a8 L) (d:Nat) (q:Bool) (h0:d≠0) (hd:d<4294967296):Ev L 106 [.sl q ([d].map AJ)] (.int .i64 (l9 d:Int)):=by
 have hT:=λ q=>FE N [d] q (F6 hd) (by simp)
 rw[show val [d]=d by simp [val],rT h0 hd]at hT;have pc:[d].length=1:=rfl;have vd:[d][(([d].length:Int)-1).toNat]? = some d:=rfl;have hb:=TL (k:=32) hd;refine Ev.x N.K0 rfl rfl ?_;(repeat' ((first|(apply AH<;>intro hc<;>try omega)|(apply BN;omega)|(apply N7;omega)|apply AQ|(refine BH (by assumption) ?_ rfl ?_;omega)|apply AD|refine AG (hT _) ?_)<;>conv=>whnf))
 refine IH (λ_ x=>x) (λ(n x:Nat)=>n+l9 x=l9 d/\x<=d) (λ n x=>[(3,.int .i64 n),(4,.int .u32 (x:Int))]) (λ_ _=>[]) 0 d ⟨by omega,Nat.le_refl _⟩ ?_;intro n x ⟨p1,p2⟩ ih;by_cases hx:x=0
 ·subst hx
  have:l9 0=0:=by unfold l9;simp
  (repeat' ((first|(apply AH<;>intro hc<;>try omega)|apply AD)<;>conv=>whnf))
  exact B9 (by omega)
 ·have h1:l9 (x/2)+1=l9 x:=by
   by_cases h1:x=1
   ·subst h1;decide
   ·exact RF 1 (x:=x) (by omega)
  (repeat' ((first|(apply AH<;>intro hc<;>try omega)|(apply A2;omega)|apply oB|apply AD)<;>conv=>whnf))
  exact B2 [] (ih (n+1) (x/2) (by omega) ⟨by omega,by omega⟩)
theorem lS {V P X lo s d p t:Nat} (h:V+P*p*lo=P*(X*2^s)) (ht:t=lo+d*2^s):V+P*p*(t%4294967296)+P*p*4294967296*(t/4294967296)=P*((X+p*d)*2^s):=by
 have h1:=MK V (P*p) t;rw[h1,ht];have:P*((X+p*d)*2^s)=P*(X*2^s)+P*p*(d*2^s):=by grind
 rw[this,<-h,Nat.mul_add];omega
theorem fD (N:a8 L) (l:List Nat) (q:Bool) (n:Nat) (hD:AR l) (hl:l.length<=549755813888) (hn:n<=65536):Ev L 107 [.sl q (l.map AJ),.int .i64 (n:Int)] (.sl false ((dg (val l*2^n)).map AJ)):=by
 have hT:=λ q=>FE N l q hD (by omega)
 have d1:=C3 (val l);have v1:=BF (val l);have l1:=DR hD;have hz:=GX (val l);refine Ev.x N.HB rfl rfl ?_;by_cases h0:val l=0
 ·rw[h0,Nat.zero_mul,DZ]
  (repeat' ((first|(apply AH<;>intro hc<;>try omega)|apply AQ|apply AD|refine AG (hT _) ?_)<;>conv=>whnf))
  exact AU rfl (H1 [])
 rw[<-v1];generalize dg (val l)=x at *;have w9:n%32<32:=Nat.mod_lt _ (by omega);have e1:(n:Int)/32=((n/32:Nat):Int):=by omega
 have e2:(n:Int)%32=((n%32:Nat):Int):=by omega
 (repeat' ((first|(apply AH<;>intro hc<;>try omega)|(refine PT ?_ ?_ (λ_ => ?_) (λ_ _ => ?_);omega;omega;all_goals try omega)|apply AQ|apply AD|refine AG (hT _) ?_)<;>conv=>whnf))
 rw[e1];refine DQ (enc:=AJ) 0 (n/32) rfl rfl (by omega) ?_;(conv=>whnf)
 skip
 refine E9 (λ i _ _=>x.length-i) (λ(i:Nat) (o:List Nat) (c:Nat)=>i<=x.length/\o.length=n/32+i/\AR o/\c<2^(n%32)/\val o+4294967296^(n/32)*4294967296^i*c=4294967296^(n/32)*(val (x.take i)*2^(n%32))) (λ i o c=>[(10,.int .i64 i),(9,.int .u64 (c:Int)),(8,.row 107069 0 1 0 (n/32+i))]) (λ i o c=>[(107069,107069,.rw 1 (o.map AJ))]) 0 (List.replicate (n/32) 0) 0 ⟨by omega,by simp,HP _,Nat.two_pow_pos _,by simp [val,VX]⟩ ?_;intro i o c ⟨p1,p2,p3,p4,p5⟩ ih;have lj:=SF (s:=n%32) (by omega);by_cases hi:i<x.length
 ·obtain ⟨d,hd⟩ : ∃ d,x[i]? = some d:=⟨_,zE hi⟩
  have x5:=d1.at hd;obtain ⟨f1,f2,f3,f4⟩:=PD (s:=n%32) x5 (by omega);have hr:=US (show n%32<=64 by omega) f4;(repeat' ((first|(apply AH<;>intro hc<;>try omega)|(refine Q8 ?_ (λ_ _ _ => ?_) (λ_ _ _ _ => ?_);omega;all_goals try omega)|(apply BV;omega)|apply AQ|(refine BH (by assumption) ?_ rfl ?_;omega)|apply AD)<;>conv=>whnf))
  rw[e2];refine MJ (by omega) f4 ?_;(conv=>whnf)
  skip
  refine TB (n%32) (Nat.mul_mod_left _ _) p4 (by omega) ?_;(conv=>whnf)
  have g8:=lS (d:=d) p5 rfl;have jo:(c+d*2^(n%32))/4294967296<2^(n%32):=by
   rw[Nat.div_lt_iff_lt_mul (by omega)];have:=zR (2^(n%32)) (show d<=4294967295 by omega)
   omega
  generalize c+d*2^(n%32)=t at *;(repeat' ((first|apply ET|apply EW)<;>conv=>whnf))
  refine ER (enc:=AJ) (t%4294967296) rfl p2.symm rfl (by omega) (by omega) ?_;(conv=>whnf)
  (repeat' ((first|(apply A2;omega)|apply EF)<;>conv=>whnf))
  rw[show (o++[t%4294967296]).length=n/32+(i+1) by simp [p2];omega];refine BJ [(107069,107091)] (by (conv=>whnf);exact ⟨rfl,rfl,rfl⟩) (ih (i+1) (o++[t%4294967296]) (t/4294967296) (by omega) ⟨by omega,by simp;omega,p3.append (F6 (by omega)),jo,?_⟩);rw[LU,p2,C5 hd,Nat.pow_add,Nat.pow_succ,<-Nat.mul_assoc];exact g8
 ·obtain rfl:i=x.length:=by omega
  clear ih;have ta:c<4294967296:=by omega
  have Mo:AR (o++[c]):=p3.append (F6 ta);have wy:val (o++[c])=val x*2^n:=by
   rw[LU,p2,Nat.pow_add,p5,CJ (Nat.le_refl _)];have e3:2^n=4294967296^(n/32)*2^(n%32):=by
    rw[show 4294967296=2^32 from rfl,<-Nat.pow_mul,<-Nat.pow_add];congr 1;omega
   rw[e3];grind
  have wx:(o++[c]).length=n/32+x.length+1:=by simp [p2]
  (repeat' ((first|(apply AH<;>intro hc<;>try omega)|(apply DD;omega)|apply AQ|apply EW|apply AD)<;>conv=>whnf))
  refine ER (enc:=AJ) c rfl p2.symm rfl (by omega) (by omega) ?_;(conv=>whnf)
  rw[<-wy,wx];generalize o++[c]=O at *;rw[<-wx];clear p3 p4 p5 wy;refine FA 1000 N.GA rfl rfl ?_;(repeat' (apply AD<;>conv=>whnf))
  refine DL (λ n=>n) (λ(n:Nat)=>n<=(O).length /\ ∀ i,n<=i->i<(O).length->(O)[i]? = some 0) (λ n=>[(3,.int .i64 n)]) (λ_=>[]) (O).length ⟨Nat.le_refl _,λ i h1 h2=>by omega⟩ ?_;intro n ⟨p1,p2⟩ ih;rcases n with _|n
  ·(repeat' ((first|(apply AH<;>intro hc<;>try omega)|apply AD)<;>conv=>whnf))
   refine FL 0 (by omega) (by omega) ?_;(conv=>whnf)
   have w8:=FC (l:=O) (by assumption) p1 p2 (Or.inl rfl);have n0:(List.take 0 O).length<=(O).length:=by rw[List.length_take];omega
   clear ih p2;refine TG (enc:=AJ) (by omega) ?_;(conv=>whnf)
   rw[List.drop_zero,Nat.sub_zero];generalize Bu:List.take 0 O=T0 at *;refine M7 (enc:=AJ) (λ_=>rfl) (by omega) (by omega) ?_;(conv=>whnf)
   refine ⟨rfl,_,rfl,?_⟩;(conv=>whnf)
   (refine C8 (enc:=AJ) (λ_=>rfl) rfl rfl ?_;(conv=>whnf);exact AU (by rw[<-w8]) (H1 _))
  ·have e1:((n+1:Nat):Int)-1=n:=by omega
   (repeat' ((first|(apply AH<;>intro hc<;>try omega)|(apply BA;omega)|(apply BN;omega)|(refine N6 (by assumption) ?_ (λ v hv hb => ?_);omega)|apply AD)<;>conv=>whnf))
   ·rw[e1]
    exact B2 [] (ih n (by omega) ⟨by omega,λ i h1 h2=>by
     by_cases h:i=n
     ·subst h
      rw[e1,Int.toNat_natCast]at hv;rw[hv];congr 1;omega
     ·exact p2 i (by omega) h2⟩)
   ·refine FL (n+1) (by omega) (by omega) ?_
    (conv=>whnf)
    rw[e1,Int.toNat_natCast]at hv;have w8:=FC (l:=O) (by assumption) p1 p2 (Or.inr ⟨_,hv,by omega⟩);have n0:(List.take (n+1) O).length<=(O).length:=by rw[List.length_take];omega
    clear ih p2 hv;(rw[bQ (l:=O)];rotate_left;exact rfl;exact rfl);(conv=>whnf)
    refine TG (enc:=AJ) (by omega) ?_;(conv=>whnf)
    rw[List.drop_zero,Nat.sub_zero];generalize Bu:List.take (n+1) O=T0 at *;refine M7 (enc:=AJ) (λ_=>rfl) (by omega) (by omega) ?_;(conv=>whnf)
    refine ⟨rfl,_,rfl,?_⟩;(conv=>whnf)
    (refine C8 (enc:=AJ) (λ_=>rfl) rfl rfl ?_;(conv=>whnf);exact AU (by rw[<-w8]) (H1 _))
theorem Kr {l:List Nat} (hD:AR l) (k:Nat) (hk:k<=l.length):val (l.drop k)=val l/4294967296^k:=by
 have h1:=IG l k hk;have h2:=DX (hD.take k);rw[List.length_take,Nat.min_eq_left hk]at h2;rw[h1,Nat.add_mul_div_left _ _ (Nat.pow_pos (by omega)),Nat.div_eq_of_lt h2,Nat.zero_add]
theorem Kh (n:Nat):2^n=4294967296^(n/32)*2^(n%32):=by
 rw[show 4294967296=2^32 from rfl,<-Nat.pow_mul,<-Nat.pow_add];congr 1;omega
theorem tQ {d e V r:Nat} (hd:d<4294967296) (hr:r<32):(d+e*4294967296)/2^r%4294967296+4294967296*((e+4294967296*V)/2^r)=(d+4294967296*(e+4294967296*V))/2^r:=by
 obtain ⟨f1,f2,f3⟩:=iM (V:=e) hd (show r<=32 by omega);rw[YJ (d:=d) (V:=e+4294967296*V) (by omega),iN (d:=e) (V:=V) (by omega)];have h1:=YJ (d:=d) (V:=e) (s:=r) (by omega);rw[show d+e*4294967296=d+4294967296*e by omega,h1];clear h1;generalize d/2^r=A at *;generalize e%2^r*2^(32-r)=Q at *;generalize e/2^r=Z at *;generalize 2^(32-r)=P at *;omega
theorem wC (N:a8 L) (l:List Nat) (q:Bool) (n:Nat) (hD:AR l) (hl:l.length<=549755813888) (hn:1<=n/\n<=65536):Ev L 107 [.sl q (l.map AJ),.int .i64 (-(n:Int))] (.sl false ((dg (val l/2^n)).map AJ)):=by
 have hT:=λ q=>FE N l q hD (by omega)
 have d1:=C3 (val l);have v1:=BF (val l);have l1:=DR hD;have hz:=GX (val l);refine Ev.x N.HB rfl rfl ?_;by_cases h0:val l=0
 ·rw[h0,Nat.zero_div,DZ]
  (repeat' ((first|(apply AH<;>intro hc<;>try omega)|apply AQ|apply AD|refine AG (hT _) ?_)<;>conv=>whnf))
  exact AU rfl (H1 [])
 rw[<-v1];generalize dg (val l)=x at *;have Eb:n%32<32:=Nat.mod_lt _ (by omega);have e1:(- -(n:Int))/32=((n/32:Nat):Int):=by omega
 have e2:(- -(n:Int))%32=((n%32:Nat):Int):=by omega
 by_cases Ng:32*x.length<n
 ·have k6:val x/2^n=0:=by
   refine Nat.div_eq_of_lt (Nat.lt_of_lt_of_le (DX d1) ?_);rw[show 4294967296=2^32 from rfl,<-Nat.pow_mul];exact Nat.pow_le_pow_right (by omega) (by omega)
  rw[k6,DZ];(repeat' ((first|(apply AH<;>intro hc<;>try omega)|(apply N7;omega)|apply AQ|apply AD|refine AG (hT _) ?_)<;>conv=>whnf))
  exact AU rfl (H1 [])
 have hk:n/32<=x.length:=by omega
 have ui:=Kr d1 _ hk;(repeat' ((first|(apply AH<;>intro hc<;>try omega)|(apply N7;omega)|(refine PT ?_ ?_ (λ_ => ?_) (λ_ _ => ?_);omega;omega;all_goals try omega)|(apply CQ.neg;omega)|apply AQ|apply AD|refine AG (hT _) ?_)<;>conv=>whnf))
 rw[e1];refine IH (λ i _=>x.length-i) (λ(i:Nat) (o:List Nat)=>n/32<=i/\i<=x.length/\o.length=i-n/32/\AR o/\val o+4294967296^(i-n/32)*(val (x.drop i)/2^(n%32))=val (x.drop (n/32))/2^(n%32)) (λ i o=>[(6,.int .i64 i),(5,.row 107005 0 1 0 o.length)]) (λ i o=>[(107005,107005,.rw 1 (o.map AJ))]) (n/32) [] ⟨Nat.le_refl _,hk,by simp,P2,by simp [val]⟩ ?_;intro i o ⟨p0,p1,p2,p3,p5⟩ ih;by_cases hi:i<x.length
 ·obtain ⟨d,hd⟩ : ∃ d,x[i]? = some d:=⟨_,zE hi⟩
  have x5:=d1.at hd;have g1:=F3 hd;have g2:=PK x (i+1);have g3:=tQ (e:=x.getD (i+1) 0) (V:=val (x.drop (i+1+1))) x5 Eb;rw[<-g2,<-g1]at g3;have key : ∀ t,t=d+x.getD (i+1) 0*4294967296->val (o++[t/2^(n%32)%4294967296])+4294967296^(i+1-n/32)*(val (x.drop (i+1))/2^(n%32))=val (x.drop (n/32))/2^(n%32):=λ t ht=>by
   rw[LU,p2,show i+1-n/32=(i-n/32)+1 by omega,Nat.pow_succ,ht,Nat.add_assoc,Nat.mul_assoc,<-Nat.mul_add,g3];exact p5
  by_cases hy:i+1<x.length
  ·obtain ⟨e,he⟩ : ∃ e,x[i+1]? = some e:=⟨_,zE hy⟩
   have Co:=d1.at he;have cw:x[((i:Int)+1).toNat]? = some e:=by rw[show ((i:Int)+1).toNat=i+1 by omega];exact he
   rw[FN he]at key;(repeat' ((first|(apply AH<;>intro hc<;>try omega)|(apply A2;omega)|(apply LV;omega)|(apply BV;omega)|apply AQ|(refine BH (by assumption) ?_ rfl ?_;omega)|apply AD)<;>conv=>whnf))
   refine TB 32 (Nat.mul_mod_left _ _) (by omega) (by omega) ?_;(conv=>whnf)
   (repeat' ((first|(refine Q8 ?_ (λ_ _ _ => ?_) (λ_ _ _ _ => ?_);omega;all_goals try omega)|(apply BV;omega))<;>conv=>whnf))
   rw[e2];refine MI (n:=n%32) (by show n%32<=64;omega) ?_;(conv=>whnf)
   (repeat' ((first|apply ET|apply EW)<;>conv=>whnf))
   refine ER (enc:=AJ) ((d+e*4294967296)/2^(n%32)%4294967296) rfl rfl rfl (by omega) (by omega) ?_;(conv=>whnf)
   (repeat' ((first|(apply A2;omega)|fail)<;>conv=>whnf))
   exact B2 [(107005,107064)] (ih (i+1) (o++[(d+e*4294967296)/2^(n%32)%4294967296]) (by omega) ⟨by omega,by omega,by simp;omega,p3.append (F6 (by omega)),key (d+e*4294967296) rfl⟩)
  ·rw[<-NK (show x.length<=i+1 by omega),Nat.zero_mul]at key
   (repeat' ((first|(apply AH<;>intro hc<;>try omega)|(apply A2;omega)|(refine Q8 ?_ (λ_ _ _ => ?_) (λ_ _ _ _ => ?_);omega;all_goals try omega)|(apply BV;omega)|apply AQ|(refine BH (by assumption) ?_ rfl ?_;omega)|apply AD)<;>conv=>whnf))
   rw[e2];refine MI (n:=n%32) (by show n%32<=64;omega) ?_;(conv=>whnf)
   (repeat' ((first|apply ET|apply EW)<;>conv=>whnf))
   refine ER (enc:=AJ) (d/2^(n%32)%4294967296) rfl rfl rfl (by omega) (by omega) ?_;(conv=>whnf)
   (repeat' ((first|(apply A2;omega)|fail)<;>conv=>whnf))
   exact B2 [(107005,107064)] (ih (i+1) (o++[d/2^(n%32)%4294967296]) (by omega) ⟨by omega,by omega,by simp;omega,p3.append (F6 (by omega)),key d rfl⟩)
 ·obtain rfl:i=x.length:=by omega
  clear ih;rw[List.drop_of_length_le (Nat.le_refl _),HL,Nat.zero_div,Nat.mul_zero,Nat.add_zero,ui,Nat.div_div_eq_div_mul,<-Kh]at p5;have zx:=λ q=>FE N o q p3 (by omega)
  rw[p5]at zx;(repeat' ((first|(apply AH<;>intro hc<;>try omega)|apply AQ|(refine C8 (λ_=>rfl) rfl ?_ ?_;(first|rfl|simp))|apply AD|refine AG (zx _) ?_)<;>conv=>whnf))
  exact AU rfl (H1 _)
end Go.c8
namespace Go.c8
open F
attribute [local irreducible] AA AF AX AB CQ AY BB A9 BS BR CX D9 BT A1 BP CK AC A5 AL pw C7 CE DM DF DP DU DY BQ DE
set_option maxHeartbeats 4000000
variable {L:Lib}
theorem Lg {V R y d t Q:Nat} (h:Q*y+R=V) (ht:t=R*4294967296+d):(t/y+4294967296*Q)*y+t%y=d+4294967296*V:=by
 have:=Nat.div_add_mod t y
 rw[<-h,Nat.add_mul];have e:t/y*y=y*(t/y):=Nat.mul_comm _ _;grind
theorem wD (N:a8 L) (x:List Nat) (Y:Nat) (q:Bool) (d1:AR x) (hx:x.length<=549755813888) (h0:Y≠0) (hY:Y<4294967296):Ev L 108 [.sl q (x.map AJ),.int .u32 (Y:Int)] (.e7 [.sl false ((dg (val x/Y)).map AJ),.int .u32 ((val x%Y:Nat):Int)]):=by
 refine Ev.x N.K4 rfl rfl ?_;(repeat' ((first|apply AQ|apply AD)<;>conv=>whnf))
 refine DQ (enc:=AJ) 0 x.length rfl (by omega) (by omega) ?_;(conv=>whnf)
 (repeat' ((first|(apply BN;omega)|apply AQ)<;>conv=>whnf))
 refine E9 (λ n _ _=>n) (λ(n:Nat) (o:List Nat) (r:Nat)=>n<=x.length/\o.length=x.length/\AR o/\r<Y/\val (o.drop n)*Y+r=val (x.drop n)) (λ n o r=>[(7,.int .u64 (r:Int)),(8,.int .i64 ((n:Int)-1))]) (λ n o r=>[(11,11,.rw 1 (o.map AJ))]) x.length (List.replicate x.length 0) 0 ⟨by omega,by simp,HP _,by omega,by rw[List.drop_of_length_le (Nat.le_refl _),List.drop_of_length_le (by simp)];simp [val]⟩ ?_;intro n o r ⟨p1,p2,p3,p4,p5⟩ ih;rcases n with _|n
 ·rw[List.drop_zero,List.drop_zero]at p5
  have hq:val x/Y=val o/\val x%Y=r:=by
   rw[<-p5];have e1:(val o*Y+r)/Y=val o:=by
    rw[Nat.mul_comm,Nat.mul_add_div (by omega),Nat.div_eq_of_lt p4,Nat.add_zero]
   have e2:(val o*Y+r)%Y=r:=by
    rw[Nat.mul_comm,Nat.mul_add_mod,Nat.mod_eq_of_lt p4]
   exact ⟨e1,e2⟩
  have hT:=λ q=>FE N o q p3 (by omega)
  rw[hq.1,hq.2,<-p2];clear ih hq p5;(repeat' ((first|(apply AH<;>intro hc<;>try omega)|(apply DD;omega)|(refine C8 (λ_=>rfl) rfl ?_ ?_;(first|rfl|simp))|apply AD|refine AG (hT _) ?_)<;>conv=>whnf))
  refine AU rfl ?_;simp only[AZ,CG,and_true,true_and];exact CR _
 ·have e1:((n+1:Nat):Int)-1=n:=by omega
  rw[e1];obtain ⟨d,hd⟩ : ∃ d,x[n]? = some d:=⟨_,zE (by omega)⟩;have x5:=d1.at hd;have hR:r*4294967296+d<Y*4294967296:=by omega
  have Dx:(r*4294967296+d)/Y<4294967296:=(Nat.div_lt_iff_lt_mul (by omega)).2 (by omega);(repeat' ((first|(apply AH<;>intro hc<;>try omega)|(apply BA;omega)|(apply LV;omega)|(apply MH;omega)|(apply TC;omega;omega)|(apply BV;omega)|(apply DD;omega)|(refine BH (by assumption) ?_ rfl ?_;omega)|apply AD)<;>conv=>whnf))
  obtain ⟨t,ht⟩ : ∃ t,t=r*4294967296+d:=⟨_,rfl⟩;rw[<-ht]at hR Dx ⊢;have hm:t%Y<Y:=Nat.mod_lt _ (by omega);have g8:=Lg p5 ht;rw[<-F3 hd]at g8;clear ht;skip
  refine EA (by omega) ?_;(conv=>whnf)
  (repeat' ((first|(apply BN;omega)|(apply Q7;omega)|(apply BV;omega))<;>conv=>whnf))
  generalize t/Y=tq at *;generalize t%Y=tr at *;refine BJ [] (by (conv=>whnf);exact ⟨rfl,rfl,rfl⟩) (ih n _ _ (by omega) ⟨by omega,by simpa using p2,p3.set _ (by omega),hm,?_⟩);rw[F3 (l:=o.set n tq) (d:=tq) (by rw[List.getElem?_set_self (by omega)]),List.drop_set_of_lt (by omega)];exact g8
theorem TV (a b:List Nat) (e:Int):AZ (.e7 [.sl false (a.map AJ),.sl false (b.map AJ),.int .i64 e]):=by
 simp only[AZ,CG,and_true,true_and];exact ⟨CR a,CR b⟩
abbrev sB:List It:=[It.lp CZ.l1,It.c7 0,
   It.code
    (((A8.ops CZ.x7 false).dr [0,75,79,80] []).seq
     (((A8.ops CZ.ah false).dr [81,82,83,84,85] []).seq
      ((((A8.ops CZ.br false).dr [86,87,88,89,90] []).seq
         (A8.block 2 CZ.l2.loop)).seq
       (((A8.ops CZ.Fa true).dr [9,10,11,12,13,14,92,277,278,279,280,281,282,283,284]
          []).seq
        A8.ret))))]
abbrev T9:List It:=[It.lp CZ.l2,It.c7 2,It.code
       (((A8.ops CZ.Fa true).dr [9,10,11,12,13,14,92,277,278,279,280,281,282,283,284]
          []).seq
        A8.ret)]
abbrev UA (v:List Nat) (s ul m:Nat) (j:Int):Tm:=[(14,.int .i64 j),(13,.row 85 0 1 0 m),(12,.int .i64 v.length),(11,.sl false (v.map AJ)),(10,.row 69 0 1 0 ul),(9,.int .i64 (s:Int))]
abbrev sA:A8:=(((A8.ops CZ.Hh false).dr [18,19,20,166,205,206,207] []).seq
                (((A8.ops CZ.Hi false).dr [208,209,210,211,212,213,214] []).seq
                 ((A8.ops CZ.Hj false).seq
                  ((((A8.ops CZ.Hk false).dr [215,216] []).seq
                     (A8.cond 217
                      (((A8.ops CZ.Hl false).dr [18,217,218,219] []).seq
                       (A8.ops CZ.Hm false))
                      A8.skip)).seq
                   (((A8.ops CZ.Hn false).dr
                      [23,24,217,220,221,222,223,224,225,226,227,228] []).seq
                    ((((A8.ops CZ.Ho false).dr [18,229] []).seq
                       (A8.cond 230
                        (((A8.ops CZ.Hp false).dr [230,231,232] []).seq
                         ((A8.ops CZ.Hq false).seq
                          (((A8.ops CZ.Hr false).seq
                             (A8.block 8 CZ.l5.loop)).seq
                           ((A8.ops CZ.Hs false).dr
                            [25,26,235,262,263,264,265,266,267,268,269,270,271]
                            []))))
                        A8.skip)).seq
                     ((A8.ops CZ.Ht false).dr [16,230,272,273,274,275,276]
                      [])))))))
abbrev sC:List It:=It.lp CZ.l4::It.c7 6::It.code sA::It.c7 3::It.code ((A8.ops CZ.bu false).dr [93,94] [])::T9
section
variable {A W C w y:List Nat} {j m s ul q:Nat} {Q:Tm->Mem->Prop}
theorem PN {e i n:Nat} (hi:i=A.length+n) (he:W[n]? = some e):(A++W++C)[i]? = some e:=by
 rw[mB hi (zS he).1];exact he
theorem W4 (hA:A.length=j) (hW:W.length=y.length+1) (D2:AR W) (aq:AR y) (bl:2<=y.length) (nj:y.length<=549755813888) (s8:0<val y) (z9:j<=1099511627776)
  (ib:ul=j+(y.length+1)+C.length) (Au:w.length=m) (Al:j<m)
  (r1:q<4294967296) (r2:val W/val y<=q) (r3:q<=val W/val y+1)
  (hk : ∀ (W':List Nat) (q':Nat),W'.length=y.length+1->AR W'->val W'=val W%val y->q'=val W/val y->AA L T9 (UA y s ul m ((j:Int)-1)) [(69,101021,.rw 1 ((A++W'++C).map AJ)),(85,85,.rw 1 ((w.set j q').map AJ))] Q) :
  AA L sC ([(20,.int .i64 0),(19,.int .u64 0),(18,.int .u64 0),(16,.int .u64 (q:Int))]++UA y s ul m (j:Int)) [(69,101021,.rw 1 ((A++W++C).map AJ)),(85,85,.rw 1 (w.map AJ))] Q:=by
 refine S3 (λ i _ _ _=>y.length-i) (λ(i:Nat) (Z:List Nat) (c b:Nat)=>i<=y.length/\Z.length=y.length+1/\AR Z/\c<4294967296/\b<=1/\Z.drop i=W.drop i/\val (Z.take i)+q*val (y.take i)=val (W.take i)+4294967296^i*(c+b)) (λ i Z c b=>[(20,.int .i64 i),(18,.int .u64 (b:Int)),(19,.int .u64 (c:Int))]) (λ i Z c b=>[(69,101021,.rw 1 ((A++Z++C).map AJ))]) [] [] 0 W 0 0 (by (conv=>whnf);exact ⟨rfl,rfl,rfl⟩) ⟨by omega,hW,D2,by omega,by omega,rfl,by simp [val]⟩ ?_;intro i Z c b ⟨p1,p2,p3,p4,p5,p6,p7⟩ ih;by_cases hi:i<y.length
 ·obtain ⟨d,hd⟩ : ∃ d,y[i]? = some d:=⟨_,zE hi⟩
  obtain ⟨u,hu⟩ : ∃ u,Z[i]? = some u:=⟨_,zE (by omega)⟩;have x5:=aq.at hd;have km:=p3.at hu;have Ao:(A++Z++C)[((i:Int)+(j:Int)).toNat]? = some u:=PN (by omega) hu;obtain ⟨pr,lh⟩ : ∃ pr,pr=c+q*d:=⟨_,rfl⟩;obtain ⟨m1,m2,m3⟩:=iZ r1 x5 p4 (show pr=q*d+c by omega);have oo:W[i]? = some u:=by
   have e1:(Z.drop i)[0]? = (W.drop i)[0]? := by rw[p6]
   simpa [hu] using e1.symm
  have iq : ∀ w,(Z.set i w).drop (i+1)=W.drop (i+1):=λ w=>by
   rw[List.drop_set_of_lt (by omega)];have e1:(Z.drop i).drop 1=(W.drop i).drop 1:=by rw[p6]
   simpa using e1
  have g8 : ∀ have' take w w7,take=pr%4294967296+b->((have'=u/\w7=0/\take<=u)\/(have'=u+4294967296/\w7=1/\u<take))->w+take=have'->val ((Z.set i w).take (i+1))+q*val (y.take (i+1))=val (W.take (i+1))+4294967296^(i+1)*(pr/4294967296+w7):=λ have' take w w7 a1 a2 a3=>by
   rw[E3 (by omega),C5 hd,C5 oo,Nat.pow_succ];exact Jl p7 lh a1 a2 a3
  by_cases k6:u<pr%4294967296+b
  ·have h3:=g8 (u+4294967296) (pr%4294967296+b) (u+4294967296-(pr%4294967296+b)) 1 rfl (Or.inr ⟨rfl,rfl,k6⟩) (by omega)
   (repeat' ((first|(apply AH<;>intro hc<;>try omega)|(apply BA;omega)|(apply A2;omega)|(apply E5;omega)|(apply MG;omega)|(apply aR;omega)|(apply HN;omega;omega)|apply EF|(apply TA;omega)|(apply BV;omega)|(apply DD;omega)|(refine BH (by assumption) ?_ rfl ?_;omega)|refine HX (by assumption) ?_|apply AD)<;>conv=>whnf))
   rw[<-lh];skip
   refine LW i (by omega) (by omega) ?_;(conv=>whnf)
   (repeat' ((first|(apply A2;omega)|fail)<;>conv=>whnf))
   exact BJ [] (by (conv=>whnf);exact ⟨rfl,rfl,rfl⟩) (ih (i+1) (Z.set i (u+4294967296-(pr%4294967296+b))) (pr/4294967296) 1 (by omega) ⟨by omega,by simpa using p2,p3.set _ (by omega),m1,by omega,iq _,h3⟩)
  ·have h3:=g8 u (pr%4294967296+b) (u-(pr%4294967296+b)) 0 rfl (Or.inl ⟨rfl,rfl,by omega⟩) (by omega)
   (repeat' ((first|(apply AH<;>intro hc<;>try omega)|(apply BA;omega)|(apply A2;omega)|(apply E5;omega)|(apply MG;omega)|(apply aR;omega)|(apply HN;omega;omega)|apply EF|(apply BV;omega)|(apply DD;omega)|(refine BH (by assumption) ?_ rfl ?_;omega)|refine HX (by assumption) ?_|apply AD)<;>conv=>whnf))
   rw[<-lh];skip
   refine LW i (by omega) (by omega) ?_;(conv=>whnf)
   (repeat' ((first|(apply A2;omega)|fail)<;>conv=>whnf))
   exact BJ [] (by (conv=>whnf);exact ⟨rfl,rfl,rfl⟩) (ih (i+1) (Z.set i (u-(pr%4294967296+b))) (pr/4294967296) 0 (by omega) ⟨by omega,by simpa using p2,p3.set _ (by omega),m1,by omega,iq _,h3⟩)
 ·obtain rfl:i=y.length:=by omega
  clear ih;obtain ⟨u,hu⟩ : ∃ u,Z[y.length]? = some u:=⟨_,zE (by omega)⟩;have km:=p3.at hu;have Ao:(A++Z++C)[((j:Int)+(y.length:Int)).toNat]? = some u:=PN (by omega) hu;have oo:W[y.length]? = some u:=by
   have e1:(Z.drop y.length)[0]? = (W.drop y.length)[0]? := by rw[p6]
   simpa [hu] using e1.symm
  rw[CJ (Nat.le_refl y.length)]at p7;have eW:val W=val (W.take y.length)+4294967296^y.length*u:=by
   rw[<-C5 oo,CJ (by omega)]
  have g8 : ∀ have' take w w7,take=c+b->((have'=u/\w7=0/\take<=u)\/(have'=u+4294967296/\w7=1/\u<take))->w+take=have'->val (Z.set y.length w)+q*val y=val W+4294967296^y.length*4294967296*w7:=λ have' take w w7 a1 a2 a3=>by
   have h1:=Jj p7 a1 a2 a3;rw[<-eW,<-E3 (show y.length<Z.length by omega),CJ (by simp;omega)]at h1;exact h1
  by_cases k6:u<c+b
  ·have h3:=g8 (u+4294967296) (c+b) (u+4294967296-(c+b)) 1 rfl (Or.inr ⟨rfl,rfl,k6⟩) (by omega)
   have xa:AR (Z.set y.length (u+4294967296-(c+b))):=p3.set _ (by omega);have uy:(Z.set y.length (u+4294967296-(c+b))).length=y.length+1:=by simpa using p2
   rw[Nat.mul_one]at h3;have uw:=DX xa;rw[uy,Nat.pow_succ]at uw;obtain ⟨y1,y2,y3⟩:=dA s8 r3 uw h3;(repeat' ((first|(apply AH<;>intro hc<;>try omega)|(apply BA;omega)|(apply A2;omega)|(apply E5;omega)|(apply HN;omega;omega)|(apply TA;omega)|(apply BV;omega)|(apply DD;omega)|refine HX (by assumption) ?_|apply AD)<;>conv=>whnf))
   refine LW y.length (by omega) (by omega) ?_;(conv=>whnf)
   (repeat' ((first|(apply AH<;>intro hc<;>try omega)|(apply HN;omega;omega))<;>conv=>whnf))
   clear p7 p6 eW hu oo km Ao p2 p3 g8;generalize Z.set y.length (u+4294967296-(c+b))=X at *;have Mq:val W%val y<val y:=Nat.mod_lt _ s8;have se:=DX aq;obtain ⟨xw,iy⟩ : ∃ xw,X[y.length]? = some xw:=⟨_,zE (by omega)⟩;have eX:val X=val (X.take y.length)+4294967296^y.length*xw:=by
    rw[<-C5 iy,CJ (by omega)]
   have vl:q-1<4294967296:=by omega
   refine E9 (λ i _ _=>y.length-i) (λ(i:Nat) (Z:List Nat) (c:Nat)=>i<=y.length/\Z.length=y.length+1/\AR Z/\c<=1/\Z.drop i=X.drop i/\val (Z.take i)+4294967296^i*c=val (X.take i)+val (y.take i)) (λ i Z c=>[(26,.int .i64 i),(25,.int .u64 (c:Int))]) (λ i Z c=>[(69,101021,.rw 1 ((A++Z++C).map AJ))]) 0 X 0 ⟨by omega,uy,xa,by omega,rfl,by simp [val]⟩ ?_;intro i Z c ⟨p1,p2,p3,p4,p6,p7⟩ ih;by_cases hi:i<y.length
   ·obtain ⟨d,hd⟩ : ∃ d,y[i]? = some d:=⟨_,zE hi⟩
    obtain ⟨u,hu⟩ : ∃ u,Z[i]? = some u:=⟨_,zE (by omega)⟩;have x5:=aq.at hd;have km:=p3.at hu;have Ao:(A++Z++C)[((i:Int)+(j:Int)).toNat]? = some u:=PN (by omega) hu;have fm:X[i]? = some u:=by
     have e1:(Z.drop i)[0]? = (X.drop i)[0]? := by rw[p6]
     simpa [hu] using e1.symm
    have xd:=bH (d:=d) (w:=u) (t:=c+(u+d)) p7 (by omega);(repeat' ((first|(apply AH<;>intro hc<;>try omega)|(apply BA;omega)|(apply A2;omega)|(apply E5;omega)|(apply BV;omega)|apply ET|(refine BH (by assumption) ?_ rfl ?_;omega)|refine HX (by assumption) ?_|apply AD)<;>conv=>whnf))
    generalize Pk:c+(u+d)=t2 at *;refine LW i (by omega) (by omega) ?_;(conv=>whnf)
    (repeat' ((first|(apply A2;omega)|apply EF)<;>conv=>whnf))
    refine BJ [] (by (conv=>whnf);exact ⟨rfl,rfl,rfl⟩) (ih (i+1) (Z.set i (t2%4294967296)) (t2/4294967296) (by omega) ⟨by omega,by simpa using p2,p3.set _ (by omega),by omega,?_,?_⟩)
    ·rw[List.drop_set_of_lt (by omega)]
     have e1:(Z.drop i).drop 1=(X.drop i).drop 1:=by rw[p6]
     simpa using e1
    ·rw[E3 (by omega),C5 hd,C5 fm,Nat.pow_succ]
     exact xd
   ·obtain rfl:i=y.length:=by omega
    clear ih;obtain ⟨u,hu⟩ : ∃ u,Z[y.length]? = some u:=⟨_,zE (by omega)⟩;have km:=p3.at hu;have Ao:(A++Z++C)[((j:Int)+(y.length:Int)).toNat]? = some u:=PN (by omega) hu;have fm:X[y.length]? = some u:=by
     have e1:(Z.drop y.length)[0]? = (X.drop y.length)[0]? := by rw[p6]
     simpa [hu] using e1.symm
    rw[fm]at iy;obtain rfl:u=xw:=by simpa using iy
    rw[CJ (Nat.le_refl y.length)]at p7;have xb:=DX (p3.take y.length);rw[List.length_take,Nat.min_eq_left (by omega)]at xb;rw[eX]at y3;have mi:=bG p7 y3 (by omega) xb;rw[<-E3 (show y.length<Z.length by omega),CJ (by simp;omega)]at mi;(repeat' ((first|(apply AH<;>intro hc<;>try omega)|(apply BA;omega)|(apply A2;omega)|apply aQ|(apply DD;omega)|refine HX (by assumption) ?_|apply AD)<;>conv=>whnf))
    refine LW y.length (by omega) (by omega) ?_;(conv=>whnf)
    (repeat' ((first|(apply BA;omega)|(apply DD;omega))<;>conv=>whnf))
    refine EA (by omega) ?_;(conv=>whnf)
    (repeat' ((first|(apply BN;omega)|fail)<;>conv=>whnf))
    exact BJ [] (by (conv=>whnf);exact ⟨rfl,rfl,rfl⟩) (hk _ _ (by simpa using p2) (p3.set _ (by omega)) mi y1)
  ·have h3:=g8 u (c+b) (u-(c+b)) 0 rfl (Or.inl ⟨rfl,rfl,by omega⟩) (by omega)
   rw[Nat.mul_zero,Nat.add_zero]at h3;obtain ⟨y1,y2⟩:=dB s8 r2 h3;(repeat' ((first|(apply AH<;>intro hc<;>try omega)|(apply BA;omega)|(apply A2;omega)|(apply E5;omega)|(apply HN;omega;omega)|(apply BV;omega)|(apply DD;omega)|refine HX (by assumption) ?_|apply AD)<;>conv=>whnf))
   refine LW y.length (by omega) (by omega) ?_;(conv=>whnf)
   (repeat' ((first|(apply AH<;>intro hc<;>try omega)|(apply BA;omega)|(apply DD;omega))<;>conv=>whnf))
   refine EA (by omega) ?_;(conv=>whnf)
   (repeat' ((first|(apply BN;omega)|fail)<;>conv=>whnf))
   exact BJ [] (by (conv=>whnf);exact ⟨rfl,rfl,rfl⟩) (hk _ _ (by simpa using p2) (p3.set _ (by omega)) y2 y1)
theorem sD (hA:A.length=j) (hW:W.length=y.length+1) (D2:AR W) (aq:AR y) (bl:2<=y.length) (nj:y.length<=549755813888) (s8:0<val y) (z9:j<=1099511627776)
  (n2:4294967296^(y.length-1)*2147483648<=val y) (g2:val W<4294967296*val y) (ib:ul=j+(y.length+1)+C.length) (Au:w.length=m) (Al:j<m)
  (hk : ∀ (W':List Nat) (q':Nat),W'.length=y.length+1->AR W'->val W'=val W%val y->q'=val W/val y->AA L T9 (UA y s ul m ((j:Int)-1)) [(69,101021,.rw 1 ((A++W'++C).map AJ)),(85,85,.rw 1 ((w.set j q').map AJ))] Q) :
  AA L (.code CZ.l2::T9) (UA y s ul m (j:Int)) [(69,101021,.rw 1 ((A++W++C).map AJ)),(85,85,.rw 1 (w.map AJ))] Q:=by
 obtain ⟨UL,a1,a2⟩:=VW D2 (n:=y.length+1) (by omega) (by omega);obtain ⟨VL,b5,b6⟩:=lV aq (n:=y.length) bl (by omega);obtain ⟨u0,w0⟩ : ∃ d,W[y.length]? = some d:=⟨_,zE (by omega)⟩;obtain ⟨u1,w1⟩ : ∃ d,W[y.length-1]? = some d:=⟨_,zE (by omega)⟩;obtain ⟨u2,w2⟩ : ∃ d,W[y.length-2]? = some d:=⟨_,zE (by omega)⟩;obtain ⟨f1,x1⟩ : ∃ d,y[y.length-1]? = some d:=⟨_,zE (by omega)⟩;obtain ⟨f2,x2⟩ : ∃ d,y[y.length-2]? = some d:=⟨_,zE (by omega)⟩;rw[show y.length+1-3=y.length-2 by omega,show y.length+1-2=y.length-1 by omega,show y.length+1-1=y.length by omega,FN w0,FN w1,FN w2]at a2;rw[show y.length+1-3=y.length-2 by omega]at a1;rw[FN x1,FN x2]at b6;have mj:=lQ aq (k:=y.length-1) (by omega) n2 x1;have k0:=D2.at w0;have k1:=D2.at w1;have k2:=D2.at w2;have k3:=aq.at x1;have k4:=aq.at x2;have z1:y[((y.length:Int)-1).toNat]? = some f1:=by rw[show ((y.length:Int)-1).toNat=y.length-1 by omega];exact x1
 have z2:y[((y.length:Int)-2).toNat]? = some f2:=by rw[show ((y.length:Int)-2).toNat=y.length-2 by omega];exact x2
 have ny:(A++W++C)[((j:Int)+(y.length:Int)).toNat]? = some u0:=PN (by omega) w0;(repeat' ((first|(apply AH<;>intro hc<;>try omega)|(apply BA;omega)|(apply A2;omega)|(apply BN;omega)|(apply LV;omega)|(apply BV;omega)|refine HX (by assumption) ?_|apply AD)<;>conv=>whnf))
 have cn:(A++W++C)[((j:Int)+(y.length:Int)-1).toNat]? = some u1:=PN (by omega) w1;refine nZ cn ?_;(conv=>whnf)
 refine aL (by omega) ?_;(conv=>whnf)
 refine MH (by omega) ?_;(conv=>whnf)
 clear ny cn;have cb:(A++W++C)[((j:Int)+(y.length:Int)-2).toNat]? = some u2:=PN (by omega) w2;generalize Eo:u0*4294967296+u1=top at *;have En:top<=18446744073709551615:=by omega
 have hU:val W=UL+4294967296^(y.length-2)*(u2+4294967296*top):=by rw[a2,show u1+4294967296*u0=top by omega]
 (repeat' ((first|(apply BN;omega)|(apply Q7;omega)|(apply TC;omega;omega)|(apply BV;omega)|(refine BH (by assumption) ?_ rfl ?_;omega))<;>conv=>whnf))
 refine S2 (λ q _=>q) (λ(q r:Nat)=>Gs (val W) (val y) f1 f2 u2 top q r) (λ q r=>[(16,.int .u64 (q:Int)),(17,.int .u64 (r:Int))]) (λ_ _=>[]) [] [] (top/f1) (top%f1) (by (conv=>whnf);exact ⟨rfl,rfl,rfl⟩) (Gs.start hU b6 a1 k2 s8 (by omega) k3) ?_;intro q r g dn;have Pa:q<=top:=by
  have h3:=g.hq;have h4:q*1<=q*f1:=Nat.mul_le_mul_left q (by omega);omega
 have hr:=g.hr;have iu:=g.ge;by_cases hb:4294967296<=q
 ·obtain ⟨y1,y2,y3⟩:=g.next hU b6 a1 s8 g2 (Or.inl hb)
  (repeat' ((first|(apply AH<;>intro hc<;>try omega)|(apply BN;omega)|(apply E5;omega)|(apply HN;omega;omega)|(apply BV;omega)|(refine BH (by assumption) ?_ rfl ?_;omega)|apply AD)<;>conv=>whnf))
  ·obtain ⟨t1,t2⟩:=QA hU b6 b5 mj k4 g2 y2 (Or.inr (by omega))
   exact BJ [] (by (conv=>whnf);exact ⟨rfl,rfl,rfl⟩) (W4 (w:=w) (C:=C) hA hW D2 aq bl nj s8 z9 ib Au Al t1 y3 t2 hk)
  ·exact BJ [] (by (conv=>whnf);exact ⟨rfl,rfl,rfl⟩) (dn (q-1) (r+f1) (by omega) ⟨y2,by omega,y3⟩)
 ·have Oo:=QI (show q<4294967296 by omega) k4
  by_cases n8:r*4294967296+u2<q*f2
  ·obtain ⟨y1,y2,y3⟩:=g.next hU b6 a1 s8 g2 (Or.inr n8)
   (repeat' ((first|(apply AH<;>intro hc<;>try omega)|(apply BA;omega)|(apply A2;omega)|(apply BN;omega)|(apply E5;omega)|(apply MG;omega)|(apply LV;omega)|(apply MH;omega)|(apply HN;omega;omega)|(apply BV;omega)|(refine BH (by assumption) ?_ rfl ?_;omega)|refine HX (by assumption) ?_|apply AD)<;>conv=>whnf))
   ·obtain ⟨t1,t2⟩:=QA hU b6 b5 mj k4 g2 y2 (Or.inr (by omega))
    exact BJ [] (by (conv=>whnf);exact ⟨rfl,rfl,rfl⟩) (W4 (w:=w) (C:=C) hA hW D2 aq bl nj s8 z9 ib Au Al t1 y3 t2 hk)
   ·exact BJ [] (by (conv=>whnf);exact ⟨rfl,rfl,rfl⟩) (dn (q-1) (r+f1) (by omega) ⟨y2,by omega,y3⟩)
  ·obtain ⟨t1,t2⟩:=QA hU b6 b5 mj k4 g2 g.hq (Or.inl ⟨by omega,by omega⟩)
   (repeat' ((first|(apply AH<;>intro hc<;>try omega)|(apply BA;omega)|(apply A2;omega)|(apply BN;omega)|(apply MG;omega)|(apply LV;omega)|(apply MH;omega)|(apply BV;omega)|(refine BH (by assumption) ?_ rfl ?_;omega)|refine HX (by assumption) ?_|apply AD)<;>conv=>whnf))
   exact BJ [] (by (conv=>whnf);exact ⟨rfl,rfl,rfl⟩) (W4 (w:=w) (C:=C) hA hW D2 aq bl nj s8 z9 ib Au Al t1 iu t2 hk)
end
theorem Ks {l:List Nat} (hD:AR l) (h:l[l.length-1]? = some 0):val l<4294967296^(l.length-1):=by
 have hl:=(zS h).1;have h1:=IG l (l.length-1) (by omega);have h2:=F3 h;rw[List.drop_of_length_le (show l.length<=l.length-1+1 by omega),HL]at h2;rw[h2]at h1;simp only[Nat.mul_zero,Nat.add_zero]at h1;have h3:=DX (hD.take (l.length-1));rw[List.length_take,Nat.min_eq_left (by omega)]at h3;omega
theorem dD (N:a8 L) {X Y s:Nat} {x u y:List Nat} (hY:Y≠0) (w9:s<=31) (zz:AR u) (Ab:val u=X*2^s) (Mw:u[u.length-1]? = some 0) (ib:x.length+1<=u.length/\u.length<=549755813888) (aq:AR y) (Ac:val y=Y*2^s) (lq:2<=y.length/\y.length<=x.length) (n2:4294967296^(y.length-1)*2147483648<=val y) :
  AA L sB [(10,.row 69 0 1 0 u.length),(11,.sl false (y.map AJ)),(9,.int .i64 (s:Int)),(0,.sl false (x.map AJ))] [(69,101021,.rw 1 (u.map AJ))] (NC CZ (.e7 [.sl false ((dg (X/Y)).map AJ),.sl false ((dg (X%Y)).map AJ),.int .i64 0])):=by
 refine DL (λ(_:Nat)=>0) (λ_=>True) (λ_=>[]) (λ_=>[]) 0 trivial ?_;intro _ _ _;(repeat' ((first|(apply AH<;>intro hc<;>try omega)|(apply A2;omega)|(apply BN;omega)|apply AQ|apply AD)<;>conv=>whnf))
 refine DQ (enc:=AJ) 0 (u.length-y.length) (by rfl) (by omega) (by omega) ?_;(conv=>whnf)
 (repeat' ((first|(apply BN;omega)|fail)<;>conv=>whnf))
 have s8:0<val y:=by
  have:=jW (y.length-1)
  omega
 have sf:=DX aq;generalize hm:u.length-y.length=m at *;have mo:val (u.drop m)<val y:=by
  have h1:(u.drop m).length=y.length:=by simp;omega
  have h2:=Ks (l:=u.drop m) (zz.drop _) (by rw[h1,List.getElem?_drop,show m+(y.length-1)=u.length-1 by omega];exact Mw);rw[h1]at h2;omega
 rw[show (u.length:Int)-y.length-1=((m:Nat):Int)-1 by omega];refine E9 (λ n _ _=>n) (λ(n:Nat) (o w:List Nat)=>n<=m/\o.length=u.length/\AR o/\w.length=m/\AR w/\val (o.drop n)<val y/\X*2^s=val (o.take n)+4294967296^n*(val (w.drop n)*val y+val (o.drop n))) (λ n o w=>[(14,.int .i64 ((n:Int)-1))]) (λ n o w=>[(69,101021,.rw 1 (o.map AJ)),(85,85,.rw 1 (w.map AJ))]) m u (List.replicate m 0) ⟨by omega,rfl,zz,by simp,HP _,mo,by rw[<-Ab,List.drop_of_length_le (show (List.replicate m 0).length<=m by simp),HL,Nat.zero_mul,Nat.zero_add];exact IG u m (by omega)⟩ ?_;intro n o w ⟨p1,p2,p3,p4,p5,p6,p7⟩ ih;rcases n with _|j
 ·clear ih
  rw[List.drop_zero]at p6;rw[List.take_zero,List.drop_zero,List.drop_zero,HL,Nat.zero_add,Nat.pow_zero,Nat.one_mul]at p7;have iq:val o=val (o.take y.length):=by
   have h1:=PL o y.length;rcases Nat.eq_zero_or_pos (val (o.drop y.length)) with h2|h2
   ·rw[h2,Nat.mul_zero,Nat.add_zero]at h1;exact h1
   ·have h3:4294967296^y.length*1<=4294967296^y.length*val (o.drop y.length):=Nat.mul_le_mul_left _ h2
    omega
  have ou:X/Y=val w/\X%Y=val o/2^s:=by
   obtain ⟨z1,z2⟩:=dC (X:=X) (Y:=Y) (Nat.two_pow_pos s);rw[<-z1,<-z2,<-Ac,p7];have e1:(val w*val y+val o)/val y=val w:=by
    rw[Nat.mul_comm,Nat.mul_add_div s8,Nat.div_eq_of_lt p6,Nat.add_zero]
   have e2:(val w*val y+val o)%val y=val o:=by
    rw[Nat.mul_comm,Nat.mul_add_mod,Nat.mod_eq_of_lt p6]
   rw[e1,e2];exact ⟨rfl,rfl⟩
  rw[ou.1,ou.2,iq];have hT:=λ q=>FE N w q p5 (by omega)
  have eu:(o.take y.length).length<=549755813888:=by rw[List.length_take];omega
  clear p7 ou mo;rw[<-p4];rcases Nat.eq_zero_or_pos s with h0|h0
  ·subst h0
   have hS:=λ q=>fD N (o.take y.length) q 0 (p3.take _) eu (by omega)
   rw[Nat.pow_zero,Nat.mul_one]at hS;rw[Nat.pow_zero,Nat.div_one];(repeat' ((first|(apply AH<;>intro hc<;>try omega)|(refine C8 (λ_=>rfl) rfl ?_ ?_;(first|rfl|simp))|apply AD|refine AG (hT _) ?_)<;>conv=>whnf))
   refine FL y.length rfl (by omega) ?_;(conv=>whnf)
   refine CQ.neg (by omega) ?_;(conv=>whnf)
   refine FV (enc:=AJ) (λ_=>rfl) (by omega) ?_;(conv=>whnf)
   rw[List.drop_zero,Nat.sub_zero,show -((0:Nat):Int)=((0:Nat):Int) by omega];(repeat' (refine AG (hS _) ?_<;>conv=>whnf))
   exact AU rfl (TV _ _ _)
  ·have hS:=λ q=>wC N (o.take y.length) q s (p3.take _) eu (by omega)
   (repeat' ((first|(apply AH<;>intro hc<;>try omega)|(refine C8 (λ_=>rfl) rfl ?_ ?_;(first|rfl|simp))|apply AD|refine AG (hT _) ?_)<;>conv=>whnf))
   refine FL y.length rfl (by omega) ?_;(conv=>whnf)
   refine CQ.neg (by omega) ?_;(conv=>whnf)
   refine FV (enc:=AJ) (λ_=>rfl) (by omega) ?_;(conv=>whnf)
   rw[List.drop_zero,Nat.sub_zero];(repeat' (refine AG (hS _) ?_<;>conv=>whnf))
   exact AU rfl (TV _ _ _)
 ·have e3:((j+1:Nat):Int)-1=j:=by omega
  rw[e3];obtain ⟨A,W,C,hA,hW,rfl⟩:=dR o j (y.length+1) (by omega);obtain ⟨g1,g2,g3⟩:=dT hA hW p3 p6 sf;obtain ⟨D1,D2,D3⟩:=cZ p3;have vl:val W/val y<4294967296:=(Nat.div_lt_iff_lt_mul s8).2 g2;have Bv:val W=val W/val y*val y+val W%val y:=by rw[Nat.mul_comm];exact (Nat.div_add_mod _ _).symm
  have My:val W%val y<val y:=Nat.mod_lt _ s8;have sd:X*2^s=val A+4294967296^j*val W+4294967296^j*4294967296*(val (w.drop (j+1))*val y):=by
   rw[p7,Nat.mul_add,<-g3,Nat.pow_succ];omega
  have jl:=dS sd Bv;have ki : ∀ q',q'=val W/val y->val ((w.set j q').drop j)=val W/val y+4294967296*val (w.drop (j+1)):=λ q' h=>by
   rw[F3 (l:=w.set j q') (d:=q') (by rw[List.getElem?_set_self (by omega)]),List.drop_set_of_lt (by omega),h]
  have hlen : ∀ W':List Nat,W'.length=y.length+1->(A++W'++C).length=u.length:=λ W' h=>by
   rw[<-p2];simp [h,hW]
  have Cz:u.length=j+(y.length+1)+C.length:=by rw[<-p2];simp [hA,hW];omega
  refine BJ [] (by (conv=>whnf);exact ⟨rfl,rfl,rfl⟩) (sD (m:=m) (s:=s) (ul:=u.length) (C:=C) hA hW D2 aq lq.1 (by omega) s8 (by omega) n2 g2 Cz p4 (by omega) (λ W' q' z1 z2 z3 z4 => ?_));obtain ⟨t1,t2⟩:=W8 (A:=A) (W:=W') (C:=C) (j:=j) hA g1;refine BJ [] (by (conv=>whnf);exact ⟨rfl,rfl,rfl⟩) (ih j (A++W'++C) (w.set j q') (by omega) ⟨by omega,hlen W' z1,(D1.append z2).append D3,by simpa using p4,p5.set _ (by omega),by omega,?_⟩);rw[t1,t2,ki q' z4,z3];exact jl
end Go.c8

namespace Go.c8
open F
attribute [local irreducible] AA AF AX AB CQ AY BB A9 BS BR CX D9 BT A1 BP CK AC A5 AL pw C7 CE DM DF DP DU DY BQ DE
variable {L:Lib}
set_option maxHeartbeats 8000000
theorem fA (N:a8 L) (a b:List Nat) (q1 q2:Bool) (hA:AR a) (hB:AR b) (la:a.length<=274877906944) (lb:b.length<=274877906944) (h0:val b≠0) :
  Ev L 109 [.sl q1 (a.map AJ),.sl q2 (b.map AJ)] (.e7 [.sl false ((dg (val a/val b)).map AJ),.sl false ((dg (val a%val b)).map AJ),.int .i64 0]):=by
 have t1:=λ q=>FE N a q hA (by omega)
 have t2:=λ q=>FE N b q hB (by omega)
 have l1:=DR hA;have l2:=DR hB;have j6:=λ q q'=>XL N (dg (val a)) (dg (val b)) q q' (C3 _) (C3 _) (by omega) (by omega)
 rw[BF,BF]at j6;generalize val a=X at *;generalize val b=Y at *;have d1:=C3 X;have d2:=C3 Y;have v1:=BF X;have v2:=BF Y;have Pv:=RO h0;refine Ev.x N.CZ rfl rfl ?_;by_cases h1:(dg Y).length=1
 ·obtain ⟨y0,iz⟩ : ∃ y0,dg Y=[y0]:=List.length_eq_one_iff.1 h1
  have oa:Y=y0:=by rw[<-v2,iz];simp [val]
  subst oa;have vq:Y<4294967296:=d2 Y (by rw[iz];simp);have Px:(dg Y)[(0:Int).toNat]? = some Y:=by rw[iz];rfl
  have Gu:=λ q=>wD N (dg X) Y q d1 (by omega) h0 vq
  rw[v1]at Gu;have Pc:X%Y<4294967296:=Nat.lt_trans (Nat.mod_lt _ (by omega)) vq;have zy:=λ q=>FE N [X%Y] q (F6 Pc) (by simp)
  rw[show val [X%Y]=X%Y by simp [val]]at zy;clear iz v2;generalize dg Y=y at *;(repeat' ((first|(apply AH<;>intro hc<;>try omega)|apply AQ|(refine BH (by assumption) ?_ rfl ?_;omega)|refine HY rfl ?_|apply AD|refine AG (t1 _) ?_|refine AG (t2 _) ?_|refine AG (Gu _) ?_|refine AG (zy _) ?_)<;>conv=>whnf))
  exact AU rfl (TV _ _ _)
 by_cases k6:X<Y
 ·rw[<-GV (by omega)]at j6
  (repeat' ((first|(apply AH<;>intro hc<;>try omega)|apply AQ|apply AD|refine AG (t1 _) ?_|refine AG (t2 _) ?_|refine AG (j6 _ _) ?_)<;>conv=>whnf))
  refine AU ?_ (TV _ _ _);rw[Nat.div_eq_of_lt k6,Nat.mod_eq_of_lt k6,DZ];rfl
 have iu:=TZ (show Y<=X by omega);generalize CM X Y=cm at *;have Dh:2<=(dg Y).length:=by omega
 obtain ⟨yt,po,pq⟩:=W2 h0;have nk:=d2.at po;obtain ⟨b1,b2,b3,b4⟩:=YK pq nk;have jm:=λ q=>vZ N yt q pq nk
 generalize hs:32-l9 yt=s at *;have w9:s<=31:=by omega
 have El:=λ q=>fD N (dg Y) q s d2 (by omega) (by omega)
 obtain ⟨n1,n2⟩:=YC d2 po (by omega) w9 b3 b4;rw[v2]at El n1 n2;have iq:(dg Y).drop ((dg Y).length-1)=[yt]:=by
  obtain ⟨hi,he⟩:=zS po;rw[List.drop_eq_getElem_cons hi,he,List.drop_of_length_le (by omega)]
 have lq:(dg (Y*2^s)).length=(dg Y).length:=by
  have a1:=L2.2 n1;have a2 : ¬ (dg (Y*2^s)).length<=(dg Y).length-1:=λ h=>by
   have:=L2.1 h
   omega
  omega
 have Mz:(dg (X*2^s)).length<=(dg X).length+1:=by
  refine L2.2 ?_;have a1:X<4294967296^(dg X).length:=L2.1 (Nat.le_refl _);rw[Nat.pow_succ];have a2:=SF (s:=s) (by omega);exact Nat.lt_of_lt_of_le (Nat.mul_lt_mul_of_pos_right a1 (Nat.two_pow_pos s)) (Nat.mul_le_mul_left _ a2)
 have uy:(dg X).length<=(dg (X*2^s)).length:=NG (Nat.le_mul_of_pos_right _ (Nat.two_pow_pos s));have pc:=NG (show Y<=X by omega);generalize hx:dg X=x at *;generalize hy:dg Y=y at *;have t3:=λ q=>FE N x q d1 (by omega)
 rw[v1,hx]at t3;(repeat' ((first|(apply AH<;>intro hc<;>try omega)|(apply BN;omega)|apply AQ|apply AD|refine AG (t1 _) ?_|refine AG (t2 _) ?_|refine AG (j6 _ _) ?_)<;>conv=>whnf))
 rw[show (y.length:Int)-1=((y.length-1:Nat):Int) by omega];refine oO (k:=y.length-1) (λ_=>rfl) (by omega) ?_;(conv=>whnf)
 rw[iq];(repeat' ((first|(apply BN;omega)|refine AG (jm _) ?_)<;>conv=>whnf))
 rw[show (32:Int)-(l9 yt:Nat)=((s:Nat):Int) by omega];refine FA 1000 N.HB rfl rfl ?_;have Ej:(s:Int)/32=((0:Nat):Int):=by omega
 have Ph:(s:Int)%32=((s:Nat):Int):=by omega
 (repeat' ((first|(apply AH<;>intro hc<;>try omega)|(refine PT ?_ ?_ (λ_ => ?_) (λ_ _ => ?_);omega;omega;all_goals try omega)|apply AQ|apply AD|refine AG (t3 _) ?_)<;>conv=>whnf))
 rw[Ej];refine DQ (enc:=AJ) 0 0 rfl rfl (by omega) ?_;(conv=>whnf)
 skip
 refine E9 (λ i _ _=>x.length-i) (λ(i:Nat) (o:List Nat) (c:Nat)=>i<=x.length/\o.length=i/\AR o/\c<2^s/\val o+4294967296^i*c=val (x.take i)*2^s) (λ i o c=>[(10,.int .i64 i),(9,.int .u64 (c:Int)),(8,.row 107069 0 1 0 i)]) (λ i o c=>[(107069,107069,.rw 1 (o.map AJ))]) 0 [] 0 ⟨by omega,rfl,P2,Nat.two_pow_pos _,by simp [val]⟩ ?_;intro i o c ⟨p1,p2,p3,p4,p5⟩ ih;have lj:=SF (s:=s) (by omega);by_cases hi:i<x.length
 ·obtain ⟨d,hd⟩ : ∃ d,x[i]? = some d:=⟨_,zE hi⟩
  have x5:=d1.at hd;obtain ⟨f1,f2,f3,f4⟩:=PD (s:=s) x5 (by omega);have hr:=US (show s<=64 by omega) f4;(repeat' ((first|(apply AH<;>intro hc<;>try omega)|(refine Q8 ?_ (λ_ _ _ => ?_) (λ_ _ _ _ => ?_);omega;all_goals try omega)|(apply BV;omega)|apply AQ|(refine BH (by assumption) ?_ rfl ?_;omega)|apply AD)<;>conv=>whnf))
  rw[Ph];refine MJ (by omega) f4 ?_;(conv=>whnf)
  skip
  refine TB s (Nat.mul_mod_left _ _) p4 (by omega) ?_;(conv=>whnf)
  have g8:=lS (d:=d) (P:=1) (V:=val o) (p:=4294967296^i) (lo:=c) (X:=val (x.take i)) (s:=s) (by rw[Nat.one_mul,Nat.one_mul];exact p5) rfl;have jo:(c+d*2^s)/4294967296<2^s:=by
   rw[Nat.div_lt_iff_lt_mul (by omega)];have:=zR (2^s) (show d<=4294967295 by omega)
   omega
  generalize c+d*2^s=t at *;(repeat' ((first|apply ET|apply EW)<;>conv=>whnf))
  refine ER (enc:=AJ) (t%4294967296) rfl p2.symm rfl (by omega) (by omega) ?_;(conv=>whnf)
  (repeat' ((first|(apply A2;omega)|apply EF)<;>conv=>whnf))
  rw[show (o++[t%4294967296]).length=i+1 by simp [p2]];refine BJ [(107069,107091)] (by (conv=>whnf);exact ⟨rfl,rfl,rfl⟩) (ih (i+1) (o++[t%4294967296]) (t/4294967296) (by omega) ⟨by omega,by simp;omega,p3.append (F6 (by omega)),jo,?_⟩);rw[LU,p2,C5 hd,Nat.pow_succ];rw[Nat.one_mul,Nat.one_mul]at g8;exact g8
 obtain rfl:i=x.length:=by omega
 clear ih;have ta:c<4294967296:=by omega
 have Mo:AR (o++[c]):=p3.append (F6 ta);have wy:val (o++[c])=X*2^s:=by
  rw[LU,p2,p5,CJ (Nat.le_refl _),v1]
 have wx:(o++[c]).length=x.length+1:=by simp [p2]
 (repeat' ((first|(apply AH<;>intro hc<;>try omega)|(apply DD;omega)|apply AQ|apply EW|apply AD)<;>conv=>whnf))
 refine ER (enc:=AJ) c rfl p2.symm rfl (by omega) (by omega) ?_;(conv=>whnf)
 rw[wx];generalize o++[c]=O at *;rw[<-wx];clear p3 p4 p5;refine FA 1000 N.GA rfl rfl ?_;(repeat' (apply AD<;>conv=>whnf))
 refine DL (λ n=>n) (λ(n:Nat)=>n<=(O).length /\ ∀ i,n<=i->i<(O).length->(O)[i]? = some 0) (λ n=>[(3,.int .i64 n)]) (λ_=>[]) (O).length ⟨Nat.le_refl _,λ i h1 h2=>by omega⟩ ?_;intro n ⟨p1,p2⟩ ih;rcases n with _|n
 ·(repeat' ((first|(apply AH<;>intro hc<;>try omega)|apply AD)<;>conv=>whnf))
  refine FL 0 (by omega) (by omega) ?_;(conv=>whnf)
  have w8:=FC (l:=O) (by assumption) p1 p2 (Or.inl rfl);have n0:(List.take 0 O).length<=(O).length:=by rw[List.length_take];omega
  clear ih p2;refine TG (enc:=AJ) (by omega) ?_;(conv=>whnf)
  rw[List.drop_zero,Nat.sub_zero];generalize Bu:List.take 0 O=T0 at *;refine M7 (enc:=AJ) (λ_=>rfl) (by omega) (by omega) ?_;(conv=>whnf)
  refine ⟨rfl,_,rfl,?_⟩;(conv=>whnf)
  (refine ⟨rfl,_,rfl,?_⟩;(conv=>whnf);(repeat' ((first|apply EW|refine AG (El _) ?_)<;>conv=>whnf));refine ER (enc:=AJ) 0 rfl rfl rfl (by omega) (by omega) ?_;(conv=>whnf);rw[wy]at w8;rw[w8];exact BJ [] (by (conv=>whnf);exact ⟨rfl,rfl,rfl⟩) (dD N (x:=x) (X:=X) (Y:=Y) (s:=s) (u:=dg (X*2^s)++[0]) (y:=dg (Y*2^s)) h0 w9 ((C3 _).append (F6 (by omega))) (by rw[LU,BF,Nat.mul_zero,Nat.add_zero]) (by simp) (by simp;omega) (C3 _) (BF _) (by omega) (by rw[BF,lq];exact n2)))
 ·have e1:((n+1:Nat):Int)-1=n:=by omega
  (repeat' ((first|(apply AH<;>intro hc<;>try omega)|(apply BA;omega)|(apply BN;omega)|(refine N6 (by assumption) ?_ (λ v hv hb => ?_);omega)|apply AD)<;>conv=>whnf))
  ·rw[e1]
   exact B2 [] (ih n (by omega) ⟨by omega,λ i h1 h2=>by
    by_cases h:i=n
    ·subst h
     rw[e1,Int.toNat_natCast]at hv;rw[hv];congr 1;omega
    ·exact p2 i (by omega) h2⟩)
  ·refine FL (n+1) (by omega) (by omega) ?_
   (conv=>whnf)
   rw[e1,Int.toNat_natCast]at hv;have w8:=FC (l:=O) (by assumption) p1 p2 (Or.inr ⟨_,hv,by omega⟩);have n0:(List.take (n+1) O).length<=(O).length:=by rw[List.length_take];omega
   clear ih p2 hv;(rw[bQ (l:=O)];rotate_left;exact rfl;exact rfl);(conv=>whnf)
   refine TG (enc:=AJ) (by omega) ?_;(conv=>whnf)
   rw[List.drop_zero,Nat.sub_zero];generalize Bu:List.take (n+1) O=T0 at *;refine M7 (enc:=AJ) (λ_=>rfl) (by omega) (by omega) ?_;(conv=>whnf)
   refine ⟨rfl,_,rfl,?_⟩;(conv=>whnf)
   (refine ⟨rfl,_,rfl,?_⟩;(conv=>whnf);(repeat' ((first|apply EW|refine AG (El _) ?_)<;>conv=>whnf));refine ER (enc:=AJ) 0 rfl rfl rfl (by omega) (by omega) ?_;(conv=>whnf);rw[wy]at w8;rw[w8];exact BJ [] (by (conv=>whnf);exact ⟨rfl,rfl,rfl⟩) (dD N (x:=x) (X:=X) (Y:=Y) (s:=s) (u:=dg (X*2^s)++[0]) (y:=dg (Y*2^s)) h0 w9 ((C3 _).append (F6 (by omega))) (by rw[LU,BF,Nat.mul_zero,Nat.add_zero]) (by simp) (by simp;omega) (C3 _) (BF _) (by omega) (by rw[BF,lq];exact n2)))
theorem wA (N:a8 L) (a b:List Nat) (q1 q2:Bool) (hA:AR a) (hB:AR b) (la:a.length<=274877906944) (lb:b.length<=274877906944) :
  Ev L 110 [.sl q1 (a.map AJ),.sl q2 (b.map AJ)] (.sl false ((dg (Nat.gcd (val a) (val b))).map AJ)):=by
 have t1:=λ q=>FE N a q hA (by omega)
 have t2:=λ q=>FE N b q hB (by omega)
 have l1:=DR hA;have l2:=DR hB;generalize val a=X at *;generalize val b=Y at *;refine Ev.x N.K2 rfl rfl ?_;(repeat' ((first|apply AD|refine AG (t1 _) ?_|refine AG (t2 _) ?_)<;>conv=>whnf))
 refine IH (λ_ y=>y) (λ(x y:Nat)=>(dg x).length<=274877906944/\(dg y).length<=274877906944/\Nat.gcd x y=Nat.gcd X Y) (λ x y=>[(0,.sl false ((dg x).map AJ)),(1,.sl false ((dg y).map AJ))]) (λ_ _=>[]) X Y ⟨by omega,by omega,rfl⟩ ?_;intro x y ⟨p1,p2,p3⟩ ih;rw[<-p3];by_cases h0:y=0
 ·subst h0
  have nv:(dg 0).length=0:=by rw[DZ];rfl
  clear ih;rw[Nat.gcd_zero_right];(repeat' ((first|(apply AH<;>intro hc<;>try omega)|apply AQ|apply AD)<;>conv=>whnf))
  exact AU rfl (H1 _)
 ·have hp:=RO h0
  have hD:=λ q q'=>fA N (dg x) (dg y) q q' (C3 _) (C3 _) p1 p2 (by rw[BF];exact h0)
  rw[BF,BF]at hD;have k6:x%y<y:=Nat.mod_lt _ (by omega);have lg:=NG (Nat.le_of_lt k6);(repeat' ((first|(apply AH<;>intro hc<;>try omega)|apply AQ|apply AD|refine AG (hD _ _) ?_)<;>conv=>whnf))
  rw[p3];exact B2 [] (ih y (x%y) k6 ⟨p2,by omega,by rw[R2];exact p3⟩)
theorem H3 (N:a8 L) (n q:Bool) (m:List Nat) (hm:Sm 274877906944 m):Ev L 111 [.agg (rZ q n m)] (.agg (eZ (zv n m))):=by
 have hT:=λ q=>FE N m q hm.1 (by have:=hm.2;omega)
 have hz:=GX (val m);have ha:=D8 n m;refine Ev.x N.LE rfl rfl ?_;cases n
 ·rw[EE]at *
  (repeat' ((first|apply AD|refine AG (hT _) ?_)<;>conv=>whnf))
  exact AU (DN ha.symm (FG (by omega))) (CW _)
 ·rw[ME]at *
  (repeat' ((first|(apply AH<;>intro hc<;>try omega)|apply AQ|apply AD|refine AG (hT _) ?_)<;>conv=>whnf))
  ·exact AU (DN ha.symm (LR (by omega))) (CW _)
  ·exact AU (DN ha.symm (FG (by omega))) (CW _)
theorem XN (N:a8 L) (n q:Bool) (m:List Nat) (hm:Sm 274877906944 m):Ev L 113 [.agg (rZ q n m)] (.int .i64 (v5 (zv n m))):=by
 have hT:=λ q=>H3 N n q m hm
 generalize zv n m=z at *;have hz:=GX z.natAbs;refine Ev.x N.LC rfl rfl ?_;(repeat' ((first|(apply AH<;>intro hc<;>try omega)|apply AQ|apply AD|refine AG (hT _) ?_)<;>conv=>whnf))
 ·exact B9 (VI (by omega))
 ·cases hd:decide (z<0)
  ·(conv=>whnf)
   exact B9 (kL (by have:=of_decide_eq_false hd;omega))
  ·(conv=>whnf)
   exact B9 (kK (of_decide_eq_true hd))
theorem fH (N:a8 L) (n q:Bool) (m:List Nat) (hm:Sm 274877906944 m):Ev L 114 [.agg (rZ q n m)] (.agg (eZ (-(zv n m)))):=by
 have hT:=λ q=>H3 N n q m hm
 generalize zv n m=z at *;have hz:=GX z.natAbs;refine Ev.x N.LA rfl rfl ?_;(repeat' ((first|apply AD|refine AG (hT _) ?_)<;>conv=>whnf))
 cases hd:decide (z<0)
 ·have h1:=of_decide_eq_false hd
  (conv=>whnf)
  (repeat' ((first|(apply AH<;>intro hc<;>try omega)|apply AQ)<;>conv=>whnf))
  ·exact AU (DN (by omega) (LR (by omega))) (CW _)
  ·exact AU (DN (by omega) (FG (by omega))) (CW _)
 ·have h1:=of_decide_eq_true hd
  (conv=>whnf)
  skip
  exact AU (DN (by omega) (FG (by omega))) (CW _)
theorem OT (N:a8 L) (n1 n2 q1 q2:Bool) (a b:List Nat) (ha:AR a) (hb:AR b) (hl:a.length+b.length<=274877906944):Ev L 118 [.agg (rZ q1 n1 a),.agg (rZ q2 n2 b)] (.agg (eZ (zv n1 a*zv n2 b))):=by
 have h1:=λ q q'=>wB N a b q q' ha hb (by omega)
 have sa:Sm a.length a:=⟨ha,Nat.le_refl _⟩;have sb:Sm b.length b:=⟨hb,Nat.le_refl _⟩;have hT:=λ n q=>H3 N n q (dg (val a*val b)) ((sa.mul sb rfl).le hl)
 have e : ∀ n,zv n (dg (val a*val b))=bif n then -((val a*val b:Nat):Int) else ((val a*val b:Nat):Int):=λ n=>by unfold zv;rw[BF]
 have e2:zv n1 a*zv n2 b=zv (n1 != n2) (dg (val a*val b)):=by
  rw[e];cases n1<;>cases n2<;>simp [EE,ME,Int.mul_neg,Int.neg_mul]
 rw[e2];refine Ev.x N.K9 rfl rfl ?_;cases n1<;>cases n2;all_goals
  (repeat' ((first|apply AD|refine AG (h1 _ _) ?_|refine AG (hT _ _) ?_)<;>conv=>whnf))
  exact AU rfl (CW _)
theorem fE (N:a8 L) (n1 n2 q1 q2:Bool) (a b:List Nat) (ha:Sm 274877906943 a) (hb:Sm 274877906943 b):Ev L 115 [.agg (rZ q1 n1 a),.agg (rZ q2 n2 b)] (.agg (eZ (zv n1 a+zv n2 b))):=by
 have t1:=λ q=>H3 N n1 q a (ha.le (by omega))
 have t2:=λ q=>H3 N n2 q b (hb.le (by omega))
 have s1:Sm 274877906943 (dg (zv n1 a).natAbs):=by rw[D8];exact ha.od
 have s2:Sm 274877906943 (dg (zv n2 b).natAbs):=by rw[D8];exact hb.od
 generalize zv n1 a=x at *;generalize zv n2 b=y at *;have h1:=λ q q'=>eV N (dg x.natAbs) (dg y.natAbs) q q' s1.1 s2.1 (by have:=s1.2;omega) (by have:=s2.2;omega)
 have h2:=λ q q'=>XM N (dg x.natAbs) (dg y.natAbs) q q' s1.1 s2.1 (by have:=s1.2;omega) (by have:=s2.2;omega)
 have h3:=λ q q'=>XM N (dg y.natAbs) (dg x.natAbs) q q' s2.1 s1.1 (by have:=s2.2;omega) (by have:=s1.2;omega)
 have j6:=λ q q'=>XL N (dg x.natAbs) (dg y.natAbs) q q' s1.1 s2.1 (by have:=s1.2;omega) (by have:=s2.2;omega)
 rw[BF,BF]at h1 h2 h3 j6;have u1:=λ n q=>H3 N n q (dg (x.natAbs+y.natAbs)) (s1.add s2 (by rw[BF,BF];omega))
 have u2:=λ n q=>H3 N n q (dg (x.natAbs-y.natAbs)) ((s1.low (V:=x.natAbs-y.natAbs) (by rw[BF];omega)).le (by omega))
 have u3:=λ n q=>H3 N n q (dg (y.natAbs-x.natAbs)) ((s2.low (V:=y.natAbs-x.natAbs) (by rw[BF];omega)).le (by omega))
 have e : ∀ n V,zv n (dg V)=bif n then -(V:Int) else (V:Int):=λ n V=>by unfold zv;rw[BF]
 refine Ev.x N.K5 rfl rfl ?_;(repeat' ((first|apply AD|refine AG (t1 _) ?_|refine AG (t2 _) ?_)<;>conv=>whnf))
 cases hx:decide (x<0)<;>cases hy:decide (y<0)
 ·have g1:=of_decide_eq_false hx
  have g2:=of_decide_eq_false hy;have hz:x+y=zv false (dg (x.natAbs+y.natAbs)):=by rw[e];simp only[cond_true,cond_false];omega
  rw[hz];(conv=>whnf)
  (repeat' ((first|refine AG (h1 _ _) ?_|refine AG (u1 _ _) ?_)<;>conv=>whnf))
  exact AU rfl (CW _)
 ·have g1:=of_decide_eq_false hx
  have g2:=of_decide_eq_true hy;by_cases k6:x.natAbs<y.natAbs
  ·have hz:x+y=zv true (dg (y.natAbs-x.natAbs)):=by rw[e];simp only[cond_true,cond_false];omega
   rw[hz];rw[<-GV (by omega)]at j6;(conv=>whnf)
   (repeat' ((first|(apply AH<;>intro hc<;>try omega)|refine AG (j6 _ _) ?_|refine AG (h3 _ _) ?_|refine AG (u3 _ _) ?_)<;>conv=>whnf))
   exact AU rfl (CW _)
  ·have hz:x+y=zv false (dg (x.natAbs-y.natAbs)):=by rw[e];simp only[cond_true,cond_false];omega
   rw[hz];have iu:=TZ (show y.natAbs<=x.natAbs by omega);generalize CM (x.natAbs:Nat) (y.natAbs:Nat)=cm at *;(conv=>whnf)
   (repeat' ((first|(apply AH<;>intro hc<;>try omega)|refine AG (j6 _ _) ?_|refine AG (h2 _ _) ?_|refine AG (u2 _ _) ?_)<;>conv=>whnf))
   exact AU rfl (CW _)
 ·have g1:=of_decide_eq_true hx
  have g2:=of_decide_eq_false hy;by_cases k6:x.natAbs<y.natAbs
  ·have hz:x+y=zv false (dg (y.natAbs-x.natAbs)):=by rw[e];simp only[cond_true,cond_false];omega
   rw[hz];rw[<-GV (by omega)]at j6;(conv=>whnf)
   (repeat' ((first|(apply AH<;>intro hc<;>try omega)|refine AG (j6 _ _) ?_|refine AG (h3 _ _) ?_|refine AG (u3 _ _) ?_)<;>conv=>whnf))
   exact AU rfl (CW _)
  ·have hz:x+y=zv true (dg (x.natAbs-y.natAbs)):=by rw[e];simp only[cond_true,cond_false];omega
   rw[hz];have iu:=TZ (show y.natAbs<=x.natAbs by omega);generalize CM (x.natAbs:Nat) (y.natAbs:Nat)=cm at *;(conv=>whnf)
   (repeat' ((first|(apply AH<;>intro hc<;>try omega)|refine AG (j6 _ _) ?_|refine AG (h2 _ _) ?_|refine AG (u2 _ _) ?_)<;>conv=>whnf))
   exact AU rfl (CW _)
 ·have g1:=of_decide_eq_true hx
  have g2:=of_decide_eq_true hy;have hz:x+y=zv true (dg (x.natAbs+y.natAbs)):=by rw[e];simp only[cond_true,cond_false];omega
  rw[hz];(conv=>whnf)
  (repeat' ((first|refine AG (h1 _ _) ?_|refine AG (u1 _ _) ?_)<;>conv=>whnf))
  exact AU rfl (CW _)
theorem wH (N:a8 L) (n1 n2 q1 q2:Bool) (a b:List Nat) (ha:Sm 274877906943 a) (hb:Sm 274877906943 b):Ev L 116 [.agg (rZ q1 n1 a),.agg (rZ q2 n2 b)] (.agg (eZ (zv n1 a-zv n2 b))):=by
 have t2:=λ q=>fH N n2 q b (hb.le (by omega))
 have s2:Sm 274877906943 (dg (-(zv n2 b)).natAbs):=by rw[Int.natAbs_neg,D8];exact hb.od
 have h1:=λ q q'=>fE N n1 (decide (-(zv n2 b)<0)) q q' a (dg (-(zv n2 b)).natAbs) ha s2
 rw[FK,<-Int.sub_eq_add_neg]at h1;refine Ev.x N.LD rfl rfl ?_;(repeat' ((first|apply AD|refine AG (t2 _) ?_|refine AG (h1 _ _) ?_)<;>conv=>whnf))
 exact AU rfl (CW _)
theorem wE (N:a8 L) (n1 n2 q1 q2:Bool) (a b:List Nat) (ha:Sm 274877906943 a) (hb:Sm 274877906943 b):Ev L 117 [.agg (rZ q1 n1 a),.agg (rZ q2 n2 b)] (.int .i64 (v5 (zv n1 a-zv n2 b))):=by
 have h1:=λ q q'=>wH N n1 n2 q q' a b ha hb
 have s1:Sm 274877906943 (dg (zv n1 a).natAbs):=by rw[D8];exact ha.od
 have s2:Sm 274877906943 (dg (zv n2 b).natAbs):=by rw[D8];exact hb.od
 have s3:Sm 274877906944 (dg (zv n1 a-zv n2 b).natAbs):=s1.add s2 (by rw[BF,BF];omega);have h2:=λ q=>XN N (decide (zv n1 a-zv n2 b<0)) q (dg (zv n1 a-zv n2 b).natAbs) s3
 rw[FK]at h2;refine Ev.x N.K6 rfl rfl ?_;(repeat' ((first|apply AD|refine AG (h1 _ _) ?_|refine AG (h2 _) ?_)<;>conv=>whnf))
 exact B9 rfl
theorem wG (N:a8 L) (z:Int) (hz : -9223372036854775808<=z/\z<=9223372036854775807):Ev L 112 [.int .i64 z] (.agg (eZ z)):=by
 have two : ∀ k:Nat,k<18446744073709551616 -> ∀ n q,Ev L 111 [.agg [.bool n,.sl q [[.int .u32 ((k%4294967296:Nat):Int)],[.int .u32 ((k/4294967296:Nat):Int)]]]] (.agg (eZ (bif n then -(k:Int) else (k:Int)))):=λ k hk n q=>by
  have:=H3 N n q [k%4294967296,k/4294967296] ⟨(WZ hk).2,by simp⟩
  unfold zv at this;rw[lW hk]at this;exact this
 refine Ev.x N.LB rfl rfl ?_;by_cases h0:0<=z
 ·obtain ⟨k,rfl⟩:=Int.eq_ofNat_of_zero_le h0
  have hT:=two k (by omega);(repeat' ((first|(apply AH<;>intro hc<;>try omega)|apply EF|(apply BV;omega)|(apply DD;omega)|apply ET|refine TH rfl rfl ?_|apply AD)<;>conv=>whnf))
  generalize k%4294967296=lo at *;generalize k/4294967296=hi at *;(repeat' (refine AG (hT _ _) ?_<;>conv=>whnf))
  exact AU rfl (CW _)
 ·obtain ⟨k,hk⟩:=Int.eq_ofNat_of_zero_le (show 0 <= -(z+1) by omega)
  have oc:z = -((k+1:Nat):Int):=by omega
  have hT:=two (k+1) (by omega);(repeat' ((first|(apply AH<;>intro hc<;>try omega)|(apply A2;omega)|apply aW|(apply CQ.neg;omega)|(apply BV;omega)|apply AD)<;>conv=>whnf))
  rw[show IntKind.u64.wrap (-(z+1)+1)=((k+1:Nat):Int) by rw[IntWalk.u64_in _ (by omega)];omega];rw[oc];generalize k+1=k1 at *;(repeat' ((first|apply EF|(apply DD;omega)|apply ET|refine TH rfl rfl ?_)<;>conv=>whnf))
  generalize k1%4294967296=lo at *;generalize k1/4294967296=hi at *;(repeat' (refine AG (hT _ _) ?_<;>conv=>whnf))
  exact AU rfl (CW _)
theorem wF (N:a8 L) (n1 n2 q1 q2:Bool) (a b:List Nat) (ha:Sm 274877906944 a) (hb:Sm 274877906944 b):Ev L 120 [.agg (rZ q1 n1 a),.agg (rZ q2 n2 b)] (.agg (eZ ((Nat.gcd (val a) (val b):Nat):Int))):=by
 have h1:=λ q q'=>wA N a b q q' ha.1 hb.1 ha.2 hb.2
 refine Ev.x N.K8 rfl rfl ?_;(repeat' ((first|apply AD|refine AG (h1 _ _) ?_)<;>conv=>whnf))
 exact AU (DN (by omega) (FG (by omega))) (CW _)
theorem tW (n1 n2:Bool) (A B:Nat) (hB:B≠0):(bif n1 then -(A:Int) else (A:Int))/(bif n2 then -(B:Int) else (B:Int))=(bif n1 != n2 then -((if n1=true/\A%B≠0 then A/B+1 else A/B:Nat):Int) else ((if n1=true/\A%B≠0 then A/B+1 else A/B:Nat):Int)) /\
  (bif n1 then -(A:Int) else (A:Int))%(bif n2 then -(B:Int) else (B:Int))=((if n1=true/\A%B≠0 then B-A%B else A%B:Nat):Int):=by
 have Qu:(0:Int)<B:=by omega
 have key : ∀ x:Int,x/(bif n2 then -(B:Int) else (B:Int))=(bif n2 then -(x/B) else x/B)/\x%(bif n2 then -(B:Int) else (B:Int))=x%B:=λ x=>by
  cases n2
  ·exact ⟨rfl,rfl⟩
  ·exact ⟨Int.ediv_neg x B,Int.emod_neg x B⟩
 rw[(key _).1,(key _).2];cases n1
 ·have h1:((A:Int))/B=((A/B:Nat):Int):=by simp
  have h2:((A:Int))%B=((A%B:Nat):Int):=by simp
  simp only[cond_false,h1,h2];cases n2<;>simp
 ·have hd:=Nat.div_add_mod A B
  have k6:=Nat.mod_lt A (show B>0 by omega);by_cases h0:A%B=0
  ·have e : -(A:Int)=(B:Int)*(-((A/B:Nat):Int)):=by
    rw[h0,Nat.add_zero]at hd;rw[Int.mul_neg,<-Int.natCast_mul,hd]
   have h1 : -(A:Int)/B = -((A/B:Nat):Int):=by rw[e,Int.mul_ediv_cancel_left _ (by omega)]
   have h2 : -(A:Int)%B=0:=by rw[e,Int.mul_emod_right]
   simp only[cond_true,h1,h2,h0];cases n2<;>simp
  ·have e : -(A:Int)=(B:Int)*(-((A/B+1:Nat):Int))+((B-A%B:Nat):Int):=by
    have h3:(B:Int)*((A/B:Nat):Int)+((A%B:Nat):Int)=A:=by rw[<-Int.natCast_mul,<-Int.natCast_add,hd]
    rw[Int.mul_neg,Int.natCast_add,Int.mul_add];omega
   have h1 : -(A:Int)/B = -((A/B+1:Nat):Int):=by
    rw[e,Int.mul_add_ediv_left _ _ (by omega),Int.ediv_eq_zero_of_lt (by omega) (by omega),Int.add_zero]
   have h2 : -(A:Int)%B=((B-A%B:Nat):Int):=by
    rw[e,Int.mul_add_emod_self_left,Int.emod_eq_of_lt (by omega) (by omega)]
   simp only[cond_true,h1,h2];cases n2<;>simp [h0]
theorem fG (N:a8 L) (n1 n2 q1 q2:Bool) (a b:List Nat) (ha:Sm 274877906943 a) (hb:Sm 274877906943 b) (h0:zv n2 b≠0):Ev L 119 [.agg (rZ q1 n1 a),.agg (rZ q2 n2 b)] (.e7 [.agg (eZ (zv n1 a/zv n2 b)),.agg (eZ (zv n1 a%zv n2 b)),.int .i64 0]):=by
 have t1:=λ q=>H3 N n1 q a (ha.le (by omega))
 have t2:=λ q=>H3 N n2 q b (hb.le (by omega))
 have s1:Sm 274877906943 (dg (zv n1 a).natAbs):=by rw[D8];exact ha.od
 have s2:Sm 274877906943 (dg (zv n2 b).natAbs):=by rw[D8];exact hb.od
 generalize zv n1 a=x at *;generalize zv n2 b=y at *;have uv:=λ q q'=>fA N (dg x.natAbs) (dg y.natAbs) q q' s1.1 s2.1 (by have:=s1.2;omega) (by have:=s2.2;omega) (by rw[BF];omega)
 rw[BF,BF]at uv;obtain ⟨e1,e2⟩:=tW (decide (x<0)) (decide (y<0)) x.natAbs y.natAbs (by omega);have hx:(bif decide (x<0) then -(x.natAbs:Int) else (x.natAbs:Int))=x:=by have:=FK x;unfold zv at this;rw[BF]at this;exact this
 have hy:(bif decide (y<0) then -(y.natAbs:Int) else (y.natAbs:Int))=y:=by have:=FK y;unfold zv at this;rw[BF]at this;exact this
 rw[hx,hy]at e1 e2;rw[e1,e2];have l1:=s1.2;have l2:=s2.2;have hq:Sm 274877906943 (dg (x.natAbs/y.natAbs)):=s1.low (by rw[BF];exact Nat.div_le_self _ _);have hr:Sm 274877906943 (dg (x.natAbs%y.natAbs)):=s2.low (by rw[BF];exact Nat.le_of_lt (Nat.mod_lt _ (by omega)));have Rl:=GX (x.natAbs%y.natAbs);have dv:Ev L 103 [.sl false ((dg (x.natAbs/y.natAbs)).map AJ),.sl true [[.int .u32 1]]] (.sl false ((dg (x.natAbs/y.natAbs+1)).map AJ)):=by
  have:=eV N (dg (x.natAbs/y.natAbs)) [1] false true (C3 _) (F6 (by omega)) (by have:=hq.2;omega) (by simp)
  rw[BF,show val [1]=1 from rfl]at this;exact this
 have qw:Sm 274877906944 (dg (x.natAbs/y.natAbs+1)):=hq.add (b:=[1]) (ZN (by omega) (by omega)) (by rw[BF];simp [val]);have yz:=λ q q'=>XM N (dg y.natAbs) (dg (x.natAbs%y.natAbs)) q q' s2.1 hr.1 (by omega) (by have:=hr.2;omega)
 rw[BF,BF]at yz;have u1:=λ n q=>H3 N n q (dg (x.natAbs/y.natAbs)) (hq.le (by omega))
 have u2:=λ n q=>H3 N n q (dg (x.natAbs/y.natAbs+1)) qw
 have ez : ∀ n V,zv n (dg V)=bif n then -(V:Int) else (V:Int):=λ n V=>by unfold zv;rw[BF]
 have fin : ∀ (z:Int) (V:Nat),AL (.e7 [.agg (eZ z),.agg [.bool false,.sl false ((dg V).map AJ)],.int .i64 0]) (.e7 [.agg (eZ z),.agg (eZ (V:Int)),.int .i64 0]):=λ z V=>by
  have e3:AV.agg (eZ (V:Int)) = .agg [.bool false,.sl false ((dg V).map AJ)]:=(DN (by omega) (FG (by omega))).symm;rw[e3];refine AU rfl ?_;simp only[AZ,CG,and_true,true_and];exact ⟨CR _,CR _⟩
 clear e1 e2 hx hy;generalize x.natAbs/y.natAbs=qq at *;generalize x.natAbs%y.natAbs=rr at *;refine Ev.x N.K7 rfl rfl ?_;(repeat' ((first|(apply AH<;>intro hc<;>try omega)|apply AD|refine AG (t1 _) ?_|refine AG (t2 _) ?_|refine AG (uv _ _) ?_)<;>conv=>whnf))
 generalize decide (x<0)=p at *;generalize decide (y<0)=r at *;cases p
 ·rw[if_neg (by simp),if_neg (by simp),<-ez]
  cases r;all_goals
   (conv=>whnf)
   (repeat' (refine AG (u1 _ _) ?_<;>conv=>whnf))
   exact fin _ _
 ·by_cases ny:rr=0
  ·rw[if_neg (by simp [ny]),if_neg (by simp [ny]),<-ez]
   cases r;all_goals
    (conv=>whnf)
    (repeat' ((first|(apply AH<;>intro hc<;>try omega)|apply AQ|refine AG (u1 _ _) ?_)<;>conv=>whnf))
    exact fin _ _
  ·rw[if_pos ⟨rfl,ny⟩,if_pos ⟨rfl,ny⟩,<-ez]
   cases r;all_goals
    (conv=>whnf)
    (repeat' ((first|(apply AH<;>intro hc<;>try omega)|apply AQ|refine HY rfl ?_|refine AG (dv) ?_|refine AG (yz _ _) ?_|refine AG (u2 _ _) ?_)<;>conv=>whnf))
    exact fin _ _
theorem cY:dg 1=[1]:=by rw[H2 (by omega)];simp [DZ]
theorem bL:AV.agg [.bool false,.sl false [],.sl false [[.int .u32 1]]] = .agg (eQ 0):=by
 show _=AV.agg (rQ _ _ _ _ _);rw[Rat.zero_num,Rat.zero_den,cY,show (0:Int).natAbs=0 from rfl,DZ];rfl
theorem rW {x y:Int} (hy:y≠0):(Rat.divInt x y).num=(if y<0 then -(x/((Nat.gcd x.natAbs y.natAbs:Nat):Int)) else x/((Nat.gcd x.natAbs y.natAbs:Nat):Int))/\(Rat.divInt x y).den=(y/((Nat.gcd x.natAbs y.natAbs:Nat):Int)).natAbs:=by
 have h1:=Rat.num_divInt x y;have h2:=Rat.den_divInt x y;rw[if_neg hy]at h2;have hg:Int.gcd y x=Nat.gcd x.natAbs y.natAbs:=by rw[Int.gcd,Nat.gcd_comm]
 rw[hg]at h1 h2;have Cs:0<Nat.gcd x.natAbs y.natAbs:=Nat.gcd_pos_of_pos_right _ (by omega);have dx:((Nat.gcd x.natAbs y.natAbs:Nat):Int) ∣ x:=Int.ofNat_dvd_left.2 (Nat.gcd_dvd_left _ _);have dy:((Nat.gcd x.natAbs y.natAbs:Nat):Int) ∣ y:=Int.ofNat_dvd_left.2 (Nat.gcd_dvd_right _ _);generalize Nat.gcd x.natAbs y.natAbs=g at *;rw[h1,h2];obtain ⟨u,rfl⟩:=dx;obtain ⟨v,rfl⟩:=dy;have ti:(g:Int)≠0:=by omega
 refine ⟨?_,?_⟩
 ·rw[Int.mul_ediv_cancel_left _ ti]
  split
  ·rename_i h
   rw[Int.sign_eq_neg_one_of_neg h,show -1*((g:Int)*u)=g*(-u) by rw[Int.mul_neg];omega,Int.mul_ediv_cancel_left _ ti]
  ·rw[Int.sign_eq_one_of_pos (by omega),Int.one_mul,Int.mul_ediv_cancel_left _ ti]
 ·rw[Int.mul_ediv_cancel_left _ ti,Int.natAbs_mul,Int.natAbs_natCast,Nat.mul_div_cancel_left _ Cs]
theorem XQ (N:a8 L) (n1 n2 q1 q2:Bool) (a b:List Nat) (ha:Sm 274877906943 a) (hb:Sm 274877906943 b):Ev L 121 [.agg (rZ q1 n1 a),.agg (rZ q2 n2 b)] (.agg (eQ (Rat.divInt (zv n1 a) (zv n2 b)))):=by
 have t1:=λ q=>XN N n1 q a (ha.le (by omega))
 have t2:=λ q=>XN N n2 q b (hb.le (by omega))
 by_cases h1:zv n1 a=0
 ·rw[h1,Rat.zero_divInt,<-bL]
  rw[h1,<-VI rfl]at t1;refine Ev.x N.HC rfl rfl ?_;(repeat' ((first|(apply AH<;>intro hc<;>try omega)|refine HY rfl ?_|apply AD|refine AG (t1 _) ?_)<;>conv=>whnf))
  exact AU rfl (TU false [] [1])
 have s1:v5 (zv n1 a)≠0:=by unfold v5;split<;>(try split)<;>omega
 by_cases h2:zv n2 b=0
 ·rw[h2,Rat.divInt_zero,<-bL]
  rw[h2,<-VI rfl]at t2;generalize v5 (zv n1 a)=sg at *;refine Ev.x N.HC rfl rfl ?_;(repeat' ((first|(apply AH<;>intro hc<;>try omega)|refine HY rfl ?_|apply AD|refine AG (t1 _) ?_|refine AG (t2 _) ?_)<;>conv=>whnf))
  exact AU rfl (TU false [] [1])
 have s2:v5 (zv n2 b)≠0:=by unfold v5;split<;>(try split)<;>omega
 obtain ⟨p1,p2⟩:=rW (x:=zv n1 a) h2;have hG:=λ q q'=>wF N n1 n2 q q' a b (ha.le (by omega)) (hb.le (by omega))
 have hle:Nat.gcd (val a) (val b)<=val b:=Nat.gcd_le_right _ (by have:=D8 n2 b;omega);have Cs:0<Nat.gcd (val a) (val b):=Nat.gcd_pos_of_pos_right _ (by have:=D8 n2 b;omega);have sg:Sm 274877906943 (dg (Nat.gcd (val a) (val b))):=hb.low hle;rw[D8,D8]at p1 p2;have Rb:decide (((Nat.gcd (val a) (val b):Nat):Int)<0)=false:=by simp
 have Hx:Sm 274877906943 (dg (((Nat.gcd (val a) (val b):Nat):Int)).natAbs):=by rw[Int.natAbs_natCast];exact sg
 have zg:zv (decide (((Nat.gcd (val a) (val b):Nat):Int)<0)) (dg (((Nat.gcd (val a) (val b):Nat):Int)).natAbs)=((Nat.gcd (val a) (val b):Nat):Int):=FK _;have wu:=λ q q'=>fG N n1 _ q q' a _ ha Hx (by rw[zg];omega)
 have jx:=λ q q'=>fG N n2 _ q q' b _ hb Hx (by rw[zg];omega)
 rw[zg]at wu jx;have yg:Sm 274877906943 (dg (zv n1 a/((Nat.gcd (val a) (val b):Nat):Int)).natAbs):=ha.low (by
  have:(zv n1 a/((Nat.gcd (val a) (val b):Nat):Int)).natAbs<=(zv n1 a).natAbs:=Int.natAbs_ediv_le_natAbs _ _
  rw[D8]at this;exact this)
 have ti:0<((Nat.gcd (val a) (val b):Nat):Int):=by omega
 generalize ((Nat.gcd (val a) (val b):Nat):Int)=g at *;generalize zv n1 a=x at *;generalize zv n2 b=y at *;generalize v5 x=sx at *;generalize v5 y=sy at *;have hN:=λ q=>fH N (decide (x/g<0)) q (dg (x/g).natAbs) (yg.le (by omega))
 rw[FK]at hN;have Av:decide (y/g<0)=decide (y<0):=by
  congr 1;rw[eq_iff_iff,Int.ediv_lt_iff_lt_mul (by omega),Int.zero_mul]
 refine Ev.x N.HC rfl rfl ?_;(repeat' ((first|(apply AH<;>intro hc<;>try omega)|apply AD|refine AG (t1 _) ?_|refine AG (t2 _) ?_|refine AG (hG _ _) ?_|refine AG (wu _ _) ?_|refine AG (jx _ _) ?_)<;>conv=>whnf))
 cases Hc:decide (y/g<0)
 ·rw[Hc]at Av
  rw[if_neg (of_decide_eq_false Av.symm)]at p1;(conv=>whnf)
  skip
  refine AU ?_ (EM _);show _=AV.agg (rQ _ _ _ _ _);rw[p1,p2]
 ·rw[Hc]at Av
  rw[if_pos (of_decide_eq_true Av.symm)]at p1;(conv=>whnf)
  (repeat' (refine AG (hN _) ?_<;>conv=>whnf))
  refine AU ?_ (EM _);show _=AV.agg (rQ _ _ _ _ _);rw[p1,p2]
theorem rX {z:Int} {d:List Nat}:Rat.divInt z (zv false d)=mkRat z (val d):=by rw[EE,Rat.divInt_ofNat]
def oJ (n:Bool) (m d:List Nat) (n':Bool) (m' d':List Nat) (k:Nat):Prop:=Sm k m'/\Sm k d'/\val d'≠0/\qv n m d=mkRat (zv n' m') (val d')
theorem cG (n:Bool) (m d:List Nat):AZ (.e7 [.agg (rZ false n m),.agg (rZ false false d)]):=by
 simp only[AZ,CG,and_true,true_and];exact ⟨CR _,CR _⟩
theorem OS (N:a8 L) (n q:Bool) (m d:List Nat) (k:Nat) (hk:1<=k/\k<=274877906943) (hm:Sm k m) (hd:Sm k d) : ∃ n' m' d',Ev L 122 [.agg (rQ false q n m d)] (.e7 [.agg (rZ false n' m'),.agg (rZ false false d')])/\oJ n m d n' m' d' k:=by
 have t1:=λ q=>FE N d q hd.1 (by have:=hd.2;omega)
 have hl:=GX (val d);by_cases h0:val d=0
 ·refine ⟨false,[],[1],?_,kO _,ZN hk.1 (by omega),by decide,by unfold qv;rw[h0,Rat.mkRat_zero,mG,Rat.zero_mkRat]⟩
  refine Ev.x N.H9 rfl rfl ?_;(repeat' ((first|(apply AH<;>intro hc<;>try omega)|apply AQ|refine HY rfl ?_|apply AD|refine AG (t1 _) ?_)<;>conv=>whnf))
  exact AU rfl (cG false [] [1])
 ·refine ⟨n,m,dg (val d),?_,hm,hd.od,by rw[BF];exact h0,by rw[BF];rfl⟩
  refine Ev.x N.H9 rfl rfl ?_;(repeat' ((first|(apply AH<;>intro hc<;>try omega)|apply AQ|apply AD|refine AG (t1 _) ?_)<;>conv=>whnf))
  exact AU rfl (cG _ _ _)
theorem wK (N:a8 L) (n q:Bool) (m d:List Nat) (hm:Sm 274877906943 m) (hd:Sm 274877906943 d) {q0:Bool}:Ev L 123 [.agg (rQ q0 q n m d)] (.agg (eQ (qv n m d))):=by
 obtain ⟨n',m',d',hp,s1,s2,s3,s4⟩:=OS N n false m d 274877906943 (by omega) hm hd;have hr:=λ q q'=>XQ N n' false q q' m' d' s1 s2
 rw[rX,<-s4]at hr;refine Ev.x N.LJ rfl rfl ?_;(repeat' ((first|apply S8|apply AD|refine AG (hp) ?_|refine AG (hr _ _) ?_)<;>conv=>whnf))
 exact AU rfl (EM _)
theorem pY (z:Int):AV.agg [.bool (decide (z<0)),.sl false ((dg z.natAbs).map AJ),.sl false [[.int .u32 1]]] = .agg (eQ (z:Rat)):=by
 show _=AV.agg (rQ _ _ _ _ _);rw[Rat.num_intCast,Rat.den_intCast,cY];rfl
theorem XP (N:a8 L) (z:Int) (hz : -9223372036854775808<=z/\z<=9223372036854775807):Ev L 124 [.int .i64 z] (.agg (eQ (z:Rat))):=by
 have h1:=wG N z hz;refine Ev.x N.LI rfl rfl ?_;(repeat' ((first|refine HY rfl ?_|apply AD|refine AG (h1) ?_)<;>conv=>whnf))
 exact AU (pY z) (EM _)
theorem PF {k l:Nat} {n1 n2:Bool} {a b:List Nat} (ha:Sm k a) (hb:Sm l b):Sm (k+l) (dg (zv n1 a*zv n2 b).natAbs):=ha.mul hb (by rw[Int.natAbs_mul,D8,D8])
theorem Ik {k:Nat} {x y:Int} (ha:Sm k (dg x.natAbs)) (hb:Sm k (dg y.natAbs)):Sm (k+1) (dg (x+y).natAbs):=ha.add hb (by rw[BF,BF];omega)
theorem wI (N:a8 L) (k:Nat) (hk:1<=k/\k<=68719476736) (n1 n2 q2 q4:Bool) (m1 d1 m2 d2:List Nat) (iw:Sm k m1) (kx:Sm k d1) (ep:Sm k m2) (ox:Sm k d2) {q1 q3:Bool} :
  Ev L 126 [.agg (rQ q1 q2 n1 m1 d1),.agg (rQ q3 q4 n2 m2 d2)] (.agg (eQ (qv n1 m1 d1+qv n2 m2 d2))):=by
 obtain ⟨a1,a2,a3,cn,s1,s2,s3,s5⟩:=OS N n1 false m1 d1 k (by omega) iw kx;obtain ⟨b1,b2,b3,cb,t1,t2,t3,t5⟩:=OS N n2 false m2 d2 k (by omega) ep ox;have l1:=s1.2;have l2:=s2.2;have l3:=t1.2;have l4:=t2.2;rw[s5,t5,UQ s3 t3,<-EE b3,<-EE a3];have ef:=λ q q'=>OT N a1 false q q' a2 b3 s1.1 t2.1 (by omega)
 have me:=λ q q'=>OT N b1 false q q' b2 a3 t1.1 s2.1 (by omega)
 have jy:=λ q q'=>OT N false false q q' a3 b3 s2.1 t2.1 (by omega)
 have g1:Sm (k+k) (dg (zv a1 a2*zv false b3).natAbs):=PF s1 t2;have g2:Sm (k+k) (dg (zv b1 b2*zv false a3).natAbs):=PF t1 s2;have g3:=Ik g1 g2;have g4:Sm (k+k) (dg (zv false a3*zv false b3).natAbs):=PF s2 t2;have hA:=λ q q'=>fE N (decide (zv a1 a2*zv false b3<0)) (decide (zv b1 b2*zv false a3<0)) q q' _ _ (g1.le (by omega)) (g2.le (by omega))
 rw[FK,FK]at hA;have hR:=λ q q'=>XQ N (decide (zv a1 a2*zv false b3+zv b1 b2*zv false a3<0)) (decide (zv false a3*zv false b3<0)) q q' _ _ (g3.le (by omega)) (g4.le (by omega))
 rw[FK,FK,show zv false a3*zv false b3=((val a3*val b3:Nat):Int) by rw[EE,EE];simp,Rat.divInt_ofNat]at hR;rw[show zv false a3*zv false b3=((val a3*val b3:Nat):Int) by rw[EE,EE];simp]at jy;refine Ev.x N.LF rfl rfl ?_;(repeat' ((first|apply S8|apply AD|refine AG (cn) ?_|refine AG (cb) ?_|refine AG (ef _ _) ?_|refine AG (me _ _) ?_|refine AG (hA _ _) ?_|refine AG (jy _ _) ?_|refine AG (hR _ _) ?_)<;>conv=>whnf))
 exact AU rfl (EM _)
theorem fI (N:a8 L) (k:Nat) (hk:1<=k/\k<=68719476736) (n1 n2 q2 q4:Bool) (m1 d1 m2 d2:List Nat) (iw:Sm k m1) (kx:Sm k d1) (ep:Sm k m2) (ox:Sm k d2) {q1 q3:Bool} :
  Ev L 128 [.agg (rQ q1 q2 n1 m1 d1),.agg (rQ q3 q4 n2 m2 d2)] (.agg (eQ (qv n1 m1 d1*qv n2 m2 d2))):=by
 obtain ⟨a1,a2,a3,cn,s1,s2,s3,s5⟩:=OS N n1 false m1 d1 k (by omega) iw kx;obtain ⟨b1,b2,b3,cb,t1,t2,t3,t5⟩:=OS N n2 false m2 d2 k (by omega) ep ox;have l1:=s1.2;have l2:=s2.2;have l3:=t1.2;have l4:=t2.2;rw[s5,t5,iU];have ef:=λ q q'=>OT N a1 b1 q q' a2 b2 s1.1 t1.1 (by omega)
 have jy:=λ q q'=>OT N false false q q' a3 b3 s2.1 t2.1 (by omega)
 have g1:Sm (k+k) (dg (zv a1 a2*zv b1 b2).natAbs):=PF s1 t1;have g4:Sm (k+k) (dg (zv false a3*zv false b3).natAbs):=PF s2 t2;have hR:=λ q q'=>XQ N (decide (zv a1 a2*zv b1 b2<0)) (decide (zv false a3*zv false b3<0)) q q' _ _ (g1.le (by omega)) (g4.le (by omega))
 rw[FK,FK,show zv false a3*zv false b3=((val a3*val b3:Nat):Int) by rw[EE,EE];simp,Rat.divInt_ofNat]at hR;rw[show zv false a3*zv false b3=((val a3*val b3:Nat):Int) by rw[EE,EE];simp]at jy;refine Ev.x N.LH rfl rfl ?_;(repeat' ((first|apply S8|apply AD|refine AG (cn) ?_|refine AG (cb) ?_|refine AG (ef _ _) ?_|refine AG (jy _ _) ?_|refine AG (hR _ _) ?_)<;>conv=>whnf))
 exact AU rfl (EM _)
theorem zW {a b:Int} {d e:Nat} (hd:d≠0) (he:e≠0):v5 (a*e-b*d)=v5 (mkRat a d-mkRat b e).num:=by
 have h:mkRat a d-mkRat b e=mkRat (a*e-b*d) (d*e):=by
  rw[Rat.sub_eq_add_neg,Rat.neg_mkRat,UQ hd he,Int.neg_mul,<-Int.sub_eq_add_neg]
 rw[h,iW (Nat.mul_ne_zero hd he)]
theorem wJ (N:a8 L) (k:Nat) (hk:1<=k/\k<=68719476736) (n1 n2 q2 q4:Bool) (m1 d1 m2 d2:List Nat) (iw:Sm k m1) (kx:Sm k d1) (ep:Sm k m2) (ox:Sm k d2) {q1 q3:Bool} :
  Ev L 127 [.agg (rQ q1 q2 n1 m1 d1),.agg (rQ q3 q4 n2 m2 d2)] (.int .i64 (v5 (qv n1 m1 d1-qv n2 m2 d2).num)):=by
 obtain ⟨a1,a2,a3,cn,s1,s2,s3,s5⟩:=OS N n1 false m1 d1 k (by omega) iw kx;obtain ⟨b1,b2,b3,cb,t1,t2,t3,t5⟩:=OS N n2 false m2 d2 k (by omega) ep ox;have l1:=s1.2;have l2:=s2.2;have l3:=t1.2;have l4:=t2.2;rw[s5,t5,<-zW s3 t3,<-EE b3,<-EE a3];have ef:=λ q q'=>OT N a1 false q q' a2 b3 s1.1 t2.1 (by omega)
 have me:=λ q q'=>OT N b1 false q q' b2 a3 t1.1 s2.1 (by omega)
 have g1:Sm (k+k) (dg (zv a1 a2*zv false b3).natAbs):=PF s1 t2;have g2:Sm (k+k) (dg (zv b1 b2*zv false a3).natAbs):=PF t1 s2;have hC:=λ q q'=>wE N (decide (zv a1 a2*zv false b3<0)) (decide (zv b1 b2*zv false a3<0)) q q' _ _ (g1.le (by omega)) (g2.le (by omega))
 rw[FK,FK]at hC;refine Ev.x N.LG rfl rfl ?_;(repeat' ((first|apply S8|apply AD|refine AG (cn) ?_|refine AG (cb) ?_|refine AG (ef _ _) ?_|refine AG (me _ _) ?_|refine AG (hC _ _) ?_)<;>conv=>whnf))
 exact B9 rfl
theorem Bt.gn {k:Nat} {x:Rat} (h:Bt k x) (hk:k<2199023255552):Sm 68719476736 (dg x.num.natAbs)/\Sm 68719476736 (dg x.den):=h.Fh (by omega)
theorem XC (N:a8 L) {x y:Rat} {k l:Nat} (hx:Bt k x) (hy:Bt l y) (hk:k<2199023255552) (hl:l<2199023255552):Ev L 126 [.agg (eQ x),.agg (eQ y)] (.agg (eQ (x+y))):=by
 have:=wI (q1:=false) (q3:=false) N 68719476736 (by omega) (decide (x.num<0)) (decide (y.num<0)) false false _ _ _ _ (hx.gn hk).1 (hx.gn hk).2 (hy.gn hl).1 (hy.gn hl).2
 rw[G8,G8]at this;exact this
theorem wN (N:a8 L) {x:Rat} {k:Nat} (hx:Bt k x) (hk:k<2199023255552):Ev L 123 [.agg (eQ x)] (.agg (eQ x)):=by
 have:=wK (q0:=false) N (decide (x.num<0)) false _ _ ((hx.gn hk).1.le (by omega)) ((hx.gn hk).2.le (by omega))
 rw[G8]at this;exact this
theorem uV (N:a8 L) {x y:Rat} {k l:Nat} (hx:Bt k x) (hy:Bt l y) (hk:k<2199023255552) (hl:l<2199023255552):Ev L 127 [.agg (eQ x),.agg (eQ y)] (.int .i64 (v5 (x-y).num)):=by
 have:=wJ (q1:=false) (q3:=false) N 68719476736 (by omega) (decide (x.num<0)) (decide (y.num<0)) false false _ _ _ _ (hx.gn hk).1 (hx.gn hk).2 (hy.gn hl).1 (hy.gn hl).2
 rw[G8,G8]at this;exact this
theorem Ic {x y:Rat}:v5 (x-y).num=0↔x=y:=by
 have h:v5 (x-y).num=0↔(x-y).num=0:=by unfold v5;split<;>(try split)<;>omega
 rw[h,Rat.num_eq_zero];constructor
 ·intro h;grind
 ·rintro rfl;exact Rat.sub_self
theorem eF (N:a8 L) (a b:List Rat) (q1 q2:Bool) (k:Nat) (ha:Bs k a) (hb:Bs k b) (hk:k<2199023255552) (hl:a.length<=1099511627776):Ev L 129 [.sl q1 (a.map eQ),.sl q2 (b.map eQ)] (.bool (decide (a=b))):=by
 refine Ev.x N.LK rfl rfl ?_;by_cases hlen:a.length=b.length
 ·(repeat' ((first|(apply AH<;>intro hc<;>try omega)|apply AQ|apply AD)<;>conv=>whnf))
  refine DL (λ i=>a.length-i) (λ(i:Nat)=>i<=a.length/\a.take i=b.take i) (λ i=>[(5,.int .i64 i)]) (λ_=>[]) 0 ⟨by omega,rfl⟩ ?_;intro i ⟨p1,p2⟩ ih;by_cases hi:i<a.length
  ·obtain ⟨x,hx⟩ : ∃ x,a[i]? = some x:=⟨_,zE hi⟩
   obtain ⟨y,hy⟩ : ∃ y,b[i]? = some y:=⟨_,zE (by omega)⟩;have js:a[(i:Int).toNat]? = some x:=hx;have rk:b[(i:Int).toNat]? = some y:=hy;have Fj:=uV N (ha.at hx) (hb.at hy) hk hk;have hs:=Ic (x:=x) (y:=y);generalize v5 (x-y).num=sg at *;by_cases gk:x=y
   ·have h0:sg=0:=hs.2 gk
    (repeat' ((first|(apply AH<;>intro hc<;>try omega)|(apply A2;omega)|apply AQ|(refine BH (by assumption) ?_ rfl ?_;omega)|apply AD|refine AG (Fj) ?_)<;>conv=>whnf))
    refine BJ [] (by (conv=>whnf);exact ⟨rfl,rfl,rfl⟩) (ih (i+1) (by omega) ⟨by omega,?_⟩);rw[List.take_add_one,List.take_add_one,p2,hx,hy,gk]
   ·have k7:sg≠0:=λ h=>gk (hs.1 h)
    (repeat' ((first|(apply AH<;>intro hc<;>try omega)|apply AQ|(refine BH (by assumption) ?_ rfl ?_;omega)|apply AD|refine AG (Fj) ?_)<;>conv=>whnf))
    refine N3 (λ h=>gk ?_);rw[h,hy]at hx;exact (Option.some.inj hx).symm
  ·obtain rfl:i=a.length:=by omega
   clear ih;(repeat' ((first|(apply AH<;>intro hc<;>try omega)|apply AQ|apply AD)<;>conv=>whnf))
   refine Q3 ?_;rw[zT (Nat.le_refl _),zT (by omega)]at p2;exact p2
 ·(repeat' ((first|(apply AH<;>intro hc<;>try omega)|apply AQ|apply AD)<;>conv=>whnf))
  exact N3 (λ h=>hlen (by rw[h]))
theorem fO (N:e5 L) (n:Nat) (j:Int) (hn:n<=65536):Ev L 135 [.int .i64 (n:Int),.int .i64 j] (.sl false ((EQ n j).map eQ)):=by
 have hO:=XP N.toa8 0 (by omega);have hI:=XP N.toa8 1 (by omega);refine Ev.x N.LN rfl rfl ?_;(repeat' (apply AD<;>conv=>whnf))
 refine DL (λ i=>n-i) (λ(i:Nat)=>i<=n) (λ i=>[(6,.int .i64 i),(5,.row 5 0 3 0 i)]) (λ i=>[(5,5,.rw 3 ((EQ i j).map eQ))]) 0 (by omega) ?_;intro i p1 ih;have hlen:=lR i j;by_cases hi:i<n
 ·have jq:=Kj i j
  by_cases hj:(i:Int)=j
  ·rw[if_pos hj]at jq
   (repeat' ((first|(apply AH<;>intro hc<;>try omega)|apply EW|apply AD|refine AG (hI) ?_)<;>conv=>whnf))
   refine ER (enc:=eQ) ((1:Int):Rat) rfl hlen.symm rfl (by omega) (by omega) ?_;(conv=>whnf)
   (repeat' ((first|(apply A2;omega)|fail)<;>conv=>whnf))
   rw[show (EQ i j++[((1:Int):Rat)]).length=i+1 by simp [hlen],show EQ i j++[((1:Int):Rat)]=EQ (i+1) j from jq.symm];exact B2 [(5,18)] (ih (i+1) (by omega) (by omega))
  ·rw[if_neg hj]at jq
   (repeat' ((first|(apply AH<;>intro hc<;>try omega)|apply EW|apply AD|refine AG (hO) ?_)<;>conv=>whnf))
   refine ER (enc:=eQ) ((0:Int):Rat) rfl hlen.symm rfl (by omega) (by omega) ?_;(conv=>whnf)
   (repeat' ((first|(apply A2;omega)|fail)<;>conv=>whnf))
   rw[show (EQ i j++[((0:Int):Rat)]).length=i+1 by simp [hlen],show EQ i j++[((0:Int):Rat)]=EQ (i+1) j from jq.symm];exact B2 [(5,22)] (ih (i+1) (by omega) (by omega))
 ·obtain rfl:i=n:=by omega
  clear ih;(repeat' ((first|(apply AH<;>intro hc<;>try omega)|apply AD)<;>conv=>whnf))
  refine C8 (enc:=eQ) (λ_=>rfl) rfl hlen.symm ?_;(conv=>whnf)
  exact AU rfl (by simp only[AZ,true_and];exact I4 _)
end Go.c8

namespace Go.c8
open F
attribute [local irreducible] AA AF AX AB CQ AY BB A9 BS BR CX D9 BT A1 BP CK AC A5 AL pw C7 CE DM DF DP DU DY BQ DE
set_option maxHeartbeats 4000000
variable {L:Lib}
abbrev W7 (v:List Nat) (j m s xl:Nat):Tm:=[(102,AV.sl false (List.map AJ v)),(101,AV.row 71012 0 1 j (v.length+1)),
           (100,AV.int IntKind.i64 (↑j + ↑v.length+1)),(99,AV.int IntKind.i64 (↑j + ↑v.length)),
           (98,AV.int IntKind.i64 ↑v.length),(97,AV.int IntKind.i64 ↑j),(96,AV.int IntKind.i64 ↑j),
           (95,AV.row 71012 0 1 0 (xl+1)),(94,AV.int IntKind.i64 ↑j),(93,AV.row 28 0 1 0 m),
           (90,AV.bool true),(14,AV.int IntKind.i64 ↑j),(13,AV.sl false (List.map AJ v)),
           (12,AV.row 71012 0 1 0 (xl+1)),(11,AV.int IntKind.u64 ↑s),(7,AV.row 28 0 1 0 m),
           (6,AV.int IntKind.i64 ↑v.length)]
abbrev tU:List It:=[It.lp E0.l2,It.c7 2,It.code
      (((A8.ops E0.bu false).dr [9,10,84,85,86,87,118,119,120,121,122,123,124,125,126]
         []).seq
       (((A8.ops E0.fc false).dr [127,128,129,130,131] []).seq
        ((((A8.ops E0.fr false).dr [15,132,133] []).seq
           (A8.cond 134
            (((A8.ops E0.ij false).dr [0,1,5,7,134,135,136] []).seq A8.ret)
            A8.skip)).seq
         (((A8.ops E0.ik false).dr [134] []).seq
          ((((A8.ops E0.jv false).dr [1] []).seq (A8.block 4 E0.l3.loop)).seq
           (((A8.ops E0.vu false).dr
              [0,5,9,137,138,139,140,162,163,164,165,166,167,168,169] []).seq
            (((A8.ops E0.vy false).dr [7,170,171,172] []).seq A8.ret)))))))]
section
variable {A W C w v:List Nat} {j m s xl q:Nat} {K:AV->Mem->Prop}
theorem W3 (hA:A.length=j) (hW:W.length=v.length+1) (D2:AR W) (aq:AR v) (bl:2<=v.length) (nj:v.length<=549755813888) (s8:0<val v)
  (r1:q<4294967296) (r2:val W/val v<=q) (r3:q<=val W/val v+1)
  (hk : ∀ (W':List Nat) (o':List (List AV)) (q':Nat),W'.length=v.length+1->AR W'->val W'=val W%val v->q'=val W/val v->K (.int .u32 (q':Int)) [(71012,71012,.rw 1 ((A++W'++C).map AJ)),(28,28,.rw 1 (w.map AJ)),(71012,71012,.rw 1 o')])
  (ke : ∀ (W':List Nat) (o':List (List AV)) (q':Nat),W'.length=v.length+1->AR W'->val W'=val W%val v->q'=val W/val v->K (.int .u32 (q':Int)) [(71012,71012,.rw 1 ((A++W'++C).map AJ)),(71012,71012,.rw 1 o'),(28,28,.rw 1 (w.map AJ))]) :
  AA L tU ([(86,.int .i64 0),(85,.int .i64 v.length),(84,.sl false (v.map AJ)),(10,.int .u64 0),(9,.int .u64 0),(7,.int .u64 (q:Int)),(5,.int .i64 v.length),(0,AV.row 71012 0 1 j (v.length+1)),(1,AV.sl false (List.map AJ v))]++FH 1000 (W7 v j m s xl))
   [(71012,71012,A4.rw 1 (List.map AJ (A++W++C))),(28,28,A4.rw 1 (List.map AJ w))] (aZ 1000 E0 (W7 v j m s xl) K):=by
 refine S3 (λ i _ _ _=>v.length-i) (λ(i:Nat) (Z:List Nat) (c b:Nat)=>i<=v.length/\Z.length=v.length+1/\AR Z/\c<4294967296/\b<=1/\Z.drop i=W.drop i/\val (Z.take i)+q*val (v.take i)=val (W.take i)+4294967296^i*(c+b)) (λ i Z c b=>[(86,.int .i64 i),(10,.int .u64 (b:Int)),(9,.int .u64 (c:Int))]) (λ i Z c b=>[(71012,71012,.rw 1 ((A++Z++C).map AJ))]) [] [] 0 W 0 0 (by (conv=>whnf);exact ⟨rfl,rfl,rfl⟩) ⟨by omega,hW,D2,by omega,by omega,rfl,by simp [val]⟩ ?_;intro i Z c b ⟨p1,p2,p3,p4,p5,p6,p7⟩ ih;by_cases hi:i<v.length
 ·obtain ⟨d,hd⟩ : ∃ d,v[i]? = some d:=⟨_,zE hi⟩
  obtain ⟨u,hu⟩ : ∃ u,Z[i]? = some u:=⟨_,zE (by omega)⟩;have x5:=aq.at hd;have km:=p3.at hu;obtain ⟨pr,lh⟩ : ∃ pr,pr=q*d+c:=⟨_,rfl⟩;obtain ⟨m1,m2,m3⟩:=iZ r1 x5 p4 lh;have oo:W[i]? = some u:=by
   have e1:(Z.drop i)[0]? = (W.drop i)[0]? := by rw[p6]
   simpa [hu] using e1.symm
  (repeat' ((first|(apply AH<;>intro hc<;>try omega)|(apply BA;omega)|(apply E5;omega)|(apply MG;omega)|apply EF|(apply BV;omega)|(refine BH (by assumption) ?_ rfl ?_;omega)|apply AD)<;>conv=>whnf))
  rw[<-lh];refine M9 i hu (by omega) ?_;(conv=>whnf)
  (repeat' ((first|(apply BA;omega)|(apply TE;omega)|(apply BV;omega)|apply ET)<;>conv=>whnf))
  obtain ⟨s1,s2⟩:=VR km (show pr%4294967296<4294967296 by omega) p5;have g8:=Jk p7 lh rfl km p5;generalize DI (DI u (pr%4294967296)) b=t at *;refine LW i (by omega) (by omega) ?_;(conv=>whnf)
  (repeat' ((first|(apply A2;omega)|apply TD)<;>conv=>whnf))
  refine BJ [] (by (conv=>whnf);exact ⟨rfl,rfl,rfl⟩) (ih (i+1) _ _ _ (by omega) ⟨by omega,by simpa using p2,p3.set _ (by omega),m1,s2,?_,?_⟩)
  ·rw[List.drop_set_of_lt (by omega)]
   have e1:(Z.drop i).drop 1=(W.drop i).drop 1:=by rw[p6]
   simpa using e1
  ·rw[E3 (by omega),C5 hd,C5 oo,Nat.pow_succ]
   exact g8
 ·obtain rfl:i=v.length:=by omega
  clear ih;obtain ⟨u,hu⟩ : ∃ u,Z[v.length]? = some u:=⟨_,zE (by omega)⟩;have km:=p3.at hu;have oo:W[v.length]? = some u:=by
   have e1:(Z.drop v.length)[0]? = (W.drop v.length)[0]? := by rw[p6]
   simpa [hu] using e1.symm
  rw[CJ (Nat.le_refl v.length)]at p7;obtain ⟨s1,s2⟩:=VR km p4 p5;have g8:=Ji p7 rfl km p4 p5;have eW:val W=val (W.take v.length)+4294967296^v.length*u:=by
   rw[<-C5 oo,CJ (by omega)]
  rw[<-eW,<-E3 (show v.length<Z.length by omega),CJ (by simp;omega)]at g8;(repeat' ((first|(apply AH<;>intro hc<;>try omega)|(apply BA;omega)|apply AD)<;>conv=>whnf))
  refine M9 v.length hu (by omega) ?_;(conv=>whnf)
  (repeat' ((first|(apply BA;omega)|(apply TE;omega)|(apply BV;omega)|apply ET)<;>conv=>whnf))
  generalize DI (DI u c) b=t at *;refine LW v.length (by omega) (by omega) ?_;(conv=>whnf)
  (repeat' ((first|(apply AH<;>intro hc<;>try omega)|apply TD|(apply DD;omega)|apply AQ)<;>conv=>whnf))
  ·have Pj:t/9223372036854775808=0:=by omega
   rw[Pj,Nat.mul_zero,Nat.add_zero]at g8;obtain ⟨y1,y2⟩:=dB s8 r2 g8;exact ⟨rfl,_,rfl,hk _ _ _ (by simpa using p2) (p3.set _ (by omega)) y2 y1⟩
  ·have Gw:t/9223372036854775808=1:=by omega
   rw[Gw,Nat.mul_one]at g8;have xa:AR (Z.set v.length (t%4294967296)):=p3.set _ (by omega);have uy:(Z.set v.length (t%4294967296)).length=v.length+1:=by simpa using p2
   clear p7 p6 p4 p5 s1 s2 eW Gw hu oo km p1 p2 p3;generalize Z.set v.length (t%4294967296)=X at *;have uw:=DX xa;rw[uy,Nat.pow_succ]at uw;obtain ⟨y1,y2,y3⟩:=dA s8 r3 uw g8;have Mq:val W%val v<val v:=Nat.mod_lt _ s8;have se:=DX aq;obtain ⟨xw,iy⟩ : ∃ xw,X[v.length]? = some xw:=⟨_,zE (by omega)⟩;have eX:val X=val (X.take v.length)+4294967296^v.length*xw:=by
    rw[<-C5 iy,CJ (by omega)]
   refine E9 (λ i _ _=>v.length-i) (λ(i:Nat) (Z:List Nat) (c:Nat)=>i<=v.length/\Z.length=v.length+1/\AR Z/\c<=1/\Z.drop i=X.drop i/\val (Z.take i)+4294967296^i*c=val (X.take i)+val (v.take i)) (λ i Z c=>[(139,.int .i64 i),(9,.int .u64 (c:Int))]) (λ i Z c=>[(71012,71012,.rw 1 ((A++Z++C).map AJ))]) 0 X 0 ⟨by omega,uy,xa,by omega,rfl,by simp [val]⟩ ?_;intro i Z c ⟨p1,p2,p3,p4,p6,p7⟩ ih;by_cases hi:i<v.length
   ·obtain ⟨d,hd⟩ : ∃ d,v[i]? = some d:=⟨_,zE hi⟩
    obtain ⟨u,hu⟩ : ∃ u,Z[i]? = some u:=⟨_,zE (by omega)⟩;have x5:=aq.at hd;have km:=p3.at hu;have fm:X[i]? = some u:=by
     have e1:(Z.drop i)[0]? = (X.drop i)[0]? := by rw[p6]
     simpa [hu] using e1.symm
    have xd:=bH (d:=d) (w:=u) p7 rfl;(repeat' ((first|(apply AH<;>intro hc<;>try omega)|(apply BA;omega)|(refine BH (by assumption) ?_ rfl ?_;omega)|apply AD)<;>conv=>whnf))
    refine M9 i hu (by omega) ?_;(conv=>whnf)
    (repeat' ((first|(apply BA;omega)|(apply E5;omega)|(apply BV;omega)|apply ET)<;>conv=>whnf))
    generalize Pk:u+d+c=t2 at *;refine LW i (by omega) (by omega) ?_;(conv=>whnf)
    (repeat' ((first|(apply A2;omega)|apply EF)<;>conv=>whnf))
    refine BJ [] (by (conv=>whnf);exact ⟨rfl,rfl,rfl⟩) (ih (i+1) _ _ (by omega) ⟨by omega,by simpa using p2,p3.set _ (by omega),by omega,?_,?_⟩)
    ·rw[List.drop_set_of_lt (by omega)]
     have e1:(Z.drop i).drop 1=(X.drop i).drop 1:=by rw[p6]
     simpa using e1
    ·rw[E3 (by omega),C5 hd,C5 fm,Nat.pow_succ]
     exact xd
   ·obtain rfl:i=v.length:=by omega
    clear ih;obtain ⟨u,hu⟩ : ∃ u,Z[v.length]? = some u:=⟨_,zE (by omega)⟩;have km:=p3.at hu;have fm:X[v.length]? = some u:=by
     have e1:(Z.drop v.length)[0]? = (X.drop v.length)[0]? := by rw[p6]
     simpa [hu] using e1.symm
    rw[fm]at iy;obtain rfl:u=xw:=by simpa using iy
    rw[CJ (Nat.le_refl v.length)]at p7;have xb:=DX (p3.take v.length);rw[List.length_take,Nat.min_eq_left (by omega)]at xb;rw[eX]at y3;have mi:=bG p7 y3 (by omega) xb;rw[<-E3 (show v.length<Z.length by omega),CJ (by simp;omega)]at mi;(repeat' ((first|(apply AH<;>intro hc<;>try omega)|(apply BA;omega)|apply AD)<;>conv=>whnf))
    refine M9 v.length hu (by omega) ?_;(conv=>whnf)
    (repeat' ((first|(apply BA;omega)|apply aQ|(apply DD;omega))<;>conv=>whnf))
    refine LW v.length (by omega) (by omega) ?_;(conv=>whnf)
    (repeat' ((first|(apply HN;omega;omega)|(apply DD;omega))<;>conv=>whnf))
    exact ⟨rfl,_,rfl,ke _ _ _ (by simpa using p2) (p3.set _ (by omega)) mi y1⟩
theorem rV (N:a9 L) (hA:A.length=j) (hW:W.length=v.length+1) (D2:AR W) (aq:AR v) (bl:2<=v.length) (nj:v.length<=549755813888) (s8:0<val v)
  (n2:4294967296^(v.length-1)*2147483648<=val v) (g2:val W<4294967296*val v)
  (hk : ∀ (W':List Nat) (o':List (List AV)) (q':Nat),W'.length=v.length+1->AR W'->val W'=val W%val v->q'=val W/val v->K (.int .u32 (q':Int)) [(71012,71012,.rw 1 ((A++W'++C).map AJ)),(28,28,.rw 1 (w.map AJ)),(71012,71012,.rw 1 o')])
  (ke : ∀ (W':List Nat) (o':List (List AV)) (q':Nat),W'.length=v.length+1->AR W'->val W'=val W%val v->q'=val W/val v->K (.int .u32 (q':Int)) [(71012,71012,.rw 1 ((A++W'++C).map AJ)),(71012,71012,.rw 1 o'),(28,28,.rw 1 (w.map AJ))]) :
  A5 L 73 [AV.row 71012 0 1 j (v.length+1),AV.sl false (List.map AJ v)] (W7 v j m s xl) [(71012,71012,A4.rw 1 (List.map AJ (A++W++C))),(28,28,A4.rw 1 (List.map AJ w))] K:=by
 obtain ⟨UL,a1,a2⟩:=VW D2 (n:=v.length+1) (by omega) (by omega);obtain ⟨VL,b5,b6⟩:=lV aq (n:=v.length) bl (by omega);obtain ⟨u0,w0⟩ : ∃ d,W[v.length]? = some d:=⟨_,zE (by omega)⟩;obtain ⟨u1,w1⟩ : ∃ d,W[v.length-1]? = some d:=⟨_,zE (by omega)⟩;obtain ⟨u2,w2⟩ : ∃ d,W[v.length-2]? = some d:=⟨_,zE (by omega)⟩;obtain ⟨f1,x1⟩ : ∃ d,v[v.length-1]? = some d:=⟨_,zE (by omega)⟩;obtain ⟨f2,x2⟩ : ∃ d,v[v.length-2]? = some d:=⟨_,zE (by omega)⟩;rw[show v.length+1-3=v.length-2 by omega,show v.length+1-2=v.length-1 by omega,show v.length+1-1=v.length by omega,FN w0,FN w1,FN w2]at a2;rw[show v.length+1-3=v.length-2 by omega]at a1;rw[FN x1,FN x2]at b6;have mj:=lQ aq (k:=v.length-1) (by omega) n2 x1;have k0:=D2.at w0;have k1:=D2.at w1;have k2:=D2.at w2;have k3:=aq.at x1;have k4:=aq.at x2;have z1:v[((v.length:Int)-1).toNat]? = some f1:=by rw[show ((v.length:Int)-1).toNat=v.length-1 by omega];exact x1
 have z2:v[((v.length:Int)-2).toNat]? = some f2:=by rw[show ((v.length:Int)-2).toNat=v.length-2 by omega];exact x2
 refine FA 1000 N.E0 rfl rfl ?_;(repeat' ((first|(apply BA;omega)|apply AQ|apply AD)<;>conv=>whnf))
 refine M9 v.length w0 (by omega) ?_;(conv=>whnf)
 (repeat' ((first|(apply BA;omega)|(apply BN;omega)|(apply LV;omega)|(apply BV;omega))<;>conv=>whnf))
 refine M9 (v.length-1) w1 (by omega) ?_;(conv=>whnf)
 refine aL (by omega) ?_;(conv=>whnf)
 refine MH (by omega) ?_;(conv=>whnf)
 generalize Eo:u0*4294967296+u1=top at *;have En:top<=18446744073709551615:=by omega
 have hU:val W=UL+4294967296^(v.length-2)*(u2+4294967296*top):=by rw[a2,show u1+4294967296*u0=top by omega]
 (repeat' ((first|(apply BN;omega)|(apply Q7;omega)|(apply TC;omega;omega)|(apply BV;omega)|(refine BH (by assumption) ?_ rfl ?_;omega))<;>conv=>whnf))
 refine S2 (λ q _=>q) (λ(q r:Nat)=>Gs (val W) (val v) f1 f2 u2 top q r) (λ q r=>[(7,.int .u64 (q:Int)),(8,.int .u64 (r:Int))]) (λ_ _=>[]) [] [] (top/f1) (top%f1) (by (conv=>whnf);exact ⟨rfl,rfl,rfl⟩) (Gs.start hU b6 a1 k2 s8 (by omega) k3) ?_;intro q r g dn;have Pa:q<=top:=by
  have h3:=g.hq;have h4:q*1<=q*f1:=Nat.mul_le_mul_left q (by omega);omega
 have hr:=g.hr;have iu:=g.ge;by_cases hb:4294967296<=q
 ·obtain ⟨y1,y2,y3⟩:=g.next hU b6 a1 s8 g2 (Or.inl hb)
  (repeat' ((first|(apply AH<;>intro hc<;>try omega)|(apply BN;omega)|(apply E5;omega)|(apply HN;omega;omega)|(apply BV;omega)|apply AQ|(refine BH (by assumption) ?_ rfl ?_;omega)|apply AD)<;>conv=>whnf))
  ·obtain ⟨t1,t2⟩:=QA hU b6 b5 mj k4 g2 y2 (Or.inr (by omega))
   exact BJ [] (by (conv=>whnf);exact ⟨rfl,rfl,rfl⟩) (W3 (w:=w) (C:=C) hA hW D2 aq bl nj s8 t1 y3 t2 hk ke)
  ·exact BJ [] (by (conv=>whnf);exact ⟨rfl,rfl,rfl⟩) (dn (q-1) (r+f1) (by omega) ⟨y2,by omega,y3⟩)
 ·have Oo:=QI (show q<4294967296 by omega) k4
  by_cases n8:r*4294967296+u2<q*f2
  ·obtain ⟨y1,y2,y3⟩:=g.next hU b6 a1 s8 g2 (Or.inr n8)
   (repeat' ((first|(apply AH<;>intro hc<;>try omega)|(apply BA;omega)|(apply BN;omega)|(apply MG;omega)|(apply LV;omega)|(apply BV;omega)|(refine BH (by assumption) ?_ rfl ?_;omega)|apply AD)<;>conv=>whnf))
   refine M9 (v.length-2) w2 (by omega) ?_;(conv=>whnf)
   (repeat' ((first|(apply AH<;>intro hc<;>try omega)|(apply BN;omega)|(apply E5;omega)|(apply MH;omega)|(apply HN;omega;omega)|(apply BV;omega)|apply AQ|(refine BH (by assumption) ?_ rfl ?_;omega))<;>conv=>whnf))
   ·obtain ⟨t1,t2⟩:=QA hU b6 b5 mj k4 g2 y2 (Or.inr (by omega))
    exact BJ [] (by (conv=>whnf);exact ⟨rfl,rfl,rfl⟩) (W3 (w:=w) (C:=C) hA hW D2 aq bl nj s8 t1 y3 t2 hk ke)
   ·exact BJ [] (by (conv=>whnf);exact ⟨rfl,rfl,rfl⟩) (dn (q-1) (r+f1) (by omega) ⟨y2,by omega,y3⟩)
  ·obtain ⟨t1,t2⟩:=QA hU b6 b5 mj k4 g2 g.hq (Or.inl ⟨by omega,by omega⟩)
   (repeat' ((first|(apply AH<;>intro hc<;>try omega)|(apply BA;omega)|(apply BN;omega)|(apply MG;omega)|(apply LV;omega)|(apply BV;omega)|(refine BH (by assumption) ?_ rfl ?_;omega)|apply AD)<;>conv=>whnf))
   refine M9 (v.length-2) w2 (by omega) ?_;(conv=>whnf)
   (repeat' ((first|(apply AH<;>intro hc<;>try omega)|(apply MH;omega)|(apply BV;omega)|apply AQ)<;>conv=>whnf))
   exact BJ [] (by (conv=>whnf);exact ⟨rfl,rfl,rfl⟩) (W3 (w:=w) (C:=C) hA hW D2 aq bl nj s8 t1 iu t2 hk ke)
end
end Go.c8
