/-
  Natural numbers (layer 1): division.
-/
import Derived.Test.YtplhdlbnneoobaaGreatB9
import Derived.Test.YtplhdlbnneoobaaGreatB8
import Derived.Test.YtplhdlbnneoobaaGreatB7
import Derived.Test.YtplhdlbnneoobaaGreatB4
import Derived.Test.YtplhdlbnneoobaaGreatB1
set_option linter.unusedSimpArgs false
set_option linter.unusedVariables false
set_option linter.unnecessarySimpa false
namespace Go.c4
open F
attribute [local irreducible] AA AF AU AC B6 AQ AX A9 A4 BS AP BR B0 C2 BN A0 BK B2 AB A5 AJ pw CG B4 CM CZ CU CP CN BJ B9
variable {L:Lib}
set_option maxHeartbeats 4000000
theorem Sa {V R y d t Q:Nat} (h:Q*y+R=V) (ht:t=R*4294967296+d):(t/y+4294967296*Q)*y+t%y=d+4294967296*V:=by
 have:=Nat.div_add_mod t y
 rw[<-h,Nat.add_mul];have e:t/y*y=y*(t/y):=Nat.mul_comm _ _;grind
theorem R9 (a b:List Nat):A1 (.j5 [.sl false (a.map AL),.sl false (b.map AL)]):=by
 simp only[A1,CQ,and_true,true_and];exact ⟨CT a,CT b⟩
set_option maxHeartbeats 4000000 in
theorem YM (N:c5 L) (X Y:Nat) (q1 q2:Bool) (hY:Y≠0) (lx:(dg X).length<=549755813888) (ly:(dg Y).length<=549755813888):Ev L 74 [.sl q1 ((dg X).map AL),.sl q2 ((dg Y).map AL)] (.j5 [.sl false ((dg (X/Y)).map AL),.sl false ((dg (X%Y)).map AL)]):=by
 have k7:=λ q q'=>NM N (dg X) (dg Y) q q' (DK X) (DK Y) (by omega) (by omega)
 rw[BL,BL]at k7;have d1:=DK X;have d2:=DK Y;have v1:=BL X;have v2:=BL Y;have Wu:=SF hY;refine Ev.x N.J8 rfl rfl ?_;by_cases l6:X<Y
 ·have hn:C0 X Y = -1:=(HJ (by omega)).symm
  rw[hn]at k7;(repeat' ((first|(apply AG<;>intro hc<;>try (exfalso;omega))|apply AE|refine AD (k7 _ _) ?_|refine AD (iE N (dg X) _ (by omega)) ?_)<;>conv=>whnf))
  refine AW ?_ (R9 _ _);rw[Nat.div_eq_of_lt l6,Nat.mod_eq_of_lt l6,EJ];rfl
 have ig:0<=C0 X Y:=by unfold C0;split<;>(try split)<;>omega
 have qj:=OI (show Y<=X by omega);generalize C0 X Y=cm at *;by_cases h1:(dg Y).length=1
 ·-- one digit
  obtain ⟨y0,iu⟩ : ∃ y0,dg Y=[y0]:=List.length_eq_one_iff.1 h1;have ka:Y=y0:=by rw[<-v2,iu];simp [val]
  subst ka;have xv:Y<4294967296:=d2 Y (by rw[iu];simp);have Wv:(dg Y)[0]? = some Y:=by rw[iu];rfl
  clear iu v2;generalize dg Y=y at *;generalize hx:dg X=x at *;(repeat' ((first|(apply AG<;>intro hc<;>try (exfalso;omega))|(apply AY;omega)|(apply B1;omega)|apply AR|apply AE|refine AD (k7 _ _) ?_)<;>conv=>whnf))
  refine ET (enc:=AL) 0 x.length rfl (by omega) (by omega) ?_;(conv=>whnf)
  (repeat' ((first|(apply AG<;>intro hc<;>try (exfalso;omega))|(apply B1;omega)|apply AR)<;>conv=>whnf))
  refine FW (λ n _ _=>n) (λ(n:Nat) (o:List Nat) (r:Nat)=>n<=x.length/\o.length=x.length/\AZ o/\r<Y/\val (o.drop n)*Y+r=val (x.drop n)) (λ n o r=>[(8,.int .u64 (r:Int)),(9,.int .i64 ((n:Int)-1))]) (λ n o r=>[(28,28,.rw 1 (o.map AL))]) [] [] x.length (List.replicate x.length 0) 0 (by (conv=>whnf);exact ⟨rfl,rfl,rfl⟩) ⟨by omega,by simp,H4 _,by omega,by rw[List.drop_of_length_le (Nat.le_refl _),List.drop_of_length_le (by simp)];simp [val]⟩ ?_;intro n o r ⟨p1,p2,p3,p4,p5⟩ ih;rcases n with _|n
  ·rw[List.drop_zero,List.drop_zero]at p5
   have hq:X/Y=val o/\X%Y=r:=by
    rw[<-v1,<-p5];have e1:(val o*Y+r)/Y=val o:=by
     rw[Nat.mul_comm,Nat.mul_add_div (by omega),Nat.div_eq_of_lt p4,Nat.add_zero]
    have e2:(val o*Y+r)%Y=r:=by
     rw[Nat.mul_comm,Nat.mul_add_mod,Nat.mod_eq_of_lt p4]
    exact ⟨e1,e2⟩
   rw[hq.1,hq.2,<-p2];clear ih hq p5;have ft:=EG p3;have bh:AZ [r]:=GR (by omega);have ff:=EG bh;have Ck:val [r]=r:=by simp [val]
   have Ie:[r].length=1:=rfl;(repeat' ((first|(apply AG<;>intro hc<;>try (exfalso;omega))|(apply D4;omega)|apply AE|refine T4 N (by assumption) (by omega) rfl (by first|rfl|omega|assumption) ?_)<;>conv=>whnf))
   refine G2 (enc:=AL) (λ_=>rfl) (by omega) ?_;(conv=>whnf)
   refine G2 (enc:=AL) (l:=[r]) (λ_=>rfl) (by omega) ?_;(conv=>whnf)
   refine AW ?_ (R9 _ _);rw[List.drop_zero,List.drop_zero,TU p3,TU bh,Ck]
  ·have e1:((n+1:Nat):Int)-1=n:=by omega
   rw[e1];obtain ⟨d,hd⟩ : ∃ d,x[n]? = some d:=⟨_,zE (by omega)⟩;have v5:=d1.at hd;have Yd:Y<4294967296:=xv;have hR:r*4294967296+d<Y*4294967296:=by omega
   have rj:(r*4294967296+d)/Y<4294967296:=(Nat.div_lt_iff_lt_mul (by omega)).2 (by omega);(repeat' ((first|(apply AG<;>intro hc<;>try (exfalso;omega))|(apply BA;omega)|(apply MM;omega)|(apply NC;omega)|(apply UB;omega;omega)|(apply CB;omega)|(apply D4;omega)|(refine BG (by assumption) ?_ rfl ?_;omega)|apply AE)<;>conv=>whnf))
   obtain ⟨t,ht⟩ : ∃ t,t=r*4294967296+d:=⟨_,rfl⟩;rw[<-ht]at hR rj ⊢;have hm:t%Y<Y:=Nat.mod_lt _ (by omega);have j9:=Sa p5 ht;rw[<-GL hd]at j9;clear ht;skip
   refine EU (by omega) ?_;(conv=>whnf)
   (repeat' ((first|(apply B1;omega)|(apply RT;omega)|(apply CB;omega)|(refine BG (by assumption) ?_ rfl ?_;omega))<;>conv=>whnf))
   generalize t/Y=tq at *;generalize t%Y=tr at *;refine BV [] (by (conv=>whnf);exact ⟨rfl,rfl,rfl⟩) (ih n _ _ (by omega) ⟨by omega,by simpa using p2,p3.set _ (by omega),hm,?_⟩);rw[GL (l:=o.set n tq) (d:=tq) (by rw[List.getElem?_set_self (by omega)]),List.drop_set_of_lt (by omega)];exact j9
 ·-- two digits or more
  have Es:2<=(dg Y).length:=by omega
  obtain ⟨yt,px,rp⟩:=X4 hY;have pz:=d2.at px;obtain ⟨b1,b2,b3,b4⟩:=ZU rp pz;have Aa:=iG N yt pz;generalize hs:32-m9 yt=s at *;have ak:s<=31:=by omega
  generalize dg Y=y at *;generalize hx:dg X=x at *;have e1:((y.length:Int)-1).toNat=y.length-1:=by omega
  rw[<-e1]at px;obtain ⟨rv,Ii,v,hV,gv,Fi⟩:=zF N y q2 s y.length d2 ak (by omega) (by omega);subst Fi;(repeat' ((first|(apply AG<;>intro hc<;>try (exfalso;omega))|(apply AY;omega)|(apply B1;omega)|apply AR|apply AE|refine AD (k7 _ _) ?_)<;>conv=>whnf))
  refine ET (enc:=AL) 0 (x.length-y.length+1) rfl (by omega) (by omega) ?_;(conv=>whnf)
  (repeat' ((first|(apply AG<;>intro hc<;>try (exfalso;omega))|(apply AY;omega)|(apply B1;omega)|(apply CB;omega)|apply AR|(refine BG (by assumption) ?_ rfl ?_;omega)|refine AD (Aa) ?_)<;>conv=>whnf))
  refine GZ 1000 N.IM rfl rfl ?_;(repeat' (apply AE<;>conv=>whnf))
  refine ET (enc:=AL) 0 (x.length+1) rfl (by omega) (by omega) ?_;(conv=>whnf)
  (repeat' (apply AR<;>conv=>whnf))
  have ni:=TD (s:=s) (by omega);refine FW (λ i _ _=>x.length-i) (λ(i:Nat) (o:List Nat) (lo:Nat)=>i<=x.length/\o.length=x.length+1/\AZ o/\lo<2^s/\val (o.take i)+4294967296^i*lo=val (x.take i)*2^s) (λ i o lo=>[(8,.int .u32 (lo:Int)),(15,.int .i64 i)]) (λ i o lo=>[(71012,71012,.rw 1 (o.map AL))]) [] [] 0 (List.replicate (x.length+1) 0) 0 (by (conv=>whnf);exact ⟨rfl,rfl,rfl⟩) ⟨by omega,by simp,H4 _,Nat.two_pow_pos s,by simp [val]⟩ ?_;intro i o lo ⟨p1,p2,p3,p4,p5⟩ ih;by_cases hi:i<x.length
  ·obtain ⟨d,hd⟩ : ∃ d,x[i]? = some d:=⟨_,zE hi⟩
   have v5:=d1.at hd;obtain ⟨f1,f2,f3,f4⟩:=P7 (s:=s) v5 (by omega);(repeat' ((first|(apply AG<;>intro hc<;>try (exfalso;omega))|(refine BG (by assumption) ?_ rfl ?_;omega)|apply AE)<;>conv=>whnf))
   refine dE (by omega) ?_;(conv=>whnf)
   skip
   refine W7 s f1 p4 (by omega) ?_;(conv=>whnf)
   (repeat' ((first|(apply BA;omega)|fail)<;>conv=>whnf))
   refine EU (by omega) ?_;(conv=>whnf)
   (repeat' ((first|(apply CB;omega)|fail)<;>conv=>whnf))
   refine NE (by omega) f4 ?_;(conv=>whnf)
   (repeat' ((first|(apply AY;omega)|apply EW|(apply D4;omega))<;>conv=>whnf))
   rw[<-P6];refine BV [] (by (conv=>whnf);exact ⟨rfl,rfl,rfl⟩) (ih (i+1) _ _ (by omega) ⟨by omega,by simpa using p2,p3.set _ (by omega),f2,?_⟩);rw[FG (by omega),DQ hd,Nat.pow_succ];exact kZ p5
  obtain rfl:i=x.length:=by omega
  clear ih;(repeat' ((first|(apply AG<;>intro hc<;>try (exfalso;omega))|(apply BA;omega)|apply AR|apply AE)<;>conv=>whnf))
  refine EU (by omega) ?_;(conv=>whnf)
  skip
  have hU:=kY p3 (by omega) p2 p5;have wu:(o.set x.length lo).length=x.length+1:=by simpa using p2
  clear p3 p4 p5 p2;generalize o.set x.length lo=u at *;refine ⟨rfl,_,rfl,?_⟩;(conv=>whnf)
  (repeat' ((first|(apply B1;omega)|apply AR|refine AD (Ii) ?_)<;>conv=>whnf))
  have Gd:y[y.length-1]? = some yt:=by rw[<-e1];exact px
  obtain ⟨n1,n2⟩:=ZO d2 Gd (by omega) ak b3 b4;have Bv:val v=Y*2^s:=by rw[<-v2];exact hV.2.2 (by rw[gv];exact n1)
  have Bu:val u=X*2^s:=by
   rw[<-v1];refine hU.2.2 ?_;have h3:=EL d1;rw[wu,Nat.pow_succ];exact Nat.lt_of_lt_of_le (Nat.mul_lt_mul_of_pos_right h3 (Nat.two_pow_pos s)) (Nat.mul_le_mul_left _ ni)
  have bu:=hV.1;have Bq:=hU.1;have uk:=EL bu;rw[v2,<-Bv]at n2;rw[<-gv]at n2;clear hV hU k7 Ii Aa;have cq:2<=v.length:=by omega
  have Yp:v.length<=x.length:=by omega
  have pq:v.length<=549755813888:=by omega
  have Yr:x.length<=549755813888:=by omega
  have hX:X<4294967296^x.length:=by rw[<-v1];exact EL d1
  rw[<-gv];generalize hm:x.length-v.length+1=m at *;have v8:0<val v:=by
   have:=mR (v.length-1)
   omega
  have lj:val (u.drop m)<val v:=by
   have h1:=IY u m (by omega);rw[Bu]at h1;have h2:X*2^s<4294967296^x.length*2147483648:=Nat.lt_of_lt_of_le (Nat.mul_lt_mul_of_pos_right hX (Nat.two_pow_pos s)) (Nat.mul_le_mul_left _ (Nat.pow_le_pow_right (by omega) ak));have h3:4294967296^x.length=4294967296^m*4294967296^(v.length-1):=by rw[<-Nat.pow_add];congr 1;omega
   rw[h3,Nat.mul_assoc]at h2;refine Nat.lt_of_lt_of_le ?_ n2;refine Nat.lt_of_mul_lt_mul_left (a:=4294967296^m) ?_;omega
  have e2:(x.length:Int)-v.length=((m:Nat):Int)-1:=by omega
  rw[e2];refine FW (λ n _ _=>n) (λ(n:Nat) (o w:List Nat)=>n<=m/\o.length=x.length+1/\AZ o/\w.length=m/\AZ w/\val (o.drop n)<val v/\X*2^s=val (o.take n)+4294967296^n*(val (w.drop n)*val v+val (o.drop n))) (λ n o w=>[(14,.int .i64 ((n:Int)-1))]) (λ n o w=>[(71012,71012,.rw 1 (o.map AL)),(28,28,.rw 1 (w.map AL))]) [] [] m u (List.replicate m 0) (by (conv=>whnf);exact ⟨rfl,rfl,rfl⟩) ⟨by omega,wu,Bq,by simp,H4 _,lj,by rw[<-Bu,List.drop_of_length_le (show (List.replicate m 0).length<=m by simp),HX,Nat.zero_mul,Nat.zero_add];exact IY u m (by omega)⟩ ?_;intro n o w ⟨p1,p2,p3,p4,p5,p6,p7⟩ ih;rcases n with _|j
  ·clear ih
   rw[List.drop_zero]at p6;rw[List.take_zero,List.drop_zero,List.drop_zero,HX,Nat.zero_add,Nat.pow_zero,Nat.one_mul]at p7;have jv:val o=val (o.take v.length):=by
    have h1:=QD o v.length;rcases Nat.eq_zero_or_pos (val (o.drop v.length)) with h2|h2
    ·rw[h2,Nat.mul_zero,Nat.add_zero]at h1;exact h1
    ·have h3:4294967296^v.length*1<=4294967296^v.length*val (o.drop v.length):=Nat.mul_le_mul_left _ h2
     omega
   have re:X/Y=val w/\X%Y=val o/2^s:=by
    obtain ⟨z1,z2⟩:=gE (X:=X) (Y:=Y) (Nat.two_pow_pos s);rw[<-z1,<-z2,<-Bv,p7];have e1:(val w*val v+val o)/val v=val w:=by
     rw[Nat.mul_comm,Nat.mul_add_div v8,Nat.div_eq_of_lt p6,Nat.add_zero]
    have e2:(val w*val v+val o)%val v=val o:=by
     rw[Nat.mul_comm,Nat.mul_add_mod,Nat.mod_eq_of_lt p6]
    rw[e1,e2];exact ⟨rfl,rfl⟩
   rw[re.1,re.2];have ft:=EG p5;obtain ⟨ro,Ao,o2,k1,k2,k3,k4⟩:=zG N (o.take v.length) true s (p3.take _) ak (by rw[List.length_take];omega);subst k4;rw[jv,<-k3];have ff:=EG k1;rw[List.length_take]at k2;clear p7 re lj;(repeat' ((first|(apply AG<;>intro hc<;>try (exfalso;omega))|apply AE|refine T4 N (by assumption) (by omega) rfl (by first|rfl|omega|assumption) ?_)<;>conv=>whnf))
   refine GM v.length rfl (by omega) ?_;(conv=>whnf)
   refine G2 (enc:=AL) (λ_=>rfl) (by omega) ?_;(conv=>whnf)
   rw[List.drop_zero,Nat.sub_zero];(repeat' ((first|refine AD (Ao) ?_|refine I1 (JD N o2 _ k1 (by omega)) ?_)<;>conv=>whnf))
   refine G2 (enc:=AL) (λ_=>rfl) (by omega) ?_;(conv=>whnf)
   refine AW ?_ (R9 _ _);rw[List.drop_zero,TU p5]
  ·have e3:((j+1:Nat):Int)-1=j:=by omega
   rw[e3];have e4:(v.length:Int).toNat=v.length:=by omega
   obtain ⟨A,W,C,hA,hW,rfl⟩:=gW o j (v.length+1) (by omega);obtain ⟨g1,g2,g3⟩:=gY hA hW p3 p6 uk;obtain ⟨D1,D2,D3⟩:=gB p3;have qk:val W/val v<4294967296:=(Nat.div_lt_iff_lt_mul v8).2 g2;have Dr:val W=val W/val v*val v+val W%val v:=by rw[Nat.mul_comm];exact (Nat.div_add_mod _ _).symm
   have um:val W%val v<val v:=Nat.mod_lt _ v8;have ui:X*2^s=val A+4294967296^j*val W+4294967296^j*4294967296*(val (w.drop (j+1))*val v):=by
    rw[p7,Nat.mul_add,<-g3,Nat.pow_succ];omega
   have ku:=gX ui Dr;have jz : ∀ q',q'=val W/val v->val ((w.set j q').drop j)=val W/val v+4294967296*val (w.drop (j+1)):=λ q' h=>by
    rw[GL (l:=w.set j q') (d:=q') (by rw[List.getElem?_set_self (by omega)]),List.drop_set_of_lt (by omega),h]
   have hlen : ∀ W':List Nat,W'.length=v.length+1->(A++W'++C).length=x.length+1:=λ W' h=>by
    rw[<-p2];simp [h,hW]
   (repeat' ((first|(apply AG<;>intro hc<;>try (exfalso;omega))|(apply AY;omega)|(apply N8;omega)|apply AE)<;>conv=>whnf))
   rw[show ((j:Int)+v.length+1).toNat-(j:Int).toNat=v.length+1 by omega,show 0+(j:Int).toNat=j by omega];refine vR N hA hW D2 bu cq pq v8 n2 g2 (λ W' o' q' z1 z2 z3 z4 => ?_) (λ W' o' q' z1 z2 z3 z4 => ?_)
   ·(conv=>whnf)
    (repeat' ((first|(apply BA;omega)|fail)<;>conv=>whnf))
    refine EU (by omega) ?_;(conv=>whnf)
    (repeat' ((first|(apply B1;omega)|fail)<;>conv=>whnf))
    obtain ⟨t1,t2⟩:=YE (A:=A) (W:=W') (C:=C) (j:=j) hA g1;refine BV [] (by (conv=>whnf);exact ⟨rfl,rfl,rfl⟩) (ih j (A++W'++C) (w.set j q') (by omega) ⟨by omega,hlen W' z1,(D1.append z2).append D3,by simpa using p4,p5.set _ (by omega),by omega,?_⟩);rw[t1,t2,jz q' z4,z3];exact ku
   ·(conv=>whnf)
    (repeat' ((first|(apply BA;omega)|fail)<;>conv=>whnf))
    refine EU (by omega) ?_;(conv=>whnf)
    (repeat' ((first|(apply B1;omega)|fail)<;>conv=>whnf))
    obtain ⟨t1,t2⟩:=YE (A:=A) (W:=W') (C:=C) (j:=j) hA g1;refine BV [] (by (conv=>whnf);exact ⟨rfl,rfl,rfl⟩) (ih j (A++W'++C) (w.set j q') (by omega) ⟨by omega,hlen W' z1,(D1.append z2).append D3,by simpa using p4,p5.set _ (by omega),by omega,?_⟩);rw[t1,t2,jz q' z4,z3];exact ku
end Go.c4
namespace Go.c4
open F
attribute [local irreducible] AA AF AU AC B6 AQ AX A9 A4 BS AP BR B0 C2 BN A0 BK B2 AB A5 AJ pw CG B4 CM CZ CU CP CN BJ B9
set_option maxHeartbeats 4000000
variable {L:Lib}
theorem dF {k':IntKind} {a:Int} {K:AV->Prop} (hk:K (.int .i64 (a/4294967296))):AC .shr .i64 a k' 32 K:=by
 refine rI (by omega) ?_;have:pw 32=4294967296:=by decide +kernel
 rw[this];exact hk
theorem cT {t:Int} {K:Int->Prop} (hk:K (SB t:Int)):AQ .u32 t K:=by
 unfold AQ;rw[IntKind.wrap_u32,<-XU];exact hk
section
variable {k':IntKind} {a b:Nat} {K:AV->Prop}
theorem rH {i:Nat} (hi:i<2) (ha:a<4294967296) (hk:K (.int .u64 ((a*4294967296^i:Nat):Int))):AC .shl .u64 (a:Int) k' (32*(i:Int)) K:=by
 rcases i with _|_|i
 ·exact NE (s:=0) (by omega) (by omega) hk
 ·exact NE (s:=32) (by omega) (by omega) hk
 ·omega
end
theorem kM {x y M N:Int} (hx : -M<=x/\x<=M) (hy : -N<=y/\y<=N) : -(M*N)<=x*y/\x*y<=M*N:=by
 have h1:x.natAbs<=M.natAbs:=by omega
 have h2:y.natAbs<=N.natAbs:=by omega
 have h3:=Nat.mul_le_mul h1 h2;rw[<-Int.natAbs_mul,<-Int.natAbs_mul]at h3;have h4:0<=M*N:=Int.mul_nonneg (by omega) (by omega);omega
theorem YK (N:c5 L) (a b:List Nat) (q1 q2:Bool) (hA:AZ a) (hB:AZ b) (la:a.length<=549755813888) (lb:b.length<=549755813888) (h0:val b≠0) :
  Ev L 75 [.sl q1 (a.map AL),.sl q2 (b.map AL)] (.j5 [.sl false ((dg (val a/val b)).map AL),.sl false ((dg (val a%val b)).map AL),.int .i64 0]):=by
 have l1:=EG hA;have l2:=EG hB;have hp:=SF h0;refine Ev.x N.J2 rfl rfl ?_;(repeat' ((first|(apply AG<;>intro hc<;>try (exfalso;omega))|apply AR|apply AE|refine I1 (JD N a _ hA (by omega)) ?_|refine I1 (JD N b _ hB (by omega)) ?_|refine AD (YM N _ _ _ _ h0 (by omega) (by omega)) ?_)<;>conv=>whnf))
 refine AW rfl ?_;simp only[A1,CQ,and_true,true_and];exact ⟨CT _,CT _⟩
theorem iR (N:c5 L) (V:Nat) (q:Bool) (hl:(dg V).length<=2):Ev L 76 [.sl q ((dg V).map AL)] (.int .u64 (V:Int)):=by
 have hV:=MU.1 hl;have hD:=DK V;have hv:=BL V;refine Ev.x N.KC rfl rfl ?_;generalize dg V=l at *;(repeat' ((first|apply AR|apply AE)<;>conv=>whnf))
 refine FV (λ i _=>l.length-i) (λ(i:Nat) (a:Nat)=>i<=l.length/\a=val (l.take i)) (λ i a=>[(3,.int .u64 (a:Int)),(8,.int .i64 i)]) (λ_ _=>[]) [] [] 0 0 (by (conv=>whnf);exact ⟨rfl,rfl,rfl⟩) ⟨by omega,rfl⟩ ?_;intro i a ⟨p1,p2⟩ ih;by_cases hi:i<l.length
 ·obtain ⟨d,hd⟩ : ∃ d,l[i]? = some d:=⟨_,zE hi⟩
  have v5:=hD.at hd;have h1:=DQ hd;have h2:=EL (hD.take i);have h3:=EL (hD.take (i+1));rw[List.length_take,Nat.min_eq_left (by omega)]at h2 h3;have h4:4294967296^(i+1)<=4294967296^2:=Nat.pow_le_pow_right (by omega) (by omega);(repeat' ((first|(apply AG<;>intro hc<;>try (exfalso;omega))|(apply D5;omega)|(apply CB;omega)|(refine BG (by assumption) ?_ rfl ?_;omega)|apply AE)<;>conv=>whnf))
  refine rH (by omega) v5 ?_;(conv=>whnf)
  rw[Nat.mul_comm d];refine UA (32*i) (by rw[Nat.pow_mul];exact Nat.mul_mod_right _ _) (by rw[Nat.pow_mul,p2];exact h2) (by omega) ?_;(conv=>whnf)
  (repeat' ((first|(apply AY;omega)|fail)<;>conv=>whnf))
  exact BV [] (by (conv=>whnf);exact ⟨rfl,rfl,rfl⟩) (ih (i+1) _ (by omega) ⟨by omega,by rw[h1,p2]⟩)
 ·obtain rfl:i=l.length:=by omega
  clear ih;(repeat' ((first|(apply AG<;>intro hc<;>try (exfalso;omega))|apply AE)<;>conv=>whnf))
  rw[C1 (Nat.le_refl _)]at p2;exact CY (by omega)
theorem W0 {f:Nat} {vs:List AV} {tm:Tm} {M:Mem} {K:AV->Mem->Prop} {v:AV} (h:A5 L f vs tm M (λ r M'=>r=v/\M'=M)) (hk:K v M):A5 L f vs tm M K:=by
 unfold A5 at h ⊢;intro σ own hs;obtain ⟨r,l8,σ',M',h1,h2,h3,rfl,rfl⟩:=h σ own hs;exact ⟨_,l8,σ',_,h1,h2,h3,hk⟩
theorem iQ (N:c5 L) (a:List Nat) (q:Bool) (n s:Nat) (hD:AZ a) (hn:3<=n) (hl:a.length<=n) (Es:n<=549755813888) (hs:s<=31) (l6:val a*2^s<4294967296^n) :
  Ev L 78 [.sl q (a.map AL),.int .i64 (n:Int),.int .u64 (s:Int)] (.int .i64 ((val a/Q3 n s:Nat):Int)):=by
 have b1:=OO hD (n-1);have b2:=OO hD (n-2);have b3:=OO hD (n-3);have ot:=kT hD hn hl rfl rfl l6;have heq:=kS (s:=s) hD hn hl hs rfl rfl rfl;obtain ⟨f1,f2,f3,f4⟩:=P7 (s:=s) b3 (by omega);refine Ev.x N.J9 rfl rfl ?_;(repeat' ((first|(apply BA;omega)|(apply B1;omega)|apply AE)<;>conv=>whnf))
 refine W0 (v := .int .u64 ((a.getD (n-1) 0:Nat):Int)) ?_ ?_
 ·refine GZ 1000 N.HM rfl rfl ?_
  (repeat' ((first|(apply AG<;>intro hc<;>try (exfalso;omega))|(apply CB;omega)|apply AR|(refine OB (by assumption) ?_ (λ e he hb => ?_);omega)|apply AE)<;>conv=>whnf))
  ·refine ⟨rfl,_,rfl,?_,rfl⟩
   rw[show ((n:Int)-1).toNat=n-1 by omega]at he;rw[FZ he];rfl
  ·refine ⟨rfl,_,rfl,?_,rfl⟩
   rw[<-OP (show a.length<=n-1 by omega)];rfl
 (conv=>whnf)
 (repeat' ((first|(apply BA;omega)|(apply B1;omega)|(apply MM;omega))<;>conv=>whnf))
 refine W0 (v := .int .u64 ((a.getD (n-2) 0:Nat):Int)) ?_ ?_
 ·refine GZ 1000 N.HM rfl rfl ?_
  (repeat' ((first|(apply AG<;>intro hc<;>try (exfalso;omega))|(apply CB;omega)|apply AR|(refine OB (by assumption) ?_ (λ e he hb => ?_);omega)|apply AE)<;>conv=>whnf))
  ·refine ⟨rfl,_,rfl,?_,rfl⟩
   rw[show ((n:Int)-2).toNat=n-2 by omega]at he;rw[FZ he];rfl
  ·refine ⟨rfl,_,rfl,?_,rfl⟩
   rw[<-OP (show a.length<=n-2 by omega)];rfl
 (conv=>whnf)
 generalize a.getD (n-1) 0=d1 at *;generalize a.getD (n-2) 0=d2 at *;(repeat' ((first|(apply NC;omega)|fail)<;>conv=>whnf))
 refine NE (by omega) ot ?_;(conv=>whnf)
 generalize hT:(d1*4294967296+d2)*2^s=T at *;(repeat' ((first|(apply BA;omega)|(apply B1;omega))<;>conv=>whnf))
 refine W0 (v := .int .u64 ((a.getD (n-3) 0:Nat):Int)) ?_ ?_
 ·refine GZ 1000 N.HM rfl rfl ?_
  (repeat' ((first|(apply AG<;>intro hc<;>try (exfalso;omega))|(apply CB;omega)|apply AR|(refine OB (by assumption) ?_ (λ e he hb => ?_);omega)|apply AE)<;>conv=>whnf))
  ·refine ⟨rfl,_,rfl,?_,rfl⟩
   rw[show ((n:Int)-3).toNat=n-3 by omega]at he;rw[FZ he];rfl
  ·refine ⟨rfl,_,rfl,?_,rfl⟩
   rw[<-OP (show a.length<=n-3 by omega)];rfl
 (conv=>whnf)
 generalize a.getD (n-3) 0=d3 at *;skip
 refine NE (by omega) f4 ?_;(conv=>whnf)
 (repeat' (apply EW<;>conv=>whnf))
 rw[P6]at f2;refine dD s (by rw[<-hT];exact Nat.mul_mod_left _ _) f2 (by have:=VS (k:=d1*4294967296+d2) (show s<=64 by omega) (by omega);omega) ?_;(conv=>whnf)
 (repeat' ((first|apply rE|(apply O1;omega))<;>conv=>whnf))
 rw[heq];exact CY rfl
theorem zC (N:c5 L) (P Q:Int) (hP:0<=P/\P<=4611686018427387904) (hQ:0<=Q/\Q<=4611686018427387904) : ∃ r,Ev L 79 [.int .i64 P,.int .i64 Q] r /\ ∃ a b c d:Int,(W2 a b c d/\(-2147483647<=a/\a<=2147483647)/\(-2147483647<=b/\b<=2147483647)/\(-2147483647<=c/\c<=2147483647)/\(-2147483647<=d/\d<=2147483647))/\(b≠0->RS P Q a b c d)/\r = .j5 [.int .i64 a,.int .i64 b,.int .i64 c,.int .i64 d]:=by
 refine Ev.xE N.J6 rfl rfl ?_;(repeat' (apply AE<;>conv=>whnf))
 refine pQ (λ_ _ _ _ _ q=>(q+2147483648).toNat) (λ(a b c d p q:Int)=>O4 P Q a b c d p q/\((-2147483647<=a/\a<=2147483647)/\(-2147483647<=b/\b<=2147483647)/\(-2147483647<=c/\c<=2147483647)/\(-2147483647<=d/\d<=2147483647))/\(p<=4611686018427387904/\q<=4611686018427387904)/\QK P Q a b c d/\(b≠0->RS P Q a b c d)) (λ a b c d p q=>[(0,.int .i64 p),(1,.int .i64 q),(4,.int .i64 a),(5,.int .i64 b),(6,.int .i64 c),(7,.int .i64 d)]) (λ_ _ _ _ _ _=>[]) [] [] 1 0 0 1 P Q (by (conv=>whnf);exact ⟨rfl,rfl,rfl⟩) ⟨O4.start hP.1 hQ.1,by omega,by omega,QK.start P Q,λ h=>absurd rfl h⟩ ?_;intro a b c d p q ⟨p1,⟨⟨p2,Yu⟩,⟨p3,Yv⟩,⟨p4,Yw⟩,⟨p5,Yx⟩⟩,⟨p6,p7⟩,p8,p9⟩ ih;have g1:=p1.pa;have g2:=p1.pb;have g3:=p1.qc;have g4:=p1.qd;by_cases cj:q+c=0
 ·(repeat' ((first|(apply AG<;>intro hc<;>try (exfalso;omega))|(apply AY;omega)|apply AE)<;>conv=>whnf))
  refine ⟨.j5 [.int .i64 a,.int .i64 b,.int .i64 c,.int .i64 d],?_,a,b,c,d,⟨p1.sg,by omega⟩,p9,rfl⟩;(conv=>whnf)
  exact AW rfl (by simp [A1,CQ])
 by_cases om:q+d=0
 ·(repeat' ((first|(apply AG<;>intro hc<;>try (exfalso;omega))|(apply AY;omega)|apply AE)<;>conv=>whnf))
  refine ⟨.j5 [.int .i64 a,.int .i64 b,.int .i64 c,.int .i64 d],?_,a,b,c,d,⟨p1.sg,by omega⟩,p9,rfl⟩;(conv=>whnf)
  exact AW rfl (by simp [A1,CQ])
 by_cases Uu:(p+a)/(q+c)=(p+b)/(q+d)
 ·obtain ⟨s1,s2,s3,s4⟩:=p1.step cj om rfl Uu
  have s5:=s4 p8;have s6:=s5.half;have s7:=s1.qc;by_cases cn:2147483647<(p+a)/(q+c)
  ·(repeat' ((first|(apply AG<;>intro hc<;>try (exfalso;omega))|(apply AY;omega)|(refine O6 ?_ ?_ (λ_ => ?_) (λ_ _ => ?_);omega;omega;all_goals try (exfalso;omega))|apply AE)<;>conv=>whnf))
   refine ⟨.j5 [.int .i64 a,.int .i64 b,.int .i64 c,.int .i64 d],?_,a,b,c,d,⟨p1.sg,by omega⟩,p9,rfl⟩;(conv=>whnf)
   exact AW rfl (by simp [A1,CQ])
  ·have t1:=kM (x:=(p+a)/(q+c)) (y:=c) (M:=2147483647) (N:=2147483647) (by omega) (by omega)
   have t2:=kM (x:=(p+a)/(q+c)) (y:=d) (M:=2147483647) (N:=2147483647) (by omega) (by omega);(repeat' ((first|(apply AG<;>intro hc<;>try (exfalso;omega))|(apply AY;omega)|(apply B1;omega)|(apply D5;omega)|(refine O6 ?_ ?_ (λ_ => ?_) (λ_ _ => ?_);omega;omega;all_goals try (exfalso;omega))|(apply B6.neg;omega)|apply AE)<;>conv=>whnf))
   all_goals first
    | exact BV [] (by (conv=>whnf);exact ⟨rfl,rfl,rfl⟩) (ih _ _ _ _ _ _ (by omega) ⟨s1,by omega,by omega,s6,λ_=>s5⟩)
    |(refine ⟨.j5 [.int .i64 a,.int .i64 b,.int .i64 c,.int .i64 d],?_,a,b,c,d,⟨p1.sg,by omega⟩,p9,rfl⟩
      (conv=>whnf)
      exact AW rfl (by simp [A1,CQ]))
 ·(repeat' ((first|(apply AG<;>intro hc<;>try (exfalso;omega))|(apply AY;omega)|(refine O6 ?_ ?_ (λ_ => ?_) (λ_ _ => ?_);omega;omega;all_goals try (exfalso;omega))|apply AE)<;>conv=>whnf))
  refine ⟨.j5 [.int .i64 a,.int .i64 b,.int .i64 c,.int .i64 d],?_,a,b,c,d,⟨p1.sg,by omega⟩,p9,rfl⟩;(conv=>whnf)
  exact AW rfl (by simp [A1,CQ])
theorem zD (N:c5 L) (x y:List Nat) (q1 q2:Bool) (f g:Int) (hX:AZ x) (hY:AZ y) (hl:y.length<=x.length) (lx:x.length<=549755813888) (hs:N9 f g) (R:Nat) (hR:(R:Int)=f*val x+g*val y) (Yc:R<=val x) :
  Ev L 80 [.sl q1 (x.map AL),.sl q2 (y.map AL),.int .i64 f,.int .i64 g] (.sl false ((dg R).map AL)):=by
 refine Ev.x N.J7 rfl rfl ?_;(repeat' ((first|apply AR|apply AE)<;>conv=>whnf))
 refine ET (enc:=AL) 0 x.length rfl rfl (by omega) ?_;(conv=>whnf)
 (repeat' (apply AR<;>conv=>whnf))
 refine FW (λ i _ _=>x.length-i) (λ(i:Nat) (o:List Nat) (c:Int)=>i<=x.length/\o.length=x.length/\AZ o /\ -2147483648<=c/\c<=2147483648/\(val (o.take i):Int)+((4294967296^i:Nat):Int)*c=f*val (x.take i)+g*val (y.take i)) (λ i o c=>[(10,.int .i64 c),(19,.int .i64 i)]) (λ i o c=>[(16,16,.rw 1 (o.map AL))]) [] [] 0 (List.replicate x.length 0) 0 (by (conv=>whnf);exact ⟨rfl,rfl,rfl⟩) ⟨by omega,by simp,H4 _,by omega,by omega,by simp [val]⟩ ?_;intro i o c ⟨p1,p2,p3,p4,p5,p6⟩ ih;by_cases hi:i<x.length
 ·obtain ⟨d,hd⟩ : ∃ d,x[i]? = some d:=⟨_,zE hi⟩
  have v5:=hX.at hd;have h1:=DQ hd;by_cases hy:i<y.length
  ·obtain ⟨e,he⟩ : ∃ e,y[i]? = some e:=⟨_,zE hy⟩
   have Ef:=hY.at he;have h2:=DQ he;obtain ⟨r1,r2,r3⟩:=hs.Jp v5 Ef;have j9:=fD (d:=d) (e:=e) p6 rfl;(repeat' ((first|(apply AG<;>intro hc<;>try (exfalso;omega))|(apply AY;omega)|(apply D5;omega)|(apply O1;omega)|apply AR|(refine BG (by assumption) ?_ rfl ?_;omega)|apply AE)<;>conv=>whnf))
   generalize Wl:f * ↑d+c+g * ↑e=t at *;refine cT ?_;(conv=>whnf)
   (repeat' ((first|(apply BA;omega)|fail)<;>conv=>whnf))
   refine EU (by omega) ?_;(conv=>whnf)
   refine dF ?_;(conv=>whnf)
   (repeat' ((first|(apply AY;omega)|fail)<;>conv=>whnf))
   refine BV [] (by (conv=>whnf);exact ⟨rfl,rfl,rfl⟩) (ih (i+1) _ _ (by omega) ⟨by omega,by simpa using p2,p3.set _ (fA t),by omega,by omega,?_⟩);rw[FG (by omega),h1,h2,Nat.pow_succ];simp only[Int.natCast_add,Int.natCast_mul,XU];exact j9
  ·have h2:=WT (y:=y) (i:=i) (by omega)
   obtain ⟨r1,r2,r3⟩:=hs.Jp (e:=0) v5 (by omega);have j9:=fD (d:=d) (e:=0) p6 rfl;rw[Int.mul_zero,Int.add_zero]at j9;have r4 : -9223372030412324865<=f*(d:Int)/\f*(d:Int)<=9223372030412324865:=r1;(repeat' ((first|(apply AG<;>intro hc<;>try (exfalso;omega))|(apply AY;omega)|(apply D5;omega)|(apply O1;omega)|apply AR|(refine BG (by assumption) ?_ rfl ?_;omega)|apply AE)<;>conv=>whnf))
   generalize Wl:f * ↑d+c=t at *;refine cT ?_;(conv=>whnf)
   (repeat' ((first|(apply BA;omega)|fail)<;>conv=>whnf))
   refine EU (by omega) ?_;(conv=>whnf)
   refine dF ?_;(conv=>whnf)
   (repeat' ((first|(apply AY;omega)|fail)<;>conv=>whnf))
   refine BV [] (by (conv=>whnf);exact ⟨rfl,rfl,rfl⟩) (ih (i+1) _ _ (by omega) ⟨by omega,by simpa using p2,p3.set _ (fA t),by omega,by omega,?_⟩);rw[FG (by omega),h1,h2,Nat.pow_succ];simp only[Int.natCast_add,Int.natCast_mul,XU];rw[Int.mul_zero,Int.add_zero]at j9;exact j9
 ·obtain rfl:i=x.length:=by omega
  clear ih;rw[C1 (by omega),C1 (Nat.le_refl _),C1 (by omega)]at p6;have Ig:=EL p3;have Ys:=EL hX;rw[p2]at Ig;have Ub:val o=R:=by
   have:=uI Ig p6 (by omega) (by omega)
   omega
  have ft:=EG p3;rw[<-p2,<-Ub];(repeat' ((first|(apply AG<;>intro hc<;>try (exfalso;omega))|apply AE|refine T4 N (by assumption) (by omega) rfl (by first|rfl|omega|assumption) ?_)<;>conv=>whnf))
  refine G2 (enc:=AL) (λ_=>rfl) (by omega) ?_;(conv=>whnf)
  refine AW ?_ (by simp only[A1,true_and];exact CT _);rw[List.drop_zero,TU p3]
theorem zH (N:c5 L) (X Y:Nat) (od:Y<=X) (hy:3<=(dg Y).length) (lx:(dg X).length<=549755813888) : ∃ r,Ev L 81 [.sl false ((dg X).map AL),.sl false ((dg Y).map AL)] r /\ ∃ A B:Nat,(B<Y/\B<=A/\A<=X/\Nat.gcd A B=Nat.gcd X Y)/\r = .j5 [.sl false ((dg A).map AL),.sl false ((dg B).map AL)]:=by
 have Uf:Y≠0:=λ h=>by rw[h,EJ]at hy;simp at hy
 have re:X≠0:=by omega
 have hlen:=OI od;have Uq:=λ q q'=>YM N X Y q q' Uf lx (by omega)
 have d1:=DK X;have d2:=DK Y;have v1:=BL X;have v2:=BL Y;obtain ⟨xt,Fz,Ga⟩:=X4 re;have Az:=d1.at Fz;obtain ⟨b1,b2,b3,b4⟩:=ZU Ga Az;have Aa:=iG N xt Az;generalize hs:32-m9 xt=s at *;have ak:s<=31:=by omega
 obtain ⟨n1,n2⟩:=ZO d1 Fz (by omega) ak b3 b4;have lf:=λ(f g:Int) (R:Nat) (hs:N9 f g) (h1:(R:Int)=f*val (dg X)+g*val (dg Y)) (h2:R<=val (dg X)) (q q':Bool)=>zD N (dg X) (dg Y) q q' f g d1 d2 (by omega) lx hs R h1 h2
 have n3:val (dg Y)*2^s<4294967296^(dg X).length:=Nat.lt_of_le_of_lt (Nat.mul_le_mul_right _ (by omega)) n1;have ft:=λ q=>iQ N (dg X) q (dg X).length s d1 (by omega) (by omega) lx ak n1
 have ff:=λ q=>iQ N (dg Y) q (dg X).length s d2 (by omega) (by omega) lx ak n3
 have hK:=Nf (dg X).length s;obtain ⟨e1,x1,x2,x3⟩:=kV (V:=X) hK;obtain ⟨e2,y1,y2,y3⟩:=kV (V:=Y) hK;rw[v1]at ft;rw[v2]at ff;have tf:=kU d1 (n:=(dg X).length) (by omega) (by omega) ak n1;have xp:=kU d2 (n:=(dg X).length) (by omega) (by omega) ak n3;rw[v1]at tf;rw[v2]at xp;generalize Q3 (dg X).length s=K at *;generalize X/K=P at *;generalize Y/K=Q at *;rw[v1,v2]at lf;obtain ⟨rc,xq,a,b,c,d,⟨z1,z2,z3,z4,z5⟩,z6,rfl⟩:=zC N (P:Int) (Q:Int) (by omega) (by omega);have e1:(((dg X).length:Int)-1).toNat=(dg X).length-1:=by omega
 rw[<-e1]at Fz;refine Ev.xE N.KB rfl rfl ?_;by_cases hb:b=0
 ·(repeat' ((first|(apply AG<;>intro hc<;>try (exfalso;omega))|(apply B1;omega)|(apply CB;omega)|apply AR|(refine BG (by assumption) ?_ rfl ?_;omega)|apply AE|refine AD (Aa) ?_|refine AD (ft _) ?_|refine AD (ff _) ?_|refine AD (xq) ?_|refine AD (Uq _ _) ?_)<;>conv=>whnf))
  refine ⟨_,?_,Y,X%Y,⟨Nat.mod_lt _ (by omega),Nat.le_of_lt (Nat.mod_lt _ (by omega)),od,SX X Y⟩,rfl⟩;(conv=>whnf)
  exact AW rfl (R9 _ _)
 ·obtain ⟨g1,g2,g3,g4⟩:=z6 hb (X:Int) (Y:Int) (K:Int) _ _ (by omega) x1 y1 x2 x3 y2 y3
  obtain ⟨A,hA⟩:=Int.eq_ofNat_of_zero_le (show 0<=a*X+b*Y by omega);obtain ⟨B,hB⟩:=Int.eq_ofNat_of_zero_le g1;have s1:N9 a b:=by rcases z1 with ⟨h1,h2,h3,h4⟩|⟨h1,h2,h3,h4⟩<;>unfold N9<;>omega
  have s2:N9 c d:=by rcases z1 with ⟨h1,h2,h3,h4⟩|⟨h1,h2,h3,h4⟩<;>unfold N9<;>omega
  (repeat' ((first|(apply AG<;>intro hc<;>try (exfalso;omega))|(apply B1;omega)|(apply CB;omega)|apply AR|(refine BG (by assumption) ?_ rfl ?_;omega)|apply AE|refine AD (Aa) ?_|refine AD (ft _) ?_|refine AD (ff _) ?_|refine AD (xq) ?_|refine AD (lf a b A s1 hA.symm (by omega) _ _) ?_|refine AD (lf c d B s2 hB.symm (by omega) _ _) ?_)<;>conv=>whnf))
  rw[hA,hB]at g4;rw[hA,hB]at g2;refine ⟨_,?_,A,B,⟨by omega,by omega,by omega,by simpa using g4⟩,rfl⟩;(conv=>whnf)
  exact AW rfl (R9 _ _)
theorem jW (N:c5 L) (X Y:Nat) (od:Y<=X) (lx:(dg X).length<=549755813888) :
 AA L [It.lp F3.l1,It.e8 0,
   It.code
    ((((BC.ops F3.r6 false).dr [23,30,31] []).seq
       (BC.cond 32 (((BC.ops F3.r7 false).dr [5,6,32,33] []).seq BC.ret) BC.skip)).seq
     (((BC.ops F3.r8 false).dr [5,7,32,34,35,36,37,38,39] []).seq
      (((BC.ops F3.r9 false).dr [6,8,40,41,42,43] []).seq
       ((BC.block 2 F3.l2.loop).seq
        (((BC.ops F3.u9 false).dr [9,10,45,50,51,52,53,54,55,56] []).seq BC.ret)))))]
  [(6,AV.sl false (List.map AL (dg Y))),(5,AV.sl false (List.map AL (dg X)))] []
  (OC F3 (AV.sl false (List.map AL (dg (X.gcd Y))))):=by
 refine FV (λ_ y=>y) (λ(x y:Nat)=>y<=x/\(dg x).length<=549755813888/\Nat.gcd x y=Nat.gcd X Y) (λ x y=>[(6,AV.sl false (List.map AL (dg y))),(5,AV.sl false (List.map AL (dg x)))]) (λ_ _=>[]) [] [] X Y (by (conv=>whnf);exact ⟨rfl,rfl,rfl⟩) ⟨od,lx,rfl⟩ ?_;intro x y ⟨p1,p2,p3⟩ ih;rw[<-p3]at ih ⊢;generalize Nat.gcd X Y=G at *;clear od lx;subst p3;have hlen:=OI p1;by_cases h3:3<=(dg y).length
 ·obtain ⟨r,hr,A,B,⟨k1,k2,k3,k4⟩,rfl⟩:=zH N x y p1 h3 p2
  have k5:=OI k3;(repeat' ((first|(apply AG<;>intro hc<;>try (exfalso;omega))|apply AR|apply AE|refine AD (hr) ?_)<;>conv=>whnf))
  exact BQ [] (ih A B k1 ⟨k2,by omega,k4⟩)
 ·clear ih
  by_cases h0:y=0
  ·subst h0
   have nc:(dg 0).length=0:=by rw[EJ];rfl
   (repeat' ((first|(apply AG<;>intro hc<;>try (exfalso;omega))|apply AR|apply AE)<;>conv=>whnf))
   rw[Nat.gcd_zero_right];exact AW rfl (by simp only[A1,true_and];exact CT _)
  ·have hp:=SF h0
   have hm:=OI (Nat.le_of_lt (Nat.mod_lt x (show y>0 by omega)));have hd:=λ q q'=>YM N x y q q' h0 p2 (by omega)
   have Ch:=λ q=>iR N y q (by omega)
   have mn:=λ q=>iR N (x%y) q (by omega)
   have hb:y<18446744073709551616:=MU.1 (show (dg y).length<=2 by omega);have pd:x%y<y:=Nat.mod_lt _ (by omega);rw[<-SX x y];(repeat' ((first|(apply AG<;>intro hc<;>try (exfalso;omega))|apply AR|apply AE|refine AD (hd _ _) ?_|refine AD (Ch _) ?_|refine AD (mn _) ?_)<;>conv=>whnf))
   refine FV (λ_ q=>q) (λ(p q:Nat)=>p<18446744073709551616/\q<18446744073709551616/\Nat.gcd p q=Nat.gcd y (x%y)) (λ p q=>[(9,.int .u64 (p:Int)),(10,.int .u64 (q:Int))]) (λ_ _=>[]) [] [] y (x%y) (by (conv=>whnf);exact ⟨rfl,rfl,rfl⟩) ⟨hb,by omega,rfl⟩ ?_;intro p q ⟨g1,g2,g3⟩ ih;rw[<-g3]at ih ⊢;by_cases hq:q=0
   ·subst hq
    clear ih;obtain ⟨v1,v2⟩:=X1 g1;rw[Nat.gcd_zero_right];have ft:=EG v2;have ht:=TU v2;rw[v1]at ft ht;(repeat' ((first|(apply AG<;>intro hc<;>try (exfalso;omega))|apply EW|(apply D4;omega)|apply E8|apply AE)<;>conv=>whnf))
    generalize p%4294967296=lo at *;generalize p/4294967296=hi at *;refine T4 N v2 (by simp) rfl rfl ?_;rw[v1];(conv=>whnf)
    skip
    refine G2 (enc:=AL) (l:=[lo,hi]) (λ_=>rfl) (by omega) ?_;(conv=>whnf)
    refine AW ?_ (by simp only[A1,true_and];exact CT _);rw[List.drop_zero,ht]
   ·have Vz:p%q<q:=Nat.mod_lt _ (by omega)
    (repeat' ((first|(apply AG<;>intro hc<;>try (exfalso;omega))|(apply RT;omega)|apply AE)<;>conv=>whnf))
    exact BQ [] (ih q (p%q) Vz ⟨g2,by omega,SX p q⟩)
theorem zB (N:c5 L) (a b:List Nat) (q1 q2:Bool) (hA:AZ a) (hB:AZ b) (la:a.length<=549755813888) (lb:b.length<=549755813888) :
  Ev L 82 [.sl q1 (a.map AL),.sl q2 (b.map AL)] (.sl false ((dg (Nat.gcd (val a) (val b))).map AL)):=by
 have t1:=λ q=>SL N a q hA (by omega)
 have t2:=λ q=>SL N b q hB (by omega)
 have l1:=EG hA;have l2:=EG hB;have k7:=λ q q'=>NM N (dg (val a)) (dg (val b)) q q' (DK _) (DK _) (by omega) (by omega)
 rw[BL,BL]at k7;generalize val a=X at *;generalize val b=Y at *;refine Ev.x N.F3 rfl rfl ?_;by_cases l6:X<Y
 ·have hn:C0 X Y = -1:=(HJ (by omega)).symm
  rw[hn]at k7;(repeat' ((first|(apply AG<;>intro hc<;>try (exfalso;omega))|apply AE|refine AD (t1 _) ?_|refine AD (t2 _) ?_|refine AD (k7 _ _) ?_)<;>conv=>whnf))
  rw[Nat.gcd_comm];exact BV [] (by (conv=>whnf);exact ⟨rfl,rfl,rfl⟩) (jW N Y X (by omega) (by omega))
 ·have ig:0<=C0 X Y:=by unfold C0;split<;>(try split)<;>omega
  generalize C0 X Y=cm at *;(repeat' ((first|(apply AG<;>intro hc<;>try (exfalso;omega))|apply AE|refine AD (t1 _) ?_|refine AD (t2 _) ?_|refine AD (k7 _ _) ?_)<;>conv=>whnf))
  exact BV [] (by (conv=>whnf);exact ⟨rfl,rfl,rfl⟩) (jW N X Y (by omega) (by omega))
end Go.c4

namespace Go.c4
def RD (N:Nat):List ID->Bool
 | []=>true
 | .tmp t::r=>Nat.blt t N&&RD N r
 | .cell t _ _::r=>Nat.blt t N&&RD N r
theorem aM {N:Nat} {s s':St} (ho:s.own=s'.own) (jc : ∀ j,j<N->e9 s'.tm j=e9 s.tm j) : ∀ {res:List ID},RD N res=true->res.mapM (EQ s)=res.mapM (EQ s')
 | [],_=>rfl
 | .tmp t::r,h=>by
  simp only[RD,Bool.and_eq_true]at h;have:=aM ho jc h.2
  simp only[List.mapM_cons,EQ,jc t (PC.1 h.1),this]
 | .cell t agg n::r,h=>by
  simp only[RD,Bool.and_eq_true]at h;have:=aM ho jc h.2
  simp only[List.mapM_cons,EQ,jc t (PC.1 h.1),this,ho]
def rO (N:Nat) (fn:AFn) (tm:Tm) (K:AV->Mem->Prop) (w3:Tm) (M':Mem):Prop:=gh N w3=tm/\V4 w3 M' fn.res (λ rs=>Jq rs λ v=>K v M')
theorem ES {L:Lib} {f:Nat} {fn:AFn} {vs:List AV} {tm:Tm} {M:Mem} {K:AV->Mem->Prop} (N:Nat) (hL:L f=some fn) (hp:Nat.beq vs.length fn.v9=true) (hN:(Nat.ble fn.v9 N&&(HH N fn.body&&RD N fn.res))=true)
  (h:AA L [.code fn.body] (CH 0 vs++FR N tm) M (rO N fn tm K)):A5 L f vs tm M K:=by
 intro σ own hs;simp only[Bool.and_eq_true]at hN;obtain ⟨n1,n2,n3⟩:=hN;have n1:=Nat.le_of_ble_eq_true n1;have hp:vs.length=fn.v9:=Nat.eq_of_beq_eq_true hp;have Fj:RX σ (CH 0 vs++FR N tm) M ⟨JV (BB σ) (CH 0 vs++FR N tm),own⟩:=⟨λ j=>Or.inr (by rw[IW];exact IX (JF σ) j _),hs⟩;obtain ⟨n,c,s',hr,σ',w3,M',hR,hg,jy⟩:=h σ _ Fj;have Ei:Gh N (JV (BB σ) (FR N tm)) (CH 0 (vs.map (BB σ))) (JV (BB σ) (CH 0 vs++FR N tm)):=by
  constructor
  ·intro j hj
   rw[ZI,IX (JF σ),IX (JF σ)];rcases TY j (FR N tm) (CH 0 vs) with ⟨_,e⟩|⟨hn,e⟩
   ·rw[e]
   ·rw[e,cE hj,cC j 0 vs hn]
  ·intro j hj
   rw[IX (JF σ),IX (JF σ)];rcases TY j (FR N tm) (CH 0 vs) with ⟨hn,e⟩|⟨_,e⟩
   ·have:=ZH j 0 vs hn
    omega
   ·rw[e]
 obtain ⟨s,r1,r2,r3⟩:=HT n (by simp [OQ,n2]) Ei hr;obtain ⟨rs,i1,i2,i3⟩:=aL hR jy;rw[<-aM (s:=s) r2.symm r3.lo n3,i3]at i1;have key : ∃ r,G8 (rs.map (BO σ'))=BB σ' r/\K r M':=by
  match rs,i2,i3 with
  | [],h,_=>exact ⟨.j5 [],rfl,h⟩
  | [v],h,e =>
   simp only[List.map_cons,List.map_nil,List.cons.injEq,and_true]at e;exact ⟨v,by simp only[List.map_cons,List.map_nil,G8];exact e.symm,h⟩
  | a::b::l,h,_=>exact ⟨.j5 (a::b::l),rfl,h⟩
 obtain ⟨r,k1,k2⟩:=key;refine ⟨r,s.own,σ',M',FX.intro hL (by simpa using hp) ⟨n,c,s,r1,?_,rfl⟩,?_,?_,k2⟩
 ·rw[i1,Option.map_some,k1]
 ·rw[<-r2];exact hR.sat
 ·intro j
  have e1:tg tm j=tg w3 (N+j):=by rw[IW,IW,<-hg,cB]
  rcases hR.tm (N+j) with e|e
  ·rw[e1,e];rfl
  ·rw[e1,<-e,r3.hi (N+j) (by omega),IX (JF σ),cD,<-IW,e1]
end Go.c4

namespace Go.c4
open F
attribute [local irreducible] AA AF AU AC B6 AQ AX A9 A4 BS AP BR B0 C2 BN A0 BK B2 AB A5 AJ pw CG B4 CM CZ CU CP CN BJ B9
variable {L:Lib}
set_option maxHeartbeats 8000000
theorem qV {k:Nat} {K:Int->Prop} (h:0<k/\k<=9223372036854775808) (hk:K ((18446744073709551616-k:Nat):Int)):AQ .u64 (-(k:Int)) K:=by
 unfold AQ;have e:IntKind.u64.wrap (-(k:Int))=((18446744073709551616-k:Nat):Int):=by
  simp [IntKind.wrap,IntKind.bits,IntKind.signed];omega
 rw[e];exact hk
theorem B6.Bf {k:Nat} {K:AV->Prop} (h:0<k/\k<=9223372036854775808) (hk:K (.int .u64 (k:Int))):B6 .neg .u64 ((18446744073709551616-k:Nat):Int) K:=by
 refine B6.go (v := .int .u64 (IntKind.u64.wrap (0-((18446744073709551616-k:Nat):Int)))) rfl ?_;have e:IntKind.u64.wrap (0-((18446744073709551616-k:Nat):Int))=(k:Int):=by
  simp [IntKind.wrap,IntKind.bits,IntKind.signed];omega
 rw[e];exact hk
theorem yU (N:a7 L) (z:Int) (hz : -9223372036854775808<=z/\z<=9223372036854775807):Ev L 85 [.int .i64 z] (.agg (eZ z)):=by
 have two : ∀ k:Nat,k<18446744073709551616 -> ∀ q,Ev L 66 [.sl q [[.int .u32 ((k%4294967296:Nat):Int)],[.int .u32 ((k/4294967296:Nat):Int)]]] (.sl false ((dg k).map AL)):=λ k hk q=>by
  have:=SL N.toc5 [k%4294967296,k/4294967296] q (X1 hk).2 (by simp)
  rw[pB hk]at this;exact this
 refine Ev.x N.JQ rfl rfl ?_;by_cases h0:0<=z
 ·obtain ⟨k,rfl⟩:=Int.eq_ofNat_of_zero_le h0
  have hT:=two k (by omega);have z1:=HK k;(repeat' ((first|(apply AG<;>intro hc<;>try (exfalso;omega))|apply EW|(apply CB;omega)|(apply D4;omega)|apply E8|refine RW rfl rfl ?_|apply AE)<;>conv=>whnf))
  generalize k%4294967296=lo at *;generalize k/4294967296=hi at *;(repeat' (refine AD (hT _) ?_<;>conv=>whnf))
  refine ES 1000 N.C5 rfl rfl ?_;(repeat' (apply AE<;>conv=>whnf))
  all_goals (refine ⟨rfl,?_⟩;(conv=>whnf);skip)
  exact AW (EE (by omega) (FQ (by omega))) (DC _)
 ·obtain ⟨k,hk⟩:=Int.eq_ofNat_of_zero_le (show 0 <= -z by omega)
  obtain rfl:z = -(k:Int):=by omega
  have hT:=two k (by omega);have z1:=HK k;(repeat' (apply AE<;>conv=>whnf))
  refine qV (by omega) ?_;(conv=>whnf)
  (repeat' ((first|(apply AG<;>intro hc<;>try (exfalso;omega))|fail)<;>conv=>whnf))
  refine B6.Bf (by omega) ?_;(conv=>whnf)
  (repeat' ((first|(apply AG<;>intro hc<;>try (exfalso;omega))|apply EW|(apply D4;omega)|apply E8|refine RW rfl rfl ?_)<;>conv=>whnf))
  generalize k%4294967296=lo at *;generalize k/4294967296=hi at *;(repeat' (refine AD (hT _) ?_<;>conv=>whnf))
  refine ES 1000 N.C5 rfl rfl ?_;(repeat' ((first|(apply AG<;>intro hc<;>try (exfalso;omega))|apply AR|apply AE)<;>conv=>whnf))
  all_goals (refine ⟨rfl,?_⟩;(conv=>whnf);skip)
  exact AW (EE (by omega) (MD (by omega))) (DC _)
theorem iM (N:a7 L) (n q:Bool) (m:List Nat) (hm:Sm 549755813888 m):Ev L 84 [.agg (rZ q n m)] (.agg (eZ (zv n m))):=by
 have hT:=λ q=>SL N.toc5 m q hm.1 (by have:=hm.2;omega)
 have hz:=HK (val m);have ha:=EI n m;refine Ev.x N.JS rfl rfl ?_;cases n
 ·rw[EF]at *
  (repeat' ((first|apply AE|refine AD (hT _) ?_)<;>conv=>whnf))
  refine ES 1000 N.C5 rfl rfl ?_;(repeat' (apply AE<;>conv=>whnf))
  all_goals (refine ⟨rfl,?_⟩;(conv=>whnf);skip)
  exact AW (EE ha.symm (FQ (by omega))) (DC _)
 ·rw[M8]at *
  (repeat' ((first|apply AE|refine AD (hT _) ?_)<;>conv=>whnf))
  refine ES 1000 N.C5 rfl rfl ?_;(repeat' ((first|(apply AG<;>intro hc<;>try (exfalso;omega))|apply AR|apply AE)<;>conv=>whnf))
  all_goals (refine ⟨rfl,?_⟩;(conv=>whnf);skip)
  ·exact AW (EE ha.symm (MD (by omega))) (DC _)
  ·exact AW (EE ha.symm (FQ (by omega))) (DC _)
theorem VF (N:a7 L) (n q:Bool) (m:List Nat) (hm:Sm 549755813888 m):Ev L 86 [.agg (rZ q n m)] (.int .i64 (o5 (zv n m))):=by
 have k7:=λ q q'=>NM N.toc5 m [] q q' hm.1 QQ (by have:=hm.2;omega) (by simp)
 rw[HX]at k7;refine Ev.x N.JR rfl rfl ?_;by_cases h0:val m=0
 ·have hn:C0 (val m) (0:Nat)=0:=(PG (by omega)).symm
  rw[hn]at k7;(repeat' ((first|(apply AG<;>intro hc<;>try (exfalso;omega))|apply AE|refine AD (k7 _ _) ?_)<;>conv=>whnf))
  exact CY (WE (by have:=EI n m;omega))
 ·have hn:C0 (val m) (0:Nat)=1:=(MT (by omega)).symm
  rw[hn]at k7;cases n
  ·(repeat' ((first|(apply AG<;>intro hc<;>try (exfalso;omega))|apply AE|refine AD (k7 _ _) ?_)<;>conv=>whnf))
   exact CY (aW (by rw[EF];omega))
  ·(repeat' ((first|(apply AG<;>intro hc<;>try (exfalso;omega))|apply AE|refine AD (k7 _ _) ?_)<;>conv=>whnf))
   exact CY (aV (by rw[M8];omega))
theorem iK (N:a7 L) (n1 n2 q1 q2:Bool) (a b:List Nat) (ha:Sm 549755813888 a) (hb:Sm 549755813888 b):Ev L 87 [.agg (rZ q1 n1 a),.agg (rZ q2 n2 b)] (.agg (eZ (zv n1 a+zv n2 b))):=by
 have la:=ha.2;have lb:=hb.2;have h1:=λ q q'=>zA N.toc5 a b q q' ha.1 hb.1 (by omega) (by omega)
 have h2:=λ q q'=>iP N.toc5 a b q q' ha.1 hb.1 (by omega) (by omega)
 have h3:=λ q q'=>iP N.toc5 b a q q' hb.1 ha.1 (by omega) (by omega)
 have k7:=λ q q'=>NM N.toc5 a b q q' ha.1 hb.1 (by omega) (by omega)
 have z1:=HK (val a+val b);have z2:=HK (val a-val b);have z3:=HK (val b-val a);refine Ev.x N.JN rfl rfl ?_;by_cases l6:val a<val b
 ·have hn:C0 (val a) (val b) = -1:=(HJ (by omega)).symm
  rw[hn]at k7;cases n1<;>cases n2<;>simp only[EF,M8]
  ·(repeat' ((first|apply AE|refine AD (h1 _ _) ?_)<;>conv=>whnf))
   refine ES 1000 N.C5 rfl rfl ?_;(repeat' (apply AE<;>conv=>whnf))
   all_goals (refine ⟨rfl,?_⟩;(conv=>whnf);skip)
   exact AW (EE (by omega) (FQ (by omega))) (DC _)
  ·(repeat' ((first|(apply AG<;>intro hc<;>try (exfalso;omega))|apply AE|refine AD (h3 _ _) ?_|refine AD (k7 _ _) ?_)<;>conv=>whnf))
   refine ES 1000 N.C5 rfl rfl ?_;(repeat' ((first|(apply AG<;>intro hc<;>try (exfalso;omega))|apply AR|apply AE)<;>conv=>whnf))
   all_goals (refine ⟨rfl,?_⟩;(conv=>whnf);skip)
   ·exact AW (EE (by omega) (MD (by omega))) (DC _)
  ·(repeat' ((first|(apply AG<;>intro hc<;>try (exfalso;omega))|apply AE|refine AD (h3 _ _) ?_|refine AD (k7 _ _) ?_)<;>conv=>whnf))
   refine ES 1000 N.C5 rfl rfl ?_;(repeat' (apply AE<;>conv=>whnf))
   all_goals (refine ⟨rfl,?_⟩;(conv=>whnf);skip)
   ·exact AW (EE (by omega) (FQ (by omega))) (DC _)
  ·(repeat' ((first|apply AE|refine AD (h1 _ _) ?_)<;>conv=>whnf))
   refine ES 1000 N.C5 rfl rfl ?_;(repeat' ((first|(apply AG<;>intro hc<;>try (exfalso;omega))|apply AR|apply AE)<;>conv=>whnf))
   all_goals (refine ⟨rfl,?_⟩;(conv=>whnf);skip)
   ·exact AW (EE (by omega) (MD (by omega))) (DC _)
 ·have hn:C0 (val a) (val b) ≠ -1:=by unfold C0;split<;>(try split)<;>omega
  generalize C0 (val a) (val b)=cm at *;cases n1<;>cases n2<;>simp only[EF,M8]
  ·(repeat' ((first|apply AE|refine AD (h1 _ _) ?_)<;>conv=>whnf))
   refine ES 1000 N.C5 rfl rfl ?_;(repeat' (apply AE<;>conv=>whnf))
   all_goals (refine ⟨rfl,?_⟩;(conv=>whnf);skip)
   exact AW (EE (by omega) (FQ (by omega))) (DC _)
  ·(repeat' ((first|(apply AG<;>intro hc<;>try (exfalso;omega))|apply AE|refine AD (h2 _ _) ?_|refine AD (k7 _ _) ?_)<;>conv=>whnf))
   refine ES 1000 N.C5 rfl rfl ?_;(repeat' (apply AE<;>conv=>whnf))
   all_goals (refine ⟨rfl,?_⟩;(conv=>whnf);skip)
   exact AW (EE (by omega) (FQ (by omega))) (DC _)
  ·(repeat' ((first|(apply AG<;>intro hc<;>try (exfalso;omega))|apply AE|refine AD (h2 _ _) ?_|refine AD (k7 _ _) ?_)<;>conv=>whnf))
   refine ES 1000 N.C5 rfl rfl ?_;(repeat' ((first|(apply AG<;>intro hc<;>try (exfalso;omega))|apply AR|apply AE)<;>conv=>whnf))
   all_goals (refine ⟨rfl,?_⟩;(conv=>whnf);skip)
   ·exact AW (EE (by omega) (MD (by omega))) (DC _)
   ·exact AW (EE (by omega) (FQ (by omega))) (DC _)
  ·(repeat' ((first|apply AE|refine AD (h1 _ _) ?_)<;>conv=>whnf))
   refine ES 1000 N.C5 rfl rfl ?_;(repeat' ((first|(apply AG<;>intro hc<;>try (exfalso;omega))|apply AR|apply AE)<;>conv=>whnf))
   all_goals (refine ⟨rfl,?_⟩;(conv=>whnf);skip)
   ·exact AW (EE (by omega) (MD (by omega))) (DC _)
   ·exact AW (EE (by omega) (FQ (by omega))) (DC _)
theorem PN (N:a7 L) (n1 n2 q1 q2:Bool) (a b:List Nat) (ha:AZ a) (hb:AZ b) (hl:a.length+b.length<=1099511627776):Ev L 88 [.agg (rZ q1 n1 a),.agg (rZ q2 n2 b)] (.agg (eZ (zv n1 a*zv n2 b))):=by
 have h1:=λ q q'=>YL N.toc5 a b q q' ha hb hl
 have z1:=HK (val a*val b);have Dx:(zv n1 a*zv n2 b).natAbs=val a*val b:=by rw[Int.natAbs_mul,EI,EI]
 refine Ev.x N.JP rfl rfl ?_;have e:zv n1 a*zv n2 b=bif n1 == n2 then ((val a*val b:Nat):Int) else -((val a*val b:Nat):Int):=by
  cases n1<;>cases n2<;>simp [EF,M8,Int.mul_neg,Int.neg_mul]
 rw[e]at Dx ⊢;generalize val a*val b=V at *;cases n1<;>cases n2<;>simp only[beq_self_eq_true,cond_true,show (false == true)=false from rfl,show (true == false)=false from rfl,cond_false]
 ·(repeat' ((first|apply AE|refine AD (h1 _ _) ?_)<;>conv=>whnf))
  refine ES 1000 N.C5 rfl rfl ?_;(repeat' (apply AE<;>conv=>whnf))
  all_goals (refine ⟨rfl,?_⟩;(conv=>whnf);skip)
  exact AW (EE (by omega) (FQ (by omega))) (DC _)
 ·(repeat' ((first|apply AE|refine AD (h1 _ _) ?_)<;>conv=>whnf))
  refine ES 1000 N.C5 rfl rfl ?_;(repeat' ((first|(apply AG<;>intro hc<;>try (exfalso;omega))|apply AR|apply AE)<;>conv=>whnf))
  all_goals (refine ⟨rfl,?_⟩;(conv=>whnf);skip)
  ·exact AW (EE (by omega) (MD (by omega))) (DC _)
  ·exact AW (EE (by omega) (FQ (by omega))) (DC _)
 ·(repeat' ((first|apply AE|refine AD (h1 _ _) ?_)<;>conv=>whnf))
  refine ES 1000 N.C5 rfl rfl ?_;(repeat' ((first|(apply AG<;>intro hc<;>try (exfalso;omega))|apply AR|apply AE)<;>conv=>whnf))
  all_goals (refine ⟨rfl,?_⟩;(conv=>whnf);skip)
  ·exact AW (EE (by omega) (MD (by omega))) (DC _)
  ·exact AW (EE (by omega) (FQ (by omega))) (DC _)
 ·(repeat' ((first|apply AE|refine AD (h1 _ _) ?_)<;>conv=>whnf))
  refine ES 1000 N.C5 rfl rfl ?_;(repeat' (apply AE<;>conv=>whnf))
  all_goals (refine ⟨rfl,?_⟩;(conv=>whnf);skip)
  exact AW (EE (by omega) (FQ (by omega))) (DC _)
theorem X3:dg 1=[1]:=by rw[H3 (by omega)];simp [EJ]
theorem yX (N:a7 L) (V:Nat) (q:Bool):Ev L 90 [.sl q ((dg V).map AL)] (.bool (decide (V=1))):=by
 have hv:=BL V;have hD:=DK V;have h1:V=1->dg V=[1]:=λ h=>by rw[h,X3]
 generalize dg V=l at *;refine Ev.x N.K8 rfl rfl ?_;by_cases hl:l.length=1
 ·obtain ⟨d,rfl⟩:=List.length_eq_one_iff.1 hl
  have e:V=d:=by rw[<-hv];simp [val]
  subst e;have hd:[V][(0:Int).toNat]? = some V:=rfl;(repeat' ((first|(apply AG<;>intro hc<;>try (exfalso;omega))|apply AR|(refine BG (by assumption) ?_ rfl ?_;omega)|apply AE)<;>conv=>whnf))
  ·exact qW (by omega)
  ·exact cW (by omega)
 ·(repeat' ((first|(apply AG<;>intro hc<;>try (exfalso;omega))|apply AR|apply AE)<;>conv=>whnf))
  exact cW (λ h=>by rw[h1 h]at hl;simp at hl)
theorem SN (N:a7 L) (n q1 q2:Bool) (m d:List Nat) (hm:Sm 549755813888 m) (hd:Sm 549755813888 d) (h0:val d≠0):Ev L 94 [.agg (rQ q1 q2 n m d)] (.agg (eQ (qv n m d))):=by
 have wk:=λ q q'=>YK N.toc5 m d q q' hm.1 hd.1 hm.2 hd.2 h0
 have Cr:=EI n m;have sq:Sm 549755813888 (dg (val m/val d)):=hm.low (Nat.div_le_self _ _);have sr:Sm 549755813888 (dg (val m%val d)):=hd.low (Nat.le_of_lt (Nat.mod_lt _ (by omega)));have hT:=λ q=>iM N n q _ sq
 have hG:=λ q q'=>zB N.toc5 d (dg (val m%val d)) q q' hd.1 sr.1 hd.2 sr.2
 rw[BL,show Nat.gcd (val d) (val m%val d)=Nat.gcd (val d) (zv n m).natAbs by rw[Cr,SX,Nat.gcd_comm]]at hG;have Ej:=jX (zv n m).natAbs h0;have xg:=Nat.gcd_le_left (zv n m).natAbs (show 0<val d by omega);have hz:=HK (val m%val d);obtain ⟨e1,e2,e3⟩:=ZZ (z:=zv n m) h0;unfold qv;generalize To:Nat.gcd (val d) (zv n m).natAbs=g at *;have h1:=λ q=>yX N g q
 refine Ev.x N.LA rfl rfl ?_;by_cases ik:val m%val d=0
 ·(repeat' ((first|(apply AG<;>intro hc<;>try (exfalso;omega))|apply AR|apply AE|refine AD (wk _ _) ?_|refine AD (hT _) ?_)<;>conv=>whnf))
  refine ES 1000 N.GT rfl rfl ?_;(repeat' (apply AE<;>conv=>whnf))
  refine ⟨rfl,?_⟩;(conv=>whnf)
  (repeat' (refine H1 rfl ?_<;>conv=>whnf))
  have ig:g=val d:=by
   rw[<-To,Cr];exact Nat.gcd_eq_left (Nat.dvd_of_mod_eq_zero ik)
  have hv:=BL (val m/val d);refine AW ?_ ?_
  ·show _=AV.agg (rQ _ _ _ _ _)
   rw[e1,e2,e3,Cr,ig,Nat.div_self (by omega),EI,hv,X3];have hs:decide (zv n (dg (val m/val d))<0)=decide (zv n m<0):=by
    cases n
    ·rw[EF,EF];simp;omega
    ·rw[M8,M8,hv]
     congr 1;rw[eq_iff_iff];have h5:=Nat.div_add_mod (val m) (val d);rw[ik,Nat.add_zero]at h5;constructor
     ·intro h6
      have h7:val m/val d≠0:=by omega
      have:val m≠0:=λ h8=>h7 (by rw[h8,Nat.zero_div])
      omega
     ·intro h6
      have h7:val m/val d≠0:=λ h8=>by rw[h8,Nat.mul_zero]at h5;omega
      omega
   rw[hs];rfl
  ·exact C4 _
 ·by_cases vh:g=1
  ·have Tw:=λ q=>iM N n q m hm
   have Bp:=λ q=>SL N.toc5 d q hd.1 (by have:=hd.2;omega)
   (repeat' ((first|(apply AG<;>intro hc<;>try (exfalso;omega))|apply AR|apply AE|refine AD (wk _ _) ?_|refine AD (hG _ _) ?_|refine cR (h1 _) (λ hf => ?_) (λ hf => ?_)|refine AD (Tw _) ?_|refine AD (Bp _) ?_)<;>conv=>whnf))
   ·refine AW ?_ (UX _ _ _)
    show _=AV.agg (rQ _ _ _ _ _);rw[e1,e2,e3,vh,Nat.div_one,Nat.div_one]
   ·exact absurd vh hf
  ·have sg:Sm 549755813888 (dg g):=hd.low xg
   have mc:=λ q q'=>YK N.toc5 m (dg g) q q' hm.1 sg.1 hm.2 sg.2 (by rw[BL];omega)
   have me:=λ q q'=>YK N.toc5 d (dg g) q q' hd.1 sg.1 hd.2 sg.2 (by rw[BL];omega)
   rw[BL]at mc me;(repeat' ((first|(apply AG<;>intro hc<;>try (exfalso;omega))|apply AR|apply AE|refine AD (wk _ _) ?_|refine AD (hG _ _) ?_|refine cR (h1 _) (λ hf => ?_) (λ hf => ?_)|refine AD (mc _ _) ?_|refine AD (me _ _) ?_)<;>conv=>whnf))
   ·exact absurd hf vh
   ·refine AW ?_ (UX _ _ _)
    show _=AV.agg (rQ _ _ _ _ _);rw[e1,e2,e3,Cr];have hs:n=decide (zv n m<0):=by
     have:val m≠0:=λ h=>ik (by rw[h,Nat.zero_mod])
     cases n
     ·exact FQ (by rw[EF];omega)
     ·exact MD (by rw[M8];omega)
    rw[<-hs]
theorem QX (N:a7 L) (m:List Nat):Ev L 91 [.sl false (m.map AL)] (.agg [.bool false,.sl false (m.map AL)]):=by
 refine Ev.x N.K9 rfl rfl ?_;(repeat' (apply AE<;>conv=>whnf))
 exact AW rfl (eI _ _)
def rM (n:Bool) (m d:List Nat) (n':Bool) (m' d':List Nat) (w:Bool) (k:Nat):Prop:=Sm k m'/\Sm k d'/\val d'≠0/\(w=true->val d'=1)/\qv n m d=mkRat (zv n' m') (val d')
theorem MY (N:a7 L) (n:Bool) (m d:List Nat) (k:Nat) (hk:1<=k/\k<=549755813888) (hm:Sm k m) (hd:Sm k d) : ∃ n' m' d' w,Ev L 89 [.agg (rQ false false n m d)] (.agg [.bool n',.sl false (m'.map AL),.sl false (d'.map AL),.bool w])/\rM n m d n' m' d' w k:=by
 have k7:=λ q q'=>NM N.toc5 d [] q q' hd.1 QQ (by have:=hd.2;omega) (by simp)
 rw[HX]at k7;by_cases h1:d=[1]
 ·subst h1
  refine ⟨n,m,[1],true,?_,hm,hd,by decide,λ_=>rfl,rfl⟩;refine Ev.x N.HQ rfl rfl ?_;have hd:[1][(0:Int).toNat]? = some 1:=rfl;have qj:([1]:List Nat).length=1:=rfl;(repeat' ((first|(apply AG<;>intro hc<;>try (exfalso;omega))|apply AR|(refine BG (by assumption) ?_ rfl ?_;omega)|apply AE)<;>conv=>whnf))
  exact AW rfl (R7 _ _ _ _)
 have k8 : ∀ x,d[(0:Int).toNat]? = some x->(d.length:Int)=1->(x:Int)≠1:=λ x hx hl h=>by
  obtain ⟨y,rfl⟩:=List.length_eq_one_iff.1 (show d.length=1 by omega);simp at hx;apply h1;congr 1;omega
 by_cases h0:val d=0
 ·refine ⟨false,[],[1],true,?_,nS _,bG hk.1 (by omega),by decide,λ_=>rfl,by unfold qv;rw[h0,Rat.mkRat_zero,pN,Rat.zero_mkRat]⟩
  have hn:C0 (val d) (0:Nat)=0:=(PG (by omega)).symm;rw[hn]at k7;refine Ev.x N.HQ rfl rfl ?_;have hD:=hd.1;(repeat' ((first|(apply AG<;>intro hc<;>try (exfalso;omega))|apply AR|(refine OB (by assumption) ?_ (λ e he hb => ?_);omega)|refine H1 rfl ?_|apply AE|refine AD (k7 _ _) ?_)<;>conv=>whnf))
  all_goals first
   | exact AW rfl (R7 _ _ _ _)
   | exact AW rfl (R7 false true [] [1])
   | exact absurd (by assumption) (k8 _ he (by assumption))
 ·refine ⟨n,m,d,false,?_,hm,hd,h0,(λ h=>by cases h),rfl⟩
  have hn:C0 (val d) (0:Nat)=1:=(MT (by omega)).symm;rw[hn]at k7;have hD:=hd.1;refine Ev.x N.HQ rfl rfl ?_;(repeat' ((first|(apply AG<;>intro hc<;>try (exfalso;omega))|apply AR|(refine OB (by assumption) ?_ (λ e he hb => ?_);omega)|apply AE|refine AD (k7 _ _) ?_)<;>conv=>whnf))
  all_goals first
   | exact AW rfl (R7 _ _ _ _)
   | exact AW rfl (R7 false true [] [1])
   | exact absurd (by assumption) (k8 _ he (by assumption))
theorem YV (N:a7 L) (n q1 q2:Bool) (m d:List Nat) (hm:Sm 549755813888 m) (hd:Sm 549755813888 d):Ev L 95 [.agg (rQ q1 q2 n m d)] (.agg (eQ (qv n m d))):=by
 obtain ⟨n',m',d',w,hr,s1,s2,s3,s4,s5⟩:=MY N n m d 549755813888 (by omega) hm hd;have hl:=λ q1 q2=>SN N n' q1 q2 m' d' s1 s2 s3
 rw[s5];unfold qv at hl;refine Ev.x N.K6 rfl rfl ?_;(repeat' ((first|apply GA|apply AE|refine AD (hr) ?_|refine AD (hl _ _) ?_)<;>conv=>whnf))
 exact AW rfl (C4 _)
theorem jG (N:a7 L) (n q1 q2:Bool) (m d:List Nat) (hm:Sm 549755813888 m) (hd:Sm 549755813888 d):Ev L 97 [.agg (rQ q1 q2 n m d)] (.int .i64 (o5 (qv n m d).num)):=by
 obtain ⟨n',m',d',w,hr,s1,s2,s3,s4,s5⟩:=MY N n m d 549755813888 (by omega) hm hd;have hl:=λ q=>VF N n' q m' s1
 rw[s5,lO s3];refine Ev.x N.K4 rfl rfl ?_;(repeat' ((first|apply GA|apply AE|refine AD (hr) ?_|refine AD (hl _) ?_)<;>conv=>whnf))
 exact CY rfl
theorem XB (z:Int):AV.agg [.bool (decide (z<0)),.sl false ((dg z.natAbs).map AL),.sl false [[.int .u32 1]]] = .agg (eQ (z:Rat)):=by
 show _=AV.agg (rQ _ _ _ _ _);rw[Rat.num_intCast,Rat.den_intCast,X3];rfl
theorem HL (N:a7 L) (z:Int) (hz : -9223372036854775808<=z/\z<=9223372036854775807):Ev L 96 [.int .i64 z] (.agg (eQ (z:Rat))):=by
 have h1:=yU N z hz;refine Ev.x N.K3 rfl rfl ?_;(repeat' ((first|apply AE|refine AD (h1) ?_)<;>conv=>whnf))
 refine ES 1000 N.GT rfl rfl ?_;(repeat' (apply AE<;>conv=>whnf))
 refine ⟨rfl,?_⟩;(conv=>whnf)
 (repeat' (refine H1 rfl ?_<;>conv=>whnf))
 exact AW (XB z) (C4 _)
theorem P8 {k l:Nat} {n1 n2:Bool} {a b:List Nat} (ha:Sm k a) (hb:Sm l b):Sm (k+l) (dg (zv n1 a*zv n2 b).natAbs):=ha.mul hb (by rw[Int.natAbs_mul,EI,EI])
theorem nU {k:Nat} {x y:Int} (ha:Sm k (dg x.natAbs)) (hb:Sm k (dg y.natAbs)):Sm (k+1) (dg (x+y).natAbs):=ha.add hb (by rw[BL,BL];omega)
theorem jE (N:a7 L) (k:Nat) (hk:1<=k/\k<=68719476736) (n1 n2 q1 q2 q3 q4:Bool) (m1 d1 m2 d2:List Nat) (eh:Sm k m1) (jb:Sm k d1) (dp:Sm k m2) (mi:Sm k d2) :
  Ev L 98 [.agg (rQ q1 q2 n1 m1 d1),.agg (rQ q3 q4 n2 m2 d2)] (.agg (eQ (qv n1 m1 d1+qv n2 m2 d2))):=by
 obtain ⟨a1,a2,a3,w1,bh,s1,s2,s3,s4,s5⟩:=MY N n1 m1 d1 k (by omega) eh jb;obtain ⟨b1,b2,b3,w2,ah,t1,t2,t3,t4,t5⟩:=MY N n2 m2 d2 k (by omega) dp mi;rw[s5,t5];have hA:=λ q q'=>iK N a1 b1 q q' a2 b2 (s1.le (by omega)) (t1.le (by omega))
 have rn:Sm (k+1) (dg (zv a1 a2+zv b1 b2).natAbs):=nU (by rw[EI];exact s1.qp) (by rw[EI];exact t1.qp);by_cases hw:w1=true/\w2=true
 ·obtain ⟨rfl,rfl⟩:=hw
  rw[s4 rfl,t4 rfl,lL (by omega),lN];generalize zv a1 a2+zv b1 b2=z at *;refine Ev.x N.HP rfl rfl ?_;(repeat' ((first|apply GA|apply AE|refine AD (bh) ?_|refine AD (ah) ?_|refine AD (hA _ _) ?_)<;>conv=>whnf))
  refine ES 1000 N.GT rfl rfl ?_;(repeat' (apply AE<;>conv=>whnf))
  refine ⟨rfl,?_⟩;(conv=>whnf)
  (repeat' (refine H1 rfl ?_<;>conv=>whnf))
  exact AW (XB z) (C4 _)
 ·have k7:=λ q q'=>NM N.toc5 a3 b3 q q' s2.1 t2.1 (by have:=s2.2;omega) (by have:=t2.2;omega)
  by_cases Up:val a3=val b3
  ·have hn:C0 (val a3) (val b3)=0:=(PG (by omega)).symm
   rw[hn]at k7;rw[<-Up,lL s3];generalize zv a1 a2+zv b1 b2=z at *;have hl:=λ q1 q2=>SN N (decide (z<0)) q1 q2 (dg z.natAbs) a3 (rn.le (by omega)) (s2.le (by omega)) s3
   unfold qv at hl;rw[EV]at hl;refine Ev.x N.HP rfl rfl ?_;cases w1<;>cases w2
   ·(repeat' ((first|(apply AG<;>intro hc<;>try (exfalso;omega))|apply GA|apply AE|refine AD (bh) ?_|refine AD (ah) ?_|refine AD (hA _ _) ?_|refine AD (k7 _ _) ?_|refine AD (hl _ _) ?_)<;>conv=>whnf))
    exact AW rfl (C4 _)
   ·(repeat' ((first|(apply AG<;>intro hc<;>try (exfalso;omega))|apply GA|apply AE|refine AD (bh) ?_|refine AD (ah) ?_|refine AD (hA _ _) ?_|refine AD (k7 _ _) ?_|refine AD (hl _ _) ?_)<;>conv=>whnf))
    exact AW rfl (C4 _)
   ·(repeat' ((first|(apply AG<;>intro hc<;>try (exfalso;omega))|apply GA|apply AE|refine AD (bh) ?_|refine AD (ah) ?_|refine AD (hA _ _) ?_|refine AD (k7 _ _) ?_|refine AD (hl _ _) ?_)<;>conv=>whnf))
    exact AW rfl (C4 _)
   ·exact absurd ⟨rfl,rfl⟩ hw
  ·have hn:C0 (val a3) (val b3)≠0:=by unfold C0;split<;>(try split)<;>omega
   generalize C0 (val a3) (val b3)=cm at *;have dj:=λ q q'=>PN N a1 false q q' a2 b3 s1.1 t2.1 (by have:=s1.2;have:=t2.2;omega)
   have fo:=λ q q'=>PN N b1 false q q' b2 a3 t1.1 s2.1 (by have:=t1.2;have:=s2.2;omega)
   have mf:=λ q q'=>YL N.toc5 a3 b3 q q' s2.1 t2.1 (by have:=s2.2;have:=t2.2;omega)
   have rh:=QX N a3;have pe:=QX N b3;have g1:Sm (k+k) (dg (zv a1 a2*zv false b3).natAbs):=P8 s1 t2;have g2:Sm (k+k) (dg (zv b1 b2*zv false a3).natAbs):=P8 t1 s2;have g3:=nU g1 g2;have g4:Sm (k+k) (dg (val a3*val b3)):=s2.mul t2 rfl;rw[VQ s3 t3,<-EF b3,<-EF a3];have vb:val a3*val b3≠0:=Nat.mul_ne_zero s3 t3;generalize zv a1 a2*zv false b3=x at *;generalize zv b1 b2*zv false a3=y at *;generalize val a3*val b3=D at *;have wi:=λ q q'=>iK N (decide (x<0)) (decide (y<0)) q q' (dg x.natAbs) (dg y.natAbs) (g1.le (by omega)) (g2.le (by omega))
   rw[EV,EV]at wi;generalize x+y=z at *;have hl:=λ q1 q2=>SN N (decide (z<0)) q1 q2 (dg z.natAbs) (dg D) (g3.le (by omega)) (g4.le (by omega)) (by rw[BL];exact vb)
   unfold qv at hl;rw[EV,BL]at hl;refine Ev.x N.HP rfl rfl ?_;cases w1<;>cases w2
   ·(repeat' ((first|(apply AG<;>intro hc<;>try (exfalso;omega))|apply GA|apply O3|apply AE|refine AD (bh) ?_|refine AD (ah) ?_|refine AD (k7 _ _) ?_|refine AD (rh) ?_|refine AD (pe) ?_|refine AD (dj _ _) ?_|refine AD (fo _ _) ?_|refine AD (wi _ _) ?_|refine AD (mf _ _) ?_|refine AD (hl _ _) ?_)<;>conv=>whnf))
    exact AW rfl (C4 _)
   ·(repeat' ((first|(apply AG<;>intro hc<;>try (exfalso;omega))|apply GA|apply O3|apply AE|refine AD (bh) ?_|refine AD (ah) ?_|refine AD (k7 _ _) ?_|refine AD (rh) ?_|refine AD (pe) ?_|refine AD (dj _ _) ?_|refine AD (fo _ _) ?_|refine AD (wi _ _) ?_|refine AD (mf _ _) ?_|refine AD (hl _ _) ?_)<;>conv=>whnf))
    exact AW rfl (C4 _)
   ·(repeat' ((first|(apply AG<;>intro hc<;>try (exfalso;omega))|apply GA|apply O3|apply AE|refine AD (bh) ?_|refine AD (ah) ?_|refine AD (k7 _ _) ?_|refine AD (rh) ?_|refine AD (pe) ?_|refine AD (dj _ _) ?_|refine AD (fo _ _) ?_|refine AD (wi _ _) ?_|refine AD (mf _ _) ?_|refine AD (hl _ _) ?_)<;>conv=>whnf))
    exact AW rfl (C4 _)
   ·exact absurd ⟨rfl,rfl⟩ hw
theorem jF (N:a7 L) (k:Nat) (hk:1<=k/\k<=68719476736) (n1 n2 q1 q2 q3 q4:Bool) (m1 d1 m2 d2:List Nat) (eh:Sm k m1) (jb:Sm k d1) (dp:Sm k m2) (mi:Sm k d2) :
  Ev L 99 [.agg (rQ q1 q2 n1 m1 d1),.agg (rQ q3 q4 n2 m2 d2)] (.agg (eQ (qv n1 m1 d1*qv n2 m2 d2))):=by
 obtain ⟨a1,a2,a3,w1,bh,s1,s2,s3,s4,s5⟩:=MY N n1 m1 d1 k (by omega) eh jb;obtain ⟨b1,b2,b3,w2,ah,t1,t2,t3,t4,t5⟩:=MY N n2 m2 d2 k (by omega) dp mi;rw[s5,t5,ZX];have dj:=λ q q'=>PN N a1 b1 q q' a2 b2 s1.1 t1.1 (by have:=s1.2;have:=t1.2;omega)
 have mf:=λ q q'=>YL N.toc5 a3 b3 q q' s2.1 t2.1 (by have:=s2.2;have:=t2.2;omega)
 have g1:Sm (k+k) (dg (zv a1 a2*zv b1 b2).natAbs):=P8 s1 t1;have g4:Sm (k+k) (dg (val a3*val b3)):=s2.mul t2 rfl;have vb:val a3*val b3≠0:=Nat.mul_ne_zero s3 t3;generalize zv a1 a2*zv b1 b2=z at *;by_cases hw:w1=true/\w2=true
 ·obtain ⟨rfl,rfl⟩:=hw
  rw[s4 rfl,t4 rfl,Nat.one_mul,lN];refine Ev.x N.IQ rfl rfl ?_;(repeat' ((first|apply GA|apply AE|refine AD (bh) ?_|refine AD (ah) ?_|refine AD (dj _ _) ?_)<;>conv=>whnf))
  refine ES 1000 N.GT rfl rfl ?_;(repeat' (apply AE<;>conv=>whnf))
  refine ⟨rfl,?_⟩;(conv=>whnf)
  (repeat' (refine H1 rfl ?_<;>conv=>whnf))
  exact AW (XB z) (C4 _)
 ·generalize val a3*val b3=D at *
  have hl:=λ q1 q2=>SN N (decide (z<0)) q1 q2 (dg z.natAbs) (dg D) (g1.le (by omega)) (g4.le (by omega)) (by rw[BL];exact vb)
  unfold qv at hl;rw[EV,BL]at hl;refine Ev.x N.IQ rfl rfl ?_;cases w1<;>cases w2
  ·(repeat' ((first|apply GA|apply AE|refine AD (bh) ?_|refine AD (ah) ?_|refine AD (dj _ _) ?_|refine AD (mf _ _) ?_|refine AD (hl _ _) ?_)<;>conv=>whnf))
   exact AW rfl (C4 _)
  ·(repeat' ((first|apply GA|apply AE|refine AD (bh) ?_|refine AD (ah) ?_|refine AD (dj _ _) ?_|refine AD (mf _ _) ?_|refine AD (hl _ _) ?_)<;>conv=>whnf))
   exact AW rfl (C4 _)
  ·(repeat' ((first|apply GA|apply AE|refine AD (bh) ?_|refine AD (ah) ?_|refine AD (dj _ _) ?_|refine AD (mf _ _) ?_|refine AD (hl _ _) ?_)<;>conv=>whnf))
   exact AW rfl (C4 _)
  ·exact absurd ⟨rfl,rfl⟩ hw
theorem XT (x:Rat) (e:Int):A1 (.j5 [.agg (eQ x),.int .i64 e]):=by
 simp only[A1,CQ,and_true,true_and];exact ⟨CT _,CT _⟩
theorem Lq (N:a7 L) (k:Nat) (hk:1<=k/\k<=68719476736) (n1 n2 q1 q2 q3 q4:Bool) (m1 d1 m2 d2:List Nat) (eh:Sm k m1) (jb:Sm k d1) (dp:Sm k m2) (mi:Sm k d2) (h0:qv n2 m2 d2≠0) :
  Ev L 100 [.agg (rQ q1 q2 n1 m1 d1),.agg (rQ q3 q4 n2 m2 d2)] (.j5 [.agg (eQ (qv n1 m1 d1/qv n2 m2 d2)),.int .i64 0]):=by
 obtain ⟨a1,a2,a3,w1,bh,s1,s2,s3,s4,s5⟩:=MY N n1 m1 d1 k (by omega) eh jb;obtain ⟨b1,b2,b3,w2,ah,t1,t2,t3,t4,t5⟩:=MY N n2 m2 d2 k (by omega) dp mi;rw[t5]at h0;rw[s5,t5];have qg:zv b1 b2≠0:=λ h=>h0 ((ZY t3).2 h)
 rw[Mf s3 t3 qg];have hS:=λ q=>VF N b1 q b2 (t1.le (by omega))
 have Cj:o5 (zv b1 b2)≠0:=by unfold o5;split<;>(try split)<;>omega
 have dj:=λ q q'=>PN N a1 false q q' a2 b3 s1.1 t2.1 (by have:=s1.2;have:=t2.2;omega)
 have fo:=λ q q'=>PN N false b1 q q' a3 b2 s2.1 t1.1 (by have:=t1.2;have:=s2.2;omega)
 have rh:=QX N a3;have pe:=QX N b3;have g1:Sm (k+k) (dg (zv a1 a2*zv false b3).natAbs):=P8 s1 t2;have g2:Sm (k+k) (dg (zv false a3*zv b1 b2).natAbs):=P8 s2 t1;have hd:(zv false a3*zv b1 b2).natAbs=val a3*(zv b1 b2).natAbs:=by rw[Int.natAbs_mul,EI]
 have vd:(zv false a3*zv b1 b2).sign=(zv b1 b2).sign:=by
  rw[Int.sign_mul,EF,Int.sign_eq_one_of_pos (by omega),Int.one_mul]
 have iu:zv false a3*zv b1 b2≠0:=by
  intro h;rw[h]at vd;exact qg (by simpa using vd.symm)
 rw[<-hd,<-vd,<-EF b3];generalize zv a1 a2*zv false b3=x at *;generalize zv false a3*zv b1 b2=y at *;generalize o5 (zv b1 b2)=sg at *;have hl:=λ q1 q2=>SN N (decide (x<0) != decide (y<0)) q1 q2 (dg x.natAbs) (dg y.natAbs) (g1.le (by omega)) (g2.le (by omega)) (by rw[BL];omega)
 unfold qv at hl;rw[Rw iu,BL]at hl;refine Ev.x N.K1 rfl rfl ?_;(repeat' ((first|(apply AG<;>intro hc<;>try (exfalso;omega))|apply GA|apply O3|apply AE|refine AD (bh) ?_|refine AD (ah) ?_|refine AD (hS _) ?_|refine AD (rh) ?_|refine AD (pe) ?_|refine AD (dj _ _) ?_|refine AD (fo _ _) ?_)<;>conv=>whnf))
 refine ES 1000 N.LB rfl rfl ?_;(repeat' (apply AE<;>conv=>whnf))
 generalize decide (x<0)=p at *;generalize decide (y<0)=r at *;cases p<;>cases r;all_goals
  (conv=>whnf)
  refine ⟨rfl,?_⟩;(conv=>whnf)
  (repeat' (refine AD (hl _ _) ?_<;>conv=>whnf))
  exact AW rfl (XT _ _)
theorem Bt.sm {k:Nat} {x:Rat} (h:Bt k x) (hk:k<2199023255552):Sm 68719476736 (dg x.num.natAbs)/\Sm 68719476736 (dg x.den):=h.Gy (by omega)
theorem MX (N:a7 L) {x y:Rat} {k l:Nat} (hx:Bt k x) (hy:Bt l y) (hk:k<2199023255552) (hl:l<2199023255552):Ev L 98 [.agg (eQ x),.agg (eQ y)] (.agg (eQ (x+y))):=by
 have:=jE N 68719476736 (by omega) (decide (x.num<0)) (decide (y.num<0)) false false false false _ _ _ _ (hx.sm hk).1 (hx.sm hk).2 (hy.sm hl).1 (hy.sm hl).2
 rw[EP,EP]at this;exact this
theorem I7 (N:a7 L) {x y:Rat} {k l:Nat} (hx:Bt k x) (hy:Bt l y) (hk:k<2199023255552) (hl:l<2199023255552):Ev L 99 [.agg (eQ x),.agg (eQ y)] (.agg (eQ (x*y))):=by
 have:=jF N 68719476736 (by omega) (decide (x.num<0)) (decide (y.num<0)) false false false false _ _ _ _ (hx.sm hk).1 (hx.sm hk).2 (hy.sm hl).1 (hy.sm hl).2
 rw[EP,EP]at this;exact this
theorem iH (N:a7 L) {x y:Rat} {k l:Nat} (hx:Bt k x) (hy:Bt l y) (hk:k<2199023255552) (hl:l<2199023255552) (h0:y≠0):Ev L 100 [.agg (eQ x),.agg (eQ y)] (.j5 [.agg (eQ (x/y)),.int .i64 0]):=by
 have:=Lq N 68719476736 (by omega) (decide (x.num<0)) (decide (y.num<0)) false false false false _ _ _ _ (hx.sm hk).1 (hx.sm hk).2 (hy.sm hl).1 (hy.sm hl).2 (by rw[EP];exact h0)
 rw[EP,EP]at this;exact this
theorem YX (N:a7 L) {x:Rat} {k:Nat} (hx:Bt k x) (hk:k<2199023255552):Ev L 95 [.agg (eQ x)] (.agg (eQ x)):=by
 have:=YV N (decide (x.num<0)) false false _ _ ((hx.sm hk).1.le (by omega)) ((hx.sm hk).2.le (by omega))
 rw[EP]at this;exact this
theorem QZ (N:a7 L) {x:Rat} {k:Nat} (hx:Bt k x) (hk:k<2199023255552):Ev L 97 [.agg (eQ x)] (.int .i64 (o5 x.num)):=by
 have:=jG N (decide (x.num<0)) false false _ _ ((hx.sm hk).1.le (by omega)) ((hx.sm hk).2.le (by omega))
 rw[EP]at this;exact this
theorem N0 {x:Rat}:o5 x.num=0↔x=0:=by
 rw[<-Rat.num_eq_zero];unfold o5;split
 ·omega
 ·split<;>omega
theorem mT (n:Bool) (m d:List Nat):qv (!n) m d = -(qv n m d):=by
 unfold qv;have h:zv (!n) m = -(zv n m):=by cases n<;>simp [zv]
 rw[h,Rat.neg_mkRat]
theorem uG (n:Bool) (m d:List Nat):A1 (.agg (rQ false false n m d)):=by
 simp only[A1,CQ,and_true,true_and];exact ⟨CT _,CT _⟩
theorem iJ (N:af L) (n:Bool) (m d:List Nat):Ev L 149 [.agg (rQ false false n m d)] (.agg (rQ false false (!n) m d)):=by
 refine Ev.x N.K7 rfl rfl ?_;cases n;all_goals
  (repeat' (apply AE<;>conv=>whnf))
  exact AW rfl (uG _ _ _)
theorem Lt (N:af L) {x y:Rat} {k l:Nat} (hx:Bt k x) (hy:Bt l y) (hk:k<2199023255552) (hl:l<2199023255552):Ev L 150 [.agg (eQ x),.agg (eQ y)] (.agg (eQ (x-y))):=by
 have hF:=iJ N (decide (y.num<0)) (dg y.num.natAbs) (dg y.den);have hA:=λ q3 q4=>jE N.toa7 68719476736 (by omega) (decide (x.num<0)) (!decide (y.num<0)) false false q3 q4 _ _ _ _ (hx.sm hk).1 (hx.sm hk).2 (hy.sm hl).1 (hy.sm hl).2
 rw[mT,EP,EP,<-Rat.sub_eq_add_neg]at hA;refine Ev.x N.K5 rfl rfl ?_;(repeat' ((first|apply cX|apply AE|refine AD (hF) ?_|refine AD (hA _ _) ?_)<;>conv=>whnf))
 exact AW rfl (C4 _)
theorem ZC {l:List Rat} {i:Nat} {x:Rat} (h:l[i]? = some x):l.getD i 0=x:=by rw[List.getD_eq_getElem?_getD,h];rfl
theorem Ma {l:List Rat} {i:Nat} (h:l.length<=i):l.getD i 0=0:=by rw[List.getD_eq_getElem?_getD,List.getElem?_eq_none h];rfl
end Go.c4

namespace Go.c4
open F
attribute [local irreducible] AA AF AU AC B6 AQ AX A9 A4 BS AP BR B0 C2 BN A0 BK B2 AB A5 AJ pw CG B4 CM CZ CU CP CN BJ B9
variable {L:Lib} (n:Nt)
set_option maxHeartbeats 1000000
end Go.c4

namespace Go.c4
open F
attribute [local irreducible] AA AF AU AC B6 AQ AX A9 A4 BS AP BR B0 C2 BN A0 BK B2 AB A5 AJ pw CG B4 CM CZ CU CP CN BJ B9
variable {L:Lib}
set_option maxHeartbeats 4000000
theorem YI (N:o4 L) (S:CR) (n k:Nat) (h:S.Ok n k) (hn:n<=64):Ev L 130 [.agg (eS S)] (.bool true):=by
 have h1:=h.la;have h2:=h.lb;have h3:=h.lc;refine Ev.x N.KF rfl rfl ?_;(repeat' ((first|(apply AG<;>intro hc<;>try (exfalso;omega))|apply AR|apply AE)<;>conv=>whnf))
 refine CK (λ i=>S.a.length-i) (λ(i:Nat)=>i<=S.a.length) (λ i=>[(28,.int .i64 i)]) (λ_=>[]) [] [] 0 (by (conv=>whnf);exact ⟨rfl,rfl,rfl⟩) (by omega) ?_;intro i p1 ih;by_cases hi:i<S.a.length
 ·obtain ⟨r,hr⟩ : ∃ r,S.a[i]? = some r:=⟨_,zE hi⟩
  have lq:S.a[(i:Int).toNat]? = some r:=hr;have df:=h.lr r (zM hr);(repeat' ((first|(apply AG<;>intro hc<;>try (exfalso;omega))|(apply AY;omega)|apply AR|(refine BG (by assumption) ?_ rfl ?_;omega)|apply AE)<;>conv=>whnf))
  exact BQ [] (ih (i+1) (by omega) (by omega))
 ·obtain rfl:i=S.a.length:=by omega
  clear ih;(repeat' ((first|(apply AG<;>intro hc<;>try (exfalso;omega))|apply AE)<;>conv=>whnf))
  exact JG rfl
theorem Lv (N:o4 L) (n:Nat) (hn:n<=65536):Ev L 131 [.int .i64 (n:Int)] (.sl false ((List.replicate n (0:Rat)).map eQ)):=by
 have hO:=HL N.toa7 0 (by omega);refine Ev.x N.IO rfl rfl ?_;(repeat' (apply AE<;>conv=>whnf))
 refine ET (enc:=eO) none n rfl rfl (by omega) ?_;(conv=>whnf)
 skip
 refine CK (λ i=>n-i) (λ(i:Nat)=>i<=n) (λ i=>[(9,.int .i64 i)]) (λ i=>[(131006,131006,.rw 3 ((FB (List.replicate i 0) n).map eO))]) [] [] 0 (by first|exact (by (conv=>whnf);exact ⟨rfl,rfl,rfl⟩)|(rw[<-OM];exact (by (conv=>whnf);exact ⟨rfl,rfl,rfl⟩))) (by omega) ?_;intro i p1 ih;by_cases hi:i<n
 ·have hl:=OL (l:=List.replicate i (0:Rat)) (m:=n) (by simp;omega)
  have hs:=ON (l:=List.replicate i (0:Rat)) (m:=n) (x:=0) (by simp;omega);rw[List.length_replicate]at hs;(repeat' ((first|(apply AG<;>intro hc<;>try (exfalso;omega))|(apply BA;omega)|apply AE|refine AD (hO) ?_)<;>conv=>whnf))
  refine I3 (enc:=eO) (some 0) rfl (λ e=>by cases e<;>rfl) (by omega) ?_;(conv=>whnf)
  (repeat' ((first|(apply AY;omega)|fail)<;>conv=>whnf))
  rw[hs];rw[show List.replicate i (0:Rat)++[0]=List.replicate (i+1) 0 by rw[List.replicate_succ']];exact BQ [] (ih (i+1) (by omega) (by omega))
 ·obtain rfl:i=n:=by omega
  clear ih;rw[OK (by simp)];(repeat' ((first|(apply AG<;>intro hc<;>try (exfalso;omega))|(refine DE (λ_=>rfl) rfl ?_ ?_;(first|rfl|simp))|apply AE)<;>conv=>whnf))
  exact AW rfl (by simp only[A1,true_and];exact IG _)
theorem iY (N:o4 L) (a b:List Rat) (q1 q2:Bool) (k s:Nat) (hl:a.length=b.length) (ha:Bs k a) (hb:Bs s b) (hK:a.length*(k+s+1)+k+s<2199023255552) (dw:a.length<=1099511627776):Ev L 132 [.sl q1 (a.map eQ),.sl q2 (b.map eQ)] (.agg (eQ (A6 a b))):=by
 have hO:=HL N.toa7 0 (by omega);refine Ev.x N.KG rfl rfl ?_;(repeat' ((first|apply AR|apply AE|refine AD (hO) ?_)<;>conv=>whnf))
 refine FV (λ i _=>a.length-i) (λ(i:Nat) (acc:Rat)=>i<=a.length/\acc=A6 (a.take i) (b.take i)) (λ i acc=>[(11,.int .i64 i)]) (λ i acc=>[(5,5,.bx (eQ acc))]) [] [] 0 ((0:Int):Rat) (by (conv=>whnf);exact ⟨rfl,rfl,rfl⟩) ⟨by omega,by simp [A6]⟩ ?_;intro i acc ⟨p1,p2⟩ ih;by_cases hi:i<a.length
 ·obtain ⟨x,hx⟩ : ∃ x,a[i]? = some x:=⟨_,zE hi⟩
  obtain ⟨y,hy⟩ : ∃ y,b[i]? = some y:=⟨_,zE (by omega)⟩;have jf:a[(i:Int).toNat]? = some x:=hx;have qo:b[(i:Int).toNat]? = some y:=hy;have bx:=ha.at hx;have wg:=hb.at hy
  have kp:=QZ N.toa7 bx (by omega);have oc:=QZ N.toa7 wg (by omega)
  have hM:=I7 N.toa7 bx wg (by omega) (by omega)
  have uo:Bt (a.length*(k+s+1)) acc:=by
   rw[p2];have:=(ha.take i).dot (hb.take i)
   refine this.le (Nat.mul_le_mul_right _ ?_);rw[List.length_take];omega
  have hA:=MX N.toa7 uo (bx.mul wg) (by omega) (by omega);have j9:=QR hx hy;have z1:=N0 (x:=x);have z2:=N0 (x:=y);generalize o5 x.num=sx at *;generalize o5 y.num=sy at *;by_cases h1:sx=0
  ·have pt:=z1.1 h1
   (repeat' ((first|(apply AG<;>intro hc<;>try (exfalso;omega))|(apply AY;omega)|(refine BG (by assumption) ?_ rfl ?_;omega)|apply AE|refine AD (kp) ?_)<;>conv=>whnf))
   refine BV [] (by (conv=>whnf);exact ⟨rfl,rfl,rfl⟩) (ih (i+1) acc (by omega) ⟨by omega,?_⟩);rw[j9,pt,Rat.zero_mul,Rat.add_zero];exact p2
  ·by_cases h2:sy=0
   ·have iu:=z2.1 h2
    (repeat' ((first|(apply AG<;>intro hc<;>try (exfalso;omega))|(apply AY;omega)|(refine BG (by assumption) ?_ rfl ?_;omega)|apply AE|refine AD (kp) ?_|refine AD (oc) ?_)<;>conv=>whnf))
    refine BV [] (by (conv=>whnf);exact ⟨rfl,rfl,rfl⟩) (ih (i+1) acc (by omega) ⟨by omega,?_⟩);rw[j9,iu,Rat.mul_zero,Rat.add_zero];exact p2
   ·(repeat' ((first|(apply AG<;>intro hc<;>try (exfalso;omega))|(apply AY;omega)|(refine BG (by assumption) ?_ rfl ?_;omega)|apply AE|refine AD (kp) ?_|refine AD (oc) ?_|refine AD (hM) ?_|refine AD (hA) ?_)<;>conv=>whnf))
    refine BV [] (by (conv=>whnf);exact ⟨rfl,rfl,rfl⟩) (ih (i+1) (acc+x*y) (by omega) ⟨by omega,?_⟩);rw[j9,<-p2]
 ·obtain rfl:i=a.length:=by omega
  clear ih;rw[SG rfl]at p2;rw[<-p2];(repeat' ((first|(apply AG<;>intro hc<;>try (exfalso;omega))|apply AE)<;>conv=>whnf))
  exact AW rfl (C4 _)
theorem yR (N:o4 L) (S:CR) (dm kz sz:Nat) (h:S.Ok dm kz) (hn:dm<=64) (st xs:List Rat) (q1 q2:Bool) (j9:st.length=dm) (Gw:Bs sz st) (Gx:Bs kz xs) (Cp:xs.length<=4096)
  (hK : ∀ i,i<=xs.length->NX dm kz sz i<1099511627776) (gu:sz<1099511627776) (Ia:kz<1099511627776) :
  Ev L 133 [.agg (eS S),.sl q1 (st.map eQ),.sl q2 (xs.map eQ)] (.j5 [.sl false ((S.outs st xs).map eQ),.sl false ((S.state st xs).map eQ),.int .i64 0]):=by
 have Dp:=YI N S dm kz h hn;have tc:=h.la;have Cc:=h.lb;have de:=h.lc;refine Ev.x N.KE rfl rfl ?_;(repeat' ((first|(apply AG<;>intro hc<;>try (exfalso;omega))|apply AR|apply AE|refine AD (Dp) ?_)<;>conv=>whnf))
 refine ET (enc:=eO) none st.length rfl rfl (by omega) ?_;(conv=>whnf)
 (repeat' (apply AR<;>conv=>whnf))
 refine CK (λ i=>st.length-i) (λ(i:Nat)=>i<=st.length) (λ i=>[(35,.int .i64 i)]) (λ i=>[(133032,133032,.rw 3 ((FB (st.take i) st.length).map eO))]) [] [] 0 (by first|exact (by (conv=>whnf);exact ⟨rfl,rfl,rfl⟩)|(rw[List.take_zero,<-OM];exact (by (conv=>whnf);exact ⟨rfl,rfl,rfl⟩))) (by omega) ?_;intro i p1 ih;by_cases hi:i<st.length
 ·obtain ⟨x,hx⟩ : ∃ x,st[i]? = some x:=⟨_,zE hi⟩
  have jf:st[(i:Int).toNat]? = some x:=hx;have hT:=YX N.toa7 (Gw.at hx) (by omega);have hl:=OL (l:=st.take i) (m:=st.length) (by rw[List.length_take];omega);have hs:=ON (l:=st.take i) (m:=st.length) (x:=x) (by rw[List.length_take];omega);rw[List.length_take,Nat.min_eq_left (by omega),<-TV hx]at hs;(repeat' ((first|(apply AG<;>intro hc<;>try (exfalso;omega))|(apply BA;omega)|(refine BG (by assumption) ?_ rfl ?_;omega)|apply AE|refine AD (hT) ?_)<;>conv=>whnf))
  refine I3 (enc:=eO) (some x) rfl (λ e=>by cases e<;>rfl) (by omega) ?_;(conv=>whnf)
  (repeat' ((first|(apply AY;omega)|fail)<;>conv=>whnf))
  rw[hs];exact BQ [] (ih (i+1) (by omega) (by omega))
 obtain rfl:i=st.length:=by omega
 clear ih;rw[List.take_of_length_le (Nat.le_refl _),OK rfl];(repeat' ((first|(apply AG<;>intro hc<;>try (exfalso;omega))|apply AR|apply AE)<;>conv=>whnf))
 refine ET (enc:=eO) none 0 rfl rfl (by omega) ?_;(conv=>whnf)
 (repeat' (apply AR<;>conv=>whnf))
 refine WZ (λ i _ _ _=>xs.length-i) (λ(i:Nat) (nw os:List Rat) (_:Nat)=>i<=xs.length/\nw=S.state st (xs.take i)/\os=S.outs st (xs.take i)) (λ i nw os _=>[(51,.int .i64 i),(12,.row 133048 0 3 0 os.length),(9,.row 133032 0 3 0 nw.length)]) (λ i nw os t=>[(133048,133048,.rw 3 (os.map eQ)),(133032,t,.rw 3 (nw.map eQ))]) [] [] 0 st [] 133032 (by (conv=>whnf);exact ⟨rfl,rfl,rfl⟩) ⟨by omega,rfl,rfl⟩ ?_;intro i nw os t ⟨p1,p2,p3⟩ ih;have nf:nw.length=dm:=by rw[p2];exact h.fx _ _ j9
 have Cf:os.length=i:=by rw[p3,V0,List.length_take];omega
 by_cases hi:i<xs.length
 ·obtain ⟨x,hx⟩ : ∃ x,xs[i]? = some x:=⟨_,zE hi⟩
  have jf:xs[(i:Int).toNat]? = some x:=hx;have bx:=Gx.at hx;have yi:Bs (NX dm kz sz i) nw:=by
   have:=h.iy (xs.take i) st sz j9 Gw (Gx.take i)
   rw[List.length_take,Nat.min_eq_left (by omega)]at this;rw[p2];exact this
  have Yi:=hK i (by omega);have fh:=hK (i+1) (by omega);rw[mY]at fh;obtain ⟨bn,bo⟩:=h.ma nf yi bx;have Fq:S.state st (xs.take (i+1))=S.next nw x:=by rw[TV hx,oJ,<-p2]
  have Ez:S.outs st (xs.take (i+1))=os++[S.out nw x]:=by rw[TV hx,mM,<-p2,<-p3]
  generalize fe:NX dm kz sz i=kk at *;have Vd:dm*(kz+kk+1)+(kz+kz)+1<1099511627776:=by unfold N3 at fh;exact fh
  have hP:=λ q q'=>iY N S.c nw q q' kz kk (by omega) h.bc yi (by rw[de];omega) (by omega)
  have dj:=I7 N.toa7 h.bd bx (by omega) (by omega);have Gt:=h.bc.dot yi;rw[de]at Gt;have Ti:=MX N.toa7 Gt (h.bd.mul bx) (by omega) (by omega);(repeat' ((first|(apply AG<;>intro hc<;>try (exfalso;omega))|(refine BG (by assumption) ?_ rfl ?_;omega)|(refine DE (λ_=>rfl) rfl ?_ ?_;(first|rfl|simp))|apply EN|apply AE|refine AD (hP _ _) ?_|refine AD (dj) ?_|refine AD (Ti) ?_)<;>conv=>whnf))
  refine FH (enc:=eQ) (S.out nw x) rfl rfl rfl (by omega) (by omega) ?_;(conv=>whnf)
  skip
  refine ET (enc:=eO) none nw.length rfl rfl (by omega) ?_;(conv=>whnf)
  (repeat' (apply AR<;>conv=>whnf))
  have Vv:=h.eu nw x;generalize Tq:S.next nw x=nx at *
  refine CK (λ j=>S.a.length-j) (λ(j:Nat)=>j<=S.a.length) (λ j=>[(73,.int .i64 j)]) (λ j=>[(133069,133069,.rw 3 ((FB (nx.take j) nw.length).map eO))]) [] [] 0 (by first|exact (by (conv=>whnf);exact ⟨rfl,rfl,rfl⟩)|(rw[List.take_zero,<-OM];exact (by (conv=>whnf);exact ⟨rfl,rfl,rfl⟩))) (by omega) ?_;intro j r1 jh;by_cases hj:j<S.a.length
  ·obtain ⟨r,hr⟩ : ∃ r,S.a[j]? = some r:=⟨_,zE hj⟩
   obtain ⟨b,qg⟩ : ∃ b,S.b[j]? = some b:=⟨_,zE (by omega)⟩;have lq:S.a[(j:Int).toNat]? = some r:=hr;have k6:S.b[(j:Int).toNat]? = some b:=qg;have df:=h.lr r (zM hr);have bb:=h.bb.at qg;have wm:=λ q q'=>iY N r nw q q' kz kk (by omega) (h.ba r (zM hr)) yi (by rw[df];omega) (by omega)
   have fo:=I7 N.toa7 bb bx (by omega) (by omega);have Gu:=(h.ba r (zM hr)).dot yi;rw[df]at Gu;have wi:=MX N.toa7 Gu (bb.mul bx) (by omega) (by omega);have Vt:nx[j]? = some (A6 r nw+b*x):=by rw[<-Tq];exact lT nw x S.a S.b j r b hr qg
   have hl:=OL (l:=nx.take j) (m:=nw.length) (by rw[List.length_take];omega);have hs:=ON (l:=nx.take j) (m:=nw.length) (x:=A6 r nw+b*x) (by rw[List.length_take];omega);rw[List.length_take,Nat.min_eq_left (by omega),<-TV Vt]at hs;generalize A6 r nw+b*x=y at *;(repeat' ((first|(apply AG<;>intro hc<;>try (exfalso;omega))|(apply BA;omega)|(refine BG (by assumption) ?_ rfl ?_;omega)|(refine DE (λ_=>rfl) rfl ?_ ?_;(first|rfl|simp))|apply AE|refine AD (wm _ _) ?_|refine AD (fo) ?_|refine AD (wi) ?_)<;>conv=>whnf))
   refine I3 (enc:=eO) (some y) rfl (λ e=>by cases e<;>rfl) (by omega) ?_;(conv=>whnf)
   (repeat' ((first|(apply AY;omega)|fail)<;>conv=>whnf))
   rw[hs];exact BQ [] (jh (j+1) (by omega) (by omega))
  ·obtain rfl:j=S.a.length:=by omega
   clear jh;rw[List.take_of_length_le (by omega),OK (by omega)];rw[show nw.length=nx.length by omega];(repeat' ((first|(apply AG<;>intro hc<;>try (exfalso;omega))|(apply AY;omega)|apply AE)<;>conv=>whnf))
   refine BQ [(133032,133069),(133048,133066)] (ih (i+1) nx (os++[S.out nw x]) 133069 (by omega) ⟨by omega,by rw[Fq],by rw[Ez]⟩)
 ·obtain rfl:i=xs.length:=by omega
  clear ih;rw[List.take_of_length_le (Nat.le_refl _)]at p2 p3;rw[<-p2,<-p3];(repeat' ((first|(apply AG<;>intro hc<;>try (exfalso;omega))|(refine DE (λ_=>rfl) rfl ?_ ?_;(first|rfl|simp))|apply AE)<;>conv=>whnf))
  exact AW rfl (uH _ _ _)
theorem Bs.Bh (k n:Nat):Bs k (List.replicate n 0):=λ x hx=>by rw[(List.mem_replicate.1 hx).2];exact Bt.zero k
theorem yO (N:o4 L) (S:CR) (n k c:Nat) (h:S.Ok n k) (hn:n<=64) (cj:c<=4096) (hK : ∀ i,i<=c->NX n k 0 i<1099511627776) (Ia:k<1099511627776) :
  Ev L 134 [.agg (eS S),.int .i64 (c:Int)] (.j5 [.sl false ((S.outs (List.replicate n 0) (E5 c)).map eQ),.int .i64 0]):=by
 have Dp:=YI N S n k h hn;have tc:=h.la;have hO:=HL N.toa7 0 (by omega);have hI:=HL N.toa7 1 (by omega);have hZ:=Lv N n (by omega);rw[<-tc]at hZ;have hR:=λ q1 q2=>yR N S n k 0 h hn (List.replicate S.a.length 0) (E5 c) q1 q2 (by simp [tc]) (Bs.Bh _ _) (Ns k c) (by rw[S1];omega) (by rw[S1];exact hK) (by omega) Ia
 rw[<-tc];refine Ev.x N.KD rfl rfl ?_;(repeat' ((first|(apply AG<;>intro hc<;>try (exfalso;omega))|apply AE|refine AD (Dp) ?_)<;>conv=>whnf))
 refine GZ 1000 N.IO rfl rfl ?_;(repeat' (apply AE<;>conv=>whnf))
 refine ET (enc:=eO) none c rfl rfl (by omega) ?_;(conv=>whnf)
 skip
 refine CK (λ i=>c-i) (λ(i:Nat)=>i<=c) (λ i=>[(9,.int .i64 i)]) (λ i=>[(131006,131006,.rw 3 ((FB (List.replicate i 0) c).map eO))]) [] [] 0 (by first|exact (by (conv=>whnf);exact ⟨rfl,rfl,rfl⟩)|(rw[<-OM];exact (by (conv=>whnf);exact ⟨rfl,rfl,rfl⟩))) (by omega) ?_;intro i p1 ih;by_cases hi:i<c
 ·have hl:=OL (l:=List.replicate i (0:Rat)) (m:=c) (by simp;omega)
  have hs:=ON (l:=List.replicate i (0:Rat)) (m:=c) (x:=0) (by simp;omega);rw[List.length_replicate]at hs;(repeat' ((first|(apply AG<;>intro hc<;>try (exfalso;omega))|(apply BA;omega)|apply AE|refine AD (hO) ?_)<;>conv=>whnf))
  refine I3 (enc:=eO) (some 0) rfl (λ e=>by cases e<;>rfl) (by omega) ?_;(conv=>whnf)
  (repeat' ((first|(apply AY;omega)|fail)<;>conv=>whnf))
  rw[hs];rw[show List.replicate i (0:Rat)++[0]=List.replicate (i+1) 0 by rw[List.replicate_succ']];exact BQ [] (ih (i+1) (by omega) (by omega))
 obtain rfl:i=c:=by omega
 clear ih;rw[OK (by simp)];by_cases sn:i=0
 ·subst sn
  (repeat' ((first|(apply AG<;>intro hc<;>try (exfalso;omega))|apply AE)<;>conv=>whnf))
  refine ⟨rfl,_,rfl,?_⟩;(conv=>whnf)
  (repeat' ((first|(apply AG<;>intro hc<;>try (exfalso;omega))|apply AR|(refine DE (λ_=>rfl) rfl ?_ ?_;(first|rfl|simp))|refine AD (hZ) ?_|refine AD (hR _ _) ?_)<;>conv=>whnf))
  exact AW rfl (eN _ _)
 ·have himp:(List.replicate i (0:Rat)).set 0 1=E5 i:=by
   rcases i with _|i
   ·exact absurd rfl sn
   ·simp [E5,List.replicate_succ]
  (repeat' ((first|(apply AG<;>intro hc<;>try (exfalso;omega))|apply AE)<;>conv=>whnf))
  refine ⟨rfl,_,rfl,?_⟩;(conv=>whnf)
  (repeat' ((first|(apply AG<;>intro hc<;>try (exfalso;omega))|(apply BA;omega)|refine AD (hI) ?_)<;>conv=>whnf))
  refine O8 (enc:=eQ) 0 1 rfl rfl (λ_=>rfl) (by simp;omega) ?_;(conv=>whnf)
  rw[himp];(repeat' ((first|apply AR|refine AD (hZ) ?_)<;>conv=>whnf))
  refine DE (enc:=eQ) (λ_=>rfl) rfl (S1 i).symm ?_;(conv=>whnf)
  (repeat' (refine AD (hR _ _) ?_<;>conv=>whnf))
  exact AW rfl (eN _ _)
end Go.c4

namespace Go.c4
end Go.c4



namespace Go.c4
open F
attribute [local irreducible] AA AF AU AC B6 AQ AX A9 A4 BS AP BR B0 C2 BN A0 BK B2 AB A5 AJ pw CG B4 CM CZ CU CP CN BJ B9
variable {L:Lib}
set_option maxHeartbeats 4000000
theorem WQ (m p:Nat):(List.replicate m (0:Rat)).set p 1=HD m p:=by
 refine List.ext_getElem? λ j => ?_
 simp only[HD,List.getElem?_set,List.getElem?_map,List.getElem?_replicate,List.length_replicate];by_cases h:j<m
 ·rw[List.getElem?_range h]
  by_cases e:p=j
  ·subst e;simp [h]
  ·simp [h,e];intro h3;omega
 ·rw[List.getElem?_eq_none (by simpa using h)]
  simp [h];intro e;omega
def fz {α:Type} (z:α) (l:List α) (m:Nat):List α:=l++List.replicate (m-l.length) z
theorem ZA {α:Type} {z:α} {l:List α} {m:Nat} (h:l.length<=m):(fz z l m).length=m:=by simp [fz];omega
theorem ZB {α:Type} {z x:α} {l:List α} {m:Nat} (h:l.length<m):(fz z l m).set l.length x=fz z (l++[x]) m:=by
 unfold fz;obtain ⟨k,hk⟩ : ∃ k,m-l.length=k+1:=⟨m-l.length-1,by omega⟩;rw[List.set_append_right _ _ (by simp),hk,Nat.sub_self,List.replicate_succ,List.set_cons_zero,List.length_append,List.length_singleton,show m-(l.length+1)=k by omega,List.append_assoc];rfl
theorem Lz {α:Type} {z:α} {l:List α} {m:Nat} (h:l.length<m):(fz z l m)[l.length]? = some z:=by
 unfold fz;rw[List.getElem?_append_right (by omega),Nat.sub_self,List.getElem?_replicate,if_pos (by omega)]
theorem Y9 {α:Type} {z:α} {l:List α} {m:Nat} (h:l.length=m):fz z l m=l:=by simp [fz,h]
theorem oR {α:Type} {l:List α} {i:Nat} {x:α} (h:l[i]? = some x):l.take (i+1)=l.take i++[x]:=by
 rw[List.take_add_one,h];rfl
end Go.c4

namespace Go.c4
variable {L:Lib}
end Go.c4

namespace Go.c4
open F
attribute [local irreducible] AA AF AU AC B6 AQ AX A9 A4 BS AP BR B0 C2 BN A0 BK B2 AB A5 AJ pw CG B4 CM CZ CU CP CN BJ B9
variable {L:Lib}
set_option maxHeartbeats 16000000
end Go.c4

namespace Go.c4
theorem lW (now:List Rat) : ∀ (a:List (List Rat)) (b:List Rat),a.length=b.length->H5 now 0 a b=DP a now
 | [],[],_=>rfl
 | r::a,y::b,h=>by
  show (A6 r now+y*0)::H5 now 0 a b=A6 r now::DP a now;rw[lW now a b (by simpa using h),Rat.mul_zero,Rat.add_zero]
theorem lU (n:Nat) : ∀ (a:List (List Rat)) (b:List Rat),a.length=b.length->H5 (List.replicate n 0) 1 a b=b
 | [],[],_=>rfl
 | r::a,y::b,h=>by
  show (A6 r (List.replicate n 0)+y*1)::H5 (List.replicate n 0) 1 a b=y::b;rw[lU n a b (by simpa using h),gR,Rat.mul_one,Rat.zero_add]
theorem mN {S:CR} (h:S.a.length=S.b.length) : ∀ (m j:Nat),S.outs (wQ S j) (List.replicate m 0)=(List.range m).map λ i=>A6 S.c (wQ S (j+i))
 | 0,_=>rfl
 | m+1,j=>by
  have e:S.next (wQ S j) 0=wQ S (j+1):=lW _ _ _ h
  rw[List.replicate_succ];show (A6 S.c (wQ S j)+S.d*0)::S.outs (S.next (wQ S j) 0) (List.replicate m 0)=_;rw[e,mN h m (j+1),Rat.mul_zero,Rat.add_zero,List.range_succ_eq_map,List.map_cons,List.map_map];congr 1;refine List.map_congr_left λ i _ => ?_
  simp only[Function.comp];rw[show j+1+i=j+(i+1) by omega]
def hQ (S:CR):Nat->Rat
 | 0=>S.d
 | j+1=>A6 S.c (wQ S j)
theorem kH {S:CR} {n m j:Nat} (h:S.a.length=S.b.length) (hj:j<m):(S.outs (List.replicate n 0) (E5 m))[j]? = some (hQ S j):=by
 cases m with
 | zero=>omega
 | succ m =>
  show ((A6 S.c (List.replicate n 0)+S.d*1)::S.outs (S.next (List.replicate n 0) 1) (List.replicate m 0))[j]? = _;have e:S.next (List.replicate n 0) 1=wQ S 0:=lU n _ _ h
  rw[e,mN h m 0,gR,Rat.mul_one,Rat.zero_add];cases j with
  | zero=>rfl
  | succ j =>
   rw[List.getElem?_cons_succ,List.getElem?_map,List.getElem?_range (by omega),Option.map_some,Nat.zero_add];rfl
theorem Rg {r:List Rat} (h:M7 r=r) (hn:r.length≠0):r.getD (r.length-1) 0≠0:=by
 have hl:=oW r;rw[h]at hl;obtain ⟨n,ln⟩ : ∃ n,r.length=n+1:=⟨r.length-1,by omega⟩;rw[ln,G4]at hl;rw[ln,Nat.add_sub_cancel];intro h0;rw[if_pos h0]at hl;have:=SC r n
 omega
def D8 (B A:List Rat) (n:Nat):CR where
 a:=(List.range n).map λ i=>if i=0 then (List.range n).map λ k => -(A.getD (k+1) 0) else HD n ((i-1:Nat):Int)
 b:=HD n 0
 c:=(List.range n).map λ i=>B.getD (i+1) 0-B.getD 0 0*A.getD (i+1) 0
 d:=B.getD 0 0
def BM (x:Rat):Rat:=if x.num<0 then -x else x
end Go.c4

namespace Go.c4
open F
attribute [local irreducible] AA AF AU AC B6 AQ AX A9 A4 BS AP BR B0 C2 BN A0 BK B2 AB A5 AJ pw CG B4 CM CZ CU CP CN BJ B9
variable {L:Lib}
set_option maxHeartbeats 8000000
theorem MZ {l:List Rat} {k:Nat} (h:Bs k l) (i:Nat):Bt k (l.getD i 0):=by
 rw[List.getD_eq_getElem?_getD];cases e:l[i]? with
 | none=>exact Bt.zero k
 | some x=>exact h.at e
theorem aU (z:Int):o5 z = -1/\z<0\/o5 z=0/\z=0\/o5 z=1/\0<z:=by
 unfold o5;split
 ·exact Or.inl ⟨rfl,by omega⟩
 ·split
  ·exact Or.inr (Or.inr ⟨rfl,by omega⟩)
  ·exact Or.inr (Or.inl ⟨rfl,by omega⟩)
theorem uM {a b:Nat} {z:Int} (h:z=(a:Int)-b):C0 a b=o5 z:=by
 unfold C0 o5;subst h;repeat' split
 all_goals omega
theorem iL (N:o0 L) (n1 n2 q1 q2:Bool) (a b:List Nat) (ha:Sm 549755813888 a) (hb:Sm 549755813888 b):Ev L 197 [.agg (rZ q1 n1 a),.agg (rZ q2 n2 b)] (.int .i64 (o5 (zv n1 a-zv n2 b))):=by
 have h1:=λ q=>VF N.toa7 n1 q a ha
 have h2:=λ q=>VF N.toa7 n2 q b hb
 have h3:=λ q q'=>NM N.toc5 a b q q' ha.1 hb.1 (by have:=ha.2;omega) (by have:=hb.2;omega)
 have h4:=λ q q'=>NM N.toc5 b a q q' hb.1 ha.1 (by have:=hb.2;omega) (by have:=ha.2;omega)
 have za:=EI n1 a;have zb:=EI n2 b;generalize zv n1 a=x at *;generalize zv n2 b=y at *;rcases aU x with ⟨e1,g1⟩|⟨e1,g1⟩|⟨e1,g1⟩<;>rcases aU y with ⟨e2,g2⟩|⟨e2,g2⟩|⟨e2,g2⟩
 all_goals
  rw[e1]at h1;rw[e2]at h2;refine Ev.x N.JO rfl rfl ?_;(repeat' ((first|(apply AG<;>intro hc<;>try (exfalso;omega))|apply AE|refine AD (h1 _) ?_|refine AD (h2 _) ?_|refine AD (h3 _ _) ?_|refine AD (h4 _ _) ?_)<;>conv=>whnf))
  first
   | exact CY (aV (by omega))
   | exact CY (aW (by omega))
   | exact CY (uM (by omega))
theorem Lp (N:o0 L) (k:Nat) (hk:1<=k/\k<=68719476736) (n1 n2:Bool) (m1 d1 m2 d2:List Nat) (eh:Sm k m1) (jb:Sm k d1) (dp:Sm k m2) (mi:Sm k d2) :
  Ev L 198 [.agg (rQ false false n1 m1 d1),.agg (rQ false false n2 m2 d2)] (.int .i64 (o5 (qv n1 m1 d1-qv n2 m2 d2).num)):=by
 obtain ⟨a1,a2,a3,w1,bh,s1,s2,s3,s4,s5⟩:=MY N.toa7 n1 m1 d1 k (by omega) eh jb;obtain ⟨b1,b2,b3,w2,ah,t1,t2,t3,t4,t5⟩:=MY N.toa7 n2 m2 d2 k (by omega) dp mi;rw[s5,t5,<-lM s3 t3];by_cases hw:w1=true/\w2=true
 ·obtain ⟨rfl,rfl⟩:=hw
  have hC:=λ q q'=>iL N a1 b1 q q' a2 b2 (s1.le (by omega)) (t1.le (by omega))
  rw[s4 rfl,t4 rfl];rw[show zv a1 a2*((1:Nat):Int)-zv b1 b2*((1:Nat):Int)=zv a1 a2-zv b1 b2 by omega];refine Ev.x N.IP rfl rfl ?_;(repeat' ((first|apply GA|apply AE|refine AD (bh) ?_|refine AD (ah) ?_|refine AD (hC _ _) ?_)<;>conv=>whnf))
  exact CY rfl
 ·have dj:=λ q q'=>PN N.toa7 a1 false q q' a2 b3 s1.1 t2.1 (by have:=s1.2;have:=t2.2;omega)
  have fo:=λ q q'=>PN N.toa7 b1 false q q' b2 a3 t1.1 s2.1 (by have:=t1.2;have:=s2.2;omega)
  have rh:=QX N.toa7 a3;have pe:=QX N.toa7 b3;have g1:Sm (k+k) (dg (zv a1 a2*zv false b3).natAbs):=P8 s1 t2;have g2:Sm (k+k) (dg (zv b1 b2*zv false a3).natAbs):=P8 t1 s2;have hC:=λ q q'=>iL N (decide (zv a1 a2*zv false b3<0)) (decide (zv b1 b2*zv false a3<0)) q q' _ _ (g1.le (by omega)) (g2.le (by omega))
  rw[EV,EV]at hC;rw[<-EF b3,<-EF a3];generalize zv a1 a2*zv false b3=x at *;generalize zv b1 b2*zv false a3=y at *;refine Ev.x N.IP rfl rfl ?_;cases w1<;>cases w2
  ·(repeat' ((first|apply GA|apply O3|apply AE|refine AD (bh) ?_|refine AD (ah) ?_|refine AD (rh) ?_|refine AD (pe) ?_|refine AD (dj _ _) ?_|refine AD (fo _ _) ?_|refine AD (hC _ _) ?_)<;>conv=>whnf))
   exact CY rfl
  ·(repeat' ((first|apply GA|apply O3|apply AE|refine AD (bh) ?_|refine AD (ah) ?_|refine AD (rh) ?_|refine AD (pe) ?_|refine AD (dj _ _) ?_|refine AD (fo _ _) ?_|refine AD (hC _ _) ?_)<;>conv=>whnf))
   exact CY rfl
  ·(repeat' ((first|apply GA|apply O3|apply AE|refine AD (bh) ?_|refine AD (ah) ?_|refine AD (rh) ?_|refine AD (pe) ?_|refine AD (dj _ _) ?_|refine AD (fo _ _) ?_|refine AD (hC _ _) ?_)<;>conv=>whnf))
   exact CY rfl
  ·exact absurd ⟨rfl,rfl⟩ hw
theorem YJ (N:o0 L) {x y:Rat} {k l:Nat} (hx:Bt k x) (hy:Bt l y) (hk:k<2199023255552) (hl:l<2199023255552):Ev L 198 [.agg (eQ x),.agg (eQ y)] (.int .i64 (o5 (x-y).num)):=by
 have:=Lp N 68719476736 (by omega) (decide (x.num<0)) (decide (y.num<0)) _ _ _ _ (hx.sm hk).1 (hx.sm hk).2 (hy.sm hl).1 (hy.sm hl).2
 rw[EP,EP]at this;exact this
theorem zJ (N:o0 L) {x:Rat} {k:Nat} (hx:Bt k x) (hk:k<2199023255552):Ev L 199 [.agg (eQ x)] (.agg (eQ (-x))):=by
 have hF:=iJ N.toaf (decide (x.num<0)) (dg x.num.natAbs) (dg x.den);have hT:=λ q1 q2=>YV N.toa7 (!decide (x.num<0)) q1 q2 _ _ ((hx.sm hk).1.le (by omega)) ((hx.sm hk).2.le (by omega))
 rw[mT,EP]at hT;refine Ev.x N.K2 rfl rfl ?_;(repeat' ((first|apply cX|apply AE|refine AD (hF) ?_|refine AD (hT _ _) ?_)<;>conv=>whnf))
 exact AW rfl (C4 _)
theorem iX (N:o0 L) (q:Bool) (l:List Rat) (k:Nat) (hl:Bs k l) (hk:k<2199023255552) (hn:l.length<=1000000):Ev L 200 [.sl q (l.map eQ)] (.int .i64 ((G4 l l.length:Int)-1)):=by
 refine Ev.x N.KY rfl rfl ?_;(repeat' (apply AE<;>conv=>whnf))
 refine GZ 1000 N.KZ rfl rfl ?_;(repeat' ((first|apply AR|apply AE)<;>conv=>whnf))
 refine CK (λ n=>n) (λ(n:Nat)=>n<=l.length/\G4 l l.length=G4 l n) (λ n=>[(3,.int .i64 n)]) (λ_=>[]) [] [] l.length (by (conv=>whnf);exact ⟨rfl,rfl,rfl⟩) ⟨Nat.le_refl _,rfl⟩ ?_;intro n ⟨p1,p2⟩ ih;have done : ∀ {n:Nat},G4 l l.length=n->M7 l=l.take n:=λ h=>by rw[M7,h]
 by_cases hz:n=0\/(∃ m x,n=m+1/\l[m]? = some x/\x≠0)
 ·have zi:G4 l l.length=n:=by
   rw[p2];rcases hz with rfl|⟨m,x,rfl,h1,h2⟩
   ·rfl
   ·rw[G4,if_neg]
    rw[List.getD_eq_getElem?_getD,h1];exact h2
  have Wk:=done zi;have im:(l.take n).length=n:=by rw[List.length_take];omega
  clear ih zi p2 done;rcases hz with h0|⟨m,x,Yk,h1,h2⟩
  case' inl=>(repeat' ((first|(apply AG<;>intro hc<;>try (exfalso;omega))|apply AE)<;>conv=>whnf))
  case' inr =>
   have qz:l[((n:Int)-1).toNat]? = some x:=by rw[show ((n:Int)-1).toNat=m by omega];exact h1
   have yp:=QZ N.toa7 (hl.at h1) (by omega);have hs:=N0 (x:=x);generalize o5 x.num=s at *;have hS : ∀ v,l[((n:Int)-1).toNat]? = some v->Ev L 97 [.agg (eQ v)] (.int .i64 s):=λ v h=>by
    obtain rfl:=Option.some.inj (qz.symm.trans h);exact yp
   have gu:s≠0:=λ h=>h2 (hs.1 h)
   (repeat' ((first|(apply AG<;>intro hc<;>try (exfalso;omega))|(apply B1;omega)|(refine BG (by assumption) ?_ rfl ?_;omega)|apply AE|refine AD (yp) ?_)<;>conv=>whnf))
  all_goals
   refine O7 (enc:=eQ) (λ_=>rfl) p1 ?_;(conv=>whnf)
   skip
   refine ⟨rfl,_,rfl,?_⟩;(conv=>whnf)
   (repeat' ((first|(apply B1;omega)|apply AR)<;>conv=>whnf))
   have zj:G4 l l.length=n:=by rw[<-oW,Wk,im]
   rw[zj];exact CY (by rw[im])
 ·obtain ⟨m,rfl⟩ : ∃ m,n=m+1:=⟨n-1,by omega⟩
  obtain ⟨x,hx⟩ : ∃ x,l[m]? = some x:=⟨_,zE (by omega)⟩;have pt:x=0:=by
   rcases Classical.em (x=0) with h|h
   ·exact h
   ·exact (hz (Or.inr ⟨m,x,rfl,hx,h⟩)).elim
  have jf:l[((m+1:Nat)-1:Int).toNat]? = some x:=by rw[show ((m+1:Nat)-1:Int).toNat=m by omega];exact hx
  have yp:=QZ N.toa7 (hl.at hx) (by omega);have hs:=N0 (x:=x);generalize o5 x.num=s at *;have hS : ∀ v,l[((m+1:Nat)-1:Int).toNat]? = some v->Ev L 97 [.agg (eQ v)] (.int .i64 s):=λ v h=>by
   obtain rfl:=Option.some.inj (jf.symm.trans h);exact yp
  have gu:=hs.2 pt;(repeat' ((first|(apply AG<;>intro hc<;>try (exfalso;omega))|(apply B1;omega)|(refine BG (by assumption) ?_ rfl ?_;omega)|apply AE|refine AD (yp) ?_)<;>conv=>whnf))
  rw[show ((m+1:Nat):Int)-1=(m:Int) by omega];exact BQ [] (ih m (by omega) ⟨by omega,by rw[p2,G4,if_pos (by rw[List.getD_eq_getElem?_getD,hx];exact pt)]⟩)
theorem yS (N:o4 L) (S:CR) (n k:Nat) (h:S.Ok n k) (hn:n<=64):Ev L 136 [.agg (eS S)] (.bool true):=by
 have h1:=h.la;have h2:=h.lb;have h3:=h.lc;refine Ev.x N.L2 rfl rfl ?_;(repeat' ((first|(apply AG<;>intro hc<;>try (exfalso;omega))|apply AR|apply AE)<;>conv=>whnf))
 refine CK (λ i=>S.a.length-i) (λ(i:Nat)=>i<=S.a.length) (λ i=>[(4,.int .i64 i)]) (λ_=>[]) [] [] 0 (by (conv=>whnf);exact ⟨rfl,rfl,rfl⟩) (by omega) ?_;intro i p1 ih;by_cases hi:i<S.a.length
 ·obtain ⟨r,hr⟩ : ∃ r,S.a[i]? = some r:=⟨_,zE hi⟩
  have lq:S.a[(i:Int).toNat]? = some r:=hr;have df:=h.lr r (zM hr);(repeat' ((first|(apply AG<;>intro hc<;>try (exfalso;omega))|(apply AY;omega)|apply AR|(refine BG (by assumption) ?_ rfl ?_;omega)|apply AE)<;>conv=>whnf))
  exact BQ [] (ih (i+1) (by omega) (by omega))
 ·obtain rfl:i=S.a.length:=by omega
  clear ih;(repeat' ((first|(apply AG<;>intro hc<;>try (exfalso;omega))|apply AE)<;>conv=>whnf))
  exact JG rfl
theorem iF (N:o4 L) (a b:List Rat) (q1 q2:Bool) (k s:Nat) (hl:a.length=b.length) (ha:Bs k a) (hb:Bs s b) (hK:a.length*(k+s+1)+k+s<2199023255552) (dw:a.length<=1099511627776):Ev L 137 [.sl q1 (a.map eQ),.sl q2 (b.map eQ)] (.agg (eQ (A6 a b))):=by
 have hO:=QY N.toa8 0 (by omega);refine Ev.x N.L1 rfl rfl ?_;(repeat' ((first|apply AE|refine AD (hO) ?_)<;>conv=>whnf))
 refine FV (λ i _=>a.length-i) (λ(i:Nat) (acc:Rat)=>i<=a.length/\acc=A6 (a.take i) (b.take i)) (λ i acc=>[(6,.int .i64 i)]) (λ i acc=>[(5,5,.bx (eQ acc))]) [] [] 0 ((0:Int):Rat) (by (conv=>whnf);exact ⟨rfl,rfl,rfl⟩) ⟨by omega,by simp [A6]⟩ ?_;intro i acc ⟨p1,p2⟩ ih;by_cases hi:i<a.length
 ·obtain ⟨x,hx⟩ : ∃ x,a[i]? = some x:=⟨_,zE hi⟩
  obtain ⟨y,hy⟩ : ∃ y,b[i]? = some y:=⟨_,zE (by omega)⟩;have jf:a[(i:Int).toNat]? = some x:=hx;have qo:b[(i:Int).toNat]? = some y:=hy;have bx:=ha.at hx;have wg:=hb.at hy
  have hM:=SP N.toa8 bx wg (by omega) (by omega)
  have uo:Bt (a.length*(k+s+1)) acc:=by
   rw[p2];have:=(ha.take i).dot (hb.take i)
   refine this.le (Nat.mul_le_mul_right _ ?_);rw[List.length_take];omega
  have hA:=QW N.toa8 uo (bx.mul wg) (by omega) (by omega);have j9:=QR hx hy;(repeat' ((first|(apply AG<;>intro hc<;>try (exfalso;omega))|(apply AY;omega)|apply AR|(refine BG (by assumption) ?_ rfl ?_;omega)|apply AE|refine AD (hM) ?_|refine AD (hA) ?_)<;>conv=>whnf))
  refine BV [] (by (conv=>whnf);exact ⟨rfl,rfl,rfl⟩) (ih (i+1) (acc+x*y) (by omega) ⟨by omega,?_⟩);rw[j9,<-p2]
 ·obtain rfl:i=a.length:=by omega
  clear ih;rw[SG rfl]at p2;rw[<-p2];(repeat' ((first|(apply AG<;>intro hc<;>try (exfalso;omega))|apply AR|apply AE)<;>conv=>whnf))
  exact AW rfl (C4 _)
end Go.c4

namespace Go.c4
theorem rA {R:List (Option (Nat × List (List AV)))} {i e z:Nat} {es:List (List AV)} {K:Option (Nat × List (List AV))->Prop} (he:e=i) (hi:i<R.length) (h:K (some (z,es))):CG (R.set i (some (z,es))) e K:=by
 subst he;exact ⟨_,by rw[List.getElem?_set,if_pos rfl,if_pos hi],h⟩
theorem qZ {R:List (Option (Nat × List (List AV)))} {i e z:Nat} {es:List (List AV)} {K:Nat->List (List AV)->Prop} (he:e=i) (hi:i<R.length) (h:K z es):B4 (R.set i (some (z,es))) e K:=by
 subst he;exact ⟨z,es,by rw[List.getElem?_set,if_pos rfl,if_pos hi],h⟩
theorem dJ {R:List (Option (Nat × List (List AV)))} {i e z:Nat} {es:List (List AV)} {K:List (Option (Nat × List (List AV)))->Prop} (he:e=i) (hi:i<R.length) (h:K (R.set i (some (z,es)))):CM R e z es K:=by
 subst he;exact ⟨hi,h⟩
end Go.c4

namespace Go.c4
open F
attribute [local irreducible] AA AF AU AC B6 AQ AX A9 A4 BS AP BR B0 C2 BN A0 BK B2 AB A5 AJ pw CG B4 CM CZ CU CP CN BJ B9
variable {L:Lib}
set_option maxHeartbeats 16000000
def mz (Q:List (List Rat)) (n i:Nat):List (Option (Nat × List (List AV))):=fz none (FP 3 eQ (Q.take i)) n
theorem Qi {Q:List (List Rat)} {n i:Nat} (hi:i<=n):(mz Q n i).length=n:=by
 refine ZA ?_;simp only[FP,List.length_map,List.length_take];omega
theorem Ql (Q:List (List Rat)) (n:Nat):mz Q n 0=List.replicate n none:=by simp [mz,fz]
theorem Qk {Q:List (List Rat)} {n i:Nat} {row:List Rat} (h:Q[i]? = some row) (hi:i<n):(mz Q n i).set i (some (3,row.map eQ))=mz Q n (i+1):=by
 have h1:=(zS h).1;have hl:(FP 3 eQ (Q.take i)).length=i:=by simp only[FP,List.length_map,List.length_take];omega
 have:=ZB (z:=none) (l:=FP 3 eQ (Q.take i)) (m:=n) (x:=some (3,row.map eQ)) (by omega)
 rw[hl]at this;rw[mz,this,mz,oR h];simp [FP]
theorem Qh {Q:List (List Rat)} {n:Nat} (h:Q.length=n):mz Q n n=FP 3 eQ Q:=by
 rw[mz,List.take_of_length_le (by omega)];exact Y9 (by simp [FP,h])
def cz (row:List Rat) (n j:Nat):List Rat:=fz 0 (row.take j) n
theorem fS {row:List Rat} {n j:Nat} (hj:j<=n):(cz row n j).length=n:=by
 refine ZA ?_;rw[List.length_take];omega
theorem fW (row:List Rat) (n:Nat):cz row n 0=List.replicate n 0:=by simp [cz,fz]
theorem fU {row:List Rat} {n j:Nat} {x:Rat} (h:row[j]? = some x) (hj:j<n):(cz row n j).set j x=cz row n (j+1):=by
 have h1:=(zS h).1;have hl:(row.take j).length=j:=by rw[List.length_take];omega
 have:=ZB (z:=(0:Rat)) (l:=row.take j) (m:=n) (x:=x) (by omega)
 rw[hl]at this;rw[cz,this,cz,oR h]
theorem fR {row:List Rat} {n:Nat} (h:row.length=n):cz row n n=row:=by
 rw[cz,List.take_of_length_le (by omega)];exact Y9 h
end Go.c4
