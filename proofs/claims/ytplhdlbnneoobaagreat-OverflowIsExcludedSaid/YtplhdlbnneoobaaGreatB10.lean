/-
  Natural numbers (layer 1): greatest common divisors.
-/
import Derived.Test.YtplhdlbnneoobaaGreatB9
import Derived.Test.YtplhdlbnneoobaaGreatB7
import Derived.Test.YtplhdlbnneoobaaGreatB1
import Derived.Test.YtplhdlbnneoobaaGreatB8
import Derived.Test.YtplhdlbnneoobaaGreatB2
import Derived.Test.YtplhdlbnneoobaaGreatB3
set_option linter.unusedSimpArgs false
set_option linter.unusedVariables false
set_option linter.unnecessarySimpa false
namespace Go.c6
open F
attribute [local irreducible] AA AF AX AC CN AR BA A6 BV BH CM EI BO AY B0 CJ AB A5 AH pw CQ CE C8 EA DP BT CP BU C7
set_option maxHeartbeats 4000000
variable {L:Lib}
theorem pR {k':IntKind} {a:Int} {K:AV->Prop} (hk:K (.int .i64 (a/4294967296))):AC .shr .i64 a k' 32 K:=by
 refine pQ (by omega) ?_;have:pw 32=4294967296:=by decide +kernel
 rw[this];exact hk
theorem oY {t:Int} {K:Int->Prop} (hk:K (X9 t:Int)):A0 .u32 t K:=by
 refine ⟨?_⟩;rw[IntKind.wrap_u32,<-iM];exact hk
section
variable {k':IntKind} {a b:Nat} {K:AV->Prop}
theorem Vz {i:Nat} (hi:i<2) (ha:a<4294967296) (hk:K (.int .u64 ((a*4294967296^i:Nat):Int))):AC .shl .u64 (a:Int) k' (32*(i:Int)) K:=by
 rcases i with _|_|i
 ·exact RV (s:=0) (by omega) (by omega) hk
 ·exact RV (s:=32) (by omega) (by omega) hk
 ·omega
end
theorem xO {x y M N:Int} (hx : -M<=x/\x<=M) (hy : -N<=y/\y<=N) : -(M*N)<=x*y/\x*y<=M*N:=by
 have h1:x.natAbs<=M.natAbs:=by omega
 have h2:y.natAbs<=N.natAbs:=by omega
 have h3:=Nat.mul_le_mul h1 h2;rw[<-Int.natAbs_mul,<-Int.natAbs_mul]at h3;have h4:0<=M*N:=Int.mul_nonneg (by omega) (by omega);omega
theorem jS (N:c8 L) (a b:List Nat) (q1 q2:Bool) (hA:A1 a) (hB:A1 b) (la:a.length<=549755813888) (lb:b.length<=549755813888) (h0:val b≠0) :
  Ev L 75 [.sl q1 (a.map AL),.sl q2 (b.map AL)] (.g8 [.sl false ((dg (val a/val b)).map AL),.sl false ((dg (val a%val b)).map AL),.int .i64 0]):=by
 have l1:=FM hA;have l2:=FM hB;have hp:=YF h0;refine Ev.x N.M6 rfl rfl ?_;(repeat' ((first|(apply AG<;>intro hc<;>try omega)|apply AP|apply AE|refine LG (LU N a _ hA (by omega)) ?_|refine LG (LU N b _ hB (by omega)) ?_|refine AD (jU N _ _ _ _ h0 (by omega) (by omega)) ?_)<;>conv=>whnf))
 refine AW rfl ?_;simp only[AZ,BS,and_true,true_and];exact ⟨C2 _,C2 _⟩
theorem uJ (N:c8 L) (V:Nat) (q:Bool) (hl:(dg V).length<=2):Ev L 76 [.sl q ((dg V).map AL)] (.int .u64 (V:Int)):=by
 have hV:=Q1.1 hl;have hD:=EF V;have hv:=BQ V;refine Ev.x N.NG rfl rfl ?_;generalize dg V=l at *;(repeat' ((first|apply AP|apply AE)<;>conv=>whnf))
 refine FU (λ i _=>l.length-i) (λ(i:Nat) (a:Nat)=>i<=l.length/\a=val (l.take i)) (λ i a=>[(3,.int .u64 (a:Int)),(8,.int .i64 i)]) (λ_ _=>[]) 0 0 ⟨by omega,rfl⟩ ?_;intro i a ⟨p1,p2⟩ ih;by_cases hi:i<l.length
 ·obtain ⟨d,hd⟩ : ∃ d,l[i]? = some d:=⟨_,zE hi⟩
  have y7:=hD.at hd;have h1:=ER hd;have h2:=F2 (hD.take i);have h3:=F2 (hD.take (i+1));rw[List.length_take,Nat.min_eq_left (by omega)]at h2 h3;have h4:4294967296^(i+1)<=4294967296^2:=Nat.pow_le_pow_right (by omega) (by omega);(repeat' ((first|(apply AG<;>intro hc<;>try omega)|(apply FW;omega)|(apply B3;omega)|(refine A9 (by assumption) ?_ rfl ?_;omega)|apply AE)<;>conv=>whnf))
  refine Vz (by omega) y7 ?_;(conv=>whnf)
  rw[Nat.mul_comm d];refine aK (32*i) (by rw[Nat.pow_mul];exact Nat.mul_mod_right _ _) (by rw[Nat.pow_mul,p2];exact h2) (by omega) ?_;(conv=>whnf)
  (repeat' ((first|(apply AQ;omega)|fail)<;>conv=>whnf))
  exact BN [] (by (conv=>whnf);exact ⟨rfl,rfl,rfl⟩) (ih (i+1) _ (by omega) ⟨by omega,by rw[h1,p2]⟩)
 ·obtain rfl:i=l.length:=by omega
  clear ih;(repeat' ((first|(apply AG<;>intro hc<;>try omega)|apply AE)<;>conv=>whnf))
  rw[DH (Nat.le_refl _)]at p2;exact B5 (by omega)
theorem gF {f:Nat} {vs:List AV} {tm:Tm} {M:Mem} {K:AV->Mem->Prop} {v:AV} (h:A5 L f vs tm M (λ r M'=>r=v/\M'=M)) (hk:K v M):A5 L f vs tm M K:=by
 unfold A5 at h ⊢;intro σ own hs;obtain ⟨r,l8,σ',M',h1,h2,h3,rfl,rfl⟩:=h σ own hs;exact ⟨_,l8,σ',_,h1,h2,h3,hk⟩
theorem uI (N:c8 L) (a:List Nat) (q:Bool) (n s:Nat) (hD:A1 a) (hn:3<=n) (hl:a.length<=n) (Kh:n<=549755813888) (hs:s<=31) (j9:val a*2^s<4294967296^n) :
  Ev L 78 [.sl q (a.map AL),.int .i64 (n:Int),.int .u64 (s:Int)] (.int .i64 ((val a/WQ n s:Nat):Int)):=by
 have b1:=TG hD (n-1);have b2:=TG hD (n-2);have b3:=TG hD (n-3);have uj:=xV hD hn hl rfl rfl j9;have heq:=xU (s:=s) hD hn hl hs rfl rfl rfl;obtain ⟨f1,f2,f3,f4⟩:=VG (s:=s) b3 (by omega);refine Ev.x N.ND rfl rfl ?_;(repeat' ((first|(apply A2;omega)|(apply BL;omega)|apply AE)<;>conv=>whnf))
 refine gF (v := .int .u64 ((a.getD (n-1) 0:Nat):Int)) ?_ ?_
 ·refine HR 1000 N.JR rfl rfl ?_
  (repeat' ((first|(apply AG<;>intro hc<;>try omega)|(apply B3;omega)|apply AP|(refine S2 (by assumption) ?_ (λ e he hb => ?_);omega)|apply AE)<;>conv=>whnf))
  ·refine ⟨rfl,_,rfl,?_,rfl⟩
   rw[show ((n:Int)-1).toNat=n-1 by omega]at he;rw[HV he];rfl
  ·refine ⟨rfl,_,rfl,?_,rfl⟩
   rw[<-TH (show a.length<=n-1 by omega)];rfl
 (conv=>whnf)
 (repeat' ((first|(apply A2;omega)|(apply BL;omega)|(apply QO;omega))<;>conv=>whnf))
 refine gF (v := .int .u64 ((a.getD (n-2) 0:Nat):Int)) ?_ ?_
 ·refine HR 1000 N.JR rfl rfl ?_
  (repeat' ((first|(apply AG<;>intro hc<;>try omega)|(apply B3;omega)|apply AP|(refine S2 (by assumption) ?_ (λ e he hb => ?_);omega)|apply AE)<;>conv=>whnf))
  ·refine ⟨rfl,_,rfl,?_,rfl⟩
   rw[show ((n:Int)-2).toNat=n-2 by omega]at he;rw[HV he];rfl
  ·refine ⟨rfl,_,rfl,?_,rfl⟩
   rw[<-TH (show a.length<=n-2 by omega)];rfl
 (conv=>whnf)
 generalize a.getD (n-1) 0=d1 at *;generalize a.getD (n-2) 0=d2 at *;(repeat' ((first|(apply RT;omega)|fail)<;>conv=>whnf))
 refine RV (by omega) uj ?_;(conv=>whnf)
 generalize hT:(d1*4294967296+d2)*2^s=T at *;(repeat' ((first|(apply A2;omega)|(apply BL;omega))<;>conv=>whnf))
 refine gF (v := .int .u64 ((a.getD (n-3) 0:Nat):Int)) ?_ ?_
 ·refine HR 1000 N.JR rfl rfl ?_
  (repeat' ((first|(apply AG<;>intro hc<;>try omega)|(apply B3;omega)|apply AP|(refine S2 (by assumption) ?_ (λ e he hb => ?_);omega)|apply AE)<;>conv=>whnf))
  ·refine ⟨rfl,_,rfl,?_,rfl⟩
   rw[show ((n:Int)-3).toNat=n-3 by omega]at he;rw[HV he];rfl
  ·refine ⟨rfl,_,rfl,?_,rfl⟩
   rw[<-TH (show a.length<=n-3 by omega)];rfl
 (conv=>whnf)
 generalize a.getD (n-3) 0=d3 at *;skip
 refine RV (by omega) f4 ?_;(conv=>whnf)
 (repeat' (apply GL<;>conv=>whnf))
 rw[VF]at f2;refine pN s (by rw[<-hT];exact Nat.mul_mod_left _ _) f2 (by have:=dG (k:=d1*4294967296+d2) (show s<=64 by omega) (by omega);omega) ?_;(conv=>whnf)
 (repeat' ((first|apply Xi|(apply TZ;omega))<;>conv=>whnf))
 rw[heq];exact B5 rfl
theorem AgD (N:c8 L) (P Q:Int) (hP:0<=P/\P<=4611686018427387904) (hQ:0<=Q/\Q<=4611686018427387904) : ∃ r,Ev L 79 [.int .i64 P,.int .i64 Q] r /\ ∃ a b c d:Int,(gI a b c d/\(-2147483647<=a/\a<=2147483647)/\(-2147483647<=b/\b<=2147483647)/\(-2147483647<=c/\c<=2147483647)/\(-2147483647<=d/\d<=2147483647))/\(b≠0->XU P Q a b c d)/\r = .g8 [.int .i64 a,.int .i64 b,.int .i64 c,.int .i64 d]:=by
 refine Ev.xE N.NA rfl rfl ?_;(repeat' (apply AE<;>conv=>whnf))
 refine Acc (λ_ _ _ _ _ q=>(q+2147483648).toNat) (λ(a b c d p q:Int)=>T7 P Q a b c d p q/\((-2147483647<=a/\a<=2147483647)/\(-2147483647<=b/\b<=2147483647)/\(-2147483647<=c/\c<=2147483647)/\(-2147483647<=d/\d<=2147483647))/\(p<=4611686018427387904/\q<=4611686018427387904)/\VY P Q a b c d/\(b≠0->XU P Q a b c d)) (λ a b c d p q=>[(0,.int .i64 p),(1,.int .i64 q),(4,.int .i64 a),(5,.int .i64 b),(6,.int .i64 c),(7,.int .i64 d)]) (λ_ _ _ _ _ _=>[]) [] [] 1 0 0 1 P Q (by (conv=>whnf);exact ⟨rfl,rfl,rfl⟩) ⟨T7.start hP.1 hQ.1,by omega,by omega,VY.start P Q,λ h=>absurd rfl h⟩ ?_;intro a b c d p q ⟨p1,⟨⟨p2,p2'⟩,⟨p3,p3'⟩,⟨p4,p4'⟩,⟨p5,p5'⟩⟩,⟨p6,p7⟩,p8,p9⟩ ih;have g1:=p1.pa;have g2:=p1.pb;have g3:=p1.qc;have g4:=p1.qd;by_cases ep:q+c=0
 ·(repeat' ((first|(apply AG<;>intro hc<;>try omega)|(apply AQ;omega)|apply AE)<;>conv=>whnf))
  refine ⟨.g8 [.int .i64 a,.int .i64 b,.int .i64 c,.int .i64 d],?_,a,b,c,d,⟨p1.sg,by omega⟩,p9,rfl⟩;(conv=>whnf)
  exact AW rfl (by simp [AZ,BS])
 by_cases nr:q+d=0
 ·(repeat' ((first|(apply AG<;>intro hc<;>try omega)|(apply AQ;omega)|apply AE)<;>conv=>whnf))
  refine ⟨.g8 [.int .i64 a,.int .i64 b,.int .i64 c,.int .i64 d],?_,a,b,c,d,⟨p1.sg,by omega⟩,p9,rfl⟩;(conv=>whnf)
  exact AW rfl (by simp [AZ,BS])
 by_cases hff:(p+a)/(q+c)=(p+b)/(q+d)
 ·obtain ⟨s1,s2,s3,s4⟩:=p1.step ep nr rfl hff
  have s5:=s4 p8;have s6:=s5.half;have s7:=s1.qc;by_cases fq:2147483647<(p+a)/(q+c)
  ·(repeat' ((first|(apply AG<;>intro hc<;>try omega)|(apply AQ;omega)|(refine LI ?_ ?_ (λ_ => ?_) (λ_ _ => ?_);omega;omega;all_goals try omega)|apply AE)<;>conv=>whnf))
   refine ⟨.g8 [.int .i64 a,.int .i64 b,.int .i64 c,.int .i64 d],?_,a,b,c,d,⟨p1.sg,by omega⟩,p9,rfl⟩;(conv=>whnf)
   exact AW rfl (by simp [AZ,BS])
  ·have t1:=xO (x:=(p+a)/(q+c)) (y:=c) (M:=2147483647) (N:=2147483647) (by omega) (by omega)
   have t2:=xO (x:=(p+a)/(q+c)) (y:=d) (M:=2147483647) (N:=2147483647) (by omega) (by omega);(repeat' ((first|(apply AG<;>intro hc<;>try omega)|(apply AQ;omega)|(apply BL;omega)|(apply FW;omega)|(refine LI ?_ ?_ (λ_ => ?_) (λ_ _ => ?_);omega;omega;all_goals try omega)|(apply CN.neg;omega)|apply AE)<;>conv=>whnf))
   all_goals first
    | exact BN [] (by (conv=>whnf);exact ⟨rfl,rfl,rfl⟩) (ih _ _ _ _ _ _ (by omega) ⟨s1,by omega,by omega,s6,λ_=>s5⟩)
    |(refine ⟨.g8 [.int .i64 a,.int .i64 b,.int .i64 c,.int .i64 d],?_,a,b,c,d,⟨p1.sg,by omega⟩,p9,rfl⟩
      (conv=>whnf)
      exact AW rfl (by simp [AZ,BS]))
 ·(repeat' ((first|(apply AG<;>intro hc<;>try omega)|(apply AQ;omega)|(refine LI ?_ ?_ (λ_ => ?_) (λ_ _ => ?_);omega;omega;all_goals try omega)|apply AE)<;>conv=>whnf))
  refine ⟨.g8 [.int .i64 a,.int .i64 b,.int .i64 c,.int .i64 d],?_,a,b,c,d,⟨p1.sg,by omega⟩,p9,rfl⟩;(conv=>whnf)
  exact AW rfl (by simp [AZ,BS])
theorem AgE (N:c8 L) (x y:List Nat) (q1 q2:Bool) (f g:Int) (hX:A1 x) (hY:A1 y) (hl:y.length<=x.length) (lx:x.length<=549755813888) (hs:SZ f g) (R:Nat) (hR:(R:Int)=f*val x+g*val y) (hR2:R<=val x) :
  Ev L 80 [.sl q1 (x.map AL),.sl q2 (y.map AL),.int .i64 f,.int .i64 g] (.sl false ((dg R).map AL)):=by
 refine Ev.x N.NB rfl rfl ?_;(repeat' ((first|apply AP|apply AE)<;>conv=>whnf))
 refine D9 (enc:=AL) 0 x.length rfl rfl (by omega) ?_;(conv=>whnf)
 (repeat' (apply AP<;>conv=>whnf))
 refine G9 (λ i _ _=>x.length-i) (λ(i:Nat) (o:List Nat) (c:Int)=>i<=x.length/\o.length=x.length/\A1 o /\ -2147483648<=c/\c<=2147483648/\(val (o.take i):Int)+((4294967296^i:Nat):Int)*c=f*val (x.take i)+g*val (y.take i)) (λ i o c=>[(10,.int .i64 c),(19,.int .i64 i)]) (λ i o c=>[(16,16,.rw 1 (o.map AL))]) 0 (List.replicate x.length 0) 0 ⟨by omega,by simp,KF _,by omega,by omega,by simp [val]⟩ ?_;intro i o c ⟨p1,p2,p3,p4,p5,p6⟩ ih;by_cases hi:i<x.length
 ·obtain ⟨d,hd⟩ : ∃ d,x[i]? = some d:=⟨_,zE hi⟩
  have y7:=hX.at hd;have h1:=ER hd;by_cases hy:i<y.length
  ·obtain ⟨e,he⟩ : ∃ e,y[i]? = some e:=⟨_,zE hy⟩
   have Jt:=hY.at he;have h2:=ER he;obtain ⟨r1,r2,r3⟩:=hs.Vr y7 Jt;have k7:=rG (d:=d) (e:=e) p6 rfl;(repeat' ((first|(apply AG<;>intro hc<;>try omega)|(apply AQ;omega)|(apply FW;omega)|(apply TZ;omega)|apply AP|(refine A9 (by assumption) ?_ rfl ?_;omega)|apply AE)<;>conv=>whnf))
   generalize htt:f * ↑d+c+g * ↑e=t at *;refine oY ?_;(conv=>whnf)
   (repeat' ((first|(apply A2;omega)|fail)<;>conv=>whnf))
   refine GC (by omega) ?_;(conv=>whnf)
   refine pR ?_;(conv=>whnf)
   (repeat' ((first|(apply AQ;omega)|fail)<;>conv=>whnf))
   refine BN [] (by (conv=>whnf);exact ⟨rfl,rfl,rfl⟩) (ih (i+1) _ _ (by omega) ⟨by omega,by simpa using p2,p3.set _ (rF t),by omega,by omega,?_⟩);rw[G8 (by omega),h1,h2,Nat.pow_succ];simp only[Int.natCast_add,Int.natCast_mul,iM];exact k7
  ·have h2:=fY (y:=y) (i:=i) (by omega)
   obtain ⟨r1,r2,r3⟩:=hs.Vr (e:=0) y7 (by omega);have k7:=rG (d:=d) (e:=0) p6 rfl;rw[Int.mul_zero,Int.add_zero]at k7;have r4 : -9223372030412324865<=f*(d:Int)/\f*(d:Int)<=9223372030412324865:=r1;(repeat' ((first|(apply AG<;>intro hc<;>try omega)|(apply AQ;omega)|(apply FW;omega)|(apply TZ;omega)|apply AP|(refine A9 (by assumption) ?_ rfl ?_;omega)|apply AE)<;>conv=>whnf))
   generalize htt:f * ↑d+c=t at *;refine oY ?_;(conv=>whnf)
   (repeat' ((first|(apply A2;omega)|fail)<;>conv=>whnf))
   refine GC (by omega) ?_;(conv=>whnf)
   refine pR ?_;(conv=>whnf)
   (repeat' ((first|(apply AQ;omega)|fail)<;>conv=>whnf))
   refine BN [] (by (conv=>whnf);exact ⟨rfl,rfl,rfl⟩) (ih (i+1) _ _ (by omega) ⟨by omega,by simpa using p2,p3.set _ (rF t),by omega,by omega,?_⟩);rw[G8 (by omega),h1,h2,Nat.pow_succ];simp only[Int.natCast_add,Int.natCast_mul,iM];rw[Int.mul_zero,Int.add_zero]at k7;exact k7
 ·obtain rfl:i=x.length:=by omega
  clear ih;rw[DH (by omega),DH (Nat.le_refl _),DH (by omega)]at p6;have Tx:=F2 p3;have hxv:=F2 hX;rw[p2]at Tx;have hVR:val o=R:=by
   have:=Aej Tx p6 (by omega) (by omega)
   omega
  have dj:=FM p3;rw[<-p2,<-hVR];(repeat' ((first|(apply AG<;>intro hc<;>try omega)|apply AE|refine aE N (by assumption) (by omega) rfl (by first|rfl|omega|assumption) ?_)<;>conv=>whnf))
  refine I4 (enc:=AL) (λ_=>rfl) (by omega) ?_;(conv=>whnf)
  refine AW ?_ (by simp only[AZ,true_and];exact C2 _);rw[List.drop_zero,Z5 p3]
theorem AgH (N:c8 L) (X Y:Nat) (qk:Y<=X) (hy:3<=(dg Y).length) (lx:(dg X).length<=549755813888) : ∃ r,Ev L 81 [.sl false ((dg X).map AL),.sl false ((dg Y).map AL)] r /\ ∃ A B:Nat,(B<Y/\B<=A/\A<=X/\Nat.gcd A B=Nat.gcd X Y)/\r = .g8 [.sl false ((dg A).map AL),.sl false ((dg B).map AL)]:=by
 have hY0:Y≠0:=λ h=>by rw[h,FZ]at hy;simp at hy
 have uf:X≠0:=by omega
 have hlen:=S9 qk;have ui:=λ q q'=>jU N X Y q q' hY0 lx (by omega)
 have d1:=EF X;have d2:=EF Y;have v1:=BQ X;have v2:=BQ Y;obtain ⟨xt,Lo,Lp⟩:=jA uf;have Eo:=d1.at Lo;obtain ⟨b1,b2,b3,b4⟩:=lS Lp Eo;have Dm:=tT N xt Eo;generalize hs:32-n9 xt=s at *;have bj:s<=31:=by omega
 obtain ⟨n1,n2⟩:=lL d1 Lo (by omega) bj b3 b4;have ke:=λ(f g:Int) (R:Nat) (hs:SZ f g) (h1:(R:Int)=f*val (dg X)+g*val (dg Y)) (h2:R<=val (dg X)) (q q':Bool)=>AgE N (dg X) (dg Y) q q' f g d1 d2 (by omega) lx hs R h1 h2
 have n3:val (dg Y)*2^s<4294967296^(dg X).length:=Nat.lt_of_le_of_lt (zR _ (by omega)) n1;have dj:=λ q=>uI N (dg X) q (dg X).length s d1 (by omega) (by omega) lx bj n1
 have du:=λ q=>uI N (dg Y) q (dg X).length s d2 (by omega) (by omega) lx bj n3
 have hK:=AiL (dg X).length s;obtain ⟨e1,x1,x2,x3⟩:=xX (V:=X) hK;obtain ⟨e2,y1,y2,y3⟩:=xX (V:=Y) hK;rw[v1]at dj;rw[v2]at du;have wo:=xW d1 (n:=(dg X).length) (by omega) (by omega) bj n1;have Av:=xW d2 (n:=(dg X).length) (by omega) (by omega) bj n3;rw[v1]at wo;rw[v2]at Av;generalize WQ (dg X).length s=K at *;generalize X/K=P at *;generalize Y/K=Q at *;rw[v1,v2]at ke;obtain ⟨rc,Aw,a,b,c,d,⟨z1,z2,z3,z4,z5⟩,z6,rfl⟩:=AgD N (P:Int) (Q:Int) (by omega) (by omega);have e1:(((dg X).length:Int)-1).toNat=(dg X).length-1:=by omega
 rw[<-e1]at Lo;refine Ev.xE N.NF rfl rfl ?_;by_cases hb:b=0
 ·(repeat' ((first|(apply AG<;>intro hc<;>try omega)|(apply BL;omega)|(apply B3;omega)|apply AP|(refine A9 (by assumption) ?_ rfl ?_;omega)|apply AE|refine AD (Dm) ?_|refine AD (dj _) ?_|refine AD (du _) ?_|refine AD (Aw) ?_|refine AD (ui _ _) ?_)<;>conv=>whnf))
  refine ⟨_,?_,Y,X%Y,⟨Nat.mod_lt _ (by omega),Nat.le_of_lt (Nat.mod_lt _ (by omega)),qk,Y2 X Y⟩,rfl⟩;(conv=>whnf)
  exact AW rfl (X8 _ _)
 ·obtain ⟨g1,g2,g3,g4⟩:=z6 hb (X:Int) (Y:Int) (K:Int) _ _ (by omega) x1 y1 x2 x3 y2 y3
  obtain ⟨A,hA⟩:=Int.eq_ofNat_of_zero_le (show 0<=a*X+b*Y by omega);obtain ⟨B,hB⟩:=Int.eq_ofNat_of_zero_le g1;have s1:SZ a b:=by rcases z1 with ⟨h1,h2,h3,h4⟩|⟨h1,h2,h3,h4⟩<;>unfold SZ<;>omega
  have s2:SZ c d:=by rcases z1 with ⟨h1,h2,h3,h4⟩|⟨h1,h2,h3,h4⟩<;>unfold SZ<;>omega
  (repeat' ((first|(apply AG<;>intro hc<;>try omega)|(apply BL;omega)|(apply B3;omega)|apply AP|(refine A9 (by assumption) ?_ rfl ?_;omega)|apply AE|refine AD (Dm) ?_|refine AD (dj _) ?_|refine AD (du _) ?_|refine AD (Aw) ?_|refine AD (ke a b A s1 hA.symm (by omega) _ _) ?_|refine AD (ke c d B s2 hB.symm (by omega) _ _) ?_)<;>conv=>whnf))
  rw[hA,hB]at g4;rw[hA,hB]at g2;refine ⟨_,?_,A,B,⟨by omega,by omega,by omega,by simpa using g4⟩,rfl⟩;(conv=>whnf)
  exact AW rfl (X8 _ _)
theorem wR (N:c8 L) (X Y:Nat) (qk:Y<=X) (lx:(dg X).length<=549755813888) :
 AA L [It.lp HY.l1,It.e8 0,
   It.code
    ((((BG.ops HY.r6 false).dr [23,30,31] []).seq
       (BG.cond 32 (((BG.ops HY.r7 false).dr [5,6,32,33] []).seq BG.ret) BG.skip)).seq
     (((BG.ops HY.r8 false).dr [5,7,32,34,35,36,37,38,39] []).seq
      (((BG.ops HY.r9 false).dr [6,8,40,41,42,43] []).seq
       ((BG.block 2 HY.l2.loop).seq
        (((BG.ops HY.o0 false).dr [9,10,45,50,51,52,53,54,55,56] []).seq BG.ret)))))]
  [(6,AV.sl false (List.map AL (dg Y))),(5,AV.sl false (List.map AL (dg X)))] []
  (RW HY (AV.sl false (List.map AL (dg (X.gcd Y))))):=by
 refine FU (λ_ y=>y) (λ(x y:Nat)=>y<=x/\(dg x).length<=549755813888/\Nat.gcd x y=Nat.gcd X Y) (λ x y=>[(6,AV.sl false (List.map AL (dg y))),(5,AV.sl false (List.map AL (dg x)))]) (λ_ _=>[]) X Y ⟨qk,lx,rfl⟩ ?_;intro x y ⟨p1,p2,p3⟩ ih;rw[<-p3]at ih ⊢;generalize Nat.gcd X Y=G at *;clear qk lx;subst p3;have hlen:=S9 p1;by_cases h3:3<=(dg y).length
 ·obtain ⟨r,hr,A,B,⟨k1,k2,k3,k4⟩,rfl⟩:=AgH N x y p1 h3 p2
  have k5:=S9 k3;(repeat' ((first|(apply AG<;>intro hc<;>try omega)|apply AP|apply AE|refine AD (hr) ?_)<;>conv=>whnf))
  exact BB [] (ih A B k1 ⟨k2,by omega,k4⟩)
 ·clear ih
  by_cases h0:y=0
  ·subst h0
   have qz:(dg 0).length=0:=by rw[FZ];rfl
   (repeat' ((first|(apply AG<;>intro hc<;>try omega)|apply AP|apply AE)<;>conv=>whnf))
   rw[Nat.gcd_zero_right];exact AW rfl (by simp only[AZ,true_and];exact C2 _)
  ·have hp:=YF h0
   have hm:=S9 (Nat.le_of_lt (Nat.mod_lt x (show y>0 by omega)));have hd:=λ q q'=>jU N x y q q' h0 p2 (by omega)
   have wq:=λ q=>uJ N y q (by omega)
   have uy:=λ q=>uJ N (x%y) q (by omega)
   have hb:y<18446744073709551616:=Q1.1 (show (dg y).length<=2 by omega);have pg:x%y<y:=Nat.mod_lt _ (by omega);rw[<-Y2 x y];(repeat' ((first|(apply AG<;>intro hc<;>try omega)|apply AP|apply AE|refine AD (hd _ _) ?_|refine AD (wq _) ?_|refine AD (uy _) ?_)<;>conv=>whnf))
   refine VU (λ_ q=>q) (λ(p q:Nat)=>p<18446744073709551616/\q<18446744073709551616/\Nat.gcd p q=Nat.gcd y (x%y)) (λ p q=>[(9,.int .u64 (p:Int)),(10,.int .u64 (q:Int))]) (λ_ _=>[]) [] [] y (x%y) (by (conv=>whnf);exact ⟨rfl,rfl,rfl⟩) ⟨hb,by omega,rfl⟩ ?_;intro p q ⟨g1,g2,g3⟩ ih;rw[<-g3]at ih ⊢;by_cases hq:q=0
   ·subst hq
    clear ih;obtain ⟨v1,v2⟩:=iX g1;rw[Nat.gcd_zero_right];have dj:=FM v2;have ht:=Z5 v2;rw[v1]at dj ht;(repeat' ((first|(apply AG<;>intro hc<;>try omega)|apply GL|(apply E2;omega)|apply G3|apply AE)<;>conv=>whnf))
    generalize p%4294967296=lo at *;generalize p/4294967296=hi at *;refine aE N v2 (by simp) rfl rfl ?_;rw[v1];(conv=>whnf)
    skip
    refine I4 (enc:=AL) (l:=[lo,hi]) (λ_=>rfl) (by omega) ?_;(conv=>whnf)
    refine AW ?_ (by simp only[AZ,true_and];exact C2 _);rw[List.drop_zero,ht]
   ·have hpq:p%q<q:=Nat.mod_lt _ (by omega)
    (repeat' ((first|(apply AG<;>intro hc<;>try omega)|(apply XV;omega)|apply AE)<;>conv=>whnf))
    exact BB [] (ih q (p%q) hpq ⟨g2,by omega,Y2 p q⟩)
theorem AgC (N:c8 L) (a b:List Nat) (q1 q2:Bool) (hA:A1 a) (hB:A1 b) (la:a.length<=549755813888) (lb:b.length<=549755813888) :
  Ev L 82 [.sl q1 (a.map AL),.sl q2 (b.map AL)] (.sl false ((dg (Nat.gcd (val a) (val b))).map AL)):=by
 have t1:=λ q=>YL N a q hA (by omega)
 have t2:=λ q=>YL N b q hB (by omega)
 have l1:=FM hA;have l2:=FM hB;have l7:=λ q q'=>R9 N (dg (val a)) (dg (val b)) q q' (EF _) (EF _) (by omega) (by omega)
 rw[BQ,BQ]at l7;generalize val a=X at *;generalize val b=Y at *;refine Ev.x N.HY rfl rfl ?_;by_cases j9:X<Y
 ·have hn:DF X Y = -1:=(JL (by omega)).symm
  rw[hn]at l7;(repeat' ((first|(apply AG<;>intro hc<;>try omega)|apply AE|refine AD (t1 _) ?_|refine AD (t2 _) ?_|refine AD (l7 _ _) ?_)<;>conv=>whnf))
  rw[Nat.gcd_comm];exact BN [] (by (conv=>whnf);exact ⟨rfl,rfl,rfl⟩) (wR N Y X (by omega) (by omega))
 ·have km:0<=DF X Y:=by unfold DF;split<;>(try split)<;>omega
  generalize DF X Y=cm at *;(repeat' ((first|(apply AG<;>intro hc<;>try omega)|apply AE|refine AD (t1 _) ?_|refine AD (t2 _) ?_|refine AD (l7 _ _) ?_)<;>conv=>whnf))
  exact BN [] (by (conv=>whnf);exact ⟨rfl,rfl,rfl⟩) (wR N X Y (by omega) (by omega))
end Go.c6
namespace Go.c6
open F
attribute [local irreducible] AA AF AX AC CN AR BA A6 BV BH CM EI BO AY B0 CJ AB A5 AH pw CQ CE C8 EA DP BT CP BU C7
variable {L:Lib}
set_option maxHeartbeats 4000000
theorem Wx {k:Nat} {K:Int->Prop} (h:0<k/\k<=9223372036854775808) (hk:K ((18446744073709551616-k:Nat):Int)):A0 .u64 (-(k:Int)) K:=by
 refine ⟨?_⟩;have e:IntKind.u64.wrap (-(k:Int))=((18446744073709551616-k:Nat):Int):=by
  simp [IntKind.wrap,IntKind.bits,IntKind.signed];omega
 rw[e];exact hk
theorem CN.Eu {k:Nat} {K:AV->Prop} (h:0<k/\k<=9223372036854775808) (hk:K (.int .u64 (k:Int))):CN .neg .u64 ((18446744073709551616-k:Nat):Int) K:=by
 refine CN.go (v := .int .u64 (IntKind.u64.wrap (0-((18446744073709551616-k:Nat):Int)))) rfl ?_;have e:IntKind.u64.wrap (0-((18446744073709551616-k:Nat):Int))=(k:Int):=by
  simp [IntKind.wrap,IntKind.bits,IntKind.signed];omega
 rw[e];exact hk
theorem jR (N:a7 L) (z:Int) (hz : -9223372036854775808<=z/\z<=9223372036854775807):Ev L 85 [.int .i64 z] (.agg (eZ z)):=by
 have two : ∀ k:Nat,k<18446744073709551616 -> ∀ q,Ev L 66 [.sl q [[.int .u32 ((k%4294967296:Nat):Int)],[.int .u32 ((k/4294967296:Nat):Int)]]] (.sl false ((dg k).map AL)):=λ k hk q=>by
  have:=YL N.toc8 [k%4294967296,k/4294967296] q (iX hk).2 (by simp)
  rw[Qa hk]at this;exact this
 refine Ev.x N.MO rfl rfl ?_;by_cases h0:0<=z
 ·obtain ⟨k,rfl⟩:=Int.eq_ofNat_of_zero_le h0
  have hT:=two k (by omega);have z1:=JN k;(repeat' ((first|(apply AG<;>intro hc<;>try omega)|apply GL|(apply B3;omega)|(apply E2;omega)|apply G3|refine J9 rfl rfl ?_|apply AE)<;>conv=>whnf))
  generalize k%4294967296=lo at *;generalize k/4294967296=hi at *;(repeat' (refine AD (hT _) ?_<;>conv=>whnf))
  refine GK 1000 N.DK rfl rfl ?_;(repeat' (apply AE<;>conv=>whnf))
  all_goals (refine ⟨rfl,?_⟩;(conv=>whnf);skip)
  exact AW (FF (by omega) (HP (by omega))) (D5 _)
 ·obtain ⟨k,hk⟩:=Int.eq_ofNat_of_zero_le (show 0 <= -z by omega)
  obtain rfl:z = -(k:Int):=by omega
  have hT:=two k (by omega);have z1:=JN k;(repeat' (apply AE<;>conv=>whnf))
  refine Wx (by omega) ?_;(conv=>whnf)
  (repeat' ((first|(apply AG<;>intro hc<;>try omega)|fail)<;>conv=>whnf))
  refine CN.Eu (by omega) ?_;(conv=>whnf)
  (repeat' ((first|(apply AG<;>intro hc<;>try omega)|apply GL|(apply E2;omega)|apply G3|refine J9 rfl rfl ?_)<;>conv=>whnf))
  generalize k%4294967296=lo at *;generalize k/4294967296=hi at *;(repeat' (refine AD (hT _) ?_<;>conv=>whnf))
  refine GK 1000 N.DK rfl rfl ?_;(repeat' ((first|(apply AG<;>intro hc<;>try omega)|apply AP|apply AE)<;>conv=>whnf))
  all_goals (refine ⟨rfl,?_⟩;(conv=>whnf);skip)
  exact AW (FF (by omega) (P7 (by omega))) (D5 _)
theorem uC (N:a7 L) (n q:Bool) (m:List Nat) (hm:Sm 549755813888 m):Ev L 84 [.agg (rZ q n m)] (.agg (eZ (zv n m))):=by
 have hT:=λ q=>YL N.toc8 m q hm.1 (by have:=hm.2;omega)
 have hz:=JN (val m);have ha:=FS n m;refine Ev.x N.MQ rfl rfl ?_;cases n
 ·rw[FK]at *
  (repeat' ((first|apply AE|refine AD (hT _) ?_)<;>conv=>whnf))
  refine GK 1000 N.DK rfl rfl ?_;(repeat' (apply AE<;>conv=>whnf))
  all_goals (refine ⟨rfl,?_⟩;(conv=>whnf);skip)
  exact AW (FF ha.symm (HP (by omega))) (D5 _)
 ·rw[RR]at *
  (repeat' ((first|apply AE|refine AD (hT _) ?_)<;>conv=>whnf))
  refine GK 1000 N.DK rfl rfl ?_;(repeat' ((first|(apply AG<;>intro hc<;>try omega)|apply AP|apply AE)<;>conv=>whnf))
  all_goals (refine ⟨rfl,?_⟩;(conv=>whnf);skip)
  ·exact AW (FF ha.symm (P7 (by omega))) (D5 _)
  ·exact AW (FF ha.symm (HP (by omega))) (D5 _)
theorem cK (N:a7 L) (n q:Bool) (m:List Nat) (hm:Sm 549755813888 m):Ev L 86 [.agg (rZ q n m)] (.int .i64 (o9 (zv n m))):=by
 have l7:=λ q q'=>R9 N.toc8 m [] q q' hm.1 WA (by have:=hm.2;omega) (by simp)
 rw[J5]at l7;refine Ev.x N.MP rfl rfl ?_;by_cases h0:val m=0
 ·have hn:DF (val m) (0:Nat)=0:=(UH (by omega)).symm
  rw[hn]at l7;(repeat' ((first|(apply AG<;>intro hc<;>try omega)|apply AE|refine AD (l7 _ _) ?_)<;>conv=>whnf))
  exact B5 (eN (by have:=FS n m;omega))
 ·have hn:DF (val m) (0:Nat)=1:=(Q0 (by omega)).symm
  rw[hn]at l7;cases n
  ·(repeat' ((first|(apply AG<;>intro hc<;>try omega)|apply AE|refine AD (l7 _ _) ?_)<;>conv=>whnf))
   exact B5 (nH (by rw[FK];omega))
  ·(repeat' ((first|(apply AG<;>intro hc<;>try omega)|apply AE|refine AD (l7 _ _) ?_)<;>conv=>whnf))
   exact B5 (nG (by rw[RR];omega))
theorem uA (N:a7 L) (n1 n2 q1 q2:Bool) (a b:List Nat) (ha:Sm 549755813888 a) (hb:Sm 549755813888 b):Ev L 87 [.agg (rZ q1 n1 a),.agg (rZ q2 n2 b)] (.agg (eZ (zv n1 a+zv n2 b))):=by
 have la:=ha.2;have lb:=hb.2;have h1:=λ q q'=>AgB N.toc8 a b q q' ha.1 hb.1 (by omega) (by omega)
 have h2:=λ q q'=>uH N.toc8 a b q q' ha.1 hb.1 (by omega) (by omega)
 have h3:=λ q q'=>uH N.toc8 b a q q' hb.1 ha.1 (by omega) (by omega)
 have l7:=λ q q'=>R9 N.toc8 a b q q' ha.1 hb.1 (by omega) (by omega)
 have z1:=JN (val a+val b);have z2:=JN (val a-val b);have z3:=JN (val b-val a);refine Ev.x N.ML rfl rfl ?_;by_cases j9:val a<val b
 ·have hn:DF (val a) (val b) = -1:=(JL (by omega)).symm
  rw[hn]at l7;cases n1<;>cases n2<;>simp only[FK,RR]
  ·(repeat' ((first|apply AE|refine AD (h1 _ _) ?_)<;>conv=>whnf))
   refine GK 1000 N.DK rfl rfl ?_;(repeat' (apply AE<;>conv=>whnf))
   all_goals (refine ⟨rfl,?_⟩;(conv=>whnf);skip)
   exact AW (FF (by omega) (HP (by omega))) (D5 _)
  ·(repeat' ((first|(apply AG<;>intro hc<;>try omega)|apply AE|refine AD (h3 _ _) ?_|refine AD (l7 _ _) ?_)<;>conv=>whnf))
   refine GK 1000 N.DK rfl rfl ?_;(repeat' ((first|(apply AG<;>intro hc<;>try omega)|apply AP|apply AE)<;>conv=>whnf))
   all_goals (refine ⟨rfl,?_⟩;(conv=>whnf);skip)
   ·exact AW (FF (by omega) (P7 (by omega))) (D5 _)
  ·(repeat' ((first|(apply AG<;>intro hc<;>try omega)|apply AE|refine AD (h3 _ _) ?_|refine AD (l7 _ _) ?_)<;>conv=>whnf))
   refine GK 1000 N.DK rfl rfl ?_;(repeat' (apply AE<;>conv=>whnf))
   all_goals (refine ⟨rfl,?_⟩;(conv=>whnf);skip)
   ·exact AW (FF (by omega) (HP (by omega))) (D5 _)
  ·(repeat' ((first|apply AE|refine AD (h1 _ _) ?_)<;>conv=>whnf))
   refine GK 1000 N.DK rfl rfl ?_;(repeat' ((first|(apply AG<;>intro hc<;>try omega)|apply AP|apply AE)<;>conv=>whnf))
   all_goals (refine ⟨rfl,?_⟩;(conv=>whnf);skip)
   ·exact AW (FF (by omega) (P7 (by omega))) (D5 _)
 ·have hn:DF (val a) (val b) ≠ -1:=by unfold DF;split<;>(try split)<;>omega
  generalize DF (val a) (val b)=cm at *;cases n1<;>cases n2<;>simp only[FK,RR]
  ·(repeat' ((first|apply AE|refine AD (h1 _ _) ?_)<;>conv=>whnf))
   refine GK 1000 N.DK rfl rfl ?_;(repeat' (apply AE<;>conv=>whnf))
   all_goals (refine ⟨rfl,?_⟩;(conv=>whnf);skip)
   exact AW (FF (by omega) (HP (by omega))) (D5 _)
  ·(repeat' ((first|(apply AG<;>intro hc<;>try omega)|apply AE|refine AD (h2 _ _) ?_|refine AD (l7 _ _) ?_)<;>conv=>whnf))
   refine GK 1000 N.DK rfl rfl ?_;(repeat' (apply AE<;>conv=>whnf))
   all_goals (refine ⟨rfl,?_⟩;(conv=>whnf);skip)
   exact AW (FF (by omega) (HP (by omega))) (D5 _)
  ·(repeat' ((first|(apply AG<;>intro hc<;>try omega)|apply AE|refine AD (h2 _ _) ?_|refine AD (l7 _ _) ?_)<;>conv=>whnf))
   refine GK 1000 N.DK rfl rfl ?_;(repeat' ((first|(apply AG<;>intro hc<;>try omega)|apply AP|apply AE)<;>conv=>whnf))
   all_goals (refine ⟨rfl,?_⟩;(conv=>whnf);skip)
   ·exact AW (FF (by omega) (P7 (by omega))) (D5 _)
   ·exact AW (FF (by omega) (HP (by omega))) (D5 _)
  ·(repeat' ((first|apply AE|refine AD (h1 _ _) ?_)<;>conv=>whnf))
   refine GK 1000 N.DK rfl rfl ?_;(repeat' ((first|(apply AG<;>intro hc<;>try omega)|apply AP|apply AE)<;>conv=>whnf))
   all_goals (refine ⟨rfl,?_⟩;(conv=>whnf);skip)
   ·exact AW (FF (by omega) (P7 (by omega))) (D5 _)
   ·exact AW (FF (by omega) (HP (by omega))) (D5 _)
theorem UP (N:a7 L) (n1 n2 q1 q2:Bool) (a b:List Nat) (ha:A1 a) (hb:A1 b) (hl:a.length+b.length<=1099511627776):Ev L 88 [.agg (rZ q1 n1 a),.agg (rZ q2 n2 b)] (.agg (eZ (zv n1 a*zv n2 b))):=by
 have h1:=λ q q'=>jT N.toc8 a b q q' ha hb hl
 have z1:=JN (val a*val b);have Ja:(zv n1 a*zv n2 b).natAbs=val a*val b:=by rw[Int.natAbs_mul,FS,FS]
 refine Ev.x N.MN rfl rfl ?_;have e:zv n1 a*zv n2 b=bif n1 == n2 then ((val a*val b:Nat):Int) else -((val a*val b:Nat):Int):=by
  cases n1<;>cases n2<;>simp [FK,RR,Int.mul_neg,Int.neg_mul]
 rw[e]at Ja ⊢;generalize val a*val b=V at *;cases n1<;>cases n2<;>simp only[beq_self_eq_true,cond_true,show (false == true)=false from rfl,show (true == false)=false from rfl,cond_false]
 ·(repeat' ((first|apply AE|refine AD (h1 _ _) ?_)<;>conv=>whnf))
  refine GK 1000 N.DK rfl rfl ?_;(repeat' (apply AE<;>conv=>whnf))
  all_goals (refine ⟨rfl,?_⟩;(conv=>whnf);skip)
  exact AW (FF (by omega) (HP (by omega))) (D5 _)
 ·(repeat' ((first|apply AE|refine AD (h1 _ _) ?_)<;>conv=>whnf))
  refine GK 1000 N.DK rfl rfl ?_;(repeat' ((first|(apply AG<;>intro hc<;>try omega)|apply AP|apply AE)<;>conv=>whnf))
  all_goals (refine ⟨rfl,?_⟩;(conv=>whnf);skip)
  ·exact AW (FF (by omega) (P7 (by omega))) (D5 _)
  ·exact AW (FF (by omega) (HP (by omega))) (D5 _)
 ·(repeat' ((first|apply AE|refine AD (h1 _ _) ?_)<;>conv=>whnf))
  refine GK 1000 N.DK rfl rfl ?_;(repeat' ((first|(apply AG<;>intro hc<;>try omega)|apply AP|apply AE)<;>conv=>whnf))
  all_goals (refine ⟨rfl,?_⟩;(conv=>whnf);skip)
  ·exact AW (FF (by omega) (P7 (by omega))) (D5 _)
  ·exact AW (FF (by omega) (HP (by omega))) (D5 _)
 ·(repeat' ((first|apply AE|refine AD (h1 _ _) ?_)<;>conv=>whnf))
  refine GK 1000 N.DK rfl rfl ?_;(repeat' (apply AE<;>conv=>whnf))
  all_goals (refine ⟨rfl,?_⟩;(conv=>whnf);skip)
  exact AW (FF (by omega) (HP (by omega))) (D5 _)
theorem iZ:dg 1=[1]:=by rw[KE (by omega)];simp [FZ]
theorem Agv (N:a7 L) (V:Nat) (q:Bool):Ev L 90 [.sl q ((dg V).map AL)] (.bool (decide (V=1))):=by
 have hv:=BQ V;have hD:=EF V;have h1:V=1->dg V=[1]:=λ h=>by rw[h,iZ]
 generalize dg V=l at *;refine Ev.x N.OP rfl rfl ?_;by_cases hl:l.length=1
 ·obtain ⟨d,rfl⟩:=List.length_eq_one_iff.1 hl
  have e:V=d:=by rw[<-hv];simp [val]
  subst e;have hd:[V][(0:Int).toNat]? = some V:=rfl;(repeat' ((first|(apply AG<;>intro hc<;>try omega)|apply AP|(refine A9 (by assumption) ?_ rfl ?_;omega)|apply AE)<;>conv=>whnf))
  ·exact T5 (by omega)
  ·exact S0 (by omega)
 ·(repeat' ((first|(apply AG<;>intro hc<;>try omega)|apply AP|apply AE)<;>conv=>whnf))
  exact S0 (λ h=>by rw[h1 h]at hl;simp at hl)
theorem WC (N:a7 L) (n q1 q2:Bool) (m d:List Nat) (hm:Sm 549755813888 m) (hd:Sm 549755813888 d) (h0:val d≠0):Ev L 94 [.agg (rQ q1 q2 n m d)] (.agg (eQ (qv n m d))):=by
 have Ab:=λ q q'=>jS N.toc8 m d q q' hm.1 hd.1 hm.2 hd.2 h0
 have Hc:=FS n m;have sq:Sm 549755813888 (dg (val m/val d)):=hm.low (Nat.div_le_self _ _);have sr:Sm 549755813888 (dg (val m%val d)):=hd.low (Nat.le_of_lt (Nat.mod_lt _ (by omega)));have hT:=λ q=>uC N n q _ sq
 have hG:=λ q q'=>AgC N.toc8 d (dg (val m%val d)) q q' hd.1 sr.1 hd.2 sr.2
 rw[BQ,show Nat.gcd (val d) (val m%val d)=Nat.gcd (val d) (zv n m).natAbs by rw[Hc,Y2,Nat.gcd_comm]]at hG;have Jy:=wS (zv n m).natAbs h0;have Al:=Nat.gcd_le_left (zv n m).natAbs (show 0<val d by omega);have hz:=JN (val m%val d);obtain ⟨e1,e2,e3⟩:=lY (z:=zv n m) h0;unfold qv;generalize hGG:Nat.gcd (val d) (zv n m).natAbs=g at *;have h1:=λ q=>Agv N g q
 refine Ev.x N.OR rfl rfl ?_;by_cases js:val m%val d=0
 ·(repeat' ((first|(apply AG<;>intro hc<;>try omega)|apply AP|apply AE|refine AD (Ab _ _) ?_|refine AD (hT _) ?_)<;>conv=>whnf))
  refine GK 1000 N.IW rfl rfl ?_;(repeat' (apply AE<;>conv=>whnf))
  refine ⟨rfl,?_⟩;(conv=>whnf)
  (repeat' (refine GA rfl ?_<;>conv=>whnf))
  have km:g=val d:=by
   rw[<-hGG,Hc];exact Nat.gcd_eq_left (Nat.dvd_of_mod_eq_zero js)
  have hv:=BQ (val m/val d);refine AW ?_ ?_
  ·show _=AV.agg (rQ _ _ _ _ _)
   rw[e1,e2,e3,Hc,km,Nat.div_self (by omega),FS,hv,iZ];have hs:decide (zv n (dg (val m/val d))<0)=decide (zv n m<0):=by
    cases n
    ·rw[FK,FK];simp;omega
    ·rw[RR,RR,hv]
     congr 1;rw[eq_iff_iff];have h5:=Nat.div_add_mod (val m) (val d);rw[js,Nat.add_zero]at h5;constructor
     ·intro h6
      have h7:val m/val d≠0:=by omega
      have:val m≠0:=λ h8=>h7 (by rw[h8,Nat.zero_div])
      omega
     ·intro h6
      have h7:val m/val d≠0:=λ h8=>by rw[h8,Nat.mul_zero]at h5;omega
      omega
   rw[hs];rfl
  ·exact C3 _
 ·by_cases yp:g=1
  ·have hT1:=λ q=>uC N n q m hm
   have Fm:=λ q=>YL N.toc8 d q hd.1 (by have:=hd.2;omega)
   (repeat' ((first|(apply AG<;>intro hc<;>try omega)|apply AP|apply AE|refine AD (Ab _ _) ?_|refine AD (hG _ _) ?_|refine EE (h1 _) (λ hf => ?_) (λ hf => ?_)|refine AD (hT1 _) ?_|refine AD (Fm _) ?_)<;>conv=>whnf))
   ·refine AW ?_ (bL _ _ _)
    show _=AV.agg (rQ _ _ _ _ _);rw[e1,e2,e3,yp,Nat.div_one,Nat.div_one]
   ·exact absurd yp hf
  ·have sg:Sm 549755813888 (dg g):=hd.low Al
   have og:=λ q q'=>jS N.toc8 m (dg g) q q' hm.1 sg.1 hm.2 sg.2 (by rw[BQ];omega)
   have oh:=λ q q'=>jS N.toc8 d (dg g) q q' hd.1 sg.1 hd.2 sg.2 (by rw[BQ];omega)
   rw[BQ]at og oh;(repeat' ((first|(apply AG<;>intro hc<;>try omega)|apply AP|apply AE|refine AD (Ab _ _) ?_|refine AD (hG _ _) ?_|refine EE (h1 _) (λ hf => ?_) (λ hf => ?_)|refine AD (og _ _) ?_|refine AD (oh _ _) ?_)<;>conv=>whnf))
   ·exact absurd hf yp
   ·refine AW ?_ (bL _ _ _)
    show _=AV.agg (rQ _ _ _ _ _);rw[e1,e2,e3,Hc];have hs:n=decide (zv n m<0):=by
     have:val m≠0:=λ h=>js (by rw[h,Nat.zero_mod])
     cases n
     ·exact HP (by rw[FK];omega)
     ·exact P7 (by rw[RR];omega)
    rw[<-hs]
theorem WD (N:a7 L) (m:List Nat):Ev L 91 [.sl false (m.map AL)] (.agg [.bool false,.sl false (m.map AL)]):=by
 refine Ev.x N.OQ rfl rfl ?_;(repeat' (apply AE<;>conv=>whnf))
 exact AW rfl (qX _ _)
def We (n:Bool) (m d:List Nat) (n':Bool) (m' d':List Nat) (w:Bool) (k:Nat):Prop:=Sm k m'/\Sm k d'/\val d'≠0/\(w=true->val d'=1)/\qv n m d=mkRat (zv n' m') (val d')
theorem Q7 (N:a7 L) (n:Bool) (m d:List Nat) (k:Nat) (hk:1<=k/\k<=549755813888) (hm:Sm k m) (hd:Sm k d) : ∃ n' m' d' w,Ev L 89 [.agg (rQ false false n m d)] (.agg [.bool n',.sl false (m'.map AL),.sl false (d'.map AL),.bool w])/\We n m d n' m' d' w k:=by
 have l7:=λ q q'=>R9 N.toc8 d [] q q' hd.1 WA (by have:=hd.2;omega) (by simp)
 rw[J5]at l7;by_cases h1:d=[1]
 ·subst h1
  refine ⟨n,m,[1],true,?_,hm,hd,by decide,λ_=>rfl,rfl⟩;refine Ev.x N.JW rfl rfl ?_;have hd:[1][(0:Int).toNat]? = some 1:=rfl;have rh:([1]:List Nat).length=1:=rfl;(repeat' ((first|(apply AG<;>intro hc<;>try omega)|apply AP|(refine A9 (by assumption) ?_ rfl ?_;omega)|apply AE)<;>conv=>whnf))
  exact AW rfl (X5 _ _ _ _)
 have l9 : ∀ x,d[(0:Int).toNat]? = some x->(d.length:Int)=1->(x:Int)≠1:=λ x hx hl h=>by
  obtain ⟨y,rfl⟩:=List.length_eq_one_iff.1 (show d.length=1 by omega);simp at hx;apply h1;congr 1;omega
 by_cases h0:val d=0
 ·refine ⟨false,[],[1],true,?_,Ni _,nK hk.1 (by omega),by decide,λ_=>rfl,by unfold qv;rw[h0,Rat.mkRat_zero,Ph,Rat.zero_mkRat]⟩
  have hn:DF (val d) (0:Nat)=0:=(UH (by omega)).symm;rw[hn]at l7;refine Ev.x N.JW rfl rfl ?_;have hD:=hd.1;(repeat' ((first|(apply AG<;>intro hc<;>try omega)|apply AP|(refine S2 (by assumption) ?_ (λ e he hb => ?_);omega)|refine GA rfl ?_|apply AE|refine AD (l7 _ _) ?_)<;>conv=>whnf))
  all_goals first
   | exact AW rfl (X5 _ _ _ _)
   | exact AW rfl (X5 false true [] [1])
   | exact absurd (by assumption) (l9 _ he (by assumption))
 ·refine ⟨n,m,d,false,?_,hm,hd,h0,(λ h=>by cases h),rfl⟩
  have hn:DF (val d) (0:Nat)=1:=(Q0 (by omega)).symm;rw[hn]at l7;have hD:=hd.1;refine Ev.x N.JW rfl rfl ?_;(repeat' ((first|(apply AG<;>intro hc<;>try omega)|apply AP|(refine S2 (by assumption) ?_ (λ e he hb => ?_);omega)|apply AE|refine AD (l7 _ _) ?_)<;>conv=>whnf))
  all_goals first
   | exact AW rfl (X5 _ _ _ _)
   | exact AW rfl (X5 false true [] [1])
   | exact absurd (by assumption) (l9 _ he (by assumption))
theorem kC (N:a7 L) (n q1 q2:Bool) (m d:List Nat) (hm:Sm 549755813888 m) (hd:Sm 549755813888 d):Ev L 95 [.agg (rQ q1 q2 n m d)] (.agg (eQ (qv n m d))):=by
 obtain ⟨n',m',d',w,hr,s1,s2,s3,s4,s5⟩:=Q7 N n m d 549755813888 (by omega) hm hd;have hl:=λ q1 q2=>WC N n' q1 q2 m' d' s1 s2 s3
 rw[s5];unfold qv at hl;refine Ev.x N.ON rfl rfl ?_;(repeat' ((first|apply H7|apply AE|refine AD (hr) ?_|refine AD (hl _ _) ?_)<;>conv=>whnf))
 exact AW rfl (C3 _)
theorem vF (N:a7 L) (n q1 q2:Bool) (m d:List Nat) (hm:Sm 549755813888 m) (hd:Sm 549755813888 d):Ev L 97 [.agg (rQ q1 q2 n m d)] (.int .i64 (o9 (qv n m d).num)):=by
 obtain ⟨n',m',d',w,hr,s1,s2,s3,s4,s5⟩:=Q7 N n m d 549755813888 (by omega) hm hd;have hl:=λ q=>cK N n' q m' s1
 rw[s5,zF s3];refine Ev.x N.OL rfl rfl ?_;(repeat' ((first|apply H7|apply AE|refine AD (hr) ?_|refine AD (hl _) ?_)<;>conv=>whnf))
 exact B5 rfl
theorem gZ (z:Int):AV.agg [.bool (decide (z<0)),.sl false ((dg z.natAbs).map AL),.sl false [[.int .u32 1]]] = .agg (eQ (z:Rat)):=by
 show _=AV.agg (rQ _ _ _ _ _);rw[Rat.num_intCast,Rat.den_intCast,iZ];rfl
theorem HN (N:a7 L) (z:Int) (hz : -9223372036854775808<=z/\z<=9223372036854775807):Ev L 96 [.int .i64 z] (.agg (eQ (z:Rat))):=by
 have h1:=jR N z hz;refine Ev.x N.OK rfl rfl ?_;(repeat' ((first|apply AE|refine AD (h1) ?_)<;>conv=>whnf))
 refine GK 1000 N.IW rfl rfl ?_;(repeat' (apply AE<;>conv=>whnf))
 refine ⟨rfl,?_⟩;(conv=>whnf)
 (repeat' (refine GA rfl ?_<;>conv=>whnf))
 exact AW (gZ z) (C3 _)
theorem VI {k l:Nat} {n1 n2:Bool} {a b:List Nat} (ha:Sm k a) (hb:Sm l b):Sm (k+l) (dg (zv n1 a*zv n2 b).natAbs):=ha.mul hb (by rw[Int.natAbs_mul,FS,FS])
theorem Nk {k:Nat} {x y:Int} (ha:Sm k (dg x.natAbs)) (hb:Sm k (dg y.natAbs)):Sm (k+1) (dg (x+y).natAbs):=ha.add hb (by rw[BQ,BQ];omega)
theorem vD (N:a7 L) (k:Nat) (hk:1<=k/\k<=68719476736) (n1 n2 q1 q2 q3 q4:Bool) (m1 d1 m2 d2:List Nat) (eu:Sm k m1) (ki:Sm k d1) (bh:Sm k m2) (nt:Sm k d2) :
  Ev L 98 [.agg (rQ q1 q2 n1 m1 d1),.agg (rQ q3 q4 n2 m2 d2)] (.agg (eQ (qv n1 m1 d1+qv n2 m2 d2))):=by
 obtain ⟨a1,a2,a3,w1,bz,s1,s2,s3,s4,s5⟩:=Q7 N n1 m1 d1 k (by omega) eu ki;obtain ⟨b1,b2,b3,w2,af,t1,t2,t3,t4,t5⟩:=Q7 N n2 m2 d2 k (by omega) bh nt;rw[s5,t5];have hA:=λ q q'=>uA N a1 b1 q q' a2 b2 (s1.le (by omega)) (t1.le (by omega))
 have my:Sm (k+1) (dg (zv a1 a2+zv b1 b2).natAbs):=Nk (by rw[FS];exact s1.tk) (by rw[FS];exact t1.tk);by_cases hw:w1=true/\w2=true
 ·obtain ⟨rfl,rfl⟩:=hw
  rw[s4 rfl,t4 rfl,zB (by omega),zD];generalize zv a1 a2+zv b1 b2=z at *;refine Ev.x N.JV rfl rfl ?_;(repeat' ((first|apply H7|apply AE|refine AD (bz) ?_|refine AD (af) ?_|refine AD (hA _ _) ?_)<;>conv=>whnf))
  refine GK 1000 N.IW rfl rfl ?_;(repeat' (apply AE<;>conv=>whnf))
  refine ⟨rfl,?_⟩;(conv=>whnf)
  (repeat' (refine GA rfl ?_<;>conv=>whnf))
  exact AW (gZ z) (C3 _)
 ·have l7:=λ q q'=>R9 N.toc8 a3 b3 q q' s2.1 t2.1 (by have:=s2.2;omega) (by have:=t2.2;omega)
  by_cases hde:val a3=val b3
  ·have hn:DF (val a3) (val b3)=0:=(UH (by omega)).symm
   rw[hn]at l7;rw[<-hde,zB s3];generalize zv a1 a2+zv b1 b2=z at *;have hl:=λ q1 q2=>WC N (decide (z<0)) q1 q2 (dg z.natAbs) a3 (my.le (by omega)) (s2.le (by omega)) s3
   unfold qv at hl;rw[GI]at hl;refine Ev.x N.JV rfl rfl ?_;cases w1<;>cases w2
   ·(repeat' ((first|(apply AG<;>intro hc<;>try omega)|apply H7|apply AE|refine AD (bz) ?_|refine AD (af) ?_|refine AD (hA _ _) ?_|refine AD (l7 _ _) ?_|refine AD (hl _ _) ?_)<;>conv=>whnf))
    exact AW rfl (C3 _)
   ·(repeat' ((first|(apply AG<;>intro hc<;>try omega)|apply H7|apply AE|refine AD (bz) ?_|refine AD (af) ?_|refine AD (hA _ _) ?_|refine AD (l7 _ _) ?_|refine AD (hl _ _) ?_)<;>conv=>whnf))
    exact AW rfl (C3 _)
   ·(repeat' ((first|(apply AG<;>intro hc<;>try omega)|apply H7|apply AE|refine AD (bz) ?_|refine AD (af) ?_|refine AD (hA _ _) ?_|refine AD (l7 _ _) ?_|refine AD (hl _ _) ?_)<;>conv=>whnf))
    exact AW rfl (C3 _)
   ·exact absurd ⟨rfl,rfl⟩ hw
  ·have hn:DF (val a3) (val b3)≠0:=by unfold DF;split<;>(try split)<;>omega
   generalize DF (val a3) (val b3)=cm at *;have fp:=λ q q'=>UP N a1 false q q' a2 b3 s1.1 t2.1 (by have:=s1.2;have:=t2.2;omega)
   have il:=λ q q'=>UP N b1 false q q' b2 a3 t1.1 s2.1 (by have:=t1.2;have:=s2.2;omega)
   have oi:=λ q q'=>jT N.toc8 a3 b3 q q' s2.1 t2.1 (by have:=s2.2;have:=t2.2;omega)
   have uo:=WD N a3;have rj:=WD N b3;have g1:Sm (k+k) (dg (zv a1 a2*zv false b3).natAbs):=VI s1 t2;have g2:Sm (k+k) (dg (zv b1 b2*zv false a3).natAbs):=VI t1 s2;have g3:=Nk g1 g2;have g4:Sm (k+k) (dg (val a3*val b3)):=s2.mul t2 rfl;rw[dE s3 t3,<-FK b3,<-FK a3];have yk:val a3*val b3≠0:=Nat.mul_ne_zero s3 t3;generalize zv a1 a2*zv false b3=x at *;generalize zv b1 b2*zv false a3=y at *;generalize val a3*val b3=D at *;have Fa:=λ q q'=>uA N (decide (x<0)) (decide (y<0)) q q' (dg x.natAbs) (dg y.natAbs) (g1.le (by omega)) (g2.le (by omega))
   rw[GI,GI]at Fa;generalize x+y=z at *;have hl:=λ q1 q2=>WC N (decide (z<0)) q1 q2 (dg z.natAbs) (dg D) (g3.le (by omega)) (g4.le (by omega)) (by rw[BQ];exact yk)
   unfold qv at hl;rw[GI,BQ]at hl;refine Ev.x N.JV rfl rfl ?_;cases w1<;>cases w2
   ·(repeat' ((first|(apply AG<;>intro hc<;>try omega)|apply H7|apply T6|apply AE|refine AD (bz) ?_|refine AD (af) ?_|refine AD (l7 _ _) ?_|refine AD (uo) ?_|refine AD (rj) ?_|refine AD (fp _ _) ?_|refine AD (il _ _) ?_|refine AD (Fa _ _) ?_|refine AD (oi _ _) ?_|refine AD (hl _ _) ?_)<;>conv=>whnf))
    exact AW rfl (C3 _)
   ·(repeat' ((first|(apply AG<;>intro hc<;>try omega)|apply H7|apply T6|apply AE|refine AD (bz) ?_|refine AD (af) ?_|refine AD (l7 _ _) ?_|refine AD (uo) ?_|refine AD (rj) ?_|refine AD (fp _ _) ?_|refine AD (il _ _) ?_|refine AD (Fa _ _) ?_|refine AD (oi _ _) ?_|refine AD (hl _ _) ?_)<;>conv=>whnf))
    exact AW rfl (C3 _)
   ·(repeat' ((first|(apply AG<;>intro hc<;>try omega)|apply H7|apply T6|apply AE|refine AD (bz) ?_|refine AD (af) ?_|refine AD (l7 _ _) ?_|refine AD (uo) ?_|refine AD (rj) ?_|refine AD (fp _ _) ?_|refine AD (il _ _) ?_|refine AD (Fa _ _) ?_|refine AD (oi _ _) ?_|refine AD (hl _ _) ?_)<;>conv=>whnf))
    exact AW rfl (C3 _)
   ·exact absurd ⟨rfl,rfl⟩ hw
theorem vE (N:a7 L) (k:Nat) (hk:1<=k/\k<=68719476736) (n1 n2 q1 q2 q3 q4:Bool) (m1 d1 m2 d2:List Nat) (eu:Sm k m1) (ki:Sm k d1) (bh:Sm k m2) (nt:Sm k d2) :
  Ev L 99 [.agg (rQ q1 q2 n1 m1 d1),.agg (rQ q3 q4 n2 m2 d2)] (.agg (eQ (qv n1 m1 d1*qv n2 m2 d2))):=by
 obtain ⟨a1,a2,a3,w1,bz,s1,s2,s3,s4,s5⟩:=Q7 N n1 m1 d1 k (by omega) eu ki;obtain ⟨b1,b2,b3,w2,af,t1,t2,t3,t4,t5⟩:=Q7 N n2 m2 d2 k (by omega) bh nt;rw[s5,t5,lW];have fp:=λ q q'=>UP N a1 b1 q q' a2 b2 s1.1 t1.1 (by have:=s1.2;have:=t1.2;omega)
 have oi:=λ q q'=>jT N.toc8 a3 b3 q q' s2.1 t2.1 (by have:=s2.2;have:=t2.2;omega)
 have g1:Sm (k+k) (dg (zv a1 a2*zv b1 b2).natAbs):=VI s1 t1;have g4:Sm (k+k) (dg (val a3*val b3)):=s2.mul t2 rfl;have yk:val a3*val b3≠0:=Nat.mul_ne_zero s3 t3;generalize zv a1 a2*zv b1 b2=z at *;by_cases hw:w1=true/\w2=true
 ·obtain ⟨rfl,rfl⟩:=hw
  rw[s4 rfl,t4 rfl,Nat.one_mul,zD];refine Ev.x N.K3 rfl rfl ?_;(repeat' ((first|apply H7|apply AE|refine AD (bz) ?_|refine AD (af) ?_|refine AD (fp _ _) ?_)<;>conv=>whnf))
  refine GK 1000 N.IW rfl rfl ?_;(repeat' (apply AE<;>conv=>whnf))
  refine ⟨rfl,?_⟩;(conv=>whnf)
  (repeat' (refine GA rfl ?_<;>conv=>whnf))
  exact AW (gZ z) (C3 _)
 ·generalize val a3*val b3=D at *
  have hl:=λ q1 q2=>WC N (decide (z<0)) q1 q2 (dg z.natAbs) (dg D) (g1.le (by omega)) (g4.le (by omega)) (by rw[BQ];exact yk)
  unfold qv at hl;rw[GI,BQ]at hl;refine Ev.x N.K3 rfl rfl ?_;cases w1<;>cases w2
  ·(repeat' ((first|apply H7|apply AE|refine AD (bz) ?_|refine AD (af) ?_|refine AD (fp _ _) ?_|refine AD (oi _ _) ?_|refine AD (hl _ _) ?_)<;>conv=>whnf))
   exact AW rfl (C3 _)
  ·(repeat' ((first|apply H7|apply AE|refine AD (bz) ?_|refine AD (af) ?_|refine AD (fp _ _) ?_|refine AD (oi _ _) ?_|refine AD (hl _ _) ?_)<;>conv=>whnf))
   exact AW rfl (C3 _)
  ·(repeat' ((first|apply H7|apply AE|refine AD (bz) ?_|refine AD (af) ?_|refine AD (fp _ _) ?_|refine AD (oi _ _) ?_|refine AD (hl _ _) ?_)<;>conv=>whnf))
   exact AW rfl (C3 _)
  ·exact absurd ⟨rfl,rfl⟩ hw
theorem X6 (x:Rat) (e:Int):AZ (.g8 [.agg (eQ x),.int .i64 e]):=by
 simp only[AZ,BS,and_true,true_and];exact ⟨C2 _,C2 _⟩
theorem Ahg (N:a7 L) (k:Nat) (hk:1<=k/\k<=68719476736) (n1 n2 q1 q2 q3 q4:Bool) (m1 d1 m2 d2:List Nat) (eu:Sm k m1) (ki:Sm k d1) (bh:Sm k m2) (nt:Sm k d2) (h0:qv n2 m2 d2≠0) :
  Ev L 100 [.agg (rQ q1 q2 n1 m1 d1),.agg (rQ q3 q4 n2 m2 d2)] (.g8 [.agg (eQ (qv n1 m1 d1/qv n2 m2 d2)),.int .i64 0]):=by
 obtain ⟨a1,a2,a3,w1,bz,s1,s2,s3,s4,s5⟩:=Q7 N n1 m1 d1 k (by omega) eu ki;obtain ⟨b1,b2,b3,w2,af,t1,t2,t3,t4,t5⟩:=Q7 N n2 m2 d2 k (by omega) bh nt;rw[t5]at h0;rw[s5,t5];have jc:zv b1 b2≠0:=λ h=>h0 ((lX t3).2 h)
 rw[Ai3 s3 t3 jc];have hS:=λ q=>cK N b1 q b2 (t1.le (by omega))
 have ou:o9 (zv b1 b2)≠0:=by unfold o9;split<;>(try split)<;>omega
 have fp:=λ q q'=>UP N a1 false q q' a2 b3 s1.1 t2.1 (by have:=s1.2;have:=t2.2;omega)
 have il:=λ q q'=>UP N false b1 q q' a3 b2 s2.1 t1.1 (by have:=t1.2;have:=s2.2;omega)
 have uo:=WD N a3;have rj:=WD N b3;have g1:Sm (k+k) (dg (zv a1 a2*zv false b3).natAbs):=VI s1 t2;have g2:Sm (k+k) (dg (zv false a3*zv b1 b2).natAbs):=VI s2 t1;have hd:(zv false a3*zv b1 b2).natAbs=val a3*(zv b1 b2).natAbs:=by rw[Int.natAbs_mul,FS]
 have yl:(zv false a3*zv b1 b2).sign=(zv b1 b2).sign:=by
  rw[Int.sign_mul,FK,Int.sign_eq_one_of_pos (by omega),Int.one_mul]
 have nb:zv false a3*zv b1 b2≠0:=by
  intro h;rw[h]at yl;exact jc (by simpa using yl.symm)
 rw[<-hd,<-yl,<-FK b3];generalize zv a1 a2*zv false b3=x at *;generalize zv false a3*zv b1 b2=y at *;generalize o9 (zv b1 b2)=sg at *;have hl:=λ q1 q2=>WC N (decide (x<0) != decide (y<0)) q1 q2 (dg x.natAbs) (dg y.natAbs) (g1.le (by omega)) (g2.le (by omega)) (by rw[BQ];omega)
 unfold qv at hl;rw[Rl nb,BQ]at hl;refine Ev.x N.OH rfl rfl ?_;(repeat' ((first|(apply AG<;>intro hc<;>try omega)|apply H7|apply T6|apply AE|refine AD (bz) ?_|refine AD (af) ?_|refine AD (hS _) ?_|refine AD (uo) ?_|refine AD (rj) ?_|refine AD (fp _ _) ?_|refine AD (il _ _) ?_)<;>conv=>whnf))
 refine GK 1000 N.K4 rfl rfl ?_;(repeat' (apply AE<;>conv=>whnf))
 generalize decide (x<0)=p at *;generalize decide (y<0)=r at *;cases p<;>cases r;all_goals
  (conv=>whnf)
  refine ⟨rfl,?_⟩;(conv=>whnf)
  (repeat' (refine AD (hl _ _) ?_<;>conv=>whnf))
  exact AW rfl (X6 _ _)
end Go.c6

namespace Go.c6
open F
attribute [local irreducible] AA AF AX AC CN AR BA A6 BV BH CM EI BO AY B0 CJ AB A5 AH pw CQ CE C8 EA DP BT CP BU C7
set_option maxHeartbeats 1000000
variable {L:Lib}
def DT (n:Int):Prop := -9223372036854775808<=n/\n<=9223372036854775807
structure Wd where
 b:Int
 f:Int
 r:Int
 o:Int
abbrev F3 (w:Wd):List AV:=[.int .i64 w.b,.int .i64 w.f,.int .i64 w.r,.int .i64 w.o]
theorem cJ (I:c7 L) (r:Int):Ev L 1 [.int .i64 r] (.bool (decide (1<=r/\r<=3))):=by
 refine Ev.x I.MJ rfl rfl ?_;(repeat' ((first|(apply AG<;>intro hc<;>try omega)|apply AE)<;>conv=>whnf))
 all_goals (first|exact T5 (by omega)|exact S0 (by omega))
theorem TD (I:c7 L) (v a b:Int):Ev L 10 [.int .i64 v,.int .i64 a,.int .i64 b] (.bool (decide (a<=v/\v<=b))):=by
 refine Ev.x I.PJ rfl rfl ?_;(repeat' ((first|(apply AG<;>intro hc<;>try omega)|apply AE)<;>conv=>whnf))
 all_goals (first|exact T5 (by omega)|exact S0 (by omega))
def WV (w:Wd):Prop:=4<=w.b/\w.b<=24/\0<=w.f/\w.f<w.b/\1<=w.r/\w.r<=3/\1<=w.o/\w.o<=2
instance (w : Wd) : Decidable (WV w) := by unfold WV; infer_instance
variable (w:Wd)
theorem Q6 (I:c7 L):Ev L 2 [.agg (F3 w)] (.bool (decide (WV w))):=by
 refine Ev.x I.MH rfl rfl ?_;(repeat' ((first|(apply AG<;>intro hc<;>try omega)|apply AE|refine EE (cJ I _) (λ hf => ?_) (λ hf => ?_))<;>conv=>whnf))
 all_goals (unfold WV;first|exact T5 (by omega)|exact S0 (by omega))
theorem cN (I:c7 L):Ev L 11 [.agg (F3 w)] (.bool (decide (WV w))):=by
 refine Ev.x I.PL rfl rfl ?_;(repeat' ((first|(apply BL;omega)|apply AE|refine EE (TD I _ _ _) (λ hf => ?_) (λ hf => ?_))<;>conv=>whnf))
 all_goals (unfold WV;first|exact T5 (by omega)|exact S0 (by omega))
def KW:Int:=if WV w then -pw (w.b-1) else 0
def EK:Int:=if WV w then pw (w.b-1)-1 else 0
theorem tX (I:c7 L):Ev L 3 [.agg (F3 w)] (.int .i64 (KW w)):=by
 refine Ev.x I.MD rfl rfl ?_;by_cases hv:WV w;all_goals (
  have fc:=hv;unfold WV at fc;(repeat' ((first|(apply BL;omega)|(refine FX ?_ (λ_ _ => ?_);omega)|apply aP|(apply CN.neg;omega)|apply AE|refine EE (Q6 _ I) (λ hf => ?_) (λ hf => ?_))<;>conv=>whnf))
  all_goals (first|contradiction|exact B5 (by rw[KW,if_pos hv])|exact B5 (by rw[KW,if_neg hv])))
theorem cI (I:c7 L):Ev L 4 [.agg (F3 w)] (.int .i64 (EK w)):=by
 refine Ev.x I.MC rfl rfl ?_;by_cases hv:WV w;all_goals (
  have fc:=hv;unfold WV at fc;(repeat' ((first|(apply BL;omega)|(refine FX ?_ (λ_ _ => ?_);omega)|apply aP|apply AE|refine EE (Q6 _ I) (λ hf => ?_) (λ hf => ?_))<;>conv=>whnf))
  all_goals (first|contradiction|exact B5 (by rw[EK,if_pos hv])|exact B5 (by rw[EK,if_neg hv])))
theorem Ahi (I:c7 L):Ev L 12 [.agg (F3 w)] (.int .i64 (KW w)):=by
 refine Ev.x I.PK rfl rfl ?_;by_cases hv:WV w;all_goals (
  have fc:=hv;unfold WV at fc;(repeat' ((first|(apply BL;omega)|(refine FX ?_ (λ_ _ => ?_);omega)|apply aP|(apply CN.neg;omega)|(apply B3;omega)|apply AE|refine EE (cN _ I) (λ hf => ?_) (λ hf => ?_))<;>conv=>whnf))
  all_goals (first|contradiction|exact B5 (by rw[KW,if_pos hv])|exact B5 (by rw[KW,if_neg hv])))
theorem vG (I:c7 L):Ev L 13 [.agg (F3 w)] (.int .i64 (EK w)):=by
 refine Ev.x I.PI rfl rfl ?_;by_cases hv:WV w;all_goals (
  have fc:=hv;unfold WV at fc;(repeat' ((first|(apply BL;omega)|(refine FX ?_ (λ_ _ => ?_);omega)|apply aP|(apply B3;omega)|apply AE|refine EE (cN _ I) (λ hf => ?_) (λ hf => ?_))<;>conv=>whnf))
  all_goals (first|contradiction|exact B5 (by rw[EK,if_pos hv])|exact B5 (by rw[EK,if_neg hv])))
def FT (v:Int):Prop:=WV w/\KW w<=v/\v<=EK w
instance (v : Int) : Decidable (FT w v) := by unfold FT; infer_instance
theorem Q5 (I:c7 L) (v:Int):Ev L 5 [.agg (F3 w),.int .i64 v] (.bool (decide (FT w v))):=by
 refine Ev.x I.MB rfl rfl ?_;(repeat' ((first|(apply AG<;>intro hc<;>try omega)|apply AE|refine EE (Q6 _ I) (λ hf => ?_) (λ hf => ?_)|refine AD (tX _ I) ?_|refine AD (cI _ I) ?_)<;>conv=>whnf))
 all_goals (unfold FT;first|exact T5 ⟨by assumption,by assumption,by assumption⟩|exact S0 (by rintro ⟨h1,h2,h3⟩;first|contradiction|omega))
theorem Ahh (I:c7 L) (v:Int):Ev L 14 [.agg (F3 w),.int .i64 v] (.bool (decide (FT w v))):=by
 refine Ev.x I.PH rfl rfl ?_;(repeat' ((first|apply AE|refine EE (cN _ I) (λ hf => ?_) (λ hf => ?_)|refine EE (TD I _ _ _) (λ hf => ?_) (λ hf => ?_)|refine AD (Ahi _ I) ?_|refine AD (vG _ I) ?_)<;>conv=>whnf))
 all_goals (unfold FT;first|exact T5 ⟨by assumption,by assumption⟩|exact S0 (by rintro ⟨h1,h2⟩;contradiction))
def aC (n v:Int):Int:=if 1<=n/\n<=62 then (if pw (n-1)<=v%pw n then v%pw n-pw n else v%pw n) else 0
theorem Agr (I:c7 L) (n v:Int):Ev L 7 [.int .i64 n,.int .i64 v] (.int .i64 (aC n v)):=by
 refine Ev.x I.MI rfl rfl ?_;(repeat' ((first|(apply AG<;>intro hc<;>try omega)|(apply BL;omega)|(refine FX ?_ (λ_ _ => ?_);omega)|(refine pK ?_ (λ_ _ => ?_);omega)|apply AE)<;>conv=>whnf))
 all_goals (refine B5 ?_;unfold aC;first|rw[if_neg (by omega)]|rw[if_pos (by omega),if_pos (by omega)]|rw[if_pos (by omega),if_neg (by omega)])
def ZV (v:Int):Int:=min (max v (KW w)) (EK w)
theorem Agp (I:c7 L) (v:Int):Ev L 8 [.agg (F3 w),.int .i64 v] (.int .i64 (ZV w v)):=by
 refine Ev.x I.MF rfl rfl ?_;(repeat' ((first|(apply AG<;>intro hc<;>try omega)|apply AE|refine AD (tX _ I) ?_|refine AD (cI _ I) ?_)<;>conv=>whnf))
 all_goals (refine B5 ?_;unfold ZV;omega)
def VC (v:Int):Int:=if WV w then (if w.o=2 then aC w.b v else ZV w v) else 0
theorem Ago (I:c7 L) (v:Int):Ev L 9 [.agg (F3 w),.int .i64 v] (.int .i64 (VC w v)):=by
 refine Ev.x I.ME rfl rfl ?_;(repeat' ((first|(apply AG<;>intro hc<;>try omega)|apply AE|refine EE (Q6 _ I) (λ hf => ?_) (λ hf => ?_)|refine AD (Agr I _ _) ?_|refine AD (Agp _ I _) ?_)<;>conv=>whnf))
 all_goals (refine B5 ?_;unfold VC;first|rw[if_neg (by assumption)]|rw[if_pos (by assumption),if_pos (by assumption)]|rw[if_pos (by assumption),if_neg (by assumption)])
def J4 (v n r:Int):Int :=
 if 0<=n/\n<=62/\1<=r/\r<=3 then
  (if n=0 then v
   else if (r=2/\pw (n-1)<=v%pw n)\/(r=3/\v<0/\v%pw n≠0) then v/pw n+1 else v/pw n)
 else 0
theorem Agq (I:c7 L) (v n r:Int) (hv:DT v):Ev L 6 [.int .i64 v,.int .i64 n,.int .i64 r] (.int .i64 (J4 v n r)):=by
 refine Ev.x I.MG rfl rfl ?_;unfold DT at hv;by_cases hn:1<=n/\n<=62
 ·have h2:=dW hn.1
  have h3:=E0 (n-1);have h4:=AfW (m:=pw n) (by omega) hv;have h5:=AhT (v:=v) h3;rw[<-h2]at h5;by_cases hr:1<=r/\r<=3
  ·rcases (by omega:r=1\/r=2\/r=3) with rfl|rfl|rfl
   all_goals (
    (repeat' ((first|(apply AG<;>intro hc<;>try omega)|(apply A2;omega)|(apply AQ;omega)|(apply BL;omega)|(apply pQ;omega)|(refine FX ?_ (λ_ _ => ?_);omega)|(refine pK ?_ (λ_ _ => ?_);omega)|apply Xf|apply AE|refine EE (cJ I _) (λ hf => ?_) (λ hf => ?_))<;>conv=>whnf))
    all_goals (first|contradiction|(exfalso;omega)|skip))
   all_goals (
    refine B5 ?_;unfold J4;rw[if_pos (by omega),if_neg (by omega)];first
     | (rw[if_pos (by omega)];done)
     | (rw[if_neg (by omega)];done)
     |(by_cases hc:pw (n-1)<=v%pw n
       ·rw[if_pos hc]at h5;rw[if_pos (by omega),h5]
       ·rw[if_neg hc]at h5;rw[if_neg (by omega),h5];omega))
  ·(repeat' ((first|(apply AG<;>intro hc<;>try omega)|apply AE|refine EE (cJ I _) (λ hf => ?_) (λ hf => ?_))<;>conv=>whnf))
   all_goals (first|contradiction|(exfalso;omega)|skip)
   all_goals (refine B5 ?_;unfold J4;rw[if_neg (by omega)])
 ·by_cases hz:n=0
  ·subst hz
   (repeat' ((first|(apply AG<;>intro hc<;>try omega)|apply AE|refine EE (cJ I _) (λ hf => ?_) (λ hf => ?_))<;>conv=>whnf))
   all_goals (first|contradiction|(exfalso;omega)|skip)
   all_goals (refine B5 ?_;unfold J4;first|rw[if_pos (by omega),if_pos rfl]|rw[if_neg (by omega)])
  ·(repeat' ((first|(apply AG<;>intro hc<;>try omega)|apply AE)<;>conv=>whnf))
   all_goals (first|contradiction|(exfalso;omega)|skip)
   all_goals (refine B5 ?_;unfold J4;rw[if_neg (by omega)])
end Go.c6

namespace Go.c6
open F
attribute [local irreducible] AA AF AX AC CN AR BA A6 BV BH CM EI BO AY B0 CJ AB A5 AH pw CQ CE C8 EA DP BT CP BU C7
set_option maxHeartbeats 1000000
variable {L:Lib}
theorem H9 {α:Type} {l:List α} {i:Nat} {e:α} (h:l[i]? = some e):l.drop i=e::l.drop (i+1):=by
 obtain ⟨h1,h2⟩:=zS h;rw[List.drop_eq_getElem_cons h1,h2]
theorem Q2 {α:Type} {l:List α} {i:Nat} (h:l.length<=i):l.drop i=[]:=List.drop_eq_nil_of_le h
structure Nd where
 q:Bool
 ts:List (Int × Int)
abbrev IC (t:Int × Int):List AV:=[.int .i64 t.1,.int .i64 t.2]
abbrev TC (n:Nd):List AV:=[.sl n.q (n.ts.map IC)]
structure Nt where
 d:Wd
 c:Wd
 s:Int
 qn:Bool
 nodes:List Nd
 qx:Bool
 next:List Int
 out:Int
abbrev CO (n:Nt):List AV:=[.int .i64 n.d.b,.int .i64 n.d.f,.int .i64 n.d.r,.int .i64 n.d.o,.int .i64 n.c.b,.int .i64 n.c.f,.int .i64 n.c.r,.int .i64 n.c.o,.int .i64 n.s,.sl n.qn (n.nodes.map TC),.sl n.qx (n.next.map BW),.int .i64 n.out]
def FQ (c:Wd) (s:Int) (k:Nat) (t:Int × Int):Bool:=decide (0<=t.1/\t.1<=s+k/\(t.2=pw c.f\/FT c t.2))
def GF (c:Wd) (s:Int):Nat->List Nd->Bool
 | _,[]=>true
 | k,n::l=>(decide (n.ts.length<=64)&&n.ts.all (FQ c s k))&&GF c s (k+1) l
def IU (m:Int) (l:List Int):Bool:=l.all λ k=>decide (0<=k/\k<=m)
def DZ (n:Nt):Bool:=decide (WV n.d)&&decide (WV n.c)&&decide (0<=n.s/\n.s<=64/\n.nodes.length<=64/\(n.next.length:Int)=n.s)&&GF n.c n.s 0 n.nodes&&IU (n.s+n.nodes.length) n.next&&decide (0<=n.out/\n.out<=n.s+n.nodes.length)
variable (n:Nt)
theorem C5:DZ n=true↔WV n.d/\WV n.c/\(0<=n.s/\n.s<=64/\n.nodes.length<=64/\(n.next.length:Int)=n.s)/\GF n.c n.s 0 n.nodes=true/\IU (n.s+n.nodes.length) n.next=true/\0<=n.out/\n.out<=n.s+n.nodes.length:=by
 simp only[DZ,Bool.and_eq_true,decide_eq_true_eq,and_assoc]
theorem Q3 {x:Bool} (h : ¬ x=true):false=x:=by simp at h;rw[h]
theorem tL {x:Bool} (h:x=true):true=x:=by rw[h]
theorem uK (I:c7 L) (J:u4 L):Ev L 21 [.agg (CO n)] (.bool (DZ n)):=by
 refine Ev.x J.NJ rfl rfl ?_;(repeat' ((first|(apply AG<;>intro hc<;>try omega)|apply AP|apply AE|refine EE (Q6 ⟨_,_,_,_⟩ I) (λ hf => ?_) (λ hf => ?_))<;>conv=>whnf))
 all_goals try (
  refine FV (Q3 ?_);rw[C5];rintro ⟨x1,x2,x3,_⟩
  first|contradiction|omega)
 rename_i h1 h3 h4 h5;have h2:=hf;have h6:=hc;have h1:WV n.d:=h1;have h2:WV n.c:=h2;have hw:=h2;unfold WV at hw;refine D4 (λ i=>n.nodes.length-i) (λ(i:Nat)=>i<=n.nodes.length/\GF n.c n.s i (n.nodes.drop i)=GF n.c n.s 0 n.nodes) (λ i=>[(45,.int .i64 i)]) (λ_=>[]) 0 ⟨by omega,rfl⟩ ?_;intro i ⟨p1,p2⟩ ih;(repeat' ((first|(apply AG<;>intro hc<;>try omega)|(apply AQ;omega)|apply AP|(refine IJ ?_ (λ_=>rfl) (λ e he => ?_);omega)|apply AE)<;>conv=>whnf))
 ·rename Nd=>nd
  have hnd:=he;rw[H9 hnd,GF,decide_eq_false (by omega)]at p2;refine FV (Q3 ?_);rw[C5,<-p2];simp
 ·rename Nd=>nd
  have hnd:=he;rw[H9 hnd,GF,decide_eq_true (by omega),Bool.true_and]at p2;refine D4 (λ j=>nd.ts.length-j) (λ(j:Nat)=>j<=nd.ts.length/\(nd.ts.drop j).all (FQ n.c n.s i)=nd.ts.all (FQ n.c n.s i)) (λ j=>[(57,.int .i64 j)]) (λ_=>[]) 0 ⟨by omega,rfl⟩ ?_;intro j ⟨r1,r2⟩ fv;(repeat' ((first|(apply AG<;>intro hc<;>try omega)|(apply AQ;omega)|(refine FX ?_ (λ_ _ => ?_);omega)|(refine IJ ?_ (λ_=>rfl) (λ e he => ?_);omega)|apply AE|refine EE (Q5 ⟨_,_,_,_⟩ I _) (λ hf => ?_) (λ hf => ?_))<;>conv=>whnf))
  all_goals try (
   have hb:FQ n.c n.s i e=false:=by
    simp only[FQ,decide_eq_false_iff_not];intro hh;first|omega|exact absurd hh.2.2 (λ hx=>hx.elim (λ hx=>by omega) (λ hx=>by contradiction))
   rw[H9 he,List.all_cons,hb,Bool.false_and]at r2;rw[<-r2,Bool.false_and]at p2;refine FV (Q3 ?_);rw[C5,<-p2];simp;done)
  all_goals try (
   have hb:FQ n.c n.s i e=true:=by
    simp only[FQ,decide_eq_true_eq];exact ⟨by omega,by omega,by first|exact Or.inr (by assumption)|exact Or.inl (by assumption)⟩
   rw[H9 he,List.all_cons,hb,Bool.true_and]at r2;exact BN [] (by (conv=>whnf);exact ⟨rfl,rfl,rfl⟩) (fv (j+1) (by omega) ⟨by omega,r2⟩))
  rw[Q2 (by omega)]at r2;rw[<-r2,List.all_nil,Bool.true_and]at p2;exact BB [] (ih (i+1) (by omega) ⟨by omega,p2⟩)
 ·rw[Q2 (by omega),GF]at p2
  refine D4 (λ i=>n.next.length-i) (λ(i:Nat)=>i<=n.next.length/\IU (n.s+n.nodes.length) (n.next.drop i)=IU (n.s+n.nodes.length) n.next) (λ i=>[(99,.int .i64 i)]) (λ_=>[]) 0 ⟨by omega,rfl⟩ ?_;intro k ⟨r1,r2⟩ Lv;(repeat' ((first|(apply AG<;>intro hc<;>try omega)|(apply AQ;omega)|(refine IJ ?_ (λ_=>rfl) (λ e he => ?_);omega)|apply AE)<;>conv=>whnf))
  all_goals try (
   have hb:decide (0<=e/\e<=n.s+n.nodes.length)=false:=by (rw[decide_eq_false_iff_not];omega)
   rw[H9 he,IU,List.all_cons,hb,Bool.false_and]at r2;refine FV (Q3 ?_);rw[C5,<-r2];simp;done)
  all_goals try (
   have hb:decide (0<=e/\e<=n.s+n.nodes.length)=true:=by (rw[decide_eq_true_eq];omega)
   rw[H9 he,IU,List.all_cons,hb,Bool.true_and]at r2;exact BN [] (by (conv=>whnf);exact ⟨rfl,rfl,rfl⟩) (Lv (k+1) (by omega) ⟨by omega,r2⟩))
  all_goals (
   rw[Q2 (by omega)]at r2;first
    | (refine FV (tL ?_);rw[C5];exact ⟨h1,h2,by omega,p2.symm,r2.symm,by omega,by omega⟩)
    | (refine FV (Q3 ?_);rw[C5];omega))
end Go.c6

namespace Go.c6
open F
attribute [local irreducible] AA AF AX AC CN AR BA A6 BV BH CM EI BO AY B0 CJ AB A5 AH pw CQ CE C8 EA DP BT CP BU C7
variable {L:Lib}
set_option maxHeartbeats 4000000
theorem Pa (n:Int):DT (IntKind.i64.wrap n):=by
 unfold DT;rw[IntKind.wrap_i64];omega
def DN (v m:Int):Int:=if m<1 then 0 else v%m
theorem WF (W:q6 L) (v m:Int) (hv:DT v) (hm:m<=9223372036854775807):Ev L 34 [.int .i64 v,.int .i64 m] (.int .i64 (DN v m)):=by
 unfold DT at hv;refine Ev.x W.QL rfl rfl ?_;(repeat' ((first|(apply AG<;>intro hc<;>try omega)|(apply AQ;omega)|(refine QP ?_ (λ_ _ _ => ?_) (λ_ _ _ _ => ?_);omega;all_goals try omega)|apply AE)<;>conv=>whnf))
 all_goals (refine B5 ?_;unfold DN;first|rw[if_pos (by omega)]|rw[if_neg (by omega)])
 all_goals omega
def FL (l:List Int) (i:Int):Int:=if 0<=i/\i<l.length then l.getD i.toNat 0 else 0
theorem vN (W:q6 L) (l:List Int) (q:Bool) (i:Int):Ev L 35 [.sl q (l.map BW),.int .i64 i] (.int .i64 (FL l i)):=by
 refine Ev.x W.QF rfl rfl ?_;(repeat' ((first|(apply AG<;>intro hc<;>try omega)|apply AP|(refine XW ?_ (λ_=>rfl) (λ e he => ?_);omega)|apply AE)<;>conv=>whnf))
 all_goals (refine B5 ?_;unfold FL;first|rw[if_neg (by omega)]|(rw[if_pos (by omega),List.getD_eq_getElem?_getD,he];rfl))
theorem SU {v m:Int} (h:1<=m):0<=DN v m/\DN v m<m:=by
 unfold DN;rw[if_neg (by omega)];exact ⟨Int.emod_nonneg _ (by omega),Int.emod_lt_of_pos _ (by omega)⟩
def SV (k least most above:Int):Wd :=
 let K:=DN k 1099511627776
 let b:=least+K%(most-least+1)
 let K1:=K/(most-least+1)
 ⟨b,max (b-1-above-K1%2) 0,1+K1/2%3,1+K1/2/3%2⟩
theorem vO (W:q6 L) (k least most above:Int) (hk:DT k) (h1:1<=least/\least<=most/\most<=1000/\0<=above/\above<=1000):Ev L 36 [.int .i64 k,.int .i64 least,.int .i64 most,.int .i64 above] (.agg (F3 (SV k least most above))):=by
 refine Ev.x W.QM rfl rfl ?_;have hr:=SU (v:=k) (m:=1099511627776) (by omega);have h3:0<=DN k 1099511627776/(most-least+1):=Int.ediv_nonneg hr.1 (by omega);have h4:DN k 1099511627776/(most-least+1)<=DN k 1099511627776:=Int.ediv_le_self _ hr.1;(repeat' ((first|(apply AG<;>intro hc<;>try omega)|(apply AQ;omega)|(apply BL;omega)|(refine QP ?_ (λ_ _ _ => ?_) (λ_ _ _ _ => ?_);omega;all_goals try omega)|(refine LI ?_ ?_ (λ_ => ?_) (λ_ _ => ?_);omega;omega;all_goals try omega)|apply AE|refine AD (WF W _ _ hk (by omega)) ?_)<;>conv=>whnf))
 all_goals (
  refine AW ?_ (by simp [AZ,BS]);simp only[SV,AV.agg.injEq,List.cons.injEq,AV.int.injEq,true_and,and_true];omega)
def HL (k:Int):Wd:=SV k 6 12 2
def CB (k:Int):Wd:=SV k 6 9 1
theorem Ow {k least most above:Int} (h:4<=least/\least<=most/\most<=24/\0<=above):WV (SV k least most above)/\least<=(SV k least most above).b/\(SV k least most above).b<=most:=by
 have hr:=SU (v:=k) (m:=1099511627776) (by omega);have h1:0<=DN k 1099511627776%(most-least+1):=Int.emod_nonneg _ (by omega);have h2:DN k 1099511627776%(most-least+1)<most-least+1:=Int.emod_lt_of_pos _ (by omega);simp only[WV,SV];generalize DN k 1099511627776/(most-least+1)=d;omega
theorem AeX (k:Int):WV (HL k)/\6<=(HL k).b/\(HL k).b<=12:=Ow (by omega)
theorem rK (k:Int):WV (CB k)/\6<=(CB k).b/\(CB k).b<=9:=Ow (by omega)
theorem Ahn (W:q6 L) (k:Int) (hk:DT k):Ev L 37 [.int .i64 k] (.agg (F3 (HL k))):=by
 refine Ev.x W.QI rfl rfl ?_;(repeat' ((first|apply AE|refine AD (vO W _ _ _ _ hk (by omega)) ?_)<;>conv=>whnf))
 exact AW rfl (by simp [AZ,BS])
theorem Ahm (W:q6 L) (k:Int) (hk:DT k):Ev L 38 [.int .i64 k] (.agg (F3 (CB k))):=by
 refine Ev.x W.QH rfl rfl ?_;(repeat' ((first|apply AE|refine AD (vO W _ _ _ _ hk (by omega)) ?_)<;>conv=>whnf))
 exact AW rfl (by simp [AZ,BS])
theorem Ahp (W:q6 L) (w:Wd) (h:WV w):Ev L 41 [.agg (F3 w)] (.int .i64 (pw w.f)):=by
 unfold WV at h;refine Ev.x W.QK rfl rfl ?_;(repeat' ((first|(refine FX ?_ (λ_ _ => ?_);omega)|(apply B3;omega)|apply AE)<;>conv=>whnf))
 exact B5 rfl
theorem MW {w:Wd} (h:WV w):KW w = -pw (w.b-1)/\EK w=pw (w.b-1)-1/\1<=pw (w.b-1)/\pw (w.b-1)<=8388608:=by
 have h':=h;unfold WV at h';refine ⟨by rw[KW,if_pos h],by rw[EK,if_pos h],E0 _,?_⟩;have:=K0 (n:=w.b-1) (m:=23) (by omega)
 have e:pw 23=8388608:=by unfold pw;rfl
 omega
theorem Oi {α:Type} (f:Nat->α) (n:Nat):(List.range (n+1)).map f=(List.range n).map f++[f n]:=by rw[List.range_succ,List.map_append];rfl
def LW (b v:Int):Int:=DN (IntKind.i64.wrap (v+b)) (2*b+1)-b
def HJ (b:Int) (l:List Int) (n:Nat):List Int:=(List.range n).map λ i:Nat=>LW b (FL l (i:Int))
theorem YS (W:q6 L) (b:Int) (hb:0<=b/\b<=1000000000000) (l:List Int) (q:Bool) (n:Nat) (hn:n<=1000000):Ev L 40 [.int .i64 b,.sl q (l.map BW),.int .i64 n] (.sl false ((HJ b l n).map BW)):=by
 refine Ev.x W.QG rfl rfl ?_;(repeat' (apply AE<;>conv=>whnf))
 refine FU (λ i _=>n-i) (λ(i:Nat) (o:List Int)=>i<=n/\o.length=i/\o=HJ b l i) (λ i o=>[(7,.row 7 0 1 0 o.length),(8,.int .i64 i)]) (λ i o=>[(7,7,.rw 1 (o.map BW))]) 0 [] ⟨by omega,rfl,rfl⟩ ?_;intro i o ⟨p1,p2,p3⟩ ih;have hr:=SU (v:=IntKind.i64.wrap (FL l i+b)) (m:=2*b+1) (by omega);(repeat' ((first|(apply AG<;>intro hc<;>try omega)|(apply AQ;omega)|(apply BL;omega)|(apply FW;omega)|apply gR|(refine CZ (λ_=>rfl) rfl ?_ ?_;(first|rfl|simp))|apply DQ|apply AE|refine AD (vN W l _ _) ?_|refine AD (WF W _ _ (Pa _) (by omega)) ?_)<;>conv=>whnf))
 ·refine FA (enc:=BW) _ rfl rfl rfl (by omega) (by omega) ?_
  (conv=>whnf)
  (repeat' ((first|(apply AQ;omega)|fail)<;>conv=>whnf))
  refine BN [(7,27)] (by (conv=>whnf);exact ⟨rfl,rfl,rfl⟩) (ih (i+1) _ (by omega) ⟨by omega,by simp [p2],?_⟩);rw[HJ,Oi,p3];rfl
 ·have:i=n:=by omega
  subst this;exact AW (by rw[p3]) (by simp [AZ,V7])
theorem Agj (N:v8 L) (S:FE) (n k:Nat) (h:S.Ok n k) (hn:n<=64):Ev L 136 [.agg (eS S)] (.bool true):=by
 have h1:=h.la;have h2:=h.lb;have h3:=h.lc;refine Ev.x N.PP rfl rfl ?_;(repeat' ((first|(apply AG<;>intro hc<;>try omega)|apply AP|apply AE)<;>conv=>whnf))
 refine D4 (λ i=>S.a.length-i) (λ(i:Nat)=>i<=S.a.length) (λ i=>[(4,.int .i64 i)]) (λ_=>[]) 0 (by omega) ?_;intro i p1 ih;by_cases hi:i<S.a.length
 ·obtain ⟨r,hr⟩ : ∃ r,S.a[i]? = some r:=⟨_,zE hi⟩
  have ot:S.a[(i:Int).toNat]? = some r:=hr;have cg:=h.lr r (zM hr);(repeat' ((first|(apply AG<;>intro hc<;>try omega)|(apply AQ;omega)|apply AP|(refine A9 (by assumption) ?_ rfl ?_;omega)|apply AE)<;>conv=>whnf))
  exact BB [] (ih (i+1) (by omega) (by omega))
 ·obtain rfl:i=S.a.length:=by omega
  clear ih;(repeat' ((first|(apply AG<;>intro hc<;>try omega)|apply AE)<;>conv=>whnf))
  exact FV rfl
theorem tS (N:v8 L) (a b:List Rat) (q1 q2:Bool) (k s:Nat) (hl:a.length=b.length) (ha:Bs k a) (hb:Bs s b) (hK:a.length*(k+s+1)+k+s<2199023255552) (bp:a.length<=1099511627776):Ev L 137 [.sl q1 (a.map eQ),.sl q2 (b.map eQ)] (.agg (eQ (A3 a b))):=by
 have hO:=KH N.toa9 0 (by omega);refine Ev.x N.PN rfl rfl ?_;(repeat' ((first|apply AE|refine AD (hO) ?_)<;>conv=>whnf))
 refine FU (λ i _=>a.length-i) (λ(i:Nat) (acc:Rat)=>i<=a.length/\acc=A3 (a.take i) (b.take i)) (λ i acc=>[(6,.int .i64 i)]) (λ i acc=>[(5,5,.bx (eQ acc))]) 0 ((0:Int):Rat) ⟨by omega,by simp [A3]⟩ ?_;intro i acc ⟨p1,p2⟩ ih;by_cases hi:i<a.length
 ·obtain ⟨x,hx⟩ : ∃ x,a[i]? = some x:=⟨_,zE hi⟩
  obtain ⟨y,hy⟩ : ∃ y,b[i]? = some y:=⟨_,zE (by omega)⟩;have lf:a[(i:Int).toNat]? = some x:=hx;have xd:b[(i:Int).toNat]? = some y:=hy;have bx:=ha.at hx;have Rr:=hb.at hy
  have hM:=UQ N.toa9 bx Rr (by omega) (by omega)
  have Jb:Bt (a.length*(k+s+1)) acc:=by
   rw[p2];have:=(ha.take i).dot (hb.take i)
   refine this.le (zR _ ?_);rw[List.length_take];omega
  have hA:=R7 N.toa9 Jb (bx.mul Rr) (by omega) (by omega);have k7:=YH hx hy;(repeat' ((first|(apply AG<;>intro hc<;>try omega)|(apply AQ;omega)|apply AP|(refine A9 (by assumption) ?_ rfl ?_;omega)|apply AE|refine AD (hM) ?_|refine AD (hA) ?_)<;>conv=>whnf))
  refine BN [] (by (conv=>whnf);exact ⟨rfl,rfl,rfl⟩) (ih (i+1) (acc+x*y) (by omega) ⟨by omega,?_⟩);rw[k7,<-p2]
 ·obtain rfl:i=a.length:=by omega
  clear ih;rw[cC rfl]at p2;rw[<-p2];(repeat' ((first|(apply AG<;>intro hc<;>try omega)|apply AP|apply AE)<;>conv=>whnf))
  exact AW rfl (C3 _)
end Go.c6

namespace Go.c6
variable {L:Lib}
end Go.c6

namespace Go.c6
open F
variable {L:Lib}
theorem Bt.sm {k:Nat} {x:Rat} (h:Bt k x) (hk:k<2199023255552):Sm 68719476736 (dg x.num.natAbs)/\Sm 68719476736 (dg x.den):=h.Rs (by omega)
theorem JQ (N:a7 L) {x y:Rat} {k l:Nat} (hx:Bt k x) (hy:Bt l y) (hk:k<2199023255552) (hl:l<2199023255552):Ev L 98 [.agg (eQ x),.agg (eQ y)] (.agg (eQ (x+y))):=by
 have:=vD N 68719476736 (by omega) (decide (x.num<0)) (decide (y.num<0)) false false false false _ _ _ _ (hx.sm hk).1 (hx.sm hk).2 (hy.sm hl).1 (hy.sm hl).2
 rw[F8,F8]at this;exact this
theorem I6 (N:a7 L) {x y:Rat} {k l:Nat} (hx:Bt k x) (hy:Bt l y) (hk:k<2199023255552) (hl:l<2199023255552):Ev L 99 [.agg (eQ x),.agg (eQ y)] (.agg (eQ (x*y))):=by
 have:=vE N 68719476736 (by omega) (decide (x.num<0)) (decide (y.num<0)) false false false false _ _ _ _ (hx.sm hk).1 (hx.sm hk).2 (hy.sm hl).1 (hy.sm hl).2
 rw[F8,F8]at this;exact this
theorem cH (N:a7 L) {x y:Rat} {k l:Nat} (hx:Bt k x) (hy:Bt l y) (hk:k<2199023255552) (hl:l<2199023255552) (h0:y≠0):Ev L 100 [.agg (eQ x),.agg (eQ y)] (.g8 [.agg (eQ (x/y)),.int .i64 0]):=by
 have:=Ahg N 68719476736 (by omega) (decide (x.num<0)) (decide (y.num<0)) false false false false _ _ _ _ (hx.sm hk).1 (hx.sm hk).2 (hy.sm hl).1 (hy.sm hl).2 (by rw[F8];exact h0)
 rw[F8,F8]at this;exact this
theorem vL (N:a7 L) {x:Rat} {k:Nat} (hx:Bt k x) (hk:k<2199023255552):Ev L 95 [.agg (eQ x)] (.agg (eQ x)):=by
 have:=kC N (decide (x.num<0)) false false _ _ ((hx.sm hk).1.le (by omega)) ((hx.sm hk).2.le (by omega))
 rw[F8]at this;exact this
theorem WE (N:a7 L) {x:Rat} {k:Nat} (hx:Bt k x) (hk:k<2199023255552):Ev L 97 [.agg (eQ x)] (.int .i64 (o9 x.num)):=by
 have:=vF N (decide (x.num<0)) false false _ _ ((hx.sm hk).1.le (by omega)) ((hx.sm hk).2.le (by omega))
 rw[F8]at this;exact this
theorem TR {x:Rat}:o9 x.num=0↔x=0:=by
 rw[<-Rat.num_eq_zero];unfold o9;split
 ·omega
 ·split<;>omega
end Go.c6

namespace Go.c6
open F
attribute [local irreducible] AA AF AX AC CN AR BA A6 BV BH CM EI BO AY B0 CJ AB A5 AH pw CQ CE C8 EA DP BT CP BU C7
variable {L:Lib}
set_option maxHeartbeats 8000000
theorem Og (n:Bool) (m d:List Nat):qv (!n) m d = -(qv n m d):=by
 unfold qv;have h:zv (!n) m = -(zv n m):=by cases n<;>simp [zv]
 rw[h,Rat.neg_mkRat]
theorem Aei (n:Bool) (m d:List Nat):AZ (.agg (rQ false false n m d)):=by
 simp only[AZ,BS,and_true,true_and];exact ⟨C2 _,C2 _⟩
theorem tY (N:w9 L) (n:Bool) (m d:List Nat):Ev L 149 [.agg (rQ false false n m d)] (.agg (rQ false false (!n) m d)):=by
 refine Ev.x N.OO rfl rfl ?_;cases n;all_goals
  (repeat' (apply AE<;>conv=>whnf))
  exact AW rfl (Aei _ _ _)
theorem Ahl (N:w9 L) {x y:Rat} {k l:Nat} (hx:Bt k x) (hy:Bt l y) (hk:k<2199023255552) (hl:l<2199023255552):Ev L 150 [.agg (eQ x),.agg (eQ y)] (.agg (eQ (x-y))):=by
 have hF:=tY N (decide (y.num<0)) (dg y.num.natAbs) (dg y.den);have hA:=λ q3 q4=>vD N.toa7 68719476736 (by omega) (decide (x.num<0)) (!decide (y.num<0)) false false q3 q4 _ _ _ _ (hx.sm hk).1 (hx.sm hk).2 (hy.sm hl).1 (hy.sm hl).2
 rw[Og,F8,F8,<-Rat.sub_eq_add_neg]at hA;refine Ev.x N.OM rfl rfl ?_;(repeat' ((first|apply pC|apply AE|refine AD (hF) ?_|refine AD (hA _ _) ?_)<;>conv=>whnf))
 exact AW rfl (C3 _)
theorem Ai4 {x y:Int} (h:y≠0):mkRat (y.sign*x) y.natAbs=Rat.divInt x y:=by
 obtain ⟨d,hd|hd⟩:=Int.eq_nat_or_neg y
 ·subst hd
  rw[Int.sign_eq_one_of_pos (by omega),Int.one_mul,Int.natAbs_natCast,Rat.divInt_ofNat]
 ·subst hd
  rw[Int.sign_eq_neg_one_of_neg (by omega),Int.natAbs_neg,Int.natAbs_natCast,Rat.divInt_neg',Rat.divInt_ofNat,Int.neg_one_mul]
theorem tR (N:w9 L) (x y:Int) (hx : -9223372036854775808<=x/\x<=9223372036854775807) (hy : -9223372036854775808<=y/\y<=9223372036854775807) (h0:y≠0):Ev L 151 [.int .i64 x,.int .i64 y] (.agg (eQ (Rat.divInt x y))):=by
 have h1:=jR N.toa7 x hx;have h2:=jR N.toa7 y hy;have g1:Sm 2 (dg x.natAbs):=Sm.dg (by omega);have g2:Sm 2 (dg y.natAbs):=Sm.dg (by omega);have hl:=λ q1 q2=>WC N.toa7 (decide (x<0) != decide (y<0)) q1 q2 (dg x.natAbs) (dg y.natAbs) (g1.le (by omega)) (g2.le (by omega)) (by rw[BQ];omega)
 unfold qv at hl;rw[Rl h0,BQ,Ai4 h0]at hl;refine Ev.x N.OI rfl rfl ?_;(repeat' ((first|(apply AG<;>intro hc<;>try omega)|apply AE|refine AD (h1) ?_|refine AD (h2) ?_)<;>conv=>whnf))
 refine GK 1000 N.K4 rfl rfl ?_;(repeat' (apply AE<;>conv=>whnf))
 generalize decide (x<0)=p at *;generalize decide (y<0)=r at *;cases p<;>cases r;all_goals
  (conv=>whnf)
  refine ⟨rfl,?_⟩;(conv=>whnf)
  (repeat' (refine AD (hl _ _) ?_<;>conv=>whnf))
  exact AW rfl (C3 _)
theorem Y1 {l:List Rat} {i:Nat} {x:Rat} (h:l[i]? = some x):l.getD i 0=x:=by rw[List.getD_eq_getElem?_getD,h];rfl
theorem Ahx {l:List Rat} {i:Nat} (h:l.length<=i):l.getD i 0=0:=by rw[List.getD_eq_getElem?_getD,List.getElem?_eq_none h];rfl
theorem Y3 {l:List Rat} {k:Nat} (h:Bs k l) (i:Nat):Bt k (l.getD i 0):=by
 rw[List.getD_eq_getElem?_getD];cases e:l[i]? with
 | none=>exact Bt.zero k
 | some x=>exact h.at e
theorem nF (z:Int):o9 z = -1/\z<0\/o9 z=0/\z=0\/o9 z=1/\0<z:=by
 unfold o9;split
 ·exact Or.inl ⟨rfl,by omega⟩
 ·split
  ·exact Or.inr (Or.inr ⟨rfl,by omega⟩)
  ·exact Or.inr (Or.inl ⟨rfl,by omega⟩)
theorem Aen {a b:Nat} {z:Int} (h:z=(a:Int)-b):DF a b=o9 z:=by
 unfold DF o9;subst h;repeat' split
 all_goals omega
theorem uB (N:o8 L) (n1 n2 q1 q2:Bool) (a b:List Nat) (ha:Sm 549755813888 a) (hb:Sm 549755813888 b):Ev L 197 [.agg (rZ q1 n1 a),.agg (rZ q2 n2 b)] (.int .i64 (o9 (zv n1 a-zv n2 b))):=by
 have h1:=λ q=>cK N.toa7 n1 q a ha
 have h2:=λ q=>cK N.toa7 n2 q b hb
 have h3:=λ q q'=>R9 N.toc8 a b q q' ha.1 hb.1 (by have:=ha.2;omega) (by have:=hb.2;omega)
 have h4:=λ q q'=>R9 N.toc8 b a q q' hb.1 ha.1 (by have:=hb.2;omega) (by have:=ha.2;omega)
 have za:=FS n1 a;have zb:=FS n2 b;generalize zv n1 a=x at *;generalize zv n2 b=y at *;rcases nF x with ⟨e1,g1⟩|⟨e1,g1⟩|⟨e1,g1⟩<;>rcases nF y with ⟨e2,g2⟩|⟨e2,g2⟩|⟨e2,g2⟩
 all_goals
  rw[e1]at h1;rw[e2]at h2;refine Ev.x N.MM rfl rfl ?_;(repeat' ((first|(apply AG<;>intro hc<;>try omega)|apply AE|refine AD (h1 _) ?_|refine AD (h2 _) ?_|refine AD (h3 _ _) ?_|refine AD (h4 _ _) ?_)<;>conv=>whnf))
  first
   | exact B5 (nG (by omega))
   | exact B5 (nH (by omega))
   | exact B5 (Aen (by omega))
theorem Ahf (N:o8 L) (k:Nat) (hk:1<=k/\k<=68719476736) (n1 n2:Bool) (m1 d1 m2 d2:List Nat) (eu:Sm k m1) (ki:Sm k d1) (bh:Sm k m2) (nt:Sm k d2) :
  Ev L 198 [.agg (rQ false false n1 m1 d1),.agg (rQ false false n2 m2 d2)] (.int .i64 (o9 (qv n1 m1 d1-qv n2 m2 d2).num)):=by
 obtain ⟨a1,a2,a3,w1,bz,s1,s2,s3,s4,s5⟩:=Q7 N.toa7 n1 m1 d1 k (by omega) eu ki;obtain ⟨b1,b2,b3,w2,af,t1,t2,t3,t4,t5⟩:=Q7 N.toa7 n2 m2 d2 k (by omega) bh nt;rw[s5,t5,<-zC s3 t3];by_cases hw:w1=true/\w2=true
 ·obtain ⟨rfl,rfl⟩:=hw
  have hC:=λ q q'=>uB N a1 b1 q q' a2 b2 (s1.le (by omega)) (t1.le (by omega))
  rw[s4 rfl,t4 rfl];rw[show zv a1 a2*((1:Nat):Int)-zv b1 b2*((1:Nat):Int)=zv a1 a2-zv b1 b2 by omega];refine Ev.x N.K2 rfl rfl ?_;(repeat' ((first|apply H7|apply AE|refine AD (bz) ?_|refine AD (af) ?_|refine AD (hC _ _) ?_)<;>conv=>whnf))
  exact B5 rfl
 ·have fp:=λ q q'=>UP N.toa7 a1 false q q' a2 b3 s1.1 t2.1 (by have:=s1.2;have:=t2.2;omega)
  have il:=λ q q'=>UP N.toa7 b1 false q q' b2 a3 t1.1 s2.1 (by have:=t1.2;have:=s2.2;omega)
  have uo:=WD N.toa7 a3;have rj:=WD N.toa7 b3;have g1:Sm (k+k) (dg (zv a1 a2*zv false b3).natAbs):=VI s1 t2;have g2:Sm (k+k) (dg (zv b1 b2*zv false a3).natAbs):=VI t1 s2;have hC:=λ q q'=>uB N (decide (zv a1 a2*zv false b3<0)) (decide (zv b1 b2*zv false a3<0)) q q' _ _ (g1.le (by omega)) (g2.le (by omega))
  rw[GI,GI]at hC;rw[<-FK b3,<-FK a3];generalize zv a1 a2*zv false b3=x at *;generalize zv b1 b2*zv false a3=y at *;refine Ev.x N.K2 rfl rfl ?_;cases w1<;>cases w2
  ·(repeat' ((first|apply H7|apply T6|apply AE|refine AD (bz) ?_|refine AD (af) ?_|refine AD (uo) ?_|refine AD (rj) ?_|refine AD (fp _ _) ?_|refine AD (il _ _) ?_|refine AD (hC _ _) ?_)<;>conv=>whnf))
   exact B5 rfl
  ·(repeat' ((first|apply H7|apply T6|apply AE|refine AD (bz) ?_|refine AD (af) ?_|refine AD (uo) ?_|refine AD (rj) ?_|refine AD (fp _ _) ?_|refine AD (il _ _) ?_|refine AD (hC _ _) ?_)<;>conv=>whnf))
   exact B5 rfl
  ·(repeat' ((first|apply H7|apply T6|apply AE|refine AD (bz) ?_|refine AD (af) ?_|refine AD (uo) ?_|refine AD (rj) ?_|refine AD (fp _ _) ?_|refine AD (il _ _) ?_|refine AD (hC _ _) ?_)<;>conv=>whnf))
   exact B5 rfl
  ·exact absurd ⟨rfl,rfl⟩ hw
theorem YN (N:o8 L) {x y:Rat} {k l:Nat} (hx:Bt k x) (hy:Bt l y) (hk:k<2199023255552) (hl:l<2199023255552):Ev L 198 [.agg (eQ x),.agg (eQ y)] (.int .i64 (o9 (x-y).num)):=by
 have:=Ahf N 68719476736 (by omega) (decide (x.num<0)) (decide (y.num<0)) _ _ _ _ (hx.sm hk).1 (hx.sm hk).2 (hy.sm hl).1 (hy.sm hl).2
 rw[F8,F8]at this;exact this
theorem AgJ (N:o8 L) {x:Rat} {k:Nat} (hx:Bt k x) (hk:k<2199023255552):Ev L 199 [.agg (eQ x)] (.agg (eQ (-x))):=by
 have hF:=tY N.tow9 (decide (x.num<0)) (dg x.num.natAbs) (dg x.den);have hT:=λ q1 q2=>kC N.toa7 (!decide (x.num<0)) q1 q2 _ _ ((hx.sm hk).1.le (by omega)) ((hx.sm hk).2.le (by omega))
 rw[Og,F8]at hT;refine Ev.x N.OJ rfl rfl ?_;(repeat' ((first|apply pC|apply AE|refine AD (hF) ?_|refine AD (hT _ _) ?_)<;>conv=>whnf))
 exact AW rfl (C3 _)
theorem uU (N:o8 L) (q:Bool) (l:List Rat) (k:Nat) (hl:Bs k l) (hk:k<2199023255552) (hn:l.length<=1000000):Ev L 200 [.sl q (l.map eQ)] (.int .i64 ((I5 l l.length:Int)-1)):=by
 refine Ev.x N.OD rfl rfl ?_;(repeat' (apply AE<;>conv=>whnf))
 refine HR 1000 N.OE rfl rfl ?_;(repeat' ((first|apply AP|apply AE)<;>conv=>whnf))
 refine D4 (λ n=>n) (λ(n:Nat)=>n<=l.length/\I5 l l.length=I5 l n) (λ n=>[(3,.int .i64 n)]) (λ_=>[]) l.length ⟨Nat.le_refl _,rfl⟩ ?_;intro n ⟨p1,p2⟩ ih;have done : ∀ {n:Nat},I5 l l.length=n->RP l=l.take n:=λ h=>by rw[RP,h]
 by_cases hz:n=0\/(∃ m x,n=m+1/\l[m]? = some x/\x≠0)
 ·have Cw:I5 l l.length=n:=by
   rw[p2];rcases hz with rfl|⟨m,x,rfl,h1,h2⟩
   ·rfl
   ·rw[I5,if_neg]
    rw[List.getD_eq_getElem?_getD,h1];exact h2
  have htq:=done Cw;have fk:(l.take n).length=n:=by rw[List.length_take];omega
  clear ih Cw p2 done;rcases hz with h0|⟨m,x,hnm,h1,h2⟩
  case' inl=>(repeat' ((first|(apply AG<;>intro hc<;>try omega)|apply AE)<;>conv=>whnf))
  case' inr =>
   have nj:l[((n:Int)-1).toNat]? = some x:=by rw[show ((n:Int)-1).toNat=m by omega];exact h1
   have jz:=WE N.toa7 (hl.at h1) (by omega);have hs:=TR (x:=x);generalize o9 x.num=s at *;have hS : ∀ v,l[((n:Int)-1).toNat]? = some v->Ev L 97 [.agg (eQ v)] (.int .i64 s):=λ v h=>by
    obtain rfl:=Option.some.inj (nj.symm.trans h);exact jz
   have fb:s≠0:=λ h=>h2 (hs.1 h)
   (repeat' ((first|(apply AG<;>intro hc<;>try omega)|(apply BL;omega)|(refine A9 (by assumption) ?_ rfl ?_;omega)|apply AE|refine AD (jz) ?_)<;>conv=>whnf))
  all_goals
   refine LY (enc:=eQ) (λ_=>rfl) p1 ?_;(conv=>whnf)
   skip
   refine ⟨rfl,_,rfl,?_⟩;(conv=>whnf)
   (repeat' ((first|(apply BL;omega)|apply AP)<;>conv=>whnf))
   have Cx:I5 l l.length=n:=by rw[<-Ps,htq,fk]
   rw[Cx];exact B5 (by rw[fk])
 ·obtain ⟨m,rfl⟩ : ∃ m,n=m+1:=⟨n-1,by omega⟩
  obtain ⟨x,hx⟩ : ∃ x,l[m]? = some x:=⟨_,zE (by omega)⟩;have na:x=0:=by
   rcases Classical.em (x=0) with h|h
   ·exact h
   ·exact (hz (Or.inr ⟨m,x,rfl,hx,h⟩)).elim
  have lf:l[((m+1:Nat)-1:Int).toNat]? = some x:=by rw[show ((m+1:Nat)-1:Int).toNat=m by omega];exact hx
  have jz:=WE N.toa7 (hl.at hx) (by omega);have hs:=TR (x:=x);generalize o9 x.num=s at *;have hS : ∀ v,l[((m+1:Nat)-1:Int).toNat]? = some v->Ev L 97 [.agg (eQ v)] (.int .i64 s):=λ v h=>by
   obtain rfl:=Option.some.inj (lf.symm.trans h);exact jz
  have fb:=hs.2 na;(repeat' ((first|(apply AG<;>intro hc<;>try omega)|(apply BL;omega)|(refine A9 (by assumption) ?_ rfl ?_;omega)|apply AE|refine AD (jz) ?_)<;>conv=>whnf))
  rw[show ((m+1:Nat):Int)-1=(m:Int) by omega];exact BB [] (ih m (by omega) ⟨by omega,by rw[p2,I5,if_pos (by rw[List.getD_eq_getElem?_getD,hx];exact na)]⟩)
theorem Agi (N:v8 L) (S:FE) (n k:Nat) (h:S.Ok n k) (hn:n<=64):Ev L 130 [.agg (eS S)] (.bool true):=by
 have h1:=h.la;have h2:=h.lb;have h3:=h.lc;refine Ev.x N.NH rfl rfl ?_;(repeat' ((first|(apply AG<;>intro hc<;>try omega)|apply AP|apply AE)<;>conv=>whnf))
 refine D4 (λ i=>S.a.length-i) (λ(i:Nat)=>i<=S.a.length) (λ i=>[(28,.int .i64 i)]) (λ_=>[]) 0 (by omega) ?_;intro i p1 ih;by_cases hi:i<S.a.length
 ·obtain ⟨r,hr⟩ : ∃ r,S.a[i]? = some r:=⟨_,zE hi⟩
  have ot:S.a[(i:Int).toNat]? = some r:=hr;have cg:=h.lr r (zM hr);(repeat' ((first|(apply AG<;>intro hc<;>try omega)|(apply AQ;omega)|apply AP|(refine A9 (by assumption) ?_ rfl ?_;omega)|apply AE)<;>conv=>whnf))
  exact BB [] (ih (i+1) (by omega) (by omega))
 ·obtain rfl:i=S.a.length:=by omega
  clear ih;(repeat' ((first|(apply AG<;>intro hc<;>try omega)|apply AE)<;>conv=>whnf))
  exact FV rfl
end Go.c6

namespace Go.c6
open F
attribute [local irreducible] AA AF AX AC CN AR BA A6 BV BH CM EI BO AY B0 CJ AB A5 AH pw CQ CE C8 EA DP BT CP BU C7
variable {L:Lib} (n:Nt)
set_option maxHeartbeats 1000000
theorem cP (I:c7 L) (J:u4 L):Ev L 27 [.agg (CO n)] (.bool (DZ n)):=by
 refine Ev.x J.PR rfl rfl ?_;(repeat' ((first|(apply AG<;>intro hc<;>try omega)|apply AP|apply AE|refine EE (cN ⟨_,_,_,_⟩ I) (λ hf => ?_) (λ hf => ?_)|refine EE (TD I _ _ _) (λ hf => ?_) (λ hf => ?_))<;>conv=>whnf))
 all_goals try (
  refine FV (Q3 ?_);rw[C5];rintro ⟨x1,x2,x3,_⟩
  first|contradiction|omega)
 rename_i h1 h2 h5;have h3:=hf;have h6:=hc;have h1:WV n.d:=h1;have h2:WV n.c:=h2;have hw:=h2;unfold WV at hw;refine D4 (λ i=>n.nodes.length-i) (λ(i:Nat)=>i<=n.nodes.length/\GF n.c n.s i (n.nodes.drop i)=GF n.c n.s 0 n.nodes) (λ i=>[(3,.int .i64 i)]) (λ_=>[]) 0 ⟨by omega,rfl⟩ ?_;intro i ⟨p1,p2⟩ ih;(repeat' ((first|(apply AG<;>intro hc<;>try omega)|(apply AQ;omega)|apply AP|(refine IJ ?_ (λ_=>rfl) (λ e he => ?_);omega)|apply AE)<;>conv=>whnf))
 ·rename Nd=>nd
  have hnd:=he;rw[H9 hnd,GF,decide_eq_false (by omega)]at p2;refine FV (Q3 ?_);rw[C5,<-p2];simp
 ·rename Nd=>nd
  have hnd:=he;rw[H9 hnd,GF,decide_eq_true (by omega),Bool.true_and]at p2;refine D4 (λ j=>nd.ts.length-j) (λ(j:Nat)=>j<=nd.ts.length/\(nd.ts.drop j).all (FQ n.c n.s i)=nd.ts.all (FQ n.c n.s i)) (λ j=>[(4,.int .i64 j)]) (λ_=>[]) 0 ⟨by omega,rfl⟩ ?_;intro j ⟨r1,r2⟩ fv;(repeat' ((first|(apply AG<;>intro hc<;>try omega)|(apply AQ;omega)|(refine FX ?_ (λ_ _ => ?_);omega)|(apply B3;omega)|apply AP|(refine A9 (by assumption) ?_ rfl ?_;omega)|(refine IJ ?_ (λ_=>rfl) (λ e he => ?_);omega)|apply AE|refine EE (Ahh ⟨_,_,_,_⟩ I _) (λ hf => ?_) (λ hf => ?_)|refine EE (TD I _ _ _) (λ hf => ?_) (λ hf => ?_))<;>conv=>whnf))
  all_goals try (
   have hb:FQ n.c n.s i e=false:=by
    simp only[FQ,decide_eq_false_iff_not];intro hh;first|omega|exact absurd hh.2.2 (λ hx=>hx.elim (λ hx=>by omega) (λ hx=>by contradiction))
   rw[H9 he,List.all_cons,hb,Bool.false_and]at r2;rw[<-r2,Bool.false_and]at p2;refine FV (Q3 ?_);rw[C5,<-p2];simp;done)
  all_goals try (
   have hb:FQ n.c n.s i e=true:=by
    simp only[FQ,decide_eq_true_eq];exact ⟨by omega,by omega,by first|exact Or.inr (by assumption)|exact Or.inl (by assumption)⟩
   rw[H9 he,List.all_cons,hb,Bool.true_and]at r2;exact BN [] (by (conv=>whnf);exact ⟨rfl,rfl,rfl⟩) (fv (j+1) (by omega) ⟨by omega,r2⟩))
  rw[Q2 (by omega)]at r2;rw[<-r2,List.all_nil,Bool.true_and]at p2;exact BB [] (ih (i+1) (by omega) ⟨by omega,p2⟩)
 ·rw[Q2 (by omega),GF]at p2
  refine D4 (λ i=>n.next.length-i) (λ(i:Nat)=>i<=n.next.length/\IU (n.s+n.nodes.length) (n.next.drop i)=IU (n.s+n.nodes.length) n.next) (λ i=>[(7,.int .i64 i)]) (λ_=>[]) 0 ⟨by omega,rfl⟩ ?_;intro k ⟨r1,r2⟩ Lv;(repeat' ((first|(apply AG<;>intro hc<;>try omega)|(apply AQ;omega)|(refine IJ ?_ (λ_=>rfl) (λ e he => ?_);omega)|apply AE|refine EE (TD I _ _ _) (λ hf => ?_) (λ hf => ?_))<;>conv=>whnf))
  all_goals try (
   have hb:decide (0<=e/\e<=n.s+n.nodes.length)=false:=by (rw[decide_eq_false_iff_not];omega)
   rw[H9 he,IU,List.all_cons,hb,Bool.false_and]at r2;refine FV (Q3 ?_);rw[C5,<-r2];simp;done)
  all_goals try (
   have hb:decide (0<=e/\e<=n.s+n.nodes.length)=true:=by (rw[decide_eq_true_eq];omega)
   rw[H9 he,IU,List.all_cons,hb,Bool.true_and]at r2;exact BN [] (by (conv=>whnf);exact ⟨rfl,rfl,rfl⟩) (Lv (k+1) (by omega) ⟨by omega,r2⟩))
  all_goals (
   rw[Q2 (by omega)]at r2;first
    | (refine FV (tL ?_);rw[C5];exact ⟨h1,h2,by omega,p2.symm,r2.symm,by omega,by omega⟩)
    | (refine FV (Q3 ?_);rw[C5];omega))
def ED (w:Wd) (l:List Int):Bool:=l.all λ v=>decide (FT w v)
def J6 (st ins:List Int):Int:=if (st.length:Int)≠n.s then 1 else if ED n.d st&&ED n.d ins then 0 else 17
theorem AgN (I:c7 L) (J:u4 L) (st ins:List Int) (q1 q2:Bool) (hn:st.length<9223372036854775808) (hm:ins.length<9223372036854775808):Ev L 22 [.agg (CO n),.sl q1 (st.map BW),.sl q2 (ins.map BW)] (.int .i64 (J6 n st ins)):=by
 refine Ev.x J.NN rfl rfl ?_;(repeat' ((first|(apply AG<;>intro hc<;>try omega)|apply AP|apply AE)<;>conv=>whnf))
 ·exact B5 (by rw[J6,if_pos hc])
 have h0:=hc;refine D4 (λ i=>st.length-i) (λ(i:Nat)=>i<=st.length/\ED n.d (st.drop i)=ED n.d st) (λ i=>[(18,.int .i64 i)]) (λ_=>[]) 0 ⟨by omega,rfl⟩ ?_;intro i ⟨p1,p2⟩ ih;(repeat' ((first|(apply AG<;>intro hc<;>try omega)|(apply AQ;omega)|apply AP|(refine IJ ?_ (λ_=>rfl) (λ e he => ?_);omega)|apply AE|refine EE (Q5 ⟨_,_,_,_⟩ I _) (λ hf => ?_) (λ hf => ?_))<;>conv=>whnf))
 ·rw[H9 he,ED,List.all_cons,decide_eq_true hf,Bool.true_and]at p2
  exact BB [] (ih (i+1) (by omega) ⟨by omega,p2⟩)
 ·rw[H9 he,ED,List.all_cons,decide_eq_false hf,Bool.false_and]at p2
  exact B5 (by rw[J6,if_neg (by omega),<-p2];simp)
 ·rw[Q2 (by omega)]at p2
  refine D4 (λ i=>ins.length-i) (λ(i:Nat)=>i<=ins.length/\ED n.d (ins.drop i)=ED n.d ins) (λ i=>[(30,.int .i64 i)]) (λ_=>[]) 0 ⟨by omega,rfl⟩ ?_;intro j ⟨r1,r2⟩ fv;(repeat' ((first|(apply AG<;>intro hc<;>try omega)|(apply AQ;omega)|(refine IJ ?_ (λ_=>rfl) (λ e he => ?_);omega)|apply AE|refine EE (Q5 ⟨_,_,_,_⟩ I _) (λ hf => ?_) (λ hf => ?_))<;>conv=>whnf))
  ·rw[H9 he,ED,List.all_cons,decide_eq_true hf,Bool.true_and]at r2
   exact BN [] (by (conv=>whnf);exact ⟨rfl,rfl,rfl⟩) (fv (j+1) (by omega) ⟨by omega,r2⟩)
  ·rw[H9 he,ED,List.all_cons,decide_eq_false hf,Bool.false_and]at r2
   exact B5 (by rw[J6,if_neg (by omega),<-r2];simp)
  ·rw[Q2 (by omega)]at r2
   exact B5 (by rw[J6,if_neg (by omega),<-r2,<-p2];rfl)
def QD (vals:List Int):Int->List (Int × Int)->Int
 | acc,[]=>acc
 | acc,t::ts=>QD vals (IntKind.i64.wrap (acc+IntKind.i64.wrap (t.2*vals.getD t.1.toNat 0))) ts
theorem Rb (vals:List Int) : ∀ (ts:List (Int × Int)) (acc:Int),DT acc->DT (QD vals acc ts)
 | [],acc,h=>h
 | t::ts,acc,_=>Rb vals ts _ (Pa _)
def RD (vals:List Int) (nd:Nd):Int:=J4 (QD vals 0 nd.ts) n.c.f n.d.r
def FB:List Int->Bool->List Nd->List Int × Bool
 | vals,ov,[]=>(vals,ov)
 | vals,ov,nd::l=>FB (vals++[VC n.d (RD n vals nd)]) (ov || !decide (FT n.d (RD n vals nd))) l
theorem Ajo {vals:List Int} {i:Nat} {nd:Nd} (h:nd.ts.all (FQ n.c n.s i)=true) (hl:(vals.length:Int)=1+n.s+i) : ∀ t∈nd.ts,0<=t.1/\t.1<vals.length:=λ t ht=>by
 have:=List.all_eq_true.1 h t ht
 simp only[FQ,decide_eq_true_eq]at this;omega
theorem AgL (I:c7 L) (J:u4 L) (st:List Int) (q1:Bool) (input:Int) (hv:DZ n=true) (k7:(st.length:Int)=n.s):Ev L 23 [.agg (CO n),.sl q1 (st.map BW),.int .i64 input] (.g8 [.sl false ((FB n (input::st) false n.nodes).1.map BW),.bool (FB n (input::st) false n.nodes).2]):=by
 rw[C5]at hv;obtain ⟨h1,h2,h3,h4,h5,h6⟩:=hv;refine Ev.x J.NL rfl rfl ?_;(repeat' ((first|(apply AQ;omega)|apply AP|apply AE)<;>conv=>whnf))
 refine D9 (enc:=BW) 0 0 rfl rfl (by omega) ?_;(conv=>whnf)
 (repeat' (apply DQ<;>conv=>whnf))
 refine FA (enc:=BW) (l:=[]) input rfl rfl rfl (by simp) (by simp) ?_;(conv=>whnf)
 refine aD (enc:=BW) rfl (λ_=>rfl) (by simp;omega) (by simp;omega) ?_;(conv=>whnf)
 (repeat' (apply AP<;>conv=>whnf))
 refine G9 (λ i _ _=>n.nodes.length-i) (λ(i:Nat) (vals:List Int) (ov:Bool)=>i<=n.nodes.length/\(vals.length:Int)=1+n.s+i/\GF n.c n.s i (n.nodes.drop i)=true/\FB n vals ov (n.nodes.drop i)=FB n (input::st) false n.nodes) (λ i vals ov=>[(8,.row 30 0 1 0 vals.length),(9,.bool ov),(34,.int .i64 i)]) (λ i vals ov=>[(30,23,.rw 1 (vals.map BW))]) 0 (input::st) false ⟨by simp,by simp;omega,h4,rfl⟩ ?_;intro i vals ov ⟨p1,p2,p3,p4⟩ ih;(repeat' ((first|(apply AG<;>intro hc<;>try omega)|apply AP|(refine IJ ?_ (λ_=>rfl) (λ e he => ?_);omega)|(refine CZ (λ_=>rfl) rfl ?_ ?_;(first|rfl|simp))|apply AE)<;>conv=>whnf))
 ·rename Nd=>nd
  have hnd:=he;rw[H9 hnd]at p3 p4;simp only[GF,Bool.and_eq_true,decide_eq_true_eq]at p3;obtain ⟨⟨hnt,dd⟩,El⟩:=p3;have hf:=Ajo n dd p2;have hI:DT (QD vals 0 nd.ts):=Rb vals _ _ (by unfold DT;omega);refine FU (λ j _=>nd.ts.length-j) (λ(j:Nat) (acc:Int)=>j<=nd.ts.length/\QD vals acc (nd.ts.drop j)=QD vals 0 nd.ts) (λ j acc=>[(12,.int .i64 acc),(41,.int .i64 j)]) (λ_ _=>[]) 0 0 ⟨by simp,rfl⟩ ?_;intro j acc ⟨r1,r2⟩ fv;(repeat' ((first|(apply AG<;>intro hc<;>try omega)|(refine IJ ?_ (λ_=>rfl) (λ e he => ?_);omega)|apply AE)<;>conv=>whnf))
  ·have:=hf e (zM he)
   (repeat' ((first|(apply A2;omega)|(apply AQ;omega)|apply gR|apply Wb|(refine gL ?_ (λ_=>rfl) (λ v hv => ?_);omega))<;>conv=>whnf))
   rw[H9 he,QD]at r2;refine BN [] (by (conv=>whnf);exact ⟨rfl,rfl,rfl⟩) (fv (j+1) _ (by omega) ⟨by omega,?_⟩);rw[<-r2,List.getD_eq_getElem?_getD,hv];rfl
  ·rw[Q2 (by omega),QD]at r2
   subst r2;cases ov;all_goals (repeat' ((first|apply DQ|refine EE (Q5 ⟨_,_,_,_⟩ I _) (λ hf => ?_) (λ hf => ?_)|refine AD (Agq I _ _ _ hI) ?_|refine AD (Ago ⟨_,_,_,_⟩ I _) ?_)<;>conv=>whnf))
   all_goals (
    refine FA (enc:=BW) _ rfl rfl rfl (by omega) (by omega) ?_;(conv=>whnf)
    (repeat' ((first|(apply AQ;omega)|fail)<;>conv=>whnf))
    refine BN [(30,78)] (by (conv=>whnf);exact ⟨rfl,rfl,rfl⟩) (ih (i+1) _ _ (by omega) ⟨by omega,by simp;omega,El,?_⟩);rw[<-p4,FB];first|rfl|(have hf:FT n.d (RD n vals nd):=hf;rw[decide_eq_true hf];rfl)|(have hf : ¬ FT n.d (RD n vals nd):=hf;rw[decide_eq_false hf];rfl))
 ·rw[Q2 (by omega),FB]at p4
  rw[<-p4];exact AW rfl (by simp [AZ,BS,V7])
def GH (st:List Int) (x:Int):List Int × Bool × Int :=
 if DZ n then (if J6 n st [x]=0 then ((FB n (x::st) false n.nodes).1,(FB n (x::st) false n.nodes).2,0) else ([],false,J6 n st [x])) else ([],false,2)
theorem Px {st:List Int} {x:Int} (h:DZ n=false):GH n st x=([],false,2):=by rw[GH,h];rfl
theorem Pw {st:List Int} {x:Int} (h:DZ n=true) (h':J6 n st [x]≠0):GH n st x=([],false,J6 n st [x]):=by rw[GH,if_pos h,if_neg h']
theorem oN {st:List Int} {x:Int} (h:DZ n=true) (h':J6 n st [x]=0):GH n st x=((FB n (x::st) false n.nodes).1,(FB n (x::st) false n.nodes).2,0):=by rw[GH,if_pos h,if_pos h']
theorem Pc {st ins:List Int} (h:J6 n st ins=0):(st.length:Int)=n.s:=by
 unfold J6 at h;split at h
 ·cases h
 ·omega
theorem uL (I:c7 L) (J:u4 L) (st:List Int) (q1:Bool) (x:Int) (hn:st.length<9223372036854775808):Ev L 24 [.agg (CO n),.sl q1 (st.map BW),.int .i64 x] (.g8 [.sl false ((GH n st x).1.map BW),.bool (GH n st x).2.1,.int .i64 (GH n st x).2.2]):=by
 refine Ev.x J.NK rfl rfl ?_;(repeat' ((first|(apply AG<;>intro hc<;>try omega)|refine GA rfl ?_|apply AE|refine Wv (uK n I J) (λ hf => ?_) (λ hf => ?_)|refine AD (AgN n I J st [x] _ _ hn (by simp)) ?_)<;>conv=>whnf))
 ·rw[Pw n hf hc]
  exact AW rfl (by simp [AZ,BS,EV])
 ·rw[oN n hf hc]
  (repeat' (refine AD (AgL n I J st _ _ hf (Pc n hc)) ?_<;>conv=>whnf))
  exact AW rfl (by simp [AZ,BS,V7])
 ·rw[Px n hf]
  exact AW rfl (by simp [AZ,BS,EV])
theorem SB {α:Type} {o F:List α} {i:Nat} {v:α} (hl:o.length=F.length) (h:o.take i=F.take i) (hv:F[i]? = some v):(o.set i v).length=F.length/\(o.set i v).take (i+1)=F.take (i+1):=by
 obtain ⟨hi,rfl⟩:=zS hv;refine ⟨by simp [hl],?_⟩;rw[List.take_add_one,List.take_add_one,<-h];congr 1
 ·rw[List.take_set_of_le (Nat.le_refl i)]
 ·rw[hv];simp [hl,hi]
theorem YX {α:Type} {o F:List α} {i:Nat} (hl:o.length=F.length) (h:o.take i=F.take i) (hi:F.length<=i):o=F:=by
 rwa [zT (by omega),zT hi]at h
def G5 (vals:List Int):List Int:=n.next.map λ k=>vals.getD k.toNat 0
theorem AgM (J:u4 L) (vals:List Int) (q:Bool) (hv:DZ n=true) (hl:(vals.length:Int)=1+n.s+n.nodes.length):Ev L 25 [.agg (CO n),.sl q (vals.map BW)] (.sl false ((G5 n vals).map BW)):=by
 rw[C5]at hv;obtain ⟨h1,h2,h3,h4,h5,h6⟩:=hv;refine Ev.x J.NM rfl rfl ?_;(repeat' (apply AE<;>conv=>whnf))
 refine Xe (enc:=BW) 0 rfl (by omega) (by omega) ?_;(conv=>whnf)
 (repeat' (apply AP<;>conv=>whnf))
 have hF:(G5 n vals).length=n.next.length:=by simp [G5]
 refine VU (λ i _=>n.next.length-i) (λ(i:Nat) (o:List Int)=>i<=n.next.length/\o.length=(G5 n vals).length/\o.take i=(G5 n vals).take i) (λ i o=>[(5,.row 10 0 1 0 o.length),(14,.int .i64 i)]) (λ i o=>[(10,10,.rw 1 (o.map BW))]) [] [] 0 (List.replicate n.s.toNat 0) (by rw[List.length_replicate];exact (by (conv=>whnf);exact ⟨rfl,rfl,rfl⟩)) ⟨by simp,by simp [hF];omega,by simp⟩ ?_;intro i o ⟨p1,p2,p3⟩ ih;(repeat' ((first|(apply AG<;>intro hc<;>try omega)|(refine IJ ?_ (λ_=>rfl) (λ e he => ?_);omega)|(refine CZ (λ_=>rfl) rfl ?_ ?_;(first|rfl|simp))|apply AE)<;>conv=>whnf))
 ·have hb:=List.all_eq_true.1 h5 _ (zM he)
  simp only[decide_eq_true_eq]at hb;(repeat' ((first|(apply A2;omega)|(refine XW ?_ (λ_=>rfl) (λ e he => ?_);omega))<;>conv=>whnf))
  rename_i kk hk;have hF':(G5 n vals)[i]? = some e:=by
   simp only[G5,List.getElem?_map,hk,Option.map_some,List.getD_eq_getElem?_getD,he,Option.getD_some]
  obtain ⟨f1,f2⟩:=SB p2 p3 hF';refine KB (enc:=BW) e rfl (λ_=>rfl) (by omega) ?_;(conv=>whnf)
  (repeat' ((first|(apply AQ;omega)|fail)<;>conv=>whnf))
  exact BN [] (by rw[List.length_set];exact (by (conv=>whnf);exact ⟨rfl,rfl,rfl⟩)) (ih (i+1) (o.set i e) (by omega) ⟨by omega,f1,f2⟩)
 ·exact AW (by rw[YX p2 p3 (by omega)]) (by simp [AZ,V7])
theorem iP : ∀ (l:List Nd) (vals:List Int) (ov:Bool),(FB n vals ov l).1.length=vals.length+l.length
 | [],vals,ov=>rfl
 | nd::l,vals,ov=>by rw[FB,iP l];simp;omega
def RN (st:List Int) (x:Int):List Int × Int × Bool × Int :=
 if (GH n st x).2.2=0 then (G5 n (GH n st x).1,(GH n st x).1.getD n.out.toNat 0,(GH n st x).2.1,0) else ([],0,false,(GH n st x).2.2)
theorem Alz {st:List Int} {x:Int} (h:(GH n st x).2.2=0):DZ n=true/\((GH n st x).1.length:Int)=1+n.s+n.nodes.length:=by
 cases hn:DZ n
 ·rw[Px n hn]at h;cases h
 ·refine ⟨rfl,?_⟩
  by_cases hw:J6 n st [x]=0
  ·rw[oN n hn hw,iP]
   have:=Pc n hw
   simp;omega
  ·rw[Pw n hn hw]at h;exact absurd h hw
theorem AkY {st:List Int} {x:Int} (h:(GH n st x).2.2≠0):RN n st x=([],0,false,(GH n st x).2.2):=by rw[RN,if_neg h]
theorem Qr {st:List Int} {x:Int} (h:(GH n st x).2.2=0):RN n st x=(G5 n (GH n st x).1,(GH n st x).1.getD n.out.toNat 0,(GH n st x).2.1,0):=by rw[RN,if_pos h]
theorem kT {l:List Int} {i:Nat} {e:Int} (h:l[i]? = some e):l.getD i 0=e:=by rw[List.getD_eq_getElem?_getD,h];rfl
theorem AgK (I:c7 L) (J:u4 L) (st:List Int) (q1:Bool) (x:Int) (hn:st.length<9223372036854775808):Ev L 26 [.agg (CO n),.sl q1 (st.map BW),.int .i64 x] (.g8 [.sl false ((RN n st x).1.map BW),.int .i64 (RN n st x).2.1,.bool (RN n st x).2.2.1,.int .i64 (RN n st x).2.2.2]):=by
 refine Ev.x J.NI rfl rfl ?_;(repeat' ((first|(apply AG<;>intro hc<;>try omega)|apply AE|refine AD (uL n I J st q1 x hn) ?_)<;>conv=>whnf))
 ·rw[AkY n hc]
  exact AW rfl (by simp [AZ,BS,EV])
 ·rw[Qr n hc]
  obtain ⟨g1,g2⟩:=Alz n hc;have Hn:=(C5 n).1 g1;obtain ⟨_,_,g3,_,_,g4⟩:=Hn;(repeat' ((first|(refine XW ?_ (λ_=>rfl) (λ e he => ?_);omega)|refine AD (AgM n J _ _ g1 g2) ?_)<;>conv=>whnf))
  rw[kT he];exact AW rfl (by simp [AZ,BS,V7])
theorem Aj6 {w:Wd} (h:WV w) (v:Int):FT w (VC w v):=by
 obtain ⟨h1,h2,h3,h4⟩:=MW h;have hw:=h;unfold WV at hw;refine ⟨h,?_⟩;unfold VC;rw[if_pos h];split
 ·have e:=dW (n:=w.b) (by omega)
  have a1:0<=v%pw w.b:=Int.emod_nonneg _ (by omega);have a2:v%pw w.b<pw w.b:=Int.emod_lt_of_pos _ (by omega);unfold aC;rw[if_pos (by omega)];split<;>omega
 ·unfold ZV;omega
theorem AlH {w:Wd} {l l':List Int} (h:ED w l=true) (h':ED w l'=true):ED w (l++l')=true:=by
 simp only[ED]at *;rw[List.all_append,h,h'];rfl
theorem rR (hd:WV n.d) : ∀ (l:List Nd) (vals:List Int) (ov:Bool),ED n.d vals=true->ED n.d (FB n vals ov l).1=true
 | [],vals,ov,h=>h
 | nd::l,vals,ov,h=>by
  rw[FB];exact rR hd l _ _ (AlH h (by simp [ED,Aj6 hd]))
theorem AlI {w:Wd} {l:List Int} (h:ED w l=true) {i:Nat} {e:Int} (he:l[i]? = some e):FT w e:=by
 have:=List.all_eq_true.1 h e (zM he)
 simpa using this
theorem Ahv {vals:List Int} (h:ED n.d vals=true) (hx:IU (n.s+n.nodes.length) n.next=true) (hl:(vals.length:Int)=1+n.s+n.nodes.length):ED n.d (G5 n vals)=true:=by
 unfold ED G5;rw[List.all_eq_true];intro v hv;obtain ⟨k,hk,rfl⟩:=List.mem_map.1 hv;have hb:=List.all_eq_true.1 hx k hk;simp only[decide_eq_true_eq]at hb;have j9:k.toNat<vals.length:=by omega
 have he:vals[k.toNat]? = some vals[k.toNat]:=zE j9;rw[kT he];simpa using AlI h he
end Go.c6

namespace Go.c6
open F
attribute [local irreducible] AA AF AX AC CN AR BA A6 BV BH CM EI BO AY B0 CJ AB A5 AH pw CQ CE C8 EA DP BT CP BU C7
variable {L:Lib}
set_option maxHeartbeats 16000000
def D7 (l:List Int):List Rat:=l.map λ v=>((v:Int):Rat)
def BP (n:Nt):List (List (Int × Int)):=n.nodes.map Nd.ts
def FO (n:Nt) (src ex:Int):List Rat:=DW ((pw n.c.f:Int):Rat) ex 0 (B8 (1+n.s).toNat src) (BP n)
theorem ZC {c:Wd} {s:Int} : ∀ {l:List Nd} {k j:Nat} {nd:Nd},GF c s k l=true->l[j]? = some nd->nd.ts.all (FQ c s (k+j))=true
 | [],_,_,_,_,h=>by simp at h
 | e::l,k,0,nd,hb,h=>by
  simp only[List.getElem?_cons_zero,Option.some.injEq]at h;subst h;simp only[GF,Bool.and_eq_true]at hb;exact hb.1.2
 | e::l,k,j+1,nd,hb,h=>by
  simp only[List.getElem?_cons_succ]at h;simp only[GF,Bool.and_eq_true]at hb;rw[show k+(j+1)=k+1+j by omega];exact ZC hb.2 h
theorem oM (m p:Nat):(List.replicate m (0:Rat)).set p 1=B8 m p:=by
 refine List.ext_getElem? λ j => ?_
 simp only[B8,List.getElem?_set,List.getElem?_map,List.getElem?_replicate,List.length_replicate];by_cases h:j<m
 ·rw[List.getElem?_range h]
  by_cases e:p=j
  ·subst e;simp [h]
  ·simp [h,e];intro h3;omega
 ·rw[List.getElem?_eq_none (by simpa using h)]
  simp [h];intro e;omega
theorem Bs.unit (k m:Nat) (p:Int):Bs k (B8 m p):=by
 intro x hx;simp only[B8,List.mem_map]at hx;obtain ⟨a,_,rfl⟩:=hx;split
 ·exact Bt.one k
 ·exact Bt.zero k
def E7 (n:Nt):FE where
 a:=n.next.map λ e=>(List.range n.s.toNat).map λ(j:Nat)=>(FO n ((j:Int)+1) (-1)).getD e.toNat 0
 b:=n.next.map λ e=>(FO n 0 (-1)).getD e.toNat 0
 c:=(List.range n.s.toNat).map λ(j:Nat)=>(FO n ((j:Int)+1) (-1)).getD n.out.toNat 0
 d:=(FO n 0 (-1)).getD n.out.toNat 0
abbrev eC:Option (List Rat)->List AV
 | none=>[.nil]
 | some l=>[.sl false (l.map eQ)]
def fz {α:Type} (z:α) (l:List α) (m:Nat):List α:=l++List.replicate (m-l.length) z
theorem kR {α:Type} {z:α} {l:List α} {m:Nat} (h:l.length<=m):(fz z l m).length=m:=by simp [fz];omega
theorem kS {α:Type} {z x:α} {l:List α} {m:Nat} (h:l.length<m):(fz z l m).set l.length x=fz z (l++[x]) m:=by
 unfold fz;obtain ⟨k,hk⟩ : ∃ k,m-l.length=k+1:=⟨m-l.length-1,by omega⟩;rw[List.set_append_right _ _ (by simp),hk,Nat.sub_self,List.replicate_succ,List.set_cons_zero,List.length_append,List.length_singleton,show m-(l.length+1)=k by omega,List.append_assoc];rfl
theorem wI {α:Type} {z:α} {l:List α} {m:Nat} (h:l.length<m):(fz z l m)[l.length]? = some z:=by
 unfold fz;rw[List.getElem?_append_right (by omega),Nat.sub_self,List.getElem?_replicate,if_pos (by omega)]
theorem kQ {α:Type} {z:α} {l:List α} {m:Nat} (h:l.length=m):fz z l m=l:=by simp [fz,h]
theorem fU {α:Type} {l:List α} {i:Nat} {x:α} (h:l[i]? = some x):l.take (i+1)=l.take i++[x]:=by
 rw[List.take_add_one,h];rfl
def cf (l:List Rat) (prev:List (Option Rat)) (i:Nat):List (Option Rat):=(l.take i).map some++prev.drop i
end Go.c6
