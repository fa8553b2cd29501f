/-
  Natural numbers (layer 1): greatest common divisors.
-/
import Derived.Test.YthgjfcjecnmflaaGreatB9
import Derived.Test.YthgjfcjecnmflaaGreatB7
import Derived.Test.YthgjfcjecnmflaaGreatB8
import Derived.Test.YthgjfcjecnmflaaGreatB1
import Derived.Test.YthgjfcjecnmflaaGreatB2
set_option linter.unusedSimpArgs false
set_option linter.unusedVariables false
set_option linter.unnecessarySimpa false
namespace Go.e9
open F
attribute [local irreducible] AA AF AQ AD DW AW A9 BD CO AX BI FZ CE A4 CD C7 AB BA AJ pw D6 C3 E7 EH FE BP C4 B9 CF
set_option maxHeartbeats 4000000
variable {L:Lib}
theorem eP {k':IntKind} {a:Int} {K:AV->Prop} (hk:K (.int .i64 (a/4294967296))):AD .shr .i64 a k' 32 K:=by
 refine uG (by omega) ?_;have:pw 32=4294967296:=by decide +kernel
 rw[this];exact hk
theorem eD {t:Int} {K:Int->Prop} (hk:K (TR t:Int)):A0 .u32 t K:=by
 refine ⟨?_⟩;rw[IntKind.wrap_u32,<-ZE];exact hk
section
variable {k':IntKind} {a b:Nat} {K:AV->Prop}
theorem uF {i:Nat} (hi:i<2) (ha:a<4294967296) (hk:K (.int .u64 ((a*4294967296^i:Nat):Int))):AD .shl .u64 (a:Int) k' (32*(i:Int)) K:=by
 rcases i with _|_|i
 ·exact OH (s:=0) (by omega) (by omega) hk
 ·exact OH (s:=32) (by omega) (by omega) hk
 ·omega
end
theorem mJ {x y M N:Int} (hx : -M<=x/\x<=M) (hy : -N<=y/\y<=N) : -(M*N)<=x*y/\x*y<=M*N:=by
 have h1:x.natAbs<=M.natAbs:=by omega
 have h2:y.natAbs<=N.natAbs:=by omega
 have h3:=Nat.mul_le_mul h1 h2;rw[<-Int.natAbs_mul,<-Int.natAbs_mul]at h3;have h4:0<=M*N:=Int.mul_nonneg (by omega) (by omega);omega
theorem Z5 (N:c7 L) (a b:List Nat) (q1 q2:Bool) (hA:AY a) (hB:AY b) (la:a.length<=549755813888) (lb:b.length<=549755813888) (h0:val b≠0) :
  Ev L 75 [.sl q1 (a.map AL),.sl q2 (b.map AL)] (.j4 [.sl false ((dg (val a/val b)).map AL),.sl false ((dg (val a%val b)).map AL),.int .i64 0]):=by
 have l1:=ET hA;have l2:=ET hB;have hp:=TV h0;refine Ev.x N.KV rfl rfl ?_;(repeat' ((first|(apply AG<;>intro hc<;>try omega)|apply AR|apply AE|refine JP (J0 N a _ hA (by omega)) ?_|refine JP (J0 N b _ hB (by omega)) ?_|refine AC (Z7 N _ _ _ _ h0 (by omega) (by omega)) ?_)<;>conv=>whnf))
 refine AU rfl ?_;simp only[A6,C6,and_true,true_and];exact ⟨CQ _,CQ _⟩
theorem jY (N:c7 L) (V:Nat) (q:Bool) (hl:(dg V).length<=2):Ev L 76 [.sl q ((dg V).map AL)] (.int .u64 (V:Int)):=by
 have hV:=N1.1 hl;have hD:=DX V;have hv:=BS V;refine Ev.x N.K5 rfl rfl ?_;generalize dg V=l at *;(repeat' ((first|apply AR|apply AE)<;>conv=>whnf))
 refine J2 (λ i _=>l.length-i) (λ(i:Nat) (a:Nat)=>i<=l.length/\a=val (l.take i)) (λ i a=>[(3,.int .u64 (a:Int)),(8,.int .i64 i)]) (λ_ _=>[]) 0 0 ⟨by omega,rfl⟩ ?_;intro i a ⟨p1,p2⟩ ih;by_cases hi:i<l.length
 ·obtain ⟨d,hd⟩ : ∃ d,l[i]? = some d:=⟨_,zE hi⟩
  have bk:=hD.at hd;have h1:=DY hd;have h2:=E2 (hD.take i);have h3:=E2 (hD.take (i+1));rw[List.length_take,Nat.min_eq_left (by omega)]at h2 h3;have h4:4294967296^(i+1)<=4294967296^2:=Nat.pow_le_pow_right (by omega) (by omega);(repeat' ((first|(apply AG<;>intro hc<;>try omega)|(apply NN;omega)|(apply CH;omega)|(refine BL (by assumption) ?_ rfl ?_;omega)|apply AE)<;>conv=>whnf))
  refine uF (by omega) bk ?_;(conv=>whnf)
  rw[Nat.mul_comm d];refine VV (32*i) (by rw[Nat.pow_mul];exact Nat.mul_mod_right _ _) (by rw[Nat.pow_mul,p2];exact h2) (by omega) ?_;(conv=>whnf)
  (repeat' ((first|(apply AZ;omega)|fail)<;>conv=>whnf))
  exact B5 [] (by (conv=>whnf);exact ⟨rfl,rfl,rfl⟩) (ih (i+1) _ (by omega) ⟨by omega,by rw[h1,p2]⟩)
 ·obtain rfl:i=l.length:=by omega
  clear ih;(repeat' ((first|(apply AG<;>intro hc<;>try omega)|apply AE)<;>conv=>whnf))
  rw[DD (Nat.le_refl _)]at p2;exact C2 (by omega)
theorem YP {f:Nat} {vs:List AV} {tm:Tm} {M:Mem} {K:AV->Mem->Prop} {v:AV} (h:BA L f vs tm M (λ r M'=>r=v/\M'=M)) (hk:K v M):BA L f vs tm M K:=by
 unfold BA at h ⊢;intro σ own hs;obtain ⟨r,l8,σ',M',h1,h2,h3,rfl,rfl⟩:=h σ own hs;exact ⟨_,l8,σ',_,h1,h2,h3,hk⟩
theorem jX (N:c7 L) (a:List Nat) (q:Bool) (n s:Nat) (hD:AY a) (hn:3<=n) (hl:a.length<=n) (Fo:n<=549755813888) (hs:s<=31) (l7:val a*2^s<4294967296^n) :
  Ev L 78 [.sl q (a.map AL),.int .i64 (n:Int),.int .u64 (s:Int)] (.int .i64 ((val a/SG n s:Nat):Int)):=by
 have b1:=PH hD (n-1);have b2:=PH hD (n-2);have b3:=PH hD (n-3);have sv:=mQ hD hn hl rfl rfl l7;have heq:=mP (s:=s) hD hn hl hs rfl rfl rfl;obtain ⟨f1,f2,f3,f4⟩:=Q6 (s:=s) b3 (by omega);refine Ev.x N.K2 rfl rfl ?_;(repeat' ((first|(apply A3;omega)|(apply BX;omega)|apply AE)<;>conv=>whnf))
 refine YP (v := .int .u64 ((a.getD (n-1) 0:Nat):Int)) ?_ ?_
 ·refine FC 1000 N.H1 rfl rfl ?_
  (repeat' ((first|(apply AG<;>intro hc<;>try omega)|(apply CH;omega)|apply AR|(refine O8 (by assumption) ?_ (λ e he hb => ?_);omega)|apply AE)<;>conv=>whnf))
  ·refine ⟨rfl,_,rfl,?_,rfl⟩
   rw[show ((n:Int)-1).toNat=n-1 by omega]at he;rw[GM he];rfl
  ·refine ⟨rfl,_,rfl,?_,rfl⟩
   rw[<-PI (show a.length<=n-1 by omega)];rfl
 (conv=>whnf)
 (repeat' ((first|(apply A3;omega)|(apply BX;omega)|(apply NP;omega))<;>conv=>whnf))
 refine YP (v := .int .u64 ((a.getD (n-2) 0:Nat):Int)) ?_ ?_
 ·refine FC 1000 N.H1 rfl rfl ?_
  (repeat' ((first|(apply AG<;>intro hc<;>try omega)|(apply CH;omega)|apply AR|(refine O8 (by assumption) ?_ (λ e he hb => ?_);omega)|apply AE)<;>conv=>whnf))
  ·refine ⟨rfl,_,rfl,?_,rfl⟩
   rw[show ((n:Int)-2).toNat=n-2 by omega]at he;rw[GM he];rfl
  ·refine ⟨rfl,_,rfl,?_,rfl⟩
   rw[<-PI (show a.length<=n-2 by omega)];rfl
 (conv=>whnf)
 generalize a.getD (n-1) 0=d1 at *;generalize a.getD (n-2) 0=d2 at *;(repeat' ((first|(apply OE;omega)|fail)<;>conv=>whnf))
 refine OH (by omega) sv ?_;(conv=>whnf)
 generalize hT:(d1*4294967296+d2)*2^s=T at *;(repeat' ((first|(apply A3;omega)|(apply BX;omega))<;>conv=>whnf))
 refine YP (v := .int .u64 ((a.getD (n-3) 0:Nat):Int)) ?_ ?_
 ·refine FC 1000 N.H1 rfl rfl ?_
  (repeat' ((first|(apply AG<;>intro hc<;>try omega)|(apply CH;omega)|apply AR|(refine O8 (by assumption) ?_ (λ e he hb => ?_);omega)|apply AE)<;>conv=>whnf))
  ·refine ⟨rfl,_,rfl,?_,rfl⟩
   rw[show ((n:Int)-3).toNat=n-3 by omega]at he;rw[GM he];rfl
  ·refine ⟨rfl,_,rfl,?_,rfl⟩
   rw[<-PI (show a.length<=n-3 by omega)];rfl
 (conv=>whnf)
 generalize a.getD (n-3) 0=d3 at *;skip
 refine OH (by omega) f4 ?_;(conv=>whnf)
 (repeat' (apply FF<;>conv=>whnf))
 rw[Q5]at f2;refine eL s (by rw[<-hT];exact Nat.mul_mod_left _ _) f2 (by have:=XJ (k:=d1*4294967296+d2) (show s<=64 by omega) (by omega);omega) ?_;(conv=>whnf)
 (repeat' ((first|apply uC|(apply PY;omega))<;>conv=>whnf))
 rw[heq];exact C2 rfl
theorem Ku (N:c7 L) (P Q:Int) (hP:0<=P/\P<=4611686018427387904) (hQ:0<=Q/\Q<=4611686018427387904) : ∃ r,Ev L 79 [.int .i64 P,.int .i64 Q] r /\ ∃ a b c d:Int,(YR a b c d/\(-2147483647<=a/\a<=2147483647)/\(-2147483647<=b/\b<=2147483647)/\(-2147483647<=c/\c<=2147483647)/\(-2147483647<=d/\d<=2147483647))/\(b≠0->S9 P Q a b c d)/\r = .j4 [.int .i64 a,.int .i64 b,.int .i64 c,.int .i64 d]:=by
 refine Ev.xE N.KZ rfl rfl ?_;(repeat' (apply AE<;>conv=>whnf))
 refine sH (λ_ _ _ _ _ q=>(q+2147483648).toNat) (λ(a b c d p q:Int)=>P1 P Q a b c d p q/\((-2147483647<=a/\a<=2147483647)/\(-2147483647<=b/\b<=2147483647)/\(-2147483647<=c/\c<=2147483647)/\(-2147483647<=d/\d<=2147483647))/\(p<=4611686018427387904/\q<=4611686018427387904)/\RP P Q a b c d/\(b≠0->S9 P Q a b c d)) (λ a b c d p q=>[(0,.int .i64 p),(1,.int .i64 q),(4,.int .i64 a),(5,.int .i64 b),(6,.int .i64 c),(7,.int .i64 d)]) (λ_ _ _ _ _ _=>[]) [] [] 1 0 0 1 P Q (by (conv=>whnf);exact ⟨rfl,rfl,rfl⟩) ⟨P1.start hP.1 hQ.1,by omega,by omega,RP.start P Q,λ h=>absurd rfl h⟩ ?_;intro a b c d p q ⟨p1,⟨⟨p2,p2'⟩,⟨p3,p3'⟩,⟨p4,p4'⟩,⟨p5,p5'⟩⟩,⟨p6,p7⟩,p8,p9⟩ ih;have g1:=p1.pa;have g2:=p1.pb;have g3:=p1.qc;have g4:=p1.qd;by_cases fy:q+c=0
 ·(repeat' ((first|(apply AG<;>intro hc<;>try omega)|(apply AZ;omega)|apply AE)<;>conv=>whnf))
  refine ⟨.j4 [.int .i64 a,.int .i64 b,.int .i64 c,.int .i64 d],?_,a,b,c,d,⟨p1.sg,by omega⟩,p9,rfl⟩;(conv=>whnf)
  exact AU rfl (by simp [A6,C6])
 by_cases su:q+d=0
 ·(repeat' ((first|(apply AG<;>intro hc<;>try omega)|(apply AZ;omega)|apply AE)<;>conv=>whnf))
  refine ⟨.j4 [.int .i64 a,.int .i64 b,.int .i64 c,.int .i64 d],?_,a,b,c,d,⟨p1.sg,by omega⟩,p9,rfl⟩;(conv=>whnf)
  exact AU rfl (by simp [A6,C6])
 by_cases Yu:(p+a)/(q+c)=(p+b)/(q+d)
 ·obtain ⟨s1,s2,s3,s4⟩:=p1.step fy su rfl Yu
  have s5:=s4 p8;have s6:=s5.half;have s7:=s1.qc;by_cases eg:2147483647<(p+a)/(q+c)
  ·(repeat' ((first|(apply AG<;>intro hc<;>try omega)|(apply AZ;omega)|(refine P4 ?_ ?_ (λ_ => ?_) (λ_ _ => ?_);omega;omega;all_goals try omega)|apply AE)<;>conv=>whnf))
   refine ⟨.j4 [.int .i64 a,.int .i64 b,.int .i64 c,.int .i64 d],?_,a,b,c,d,⟨p1.sg,by omega⟩,p9,rfl⟩;(conv=>whnf)
   exact AU rfl (by simp [A6,C6])
  ·have t1:=mJ (x:=(p+a)/(q+c)) (y:=c) (M:=2147483647) (N:=2147483647) (by omega) (by omega)
   have t2:=mJ (x:=(p+a)/(q+c)) (y:=d) (M:=2147483647) (N:=2147483647) (by omega) (by omega);(repeat' ((first|(apply AG<;>intro hc<;>try omega)|(apply AZ;omega)|(apply BX;omega)|(apply NN;omega)|(refine P4 ?_ ?_ (λ_ => ?_) (λ_ _ => ?_);omega;omega;all_goals try omega)|(apply DW.neg;omega)|apply AE)<;>conv=>whnf))
   all_goals first
    | exact B5 [] (by (conv=>whnf);exact ⟨rfl,rfl,rfl⟩) (ih _ _ _ _ _ _ (by omega) ⟨s1,by omega,by omega,s6,λ_=>s5⟩)
    |(refine ⟨.j4 [.int .i64 a,.int .i64 b,.int .i64 c,.int .i64 d],?_,a,b,c,d,⟨p1.sg,by omega⟩,p9,rfl⟩
      (conv=>whnf)
      exact AU rfl (by simp [A6,C6]))
 ·(repeat' ((first|(apply AG<;>intro hc<;>try omega)|(apply AZ;omega)|(refine P4 ?_ ?_ (λ_ => ?_) (λ_ _ => ?_);omega;omega;all_goals try omega)|apply AE)<;>conv=>whnf))
  refine ⟨.j4 [.int .i64 a,.int .i64 b,.int .i64 c,.int .i64 d],?_,a,b,c,d,⟨p1.sg,by omega⟩,p9,rfl⟩;(conv=>whnf)
  exact AU rfl (by simp [A6,C6])
theorem Kv (N:c7 L) (x y:List Nat) (q1 q2:Bool) (f g:Int) (hX:AY x) (hY:AY y) (hl:y.length<=x.length) (lx:x.length<=549755813888) (hs:O6 f g) (R:Nat) (hR:(R:Int)=f*val x+g*val y) (Hy:R<=val x) :
  Ev L 80 [.sl q1 (x.map AL),.sl q2 (y.map AL),.int .i64 f,.int .i64 g] (.sl false ((dg R).map AL)):=by
 refine Ev.x N.K0 rfl rfl ?_;(repeat' ((first|apply AR|apply AE)<;>conv=>whnf))
 refine EM (enc:=AL) 0 x.length rfl rfl (by omega) ?_;(conv=>whnf)
 (repeat' (apply AR<;>conv=>whnf))
 refine GH (λ i _ _=>x.length-i) (λ(i:Nat) (o:List Nat) (c:Int)=>i<=x.length/\o.length=x.length/\AY o /\ -2147483648<=c/\c<=2147483648/\(val (o.take i):Int)+((4294967296^i:Nat):Int)*c=f*val (x.take i)+g*val (y.take i)) (λ i o c=>[(10,.int .i64 c),(19,.int .i64 i)]) (λ i o c=>[(16,16,.rw 1 (o.map AL))]) 0 (List.replicate x.length 0) 0 ⟨by omega,by simp,IK _,by omega,by omega,by simp [val]⟩ ?_;intro i o c ⟨p1,p2,p3,p4,p5,p6⟩ ih;by_cases hi:i<x.length
 ·obtain ⟨d,hd⟩ : ∃ d,x[i]? = some d:=⟨_,zE hi⟩
  have bk:=hX.at hd;have h1:=DY hd;by_cases hy:i<y.length
  ·obtain ⟨e,he⟩ : ∃ e,y[i]? = some e:=⟨_,zE hy⟩
   have Ex:=hY.at he;have h2:=DY he;obtain ⟨r1,r2,r3⟩:=hs.Kh bk Ex;have j7:=gO (d:=d) (e:=e) p6 rfl;(repeat' ((first|(apply AG<;>intro hc<;>try omega)|(apply AZ;omega)|(apply NN;omega)|(apply PY;omega)|apply AR|(refine BL (by assumption) ?_ rfl ?_;omega)|apply AE)<;>conv=>whnf))
   generalize htt:f * ↑d+c+g * ↑e=t at *;refine eD ?_;(conv=>whnf)
   (repeat' ((first|(apply A3;omega)|fail)<;>conv=>whnf))
   refine E8 (by omega) ?_;(conv=>whnf)
   refine eP ?_;(conv=>whnf)
   (repeat' ((first|(apply AZ;omega)|fail)<;>conv=>whnf))
   refine B5 [] (by (conv=>whnf);exact ⟨rfl,rfl,rfl⟩) (ih (i+1) _ _ (by omega) ⟨by omega,by simpa using p2,p3.set _ (gN t),by omega,by omega,?_⟩);rw[FY (by omega),h1,h2,Nat.pow_succ];simp only[Int.natCast_add,Int.natCast_mul,ZE];exact j7
  ·have h2:=YM (y:=y) (i:=i) (by omega)
   obtain ⟨r1,r2,r3⟩:=hs.Kh (e:=0) bk (by omega);have j7:=gO (d:=d) (e:=0) p6 rfl;rw[Int.mul_zero,Int.add_zero]at j7;have r4 : -9223372030412324865<=f*(d:Int)/\f*(d:Int)<=9223372030412324865:=r1;(repeat' ((first|(apply AG<;>intro hc<;>try omega)|(apply AZ;omega)|(apply NN;omega)|(apply PY;omega)|apply AR|(refine BL (by assumption) ?_ rfl ?_;omega)|apply AE)<;>conv=>whnf))
   generalize htt:f * ↑d+c=t at *;refine eD ?_;(conv=>whnf)
   (repeat' ((first|(apply A3;omega)|fail)<;>conv=>whnf))
   refine E8 (by omega) ?_;(conv=>whnf)
   refine eP ?_;(conv=>whnf)
   (repeat' ((first|(apply AZ;omega)|fail)<;>conv=>whnf))
   refine B5 [] (by (conv=>whnf);exact ⟨rfl,rfl,rfl⟩) (ih (i+1) _ _ (by omega) ⟨by omega,by simpa using p2,p3.set _ (gN t),by omega,by omega,?_⟩);rw[FY (by omega),h1,h2,Nat.pow_succ];simp only[Int.natCast_add,Int.natCast_mul,ZE];rw[Int.mul_zero,Int.add_zero]at j7;exact j7
 ·obtain rfl:i=x.length:=by omega
  clear ih;rw[DD (by omega),DD (Nat.le_refl _),DD (by omega)]at p6;have Iy:=E2 p3;have hxv:=E2 hX;rw[p2]at Iy;have Xr:val o=R:=by
   have:=xH Iy p6 (by omega) (by omega)
   omega
  have kj:=ET p3;rw[<-p2,<-Xr];(repeat' ((first|(apply AG<;>intro hc<;>try omega)|apply AE|refine VQ N (by assumption) (by omega) rfl (by first|rfl|omega|assumption) ?_)<;>conv=>whnf))
  refine GL (enc:=AL) (λ_=>rfl) (by omega) ?_;(conv=>whnf)
  refine AU ?_ (by simp only[A6,true_and];exact CQ _);rw[List.drop_zero,VD p3]
theorem Oq (N:c7 L) (X Y:Nat) (pt:Y<=X) (hy:3<=(dg Y).length) (lx:(dg X).length<=549755813888) : ∃ r,Ev L 81 [.sl false ((dg X).map AL),.sl false ((dg Y).map AL)] r /\ ∃ A B:Nat,(B<Y/\B<=A/\A<=X/\Nat.gcd A B=Nat.gcd X Y)/\r = .j4 [.sl false ((dg A).map AL),.sl false ((dg B).map AL)]:=by
 have Xx:Y≠0:=λ h=>by rw[h,EZ]at hy;simp at hy
 have sf:X≠0:=by omega
 have hlen:=PC pt;have Yq:=λ q q'=>Z7 N X Y q q' Xx lx (by omega)
 have d1:=DX X;have d2:=DX Y;have v1:=BS X;have v2:=BS Y;obtain ⟨xt,Gu,Gv⟩:=ZN sf;have Bn:=d1.at Gu;obtain ⟨b1,b2,b3,b4⟩:=bI Gv Bn;have Ar:=jL N xt Bn;generalize hs:32-o7 xt=s at *;have cp:s<=31:=by omega
 obtain ⟨n1,n2⟩:=aZ d1 Gu (by omega) cp b3 b4;have wi:=λ(f g:Int) (R:Nat) (hs:O6 f g) (h1:(R:Int)=f*val (dg X)+g*val (dg Y)) (h2:R<=val (dg X)) (q q':Bool)=>Kv N (dg X) (dg Y) q q' f g d1 d2 (by omega) lx hs R h1 h2
 have n3:val (dg Y)*2^s<4294967296^(dg X).length:=Nat.lt_of_le_of_lt (zR _ (by omega)) n1;have kj:=λ q=>jX N (dg X) q (dg X).length s d1 (by omega) (by omega) lx cp n1
 have iv:=λ q=>jX N (dg Y) q (dg X).length s d2 (by omega) (by omega) lx cp n3
 have hK:=Qs (dg X).length s;obtain ⟨e1,x1,x2,x3⟩:=mS (V:=X) hK;obtain ⟨e2,y1,y2,y3⟩:=mS (V:=Y) hK;rw[v1]at kj;rw[v2]at iv;have uo:=mR d1 (n:=(dg X).length) (by omega) (by omega) cp n1;have yp:=mR d2 (n:=(dg X).length) (by omega) (by omega) cp n3;rw[v1]at uo;rw[v2]at yp;generalize SG (dg X).length s=K at *;generalize X/K=P at *;generalize Y/K=Q at *;rw[v1,v2]at wi;obtain ⟨rc,yv,a,b,c,d,⟨z1,z2,z3,z4,z5⟩,z6,rfl⟩:=Ku N (P:Int) (Q:Int) (by omega) (by omega);have e1:(((dg X).length:Int)-1).toNat=(dg X).length-1:=by omega
 rw[<-e1]at Gu;refine Ev.xE N.K4 rfl rfl ?_;by_cases hb:b=0
 ·(repeat' ((first|(apply AG<;>intro hc<;>try omega)|(apply BX;omega)|(apply CH;omega)|apply AR|(refine BL (by assumption) ?_ rfl ?_;omega)|apply AE|refine AC (Ar) ?_|refine AC (kj _) ?_|refine AC (iv _) ?_|refine AC (yv) ?_|refine AC (Yq _ _) ?_)<;>conv=>whnf))
  refine ⟨_,?_,Y,X%Y,⟨Nat.mod_lt _ (by omega),Nat.le_of_lt (Nat.mod_lt _ (by omega)),pt,UD X Y⟩,rfl⟩;(conv=>whnf)
  exact AU rfl (TQ _ _)
 ·obtain ⟨g1,g2,g3,g4⟩:=z6 hb (X:Int) (Y:Int) (K:Int) _ _ (by omega) x1 y1 x2 x3 y2 y3
  obtain ⟨A,hA⟩:=Int.eq_ofNat_of_zero_le (show 0<=a*X+b*Y by omega);obtain ⟨B,hB⟩:=Int.eq_ofNat_of_zero_le g1;have s1:O6 a b:=by rcases z1 with ⟨h1,h2,h3,h4⟩|⟨h1,h2,h3,h4⟩<;>unfold O6<;>omega
  have s2:O6 c d:=by rcases z1 with ⟨h1,h2,h3,h4⟩|⟨h1,h2,h3,h4⟩<;>unfold O6<;>omega
  (repeat' ((first|(apply AG<;>intro hc<;>try omega)|(apply BX;omega)|(apply CH;omega)|apply AR|(refine BL (by assumption) ?_ rfl ?_;omega)|apply AE|refine AC (Ar) ?_|refine AC (kj _) ?_|refine AC (iv _) ?_|refine AC (yv) ?_|refine AC (wi a b A s1 hA.symm (by omega) _ _) ?_|refine AC (wi c d B s2 hB.symm (by omega) _ _) ?_)<;>conv=>whnf))
  rw[hA,hB]at g4;rw[hA,hB]at g2;refine ⟨_,?_,A,B,⟨by omega,by omega,by omega,by simpa using g4⟩,rfl⟩;(conv=>whnf)
  exact AU rfl (TQ _ _)
theorem lL (N:c7 L) (X Y:Nat) (pt:Y<=X) (lx:(dg X).length<=549755813888) :
 AA L [It.lp GO.l1,It.e6 0,
   It.code
    ((((BF.ops GO.r6 false).dr [23,30,31] []).seq
       (BF.cond 32 (((BF.ops GO.r7 false).dr [5,6,32,33] []).seq BF.ret) BF.skip)).seq
     (((BF.ops GO.r8 false).dr [5,7,32,34,35,36,37,38,39] []).seq
      (((BF.ops GO.r9 false).dr [6,8,40,41,42,43] []).seq
       ((BF.block 2 GO.l2.loop).seq
        (((BF.ops GO.y8 false).dr [9,10,45,50,51,52,53,54,55,56] []).seq BF.ret)))))]
  [(6,AV.sl false (List.map AL (dg Y))),(5,AV.sl false (List.map AL (dg X)))] []
  (NQ GO (AV.sl false (List.map AL (dg (X.gcd Y))))):=by
 refine J2 (λ_ y=>y) (λ(x y:Nat)=>y<=x/\(dg x).length<=549755813888/\Nat.gcd x y=Nat.gcd X Y) (λ x y=>[(6,AV.sl false (List.map AL (dg y))),(5,AV.sl false (List.map AL (dg x)))]) (λ_ _=>[]) X Y ⟨pt,lx,rfl⟩ ?_;intro x y ⟨p1,p2,p3⟩ ih;rw[<-p3]at ih ⊢;generalize Nat.gcd X Y=G at *;clear pt lx;subst p3;have hlen:=PC p1;by_cases h3:3<=(dg y).length
 ·obtain ⟨r,hr,A,B,⟨k1,k2,k3,k4⟩,rfl⟩:=Oq N x y p1 h3 p2
  have k5:=PC k3;(repeat' ((first|(apply AG<;>intro hc<;>try omega)|apply AR|apply AE|refine AC (hr) ?_)<;>conv=>whnf))
  exact B0 [] (ih A B k1 ⟨k2,by omega,k4⟩)
 ·clear ih
  by_cases h0:y=0
  ·subst h0
   have rl:(dg 0).length=0:=by rw[EZ];rfl
   (repeat' ((first|(apply AG<;>intro hc<;>try omega)|apply AR|apply AE)<;>conv=>whnf))
   rw[Nat.gcd_zero_right];exact AU rfl (by simp only[A6,true_and];exact CQ _)
  ·have hp:=TV h0
   have hm:=PC (Nat.le_of_lt (Nat.mod_lt x (show y>0 by omega)));have hd:=λ q q'=>Z7 N x y q q' h0 p2 (by omega)
   have yw:=λ q=>jY N y q (by omega)
   have ql:=λ q=>jY N (x%y) q (by omega)
   have hb:y<18446744073709551616:=N1.1 (show (dg y).length<=2 by omega);have jf:x%y<y:=Nat.mod_lt _ (by omega);rw[<-UD x y];(repeat' ((first|(apply AG<;>intro hc<;>try omega)|apply AR|apply AE|refine AC (hd _ _) ?_|refine AC (yw _) ?_|refine AC (ql _) ?_)<;>conv=>whnf))
   refine VO (λ_ q=>q) (λ(p q:Nat)=>p<18446744073709551616/\q<18446744073709551616/\Nat.gcd p q=Nat.gcd y (x%y)) (λ p q=>[(9,.int .u64 (p:Int)),(10,.int .u64 (q:Int))]) (λ_ _=>[]) [] [] y (x%y) (by (conv=>whnf);exact ⟨rfl,rfl,rfl⟩) ⟨hb,by omega,rfl⟩ ?_;intro p q ⟨g1,g2,g3⟩ ih;rw[<-g3]at ih ⊢;by_cases hq:q=0
   ·subst hq
    clear ih;obtain ⟨v1,v2⟩:=ZK g1;rw[Nat.gcd_zero_right];have kj:=ET v2;have ht:=VD v2;rw[v1]at kj ht;(repeat' ((first|(apply AG<;>intro hc<;>try omega)|apply FF|(apply D9;omega)|apply FP|apply AE)<;>conv=>whnf))
    generalize p%4294967296=lo at *;generalize p/4294967296=hi at *;refine VQ N v2 (by simp) rfl rfl ?_;rw[v1];(conv=>whnf)
    skip
    refine GL (enc:=AL) (l:=[lo,hi]) (λ_=>rfl) (by omega) ?_;(conv=>whnf)
    refine AU ?_ (by simp only[A6,true_and];exact CQ _);rw[List.drop_zero,ht]
   ·have Zv:p%q<q:=Nat.mod_lt _ (by omega)
    (repeat' ((first|(apply AG<;>intro hc<;>try omega)|(apply TB;omega)|apply AE)<;>conv=>whnf))
    exact B0 [] (ih q (p%q) Zv ⟨g2,by omega,UD p q⟩)
theorem Kt (N:c7 L) (a b:List Nat) (q1 q2:Bool) (hA:AY a) (hB:AY b) (la:a.length<=549755813888) (lb:b.length<=549755813888) :
  Ev L 82 [.sl q1 (a.map AL),.sl q2 (b.map AL)] (.sl false ((dg (Nat.gcd (val a) (val b))).map AL)):=by
 have t1:=λ q=>TY N a q hA (by omega)
 have t2:=λ q=>TY N b q hB (by omega)
 have l1:=ET hA;have l2:=ET hB;have l6:=λ q q'=>OR N (dg (val a)) (dg (val b)) q q' (DX _) (DX _) (by omega) (by omega)
 rw[BS,BS]at l6;generalize val a=X at *;generalize val b=Y at *;refine Ev.x N.GO rfl rfl ?_;by_cases l7:X<Y
 ·have hn:DB X Y = -1:=(HV (by omega)).symm
  rw[hn]at l6;(repeat' ((first|(apply AG<;>intro hc<;>try omega)|apply AE|refine AC (t1 _) ?_|refine AC (t2 _) ?_|refine AC (l6 _ _) ?_)<;>conv=>whnf))
  rw[Nat.gcd_comm];exact B5 [] (by (conv=>whnf);exact ⟨rfl,rfl,rfl⟩) (lL N Y X (by omega) (by omega))
 ·have kg:0<=DB X Y:=by unfold DB;split<;>(try split)<;>omega
  generalize DB X Y=cm at *;(repeat' ((first|(apply AG<;>intro hc<;>try omega)|apply AE|refine AC (t1 _) ?_|refine AC (t2 _) ?_|refine AC (l6 _ _) ?_)<;>conv=>whnf))
  exact B5 [] (by (conv=>whnf);exact ⟨rfl,rfl,rfl⟩) (lL N X Y (by omega) (by omega))
end Go.e9
namespace Go.e9
open F
attribute [local irreducible] AA AF AQ AD DW AW A9 BD CO AX BI FZ CE A4 CD C7 AB BA AJ pw D6 C3 E7 EH FE BP C4 B9 CF
variable {L:Lib}
set_option maxHeartbeats 4000000
theorem tV {k:Nat} {K:Int->Prop} (h:0<k/\k<=9223372036854775808) (hk:K ((18446744073709551616-k:Nat):Int)):A0 .u64 (-(k:Int)) K:=by
 refine ⟨?_⟩;have e:IntKind.u64.wrap (-(k:Int))=((18446744073709551616-k:Nat):Int):=by
  simp [IntKind.wrap,IntKind.bits,IntKind.signed];omega
 rw[e];exact hk
theorem DW.Bu {k:Nat} {K:AV->Prop} (h:0<k/\k<=9223372036854775808) (hk:K (.int .u64 (k:Int))):DW .neg .u64 ((18446744073709551616-k:Nat):Int) K:=by
 refine DW.go (v := .int .u64 (IntKind.u64.wrap (0-((18446744073709551616-k:Nat):Int)))) rfl ?_;have e:IntKind.u64.wrap (0-((18446744073709551616-k:Nat):Int))=(k:Int):=by
  simp [IntKind.wrap,IntKind.bits,IntKind.signed];omega
 rw[e];exact hk
theorem Z4 (N:a6 L) (z:Int) (hz : -9223372036854775808<=z/\z<=9223372036854775807):Ev L 85 [.int .i64 z] (.agg (eZ z)):=by
 have two : ∀ k:Nat,k<18446744073709551616 -> ∀ q,Ev L 66 [.sl q [[.int .u32 ((k%4294967296:Nat):Int)],[.int .u32 ((k/4294967296:Nat):Int)]]] (.sl false ((dg k).map AL)):=λ k hk q=>by
  have:=TY N.toc7 [k%4294967296,k/4294967296] q (ZK hk).2 (by simp)
  rw[rN hk]at this;exact this
 refine Ev.x N.KH rfl rfl ?_;by_cases h0:0<=z
 ·obtain ⟨k,rfl⟩:=Int.eq_ofNat_of_zero_le h0
  have hT:=two k (by omega);have z1:=HY k;(repeat' ((first|(apply AG<;>intro hc<;>try omega)|apply FF|(apply CH;omega)|(apply D9;omega)|apply FP|refine TF rfl rfl ?_|apply AE)<;>conv=>whnf))
  generalize k%4294967296=lo at *;generalize k/4294967296=hi at *;(repeat' (refine AC (hT _) ?_<;>conv=>whnf))
  refine FD 1000 N.DF rfl rfl ?_;(repeat' (apply AE<;>conv=>whnf))
  all_goals (refine ⟨rfl,?_⟩;(conv=>whnf);skip)
  exact AU (EP (by omega) (GE (by omega))) (DK _)
 ·obtain ⟨k,hk⟩:=Int.eq_ofNat_of_zero_le (show 0 <= -z by omega)
  obtain rfl:z = -(k:Int):=by omega
  have hT:=two k (by omega);have z1:=HY k;(repeat' (apply AE<;>conv=>whnf))
  refine tV (by omega) ?_;(conv=>whnf)
  (repeat' ((first|(apply AG<;>intro hc<;>try omega)|fail)<;>conv=>whnf))
  refine DW.Bu (by omega) ?_;(conv=>whnf)
  (repeat' ((first|(apply AG<;>intro hc<;>try omega)|apply FF|(apply D9;omega)|apply FP|refine TF rfl rfl ?_)<;>conv=>whnf))
  generalize k%4294967296=lo at *;generalize k/4294967296=hi at *;(repeat' (refine AC (hT _) ?_<;>conv=>whnf))
  refine FD 1000 N.DF rfl rfl ?_;(repeat' ((first|(apply AG<;>intro hc<;>try omega)|apply AR|apply AE)<;>conv=>whnf))
  all_goals (refine ⟨rfl,?_⟩;(conv=>whnf);skip)
  exact AU (EP (by omega) (M6 (by omega))) (DK _)
theorem jT (N:a6 L) (n q:Bool) (m:List Nat) (hm:Sm 549755813888 m):Ev L 84 [.agg (rZ q n m)] (.agg (eZ (zv n m))):=by
 have hT:=λ q=>TY N.toc7 m q hm.1 (by have:=hm.2;omega)
 have hz:=HY (val m);have ha:=EW n m;refine Ev.x N.KJ rfl rfl ?_;cases n
 ·rw[ER]at *
  (repeat' ((first|apply AE|refine AC (hT _) ?_)<;>conv=>whnf))
  refine FD 1000 N.DF rfl rfl ?_;(repeat' (apply AE<;>conv=>whnf))
  all_goals (refine ⟨rfl,?_⟩;(conv=>whnf);skip)
  exact AU (EP ha.symm (GE (by omega))) (DK _)
 ·rw[OC]at *
  (repeat' ((first|apply AE|refine AC (hT _) ?_)<;>conv=>whnf))
  refine FD 1000 N.DF rfl rfl ?_;(repeat' ((first|(apply AG<;>intro hc<;>try omega)|apply AR|apply AE)<;>conv=>whnf))
  all_goals (refine ⟨rfl,?_⟩;(conv=>whnf);skip)
  ·exact AU (EP ha.symm (M6 (by omega))) (DK _)
  ·exact AU (EP ha.symm (GE (by omega))) (DK _)
theorem TZ (N:a6 L) (n q:Bool) (m:List Nat) (hm:Sm 549755813888 m):Ev L 86 [.agg (rZ q n m)] (.int .i64 (u9 (zv n m))):=by
 have l6:=λ q q'=>OR N.toc7 m [] q q' hm.1 R7 (by have:=hm.2;omega) (by simp)
 rw[IE]at l6;refine Ev.x N.KI rfl rfl ?_;by_cases h0:val m=0
 ·have hn:DB (val m) (0:Nat)=0:=(QD (by omega)).symm
  rw[hn]at l6;(repeat' ((first|(apply AG<;>intro hc<;>try omega)|apply AE|refine AC (l6 _ _) ?_)<;>conv=>whnf))
  exact C2 (U7 (by have:=EW n m;omega))
 ·have hn:DB (val m) (0:Nat)=1:=(NZ (by omega)).symm
  rw[hn]at l6;cases n
  ·(repeat' ((first|(apply AG<;>intro hc<;>try omega)|apply AE|refine AC (l6 _ _) ?_)<;>conv=>whnf))
   exact C2 (cX (by rw[ER];omega))
  ·(repeat' ((first|(apply AG<;>intro hc<;>try omega)|apply AE|refine AC (l6 _ _) ?_)<;>conv=>whnf))
   exact C2 (cW (by rw[OC];omega))
theorem jR (N:a6 L) (n1 n2 q1 q2:Bool) (a b:List Nat) (ha:Sm 549755813888 a) (hb:Sm 549755813888 b):Ev L 87 [.agg (rZ q1 n1 a),.agg (rZ q2 n2 b)] (.agg (eZ (zv n1 a+zv n2 b))):=by
 have la:=ha.2;have lb:=hb.2;have h1:=λ q q'=>Ks N.toc7 a b q q' ha.1 hb.1 (by omega) (by omega)
 have h2:=λ q q'=>jW N.toc7 a b q q' ha.1 hb.1 (by omega) (by omega)
 have h3:=λ q q'=>jW N.toc7 b a q q' hb.1 ha.1 (by omega) (by omega)
 have l6:=λ q q'=>OR N.toc7 a b q q' ha.1 hb.1 (by omega) (by omega)
 have z1:=HY (val a+val b);have z2:=HY (val a-val b);have z3:=HY (val b-val a);refine Ev.x N.KE rfl rfl ?_;by_cases l7:val a<val b
 ·have hn:DB (val a) (val b) = -1:=(HV (by omega)).symm
  rw[hn]at l6;cases n1<;>cases n2<;>simp only[ER,OC]
  ·(repeat' ((first|apply AE|refine AC (h1 _ _) ?_)<;>conv=>whnf))
   refine FD 1000 N.DF rfl rfl ?_;(repeat' (apply AE<;>conv=>whnf))
   all_goals (refine ⟨rfl,?_⟩;(conv=>whnf);skip)
   exact AU (EP (by omega) (GE (by omega))) (DK _)
  ·(repeat' ((first|(apply AG<;>intro hc<;>try omega)|apply AE|refine AC (h3 _ _) ?_|refine AC (l6 _ _) ?_)<;>conv=>whnf))
   refine FD 1000 N.DF rfl rfl ?_;(repeat' ((first|(apply AG<;>intro hc<;>try omega)|apply AR|apply AE)<;>conv=>whnf))
   all_goals (refine ⟨rfl,?_⟩;(conv=>whnf);skip)
   ·exact AU (EP (by omega) (M6 (by omega))) (DK _)
  ·(repeat' ((first|(apply AG<;>intro hc<;>try omega)|apply AE|refine AC (h3 _ _) ?_|refine AC (l6 _ _) ?_)<;>conv=>whnf))
   refine FD 1000 N.DF rfl rfl ?_;(repeat' (apply AE<;>conv=>whnf))
   all_goals (refine ⟨rfl,?_⟩;(conv=>whnf);skip)
   ·exact AU (EP (by omega) (GE (by omega))) (DK _)
  ·(repeat' ((first|apply AE|refine AC (h1 _ _) ?_)<;>conv=>whnf))
   refine FD 1000 N.DF rfl rfl ?_;(repeat' ((first|(apply AG<;>intro hc<;>try omega)|apply AR|apply AE)<;>conv=>whnf))
   all_goals (refine ⟨rfl,?_⟩;(conv=>whnf);skip)
   ·exact AU (EP (by omega) (M6 (by omega))) (DK _)
 ·have hn:DB (val a) (val b) ≠ -1:=by unfold DB;split<;>(try split)<;>omega
  generalize DB (val a) (val b)=cm at *;cases n1<;>cases n2<;>simp only[ER,OC]
  ·(repeat' ((first|apply AE|refine AC (h1 _ _) ?_)<;>conv=>whnf))
   refine FD 1000 N.DF rfl rfl ?_;(repeat' (apply AE<;>conv=>whnf))
   all_goals (refine ⟨rfl,?_⟩;(conv=>whnf);skip)
   exact AU (EP (by omega) (GE (by omega))) (DK _)
  ·(repeat' ((first|(apply AG<;>intro hc<;>try omega)|apply AE|refine AC (h2 _ _) ?_|refine AC (l6 _ _) ?_)<;>conv=>whnf))
   refine FD 1000 N.DF rfl rfl ?_;(repeat' (apply AE<;>conv=>whnf))
   all_goals (refine ⟨rfl,?_⟩;(conv=>whnf);skip)
   exact AU (EP (by omega) (GE (by omega))) (DK _)
  ·(repeat' ((first|(apply AG<;>intro hc<;>try omega)|apply AE|refine AC (h2 _ _) ?_|refine AC (l6 _ _) ?_)<;>conv=>whnf))
   refine FD 1000 N.DF rfl rfl ?_;(repeat' ((first|(apply AG<;>intro hc<;>try omega)|apply AR|apply AE)<;>conv=>whnf))
   all_goals (refine ⟨rfl,?_⟩;(conv=>whnf);skip)
   ·exact AU (EP (by omega) (M6 (by omega))) (DK _)
   ·exact AU (EP (by omega) (GE (by omega))) (DK _)
  ·(repeat' ((first|apply AE|refine AC (h1 _ _) ?_)<;>conv=>whnf))
   refine FD 1000 N.DF rfl rfl ?_;(repeat' ((first|(apply AG<;>intro hc<;>try omega)|apply AR|apply AE)<;>conv=>whnf))
   all_goals (refine ⟨rfl,?_⟩;(conv=>whnf);skip)
   ·exact AU (EP (by omega) (M6 (by omega))) (DK _)
   ·exact AU (EP (by omega) (GE (by omega))) (DK _)
theorem QN (N:a6 L) (n1 n2 q1 q2:Bool) (a b:List Nat) (ha:AY a) (hb:AY b) (hl:a.length+b.length<=1099511627776):Ev L 88 [.agg (rZ q1 n1 a),.agg (rZ q2 n2 b)] (.agg (eZ (zv n1 a*zv n2 b))):=by
 have h1:=λ q q'=>Z6 N.toc7 a b q q' ha hb hl
 have z1:=HY (val a*val b);have Eh:(zv n1 a*zv n2 b).natAbs=val a*val b:=by rw[Int.natAbs_mul,EW,EW]
 refine Ev.x N.KG rfl rfl ?_;have e:zv n1 a*zv n2 b=bif n1 == n2 then ((val a*val b:Nat):Int) else -((val a*val b:Nat):Int):=by
  cases n1<;>cases n2<;>simp [ER,OC,Int.mul_neg,Int.neg_mul]
 rw[e]at Eh ⊢;generalize val a*val b=V at *;cases n1<;>cases n2<;>simp only[beq_self_eq_true,cond_true,show (false == true)=false from rfl,show (true == false)=false from rfl,cond_false]
 ·(repeat' ((first|apply AE|refine AC (h1 _ _) ?_)<;>conv=>whnf))
  refine FD 1000 N.DF rfl rfl ?_;(repeat' (apply AE<;>conv=>whnf))
  all_goals (refine ⟨rfl,?_⟩;(conv=>whnf);skip)
  exact AU (EP (by omega) (GE (by omega))) (DK _)
 ·(repeat' ((first|apply AE|refine AC (h1 _ _) ?_)<;>conv=>whnf))
  refine FD 1000 N.DF rfl rfl ?_;(repeat' ((first|(apply AG<;>intro hc<;>try omega)|apply AR|apply AE)<;>conv=>whnf))
  all_goals (refine ⟨rfl,?_⟩;(conv=>whnf);skip)
  ·exact AU (EP (by omega) (M6 (by omega))) (DK _)
  ·exact AU (EP (by omega) (GE (by omega))) (DK _)
 ·(repeat' ((first|apply AE|refine AC (h1 _ _) ?_)<;>conv=>whnf))
  refine FD 1000 N.DF rfl rfl ?_;(repeat' ((first|(apply AG<;>intro hc<;>try omega)|apply AR|apply AE)<;>conv=>whnf))
  all_goals (refine ⟨rfl,?_⟩;(conv=>whnf);skip)
  ·exact AU (EP (by omega) (M6 (by omega))) (DK _)
  ·exact AU (EP (by omega) (GE (by omega))) (DK _)
 ·(repeat' ((first|apply AE|refine AC (h1 _ _) ?_)<;>conv=>whnf))
  refine FD 1000 N.DF rfl rfl ?_;(repeat' (apply AE<;>conv=>whnf))
  all_goals (refine ⟨rfl,?_⟩;(conv=>whnf);skip)
  exact AU (EP (by omega) (GE (by omega))) (DK _)
theorem ZM:dg 1=[1]:=by rw[IJ (by omega)];simp [EZ]
theorem Kp (N:a6 L) (V:Nat) (q:Bool):Ev L 90 [.sl q ((dg V).map AL)] (.bool (decide (V=1))):=by
 have hv:=BS V;have hD:=DX V;have h1:V=1->dg V=[1]:=λ h=>by rw[h,ZM]
 generalize dg V=l at *;refine Ev.x N.LV rfl rfl ?_;by_cases hl:l.length=1
 ·obtain ⟨d,rfl⟩:=List.length_eq_one_iff.1 hl
  have e:V=d:=by rw[<-hv];simp [val]
  subst e;have hd:[V][(0:Int).toNat]? = some V:=rfl;(repeat' ((first|(apply AG<;>intro hc<;>try omega)|apply AR|(refine BL (by assumption) ?_ rfl ?_;omega)|apply AE)<;>conv=>whnf))
  ·exact eG (by omega)
  ·exact VS (by omega)
 ·(repeat' ((first|(apply AG<;>intro hc<;>try omega)|apply AR|apply AE)<;>conv=>whnf))
  exact VS (λ h=>by rw[h1 h]at hl;simp at hl)
theorem SA (N:a6 L) (n q1 q2:Bool) (m d:List Nat) (hm:Sm 549755813888 m) (hd:Sm 549755813888 d) (h0:val d≠0):Ev L 94 [.agg (rQ q1 q2 n m d)] (.agg (eQ (qv n m d))):=by
 have yd:=λ q q'=>Z5 N.toc7 m d q q' hm.1 hd.1 hm.2 hd.2 h0
 have De:=EW n m;have sq:Sm 549755813888 (dg (val m/val d)):=hm.low (Nat.div_le_self _ _);have sr:Sm 549755813888 (dg (val m%val d)):=hd.low (Nat.le_of_lt (Nat.mod_lt _ (by omega)));have hT:=λ q=>jT N n q _ sq
 have hG:=λ q q'=>Kt N.toc7 d (dg (val m%val d)) q q' hd.1 sr.1 hd.2 sr.2
 rw[BS,show Nat.gcd (val d) (val m%val d)=Nat.gcd (val d) (zv n m).natAbs by rw[De,UD,Nat.gcd_comm]]at hG;have Fc:=lM (zv n m).natAbs h0;have yj:=Nat.gcd_le_left (zv n m).natAbs (show 0<val d by omega);have hz:=HY (val m%val d);obtain ⟨e1,e2,e3⟩:=bO (z:=zv n m) h0;unfold qv;generalize Xe:Nat.gcd (val d) (zv n m).natAbs=g at *;have h1:=λ q=>Kp N g q
 refine Ev.x N.LX rfl rfl ?_;by_cases oz:val m%val d=0
 ·(repeat' ((first|(apply AG<;>intro hc<;>try omega)|apply AR|apply AE|refine AC (yd _ _) ?_|refine AC (hT _) ?_)<;>conv=>whnf))
  refine FD 1000 N.HB rfl rfl ?_;(repeat' (apply AE<;>conv=>whnf))
  refine ⟨rfl,?_⟩;(conv=>whnf)
  (repeat' (refine IH rfl ?_<;>conv=>whnf))
  have kg:g=val d:=by
   rw[<-Xe,De];exact Nat.gcd_eq_left (Nat.dvd_of_mod_eq_zero oz)
  have hv:=BS (val m/val d);refine AU ?_ ?_
  ·show _=AV.agg (rQ _ _ _ _ _)
   rw[e1,e2,e3,De,kg,Nat.div_self (by omega),EW,hv,ZM];have hs:decide (zv n (dg (val m/val d))<0)=decide (zv n m<0):=by
    cases n
    ·rw[ER,ER];simp;omega
    ·rw[OC,OC,hv]
     congr 1;rw[eq_iff_iff];have h5:=Nat.div_add_mod (val m) (val d);rw[oz,Nat.add_zero]at h5;constructor
     ·intro h6
      have h7:val m/val d≠0:=by omega
      have:val m≠0:=λ h8=>h7 (by rw[h8,Nat.zero_div])
      omega
     ·intro h6
      have h7:val m/val d≠0:=λ h8=>by rw[h8,Nat.mul_zero]at h5;omega
      omega
   rw[hs];rfl
  ·exact EA _
 ·by_cases wy:g=1
  ·have Dx:=λ q=>jT N n q m hm
   have ye:=λ q=>TY N.toc7 d q hd.1 (by have:=hd.2;omega)
   (repeat' ((first|(apply AG<;>intro hc<;>try omega)|apply AR|apply AE|refine AC (yd _ _) ?_|refine AC (hG _ _) ?_|refine eB (h1 _) (λ hf => ?_) (λ hf => ?_)|refine AC (Dx _) ?_|refine AC (ye _) ?_)<;>conv=>whnf))
   ·refine AU ?_ (WC _ _ _)
    show _=AV.agg (rQ _ _ _ _ _);rw[e1,e2,e3,wy,Nat.div_one,Nat.div_one]
   ·exact absurd wy hf
  ·have sg:Sm 549755813888 (dg g):=hd.low yj
   have nw:=λ q q'=>Z5 N.toc7 m (dg g) q q' hm.1 sg.1 hm.2 sg.2 (by rw[BS];omega)
   have mq:=λ q q'=>Z5 N.toc7 d (dg g) q q' hd.1 sg.1 hd.2 sg.2 (by rw[BS];omega)
   rw[BS]at nw mq;(repeat' ((first|(apply AG<;>intro hc<;>try omega)|apply AR|apply AE|refine AC (yd _ _) ?_|refine AC (hG _ _) ?_|refine eB (h1 _) (λ hf => ?_) (λ hf => ?_)|refine AC (nw _ _) ?_|refine AC (mq _ _) ?_)<;>conv=>whnf))
   ·exact absurd hf wy
   ·refine AU ?_ (WC _ _ _)
    show _=AV.agg (rQ _ _ _ _ _);rw[e1,e2,e3,De];have hs:n=decide (zv n m<0):=by
     have:val m≠0:=λ h=>oz (by rw[h,Nat.zero_mod])
     cases n
     ·exact GE (by rw[ER];omega)
     ·exact M6 (by rw[OC];omega)
    rw[<-hs]
theorem SB (N:a6 L) (m:List Nat):Ev L 91 [.sl false (m.map AL)] (.agg [.bool false,.sl false (m.map AL)]):=by
 refine Ev.x N.LW rfl rfl ?_;(repeat' (apply AE<;>conv=>whnf))
 exact AU rfl (xB _ _)
def uL (n:Bool) (m d:List Nat) (n':Bool) (m' d':List Nat) (w:Bool) (k:Nat):Prop:=Sm k m'/\Sm k d'/\val d'≠0/\(w=true->val d'=1)/\qv n m d=mkRat (zv n' m') (val d')
theorem JV (N:a6 L) (n:Bool) (m d:List Nat) (k:Nat) (hk:1<=k/\k<=549755813888) (hm:Sm k m) (hd:Sm k d) : ∃ n' m' d' w,Ev L 89 [.agg (rQ false false n m d)] (.agg [.bool n',.sl false (m'.map AL),.sl false (d'.map AL),.bool w])/\uL n m d n' m' d' w k:=by
 have l6:=λ q q'=>OR N.toc7 d [] q q' hd.1 R7 (by have:=hd.2;omega) (by simp)
 rw[IE]at l6;by_cases h1:d=[1]
 ·subst h1
  refine ⟨n,m,[1],true,?_,hm,hd,by decide,λ_=>rfl,rfl⟩;refine Ev.x N.H5 rfl rfl ?_;have hd:[1][(0:Int).toNat]? = some 1:=rfl;have sw:([1]:List Nat).length=1:=rfl;(repeat' ((first|(apply AG<;>intro hc<;>try omega)|apply AR|(refine BL (by assumption) ?_ rfl ?_;omega)|apply AE)<;>conv=>whnf))
  exact AU rfl (TN _ _ _ _)
 have m8 : ∀ x,d[(0:Int).toNat]? = some x->(d.length:Int)=1->(x:Int)≠1:=λ x hx hl h=>by
  obtain ⟨y,rfl⟩:=List.length_eq_one_iff.1 (show d.length=1 by omega);simp at hx;apply h1;congr 1;omega
 by_cases h0:val d=0
 ·refine ⟨false,[],[1],true,?_,pZ _,dA hk.1 (by omega),by decide,λ_=>rfl,by unfold qv;rw[h0,Rat.mkRat_zero,rX,Rat.zero_mkRat]⟩
  have hn:DB (val d) (0:Nat)=0:=(QD (by omega)).symm;rw[hn]at l6;refine Ev.x N.H5 rfl rfl ?_;have hD:=hd.1;(repeat' ((first|(apply AG<;>intro hc<;>try omega)|apply AR|(refine O8 (by assumption) ?_ (λ e he hb => ?_);omega)|refine IH rfl ?_|apply AE|refine AC (l6 _ _) ?_)<;>conv=>whnf))
  all_goals first
   | exact AU rfl (TN _ _ _ _)
   | exact AU rfl (TN false true [] [1])
   | exact absurd (by assumption) (m8 _ he (by assumption))
 ·refine ⟨n,m,d,false,?_,hm,hd,h0,(λ h=>by cases h),rfl⟩
  have hn:DB (val d) (0:Nat)=1:=(NZ (by omega)).symm;rw[hn]at l6;have hD:=hd.1;refine Ev.x N.H5 rfl rfl ?_;(repeat' ((first|(apply AG<;>intro hc<;>try omega)|apply AR|(refine O8 (by assumption) ?_ (λ e he hb => ?_);omega)|apply AE|refine AC (l6 _ _) ?_)<;>conv=>whnf))
  all_goals first
   | exact AU rfl (TN _ _ _ _)
   | exact AU rfl (TN false true [] [1])
   | exact absurd (by assumption) (m8 _ he (by assumption))
theorem aD (N:a6 L) (n q1 q2:Bool) (m d:List Nat) (hm:Sm 549755813888 m) (hd:Sm 549755813888 d):Ev L 95 [.agg (rQ q1 q2 n m d)] (.agg (eQ (qv n m d))):=by
 obtain ⟨n',m',d',w,hr,s1,s2,s3,s4,s5⟩:=JV N n m d 549755813888 (by omega) hm hd;have hl:=λ q1 q2=>SA N n' q1 q2 m' d' s1 s2 s3
 rw[s5];unfold qv at hl;refine Ev.x N.LT rfl rfl ?_;(repeat' ((first|apply GK|apply AE|refine AC (hr) ?_|refine AC (hl _ _) ?_)<;>conv=>whnf))
 exact AU rfl (EA _)
theorem Np (N:a6 L) (n q1 q2:Bool) (m d:List Nat) (hm:Sm 549755813888 m) (hd:Sm 549755813888 d):Ev L 97 [.agg (rQ q1 q2 n m d)] (.int .i64 (u9 (qv n m d).num)):=by
 obtain ⟨n',m',d',w,hr,s1,s2,s3,s4,s5⟩:=JV N n m d 549755813888 (by omega) hm hd;have hl:=λ q=>TZ N n' q m' s1
 rw[s5,nV s3];refine Ev.x N.LR rfl rfl ?_;(repeat' ((first|apply GK|apply AE|refine AC (hr) ?_|refine AC (hl _) ?_)<;>conv=>whnf))
 exact C2 rfl
theorem Y2 (z:Int):AV.agg [.bool (decide (z<0)),.sl false ((dg z.natAbs).map AL),.sl false [[.int .u32 1]]] = .agg (eQ (z:Rat)):=by
 show _=AV.agg (rQ _ _ _ _ _);rw[Rat.num_intCast,Rat.den_intCast,ZM];rfl
theorem KA (N:a6 L) (z:Int) (hz : -9223372036854775808<=z/\z<=9223372036854775807):Ev L 96 [.int .i64 z] (.agg (eQ (z:Rat))):=by
 have h1:=Z4 N z hz;refine Ev.x N.LQ rfl rfl ?_;(repeat' ((first|apply AE|refine AC (h1) ?_)<;>conv=>whnf))
 refine FD 1000 N.HB rfl rfl ?_;(repeat' (apply AE<;>conv=>whnf))
 refine ⟨rfl,?_⟩;(conv=>whnf)
 (repeat' (refine IH rfl ?_<;>conv=>whnf))
 exact AU (Y2 z) (EA _)
theorem Q8 {k l:Nat} {n1 n2:Bool} {a b:List Nat} (ha:Sm k a) (hb:Sm l b):Sm (k+l) (dg (zv n1 a*zv n2 b).natAbs):=ha.mul hb (by rw[Int.natAbs_mul,EW,EW])
theorem qB {k:Nat} {x y:Int} (ha:Sm k (dg x.natAbs)) (hb:Sm k (dg y.natAbs)):Sm (k+1) (dg (x+y).natAbs):=ha.add hb (by rw[BS,BS];omega)
theorem kK (N:a6 L) (k:Nat) (hk:1<=k/\k<=68719476736) (n1 n2 q1 q2 q3 q4:Bool) (m1 d1 m2 d2:List Nat) (gf:Sm k m1) (je:Sm k d1) (fc:Sm k m2) (mv:Sm k d2) :
  Ev L 98 [.agg (rQ q1 q2 n1 m1 d1),.agg (rQ q3 q4 n2 m2 d2)] (.agg (eQ (qv n1 m1 d1+qv n2 m2 d2))):=by
 obtain ⟨a1,a2,a3,w1,cn,s1,s2,s3,s4,s5⟩:=JV N n1 m1 d1 k (by omega) gf je;obtain ⟨b1,b2,b3,w2,aq,t1,t2,t3,t4,t5⟩:=JV N n2 m2 d2 k (by omega) fc mv;rw[s5,t5];have hA:=λ q q'=>jR N a1 b1 q q' a2 b2 (s1.le (by omega)) (t1.le (by omega))
 have Gj:Sm (k+1) (dg (zv a1 a2+zv b1 b2).natAbs):=qB (by rw[EW];exact s1.rp) (by rw[EW];exact t1.rp);by_cases hw:w1=true/\w2=true
 ·obtain ⟨rfl,rfl⟩:=hw
  rw[s4 rfl,t4 rfl,nS (by omega),nU];generalize zv a1 a2+zv b1 b2=z at *;refine Ev.x N.H4 rfl rfl ?_;(repeat' ((first|apply GK|apply AE|refine AC (cn) ?_|refine AC (aq) ?_|refine AC (hA _ _) ?_)<;>conv=>whnf))
  refine FD 1000 N.HB rfl rfl ?_;(repeat' (apply AE<;>conv=>whnf))
  refine ⟨rfl,?_⟩;(conv=>whnf)
  (repeat' (refine IH rfl ?_<;>conv=>whnf))
  exact AU (Y2 z) (EA _)
 ·have l6:=λ q q'=>OR N.toc7 a3 b3 q q' s2.1 t2.1 (by have:=s2.2;omega) (by have:=t2.2;omega)
  by_cases Yp:val a3=val b3
  ·have hn:DB (val a3) (val b3)=0:=(QD (by omega)).symm
   rw[hn]at l6;rw[<-Yp,nS s3];generalize zv a1 a2+zv b1 b2=z at *;have hl:=λ q1 q2=>SA N (decide (z<0)) q1 q2 (dg z.natAbs) a3 (Gj.le (by omega)) (s2.le (by omega)) s3
   unfold qv at hl;rw[FB]at hl;refine Ev.x N.H4 rfl rfl ?_;cases w1<;>cases w2
   ·(repeat' ((first|(apply AG<;>intro hc<;>try omega)|apply GK|apply AE|refine AC (cn) ?_|refine AC (aq) ?_|refine AC (hA _ _) ?_|refine AC (l6 _ _) ?_|refine AC (hl _ _) ?_)<;>conv=>whnf))
    exact AU rfl (EA _)
   ·(repeat' ((first|(apply AG<;>intro hc<;>try omega)|apply GK|apply AE|refine AC (cn) ?_|refine AC (aq) ?_|refine AC (hA _ _) ?_|refine AC (l6 _ _) ?_|refine AC (hl _ _) ?_)<;>conv=>whnf))
    exact AU rfl (EA _)
   ·(repeat' ((first|(apply AG<;>intro hc<;>try omega)|apply GK|apply AE|refine AC (cn) ?_|refine AC (aq) ?_|refine AC (hA _ _) ?_|refine AC (l6 _ _) ?_|refine AC (hl _ _) ?_)<;>conv=>whnf))
    exact AU rfl (EA _)
   ·exact absurd ⟨rfl,rfl⟩ hw
  ·have hn:DB (val a3) (val b3)≠0:=by unfold DB;split<;>(try split)<;>omega
   generalize DB (val a3) (val b3)=cm at *;have ff:=λ q q'=>QN N a1 false q q' a2 b3 s1.1 t2.1 (by have:=s1.2;have:=t2.2;omega)
   have ja:=λ q q'=>QN N b1 false q q' b2 a3 t1.1 s2.1 (by have:=t1.2;have:=s2.2;omega)
   have mr:=λ q q'=>Z6 N.toc7 a3 b3 q q' s2.1 t2.1 (by have:=s2.2;have:=t2.2;omega)
   have ta:=SB N a3;have qj:=SB N b3;have g1:Sm (k+k) (dg (zv a1 a2*zv false b3).natAbs):=Q8 s1 t2;have g2:Sm (k+k) (dg (zv b1 b2*zv false a3).natAbs):=Q8 t1 s2;have g3:=qB g1 g2;have g4:Sm (k+k) (dg (val a3*val b3)):=s2.mul t2 rfl;rw[XC s3 t3,<-ER b3,<-ER a3];have wm:val a3*val b3≠0:=Nat.mul_ne_zero s3 t3;generalize zv a1 a2*zv false b3=x at *;generalize zv b1 b2*zv false a3=y at *;generalize val a3*val b3=D at *;have xy:=λ q q'=>jR N (decide (x<0)) (decide (y<0)) q q' (dg x.natAbs) (dg y.natAbs) (g1.le (by omega)) (g2.le (by omega))
   rw[FB,FB]at xy;generalize x+y=z at *;have hl:=λ q1 q2=>SA N (decide (z<0)) q1 q2 (dg z.natAbs) (dg D) (g3.le (by omega)) (g4.le (by omega)) (by rw[BS];exact wm)
   unfold qv at hl;rw[FB,BS]at hl;refine Ev.x N.H4 rfl rfl ?_;cases w1<;>cases w2
   ·(repeat' ((first|(apply AG<;>intro hc<;>try omega)|apply GK|apply PZ|apply AE|refine AC (cn) ?_|refine AC (aq) ?_|refine AC (l6 _ _) ?_|refine AC (ta) ?_|refine AC (qj) ?_|refine AC (ff _ _) ?_|refine AC (ja _ _) ?_|refine AC (xy _ _) ?_|refine AC (mr _ _) ?_|refine AC (hl _ _) ?_)<;>conv=>whnf))
    exact AU rfl (EA _)
   ·(repeat' ((first|(apply AG<;>intro hc<;>try omega)|apply GK|apply PZ|apply AE|refine AC (cn) ?_|refine AC (aq) ?_|refine AC (l6 _ _) ?_|refine AC (ta) ?_|refine AC (qj) ?_|refine AC (ff _ _) ?_|refine AC (ja _ _) ?_|refine AC (xy _ _) ?_|refine AC (mr _ _) ?_|refine AC (hl _ _) ?_)<;>conv=>whnf))
    exact AU rfl (EA _)
   ·(repeat' ((first|(apply AG<;>intro hc<;>try omega)|apply GK|apply PZ|apply AE|refine AC (cn) ?_|refine AC (aq) ?_|refine AC (l6 _ _) ?_|refine AC (ta) ?_|refine AC (qj) ?_|refine AC (ff _ _) ?_|refine AC (ja _ _) ?_|refine AC (xy _ _) ?_|refine AC (mr _ _) ?_|refine AC (hl _ _) ?_)<;>conv=>whnf))
    exact AU rfl (EA _)
   ·exact absurd ⟨rfl,rfl⟩ hw
theorem Nn (N:a6 L) (k:Nat) (hk:1<=k/\k<=68719476736) (n1 n2 q1 q2 q3 q4:Bool) (m1 d1 m2 d2:List Nat) (gf:Sm k m1) (je:Sm k d1) (fc:Sm k m2) (mv:Sm k d2) :
  Ev L 99 [.agg (rQ q1 q2 n1 m1 d1),.agg (rQ q3 q4 n2 m2 d2)] (.agg (eQ (qv n1 m1 d1*qv n2 m2 d2))):=by
 obtain ⟨a1,a2,a3,w1,cn,s1,s2,s3,s4,s5⟩:=JV N n1 m1 d1 k (by omega) gf je;obtain ⟨b1,b2,b3,w2,aq,t1,t2,t3,t4,t5⟩:=JV N n2 m2 d2 k (by omega) fc mv;rw[s5,t5,bN];have ff:=λ q q'=>QN N a1 b1 q q' a2 b2 s1.1 t1.1 (by have:=s1.2;have:=t1.2;omega)
 have mr:=λ q q'=>Z6 N.toc7 a3 b3 q q' s2.1 t2.1 (by have:=s2.2;have:=t2.2;omega)
 have g1:Sm (k+k) (dg (zv a1 a2*zv b1 b2).natAbs):=Q8 s1 t1;have g4:Sm (k+k) (dg (val a3*val b3)):=s2.mul t2 rfl;have wm:val a3*val b3≠0:=Nat.mul_ne_zero s3 t3;generalize zv a1 a2*zv b1 b2=z at *;by_cases hw:w1=true/\w2=true
 ·obtain ⟨rfl,rfl⟩:=hw
  rw[s4 rfl,t4 rfl,Nat.one_mul,nU];refine Ev.x N.JA rfl rfl ?_;(repeat' ((first|apply GK|apply AE|refine AC (cn) ?_|refine AC (aq) ?_|refine AC (ff _ _) ?_)<;>conv=>whnf))
  refine FD 1000 N.HB rfl rfl ?_;(repeat' (apply AE<;>conv=>whnf))
  refine ⟨rfl,?_⟩;(conv=>whnf)
  (repeat' (refine IH rfl ?_<;>conv=>whnf))
  exact AU (Y2 z) (EA _)
 ·generalize val a3*val b3=D at *
  have hl:=λ q1 q2=>SA N (decide (z<0)) q1 q2 (dg z.natAbs) (dg D) (g1.le (by omega)) (g4.le (by omega)) (by rw[BS];exact wm)
  unfold qv at hl;rw[FB,BS]at hl;refine Ev.x N.JA rfl rfl ?_;cases w1<;>cases w2
  ·(repeat' ((first|apply GK|apply AE|refine AC (cn) ?_|refine AC (aq) ?_|refine AC (ff _ _) ?_|refine AC (mr _ _) ?_|refine AC (hl _ _) ?_)<;>conv=>whnf))
   exact AU rfl (EA _)
  ·(repeat' ((first|apply GK|apply AE|refine AC (cn) ?_|refine AC (aq) ?_|refine AC (ff _ _) ?_|refine AC (mr _ _) ?_|refine AC (hl _ _) ?_)<;>conv=>whnf))
   exact AU rfl (EA _)
  ·(repeat' ((first|apply GK|apply AE|refine AC (cn) ?_|refine AC (aq) ?_|refine AC (ff _ _) ?_|refine AC (mr _ _) ?_|refine AC (hl _ _) ?_)<;>conv=>whnf))
   exact AU rfl (EA _)
  ·exact absurd ⟨rfl,rfl⟩ hw
theorem xC (x:Rat) (e:Int):A6 (.j4 [.agg (eQ x),.int .i64 e]):=by
 simp only[A6,C6,and_true,true_and];exact ⟨CQ _,CQ _⟩
theorem Nl (N:a6 L) (k:Nat) (hk:1<=k/\k<=68719476736) (n1 n2 q1 q2 q3 q4:Bool) (m1 d1 m2 d2:List Nat) (gf:Sm k m1) (je:Sm k d1) (fc:Sm k m2) (mv:Sm k d2) (h0:qv n2 m2 d2≠0) :
  Ev L 100 [.agg (rQ q1 q2 n1 m1 d1),.agg (rQ q3 q4 n2 m2 d2)] (.j4 [.agg (eQ (qv n1 m1 d1/qv n2 m2 d2)),.int .i64 0]):=by
 obtain ⟨a1,a2,a3,w1,cn,s1,s2,s3,s4,s5⟩:=JV N n1 m1 d1 k (by omega) gf je;obtain ⟨b1,b2,b3,w2,aq,t1,t2,t3,t4,t5⟩:=JV N n2 m2 d2 k (by omega) fc mv;rw[t5]at h0;rw[s5,t5];have ov:zv b1 b2≠0:=λ h=>h0 ((XD t3).2 h)
 rw[Pz s3 t3 ov];have hS:=λ q=>TZ N b1 q b2 (t1.le (by omega))
 have Cv:u9 (zv b1 b2)≠0:=by unfold u9;split<;>(try split)<;>omega
 have ff:=λ q q'=>QN N a1 false q q' a2 b3 s1.1 t2.1 (by have:=s1.2;have:=t2.2;omega)
 have ja:=λ q q'=>QN N false b1 q q' a3 b2 s2.1 t1.1 (by have:=t1.2;have:=s2.2;omega)
 have ta:=SB N a3;have qj:=SB N b3;have g1:Sm (k+k) (dg (zv a1 a2*zv false b3).natAbs):=Q8 s1 t2;have g2:Sm (k+k) (dg (zv false a3*zv b1 b2).natAbs):=Q8 s2 t1;have hd:(zv false a3*zv b1 b2).natAbs=val a3*(zv b1 b2).natAbs:=by rw[Int.natAbs_mul,EW]
 have wo:(zv false a3*zv b1 b2).sign=(zv b1 b2).sign:=by
  rw[Int.sign_mul,ER,Int.sign_eq_one_of_pos (by omega),Int.one_mul]
 have kp:zv false a3*zv b1 b2≠0:=by
  intro h;rw[h]at wo;exact ov (by simpa using wo.symm)
 rw[<-hd,<-wo,<-ER b3];generalize zv a1 a2*zv false b3=x at *;generalize zv false a3*zv b1 b2=y at *;generalize u9 (zv b1 b2)=sg at *;have hl:=λ q1 q2=>SA N (decide (x<0) != decide (y<0)) q1 q2 (dg x.natAbs) (dg y.natAbs) (g1.le (by omega)) (g2.le (by omega)) (by rw[BS];omega)
 unfold qv at hl;rw[rY kp,BS]at hl;refine Ev.x N.I9 rfl rfl ?_;(repeat' ((first|(apply AG<;>intro hc<;>try omega)|apply GK|apply PZ|apply AE|refine AC (cn) ?_|refine AC (aq) ?_|refine AC (hS _) ?_|refine AC (ta) ?_|refine AC (qj) ?_|refine AC (ff _ _) ?_|refine AC (ja _ _) ?_)<;>conv=>whnf))
 refine FD 1000 N.JB rfl rfl ?_;(repeat' (apply AE<;>conv=>whnf))
 generalize decide (x<0)=p at *;generalize decide (y<0)=r at *;cases p<;>cases r;all_goals
  (conv=>whnf)
  refine ⟨rfl,?_⟩;(conv=>whnf)
  (repeat' (refine AC (hl _ _) ?_<;>conv=>whnf))
  exact AU rfl (xC _ _)
theorem Nm (N:a6 L) (k:Nat) (hk:1<=k/\k<=68719476736) (n1 n2 q1 q2 q3 q4:Bool) (m1 d1 m2 d2:List Nat) (gf:Sm k m1) (je:Sm k d1) (fc:Sm k m2) (mv:Sm k d2) (h0:qv n2 m2 d2=0) :
  Ev L 100 [.agg (rQ q1 q2 n1 m1 d1),.agg (rQ q3 q4 n2 m2 d2)] (.j4 [.agg (rQ false false false [] []),.int .i64 3]):=by
 obtain ⟨a1,a2,a3,w1,cn,s1,s2,s3,s4,s5⟩:=JV N n1 m1 d1 k (by omega) gf je;obtain ⟨b1,b2,b3,w2,aq,t1,t2,t3,t4,t5⟩:=JV N n2 m2 d2 k (by omega) fc mv;rw[t5,XD t3]at h0;have hS:=λ q=>TZ N b1 q b2 (t1.le (by omega))
 rw[h0,<-U7 rfl]at hS;refine Ev.x N.I9 rfl rfl ?_;(repeat' ((first|(apply AG<;>intro hc<;>try omega)|apply GK|apply AE|refine AC (cn) ?_|refine AC (aq) ?_|refine AC (hS _) ?_)<;>conv=>whnf))
 refine AU rfl ?_;simp only[A6,C6,and_true,true_and];exact ⟨CQ [],CQ []⟩
end Go.e9

namespace Go.e9
open F
attribute [local irreducible] AA AF AQ AD DW AW A9 BD CO AX BI FZ CE A4 CD C7 AB BA AJ pw D6 C3 E7 EH FE BP C4 B9 CF
set_option maxHeartbeats 1000000
variable {L:Lib}
def HR (n:Int):Prop := -9223372036854775808<=n/\n<=9223372036854775807
structure Wd where
 b:Int
 f:Int
 r:Int
 o:Int
def WV (w:Wd):Prop:=4<=w.b/\w.b<=24/\0<=w.f/\w.f<w.b/\1<=w.r/\w.r<=3/\1<=w.o/\w.o<=2
instance (w : Wd) : Decidable (WV w) := by unfold WV; infer_instance
variable (w:Wd)
def Qy:Int:=if WV w then -pw (w.b-1) else 0
def Ri:Int:=if WV w then pw (w.b-1)-1 else 0
def FT (v:Int):Prop:=WV w/\Qy w<=v/\v<=Ri w
instance (v : Int) : Decidable (FT w v) := by unfold FT; infer_instance
end Go.e9

namespace Go.e9
open F
attribute [local irreducible] AA AF AQ AD DW AW A9 BD CO AX BI FZ CE A4 CD C7 AB BA AJ pw D6 C3 E7 EH FE BP C4 B9 CF
set_option maxHeartbeats 1000000
variable {L:Lib}
structure Nd where
 q:Bool
 ts:List (Int × Int)
structure Nt where
 d:Wd
 c:Wd
 s:Int
 qn:Bool
 nodes:List Nd
 qx:Bool
 next:List Int
 out:Int
variable (n:Nt)
end Go.e9

namespace Go.e9
open F
attribute [local irreducible] AA AF AQ AD DW AW A9 BD CO AX BI FZ CE A4 CD C7 AB BA AJ pw D6 C3 E7 EH FE BP C4 B9 CF
variable {L:Lib}
set_option maxHeartbeats 4000000
def GG (v m:Int):Int:=if m<1 then 0 else v%m
theorem aF (W:s9 L) (v m:Int) (hv:HR v) (hm:m<=9223372036854775807):Ev L 34 [.int .i64 v,.int .i64 m] (.int .i64 (GG v m)):=by
 unfold HR at hv;refine Ev.x W.NL rfl rfl ?_;(repeat' ((first|(apply AG<;>intro hc<;>try omega)|(apply AZ;omega)|(refine RR ?_ (λ_ _ _ => ?_) (λ_ _ _ _ => ?_);omega;all_goals try omega)|apply AE)<;>conv=>whnf))
 all_goals (refine C2 ?_;unfold GG;first|rw[if_pos (by omega)]|rw[if_neg (by omega)])
 all_goals omega
def HJ (l:List Int) (i:Int):Int:=if 0<=i/\i<l.length then l.getD i.toNat 0 else 0
theorem kR (W:s9 L) (l:List Int) (q:Bool) (i:Int):Ev L 35 [.sl q (l.map QK),.int .i64 i] (.int .i64 (HJ l i)):=by
 refine Ev.x W.NI rfl rfl ?_;(repeat' ((first|(apply AG<;>intro hc<;>try omega)|apply AR|(refine YY ?_ (λ_=>rfl) (λ e he => ?_);omega)|apply AE)<;>conv=>whnf))
 all_goals (refine C2 ?_;unfold HJ;first|rw[if_neg (by omega)]|(rw[if_pos (by omega),List.getD_eq_getElem?_getD,he];rfl))
theorem rR {v m:Int} (h:1<=m):0<=GG v m/\GG v m<m:=by
 unfold GG;rw[if_neg (by omega)];exact ⟨Int.emod_nonneg _ (by omega),Int.emod_lt_of_pos _ (by omega)⟩
theorem WU (N:o6 L) (S:B3) (n k:Nat) (h:S.Ok n k) (hn:n<=64):Ev L 136 [.agg (eS S)] (.bool true):=by
 have h1:=h.la;have h2:=h.lb;have h3:=h.lc;refine Ev.x N.MW rfl rfl ?_;(repeat' ((first|(apply AG<;>intro hc<;>try omega)|apply AR|apply AE)<;>conv=>whnf))
 refine ED (λ i=>S.a.length-i) (λ(i:Nat)=>i<=S.a.length) (λ i=>[(4,.int .i64 i)]) (λ_=>[]) 0 (by omega) ?_;intro i p1 ih;by_cases hi:i<S.a.length
 ·obtain ⟨r,hr⟩ : ∃ r,S.a[i]? = some r:=⟨_,zE hi⟩
  have yu:S.a[(i:Int).toNat]? = some r:=hr;have cg:=h.lr r (zM hr);(repeat' ((first|(apply AG<;>intro hc<;>try omega)|(apply AZ;omega)|apply AR|(refine BL (by assumption) ?_ rfl ?_;omega)|apply AE)<;>conv=>whnf))
  exact B0 [] (ih (i+1) (by omega) (by omega))
 ·obtain rfl:i=S.a.length:=by omega
  clear ih;(repeat' ((first|(apply AG<;>intro hc<;>try omega)|apply AE)<;>conv=>whnf))
  exact HQ rfl
def SR (v:Int):Rat:=Rat.divInt (v%25-12) (1+v/25%8)
def HC (l:List Int) (n:Nat):List Rat:=(List.range n).map λ i:Nat=>SR (GG (HJ l (i:Int)) 2000)
theorem XX (l:List Int) (n:Nat):(HC l n).length=n:=by simp [HC]
theorem Sz (l:List Int) (n:Nat):HC l (n+1)=HC l n++[SR (GG (HJ l (n:Int)) 2000)]:=by simp [HC,List.range_succ]
theorem Sx {v:Int} (h:0<=v):Bt 4 (SR v):=by
 unfold SR;obtain ⟨d,hd⟩:=Int.eq_ofNat_of_zero_le (show 0<=1+v/25%8 by omega);rw[hd,Rat.divInt_ofNat];refine Bt.mk ?_ ?_
 ·show _<=16;omega
 ·show _<=16;omega
theorem Sy (l:List Int) (n:Nat):Bs 4 (HC l n):=by
 intro x hx;simp only[HC,List.mem_map]at hx;obtain ⟨i,_,rfl⟩:=hx;refine Sx ?_;unfold GG;split<;>omega
theorem Ln (N:au L) (l:List Int) (q:Bool) (n:Nat) (hl : ∀ x∈l,HR x) (hn:n<=1000000):Ev L 141 [.sl q (l.map QK),.int .i64 (n:Int)] (.sl false ((HC l n).map eQ)):=by
 have ri : ∀ i:Nat,HR (HJ l (i:Int)):=λ i=>by
  unfold HJ;split
  ·rw[List.getD_eq_getElem?_getD]
   cases e:l[((i:Int)).toNat]? with
   | none=>simp [HR]
   | some x=>exact hl x (zM e)
  ·simp [HR]
 refine Ev.x N.NJ rfl rfl ?_;(repeat' (apply AE<;>conv=>whnf))
 refine ED (λ i=>n-i) (λ(i:Nat)=>i<=n) (λ i=>[(6,.int .i64 i),(5,.row 5 0 3 0 i)]) (λ i=>[(5,5,.rw 3 ((HC l i).map eQ))]) 0 (by omega) ?_;intro i p1 ih;by_cases hi:i<n
 ·have hA:=kR N.tos9 l q (i:Int)
  have Ds:=λ q=>kR N.tos9 l q (i:Int)
  have hW:=aF N.tos9 (HJ l (i:Int)) 2000 (ri i) (by omega);have hw0:0<=GG (HJ l (i:Int)) 2000/\GG (HJ l (i:Int)) 2000<2000:=by unfold GG;split<;>omega
  have kn:=Sz l i;have hlen:=XX l i;have hF:=kH N.tob8 (GG (HJ l (i:Int)) 2000%25-12) (1+GG (HJ l (i:Int)) 2000/25%8) (by omega) (by omega);have Xb:Ev L 125 [.int .i64 (GG (HJ l (i:Int)) 2000%25-12),.int .i64 (1+GG (HJ l (i:Int)) 2000/25%8)] (.agg (eQ (SR (GG (HJ l (i:Int)) 2000)))):=hF;clear hF;generalize SR (GG (HJ l (i:Int)) 2000)=y at *;generalize GG (HJ l (i:Int)) 2000=v at *;(repeat' ((first|(apply AG<;>intro hc<;>try omega)|(apply AZ;omega)|(apply BX;omega)|(refine RR ?_ (λ_ _ _ => ?_) (λ_ _ _ _ => ?_);omega;all_goals try omega)|(refine P4 ?_ ?_ (λ_ => ?_) (λ_ _ => ?_);omega;omega;all_goals try omega)|apply EN|apply AE|refine AC (Ds _) ?_|refine AC (hW) ?_|refine AC (Xb) ?_)<;>conv=>whnf))
  refine GI (enc:=eQ) y rfl hlen.symm rfl (by omega) (by omega) ?_;(conv=>whnf)
  (repeat' ((first|(apply AZ;omega)|fail)<;>conv=>whnf))
  rw[show (HC l i++[y]).length=i+1 by simp [hlen],<-kn];exact B0 [(5,27)] (ih (i+1) (by omega) (by omega))
 ·obtain rfl:i=n:=by omega
  clear ih;have hlen:=XX l i;(repeat' ((first|(apply AG<;>intro hc<;>try omega)|apply AE)<;>conv=>whnf))
  refine D4 (enc:=eQ) (λ_=>rfl) rfl hlen.symm ?_;(conv=>whnf)
  exact AU rfl (by simp only[A6,true_and];exact EY _)
def PR (X:List Rat) (n j:Nat):List Rat:=(X.take (j*n+n)).drop (j*n)
def JE (X:List Rat) (n i:Nat):List (List Rat):=(List.range i).map (PR X n)
theorem Tg (X:List Rat) (n i:Nat):JE X n (i+1)=JE X n i++[PR X n i]:=by simp [JE,List.range_succ]
def PU (l:List Int) (n:Nat):B3 :=
 let X:=HC l (n*n+2*n+1)
 ⟨JE X n n,(X.take (n*n+n)).drop (n*n),(X.take (n*n+2*n)).drop (n*n+n),X.getD (n*n+2*n) 0⟩
theorem jN (N:au L) (l:List Int) (q:Bool) (n:Nat) (hl : ∀ x∈l,HR x) (hn:n<=64):Ev L 142 [.sl q (l.map QK),.int .i64 (n:Int)] (.agg (eS (PU l n))):=by
 have hnn:n*n<=4096:=Nat.mul_le_mul hn hn;have hR:=λ q=>Ln N l q (n*n+2*n+1) hl (by omega)
 have vy:=XX l (n*n+2*n+1);have yh:((n*n+2*n+1:Nat):Int)=(n:Int)*n+2*n+1:=by simp
 rw[yh]at hR;have e1:((n:Int)*n).toNat=n*n:=by rw[<-Int.natCast_mul];rfl
 have e2:((n:Int)*n+n).toNat=n*n+n:=by rw[<-Int.natCast_mul];omega
 have e3:((n:Int)*n+2*n).toNat=n*n+2*n:=by rw[<-Int.natCast_mul];omega
 unfold PU;simp only[];generalize HC l (n*n+2*n+1)=X at *;obtain ⟨d,su⟩ : ∃ d,X[n*n+2*n]? = some d:=⟨_,zE (by omega)⟩;have je:X[((n:Int)*n+2*n).toNat]? = some d:=by rw[e3];exact su
 have Yo:X.getD (n*n+2*n) 0=d:=by rw[List.getD_eq_getElem?_getD,su];rfl
 rw[Yo];refine Ev.x N.NK rfl rfl ?_;(repeat' ((first|(apply AZ;omega)|(apply NN;omega)|(refine BL (by assumption) ?_ rfl ?_;omega)|(refine TE (λ_=>rfl) (VP ?_ ?_);omega)|apply AE|refine AC (hR _) ?_)<;>conv=>whnf))
 rw[e1,e2,e3];generalize (X.take (n*n+n)).drop (n*n)=B at *;generalize (X.take (n*n+2*n)).drop (n*n+n)=C at *;refine J2 (λ i _=>n-i) (λ(i:Nat) (fl:Bool)=>i<=n/\fl=decide (i=0)) (λ i _=>[(7,.int .i64 i)]) (λ i fl=>bif fl then [] else [(6,6,.bx ([.row 1000 0 1 0 i,.sl false (B.map eQ),.sl false (C.map eQ)]++eQ d)),(1000,68,.rw 1 ((JE X n i).map λ r=>[AV.sl false (r.map eQ)]))]) 0 true ⟨by omega,by simp⟩ ?_;intro i fl ⟨p1,p2⟩ ih;have cg:(JE X n i).length=i:=by simp [JE]
 by_cases hi:i<n
 ·have h1:i*n+n<=n*n:=by
   have:=zR n (show i+1<=n by omega)
   rw[Nat.succ_mul]at this;exact this
  have f1:((i:Int)*n).toNat=i*n:=by rw[<-Int.natCast_mul];rfl
  have f2:((i:Int)*n+n).toNat=i*n+n:=by rw[<-Int.natCast_mul];omega
  have f3:0<=(i:Int)*n:=by rw[<-Int.natCast_mul];omega
  have f4:(i:Int)*n+n<=X.length:=by rw[<-Int.natCast_mul];omega
  have f5:PR X n i=(X.take (i*n+n)).drop (i*n):=rfl;have kn:=Tg X n i;cases fl
  ·have lj:i≠0:=by simpa using p2.symm
   (repeat' ((first|(apply AG<;>intro hc<;>try omega)|(apply AZ;omega)|(apply NN;omega)|(refine TE (λ_=>rfl) (VP ?_ ?_);omega)|apply EN|apply AE)<;>conv=>whnf))
   rw[f1,f2,<-f5];refine GI (l:=JE X n i) (z:=1) (bytes:=24) (enc:=λ r:List Rat=>[AV.sl false (r.map eQ)]) (PR X n i) rfl cg.symm rfl (by omega) (by omega) ?_;(conv=>whnf)
   (repeat' ((first|(apply AZ;omega)|fail)<;>conv=>whnf))
   rw[<-kn,show (JE X n (i+1)).length=i+1 by simp [JE]];exact B0 [(1000,68)] (ih (i+1) false (by omega) ⟨by omega,by simp⟩)
  ·have lj:i=0:=by simpa using p2.symm
   subst lj;(repeat' ((first|(apply AG<;>intro hc<;>try omega)|(apply AZ;omega)|(apply NN;omega)|(refine TE (λ_=>rfl) (VP ?_ ?_);omega)|apply EN|apply AE)<;>conv=>whnf))
   rw[f1,f2,<-f5];refine eA (enc:=λ r=>[AV.sl false (r.map eQ)]) (PR X n 0) rfl rfl (by omega) ?_;(conv=>whnf)
   (repeat' ((first|(apply AZ;omega)|fail)<;>conv=>whnf))
   exact B0 [(1000,68)] (ih 1 false (by omega) ⟨by omega,by simp⟩)
 ·obtain rfl:i=n:=by omega
  clear ih;cases fl
  ·(repeat' ((first|(apply AG<;>intro hc<;>try omega)|apply AE)<;>conv=>whnf))
   refine D4 (enc:=λ r=>[AV.sl false (r.map eQ)]) (λ_=>rfl) rfl cg.symm ?_;(conv=>whnf)
   skip
   exact AU rfl (ZC _)
  ·have lj:i=0:=by simpa using p2.symm
   subst lj;(repeat' ((first|(apply AG<;>intro hc<;>try omega)|apply AE)<;>conv=>whnf))
   exact AU rfl (ZC ⟨[],B,C,d⟩)
end Go.e9

namespace Go.e9
variable {L:Lib}
def nK:List Nat->Mem->Mem
 | [],M=>M
 | j::r,M=>nK r (o5 j M)
theorem sF {kk:List It} {tm:Tm} {M:Mem} {Q:Tm->Mem->Prop} (j:Nat) (h:AA L kk tm (o5 j M) Q):AA L kk tm M Q:=by
 intro σ st hr;exact h σ st ⟨hr.tm,⟨λ k s c e=>hr.sat.site k s c (KS e).2,λ k t c e=>hr.sat.e6 k t c (HM e).2,λ k t c e=>hr.sat.old k t c (HM e).2,λ k t k' t' c c' e e'=>hr.sat.inj k t k' t' c c' (HM e).2 (HM e').2,λ k t c e hw=>hr.sat.low k t c (HM e).2 hw⟩⟩
theorem dV {kk:List It} {tm:Tm} {Q:Tm->Mem->Prop} : ∀ (ks:List Nat) {M:Mem},AA L kk tm (nK ks M) Q->AA L kk tm M Q
 | [],_,h=>h
 | j::r,_,h=>sF j (dV r h)
theorem uP {fn:AFn} {z:Nat} {es:List (List AV)} {tm:Tm} {M:Mem} (hz : ∀ e∈es,E5 e=true) (h:P5 fn z es tm M):NQ fn (.sl false es) tm M:=by
 unfold P5 at h;split at h
 ·rename_i t jk
  split at h
  ·rename_i k z' n Cx
   split at h
   ·rename_i s az es' hM
    obtain ⟨rfl,rfl,rfl,rfl,j6⟩:=h;have hs:A4 es' 0 es'.length λ es=>AJ (.sl false es) (.sl false es'):=RS (by omega) hz (by rw[List.drop_zero,List.take_length];exact AU rfl (by simp only[A6];exact ⟨trivial,j6⟩))
    unfold NQ;rw[jk];show Q3 tm M (.tmp t) (λ v=>N9 false M [] v λ v=>AJ v (.sl false es'));simp only[Q3,Cx];show RA false M [] (.row k 0 az 0 es'.length) λ v=>AJ v (.sl false es')
    unfold RA;simp only[hM];show O0 false M [] (.row k 0 az 0 es'.length) λ v=>AJ v (.sl false es')
    unfold O0;simp only[hM];rw[show Nat.beq az az=true from Nat.beq_refl az];exact hs
   ·exact h.elim
  ·exact h.elim
 ·exact h.elim
theorem FR.x2 {α:Type} {enc:α->List AV} {l:List α} {f:Nat} {fn:AFn} {vs:List AV} {z:Nat} (hL:L f=some fn) (hp:Nat.beq vs.length fn.af=true) (hd:IY vs=true) (hz : ∀ x,E5 (enc x)=true) (h:AA L [.code fn.body] (CR 0 vs) [] (P5 fn z (l.map enc))) (hs:fn.mj=false:=by rfl):FR L f vs z (l.map enc)/\Ev L f vs (.sl false (l.map enc)) :=
 ⟨FR.x hL hp hd h,Ev.x hL hp hd (sI h λ_ _=>uP λ e he=>by obtain ⟨x,_,rfl⟩:=List.mem_map.1 he;exact hz x) hs⟩
end Go.e9

namespace Go.e9
open F
variable {L:Lib}
theorem Bt.sm {k:Nat} {x:Rat} (h:Bt k x) (hk:k<2199023255552):Sm 68719476736 (dg x.num.natAbs)/\Sm 68719476736 (dg x.den):=h.Hr (by omega)
theorem QM (N:a6 L) {x y:Rat} {k l:Nat} (hx:Bt k x) (hy:Bt l y) (hk:k<2199023255552) (hl:l<2199023255552):Ev L 98 [.agg (eQ x),.agg (eQ y)] (.agg (eQ (x+y))):=by
 have:=kK N 68719476736 (by omega) (decide (x.num<0)) (decide (y.num<0)) false false false false _ _ _ _ (hx.sm hk).1 (hx.sm hk).2 (hy.sm hl).1 (hy.sm hl).2
 rw[FA,FA]at this;exact this
theorem OQ (N:a6 L) {x y:Rat} {k l:Nat} (hx:Bt k x) (hy:Bt l y) (hk:k<2199023255552) (hl:l<2199023255552):Ev L 99 [.agg (eQ x),.agg (eQ y)] (.agg (eQ (x*y))):=by
 have:=Nn N 68719476736 (by omega) (decide (x.num<0)) (decide (y.num<0)) false false false false _ _ _ _ (hx.sm hk).1 (hx.sm hk).2 (hy.sm hl).1 (hy.sm hl).2
 rw[FA,FA]at this;exact this
theorem Z3 (N:a6 L) {x y:Rat} {k l:Nat} (hx:Bt k x) (hy:Bt l y) (hk:k<2199023255552) (hl:l<2199023255552) (h0:y≠0):Ev L 100 [.agg (eQ x),.agg (eQ y)] (.j4 [.agg (eQ (x/y)),.int .i64 0]):=by
 have:=Nl N 68719476736 (by omega) (decide (x.num<0)) (decide (y.num<0)) false false false false _ _ _ _ (hx.sm hk).1 (hx.sm hk).2 (hy.sm hl).1 (hy.sm hl).2 (by rw[FA];exact h0)
 rw[FA,FA]at this;exact this
theorem T5 (N:a6 L) {x:Rat} {k:Nat} (hx:Bt k x) (hk:k<2199023255552):Ev L 95 [.agg (eQ x)] (.agg (eQ x)):=by
 have:=aD N (decide (x.num<0)) false false _ _ ((hx.sm hk).1.le (by omega)) ((hx.sm hk).2.le (by omega))
 rw[FA]at this;exact this
theorem HZ (N:a6 L) {x:Rat} {k:Nat} (hx:Bt k x) (hk:k<2199023255552):Ev L 97 [.agg (eQ x)] (.int .i64 (u9 x.num)):=by
 have:=Np N (decide (x.num<0)) false false _ _ ((hx.sm hk).1.le (by omega)) ((hx.sm hk).2.le (by omega))
 rw[FA]at this;exact this
theorem ID {x:Rat}:u9 x.num=0↔x=0:=by
 rw[<-Rat.num_eq_zero];unfold u9;split
 ·omega
 ·split<;>omega
end Go.e9

namespace Go.e9
open F
attribute [local irreducible] AA AF AQ AD DW AW A9 BD CO AX BI FZ CE A4 CD C7 AB BA AJ pw D6 C3 E7 EH FE BP C4 B9 CF
variable {L:Lib}
set_option maxHeartbeats 8000000
theorem pG (n:Bool) (m d:List Nat):qv (!n) m d = -(qv n m d):=by
 unfold qv;have h:zv (!n) m = -(zv n m):=by cases n<;>simp [zv]
 rw[h,Rat.neg_mkRat]
theorem xG (n:Bool) (m d:List Nat):A6 (.agg (rQ false false n m d)):=by
 simp only[A6,C6,and_true,true_and];exact ⟨CQ _,CQ _⟩
theorem jQ (N:w6 L) (n:Bool) (m d:List Nat):Ev L 149 [.agg (rQ false false n m d)] (.agg (rQ false false (!n) m d)):=by
 refine Ev.x N.LU rfl rfl ?_;cases n;all_goals
  (repeat' (apply AE<;>conv=>whnf))
  exact AU rfl (xG _ _ _)
theorem Nr (N:w6 L) {x y:Rat} {k l:Nat} (hx:Bt k x) (hy:Bt l y) (hk:k<2199023255552) (hl:l<2199023255552):Ev L 150 [.agg (eQ x),.agg (eQ y)] (.agg (eQ (x-y))):=by
 have hF:=jQ N (decide (y.num<0)) (dg y.num.natAbs) (dg y.den);have hA:=λ q3 q4=>kK N.toa6 68719476736 (by omega) (decide (x.num<0)) (!decide (y.num<0)) false false q3 q4 _ _ _ _ (hx.sm hk).1 (hx.sm hk).2 (hy.sm hl).1 (hy.sm hl).2
 rw[pG,FA,FA,<-Rat.sub_eq_add_neg]at hA;refine Ev.x N.LS rfl rfl ?_;(repeat' ((first|apply eH|apply AE|refine AC (hF) ?_|refine AC (hA _ _) ?_)<;>conv=>whnf))
 exact AU rfl (EA _)
theorem Qa {x y:Int} (h:y≠0):mkRat (y.sign*x) y.natAbs=Rat.divInt x y:=by
 obtain ⟨d,hd|hd⟩:=Int.eq_nat_or_neg y
 ·subst hd
  rw[Int.sign_eq_one_of_pos (by omega),Int.one_mul,Int.natAbs_natCast,Rat.divInt_ofNat]
 ·subst hd
  rw[Int.sign_eq_neg_one_of_neg (by omega),Int.natAbs_neg,Int.natAbs_natCast,Rat.divInt_neg',Rat.divInt_ofNat,Int.neg_one_mul]
theorem Lj (N:w6 L) (x y:Int) (hx : -9223372036854775808<=x/\x<=9223372036854775807) (hy : -9223372036854775808<=y/\y<=9223372036854775807) (h0:y≠0):Ev L 151 [.int .i64 x,.int .i64 y] (.agg (eQ (Rat.divInt x y))):=by
 have h1:=Z4 N.toa6 x hx;have h2:=Z4 N.toa6 y hy;have g1:Sm 2 (dg x.natAbs):=Sm.dg (by omega);have g2:Sm 2 (dg y.natAbs):=Sm.dg (by omega);have hl:=λ q1 q2=>SA N.toa6 (decide (x<0) != decide (y<0)) q1 q2 (dg x.natAbs) (dg y.natAbs) (g1.le (by omega)) (g2.le (by omega)) (by rw[BS];omega)
 unfold qv at hl;rw[rY h0,BS,Qa h0]at hl;refine Ev.x N.LO rfl rfl ?_;(repeat' ((first|(apply AG<;>intro hc<;>try omega)|apply AE|refine AC (h1) ?_|refine AC (h2) ?_)<;>conv=>whnf))
 refine FD 1000 N.JB rfl rfl ?_;(repeat' (apply AE<;>conv=>whnf))
 generalize decide (x<0)=p at *;generalize decide (y<0)=r at *;cases p<;>cases r;all_goals
  (conv=>whnf)
  refine ⟨rfl,?_⟩;(conv=>whnf)
  (repeat' (refine AC (hl _ _) ?_<;>conv=>whnf))
  exact AU rfl (EA _)
def EX (p r:List Rat):List Rat:=(List.range p.length).map λ i=>p.getD i 0+r.getD i 0
theorem OK (p r:List Rat):(EX p r).length=p.length:=by simp [EX]
theorem O9 {p r:List Rat} {i:Nat} (h:i<p.length):(EX p r)[i]? = some (p.getD i 0+r.getD i 0):=by
 simp only[EX,List.getElem?_map,List.getElem?_range h,Option.map_some]
theorem G9 {l:List Rat} {i:Nat} {x:Rat} (h:l[i]? = some x):l.getD i 0=x:=by rw[List.getD_eq_getElem?_getD,h];rfl
theorem E3 {l:List Rat} {i:Nat} (h:l.length<=i):l.getD i 0=0:=by rw[List.getD_eq_getElem?_getD,List.getElem?_eq_none h];rfl
theorem Ow (N:bm L) (q:Bool) (l:List Rat) (k:Nat) (hl:Bs k l) (hk:k<2199023255552) (hn:l.length<=1000000):Ev L 170 [.sl q (l.map eQ)] (.sl false ((BQ l).map eQ)):=by
 refine Ev.x N.LH rfl rfl ?_;(repeat' (apply AE<;>conv=>whnf))
 refine FC 1000 N.F6 rfl rfl ?_;(repeat' ((first|apply AR|apply AE)<;>conv=>whnf))
 refine ED (λ n=>n) (λ(n:Nat)=>n<=l.length/\CB l l.length=CB l n) (λ n=>[(3,.int .i64 n)]) (λ_=>[]) l.length ⟨Nat.le_refl _,rfl⟩ ?_;intro n ⟨p1,p2⟩ ih;have done : ∀ {n:Nat},CB l l.length=n->BQ l=l.take n:=λ h=>by rw[BQ,h]
 by_cases hz:n=0\/(∃ m x,n=m+1/\l[m]? = some x/\x≠0)
 ·have ay:CB l l.length=n:=by
   rw[p2];rcases hz with rfl|⟨m,x,rfl,h1,h2⟩
   ·rfl
   ·rw[CB,if_neg]
    rw[List.getD_eq_getElem?_getD,h1];exact h2
  have rm:=done ay;have fo:(l.take n).length=n:=by rw[List.length_take];omega
  clear ih ay p2 done;rcases hz with h0|⟨m,x,um,h1,h2⟩
  case' inl=>(repeat' ((first|(apply AG<;>intro hc<;>try omega)|apply AE)<;>conv=>whnf))
  case' inr =>
   have lh:l[((n:Int)-1).toNat]? = some x:=by rw[show ((n:Int)-1).toNat=m by omega];exact h1
   have fu:=HZ N.toa6 (hl.at h1) (by omega);have hs:=ID (x:=x);generalize u9 x.num=s at *;have hS : ∀ v,l[((n:Int)-1).toNat]? = some v->Ev L 97 [.agg (eQ v)] (.int .i64 s):=λ v h=>by
    obtain rfl:=Option.some.inj (lh.symm.trans h);exact fu
   have ju:s≠0:=λ h=>h2 (hs.1 h)
   (repeat' ((first|(apply AG<;>intro hc<;>try omega)|(apply BX;omega)|(refine BL (by assumption) ?_ rfl ?_;omega)|apply AE|refine AC (fu) ?_)<;>conv=>whnf))
  all_goals
   refine NR (enc:=eQ) (λ_=>rfl) p1 ?_;(conv=>whnf)
   skip
   refine ⟨rfl,_,rfl,?_⟩;(conv=>whnf)
   (repeat' (apply AR<;>conv=>whnf))
   refine EM (enc:=eO) none n rfl (by rw[fo]) (by omega) ?_;(conv=>whnf)
   skip
   refine ES (λ i=>n-i) (λ(i:Nat)=>i<=n) (λ i=>[(11,.int .i64 i)]) (λ i=>[(170008,170008,.rw 3 ((EK (l.take i) n).map eO))]) [] [] 0 (by first|exact (by (conv=>whnf);exact ⟨rfl,rfl,rfl⟩)|(rw[List.take_zero,<-I2];exact (by (conv=>whnf);exact ⟨rfl,rfl,rfl⟩))) (by omega) ?_;intro i g1 ih;by_cases hi:i<n
   ·all_goals try omega
    all_goals
     obtain ⟨y,hy⟩ : ∃ y,l[i]? = some y:=⟨_,zE (by omega)⟩;have ti:l[(i:Int).toNat]? = some y:=hy;have jv:(l.take i).length=i:=by rw[List.length_take];omega
     have uk:=IM (l:=l.take i) (m:=n) (by omega);have j7:=I3 (l:=l.take i) (m:=n) (x:=y) (by omega);rw[jv,<-RE hy]at j7;have Hz:=T5 N.toa6 (hl.at hy) (by omega);have hT : ∀ v,l[(i:Int).toNat]? = some v->Ev L 95 [.agg (eQ v)] (.agg (eQ y)):=λ v h=>by
      obtain rfl:=Option.some.inj (ti.symm.trans h);exact Hz
     (repeat' ((first|(apply AG<;>intro hc<;>try omega)|(apply A3;omega)|(refine BL (by assumption) ?_ rfl ?_;omega)|apply AE|refine AC (Hz) ?_)<;>conv=>whnf))
     refine F3 (enc:=eO) (some y) rfl (λ e=>by cases e<;>rfl) (by omega) ?_;(conv=>whnf)
     (repeat' ((first|(apply AZ;omega)|fail)<;>conv=>whnf))
     rw[j7];exact B0 [] (ih (i+1) (by omega) (by omega))
   ·obtain rfl:i=n:=by omega
    clear ih;rw[I1 fo,<-rm]at *;rw[<-rm]at fo;(repeat' ((first|(apply AG<;>intro hc<;>try omega)|apply AE)<;>conv=>whnf))
    refine D4 (enc:=eQ) (λ_=>rfl) rfl fo.symm ?_;(conv=>whnf)
    exact AU rfl (by simp only[A6,true_and];exact EY _)
 ·obtain ⟨m,rfl⟩ : ∃ m,n=m+1:=⟨n-1,by omega⟩
  obtain ⟨x,hx⟩ : ∃ x,l[m]? = some x:=⟨_,zE (by omega)⟩;have dz:x=0:=by
   rcases Classical.em (x=0) with h|h
   ·exact h
   ·exact (hz (Or.inr ⟨m,x,rfl,hx,h⟩)).elim
  have gi:l[((m+1:Nat)-1:Int).toNat]? = some x:=by rw[show ((m+1:Nat)-1:Int).toNat=m by omega];exact hx
  have fu:=HZ N.toa6 (hl.at hx) (by omega);have hs:=ID (x:=x);generalize u9 x.num=s at *;have hS : ∀ v,l[((m+1:Nat)-1:Int).toNat]? = some v->Ev L 97 [.agg (eQ v)] (.int .i64 s):=λ v h=>by
   obtain rfl:=Option.some.inj (gi.symm.trans h);exact fu
  have ju:=hs.2 dz;(repeat' ((first|(apply AG<;>intro hc<;>try omega)|(apply BX;omega)|(refine BL (by assumption) ?_ rfl ?_;omega)|apply AE|refine AC (fu) ?_)<;>conv=>whnf))
  rw[show ((m+1:Nat):Int)-1=(m:Int) by omega];exact B0 [] (ih m (by omega) ⟨by omega,by rw[p2,CB,if_pos (by rw[List.getD_eq_getElem?_getD,hx];exact dz)]⟩)
theorem kA (N:y5 L) (q:Bool) (l:List Rat) (d:Rat) (k j:Nat) (hl:Bs k l) (hd:Bt j d) (hk:k+j<2199023255552) (hn:l.length<=1000000):Ev L 190 [.sl q (l.map eQ),.agg (eQ d)] (.sl false ((BQ (l.map (· * d))).map eQ)):=by
 refine Ev.x N.LG rfl rfl ?_;(repeat' ((first|apply AR|apply AE)<;>conv=>whnf))
 refine EM (enc:=eO) none l.length rfl rfl (by omega) ?_;(conv=>whnf)
 skip
 refine ES (λ i=>l.length-i) (λ(i:Nat)=>i<=l.length) (λ i=>[(12,.int .i64 i)]) (λ i=>[(9,9,.rw 3 ((EK ((l.map (· * d)).take i) l.length).map eO))]) [] [] 0 (by first|exact (by (conv=>whnf);exact ⟨rfl,rfl,rfl⟩)|(rw[List.take_zero,<-I2];exact (by (conv=>whnf);exact ⟨rfl,rfl,rfl⟩))) (by omega) ?_;intro i g1 ih;by_cases hi:i<l.length
 ·obtain ⟨x,hx⟩ : ∃ x,l[i]? = some x:=⟨_,zE hi⟩
  have gi:l[(i:Int).toNat]? = some x:=hx;have hM:=OQ N.toa6 (hl.at hx) hd (by omega) (by omega);have hy:(l.map (· * d))[i]? = some (x*d):=by rw[List.getElem?_map,hx];rfl
  have jv:((l.map (· * d)).take i).length=i:=by rw[List.length_take,List.length_map];omega
  have uk:=IM (l:=(l.map (· * d)).take i) (m:=l.length) (by omega);have j7:=I3 (l:=(l.map (· * d)).take i) (m:=l.length) (x:=x*d) (by omega);rw[jv,<-RE hy]at j7;(repeat' ((first|(apply AG<;>intro hc<;>try omega)|(apply A3;omega)|(refine BL (by assumption) ?_ rfl ?_;omega)|apply AE|refine AC (hM) ?_)<;>conv=>whnf))
  refine F3 (enc:=eO) (some (x*d)) rfl (λ e=>by cases e<;>rfl) (by omega) ?_;(conv=>whnf)
  (repeat' ((first|(apply AZ;omega)|fail)<;>conv=>whnf))
  rw[j7];exact B0 [] (ih (i+1) (by omega) (by omega))
 ·obtain rfl:i=l.length:=by omega
  clear ih;have qi:Bs (k+j) (l.map (· * d)):=by
   intro y hy;obtain ⟨x,hx,rfl⟩:=List.mem_map.1 hy;exact (hl x hx).mul hd
  have jf:(l.map (· * d)).length=l.length:=List.length_map ..;rw[zT (Nat.le_of_eq jf),I1 jf,<-jf];generalize l.map (· * d)=p at *;(repeat' ((first|(apply AG<;>intro hc<;>try omega)|apply AE)<;>conv=>whnf))
  refine FC 1000 N.F6 rfl rfl ?_;(repeat' (apply AE<;>conv=>whnf))
  refine ED (λ n=>n) (λ(n:Nat)=>n<=p.length/\CB p p.length=CB p n) (λ n=>[(3,.int .i64 n)]) (λ_=>[(9,9,.rw 3 (p.map eQ))]) p.length ⟨Nat.le_refl _,rfl⟩ ?_;intro n ⟨p1,p2⟩ ih;have done : ∀ {n:Nat},CB p p.length=n->BQ p=p.take n:=λ h=>by rw[BQ,h]
  by_cases hz:n=0\/(∃ m x,n=m+1/\p[m]? = some x/\x≠0)
  ·have ay:CB p p.length=n:=by
    rw[p2];rcases hz with rfl|⟨m,x,rfl,h1,h2⟩
    ·rfl
    ·rw[CB,if_neg]
     rw[List.getD_eq_getElem?_getD,h1];exact h2
   have rm:=done ay;have fo:(p.take n).length=n:=by rw[List.length_take];omega
   clear ih ay p2 done;rcases hz with h0|⟨m,x,um,h1,h2⟩
   case' inl=>(repeat' ((first|(apply AG<;>intro hc<;>try omega)|apply AE)<;>conv=>whnf))
   case' inr =>
    have lh:p[((n:Int)-1).toNat]? = some x:=by rw[show ((n:Int)-1).toNat=m by omega];exact h1
    have fu:=HZ N.toa6 (qi.at h1) (by omega);have hs:=ID (x:=x);generalize u9 x.num=s at *;have hS : ∀ v,p[((n:Int)-1).toNat]? = some v->Ev L 97 [.agg (eQ v)] (.int .i64 s):=λ v h=>by
     obtain rfl:=Option.some.inj (lh.symm.trans h);exact fu
    have ju:s≠0:=λ h=>h2 (hs.1 h)
    (repeat' ((first|(apply AG<;>intro hc<;>try omega)|(apply A3;omega)|(apply BX;omega)|(refine P3 ?_ (λ_=>rfl) (λ v hv => ?_);omega)|apply AE|refine AC (hS _ hv) ?_)<;>conv=>whnf))
   all_goals
    refine F8 n (by omega) (by omega) ?_;(conv=>whnf)
    skip
    refine ⟨rfl,_,rfl,?_⟩;(conv=>whnf)
    (refine GL (enc:=eQ) (λ_=>rfl) (by omega) ?_;rw[List.drop_zero,Nat.sub_zero,<-rm];exact AU rfl (by simp only[A6,true_and];exact EY _))
  ·obtain ⟨m,rfl⟩ : ∃ m,n=m+1:=⟨n-1,by omega⟩
   obtain ⟨x,hx⟩ : ∃ x,p[m]? = some x:=⟨_,zE (by omega)⟩;have dz:x=0:=by
    rcases Classical.em (x=0) with h|h
    ·exact h
    ·exact (hz (Or.inr ⟨m,x,rfl,hx,h⟩)).elim
   have gi:p[((m+1:Nat)-1:Int).toNat]? = some x:=by rw[show ((m+1:Nat)-1:Int).toNat=m by omega];exact hx
   have fu:=HZ N.toa6 (qi.at hx) (by omega);have hs:=ID (x:=x);generalize u9 x.num=s at *;have hS : ∀ v,p[((m+1:Nat)-1:Int).toNat]? = some v->Ev L 97 [.agg (eQ v)] (.int .i64 s):=λ v h=>by
    obtain rfl:=Option.some.inj (gi.symm.trans h);exact fu
   have ju:=hs.2 dz;(repeat' ((first|(apply AG<;>intro hc<;>try omega)|(apply A3;omega)|(apply BX;omega)|(refine P3 ?_ (λ_=>rfl) (λ v hv => ?_);omega)|apply AE|refine AC (hS _ hv) ?_)<;>conv=>whnf))
   rw[show ((m+1:Nat):Int)-1=(m:Int) by omega];exact B0 [] (ih m (by omega) ⟨by omega,by rw[p2,CB,if_pos (by rw[List.getD_eq_getElem?_getD,hx];exact dz)]⟩)
theorem jZ (N:y5 L) (q1 q2:Bool) (p r:List Rat) (k j:Nat) (hp:Bs k p) (hr:Bs j r) (hk:k+j+1<2199023255552) (hn:p.length<=1000000) (hm:r.length<=p.length):Ev L 191 [.sl q1 (p.map eQ),.sl q2 (r.map eQ)] (.sl false ((BQ (EX p r)).map eQ)):=by
 refine Ev.x N.I6 rfl rfl ?_;(repeat' ((first|(apply AG<;>intro hc<;>try omega)|apply AR|apply AE)<;>conv=>whnf))
 refine EM (enc:=eO) none p.length rfl rfl (by omega) ?_;(conv=>whnf)
 skip
 have jf:=OK p r;refine ES (λ i=>p.length-i) (λ(i:Nat)=>i<=p.length) (λ i=>[(19,.int .i64 i)]) (λ i=>[(16,16,.rw 3 ((EK ((EX p r).take i) p.length).map eO))]) [] [] 0 (by first|exact (by (conv=>whnf);exact ⟨rfl,rfl,rfl⟩)|(rw[List.take_zero,<-I2];exact (by (conv=>whnf);exact ⟨rfl,rfl,rfl⟩))) (by omega) ?_;intro i g1 ih;by_cases hi:i<p.length
 ·obtain ⟨x,hx⟩ : ∃ x,p[i]? = some x:=⟨_,zE hi⟩
  have gi:p[(i:Int).toNat]? = some x:=hx;have hy:=O9 (r:=r) hi;rw[G9 hx]at hy;have jv:((EX p r).take i).length=i:=by rw[List.length_take];omega
  have uk:=IM (l:=(EX p r).take i) (m:=p.length) (by omega);have j7:=I3 (l:=(EX p r).take i) (m:=p.length) (x:=x+r.getD i 0) (by omega);rw[jv,<-RE hy]at j7;by_cases h2:i<r.length
  ·obtain ⟨y,oh⟩ : ∃ y,r[i]? = some y:=⟨_,zE h2⟩
   have Gw:r[(i:Int).toNat]? = some y:=oh;rw[G9 oh]at j7;have hA:=QM N.toa6 (hp.at hx) (hr.at oh) (by omega) (by omega);(repeat' ((first|(apply AG<;>intro hc<;>try omega)|(apply A3;omega)|apply AR|(refine BL (by assumption) ?_ rfl ?_;omega)|apply AE|refine AC (hA) ?_)<;>conv=>whnf))
   refine F3 (enc:=eO) (some (x+y)) rfl (λ e=>by cases e<;>rfl) (by omega) ?_;(conv=>whnf)
   (repeat' ((first|(apply AZ;omega)|fail)<;>conv=>whnf))
   rw[j7];exact B0 [] (ih (i+1) (by omega) (by omega))
  ·rw[E3 (l:=r) (by omega),Rat.add_zero]at j7
   have hT:=T5 N.toa6 (hp.at hx) (by omega);(repeat' ((first|(apply AG<;>intro hc<;>try omega)|(apply A3;omega)|apply AR|(refine BL (by assumption) ?_ rfl ?_;omega)|apply AE|refine AC (hT) ?_)<;>conv=>whnf))
   refine F3 (enc:=eO) (some x) rfl (λ e=>by cases e<;>rfl) (by omega) ?_;(conv=>whnf)
   (repeat' ((first|(apply AZ;omega)|fail)<;>conv=>whnf))
   rw[j7];exact B0 [] (ih (i+1) (by omega) (by omega))
 ·obtain rfl:i=p.length:=by omega
  clear ih;have qi:Bs (k+j+1) (EX p r):=by
   intro z hz;obtain ⟨i,hi⟩:=List.getElem?_of_mem hz;have h1:=(zS hi).1;rw[jf]at h1;rw[O9 h1]at hi;obtain rfl:=Option.some.inj hi;obtain ⟨x,hx⟩ : ∃ x,p[i]? = some x:=⟨_,zE h1⟩;rw[G9 hx];by_cases h2:i<r.length
   ·obtain ⟨y,oh⟩ : ∃ y,r[i]? = some y:=⟨_,zE h2⟩
    rw[G9 oh];exact (hp.at hx).add (hr.at oh)
   ·rw[E3 (l:=r) (by omega),Rat.add_zero]
    exact (hp.at hx).le (by omega)
  rw[zT (Nat.le_of_eq jf),I1 jf,<-jf];generalize EX p r=u at *;(repeat' ((first|(apply AG<;>intro hc<;>try omega)|apply AE)<;>conv=>whnf))
  refine FC 1000 N.F6 rfl rfl ?_;(repeat' (apply AE<;>conv=>whnf))
  refine ED (λ n=>n) (λ(n:Nat)=>n<=u.length/\CB u u.length=CB u n) (λ n=>[(3,.int .i64 n)]) (λ_=>[(16,16,.rw 3 (u.map eQ))]) u.length ⟨Nat.le_refl _,rfl⟩ ?_;intro n ⟨p1,p2⟩ ih;have done : ∀ {n:Nat},CB u u.length=n->BQ u=u.take n:=λ h=>by rw[BQ,h]
  by_cases hz:n=0\/(∃ m x,n=m+1/\u[m]? = some x/\x≠0)
  ·have ay:CB u u.length=n:=by
    rw[p2];rcases hz with rfl|⟨m,x,rfl,h1,h2⟩
    ·rfl
    ·rw[CB,if_neg]
     rw[List.getD_eq_getElem?_getD,h1];exact h2
   have rm:=done ay;have fo:(u.take n).length=n:=by rw[List.length_take];omega
   clear ih ay p2 done;rcases hz with h0|⟨m,x,um,h1,h2⟩
   case' inl=>(repeat' ((first|(apply AG<;>intro hc<;>try omega)|apply AE)<;>conv=>whnf))
   case' inr =>
    have lh:u[((n:Int)-1).toNat]? = some x:=by rw[show ((n:Int)-1).toNat=m by omega];exact h1
    have fu:=HZ N.toa6 (qi.at h1) (by omega);have hs:=ID (x:=x);generalize u9 x.num=s at *;have hS : ∀ v,u[((n:Int)-1).toNat]? = some v->Ev L 97 [.agg (eQ v)] (.int .i64 s):=λ v h=>by
     obtain rfl:=Option.some.inj (lh.symm.trans h);exact fu
    have ju:s≠0:=λ h=>h2 (hs.1 h)
    (repeat' ((first|(apply AG<;>intro hc<;>try omega)|(apply A3;omega)|(apply BX;omega)|(refine P3 ?_ (λ_=>rfl) (λ v hv => ?_);omega)|apply AE|refine AC (hS _ hv) ?_)<;>conv=>whnf))
   all_goals
    refine F8 n (by omega) (by omega) ?_;(conv=>whnf)
    skip
    refine ⟨rfl,_,rfl,?_⟩;(conv=>whnf)
    (refine GL (enc:=eQ) (λ_=>rfl) (by omega) ?_;rw[List.drop_zero,Nat.sub_zero,<-rm];exact AU rfl (by simp only[A6,true_and];exact EY _))
  ·obtain ⟨m,rfl⟩ : ∃ m,n=m+1:=⟨n-1,by omega⟩
   obtain ⟨x,hx⟩ : ∃ x,u[m]? = some x:=⟨_,zE (by omega)⟩;have dz:x=0:=by
    rcases Classical.em (x=0) with h|h
    ·exact h
    ·exact (hz (Or.inr ⟨m,x,rfl,hx,h⟩)).elim
   have gi:u[((m+1:Nat)-1:Int).toNat]? = some x:=by rw[show ((m+1:Nat)-1:Int).toNat=m by omega];exact hx
   have fu:=HZ N.toa6 (qi.at hx) (by omega);have hs:=ID (x:=x);generalize u9 x.num=s at *;have hS : ∀ v,u[((m+1:Nat)-1:Int).toNat]? = some v->Ev L 97 [.agg (eQ v)] (.int .i64 s):=λ v h=>by
    obtain rfl:=Option.some.inj (gi.symm.trans h);exact fu
   have ju:=hs.2 dz;(repeat' ((first|(apply AG<;>intro hc<;>try omega)|(apply A3;omega)|(apply BX;omega)|(refine P3 ?_ (λ_=>rfl) (λ v hv => ?_);omega)|apply AE|refine AC (hS _ hv) ?_)<;>conv=>whnf))
   rw[show ((m+1:Nat):Int)-1=(m:Int) by omega];exact B0 [] (ih m (by omega) ⟨by omega,by rw[p2,CB,if_pos (by rw[List.getD_eq_getElem?_getD,hx];exact dz)]⟩)
theorem Z0 (N:o6 L) (S:B3) (n k:Nat) (h:S.Ok n k) (hn:n<=64):Ev L 130 [.agg (eS S)] (.bool true):=by
 have h1:=h.la;have h2:=h.lb;have h3:=h.lc;refine Ev.x N.K6 rfl rfl ?_;(repeat' ((first|(apply AG<;>intro hc<;>try omega)|apply AR|apply AE)<;>conv=>whnf))
 refine ED (λ i=>S.a.length-i) (λ(i:Nat)=>i<=S.a.length) (λ i=>[(28,.int .i64 i)]) (λ_=>[]) 0 (by omega) ?_;intro i p1 ih;by_cases hi:i<S.a.length
 ·obtain ⟨r,hr⟩ : ∃ r,S.a[i]? = some r:=⟨_,zE hi⟩
  have yu:S.a[(i:Int).toNat]? = some r:=hr;have cg:=h.lr r (zM hr);(repeat' ((first|(apply AG<;>intro hc<;>try omega)|(apply AZ;omega)|apply AR|(refine BL (by assumption) ?_ rfl ?_;omega)|apply AE)<;>conv=>whnf))
  exact B0 [] (ih (i+1) (by omega) (by omega))
 ·obtain rfl:i=S.a.length:=by omega
  clear ih;(repeat' ((first|(apply AG<;>intro hc<;>try omega)|apply AE)<;>conv=>whnf))
  exact HQ rfl
theorem Z8 (N:o6 L) (a b:List Rat) (q1 q2:Bool) (k s:Nat) (hl:a.length=b.length) (ha:Bs k a) (hb:Bs s b) (hK:a.length*(k+s+1)+k+s<2199023255552) (nx:a.length<=1099511627776):Ev L 132 [.sl q1 (a.map eQ),.sl q2 (b.map eQ)] (.agg (eQ (BM a b))):=by
 have hO:=KA N.toa6 0 (by omega);refine Ev.x N.K8 rfl rfl ?_;(repeat' ((first|apply AR|apply AE|refine AC (hO) ?_)<;>conv=>whnf))
 refine J2 (λ i _=>a.length-i) (λ(i:Nat) (acc:Rat)=>i<=a.length/\acc=BM (a.take i) (b.take i)) (λ i acc=>[(11,.int .i64 i)]) (λ i acc=>[(5,5,.bx (eQ acc))]) 0 ((0:Int):Rat) ⟨by omega,by simp [BM]⟩ ?_;intro i acc ⟨p1,p2⟩ ih;by_cases hi:i<a.length
 ·obtain ⟨x,hx⟩ : ∃ x,a[i]? = some x:=⟨_,zE hi⟩
  obtain ⟨y,hy⟩ : ∃ y,b[i]? = some y:=⟨_,zE (by omega)⟩;have gi:a[(i:Int).toNat]? = some x:=hx;have ti:b[(i:Int).toNat]? = some y:=hy;have bx:=ha.at hx;have Dm:=hb.at hy
  have z7:=HZ N.toa6 bx (by omega);have z8:=HZ N.toa6 Dm (by omega)
  have hM:=OQ N.toa6 bx Dm (by omega) (by omega)
  have Ei:Bt (a.length*(k+s+1)) acc:=by
   rw[p2];have:=(ha.take i).dot (hb.take i)
   refine this.le (zR _ ?_);rw[List.length_take];omega
  have hA:=QM N.toa6 Ei (bx.mul Dm) (by omega) (by omega);have j7:=Mn hx hy;have z1:=ID (x:=x);have z2:=ID (x:=y);generalize u9 x.num=sx at *;generalize u9 y.num=sy at *;by_cases h1:sx=0
  ·have dz:=z1.1 h1
   (repeat' ((first|(apply AG<;>intro hc<;>try omega)|(apply AZ;omega)|(refine BL (by assumption) ?_ rfl ?_;omega)|apply AE|refine AC (z7) ?_)<;>conv=>whnf))
   refine B5 [] (by (conv=>whnf);exact ⟨rfl,rfl,rfl⟩) (ih (i+1) acc (by omega) ⟨by omega,?_⟩);rw[j7,dz,Rat.zero_mul,Rat.add_zero];exact p2
  ·by_cases h2:sy=0
   ·have kp:=z2.1 h2
    (repeat' ((first|(apply AG<;>intro hc<;>try omega)|(apply AZ;omega)|(refine BL (by assumption) ?_ rfl ?_;omega)|apply AE|refine AC (z7) ?_|refine AC (z8) ?_)<;>conv=>whnf))
    refine B5 [] (by (conv=>whnf);exact ⟨rfl,rfl,rfl⟩) (ih (i+1) acc (by omega) ⟨by omega,?_⟩);rw[j7,kp,Rat.mul_zero,Rat.add_zero];exact p2
   ·(repeat' ((first|(apply AG<;>intro hc<;>try omega)|(apply AZ;omega)|(refine BL (by assumption) ?_ rfl ?_;omega)|apply AE|refine AC (z7) ?_|refine AC (z8) ?_|refine AC (hM) ?_|refine AC (hA) ?_)<;>conv=>whnf))
    refine B5 [] (by (conv=>whnf);exact ⟨rfl,rfl,rfl⟩) (ih (i+1) (acc+x*y) (by omega) ⟨by omega,?_⟩);rw[j7,<-p2]
 ·obtain rfl:i=a.length:=by omega
  clear ih;rw[Mm rfl]at p2;rw[<-p2];(repeat' ((first|(apply AG<;>intro hc<;>try omega)|apply AE)<;>conv=>whnf))
  exact AU rfl (EA _)
theorem Bs.Bv (k n:Nat):Bs k (List.replicate n 0):=λ x hx=>by rw[(List.mem_replicate.1 hx).2];exact Bt.zero k
theorem HL {l:List Rat} {k:Nat} (h:Bs k l) (i:Nat):Bt k (l.getD i 0):=by
 rw[List.getD_eq_getElem?_getD];cases e:l[i]? with
 | none=>exact Bt.zero k
 | some x=>exact h.at e
theorem pV (z:Int):u9 z = -1/\z<0\/u9 z=0/\z=0\/u9 z=1/\0<z:=by
 unfold u9;split
 ·exact Or.inl ⟨rfl,by omega⟩
 ·split
  ·exact Or.inr (Or.inr ⟨rfl,by omega⟩)
  ·exact Or.inr (Or.inl ⟨rfl,by omega⟩)
theorem xL {a b:Nat} {z:Int} (h:z=(a:Int)-b):DB a b=u9 z:=by
 unfold DB u9;subst h;repeat' split
 all_goals omega
theorem jS (N:k6 L) (n1 n2 q1 q2:Bool) (a b:List Nat) (ha:Sm 549755813888 a) (hb:Sm 549755813888 b):Ev L 197 [.agg (rZ q1 n1 a),.agg (rZ q2 n2 b)] (.int .i64 (u9 (zv n1 a-zv n2 b))):=by
 have h1:=λ q=>TZ N.toa6 n1 q a ha
 have h2:=λ q=>TZ N.toa6 n2 q b hb
 have h3:=λ q q'=>OR N.toc7 a b q q' ha.1 hb.1 (by have:=ha.2;omega) (by have:=hb.2;omega)
 have h4:=λ q q'=>OR N.toc7 b a q q' hb.1 ha.1 (by have:=hb.2;omega) (by have:=ha.2;omega)
 have za:=EW n1 a;have zb:=EW n2 b;generalize zv n1 a=x at *;generalize zv n2 b=y at *;rcases pV x with ⟨e1,g1⟩|⟨e1,g1⟩|⟨e1,g1⟩<;>rcases pV y with ⟨e2,g2⟩|⟨e2,g2⟩|⟨e2,g2⟩
 all_goals
  rw[e1]at h1;rw[e2]at h2;refine Ev.x N.KF rfl rfl ?_;(repeat' ((first|(apply AG<;>intro hc<;>try omega)|apply AE|refine AC (h1 _) ?_|refine AC (h2 _) ?_|refine AC (h3 _ _) ?_|refine AC (h4 _ _) ?_)<;>conv=>whnf))
  first
   | exact C2 (cW (by omega))
   | exact C2 (cX (by omega))
   | exact C2 (xL (by omega))
theorem Nk (N:k6 L) (k:Nat) (hk:1<=k/\k<=68719476736) (n1 n2:Bool) (m1 d1 m2 d2:List Nat) (gf:Sm k m1) (je:Sm k d1) (fc:Sm k m2) (mv:Sm k d2) :
  Ev L 198 [.agg (rQ false false n1 m1 d1),.agg (rQ false false n2 m2 d2)] (.int .i64 (u9 (qv n1 m1 d1-qv n2 m2 d2).num)):=by
 obtain ⟨a1,a2,a3,w1,cn,s1,s2,s3,s4,s5⟩:=JV N.toa6 n1 m1 d1 k (by omega) gf je;obtain ⟨b1,b2,b3,w2,aq,t1,t2,t3,t4,t5⟩:=JV N.toa6 n2 m2 d2 k (by omega) fc mv;rw[s5,t5,<-nT s3 t3];by_cases hw:w1=true/\w2=true
 ·obtain ⟨rfl,rfl⟩:=hw
  have hC:=λ q q'=>jS N a1 b1 q q' a2 b2 (s1.le (by omega)) (t1.le (by omega))
  rw[s4 rfl,t4 rfl];rw[show zv a1 a2*((1:Nat):Int)-zv b1 b2*((1:Nat):Int)=zv a1 a2-zv b1 b2 by omega];refine Ev.x N.I8 rfl rfl ?_;(repeat' ((first|apply GK|apply AE|refine AC (cn) ?_|refine AC (aq) ?_|refine AC (hC _ _) ?_)<;>conv=>whnf))
  exact C2 rfl
 ·have ff:=λ q q'=>QN N.toa6 a1 false q q' a2 b3 s1.1 t2.1 (by have:=s1.2;have:=t2.2;omega)
  have ja:=λ q q'=>QN N.toa6 b1 false q q' b2 a3 t1.1 s2.1 (by have:=t1.2;have:=s2.2;omega)
  have ta:=SB N.toa6 a3;have qj:=SB N.toa6 b3;have g1:Sm (k+k) (dg (zv a1 a2*zv false b3).natAbs):=Q8 s1 t2;have g2:Sm (k+k) (dg (zv b1 b2*zv false a3).natAbs):=Q8 t1 s2;have hC:=λ q q'=>jS N (decide (zv a1 a2*zv false b3<0)) (decide (zv b1 b2*zv false a3<0)) q q' _ _ (g1.le (by omega)) (g2.le (by omega))
  rw[FB,FB]at hC;rw[<-ER b3,<-ER a3];generalize zv a1 a2*zv false b3=x at *;generalize zv b1 b2*zv false a3=y at *;refine Ev.x N.I8 rfl rfl ?_;cases w1<;>cases w2
  ·(repeat' ((first|apply GK|apply PZ|apply AE|refine AC (cn) ?_|refine AC (aq) ?_|refine AC (ta) ?_|refine AC (qj) ?_|refine AC (ff _ _) ?_|refine AC (ja _ _) ?_|refine AC (hC _ _) ?_)<;>conv=>whnf))
   exact C2 rfl
  ·(repeat' ((first|apply GK|apply PZ|apply AE|refine AC (cn) ?_|refine AC (aq) ?_|refine AC (ta) ?_|refine AC (qj) ?_|refine AC (ff _ _) ?_|refine AC (ja _ _) ?_|refine AC (hC _ _) ?_)<;>conv=>whnf))
   exact C2 rfl
  ·(repeat' ((first|apply GK|apply PZ|apply AE|refine AC (cn) ?_|refine AC (aq) ?_|refine AC (ta) ?_|refine AC (qj) ?_|refine AC (ff _ _) ?_|refine AC (ja _ _) ?_|refine AC (hC _ _) ?_)<;>conv=>whnf))
   exact C2 rfl
  ·exact absurd ⟨rfl,rfl⟩ hw
theorem Lu (N:k6 L) {x y:Rat} {k l:Nat} (hx:Bt k x) (hy:Bt l y) (hk:k<2199023255552) (hl:l<2199023255552):Ev L 198 [.agg (eQ x),.agg (eQ y)] (.int .i64 (u9 (x-y).num)):=by
 have:=Nk N 68719476736 (by omega) (decide (x.num<0)) (decide (y.num<0)) _ _ _ _ (hx.sm hk).1 (hx.sm hk).2 (hy.sm hl).1 (hy.sm hl).2
 rw[FA,FA]at this;exact this
theorem Ou (N:k6 L) {x:Rat} {k:Nat} (hx:Bt k x) (hk:k<2199023255552):Ev L 199 [.agg (eQ x)] (.agg (eQ (-x))):=by
 have hF:=jQ N.tow6 (decide (x.num<0)) (dg x.num.natAbs) (dg x.den);have hT:=λ q1 q2=>aD N.toa6 (!decide (x.num<0)) q1 q2 _ _ ((hx.sm hk).1.le (by omega)) ((hx.sm hk).2.le (by omega))
 rw[pG,FA]at hT;refine Ev.x N.LP rfl rfl ?_;(repeat' ((first|apply eH|apply AE|refine AC (hF) ?_|refine AC (hT _ _) ?_)<;>conv=>whnf))
 exact AU rfl (EA _)
theorem WY (N:k6 L) (q:Bool) (l:List Rat) (k:Nat) (hl:Bs k l) (hk:k<2199023255552) (hn:l.length<=1000000):Ev L 200 [.sl q (l.map eQ)] (.int .i64 ((CB l l.length:Int)-1)):=by
 refine Ev.x N.LF rfl rfl ?_;(repeat' (apply AE<;>conv=>whnf))
 refine FC 1000 N.F6 rfl rfl ?_;(repeat' ((first|apply AR|apply AE)<;>conv=>whnf))
 refine ED (λ n=>n) (λ(n:Nat)=>n<=l.length/\CB l l.length=CB l n) (λ n=>[(3,.int .i64 n)]) (λ_=>[]) l.length ⟨Nat.le_refl _,rfl⟩ ?_;intro n ⟨p1,p2⟩ ih;have done : ∀ {n:Nat},CB l l.length=n->BQ l=l.take n:=λ h=>by rw[BQ,h]
 by_cases hz:n=0\/(∃ m x,n=m+1/\l[m]? = some x/\x≠0)
 ·have ay:CB l l.length=n:=by
   rw[p2];rcases hz with rfl|⟨m,x,rfl,h1,h2⟩
   ·rfl
   ·rw[CB,if_neg]
    rw[List.getD_eq_getElem?_getD,h1];exact h2
  have rm:=done ay;have fo:(l.take n).length=n:=by rw[List.length_take];omega
  clear ih ay p2 done;rcases hz with h0|⟨m,x,um,h1,h2⟩
  case' inl=>(repeat' ((first|(apply AG<;>intro hc<;>try omega)|apply AE)<;>conv=>whnf))
  case' inr =>
   have lh:l[((n:Int)-1).toNat]? = some x:=by rw[show ((n:Int)-1).toNat=m by omega];exact h1
   have fu:=HZ N.toa6 (hl.at h1) (by omega);have hs:=ID (x:=x);generalize u9 x.num=s at *;have hS : ∀ v,l[((n:Int)-1).toNat]? = some v->Ev L 97 [.agg (eQ v)] (.int .i64 s):=λ v h=>by
    obtain rfl:=Option.some.inj (lh.symm.trans h);exact fu
   have ju:s≠0:=λ h=>h2 (hs.1 h)
   (repeat' ((first|(apply AG<;>intro hc<;>try omega)|(apply BX;omega)|(refine BL (by assumption) ?_ rfl ?_;omega)|apply AE|refine AC (fu) ?_)<;>conv=>whnf))
  all_goals
   refine NR (enc:=eQ) (λ_=>rfl) p1 ?_;(conv=>whnf)
   skip
   refine ⟨rfl,_,rfl,?_⟩;(conv=>whnf)
   (repeat' ((first|(apply BX;omega)|apply AR)<;>conv=>whnf))
   have Ai:CB l l.length=n:=by rw[<-NG,rm,fo]
   rw[Ai];exact C2 (by rw[fo])
 ·obtain ⟨m,rfl⟩ : ∃ m,n=m+1:=⟨n-1,by omega⟩
  obtain ⟨x,hx⟩ : ∃ x,l[m]? = some x:=⟨_,zE (by omega)⟩;have dz:x=0:=by
   rcases Classical.em (x=0) with h|h
   ·exact h
   ·exact (hz (Or.inr ⟨m,x,rfl,hx,h⟩)).elim
  have gi:l[((m+1:Nat)-1:Int).toNat]? = some x:=by rw[show ((m+1:Nat)-1:Int).toNat=m by omega];exact hx
  have fu:=HZ N.toa6 (hl.at hx) (by omega);have hs:=ID (x:=x);generalize u9 x.num=s at *;have hS : ∀ v,l[((m+1:Nat)-1:Int).toNat]? = some v->Ev L 97 [.agg (eQ v)] (.int .i64 s):=λ v h=>by
   obtain rfl:=Option.some.inj (gi.symm.trans h);exact fu
  have ju:=hs.2 dz;(repeat' ((first|(apply AG<;>intro hc<;>try omega)|(apply BX;omega)|(refine BL (by assumption) ?_ rfl ?_;omega)|apply AE|refine AC (fu) ?_)<;>conv=>whnf))
  rw[show ((m+1:Nat):Int)-1=(m:Int) by omega];exact B0 [] (ih m (by omega) ⟨by omega,by rw[p2,CB,if_pos (by rw[List.getD_eq_getElem?_getD,hx];exact dz)]⟩)
end Go.e9

namespace Go.e9
open F
attribute [local irreducible] AA AF AQ AD DW AW A9 BD CO AX BI FZ CE A4 CD C7 AB BA AJ pw D6 C3 E7 EH FE BP C4 B9 CF
variable {L:Lib} (n:Nt)
set_option maxHeartbeats 1000000
end Go.e9

namespace Go.e9
open F
attribute [local irreducible] AA AF AQ AD DW AW A9 BD CO AX BI FZ CE A4 CD C7 AB BA AJ pw D6 C3 E7 EH FE BP C4 B9 CF
variable {L:Lib}
set_option maxHeartbeats 4000000
theorem dS (m p:Nat):(List.replicate m (0:Rat)).set p 1=G2 m p:=by
 refine List.ext_getElem? λ j => ?_
 simp only[G2,List.getElem?_set,List.getElem?_map,List.getElem?_replicate,List.length_replicate];by_cases h:j<m
 ·rw[List.getElem?_range h]
  by_cases e:p=j
  ·subst e;simp [h]
  ·simp [h,e];intro h3;omega
 ·rw[List.getElem?_eq_none (by simpa using h)]
  simp [h];intro e;omega
theorem Ns (N:o6 L) (m:Nat) (hm:m<=65536):FR L 131 [.int .i64 (m:Int)] 3 ((List.replicate m (0:Rat)).map eQ):=by
 have hO:=KA N.toa6 0 (by omega);refine FR.x N.LB rfl rfl ?_;(repeat' (apply AE<;>conv=>whnf))
 refine EM (enc:=eO) none m rfl rfl (by omega) ?_;(conv=>whnf)
 skip
 refine ES (λ i=>m-i) (λ(i:Nat)=>i<=m) (λ i=>[(9,.int .i64 i)]) (λ i=>[(131006,131006,.rw 3 ((EK (List.replicate i 0) m).map eO))]) [] [] 0 (by first|exact (by (conv=>whnf);exact ⟨rfl,rfl,rfl⟩)|(rw[<-I2];exact (by (conv=>whnf);exact ⟨rfl,rfl,rfl⟩))) (by omega) ?_;intro i p1 ih;by_cases hi:i<m
 ·have hl:=IM (l:=List.replicate i (0:Rat)) (m:=m) (by simp;omega)
  have hs:=I3 (l:=List.replicate i (0:Rat)) (m:=m) (x:=0) (by simp;omega);rw[List.length_replicate]at hs;(repeat' ((first|(apply AG<;>intro hc<;>try omega)|(apply A3;omega)|apply AE|refine AC (hO) ?_)<;>conv=>whnf))
  refine F3 (enc:=eO) (some 0) rfl (λ e=>by cases e<;>rfl) (by omega) ?_;(conv=>whnf)
  (repeat' ((first|(apply AZ;omega)|fail)<;>conv=>whnf))
  rw[hs];rw[show List.replicate i (0:Rat)++[0]=List.replicate (i+1) 0 by rw[List.replicate_succ']];exact B0 [] (ih (i+1) (by omega) (by omega))
 obtain rfl:i=m:=by omega
 clear ih;rw[I1 (by simp)];(repeat' ((first|(apply AG<;>intro hc<;>try omega)|apply AE)<;>conv=>whnf))
 exact ⟨rfl,rfl,by simp,rfl,EY _⟩
theorem lE {α:Type} (a b:α) {t m:Nat} (_:t<=m) (h:t<m):(List.replicate t a++List.replicate (m-t) b).set t a=List.replicate (t+1) a++List.replicate (m-(t+1)) b:=by
 obtain ⟨k,hk⟩ : ∃ k,m-t=k+1:=⟨m-t-1,by omega⟩;rw[List.set_append_right _ _ (by simp),hk,List.length_replicate,Nat.sub_self,List.replicate_succ,List.set_cons_zero,show m-(t+1)=k by omega,List.replicate_succ',List.append_assoc];rfl
def fz {α:Type} (z:α) (l:List α) (m:Nat):List α:=l++List.replicate (m-l.length) z
theorem Ny {α:Type} {z:α} {l:List α} {m:Nat} (h:l.length<=m):(fz z l m).length=m:=by simp [fz];omega
theorem Nz {α:Type} {z x:α} {l:List α} {m:Nat} (h:l.length<m):(fz z l m).set l.length x=fz z (l++[x]) m:=by
 unfold fz;obtain ⟨k,hk⟩ : ∃ k,m-l.length=k+1:=⟨m-l.length-1,by omega⟩;rw[List.set_append_right _ _ (by simp),hk,Nat.sub_self,List.replicate_succ,List.set_cons_zero,List.length_append,List.length_singleton,show m-(l.length+1)=k by omega,List.append_assoc];rfl
theorem Nx {α:Type} {z:α} {l:List α} {m:Nat} (h:l.length=m):fz z l m=l:=by simp [fz,h]
theorem VE {α:Type} {l:List α} {i:Nat} {x:α} (h:l[i]? = some x):l.take (i+1)=l.take i++[x]:=by
 rw[List.take_add_one,h];rfl
end Go.e9
