/-
  Natural numbers (layer 1): greatest common divisors.
-/
import Derived.Test.YtfnglkabkfmjcaaGreatB9
import Derived.Test.YtfnglkabkfmjcaaGreatB8
import Derived.Test.YtfnglkabkfmjcaaGreatB7
import Derived.Test.YtfnglkabkfmjcaaGreatB3
import Derived.Test.YtfnglkabkfmjcaaGreatB4
import Derived.Test.YtfnglkabkfmjcaaGreatB1
import Derived.Test.YtfnglkabkfmjcaaGreatB5
import Derived.ProofKit
import Derived.OpenShut
import Derived.ChangeOld
import Derived.WalkKit
import Derived.WideShapes
import Derived.ChangeArms
set_option linter.unusedSimpArgs false
set_option linter.unusedVariables false
set_option linter.unnecessarySimpa false
namespace Go.c9
open F
attribute [local irreducible] AA AF AP AD CI AY AW A6 A5 B2 AM BQ B8 C8 BM A1 BR B9 AB A7 AJ pw BO BH CH CK CS CP CD BT CJ
set_option maxHeartbeats 4000000
variable {L:Lib}
theorem rD {k':IntKind} {a:Int} {K:AV->Prop} (hk:K (.int .i64 (a/4294967296))):AD .shr .i64 a k' 32 K:=by
 refine Zi (by omega) ?_;have:pw 32=4294967296:=by decide +kernel
 rw[this];exact hk
theorem qQ {t:Int} {K:Int->Prop} (hk:K (ZW t:Int)):AY .u32 t K:=by
 unfold AY;rw[IntKind.wrap_u32,<-jQ];exact hk
section
variable {k':IntKind} {a b:Nat} {K:AV->Prop}
theorem Zh {i:Nat} (hi:i<2) (ha:a<4294967296) (hk:K (.int .u64 ((a*4294967296^i:Nat):Int))):AD .shl .u64 (a:Int) k' (32*(i:Int)) K:=by
 rcases i with _|_|i
 ·exact TY (s:=0) (by omega) (by omega) hk
 ·exact TY (s:=32) (by omega) (by omega) hk
 ·omega
end
theorem xV {x y M N:Int} (hx : -M<=x/\x<=M) (hy : -N<=y/\y<=N) : -(M*N)<=x*y/\x*y<=M*N:=by
 have h1:x.natAbs<=M.natAbs:=by omega
 have h2:y.natAbs<=N.natAbs:=by omega
 have h3:=Nat.mul_le_mul h1 h2;rw[<-Int.natAbs_mul,<-Int.natAbs_mul]at h3;have h4:0<=M*N:=Int.mul_nonneg (by omega) (by omega);omega
theorem kY (N:g6 L) (a b:List Nat) (q1 q2:Bool) (hA:A2 a) (hB:A2 b) (la:a.length<=549755813888) (lb:b.length<=549755813888) (h0:val b≠0) :
  Ev L 75 [.sl q1 (a.map AL),.sl q2 (b.map AL)] (.j5 [.sl false ((dg (val a/val b)).map AL),.sl false ((dg (val a%val b)).map AL),.int .i64 0]):=by
 have l1:=EX hA;have l2:=EX hB;have hp:=Z2 h0;refine Ev.x N.PT rfl rfl ?_;(repeat' ((first|(apply AG<;>intro hc<;>try (exfalso;omega))|apply AR|apply AE|refine L1 (OQ N a _ hA (by omega)) ?_|refine L1 (OQ N b _ hB (by omega)) ?_|refine AC (lC N _ _ _ _ h0 (by omega) (by omega)) ?_)<;>conv=>whnf))
 refine AX rfl ?_;simp only[A3,CG,and_true,true_and];exact ⟨CM _,CM _⟩
theorem vR (N:g6 L) (V:Nat) (q:Bool) (hl:(dg V).length<=2):Ev L 76 [.sl q ((dg V).map AL)] (.int .u64 (V:Int)):=by
 have hV:=S9.1 hl;have hD:=DX V;have hv:=B3 V;refine Ev.x N.P3 rfl rfl ?_;generalize dg V=l at *;(repeat' ((first|apply AR|apply AE)<;>conv=>whnf))
 refine FV (λ i _=>l.length-i) (λ(i:Nat) (a:Nat)=>i<=l.length/\a=val (l.take i)) (λ i a=>[(3,.int .u64 (a:Int)),(8,.int .i64 i)]) (λ_ _=>[]) [] [] 0 0 (by (conv=>whnf);exact ⟨rfl,rfl,rfl⟩) ⟨by omega,rfl⟩ ?_;intro i a ⟨p1,p2⟩ ih;by_cases hi:i<l.length
 ·obtain ⟨d,hd⟩ : ∃ d,l[i]? = some d:=⟨_,zE hi⟩
  have cj:=hD.at hd;have h1:=EB hd;have h2:=E6 (hD.take i);have h3:=E6 (hD.take (i+1));rw[List.length_take,Nat.min_eq_left (by omega)]at h2 h3;have h4:4294967296^(i+1)<=4294967296^2:=Nat.pow_le_pow_right (by omega) (by omega);(repeat' ((first|(apply AG<;>intro hc<;>try (exfalso;omega))|(apply EK;omega)|(apply CR;omega)|(refine BA (by assumption) ?_ rfl ?_;omega)|apply AE)<;>conv=>whnf))
  refine Zh (by omega) cj ?_;(conv=>whnf)
  rw[Nat.mul_comm d];refine cI (32*i) (by rw[Nat.pow_mul];exact Nat.mul_mod_right _ _) (by rw[Nat.pow_mul,p2];exact h2) (by omega) ?_;(conv=>whnf)
  (repeat' ((first|(apply AU;omega)|fail)<;>conv=>whnf))
  exact BW [] (by (conv=>whnf);exact ⟨rfl,rfl,rfl⟩) (ih (i+1) _ (by omega) ⟨by omega,by rw[h1,p2]⟩)
 ·obtain rfl:i=l.length:=by omega
  clear ih;(repeat' ((first|(apply AG<;>intro hc<;>try (exfalso;omega))|apply AE)<;>conv=>whnf))
  rw[DE (Nat.le_refl _)]at p2;exact C2 (by omega)
theorem iJ {f:Nat} {vs:List AV} {tm:Tm} {M:Mem} {K:AV->Mem->Prop} {v:AV} (h:A7 L f vs tm M (λ r M'=>r=v/\M'=M)) (hk:K v M):A7 L f vs tm M K:=by
 unfold A7 at h ⊢;intro σ own hs;obtain ⟨r,m6,σ',M',h1,h2,h3,rfl,rfl⟩:=h σ own hs;exact ⟨_,m6,σ',_,h1,h2,h3,hk⟩
theorem vQ (N:g6 L) (a:List Nat) (q:Bool) (n s:Nat) (hD:A2 a) (hn:3<=n) (hl:a.length<=n) (Jc:n<=549755813888) (hs:s<=31) (l9:val a*2^s<4294967296^n) :
  Ev L 78 [.sl q (a.map AL),.int .i64 (n:Int),.int .u64 (s:Int)] (.int .i64 ((val a/YQ n s:Nat):Int)):=by
 have b1:=VI hD (n-1);have b2:=VI hD (n-2);have b3:=VI hD (n-3);have vh:=yB hD hn hl rfl rfl l9;have heq:=yA (s:=s) hD hn hl hs rfl rfl rfl;obtain ⟨f1,f2,f3,f4⟩:=W9 (s:=s) b3 (by omega);refine Ev.x N.P0 rfl rfl ?_;(repeat' ((first|(apply AZ;omega)|(apply B7;omega)|apply AE)<;>conv=>whnf))
 refine iJ (v := .int .u64 ((a.getD (n-1) 0:Nat):Int)) ?_ ?_
 ·refine GI 1000 N.IX rfl rfl ?_
  (repeat' ((first|(apply AG<;>intro hc<;>try (exfalso;omega))|(apply CR;omega)|apply AR|(refine U4 (by assumption) ?_ (λ e he hb => ?_);omega)|apply AE)<;>conv=>whnf))
  ·refine ⟨rfl,_,rfl,?_,rfl⟩
   rw[show ((n:Int)-1).toNat=n-1 by omega]at he;rw[GU he];rfl
  ·refine ⟨rfl,_,rfl,?_,rfl⟩
   rw[<-VJ (show a.length<=n-1 by omega)];rfl
 (conv=>whnf)
 (repeat' ((first|(apply AZ;omega)|(apply B7;omega)|(apply SX;omega))<;>conv=>whnf))
 refine iJ (v := .int .u64 ((a.getD (n-2) 0:Nat):Int)) ?_ ?_
 ·refine GI 1000 N.IX rfl rfl ?_
  (repeat' ((first|(apply AG<;>intro hc<;>try (exfalso;omega))|(apply CR;omega)|apply AR|(refine U4 (by assumption) ?_ (λ e he hb => ?_);omega)|apply AE)<;>conv=>whnf))
  ·refine ⟨rfl,_,rfl,?_,rfl⟩
   rw[show ((n:Int)-2).toNat=n-2 by omega]at he;rw[GU he];rfl
  ·refine ⟨rfl,_,rfl,?_,rfl⟩
   rw[<-VJ (show a.length<=n-2 by omega)];rfl
 (conv=>whnf)
 generalize a.getD (n-1) 0=d1 at *;generalize a.getD (n-2) 0=d2 at *;(repeat' ((first|(apply TV;omega)|fail)<;>conv=>whnf))
 refine TY (by omega) vh ?_;(conv=>whnf)
 generalize hT:(d1*4294967296+d2)*2^s=T at *;(repeat' ((first|(apply AZ;omega)|(apply B7;omega))<;>conv=>whnf))
 refine iJ (v := .int .u64 ((a.getD (n-3) 0:Nat):Int)) ?_ ?_
 ·refine GI 1000 N.IX rfl rfl ?_
  (repeat' ((first|(apply AG<;>intro hc<;>try (exfalso;omega))|(apply CR;omega)|apply AR|(refine U4 (by assumption) ?_ (λ e he hb => ?_);omega)|apply AE)<;>conv=>whnf))
  ·refine ⟨rfl,_,rfl,?_,rfl⟩
   rw[show ((n:Int)-3).toNat=n-3 by omega]at he;rw[GU he];rfl
  ·refine ⟨rfl,_,rfl,?_,rfl⟩
   rw[<-VJ (show a.length<=n-3 by omega)];rfl
 (conv=>whnf)
 generalize a.getD (n-3) 0=d3 at *;skip
 refine TY (by omega) f4 ?_;(conv=>whnf)
 (repeat' (apply FL<;>conv=>whnf))
 rw[W8]at f2;refine rB s (by rw[<-hT];exact Nat.mul_mod_left _ _) f2 (by have:=fD (k:=d1*4294967296+d2) (show s<=64 by omega) (by omega);omega) ?_;(conv=>whnf)
 (repeat' ((first|apply Za|(apply V2;omega))<;>conv=>whnf))
 rw[heq];exact C2 rfl
theorem AgF (N:g6 L) (P Q:Int) (hP:0<=P/\P<=4611686018427387904) (hQ:0<=Q/\Q<=4611686018427387904) : ∃ r,Ev L 79 [.int .i64 P,.int .i64 Q] r /\ ∃ a b c d:Int,(iL a b c d/\(-2147483647<=a/\a<=2147483647)/\(-2147483647<=b/\b<=2147483647)/\(-2147483647<=c/\c<=2147483647)/\(-2147483647<=d/\d<=2147483647))/\(b≠0->ZH P Q a b c d)/\r = .j5 [.int .i64 a,.int .i64 b,.int .i64 c,.int .i64 d]:=by
 refine Ev.xE N.PX rfl rfl ?_;(repeat' (apply AE<;>conv=>whnf))
 refine Xw (λ_ _ _ _ _ q=>(q+2147483648).toNat) (λ(a b c d p q:Int)=>V5 P Q a b c d p q/\((-2147483647<=a/\a<=2147483647)/\(-2147483647<=b/\b<=2147483647)/\(-2147483647<=c/\c<=2147483647)/\(-2147483647<=d/\d<=2147483647))/\(p<=4611686018427387904/\q<=4611686018427387904)/\XW P Q a b c d/\(b≠0->ZH P Q a b c d)) (λ a b c d p q=>[(0,.int .i64 p),(1,.int .i64 q),(4,.int .i64 a),(5,.int .i64 b),(6,.int .i64 c),(7,.int .i64 d)]) (λ_ _ _ _ _ _=>[]) [] [] 1 0 0 1 P Q (by (conv=>whnf);exact ⟨rfl,rfl,rfl⟩) ⟨V5.start hP.1 hQ.1,by omega,by omega,XW.start P Q,λ h=>absurd rfl h⟩ ?_;intro a b c d p q ⟨p1,⟨⟨p2,p2'⟩,⟨p3,p3'⟩,⟨p4,p4'⟩,⟨p5,p5'⟩⟩,⟨p6,p7⟩,p8,p9⟩ ih;have g1:=p1.pa;have g2:=p1.pb;have g3:=p1.qc;have g4:=p1.qd;by_cases ja:q+c=0
 ·(repeat' ((first|(apply AG<;>intro hc<;>try (exfalso;omega))|(apply AU;omega)|apply AE)<;>conv=>whnf))
  refine ⟨.j5 [.int .i64 a,.int .i64 b,.int .i64 c,.int .i64 d],?_,a,b,c,d,⟨p1.sg,by omega⟩,p9,rfl⟩;(conv=>whnf)
  exact AX rfl (by simp [A3,CG])
 by_cases yu:q+d=0
 ·(repeat' ((first|(apply AG<;>intro hc<;>try (exfalso;omega))|(apply AU;omega)|apply AE)<;>conv=>whnf))
  refine ⟨.j5 [.int .i64 a,.int .i64 b,.int .i64 c,.int .i64 d],?_,a,b,c,d,⟨p1.sg,by omega⟩,p9,rfl⟩;(conv=>whnf)
  exact AX rfl (by simp [A3,CG])
 by_cases hff:(p+a)/(q+c)=(p+b)/(q+d)
 ·obtain ⟨s1,s2,s3,s4⟩:=p1.step ja yu rfl hff
  have s5:=s4 p8;have s6:=s5.half;have s7:=s1.qc;by_cases eg:2147483647<(p+a)/(q+c)
  ·(repeat' ((first|(apply AG<;>intro hc<;>try (exfalso;omega))|(apply AU;omega)|(refine OW ?_ ?_ (λ_ => ?_) (λ_ _ => ?_);omega;omega;all_goals try (exfalso;omega))|apply AE)<;>conv=>whnf))
   refine ⟨.j5 [.int .i64 a,.int .i64 b,.int .i64 c,.int .i64 d],?_,a,b,c,d,⟨p1.sg,by omega⟩,p9,rfl⟩;(conv=>whnf)
   exact AX rfl (by simp [A3,CG])
  ·have t1:=xV (x:=(p+a)/(q+c)) (y:=c) (M:=2147483647) (N:=2147483647) (by omega) (by omega)
   have t2:=xV (x:=(p+a)/(q+c)) (y:=d) (M:=2147483647) (N:=2147483647) (by omega) (by omega);(repeat' ((first|(apply AG<;>intro hc<;>try (exfalso;omega))|(apply AU;omega)|(apply B7;omega)|(apply EK;omega)|(refine OW ?_ ?_ (λ_ => ?_) (λ_ _ => ?_);omega;omega;all_goals try (exfalso;omega))|(apply CI.neg;omega)|apply AE)<;>conv=>whnf))
   all_goals first
    | exact BW [] (by (conv=>whnf);exact ⟨rfl,rfl,rfl⟩) (ih _ _ _ _ _ _ (by omega) ⟨s1,by omega,by omega,s6,λ_=>s5⟩)
    |(refine ⟨.j5 [.int .i64 a,.int .i64 b,.int .i64 c,.int .i64 d],?_,a,b,c,d,⟨p1.sg,by omega⟩,p9,rfl⟩
      (conv=>whnf)
      exact AX rfl (by simp [A3,CG]))
 ·(repeat' ((first|(apply AG<;>intro hc<;>try (exfalso;omega))|(apply AU;omega)|(refine OW ?_ ?_ (λ_ => ?_) (λ_ _ => ?_);omega;omega;all_goals try (exfalso;omega))|apply AE)<;>conv=>whnf))
  refine ⟨.j5 [.int .i64 a,.int .i64 b,.int .i64 c,.int .i64 d],?_,a,b,c,d,⟨p1.sg,by omega⟩,p9,rfl⟩;(conv=>whnf)
  exact AX rfl (by simp [A3,CG])
theorem AgG (N:g6 L) (x y:List Nat) (q1 q2:Bool) (f g:Int) (hX:A2 x) (hY:A2 y) (hl:y.length<=x.length) (lx:x.length<=549755813888) (hs:U2 f g) (R:Nat) (hR:(R:Int)=f*val x+g*val y) (Kr:R<=val x) :
  Ev L 80 [.sl q1 (x.map AL),.sl q2 (y.map AL),.int .i64 f,.int .i64 g] (.sl false ((dg R).map AL)):=by
 refine Ev.x N.PY rfl rfl ?_;(repeat' ((first|apply AR|apply AE)<;>conv=>whnf))
 refine EJ (enc:=AL) 0 x.length rfl rfl (by omega) ?_;(conv=>whnf)
 (repeat' (apply AR<;>conv=>whnf))
 refine GR (λ i _ _=>x.length-i) (λ(i:Nat) (o:List Nat) (c:Int)=>i<=x.length/\o.length=x.length/\A2 o /\ -2147483648<=c/\c<=2147483648/\(val (o.take i):Int)+((4294967296^i:Nat):Int)*c=f*val (x.take i)+g*val (y.take i)) (λ i o c=>[(10,.int .i64 c),(19,.int .i64 i)]) (λ i o c=>[(16,16,.rw 1 (o.map AL))]) [] [] 0 (List.replicate x.length 0) 0 (by (conv=>whnf);exact ⟨rfl,rfl,rfl⟩) ⟨by omega,by simp,JS _,by omega,by omega,by simp [val]⟩ ?_;intro i o c ⟨p1,p2,p3,p4,p5,p6⟩ ih;by_cases hi:i<x.length
 ·obtain ⟨d,hd⟩ : ∃ d,x[i]? = some d:=⟨_,zE hi⟩
  have cj:=hX.at hd;have h1:=EB hd;by_cases hy:i<y.length
  ·obtain ⟨e,he⟩ : ∃ e,y[i]? = some e:=⟨_,zE hy⟩
   have Lt:=hY.at he;have h2:=EB he;obtain ⟨r1,r2,r3⟩:=hs.Xo cj Lt;have k6:=sW (d:=d) (e:=e) p6 rfl;(repeat' ((first|(apply AG<;>intro hc<;>try (exfalso;omega))|(apply AU;omega)|(apply EK;omega)|(apply V2;omega)|apply AR|(refine BA (by assumption) ?_ rfl ?_;omega)|apply AE)<;>conv=>whnf))
   generalize htt:f * ↑d+c+g * ↑e=t at *;refine qQ ?_;(conv=>whnf)
   (repeat' ((first|(apply AZ;omega)|fail)<;>conv=>whnf))
   refine FE (by omega) ?_;(conv=>whnf)
   refine rD ?_;(conv=>whnf)
   (repeat' ((first|(apply AU;omega)|fail)<;>conv=>whnf))
   refine BW [] (by (conv=>whnf);exact ⟨rfl,rfl,rfl⟩) (ih (i+1) _ _ (by omega) ⟨by omega,by simpa using p2,p3.set _ (sV t),by omega,by omega,?_⟩);rw[F6 (by omega),h1,h2,Nat.pow_succ];simp only[Int.natCast_add,Int.natCast_mul,jQ];exact k6
  ·have h2:=iG (y:=y) (i:=i) (by omega)
   obtain ⟨r1,r2,r3⟩:=hs.Xo (e:=0) cj (by omega);have k6:=sW (d:=d) (e:=0) p6 rfl;rw[Int.mul_zero,Int.add_zero]at k6;have r4 : -9223372030412324865<=f*(d:Int)/\f*(d:Int)<=9223372030412324865:=r1;(repeat' ((first|(apply AG<;>intro hc<;>try (exfalso;omega))|(apply AU;omega)|(apply EK;omega)|(apply V2;omega)|apply AR|(refine BA (by assumption) ?_ rfl ?_;omega)|apply AE)<;>conv=>whnf))
   generalize htt:f * ↑d+c=t at *;refine qQ ?_;(conv=>whnf)
   (repeat' ((first|(apply AZ;omega)|fail)<;>conv=>whnf))
   refine FE (by omega) ?_;(conv=>whnf)
   refine rD ?_;(conv=>whnf)
   (repeat' ((first|(apply AU;omega)|fail)<;>conv=>whnf))
   refine BW [] (by (conv=>whnf);exact ⟨rfl,rfl,rfl⟩) (ih (i+1) _ _ (by omega) ⟨by omega,by simpa using p2,p3.set _ (sV t),by omega,by omega,?_⟩);rw[F6 (by omega),h1,h2,Nat.pow_succ];simp only[Int.natCast_add,Int.natCast_mul,jQ];rw[Int.mul_zero,Int.add_zero]at k6;exact k6
 ·obtain rfl:i=x.length:=by omega
  clear ih;rw[DE (by omega),DE (Nat.le_refl _),DE (by omega)]at p6;have Wg:=E6 p3;have hxv:=E6 hX;rw[p2]at Wg;have hVR:val o=R:=by
   have:=Aeb Wg p6 (by omega) (by omega)
   omega
  have kj:=EX p3;rw[<-p2,<-hVR];(repeat' ((first|(apply AG<;>intro hc<;>try (exfalso;omega))|apply AE|refine cA N (by assumption) (by omega) rfl (by first|rfl|omega|assumption) ?_)<;>conv=>whnf))
  refine H5 (enc:=AL) (λ_=>rfl) (by omega) ?_;(conv=>whnf)
  refine AX ?_ (by simp only[A3,true_and];exact CM _);rw[List.drop_zero,bR p3]
theorem AgJ (N:g6 L) (X Y:Nat) (vd:Y<=X) (hy:3<=(dg Y).length) (lx:(dg X).length<=549755813888) : ∃ r,Ev L 81 [.sl false ((dg X).map AL),.sl false ((dg Y).map AL)] r /\ ∃ A B:Nat,(B<Y/\B<=A/\A<=X/\Nat.gcd A B=Nat.gcd X Y)/\r = .j5 [.sl false ((dg A).map AL),.sl false ((dg B).map AL)]:=by
 have hY0:Y≠0:=λ h=>by rw[h,E4]at hy;simp at hy
 have xm:X≠0:=by omega
 have hlen:=VB vd;have hdv:=λ q q'=>lC N X Y q q' hY0 lx (by omega)
 have d1:=DX X;have d2:=DX Y;have v1:=B3 X;have v2:=B3 Y;obtain ⟨xt,Oo,Oq⟩:=kD xm;have Hs:=d1.at Oo;obtain ⟨b1,b2,b3,b4⟩:=mP Oq Hs;have Gp:=vG N xt Hs;generalize hs:32-o4 xt=s at *;have du:s<=31:=by omega
 obtain ⟨n1,n2⟩:=mK d1 Oo (by omega) du b3 b4;have qa:=λ(f g:Int) (R:Nat) (hs:U2 f g) (h1:(R:Int)=f*val (dg X)+g*val (dg Y)) (h2:R<=val (dg X)) (q q':Bool)=>AgG N (dg X) (dg Y) q q' f g d1 d2 (by omega) lx hs R h1 h2
 have n3:val (dg Y)*2^s<4294967296^(dg X).length:=Nat.lt_of_le_of_lt (Nat.mul_le_mul_right _ (by omega)) n1;have kj:=λ q=>vQ N (dg X) q (dg X).length s d1 (by omega) (by omega) lx du n1
 have gk:=λ q=>vQ N (dg Y) q (dg X).length s d2 (by omega) (by omega) lx du n3
 have hK:=AiU (dg X).length s;obtain ⟨e1,x1,x2,x3⟩:=yD (V:=X) hK;obtain ⟨e2,y1,y2,y3⟩:=yD (V:=Y) hK;rw[v1]at kj;rw[v2]at gk;have zf:=yC d1 (n:=(dg X).length) (by omega) (by omega) du n1;have Eg:=yC d2 (n:=(dg X).length) (by omega) (by omega) du n3;rw[v1]at zf;rw[v2]at Eg;generalize YQ (dg X).length s=K at *;generalize X/K=P at *;generalize Y/K=Q at *;rw[v1,v2]at qa;obtain ⟨rc,xv,a,b,c,d,⟨z1,z2,z3,z4,z5⟩,z6,rfl⟩:=AgF N (P:Int) (Q:Int) (by omega) (by omega);have e1:(((dg X).length:Int)-1).toNat=(dg X).length-1:=by omega
 rw[<-e1]at Oo;refine Ev.xE N.P2 rfl rfl ?_;by_cases hb:b=0
 ·(repeat' ((first|(apply AG<;>intro hc<;>try (exfalso;omega))|(apply B7;omega)|(apply CR;omega)|apply AR|(refine BA (by assumption) ?_ rfl ?_;omega)|apply AE|refine AC (Gp) ?_|refine AC (kj _) ?_|refine AC (gk _) ?_|refine AC (xv) ?_|refine AC (hdv _ _) ?_)<;>conv=>whnf))
  refine ⟨_,?_,Y,X%Y,⟨Nat.mod_lt _ (by omega),Nat.le_of_lt (Nat.mod_lt _ (by omega)),vd,aG X Y⟩,rfl⟩;(conv=>whnf)
  exact AX rfl (ZV _ _)
 ·obtain ⟨g1,g2,g3,g4⟩:=z6 hb (X:Int) (Y:Int) (K:Int) _ _ (by omega) x1 y1 x2 x3 y2 y3
  obtain ⟨A,hA⟩:=Int.eq_ofNat_of_zero_le (show 0<=a*X+b*Y by omega);obtain ⟨B,hB⟩:=Int.eq_ofNat_of_zero_le g1;have s1:U2 a b:=by rcases z1 with ⟨h1,h2,h3,h4⟩|⟨h1,h2,h3,h4⟩<;>unfold U2<;>omega
  have s2:U2 c d:=by rcases z1 with ⟨h1,h2,h3,h4⟩|⟨h1,h2,h3,h4⟩<;>unfold U2<;>omega
  (repeat' ((first|(apply AG<;>intro hc<;>try (exfalso;omega))|(apply B7;omega)|(apply CR;omega)|apply AR|(refine BA (by assumption) ?_ rfl ?_;omega)|apply AE|refine AC (Gp) ?_|refine AC (kj _) ?_|refine AC (gk _) ?_|refine AC (xv) ?_|refine AC (qa a b A s1 hA.symm (by omega) _ _) ?_|refine AC (qa c d B s2 hB.symm (by omega) _ _) ?_)<;>conv=>whnf))
  rw[hA,hB]at g4;rw[hA,hB]at g2;refine ⟨_,?_,A,B,⟨by omega,by omega,by omega,by simpa using g4⟩,rfl⟩;(conv=>whnf)
  exact AX rfl (ZV _ _)
theorem xB (N:g6 L) (X Y:Nat) (vd:Y<=X) (lx:(dg X).length<=549755813888) :
 AA L [It.lp GV.l1,It.g7 0,
   It.code
    ((((BJ.ops GV.r6 false).dr [23,30,31] []).seq
       (BJ.cond 32 (((BJ.ops GV.r7 false).dr [5,6,32,33] []).seq BJ.ret) BJ.skip)).seq
     (((BJ.ops GV.r8 false).dr [5,7,32,34,35,36,37,38,39] []).seq
      (((BJ.ops GV.r9 false).dr [6,8,40,41,42,43] []).seq
       ((BJ.block 2 GV.l2.loop).seq
        (((BJ.ops GV.s8 false).dr [9,10,45,50,51,52,53,54,55,56] []).seq BJ.ret)))))]
  [(6,AV.sl false (List.map AL (dg Y))),(5,AV.sl false (List.map AL (dg X)))] []
  (U5 GV (AV.sl false (List.map AL (dg (X.gcd Y))))):=by
 refine FV (λ_ y=>y) (λ(x y:Nat)=>y<=x/\(dg x).length<=549755813888/\Nat.gcd x y=Nat.gcd X Y) (λ x y=>[(6,AV.sl false (List.map AL (dg y))),(5,AV.sl false (List.map AL (dg x)))]) (λ_ _=>[]) [] [] X Y (by (conv=>whnf);exact ⟨rfl,rfl,rfl⟩) ⟨vd,lx,rfl⟩ ?_;intro x y ⟨p1,p2,p3⟩ ih;rw[<-p3]at ih ⊢;generalize Nat.gcd X Y=G at *;clear vd lx;subst p3;have hlen:=VB p1;by_cases h3:3<=(dg y).length
 ·obtain ⟨r,hr,A,B,⟨k1,k2,k3,k4⟩,rfl⟩:=AgJ N x y p1 h3 p2
  have k5:=VB k3;(repeat' ((first|(apply AG<;>intro hc<;>try (exfalso;omega))|apply AR|apply AE|refine AC (hr) ?_)<;>conv=>whnf))
  exact BG [] (ih A B k1 ⟨k2,by omega,k4⟩)
 ·clear ih
  by_cases h0:y=0
  ·subst h0
   have mf:(dg 0).length=0:=by rw[E4];rfl
   (repeat' ((first|(apply AG<;>intro hc<;>try (exfalso;omega))|apply AR|apply AE)<;>conv=>whnf))
   rw[Nat.gcd_zero_right];exact AX rfl (by simp only[A3,true_and];exact CM _)
  ·have hp:=Z2 h0
   have hm:=VB (Nat.le_of_lt (Nat.mod_lt x (show y>0 by omega)));have hd:=λ q q'=>lC N x y q q' h0 p2 (by omega)
   have Ei:=λ q=>vR N y q (by omega)
   have qh:=λ q=>vR N (x%y) q (by omega)
   have hb:y<18446744073709551616:=S9.1 (show (dg y).length<=2 by omega);have dk:x%y<y:=Nat.mod_lt _ (by omega);rw[<-aG x y];(repeat' ((first|(apply AG<;>intro hc<;>try (exfalso;omega))|apply AR|apply AE|refine AC (hd _ _) ?_|refine AC (Ei _) ?_|refine AC (qh _) ?_)<;>conv=>whnf))
   refine FV (λ_ q=>q) (λ(p q:Nat)=>p<18446744073709551616/\q<18446744073709551616/\Nat.gcd p q=Nat.gcd y (x%y)) (λ p q=>[(9,.int .u64 (p:Int)),(10,.int .u64 (q:Int))]) (λ_ _=>[]) [] [] y (x%y) (by (conv=>whnf);exact ⟨rfl,rfl,rfl⟩) ⟨hb,by omega,rfl⟩ ?_;intro p q ⟨g1,g2,g3⟩ ih;rw[<-g3]at ih ⊢;by_cases hq:q=0
   ·subst hq
    clear ih;obtain ⟨v1,v2⟩:=jZ g1;rw[Nat.gcd_zero_right];have kj:=EX v2;have ht:=bR v2;rw[v1]at kj ht;(repeat' ((first|(apply AG<;>intro hc<;>try (exfalso;omega))|apply FL|(apply EI;omega)|apply FW|apply AE)<;>conv=>whnf))
    generalize p%4294967296=lo at *;generalize p/4294967296=hi at *;refine cA N v2 (by simp) rfl rfl ?_;rw[v1];(conv=>whnf)
    skip
    refine H5 (enc:=AL) (l:=[lo,hi]) (λ_=>rfl) (by omega) ?_;(conv=>whnf)
    refine AX ?_ (by simp only[A3,true_and];exact CM _);rw[List.drop_zero,ht]
   ·have hpq:p%q<q:=Nat.mod_lt _ (by omega)
    (repeat' ((first|(apply AG<;>intro hc<;>try (exfalso;omega))|(apply ZI;omega)|apply AE)<;>conv=>whnf))
    exact BG [] (ih q (p%q) hpq ⟨g2,by omega,aG p q⟩)
theorem AgE (N:g6 L) (a b:List Nat) (q1 q2:Bool) (hA:A2 a) (hB:A2 b) (la:a.length<=549755813888) (lb:b.length<=549755813888) :
  Ev L 82 [.sl q1 (a.map AL),.sl q2 (b.map AL)] (.sl false ((dg (Nat.gcd (val a) (val b))).map AL)):=by
 have t1:=λ q=>Z5 N a q hA (by omega)
 have t2:=λ q=>Z5 N b q hB (by omega)
 have l1:=EX hA;have l2:=EX hB;have m4:=λ q q'=>T9 N (dg (val a)) (dg (val b)) q q' (DX _) (DX _) (by omega) (by omega)
 rw[B3,B3]at m4;generalize val a=X at *;generalize val b=Y at *;refine Ev.x N.GV rfl rfl ?_;by_cases l9:X<Y
 ·have hn:DC X Y = -1:=(IR (by omega)).symm
  rw[hn]at m4;(repeat' ((first|(apply AG<;>intro hc<;>try (exfalso;omega))|apply AE|refine AC (t1 _) ?_|refine AC (t2 _) ?_|refine AC (m4 _ _) ?_)<;>conv=>whnf))
  rw[Nat.gcd_comm];exact BW [] (by (conv=>whnf);exact ⟨rfl,rfl,rfl⟩) (xB N Y X (by omega) (by omega))
 ·have kg:0<=DC X Y:=by unfold DC;split<;>(try split)<;>omega
  generalize DC X Y=cm at *;(repeat' ((first|(apply AG<;>intro hc<;>try (exfalso;omega))|apply AE|refine AC (t1 _) ?_|refine AC (t2 _) ?_|refine AC (m4 _ _) ?_)<;>conv=>whnf))
  exact BW [] (by (conv=>whnf);exact ⟨rfl,rfl,rfl⟩) (xB N X Y (by omega) (by omega))
end Go.c9
namespace Go.c9
def Y0 (N:Nat):List J0->Bool
 | []=>true
 | .tmp t::r=>Nat.blt t N&&Y0 N r
 | .cell t _ _::r=>Nat.blt t N&&Y0 N r
theorem oE {N:Nat} {s s':St} (ho:s.own=s'.own) (oy : ∀ j,j<N->j4 s'.tm j=j4 s.tm j) : ∀ {res:List J0},Y0 N res=true->res.mapM (FB s)=res.mapM (FB s')
 | [],_=>rfl
 | .tmp t::r,h=>by
  simp only[Y0,Bool.and_eq_true]at h;have:=oE ho oy h.2
  simp only[List.mapM_cons,FB,oy t (WD.1 h.1),this]
 | .cell t agg n::r,h=>by
  simp only[Y0,Bool.and_eq_true]at h;have:=oE ho oy h.2
  simp only[List.mapM_cons,FB,oy t (WD.1 h.1),this,ho]
def Zo (N:Nat) (fn:AFn) (tm:Tm) (K:AV->Mem->Prop) (bf:Tm) (M':Mem):Prop:=gh N bf=tm/\gB bf M' fn.res (λ rs=>Xq rs λ v=>K v M')
theorem E2 {L:Lib} {f:Nat} {fn:AFn} {vs:List AV} {tm:Tm} {M:Mem} {K:AV->Mem->Prop} (N:Nat) (hL:L f=some fn) (hp:Nat.beq vs.length fn.ay=true) (hN:(Nat.ble fn.ay N&&(IL N fn.body&&Y0 N fn.res))=true)
  (h:AA L [.code fn.body] (CZ 0 vs++GP N tm) M (Zo N fn tm K)):A7 L f vs tm M K:=by
 intro σ own hs;simp only[Bool.and_eq_true]at hN;obtain ⟨n1,n2,n3⟩:=hN;have n1:=Nat.le_of_ble_eq_true n1;have hp:vs.length=fn.ay:=Nat.eq_of_beq_eq_true hp;have Nq:RX σ (CZ 0 vs++GP N tm) M ⟨PN (BI σ) (CZ 0 vs++GP N tm),own⟩:=⟨λ j=>Or.inr (by rw[LB];exact LC (OR σ) j _),hs⟩;obtain ⟨n,c,s',hr,σ',bf,M',hR,hg,qg⟩:=h σ _ Nq;have Lz:Gh N (PN (BI σ) (GP N tm)) (CZ 0 (vs.map (BI σ))) (PN (BI σ) (CZ 0 vs++GP N tm)):=by
  constructor
  ·intro j hj
   rw[mB,LC (OR σ),LC (OR σ)];rcases bT j (GP N tm) (CZ 0 vs) with ⟨_,e⟩|⟨hn,e⟩
   ·rw[e]
   ·rw[e,qA hj,pY j 0 vs hn]
  ·intro j hj
   rw[LC (OR σ),LC (OR σ)];rcases bT j (GP N tm) (CZ 0 vs) with ⟨hn,e⟩|⟨_,e⟩
   ·have:=mA j 0 vs hn
    omega
   ·rw[e]
 obtain ⟨s,r1,r2,r3⟩:=JC n (by simp [VM,n2]) Lz hr;obtain ⟨rs,i1,i2,i3⟩:=oD hR qg;rw[<-oE (s:=s) r2.symm r3.lo n3,i3]at i1;have key : ∃ r,IE (rs.map (BV σ'))=BI σ' r/\K r M':=by
  match rs,i2,i3 with
  | [],h,_=>exact ⟨.j5 [],rfl,h⟩
  | [v],h,e =>
   simp only[List.map_cons,List.map_nil,List.cons.injEq,and_true]at e;exact ⟨v,by simp only[List.map_cons,List.map_nil,IE];exact e.symm,h⟩
  | a::b::l,h,_=>exact ⟨.j5 (a::b::l),rfl,h⟩
 obtain ⟨r,k1,k2⟩:=key;refine ⟨r,s.own,σ',M',GS.intro hL (by simpa using hp) ⟨n,c,s,r1,?_,rfl⟩,?_,?_,k2⟩
 ·rw[i1,Option.map_some,k1]
 ·rw[<-r2];exact hR.sat
 ·intro j
  have e1:tg tm j=tg bf (N+j):=by rw[LB,LB,<-hg,pX]
  rcases hR.tm (N+j) with e|e
  ·rw[e1,e];rfl
  ·rw[e1,<-e,r3.hi (N+j) (by omega),LC (OR σ),pZ,<-LB,e1]
end Go.c9

namespace Go.c9
open F
attribute [local irreducible] AA AF AP AD CI AY AW A6 A5 B2 AM BQ B8 C8 BM A1 BR B9 AB A7 AJ pw BO BH CH CK CS CP CD BT CJ
variable {L:Lib}
set_option maxHeartbeats 8000000
theorem Ys {k:Nat} {K:Int->Prop} (h:0<k/\k<=9223372036854775808) (hk:K ((18446744073709551616-k:Nat):Int)):AY .u64 (-(k:Int)) K:=by
 unfold AY;have e:IntKind.u64.wrap (-(k:Int))=((18446744073709551616-k:Nat):Int):=by
  simp [IntKind.wrap,IntKind.bits,IntKind.signed];omega
 rw[e];exact hk
theorem CI.Hw {k:Nat} {K:AV->Prop} (h:0<k/\k<=9223372036854775808) (hk:K (.int .u64 (k:Int))):CI .neg .u64 ((18446744073709551616-k:Nat):Int) K:=by
 refine CI.go (v := .int .u64 (IntKind.u64.wrap (0-((18446744073709551616-k:Nat):Int)))) rfl ?_;have e:IntKind.u64.wrap (0-((18446744073709551616-k:Nat):Int))=(k:Int):=by
  simp [IntKind.wrap,IntKind.bits,IntKind.signed];omega
 rw[e];exact hk
theorem Agt (N:a6 L) (z:Int) (hz : -9223372036854775808<=z/\z<=9223372036854775807):Ev L 85 [.int .i64 z] (.agg (eZ z)):=by
 have two : ∀ k:Nat,k<18446744073709551616 -> ∀ q,Ev L 66 [.sl q [[.int .u32 ((k%4294967296:Nat):Int)],[.int .u32 ((k/4294967296:Nat):Int)]]] (.sl false ((dg k).map AL)):=λ k hk q=>by
  have:=Z5 N.tog6 [k%4294967296,k/4294967296] q (jZ hk).2 (by simp)
  rw[Sd hk]at this;exact this
 refine Ev.x N.PB rfl rfl ?_;by_cases h0:0<=z
 ·obtain ⟨k,rfl⟩:=Int.eq_ofNat_of_zero_le h0
  have hT:=two k (by omega);have z1:=IV k;(repeat' ((first|(apply AG<;>intro hc<;>try (exfalso;omega))|apply FL|(apply CR;omega)|(apply EI;omega)|apply FW|refine X0 rfl rfl ?_|apply AE)<;>conv=>whnf))
  generalize k%4294967296=lo at *;generalize k/4294967296=hi at *;(repeat' (refine AC (hT _) ?_<;>conv=>whnf))
  refine E2 1000 N.DK rfl rfl ?_;(repeat' (apply AE<;>conv=>whnf))
  all_goals (refine ⟨rfl,?_⟩;(conv=>whnf);skip)
  exact AX (EU (by omega) (GO (by omega))) (DP _)
 ·obtain ⟨k,hk⟩:=Int.eq_ofNat_of_zero_le (show 0 <= -z by omega)
  obtain rfl:z = -(k:Int):=by omega
  have hT:=two k (by omega);have z1:=IV k;(repeat' (apply AE<;>conv=>whnf))
  refine Ys (by omega) ?_;(conv=>whnf)
  (repeat' ((first|(apply AG<;>intro hc<;>try (exfalso;omega))|fail)<;>conv=>whnf))
  refine CI.Hw (by omega) ?_;(conv=>whnf)
  (repeat' ((first|(apply AG<;>intro hc<;>try (exfalso;omega))|apply FL|(apply EI;omega)|apply FW|refine X0 rfl rfl ?_)<;>conv=>whnf))
  generalize k%4294967296=lo at *;generalize k/4294967296=hi at *;(repeat' (refine AC (hT _) ?_<;>conv=>whnf))
  refine E2 1000 N.DK rfl rfl ?_;(repeat' ((first|(apply AG<;>intro hc<;>try (exfalso;omega))|apply AR|apply AE)<;>conv=>whnf))
  all_goals (refine ⟨rfl,?_⟩;(conv=>whnf);skip)
  exact AX (EU (by omega) (SH (by omega))) (DP _)
theorem vN (N:a6 L) (n q:Bool) (m:List Nat) (hm:Sm 549755813888 m):Ev L 84 [.agg (rZ q n m)] (.agg (eZ (zv n m))):=by
 have hT:=λ q=>Z5 N.tog6 m q hm.1 (by have:=hm.2;omega)
 have hz:=IV (val m);have ha:=E1 n m;refine Ev.x N.PD rfl rfl ?_;cases n
 ·rw[ER]at *
  (repeat' ((first|apply AE|refine AC (hT _) ?_)<;>conv=>whnf))
  refine E2 1000 N.DK rfl rfl ?_;(repeat' (apply AE<;>conv=>whnf))
  all_goals (refine ⟨rfl,?_⟩;(conv=>whnf);skip)
  exact AX (EU ha.symm (GO (by omega))) (DP _)
 ·rw[TR]at *
  (repeat' ((first|apply AE|refine AC (hT _) ?_)<;>conv=>whnf))
  refine E2 1000 N.DK rfl rfl ?_;(repeat' ((first|(apply AG<;>intro hc<;>try (exfalso;omega))|apply AR|apply AE)<;>conv=>whnf))
  all_goals (refine ⟨rfl,?_⟩;(conv=>whnf);skip)
  ·exact AX (EU ha.symm (SH (by omega))) (DP _)
  ·exact AX (EU ha.symm (GO (by omega))) (DP _)
theorem dZ (N:a6 L) (n q:Bool) (m:List Nat) (hm:Sm 549755813888 m):Ev L 86 [.agg (rZ q n m)] (.int .i64 (q6 (zv n m))):=by
 have m4:=λ q q'=>T9 N.tog6 m [] q q' hm.1 X8 (by have:=hm.2;omega) (by simp)
 rw[JN]at m4;refine Ev.x N.PC rfl rfl ?_;by_cases h0:val m=0
 ·have hn:DC (val m) (0:Nat)=0:=(WG (by omega)).symm
  rw[hn]at m4;(repeat' ((first|(apply AG<;>intro hc<;>try (exfalso;omega))|apply AE|refine AC (m4 _ _) ?_)<;>conv=>whnf))
  exact C2 (gO (by have:=E1 n m;omega))
 ·have hn:DC (val m) (0:Nat)=1:=(S8 (by omega)).symm
  rw[hn]at m4;cases n
  ·(repeat' ((first|(apply AG<;>intro hc<;>try (exfalso;omega))|apply AE|refine AC (m4 _ _) ?_)<;>conv=>whnf))
   exact C2 (oO (by rw[ER];omega))
  ·(repeat' ((first|(apply AG<;>intro hc<;>try (exfalso;omega))|apply AE|refine AC (m4 _ _) ?_)<;>conv=>whnf))
   exact C2 (oN (by rw[TR];omega))
theorem vL (N:a6 L) (n1 n2 q1 q2:Bool) (a b:List Nat) (ha:Sm 549755813888 a) (hb:Sm 549755813888 b):Ev L 87 [.agg (rZ q1 n1 a),.agg (rZ q2 n2 b)] (.agg (eZ (zv n1 a+zv n2 b))):=by
 have la:=ha.2;have lb:=hb.2;have h1:=λ q q'=>AgD N.tog6 a b q q' ha.1 hb.1 (by omega) (by omega)
 have h2:=λ q q'=>vP N.tog6 a b q q' ha.1 hb.1 (by omega) (by omega)
 have h3:=λ q q'=>vP N.tog6 b a q q' hb.1 ha.1 (by omega) (by omega)
 have m4:=λ q q'=>T9 N.tog6 a b q q' ha.1 hb.1 (by omega) (by omega)
 have z1:=IV (val a+val b);have z2:=IV (val a-val b);have z3:=IV (val b-val a);refine Ev.x N.O8 rfl rfl ?_;by_cases l9:val a<val b
 ·have hn:DC (val a) (val b) = -1:=(IR (by omega)).symm
  rw[hn]at m4;cases n1<;>cases n2<;>simp only[ER,TR]
  ·(repeat' ((first|apply AE|refine AC (h1 _ _) ?_)<;>conv=>whnf))
   refine E2 1000 N.DK rfl rfl ?_;(repeat' (apply AE<;>conv=>whnf))
   all_goals (refine ⟨rfl,?_⟩;(conv=>whnf);skip)
   exact AX (EU (by omega) (GO (by omega))) (DP _)
  ·(repeat' ((first|(apply AG<;>intro hc<;>try (exfalso;omega))|apply AE|refine AC (h3 _ _) ?_|refine AC (m4 _ _) ?_)<;>conv=>whnf))
   refine E2 1000 N.DK rfl rfl ?_;(repeat' ((first|(apply AG<;>intro hc<;>try (exfalso;omega))|apply AR|apply AE)<;>conv=>whnf))
   all_goals (refine ⟨rfl,?_⟩;(conv=>whnf);skip)
   ·exact AX (EU (by omega) (SH (by omega))) (DP _)
  ·(repeat' ((first|(apply AG<;>intro hc<;>try (exfalso;omega))|apply AE|refine AC (h3 _ _) ?_|refine AC (m4 _ _) ?_)<;>conv=>whnf))
   refine E2 1000 N.DK rfl rfl ?_;(repeat' (apply AE<;>conv=>whnf))
   all_goals (refine ⟨rfl,?_⟩;(conv=>whnf);skip)
   ·exact AX (EU (by omega) (GO (by omega))) (DP _)
  ·(repeat' ((first|apply AE|refine AC (h1 _ _) ?_)<;>conv=>whnf))
   refine E2 1000 N.DK rfl rfl ?_;(repeat' ((first|(apply AG<;>intro hc<;>try (exfalso;omega))|apply AR|apply AE)<;>conv=>whnf))
   all_goals (refine ⟨rfl,?_⟩;(conv=>whnf);skip)
   ·exact AX (EU (by omega) (SH (by omega))) (DP _)
 ·have hn:DC (val a) (val b) ≠ -1:=by unfold DC;split<;>(try split)<;>omega
  generalize DC (val a) (val b)=cm at *;cases n1<;>cases n2<;>simp only[ER,TR]
  ·(repeat' ((first|apply AE|refine AC (h1 _ _) ?_)<;>conv=>whnf))
   refine E2 1000 N.DK rfl rfl ?_;(repeat' (apply AE<;>conv=>whnf))
   all_goals (refine ⟨rfl,?_⟩;(conv=>whnf);skip)
   exact AX (EU (by omega) (GO (by omega))) (DP _)
  ·(repeat' ((first|(apply AG<;>intro hc<;>try (exfalso;omega))|apply AE|refine AC (h2 _ _) ?_|refine AC (m4 _ _) ?_)<;>conv=>whnf))
   refine E2 1000 N.DK rfl rfl ?_;(repeat' (apply AE<;>conv=>whnf))
   all_goals (refine ⟨rfl,?_⟩;(conv=>whnf);skip)
   exact AX (EU (by omega) (GO (by omega))) (DP _)
  ·(repeat' ((first|(apply AG<;>intro hc<;>try (exfalso;omega))|apply AE|refine AC (h2 _ _) ?_|refine AC (m4 _ _) ?_)<;>conv=>whnf))
   refine E2 1000 N.DK rfl rfl ?_;(repeat' ((first|(apply AG<;>intro hc<;>try (exfalso;omega))|apply AR|apply AE)<;>conv=>whnf))
   all_goals (refine ⟨rfl,?_⟩;(conv=>whnf);skip)
   ·exact AX (EU (by omega) (SH (by omega))) (DP _)
   ·exact AX (EU (by omega) (GO (by omega))) (DP _)
  ·(repeat' ((first|apply AE|refine AC (h1 _ _) ?_)<;>conv=>whnf))
   refine E2 1000 N.DK rfl rfl ?_;(repeat' ((first|(apply AG<;>intro hc<;>try (exfalso;omega))|apply AR|apply AE)<;>conv=>whnf))
   all_goals (refine ⟨rfl,?_⟩;(conv=>whnf);skip)
   ·exact AX (EU (by omega) (SH (by omega))) (DP _)
   ·exact AX (EU (by omega) (GO (by omega))) (DP _)
theorem WO (N:a6 L) (n1 n2 q1 q2:Bool) (a b:List Nat) (ha:A2 a) (hb:A2 b) (hl:a.length+b.length<=1099511627776):Ev L 88 [.agg (rZ q1 n1 a),.agg (rZ q2 n2 b)] (.agg (eZ (zv n1 a*zv n2 b))):=by
 have h1:=λ q q'=>kZ N.tog6 a b q q' ha hb hl
 have z1:=IV (val a*val b);have Le:(zv n1 a*zv n2 b).natAbs=val a*val b:=by rw[Int.natAbs_mul,E1,E1]
 refine Ev.x N.PA rfl rfl ?_;have e:zv n1 a*zv n2 b=bif n1 == n2 then ((val a*val b:Nat):Int) else -((val a*val b:Nat):Int):=by
  cases n1<;>cases n2<;>simp [ER,TR,Int.mul_neg,Int.neg_mul]
 rw[e]at Le ⊢;generalize val a*val b=V at *;cases n1<;>cases n2<;>simp only[beq_self_eq_true,cond_true,show (false == true)=false from rfl,show (true == false)=false from rfl,cond_false]
 ·(repeat' ((first|apply AE|refine AC (h1 _ _) ?_)<;>conv=>whnf))
  refine E2 1000 N.DK rfl rfl ?_;(repeat' (apply AE<;>conv=>whnf))
  all_goals (refine ⟨rfl,?_⟩;(conv=>whnf);skip)
  exact AX (EU (by omega) (GO (by omega))) (DP _)
 ·(repeat' ((first|apply AE|refine AC (h1 _ _) ?_)<;>conv=>whnf))
  refine E2 1000 N.DK rfl rfl ?_;(repeat' ((first|(apply AG<;>intro hc<;>try (exfalso;omega))|apply AR|apply AE)<;>conv=>whnf))
  all_goals (refine ⟨rfl,?_⟩;(conv=>whnf);skip)
  ·exact AX (EU (by omega) (SH (by omega))) (DP _)
  ·exact AX (EU (by omega) (GO (by omega))) (DP _)
 ·(repeat' ((first|apply AE|refine AC (h1 _ _) ?_)<;>conv=>whnf))
  refine E2 1000 N.DK rfl rfl ?_;(repeat' ((first|(apply AG<;>intro hc<;>try (exfalso;omega))|apply AR|apply AE)<;>conv=>whnf))
  all_goals (refine ⟨rfl,?_⟩;(conv=>whnf);skip)
  ·exact AX (EU (by omega) (SH (by omega))) (DP _)
  ·exact AX (EU (by omega) (GO (by omega))) (DP _)
 ·(repeat' ((first|apply AE|refine AC (h1 _ _) ?_)<;>conv=>whnf))
  refine E2 1000 N.DK rfl rfl ?_;(repeat' (apply AE<;>conv=>whnf))
  all_goals (refine ⟨rfl,?_⟩;(conv=>whnf);skip)
  exact AX (EU (by omega) (GO (by omega))) (DP _)
theorem kB:dg 1=[1]:=by rw[JR (by omega)];simp [E4]
theorem Agw (N:a6 L) (V:Nat) (q:Bool):Ev L 90 [.sl q ((dg V).map AL)] (.bool (decide (V=1))):=by
 have hv:=B3 V;have hD:=DX V;have h1:V=1->dg V=[1]:=λ h=>by rw[h,kB]
 generalize dg V=l at *;refine Ev.x N.Q2 rfl rfl ?_;by_cases hl:l.length=1
 ·obtain ⟨d,rfl⟩:=List.length_eq_one_iff.1 hl
  have e:V=d:=by rw[<-hv];simp [val]
  subst e;have hd:[V][(0:Int).toNat]? = some V:=rfl;(repeat' ((first|(apply AG<;>intro hc<;>try (exfalso;omega))|apply AR|(refine BA (by assumption) ?_ rfl ?_;omega)|apply AE)<;>conv=>whnf))
  ·exact Yt (by omega)
  ·exact qU (by omega)
 ·(repeat' ((first|(apply AG<;>intro hc<;>try (exfalso;omega))|apply AR|apply AE)<;>conv=>whnf))
  exact qU (λ h=>by rw[h1 h]at hl;simp at hl)
theorem Z7 (N:a6 L) (n q1 q2:Bool) (m d:List Nat) (hm:Sm 549755813888 m) (hd:Sm 549755813888 d) (h0:val d≠0):Ev L 94 [.agg (rQ q1 q2 n m d)] (.agg (eQ (qv n m d))):=by
 have Dt:=λ q q'=>kY N.tog6 m d q q' hm.1 hd.1 hm.2 hd.2 h0
 have Jo:=E1 n m;have sq:Sm 549755813888 (dg (val m/val d)):=hm.low (Nat.div_le_self _ _);have sr:Sm 549755813888 (dg (val m%val d)):=hd.low (Nat.le_of_lt (Nat.mod_lt _ (by omega)));have hT:=λ q=>vN N n q _ sq
 have hG:=λ q q'=>AgE N.tog6 d (dg (val m%val d)) q q' hd.1 sr.1 hd.2 sr.2
 rw[B3,show Nat.gcd (val d) (val m%val d)=Nat.gcd (val d) (zv n m).natAbs by rw[Jo,aG,Nat.gcd_comm]]at hG;have Me:=xC (zv n m).natAbs h0;have Dz:=Nat.gcd_le_left (zv n m).natAbs (show 0<val d by omega);have hz:=IV (val m%val d);obtain ⟨e1,e2,e3⟩:=mW (z:=zv n m) h0;unfold qv;generalize hGG:Nat.gcd (val d) (zv n m).natAbs=g at *;have h1:=λ q=>Agw N g q
 refine Ev.x N.Q4 rfl rfl ?_;by_cases s9:val m%val d=0
 ·(repeat' ((first|(apply AG<;>intro hc<;>try (exfalso;omega))|apply AR|apply AE|refine AC (Dt _ _) ?_|refine AC (hT _) ?_)<;>conv=>whnf))
  refine E2 1000 N.HW rfl rfl ?_;(repeat' (apply AE<;>conv=>whnf))
  refine ⟨rfl,?_⟩;(conv=>whnf)
  (repeat' (refine JQ rfl ?_<;>conv=>whnf))
  have kg:g=val d:=by
   rw[<-hGG,Jo];exact Nat.gcd_eq_left (Nat.dvd_of_mod_eq_zero s9)
  have hv:=B3 (val m/val d);refine AX ?_ ?_
  ·show _=AV.agg (rQ _ _ _ _ _)
   rw[e1,e2,e3,Jo,kg,Nat.div_self (by omega),E1,hv,kB];have hs:decide (zv n (dg (val m/val d))<0)=decide (zv n m<0):=by
    cases n
    ·rw[ER,ER];simp;omega
    ·rw[TR,TR,hv]
     congr 1;rw[eq_iff_iff];have h5:=Nat.div_add_mod (val m) (val d);rw[s9,Nat.add_zero]at h5;constructor
     ·intro h6
      have h7:val m/val d≠0:=by omega
      have:val m≠0:=λ h8=>h7 (by rw[h8,Nat.zero_div])
      omega
     ·intro h6
      have h7:val m/val d≠0:=λ h8=>by rw[h8,Nat.mul_zero]at h5;omega
      omega
   rw[hs];rfl
  ·exact DI _
 ·by_cases yw:g=1
  ·have Bu:=λ q=>vN N n q m hm
   have Ag:=λ q=>Z5 N.tog6 d q hd.1 (by have:=hd.2;omega)
   (repeat' ((first|(apply AG<;>intro hc<;>try (exfalso;omega))|apply AR|apply AE|refine AC (Dt _ _) ?_|refine AC (hG _ _) ?_|refine qO (h1 _) (λ hf => ?_) (λ hf => ?_)|refine AC (Bu _) ?_|refine AC (Ag _) ?_)<;>conv=>whnf))
   ·refine AX ?_ (dF _ _ _)
    show _=AV.agg (rQ _ _ _ _ _);rw[e1,e2,e3,yw,Nat.div_one,Nat.div_one]
   ·exact absurd yw hf
  ·have sg:Sm 549755813888 (dg g):=hd.low Dz
   have sj:=λ q q'=>kY N.tog6 m (dg g) q q' hm.1 sg.1 hm.2 sg.2 (by rw[B3];omega)
   have sn:=λ q q'=>kY N.tog6 d (dg g) q q' hd.1 sg.1 hd.2 sg.2 (by rw[B3];omega)
   rw[B3]at sj sn;(repeat' ((first|(apply AG<;>intro hc<;>try (exfalso;omega))|apply AR|apply AE|refine AC (Dt _ _) ?_|refine AC (hG _ _) ?_|refine qO (h1 _) (λ hf => ?_) (λ hf => ?_)|refine AC (sj _ _) ?_|refine AC (sn _ _) ?_)<;>conv=>whnf))
   ·exact absurd hf yw
   ·refine AX ?_ (dF _ _ _)
    show _=AV.agg (rQ _ _ _ _ _);rw[e1,e2,e3,Jo];have hs:n=decide (zv n m<0):=by
     have:val m≠0:=λ h=>s9 (by rw[h,Nat.zero_mod])
     cases n
     ·exact GO (by rw[ER];omega)
     ·exact SH (by rw[TR];omega)
    rw[<-hs]
theorem YE (N:a6 L) (m:List Nat):Ev L 91 [.sl false (m.map AL)] (.agg [.bool false,.sl false (m.map AL)]):=by
 refine Ev.x N.Q3 rfl rfl ?_;(repeat' (apply AE<;>conv=>whnf))
 exact AX rfl (sM _ _)
def Zm (n:Bool) (m d:List Nat) (n':Bool) (m' d':List Nat) (w:Bool) (k:Nat):Prop:=Sm k m'/\Sm k d'/\val d'≠0/\(w=true->val d'=1)/\qv n m d=mkRat (zv n' m') (val d')
theorem TC (N:a6 L) (n:Bool) (m d:List Nat) (k:Nat) (hk:1<=k/\k<=549755813888) (hm:Sm k m) (hd:Sm k d) : ∃ n' m' d' w,Ev L 89 [.agg (rQ false false n m d)] (.agg [.bool n',.sl false (m'.map AL),.sl false (d'.map AL),.bool w])/\Zm n m d n' m' d' w k:=by
 have m4:=λ q q'=>T9 N.tog6 d [] q q' hd.1 X8 (by have:=hd.2;omega) (by simp)
 rw[JN]at m4;by_cases h1:d=[1]
 ·subst h1
  refine ⟨n,m,[1],true,?_,hm,hd,by decide,λ_=>rfl,rfl⟩;refine Ev.x N.I4 rfl rfl ?_;have hd:[1][(0:Int).toNat]? = some 1:=rfl;have xq:([1]:List Nat).length=1:=rfl;(repeat' ((first|(apply AG<;>intro hc<;>try (exfalso;omega))|apply AR|(refine BA (by assumption) ?_ rfl ?_;omega)|apply AE)<;>conv=>whnf))
  exact AX rfl (ZT _ _ _ _)
 have m5 : ∀ x,d[(0:Int).toNat]? = some x->(d.length:Int)=1->(x:Int)≠1:=λ x hx hl h=>by
  obtain ⟨y,rfl⟩:=List.length_eq_one_iff.1 (show d.length=1 by omega);simp at hx;apply h1;congr 1;omega
 by_cases h0:val d=0
 ·refine ⟨false,[],[1],true,?_,gS _,oT hk.1 (by omega),by decide,λ_=>rfl,by unfold qv;rw[h0,Rat.mkRat_zero,Sw,Rat.zero_mkRat]⟩
  have hn:DC (val d) (0:Nat)=0:=(WG (by omega)).symm;rw[hn]at m4;refine Ev.x N.I4 rfl rfl ?_;have hD:=hd.1;(repeat' ((first|(apply AG<;>intro hc<;>try (exfalso;omega))|apply AR|(refine U4 (by assumption) ?_ (λ e he hb => ?_);omega)|refine JQ rfl ?_|apply AE|refine AC (m4 _ _) ?_)<;>conv=>whnf))
  all_goals first
   | exact AX rfl (ZT _ _ _ _)
   | exact AX rfl (ZT false true [] [1])
   | exact absurd (by assumption) (m5 _ he (by assumption))
 ·refine ⟨n,m,d,false,?_,hm,hd,h0,(λ h=>by cases h),rfl⟩
  have hn:DC (val d) (0:Nat)=1:=(S8 (by omega)).symm;rw[hn]at m4;have hD:=hd.1;refine Ev.x N.I4 rfl rfl ?_;(repeat' ((first|(apply AG<;>intro hc<;>try (exfalso;omega))|apply AR|(refine U4 (by assumption) ?_ (λ e he hb => ?_);omega)|apply AE|refine AC (m4 _ _) ?_)<;>conv=>whnf))
  all_goals first
   | exact AX rfl (ZT _ _ _ _)
   | exact AX rfl (ZT false true [] [1])
   | exact absurd (by assumption) (m5 _ he (by assumption))
theorem lI (N:a6 L) (n q1 q2:Bool) (m d:List Nat) (hm:Sm 549755813888 m) (hd:Sm 549755813888 d):Ev L 95 [.agg (rQ q1 q2 n m d)] (.agg (eQ (qv n m d))):=by
 obtain ⟨n',m',d',w,hr,s1,s2,s3,s4,s5⟩:=TC N n m d 549755813888 (by omega) hm hd;have hl:=λ q1 q2=>Z7 N n' q1 q2 m' d' s1 s2 s3
 rw[s5];unfold qv at hl;refine Ev.x N.Q0 rfl rfl ?_;(repeat' ((first|apply G3|apply AE|refine AC (hr) ?_|refine AC (hl _ _) ?_)<;>conv=>whnf))
 exact AX rfl (DI _)
theorem wF (N:a6 L) (n q1 q2:Bool) (m d:List Nat) (hm:Sm 549755813888 m) (hd:Sm 549755813888 d):Ev L 97 [.agg (rQ q1 q2 n m d)] (.int .i64 (q6 (qv n m d).num)):=by
 obtain ⟨n',m',d',w,hr,s1,s2,s3,s4,s5⟩:=TC N n m d 549755813888 (by omega) hm hd;have hl:=λ q=>dZ N n' q m' s1
 rw[s5,zA s3];refine Ev.x N.QY rfl rfl ?_;(repeat' ((first|apply G3|apply AE|refine AC (hr) ?_|refine AC (hl _) ?_)<;>conv=>whnf))
 exact C2 rfl
theorem iY (z:Int):AV.agg [.bool (decide (z<0)),.sl false ((dg z.natAbs).map AL),.sl false [[.int .u32 1]]] = .agg (eQ (z:Rat)):=by
 show _=AV.agg (rQ _ _ _ _ _);rw[Rat.num_intCast,Rat.den_intCast,kB];rfl
theorem HS (N:a6 L) (z:Int) (hz : -9223372036854775808<=z/\z<=9223372036854775807):Ev L 96 [.int .i64 z] (.agg (eQ (z:Rat))):=by
 have h1:=Agt N z hz;refine Ev.x N.QX rfl rfl ?_;(repeat' ((first|apply AE|refine AC (h1) ?_)<;>conv=>whnf))
 refine E2 1000 N.HW rfl rfl ?_;(repeat' (apply AE<;>conv=>whnf))
 refine ⟨rfl,?_⟩;(conv=>whnf)
 (repeat' (refine JQ rfl ?_<;>conv=>whnf))
 exact AX (iY z) (DI _)
theorem XA {k l:Nat} {n1 n2:Bool} {a b:List Nat} (ha:Sm k a) (hb:Sm l b):Sm (k+l) (dg (zv n1 a*zv n2 b).natAbs):=ha.mul hb (by rw[Int.natAbs_mul,E1,E1])
theorem Pk {k:Nat} {x y:Int} (ha:Sm k (dg x.natAbs)) (hb:Sm k (dg y.natAbs)):Sm (k+1) (dg (x+y).natAbs):=ha.add hb (by rw[B3,B3];omega)
theorem wE (N:a6 L) (k:Nat) (hk:1<=k/\k<=68719476736) (n1 n2 q1 q2 q3 q4:Bool) (m1 d1 m2 d2:List Nat) (kn:Sm k m1) (ov:Sm k d1) (ib:Sm k m2) (ow:Sm k d2) :
  Ev L 98 [.agg (rQ q1 q2 n1 m1 d1),.agg (rQ q3 q4 n2 m2 d2)] (.agg (eQ (qv n1 m1 d1+qv n2 m2 d2))):=by
 obtain ⟨a1,a2,a3,w1,ak,s1,s2,s3,s4,s5⟩:=TC N n1 m1 d1 k (by omega) kn ov;obtain ⟨b1,b2,b3,w2,bj,t1,t2,t3,t4,t5⟩:=TC N n2 m2 d2 k (by omega) ib ow;rw[s5,t5];have hA:=λ q q'=>vL N a1 b1 q q' a2 b2 (s1.le (by omega)) (t1.le (by omega))
 have wk:Sm (k+1) (dg (zv a1 a2+zv b1 b2).natAbs):=Pk (by rw[E1];exact s1.yb) (by rw[E1];exact t1.yb);by_cases hw:w1=true/\w2=true
 ·obtain ⟨rfl,rfl⟩:=hw
  rw[s4 rfl,t4 rfl,yX (by omega),yZ];generalize zv a1 a2+zv b1 b2=z at *;refine Ev.x N.I3 rfl rfl ?_;(repeat' ((first|apply G3|apply AE|refine AC (ak) ?_|refine AC (bj) ?_|refine AC (hA _ _) ?_)<;>conv=>whnf))
  refine E2 1000 N.HW rfl rfl ?_;(repeat' (apply AE<;>conv=>whnf))
  refine ⟨rfl,?_⟩;(conv=>whnf)
  (repeat' (refine JQ rfl ?_<;>conv=>whnf))
  exact AX (iY z) (DI _)
 ·have m4:=λ q q'=>T9 N.tog6 a3 b3 q q' s2.1 t2.1 (by have:=s2.2;omega) (by have:=t2.2;omega)
  by_cases yv:val a3=val b3
  ·have hn:DC (val a3) (val b3)=0:=(WG (by omega)).symm
   rw[hn]at m4;rw[<-yv,yX s3];generalize zv a1 a2+zv b1 b2=z at *;have hl:=λ q1 q2=>Z7 N (decide (z<0)) q1 q2 (dg z.natAbs) a3 (wk.le (by omega)) (s2.le (by omega)) s3
   unfold qv at hl;rw[E8]at hl;refine Ev.x N.I3 rfl rfl ?_;cases w1<;>cases w2
   ·(repeat' ((first|(apply AG<;>intro hc<;>try (exfalso;omega))|apply G3|apply AE|refine AC (ak) ?_|refine AC (bj) ?_|refine AC (hA _ _) ?_|refine AC (m4 _ _) ?_|refine AC (hl _ _) ?_)<;>conv=>whnf))
    exact AX rfl (DI _)
   ·(repeat' ((first|(apply AG<;>intro hc<;>try (exfalso;omega))|apply G3|apply AE|refine AC (ak) ?_|refine AC (bj) ?_|refine AC (hA _ _) ?_|refine AC (m4 _ _) ?_|refine AC (hl _ _) ?_)<;>conv=>whnf))
    exact AX rfl (DI _)
   ·(repeat' ((first|(apply AG<;>intro hc<;>try (exfalso;omega))|apply G3|apply AE|refine AC (ak) ?_|refine AC (bj) ?_|refine AC (hA _ _) ?_|refine AC (m4 _ _) ?_|refine AC (hl _ _) ?_)<;>conv=>whnf))
    exact AX rfl (DI _)
   ·exact absurd ⟨rfl,rfl⟩ hw
  ·have hn:DC (val a3) (val b3)≠0:=by unfold DC;split<;>(try split)<;>omega
   generalize DC (val a3) (val b3)=cm at *;have ck:=λ q q'=>WO N a1 false q q' a2 b3 s1.1 t2.1 (by have:=s1.2;have:=t2.2;omega)
   have dj:=λ q q'=>WO N b1 false q q' b2 a3 t1.1 s2.1 (by have:=t1.2;have:=s2.2;omega)
   have su:=λ q q'=>kZ N.tog6 a3 b3 q q' s2.1 t2.1 (by have:=s2.2;have:=t2.2;omega)
   have yz:=YE N a3;have vq:=YE N b3;have g1:Sm (k+k) (dg (zv a1 a2*zv false b3).natAbs):=XA s1 t2;have g2:Sm (k+k) (dg (zv b1 b2*zv false a3).natAbs):=XA t1 s2;have g3:=Pk g1 g2;have g4:Sm (k+k) (dg (val a3*val b3)):=s2.mul t2 rfl;rw[eU s3 t3,<-ER b3,<-ER a3];have Cj:val a3*val b3≠0:=Nat.mul_ne_zero s3 t3;generalize zv a1 a2*zv false b3=x at *;generalize zv b1 b2*zv false a3=y at *;generalize val a3*val b3=D at *;have Dq:=λ q q'=>vL N (decide (x<0)) (decide (y<0)) q q' (dg x.natAbs) (dg y.natAbs) (g1.le (by omega)) (g2.le (by omega))
   rw[E8,E8]at Dq;generalize x+y=z at *;have hl:=λ q1 q2=>Z7 N (decide (z<0)) q1 q2 (dg z.natAbs) (dg D) (g3.le (by omega)) (g4.le (by omega)) (by rw[B3];exact Cj)
   unfold qv at hl;rw[E8,B3]at hl;refine Ev.x N.I3 rfl rfl ?_;cases w1<;>cases w2
   ·(repeat' ((first|(apply AG<;>intro hc<;>try (exfalso;omega))|apply G3|apply V3|apply AE|refine AC (ak) ?_|refine AC (bj) ?_|refine AC (m4 _ _) ?_|refine AC (yz) ?_|refine AC (vq) ?_|refine AC (ck _ _) ?_|refine AC (dj _ _) ?_|refine AC (Dq _ _) ?_|refine AC (su _ _) ?_|refine AC (hl _ _) ?_)<;>conv=>whnf))
    exact AX rfl (DI _)
   ·(repeat' ((first|(apply AG<;>intro hc<;>try (exfalso;omega))|apply G3|apply V3|apply AE|refine AC (ak) ?_|refine AC (bj) ?_|refine AC (m4 _ _) ?_|refine AC (yz) ?_|refine AC (vq) ?_|refine AC (ck _ _) ?_|refine AC (dj _ _) ?_|refine AC (Dq _ _) ?_|refine AC (su _ _) ?_|refine AC (hl _ _) ?_)<;>conv=>whnf))
    exact AX rfl (DI _)
   ·(repeat' ((first|(apply AG<;>intro hc<;>try (exfalso;omega))|apply G3|apply V3|apply AE|refine AC (ak) ?_|refine AC (bj) ?_|refine AC (m4 _ _) ?_|refine AC (yz) ?_|refine AC (vq) ?_|refine AC (ck _ _) ?_|refine AC (dj _ _) ?_|refine AC (Dq _ _) ?_|refine AC (su _ _) ?_|refine AC (hl _ _) ?_)<;>conv=>whnf))
    exact AX rfl (DI _)
   ·exact absurd ⟨rfl,rfl⟩ hw
theorem lH (N:a6 L) (k:Nat) (hk:1<=k/\k<=68719476736) (n1 n2 q1 q2 q3 q4:Bool) (m1 d1 m2 d2:List Nat) (kn:Sm k m1) (ov:Sm k d1) (ib:Sm k m2) (ow:Sm k d2) :
  Ev L 99 [.agg (rQ q1 q2 n1 m1 d1),.agg (rQ q3 q4 n2 m2 d2)] (.agg (eQ (qv n1 m1 d1*qv n2 m2 d2))):=by
 obtain ⟨a1,a2,a3,w1,ak,s1,s2,s3,s4,s5⟩:=TC N n1 m1 d1 k (by omega) kn ov;obtain ⟨b1,b2,b3,w2,bj,t1,t2,t3,t4,t5⟩:=TC N n2 m2 d2 k (by omega) ib ow;rw[s5,t5,mU];have ck:=λ q q'=>WO N a1 b1 q q' a2 b2 s1.1 t1.1 (by have:=s1.2;have:=t1.2;omega)
 have su:=λ q q'=>kZ N.tog6 a3 b3 q q' s2.1 t2.1 (by have:=s2.2;have:=t2.2;omega)
 have g1:Sm (k+k) (dg (zv a1 a2*zv b1 b2).natAbs):=XA s1 t1;have g4:Sm (k+k) (dg (val a3*val b3)):=s2.mul t2 rfl;have Cj:val a3*val b3≠0:=Nat.mul_ne_zero s3 t3;generalize zv a1 a2*zv b1 b2=z at *;by_cases hw:w1=true/\w2=true
 ·obtain ⟨rfl,rfl⟩:=hw
  rw[s4 rfl,t4 rfl,Nat.one_mul,yZ];refine Ev.x N.KM rfl rfl ?_;(repeat' ((first|apply G3|apply AE|refine AC (ak) ?_|refine AC (bj) ?_|refine AC (ck _ _) ?_)<;>conv=>whnf))
  refine E2 1000 N.HW rfl rfl ?_;(repeat' (apply AE<;>conv=>whnf))
  refine ⟨rfl,?_⟩;(conv=>whnf)
  (repeat' (refine JQ rfl ?_<;>conv=>whnf))
  exact AX (iY z) (DI _)
 ·generalize val a3*val b3=D at *
  have hl:=λ q1 q2=>Z7 N (decide (z<0)) q1 q2 (dg z.natAbs) (dg D) (g1.le (by omega)) (g4.le (by omega)) (by rw[B3];exact Cj)
  unfold qv at hl;rw[E8,B3]at hl;refine Ev.x N.KM rfl rfl ?_;cases w1<;>cases w2
  ·(repeat' ((first|apply G3|apply AE|refine AC (ak) ?_|refine AC (bj) ?_|refine AC (ck _ _) ?_|refine AC (su _ _) ?_|refine AC (hl _ _) ?_)<;>conv=>whnf))
   exact AX rfl (DI _)
  ·(repeat' ((first|apply G3|apply AE|refine AC (ak) ?_|refine AC (bj) ?_|refine AC (ck _ _) ?_|refine AC (su _ _) ?_|refine AC (hl _ _) ?_)<;>conv=>whnf))
   exact AX rfl (DI _)
  ·(repeat' ((first|apply G3|apply AE|refine AC (ak) ?_|refine AC (bj) ?_|refine AC (ck _ _) ?_|refine AC (su _ _) ?_|refine AC (hl _ _) ?_)<;>conv=>whnf))
   exact AX rfl (DI _)
  ·exact absurd ⟨rfl,rfl⟩ hw
theorem Ad4 (x:Rat) (e:Int):A3 (.j5 [.agg (eQ x),.int .i64 e]):=by
 simp only[A3,CG,and_true,true_and];exact ⟨CM _,CM _⟩
theorem Ahi (N:a6 L) (k:Nat) (hk:1<=k/\k<=68719476736) (n1 n2 q1 q2 q3 q4:Bool) (m1 d1 m2 d2:List Nat) (kn:Sm k m1) (ov:Sm k d1) (ib:Sm k m2) (ow:Sm k d2) (h0:qv n2 m2 d2≠0) :
  Ev L 100 [.agg (rQ q1 q2 n1 m1 d1),.agg (rQ q3 q4 n2 m2 d2)] (.j5 [.agg (eQ (qv n1 m1 d1/qv n2 m2 d2)),.int .i64 0]):=by
 obtain ⟨a1,a2,a3,w1,ak,s1,s2,s3,s4,s5⟩:=TC N n1 m1 d1 k (by omega) kn ov;obtain ⟨b1,b2,b3,w2,bj,t1,t2,t3,t4,t5⟩:=TC N n2 m2 d2 k (by omega) ib ow;rw[t5]at h0;rw[s5,t5];have ub:zv b1 b2≠0:=λ h=>h0 ((mV t3).2 h)
 rw[Ajb s3 t3 ub];have hS:=λ q=>dZ N b1 q b2 (t1.le (by omega))
 have rz:q6 (zv b1 b2)≠0:=by unfold q6;split<;>(try split)<;>omega
 have ck:=λ q q'=>WO N a1 false q q' a2 b3 s1.1 t2.1 (by have:=s1.2;have:=t2.2;omega)
 have dj:=λ q q'=>WO N false b1 q q' a3 b2 s2.1 t1.1 (by have:=t1.2;have:=s2.2;omega)
 have yz:=YE N a3;have vq:=YE N b3;have g1:Sm (k+k) (dg (zv a1 a2*zv false b3).natAbs):=XA s1 t2;have g2:Sm (k+k) (dg (zv false a3*zv b1 b2).natAbs):=XA s2 t1;have hd:(zv false a3*zv b1 b2).natAbs=val a3*(zv b1 b2).natAbs:=by rw[Int.natAbs_mul,E1]
 have Ck:(zv false a3*zv b1 b2).sign=(zv b1 b2).sign:=by
  rw[Int.sign_mul,ER,Int.sign_eq_one_of_pos (by omega),Int.one_mul]
 have nv:zv false a3*zv b1 b2≠0:=by
  intro h;rw[h]at Ck;exact ub (by simpa using Ck.symm)
 rw[<-hd,<-Ck,<-ER b3];generalize zv a1 a2*zv false b3=x at *;generalize zv false a3*zv b1 b2=y at *;generalize q6 (zv b1 b2)=sg at *;have hl:=λ q1 q2=>Z7 N (decide (x<0) != decide (y<0)) q1 q2 (dg x.natAbs) (dg y.natAbs) (g1.le (by omega)) (g2.le (by omega)) (by rw[B3];omega)
 unfold qv at hl;rw[AlC nv,B3]at hl;refine Ev.x N.QV rfl rfl ?_;(repeat' ((first|(apply AG<;>intro hc<;>try (exfalso;omega))|apply G3|apply V3|apply AE|refine AC (ak) ?_|refine AC (bj) ?_|refine AC (hS _) ?_|refine AC (yz) ?_|refine AC (vq) ?_|refine AC (ck _ _) ?_|refine AC (dj _ _) ?_)<;>conv=>whnf))
 refine E2 1000 N.Q5 rfl rfl ?_;(repeat' (apply AE<;>conv=>whnf))
 generalize decide (x<0)=p at *;generalize decide (y<0)=r at *;cases p<;>cases r;all_goals
  (conv=>whnf)
  refine ⟨rfl,?_⟩;(conv=>whnf)
  (repeat' (refine AC (hl _ _) ?_<;>conv=>whnf))
  exact AX rfl (Ad4 _ _)
theorem Bt.sm {k:Nat} {x:Rat} (h:Bt k x) (hk:k<2199023255552):Sm 68719476736 (dg x.num.natAbs)/\Sm 68719476736 (dg x.den):=h.Ui (by omega)
theorem O4 (N:a6 L) {x y:Rat} {k l:Nat} (hx:Bt k x) (hy:Bt l y) (hk:k<2199023255552) (hl:l<2199023255552):Ev L 98 [.agg (eQ x),.agg (eQ y)] (.agg (eQ (x+y))):=by
 have:=wE N 68719476736 (by omega) (decide (x.num<0)) (decide (y.num<0)) false false false false _ _ _ _ (hx.sm hk).1 (hx.sm hk).2 (hy.sm hl).1 (hy.sm hl).2
 rw[EM,EM]at this;exact this
theorem GD (N:a6 L) {x y:Rat} {k l:Nat} (hx:Bt k x) (hy:Bt l y) (hk:k<2199023255552) (hl:l<2199023255552):Ev L 99 [.agg (eQ x),.agg (eQ y)] (.agg (eQ (x*y))):=by
 have:=lH N 68719476736 (by omega) (decide (x.num<0)) (decide (y.num<0)) false false false false _ _ _ _ (hx.sm hk).1 (hx.sm hk).2 (hy.sm hl).1 (hy.sm hl).2
 rw[EM,EM]at this;exact this
theorem dY (N:a6 L) {x y:Rat} {k l:Nat} (hx:Bt k x) (hy:Bt l y) (hk:k<2199023255552) (hl:l<2199023255552) (h0:y≠0):Ev L 100 [.agg (eQ x),.agg (eQ y)] (.j5 [.agg (eQ (x/y)),.int .i64 0]):=by
 have:=Ahi N 68719476736 (by omega) (decide (x.num<0)) (decide (y.num<0)) false false false false _ _ _ _ (hx.sm hk).1 (hx.sm hk).2 (hy.sm hl).1 (hy.sm hl).2 (by rw[EM];exact h0)
 rw[EM,EM]at this;exact this
theorem eE (N:a6 L) {x:Rat} {k:Nat} (hx:Bt k x) (hk:k<2199023255552):Ev L 95 [.agg (eQ x)] (.agg (eQ x)):=by
 have:=lI N (decide (x.num<0)) false false _ _ ((hx.sm hk).1.le (by omega)) ((hx.sm hk).2.le (by omega))
 rw[EM]at this;exact this
theorem WP (N:a6 L) {x:Rat} {k:Nat} (hx:Bt k x) (hk:k<2199023255552):Ev L 97 [.agg (eQ x)] (.int .i64 (q6 x.num)):=by
 have:=wF N (decide (x.num<0)) false false _ _ ((hx.sm hk).1.le (by omega)) ((hx.sm hk).2.le (by omega))
 rw[EM]at this;exact this
theorem TK {x:Rat}:q6 x.num=0↔x=0:=by
 rw[<-Rat.num_eq_zero];unfold q6;split
 ·omega
 ·split<;>omega
theorem Rq (n:Bool) (m d:List Nat):qv (!n) m d = -(qv n m d):=by
 unfold qv;have h:zv (!n) m = -(zv n m):=by cases n<;>simp [zv]
 rw[h,Rat.neg_mkRat]
theorem Ad9 (n:Bool) (m d:List Nat):A3 (.agg (rQ false false n m d)):=by
 simp only[A3,CG,and_true,true_and];exact ⟨CM _,CM _⟩
theorem vJ (N:y8 L) (n:Bool) (m d:List Nat):Ev L 149 [.agg (rQ false false n m d)] (.agg (rQ false false (!n) m d)):=by
 refine Ev.x N.Q1 rfl rfl ?_;cases n;all_goals
  (repeat' (apply AE<;>conv=>whnf))
  exact AX rfl (Ad9 _ _ _)
theorem eB (N:y8 L) {x y:Rat} {k l:Nat} (hx:Bt k x) (hy:Bt l y) (hk:k<2199023255552) (hl:l<2199023255552):Ev L 150 [.agg (eQ x),.agg (eQ y)] (.agg (eQ (x-y))):=by
 have hF:=vJ N (decide (y.num<0)) (dg y.num.natAbs) (dg y.den);have hA:=λ q3 q4=>wE N.toa6 68719476736 (by omega) (decide (x.num<0)) (!decide (y.num<0)) false false q3 q4 _ _ _ _ (hx.sm hk).1 (hx.sm hk).2 (hy.sm hl).1 (hy.sm hl).2
 rw[Rq,EM,EM,<-Rat.sub_eq_add_neg]at hA;refine Ev.x N.QZ rfl rfl ?_;(repeat' ((first|apply qV|apply AE|refine AC (hF) ?_|refine AC (hA _ _) ?_)<;>conv=>whnf))
 exact AX rfl (DI _)
theorem lU {l:List Rat} {i:Nat} {x:Rat} (h:l[i]? = some x):l.getD i 0=x:=by rw[List.getD_eq_getElem?_getD,h];rfl
theorem AhD {l:List Rat} {i:Nat} (h:l.length<=i):l.getD i 0=0:=by rw[List.getD_eq_getElem?_getD,List.getElem?_eq_none h];rfl
theorem aH {l:List Rat} {k:Nat} (h:Bs k l) (i:Nat):Bt k (l.getD i 0):=by
 rw[List.getD_eq_getElem?_getD];cases e:l[i]? with
 | none=>exact Bt.zero k
 | some x=>exact h.at e
theorem oM (z:Int):q6 z = -1/\z<0\/q6 z=0/\z=0\/q6 z=1/\0<z:=by
 unfold q6;split
 ·exact Or.inl ⟨rfl,by omega⟩
 ·split
  ·exact Or.inr (Or.inr ⟨rfl,by omega⟩)
  ·exact Or.inr (Or.inl ⟨rfl,by omega⟩)
theorem Aef {a b:Nat} {z:Int} (h:z=(a:Int)-b):DC a b=q6 z:=by
 unfold DC q6;subst h;repeat' split
 all_goals omega
theorem vM (N:o8 L) (n1 n2 q1 q2:Bool) (a b:List Nat) (ha:Sm 549755813888 a) (hb:Sm 549755813888 b):Ev L 197 [.agg (rZ q1 n1 a),.agg (rZ q2 n2 b)] (.int .i64 (q6 (zv n1 a-zv n2 b))):=by
 have h1:=λ q=>dZ N.toa6 n1 q a ha
 have h2:=λ q=>dZ N.toa6 n2 q b hb
 have h3:=λ q q'=>T9 N.tog6 a b q q' ha.1 hb.1 (by have:=ha.2;omega) (by have:=hb.2;omega)
 have h4:=λ q q'=>T9 N.tog6 b a q q' hb.1 ha.1 (by have:=hb.2;omega) (by have:=ha.2;omega)
 have za:=E1 n1 a;have zb:=E1 n2 b;generalize zv n1 a=x at *;generalize zv n2 b=y at *;rcases oM x with ⟨e1,g1⟩|⟨e1,g1⟩|⟨e1,g1⟩<;>rcases oM y with ⟨e2,g2⟩|⟨e2,g2⟩|⟨e2,g2⟩
 all_goals
  rw[e1]at h1;rw[e2]at h2;refine Ev.x N.O9 rfl rfl ?_;(repeat' ((first|(apply AG<;>intro hc<;>try (exfalso;omega))|apply AE|refine AC (h1 _) ?_|refine AC (h2 _) ?_|refine AC (h3 _ _) ?_|refine AC (h4 _ _) ?_)<;>conv=>whnf))
  first
   | exact C2 (oN (by omega))
   | exact C2 (oO (by omega))
   | exact C2 (Aef (by omega))
theorem Ahh (N:o8 L) (k:Nat) (hk:1<=k/\k<=68719476736) (n1 n2:Bool) (m1 d1 m2 d2:List Nat) (kn:Sm k m1) (ov:Sm k d1) (ib:Sm k m2) (ow:Sm k d2) :
  Ev L 198 [.agg (rQ false false n1 m1 d1),.agg (rQ false false n2 m2 d2)] (.int .i64 (q6 (qv n1 m1 d1-qv n2 m2 d2).num)):=by
 obtain ⟨a1,a2,a3,w1,ak,s1,s2,s3,s4,s5⟩:=TC N.toa6 n1 m1 d1 k (by omega) kn ov;obtain ⟨b1,b2,b3,w2,bj,t1,t2,t3,t4,t5⟩:=TC N.toa6 n2 m2 d2 k (by omega) ib ow;rw[s5,t5,<-yY s3 t3];by_cases hw:w1=true/\w2=true
 ·obtain ⟨rfl,rfl⟩:=hw
  have hC:=λ q q'=>vM N a1 b1 q q' a2 b2 (s1.le (by omega)) (t1.le (by omega))
  rw[s4 rfl,t4 rfl];rw[show zv a1 a2*((1:Nat):Int)-zv b1 b2*((1:Nat):Int)=zv a1 a2-zv b1 b2 by omega];refine Ev.x N.KG rfl rfl ?_;(repeat' ((first|apply G3|apply AE|refine AC (ak) ?_|refine AC (bj) ?_|refine AC (hC _ _) ?_)<;>conv=>whnf))
  exact C2 rfl
 ·have ck:=λ q q'=>WO N.toa6 a1 false q q' a2 b3 s1.1 t2.1 (by have:=s1.2;have:=t2.2;omega)
  have dj:=λ q q'=>WO N.toa6 b1 false q q' b2 a3 t1.1 s2.1 (by have:=t1.2;have:=s2.2;omega)
  have yz:=YE N.toa6 a3;have vq:=YE N.toa6 b3;have g1:Sm (k+k) (dg (zv a1 a2*zv false b3).natAbs):=XA s1 t2;have g2:Sm (k+k) (dg (zv b1 b2*zv false a3).natAbs):=XA t1 s2;have hC:=λ q q'=>vM N (decide (zv a1 a2*zv false b3<0)) (decide (zv b1 b2*zv false a3<0)) q q' _ _ (g1.le (by omega)) (g2.le (by omega))
  rw[E8,E8]at hC;rw[<-ER b3,<-ER a3];generalize zv a1 a2*zv false b3=x at *;generalize zv b1 b2*zv false a3=y at *;refine Ev.x N.KG rfl rfl ?_;cases w1<;>cases w2
  ·(repeat' ((first|apply G3|apply V3|apply AE|refine AC (ak) ?_|refine AC (bj) ?_|refine AC (yz) ?_|refine AC (vq) ?_|refine AC (ck _ _) ?_|refine AC (dj _ _) ?_|refine AC (hC _ _) ?_)<;>conv=>whnf))
   exact C2 rfl
  ·(repeat' ((first|apply G3|apply V3|apply AE|refine AC (ak) ?_|refine AC (bj) ?_|refine AC (yz) ?_|refine AC (vq) ?_|refine AC (ck _ _) ?_|refine AC (dj _ _) ?_|refine AC (hC _ _) ?_)<;>conv=>whnf))
   exact C2 rfl
  ·(repeat' ((first|apply G3|apply V3|apply AE|refine AC (ak) ?_|refine AC (bj) ?_|refine AC (yz) ?_|refine AC (vq) ?_|refine AC (ck _ _) ?_|refine AC (dj _ _) ?_|refine AC (hC _ _) ?_)<;>conv=>whnf))
   exact C2 rfl
  ·exact absurd ⟨rfl,rfl⟩ hw
theorem vH (N:o8 L) {x y:Rat} {k l:Nat} (hx:Bt k x) (hy:Bt l y) (hk:k<2199023255552) (hl:l<2199023255552):Ev L 198 [.agg (eQ x),.agg (eQ y)] (.int .i64 (q6 (x-y).num)):=by
 have:=Ahh N 68719476736 (by omega) (decide (x.num<0)) (decide (y.num<0)) _ _ _ _ (hx.sm hk).1 (hx.sm hk).2 (hy.sm hl).1 (hy.sm hl).2
 rw[EM,EM]at this;exact this
theorem vS (N:o8 L) {x:Rat} {k:Nat} (hx:Bt k x) (hk:k<2199023255552):Ev L 199 [.agg (eQ x)] (.agg (eQ (-x))):=by
 have hF:=vJ N.toy8 (decide (x.num<0)) (dg x.num.natAbs) (dg x.den);have hT:=λ q1 q2=>lI N.toa6 (!decide (x.num<0)) q1 q2 _ _ ((hx.sm hk).1.le (by omega)) ((hx.sm hk).2.le (by omega))
 rw[Rq,EM]at hT;refine Ev.x N.QW rfl rfl ?_;(repeat' ((first|apply qV|apply AE|refine AC (hF) ?_|refine AC (hT _ _) ?_)<;>conv=>whnf))
 exact AX rfl (DI _)
theorem vV (N:o8 L) (q:Bool) (l:List Rat) (k:Nat) (hl:Bs k l) (hk:k<2199023255552) (hn:l.length<=1000000):Ev L 200 [.sl q (l.map eQ)] (.int .i64 ((H7 l l.length:Int)-1)):=by
 refine Ev.x N.QR rfl rfl ?_;(repeat' (apply AE<;>conv=>whnf))
 refine GI 1000 N.QS rfl rfl ?_;(repeat' ((first|apply AR|apply AE)<;>conv=>whnf))
 refine BP (λ n=>n) (λ(n:Nat)=>n<=l.length/\H7 l l.length=H7 l n) (λ n=>[(3,.int .i64 n)]) (λ_=>[]) [] [] l.length (by (conv=>whnf);exact ⟨rfl,rfl,rfl⟩) ⟨Nat.le_refl _,rfl⟩ ?_;intro n ⟨p1,p2⟩ ih;have done : ∀ {n:Nat},H7 l l.length=n->TP l=l.take n:=λ h=>by rw[TP,h]
 by_cases hz:n=0\/(∃ m x,n=m+1/\l[m]? = some x/\x≠0)
 ·have Fu:H7 l l.length=n:=by
   rw[p2];rcases hz with rfl|⟨m,x,rfl,h1,h2⟩
   ·rfl
   ·rw[H7,if_neg]
    rw[List.getD_eq_getElem?_getD,h1];exact h2
  have htq:=done Fu;have bm:(l.take n).length=n:=by rw[List.length_take];omega
  clear ih Fu p2 done;rcases hz with h0|⟨m,x,hnm,h1,h2⟩
  case' inl=>(repeat' ((first|(apply AG<;>intro hc<;>try (exfalso;omega))|apply AE)<;>conv=>whnf))
  case' inr =>
   have yg:l[((n:Int)-1).toNat]? = some x:=by rw[show ((n:Int)-1).toNat=m by omega];exact h1
   have Fi:=WP N.toa6 (hl.at h1) (by omega);have hs:=TK (x:=x);generalize q6 x.num=s at *;have hS : ∀ v,l[((n:Int)-1).toNat]? = some v->Ev L 97 [.agg (eQ v)] (.int .i64 s):=λ v h=>by
    obtain rfl:=Option.some.inj (yg.symm.trans h);exact Fi
   have dp:s≠0:=λ h=>h2 (hs.1 h)
   (repeat' ((first|(apply AG<;>intro hc<;>try (exfalso;omega))|(apply B7;omega)|(refine BA (by assumption) ?_ rfl ?_;omega)|apply AE|refine AC (Fi) ?_)<;>conv=>whnf))
  all_goals
   refine V8 (enc:=eQ) (λ_=>rfl) p1 ?_;(conv=>whnf)
   skip
   refine ⟨rfl,_,rfl,?_⟩;(conv=>whnf)
   (repeat' ((first|(apply B7;omega)|apply AR)<;>conv=>whnf))
   have Fv:H7 l l.length=n:=by rw[<-Rz,htq,bm]
   rw[Fv];exact C2 (by rw[bm])
 ·obtain ⟨m,rfl⟩ : ∃ m,n=m+1:=⟨n-1,by omega⟩
  obtain ⟨x,hx⟩ : ∃ x,l[m]? = some x:=⟨_,zE (by omega)⟩;have mn:x=0:=by
   rcases Classical.em (x=0) with h|h
   ·exact h
   ·exact (hz (Or.inr ⟨m,x,rfl,hx,h⟩)).elim
  have fb:l[((m+1:Nat)-1:Int).toNat]? = some x:=by rw[show ((m+1:Nat)-1:Int).toNat=m by omega];exact hx
  have Fi:=WP N.toa6 (hl.at hx) (by omega);have hs:=TK (x:=x);generalize q6 x.num=s at *;have hS : ∀ v,l[((m+1:Nat)-1:Int).toNat]? = some v->Ev L 97 [.agg (eQ v)] (.int .i64 s):=λ v h=>by
   obtain rfl:=Option.some.inj (fb.symm.trans h);exact Fi
  have dp:=hs.2 mn;(repeat' ((first|(apply AG<;>intro hc<;>try (exfalso;omega))|(apply B7;omega)|(refine BA (by assumption) ?_ rfl ?_;omega)|apply AE|refine AC (Fi) ?_)<;>conv=>whnf))
  rw[show ((m+1:Nat):Int)-1=(m:Int) by omega];exact BG [] (ih m (by omega) ⟨by omega,by rw[p2,H7,if_pos (by rw[List.getD_eq_getElem?_getD,hx];exact mn)]⟩)
end Go.c9

namespace Go.c9
open F
attribute [local irreducible] AA AF AP AD CI AY AW A6 A5 B2 AM BQ B8 C8 BM A1 BR B9 AB A7 AJ pw BO BH CH CK CS CP CD BT CJ
set_option maxHeartbeats 1000000
variable {L:Lib}
def JO (n:Int):Prop := -9223372036854775808<=n/\n<=9223372036854775807
structure Wd where
 b:Int
 f:Int
 r:Int
 o:Int
def WV (w:Wd):Prop:=4<=w.b/\w.b<=24/\0<=w.f/\w.f<w.b/\1<=w.r/\w.r<=3/\1<=w.o/\w.o<=2
instance (w : Wd) : Decidable (WV w) := by unfold WV; infer_instance
variable (w:Wd)
def Ai2:Int:=if WV w then -pw (w.b-1) else 0
def Aig:Int:=if WV w then pw (w.b-1)-1 else 0
def FT (v:Int):Prop:=WV w/\Ai2 w<=v/\v<=Aig w
instance (v : Int) : Decidable (FT w v) := by unfold FT; infer_instance
end Go.c9

namespace Go.c9
open F
attribute [local irreducible] AA AF AP AD CI AY AW A6 A5 B2 AM BQ B8 C8 BM A1 BR B9 AB A7 AJ pw BO BH CH CK CS CP CD BT CJ
set_option maxHeartbeats 1000000
variable {L:Lib}
structure Nd where
 q:Bool
 ts:List (Int × Int)
structure Nt where
 d:Wd
 c:Wd
 s:Int
 qn:Bool
 nodes:List Nd
 qx:Bool
 next:List Int
 out:Int
variable (n:Nt)
end Go.c9

namespace Go.c9
open F
attribute [local irreducible] AA AF AP AD CI AY AW A6 A5 B2 AM BQ B8 C8 BM A1 BR B9 AB A7 AJ pw BO BH CH CK CS CP CD BT CJ
variable {L:Lib}
set_option maxHeartbeats 1000000
def F8 (v m:Int):Int:=if m<1 then 0 else v%m
theorem lK (W:y9 L) (v m:Int) (hv:JO v) (hm:m<=9223372036854775807):Ev L 34 [.int .i64 v,.int .i64 m] (.int .i64 (F8 v m)):=by
 unfold JO at hv;refine Ev.x W.SU rfl rfl ?_;(repeat' ((first|(apply AG<;>intro hc<;>try (exfalso;omega))|(apply AU;omega)|(refine XY ?_ (λ_ _ _ => ?_) (λ_ _ _ _ => ?_);omega;all_goals try (exfalso;omega))|apply AE)<;>conv=>whnf))
 all_goals (refine C2 ?_;unfold F8;first|rw[if_pos (by omega)]|rw[if_neg (by omega)])
 all_goals omega
def HM (l:List Int) (i:Int):Int:=if 0<=i/\i<l.length then l.getD i.toNat 0 else 0
theorem Aho (W:y9 L) (l:List Int) (q:Bool) (i:Int):Ev L 35 [.sl q (l.map YC),.int .i64 i] (.int .i64 (HM l i)):=by
 refine Ev.x W.SS rfl rfl ?_;(repeat' ((first|(apply AG<;>intro hc<;>try (exfalso;omega))|apply AR|(refine iS ?_ (λ_=>rfl) (λ e he => ?_);omega)|apply AE)<;>conv=>whnf))
 all_goals (refine C2 ?_;unfold HM;first|rw[if_neg (by omega)]|(rw[if_pos (by omega),List.getD_eq_getElem?_getD,he];rfl))
theorem Sr {v m:Int} (h:1<=m):0<=F8 v m/\F8 v m<m:=by
 unfold F8;rw[if_neg (by omega)];exact ⟨Int.emod_nonneg _ (by omega),Int.emod_lt_of_pos _ (by omega)⟩
end Go.c9

namespace Go.c9
open F
attribute [local irreducible] AA AF AP AD CI AY AW A6 A5 B2 AM BQ B8 C8 BM A1 BR B9 AB A7 AJ pw BO BH CH CK CS CP CD BT CJ
variable {L:Lib} (n:Nt)
set_option maxHeartbeats 1000000
end Go.c9

namespace Go.c9
open F
attribute [local irreducible] AA AF AP AD CI AY AW A6 A5 B2 AM BQ B8 C8 BM A1 BR B9 AB A7 AJ pw BO BH CH CK CS CP CD BT CJ
variable {L:Lib}
set_option maxHeartbeats 4000000
theorem kW (N:o6 L) (S:CU) (n k:Nat) (h:S.Ok n k) (hn:n<=64):Ev L 130 [.agg (eS S)] (.bool true):=by
 have h1:=h.la;have h2:=h.lb;have h3:=h.lc;refine Ev.x N.P6 rfl rfl ?_;(repeat' ((first|(apply AG<;>intro hc<;>try (exfalso;omega))|apply AR|apply AE)<;>conv=>whnf))
 refine BP (λ i=>S.a.length-i) (λ(i:Nat)=>i<=S.a.length) (λ i=>[(28,.int .i64 i)]) (λ_=>[]) [] [] 0 (by (conv=>whnf);exact ⟨rfl,rfl,rfl⟩) (by omega) ?_;intro i p1 ih;by_cases hi:i<S.a.length
 ·obtain ⟨r,hr⟩ : ∃ r,S.a[i]? = some r:=⟨_,zE hi⟩
  have ig:S.a[(i:Int).toNat]? = some r:=hr;have ax:=h.lr r (zM hr);(repeat' ((first|(apply AG<;>intro hc<;>try (exfalso;omega))|(apply AU;omega)|apply AR|(refine BA (by assumption) ?_ rfl ?_;omega)|apply AE)<;>conv=>whnf))
  exact BG [] (ih (i+1) (by omega) (by omega))
 ·obtain rfl:i=S.a.length:=by omega
  clear ih;(repeat' ((first|(apply AG<;>intro hc<;>try (exfalso;omega))|apply AE)<;>conv=>whnf))
  exact IJ rfl
theorem Ahp (N:o6 L) (n:Nat) (hn:n<=65536):Ev L 131 [.int .i64 (n:Int)] (.sl false ((List.replicate n (0:Rat)).map eQ)):=by
 have hO:=HS N.toa6 0 (by omega);refine Ev.x N.KB rfl rfl ?_;(repeat' (apply AE<;>conv=>whnf))
 refine EJ (enc:=eO) none n rfl rfl (by omega) ?_;(conv=>whnf)
 skip
 refine BP (λ i=>n-i) (λ(i:Nat)=>i<=n) (λ i=>[(9,.int .i64 i)]) (λ i=>[(131006,131006,.rw 3 ((ED (List.replicate i 0) n).map eO))]) [] [] 0 (by first|exact (by (conv=>whnf);exact ⟨rfl,rfl,rfl⟩)|(rw[<-OG];exact (by (conv=>whnf);exact ⟨rfl,rfl,rfl⟩))) (by omega) ?_;intro i p1 ih;by_cases hi:i<n
 ·have hl:=J9 (l:=List.replicate i (0:Rat)) (m:=n) (by simp;omega)
  have hs:=OH (l:=List.replicate i (0:Rat)) (m:=n) (x:=0) (by simp;omega);rw[List.length_replicate]at hs;(repeat' ((first|(apply AG<;>intro hc<;>try (exfalso;omega))|(apply AZ;omega)|apply AE|refine AC (hO) ?_)<;>conv=>whnf))
  refine FF (enc:=eO) (some 0) rfl (λ e=>by cases e<;>rfl) (by omega) ?_;(conv=>whnf)
  (repeat' ((first|(apply AU;omega)|fail)<;>conv=>whnf))
  rw[hs];rw[show List.replicate i (0:Rat)++[0]=List.replicate (i+1) 0 by rw[List.replicate_succ']];exact BG [] (ih (i+1) (by omega) (by omega))
 ·obtain rfl:i=n:=by omega
  clear ih;rw[OE (by simp)];(repeat' ((first|(apply AG<;>intro hc<;>try (exfalso;omega))|(refine C9 (λ_=>rfl) rfl ?_ ?_;(first|rfl|simp))|apply AE)<;>conv=>whnf))
  exact AX rfl (by simp only[A3,true_and];exact HO _)
theorem vX (N:o6 L) (a b:List Rat) (q1 q2:Bool) (k s:Nat) (hl:a.length=b.length) (ha:Bs k a) (hb:Bs s b) (hK:a.length*(k+s+1)+k+s<2199023255552) (ag:a.length<=1099511627776):Ev L 132 [.sl q1 (a.map eQ),.sl q2 (b.map eQ)] (.agg (eQ (A0 a b))):=by
 have hO:=HS N.toa6 0 (by omega);refine Ev.x N.P7 rfl rfl ?_;(repeat' ((first|apply AR|apply AE|refine AC (hO) ?_)<;>conv=>whnf))
 refine FV (λ i _=>a.length-i) (λ(i:Nat) (acc:Rat)=>i<=a.length/\acc=A0 (a.take i) (b.take i)) (λ i acc=>[(11,.int .i64 i)]) (λ i acc=>[(5,5,.bx (eQ acc))]) [] [] 0 ((0:Int):Rat) (by (conv=>whnf);exact ⟨rfl,rfl,rfl⟩) ⟨by omega,by simp [A0]⟩ ?_;intro i acc ⟨p1,p2⟩ ih;by_cases hi:i<a.length
 ·obtain ⟨x,hx⟩ : ∃ x,a[i]? = some x:=⟨_,zE hi⟩
  obtain ⟨y,hy⟩ : ∃ y,b[i]? = some y:=⟨_,zE (by omega)⟩;have fb:a[(i:Int).toNat]? = some x:=hx;have uo:b[(i:Int).toNat]? = some y:=hy;have bx:=ha.at hx;have si:=hb.at hy
  have rh:=WP N.toa6 bx (by omega);have sv:=WP N.toa6 si (by omega)
  have hM:=GD N.toa6 bx si (by omega) (by omega)
  have Ca:Bt (a.length*(k+s+1)) acc:=by
   rw[p2];have:=(ha.take i).dot (hb.take i)
   refine this.le (Nat.mul_le_mul_right _ ?_);rw[List.length_take];omega
  have hA:=O4 N.toa6 Ca (bx.mul si) (by omega) (by omega);have k6:=WI hx hy;have z1:=TK (x:=x);have z2:=TK (x:=y);generalize q6 x.num=sx at *;generalize q6 y.num=sy at *;by_cases h1:sx=0
  ·have mn:=z1.1 h1
   (repeat' ((first|(apply AG<;>intro hc<;>try (exfalso;omega))|(apply AU;omega)|(refine BA (by assumption) ?_ rfl ?_;omega)|apply AE|refine AC (rh) ?_)<;>conv=>whnf))
   refine BW [] (by (conv=>whnf);exact ⟨rfl,rfl,rfl⟩) (ih (i+1) acc (by omega) ⟨by omega,?_⟩);rw[k6,mn,Rat.zero_mul,Rat.add_zero];exact p2
  ·by_cases h2:sy=0
   ·have nv:=z2.1 h2
    (repeat' ((first|(apply AG<;>intro hc<;>try (exfalso;omega))|(apply AU;omega)|(refine BA (by assumption) ?_ rfl ?_;omega)|apply AE|refine AC (rh) ?_|refine AC (sv) ?_)<;>conv=>whnf))
    refine BW [] (by (conv=>whnf);exact ⟨rfl,rfl,rfl⟩) (ih (i+1) acc (by omega) ⟨by omega,?_⟩);rw[k6,nv,Rat.mul_zero,Rat.add_zero];exact p2
   ·(repeat' ((first|(apply AG<;>intro hc<;>try (exfalso;omega))|(apply AU;omega)|(refine BA (by assumption) ?_ rfl ?_;omega)|apply AE|refine AC (rh) ?_|refine AC (sv) ?_|refine AC (hM) ?_|refine AC (hA) ?_)<;>conv=>whnf))
    refine BW [] (by (conv=>whnf);exact ⟨rfl,rfl,rfl⟩) (ih (i+1) (acc+x*y) (by omega) ⟨by omega,?_⟩);rw[k6,<-p2]
 ·obtain rfl:i=a.length:=by omega
  clear ih;rw[VC rfl]at p2;rw[<-p2];(repeat' ((first|(apply AG<;>intro hc<;>try (exfalso;omega))|apply AE)<;>conv=>whnf))
  exact AX rfl (DI _)
theorem Agj (N:o6 L) (S:CU) (dm kz sz:Nat) (h:S.Ok dm kz) (hn:dm<=64) (st xs:List Rat) (q1 q2:Bool) (k6:st.length=dm) (Ug:Bs sz st) (Uh:Bs kz xs) (tt:xs.length<=4096)
  (hK : ∀ i,i<=xs.length->UQ dm kz sz i<1099511627776) (dp:sz<1099511627776) (Vx:kz<1099511627776) :
  Ev L 133 [.agg (eS S),.sl q1 (st.map eQ),.sl q2 (xs.map eQ)] (.j5 [.sl false ((S.outs st xs).map eQ),.sl false ((S.state st xs).map eQ),.int .i64 0]):=by
 have Br:=kW N S dm kz h hn;have Eb:=h.la;have hlb:=h.lb;have mg:=h.lc;refine Ev.x N.P5 rfl rfl ?_;(repeat' ((first|(apply AG<;>intro hc<;>try (exfalso;omega))|apply AR|apply AE|refine AC (Br) ?_)<;>conv=>whnf))
 refine EJ (enc:=eO) none st.length rfl rfl (by omega) ?_;(conv=>whnf)
 (repeat' (apply AR<;>conv=>whnf))
 refine BP (λ i=>st.length-i) (λ(i:Nat)=>i<=st.length) (λ i=>[(35,.int .i64 i)]) (λ i=>[(133032,133032,.rw 3 ((ED (st.take i) st.length).map eO))]) [] [] 0 (by first|exact (by (conv=>whnf);exact ⟨rfl,rfl,rfl⟩)|(rw[List.take_zero,<-OG];exact (by (conv=>whnf);exact ⟨rfl,rfl,rfl⟩))) (by omega) ?_;intro i p1 ih;by_cases hi:i<st.length
 ·obtain ⟨x,hx⟩ : ∃ x,st[i]? = some x:=⟨_,zE hi⟩
  have fb:st[(i:Int).toNat]? = some x:=hx;have hT:=eE N.toa6 (Ug.at hx) (by omega);have hl:=J9 (l:=st.take i) (m:=st.length) (by rw[List.length_take];omega);have hs:=OH (l:=st.take i) (m:=st.length) (x:=x) (by rw[List.length_take];omega);rw[List.length_take,Nat.min_eq_left (by omega),<-SP hx]at hs;(repeat' ((first|(apply AG<;>intro hc<;>try (exfalso;omega))|(apply AZ;omega)|(refine BA (by assumption) ?_ rfl ?_;omega)|apply AE|refine AC (hT) ?_)<;>conv=>whnf))
  refine FF (enc:=eO) (some x) rfl (λ e=>by cases e<;>rfl) (by omega) ?_;(conv=>whnf)
  (repeat' ((first|(apply AU;omega)|fail)<;>conv=>whnf))
  rw[hs];exact BG [] (ih (i+1) (by omega) (by omega))
 obtain rfl:i=st.length:=by omega
 clear ih;rw[List.take_of_length_le (Nat.le_refl _),OE rfl];(repeat' ((first|(apply AG<;>intro hc<;>try (exfalso;omega))|apply AR|apply AE)<;>conv=>whnf))
 refine EJ (enc:=eO) none 0 rfl rfl (by omega) ?_;(conv=>whnf)
 (repeat' (apply AR<;>conv=>whnf))
 refine bW (λ i _ _ _=>xs.length-i) (λ(i:Nat) (nw os:List Rat) (_:Nat)=>i<=xs.length/\nw=S.state st (xs.take i)/\os=S.outs st (xs.take i)) (λ i nw os _=>[(51,.int .i64 i),(12,.row 133048 0 3 0 os.length),(9,.row 133032 0 3 0 nw.length)]) (λ i nw os t=>[(133048,133048,.rw 3 (os.map eQ)),(133032,t,.rw 3 (nw.map eQ))]) [] [] 0 st [] 133032 (by (conv=>whnf);exact ⟨rfl,rfl,rfl⟩) ⟨by omega,rfl,rfl⟩ ?_;intro i nw os t ⟨p1,p2,p3⟩ ih;have Ar:nw.length=dm:=by rw[p2];exact h.lv _ _ k6
 have Gx:os.length=i:=by rw[p3,fP,List.length_take];omega
 by_cases hi:i<xs.length
 ·obtain ⟨x,hx⟩ : ∃ x,xs[i]? = some x:=⟨_,zE hi⟩
  have fb:xs[(i:Int).toNat]? = some x:=hx;have bx:=Uh.at hx;have Ew:Bs (UQ dm kz sz i) nw:=by
   have:=h.og (xs.take i) st sz k6 Ug (Uh.take i)
   rw[List.length_take,Nat.min_eq_left (by omega)]at this;rw[p2];exact this
  have hk1:=hK i (by omega);have ia:=hK (i+1) (by omega);rw[Py]at ia;obtain ⟨bn,bo⟩:=h.se Ar Ew bx;have Dd:S.state st (xs.take (i+1))=S.next nw x:=by rw[SP hx,Tg,<-p2]
  have Mx:S.outs st (xs.take (i+1))=os++[S.out nw x]:=by rw[SP hx,Rb,<-p2,<-p3]
  generalize fq:UQ dm kz sz i=kk at *;have Au7:dm*(kz+kk+1)+(kz+kz)+1<1099511627776:=by unfold UX at ia;exact ia
  have hP:=λ q q'=>vX N S.c nw q q' kz kk (by omega) h.bc Ew (by rw[mg];omega) (by omega)
  have ck:=GD N.toa6 h.bd bx (by omega) (by omega);have Ud:=h.bc.dot Ew;rw[mg]at Ud;have hA1:=O4 N.toa6 Ud (h.bd.mul bx) (by omega) (by omega);(repeat' ((first|(apply AG<;>intro hc<;>try (exfalso;omega))|(refine BA (by assumption) ?_ rfl ?_;omega)|(refine C9 (λ_=>rfl) rfl ?_ ?_;(first|rfl|simp))|apply DW|apply AE|refine AC (hP _ _) ?_|refine AC (ck) ?_|refine AC (hA1) ?_)<;>conv=>whnf))
  refine EO (enc:=eQ) (S.out nw x) rfl rfl rfl (by omega) (by omega) ?_;(conv=>whnf)
  skip
  refine EJ (enc:=eO) none nw.length rfl rfl (by omega) ?_;(conv=>whnf)
  (repeat' (apply AR<;>conv=>whnf))
  have Avm:=h.ju nw x;generalize hNx:S.next nw x=nx at *
  refine BP (λ j=>S.a.length-j) (λ(j:Nat)=>j<=S.a.length) (λ j=>[(73,.int .i64 j)]) (λ j=>[(133069,133069,.rw 3 ((ED (nx.take j) nw.length).map eO))]) [] [] 0 (by first|exact (by (conv=>whnf);exact ⟨rfl,rfl,rfl⟩)|(rw[List.take_zero,<-OG];exact (by (conv=>whnf);exact ⟨rfl,rfl,rfl⟩))) (by omega) ?_;intro j r1 jh;by_cases hj:j<S.a.length
  ·obtain ⟨r,hr⟩ : ∃ r,S.a[j]? = some r:=⟨_,zE hj⟩
   obtain ⟨b,ub⟩ : ∃ b,S.b[j]? = some b:=⟨_,zE (by omega)⟩;have ig:S.a[(j:Int).toNat]? = some r:=hr;have l7:S.b[(j:Int).toNat]? = some b:=ub;have ax:=h.lr r (zM hr);have bb:=h.bb.at ub;have Kn:=λ q q'=>vX N r nw q q' kz kk (by omega) (h.ba r (zM hr)) Ew (by rw[ax];omega) (by omega)
   have dj:=GD N.toa6 bb bx (by omega) (by omega);have Ue:=(h.ba r (zM hr)).dot Ew;rw[ax]at Ue;have Dq:=O4 N.toa6 Ue (bb.mul bx) (by omega) (by omega);have hnj:nx[j]? = some (A0 r nw+b*x):=by rw[<-hNx];exact zK nw x S.a S.b j r b hr ub
   have hl:=J9 (l:=nx.take j) (m:=nw.length) (by rw[List.length_take];omega);have hs:=OH (l:=nx.take j) (m:=nw.length) (x:=A0 r nw+b*x) (by rw[List.length_take];omega);rw[List.length_take,Nat.min_eq_left (by omega),<-SP hnj]at hs;generalize A0 r nw+b*x=y at *;(repeat' ((first|(apply AG<;>intro hc<;>try (exfalso;omega))|(apply AZ;omega)|(refine BA (by assumption) ?_ rfl ?_;omega)|(refine C9 (λ_=>rfl) rfl ?_ ?_;(first|rfl|simp))|apply AE|refine AC (Kn _ _) ?_|refine AC (dj) ?_|refine AC (Dq) ?_)<;>conv=>whnf))
   refine FF (enc:=eO) (some y) rfl (λ e=>by cases e<;>rfl) (by omega) ?_;(conv=>whnf)
   (repeat' ((first|(apply AU;omega)|fail)<;>conv=>whnf))
   rw[hs];exact BG [] (jh (j+1) (by omega) (by omega))
  ·obtain rfl:j=S.a.length:=by omega
   clear jh;rw[List.take_of_length_le (by omega),OE (by omega)];rw[show nw.length=nx.length by omega];(repeat' ((first|(apply AG<;>intro hc<;>try (exfalso;omega))|(apply AU;omega)|apply AE)<;>conv=>whnf))
   refine BG [(133032,133069),(133048,133066)] (ih (i+1) nx (os++[S.out nw x]) 133069 (by omega) ⟨by omega,by rw[Dd],by rw[Mx]⟩)
 ·obtain rfl:i=xs.length:=by omega
  clear ih;rw[List.take_of_length_le (Nat.le_refl _)]at p2 p3;rw[<-p2,<-p3];(repeat' ((first|(apply AG<;>intro hc<;>try (exfalso;omega))|(refine C9 (λ_=>rfl) rfl ?_ ?_;(first|rfl|simp))|apply AE)<;>conv=>whnf))
  exact AX rfl (Aea _ _ _)
theorem Bs.Hy (k n:Nat):Bs k (List.replicate n 0):=λ x hx=>by rw[(List.mem_replicate.1 hx).2];exact Bt.zero k
theorem Agg (N:o6 L) (S:CU) (n k c:Nat) (h:S.Ok n k) (hn:n<=64) (ja:c<=4096) (hK : ∀ i,i<=c->UQ n k 0 i<1099511627776) (Vx:k<1099511627776) :
  Ev L 134 [.agg (eS S),.int .i64 (c:Int)] (.j5 [.sl false ((S.outs (List.replicate n 0) (GG c)).map eQ),.int .i64 0]):=by
 have Br:=kW N S n k h hn;have Eb:=h.la;have hO:=HS N.toa6 0 (by omega);have hI:=HS N.toa6 1 (by omega);have hZ:=Ahp N n (by omega);rw[<-Eb]at hZ;have hR:=λ q1 q2=>Agj N S n k 0 h hn (List.replicate S.a.length 0) (GG c) q1 q2 (by simp [Eb]) (Bs.Hy _ _) (Aih k c) (by rw[aK];omega) (by rw[aK];exact hK) (by omega) Vx
 rw[<-Eb];refine Ev.x N.P4 rfl rfl ?_;(repeat' ((first|(apply AG<;>intro hc<;>try (exfalso;omega))|apply AE|refine AC (Br) ?_)<;>conv=>whnf))
 refine GI 1000 N.KB rfl rfl ?_;(repeat' (apply AE<;>conv=>whnf))
 refine EJ (enc:=eO) none c rfl rfl (by omega) ?_;(conv=>whnf)
 skip
 refine BP (λ i=>c-i) (λ(i:Nat)=>i<=c) (λ i=>[(9,.int .i64 i)]) (λ i=>[(131006,131006,.rw 3 ((ED (List.replicate i 0) c).map eO))]) [] [] 0 (by first|exact (by (conv=>whnf);exact ⟨rfl,rfl,rfl⟩)|(rw[<-OG];exact (by (conv=>whnf);exact ⟨rfl,rfl,rfl⟩))) (by omega) ?_;intro i p1 ih;by_cases hi:i<c
 ·have hl:=J9 (l:=List.replicate i (0:Rat)) (m:=c) (by simp;omega)
  have hs:=OH (l:=List.replicate i (0:Rat)) (m:=c) (x:=0) (by simp;omega);rw[List.length_replicate]at hs;(repeat' ((first|(apply AG<;>intro hc<;>try (exfalso;omega))|(apply AZ;omega)|apply AE|refine AC (hO) ?_)<;>conv=>whnf))
  refine FF (enc:=eO) (some 0) rfl (λ e=>by cases e<;>rfl) (by omega) ?_;(conv=>whnf)
  (repeat' ((first|(apply AU;omega)|fail)<;>conv=>whnf))
  rw[hs];rw[show List.replicate i (0:Rat)++[0]=List.replicate (i+1) 0 by rw[List.replicate_succ']];exact BG [] (ih (i+1) (by omega) (by omega))
 obtain rfl:i=c:=by omega
 clear ih;rw[OE (by simp)];by_cases Ak:i=0
 ·subst Ak
  (repeat' ((first|(apply AG<;>intro hc<;>try (exfalso;omega))|apply AE)<;>conv=>whnf))
  refine ⟨rfl,_,rfl,?_⟩;(conv=>whnf)
  (repeat' ((first|(apply AG<;>intro hc<;>try (exfalso;omega))|apply AR|(refine C9 (λ_=>rfl) rfl ?_ ?_;(first|rfl|simp))|refine AC (hZ) ?_|refine AC (hR _ _) ?_)<;>conv=>whnf))
  exact AX rfl (sQ _ _)
 ·have himp:(List.replicate i (0:Rat)).set 0 1=GG i:=by
   rcases i with _|i
   ·exact absurd rfl Ak
   ·simp [GG,List.replicate_succ]
  (repeat' ((first|(apply AG<;>intro hc<;>try (exfalso;omega))|apply AE)<;>conv=>whnf))
  refine ⟨rfl,_,rfl,?_⟩;(conv=>whnf)
  (repeat' ((first|(apply AG<;>intro hc<;>try (exfalso;omega))|(apply AZ;omega)|refine AC (hI) ?_)<;>conv=>whnf))
  refine V9 (enc:=eQ) 0 1 rfl rfl (λ_=>rfl) (by simp;omega) ?_;(conv=>whnf)
  rw[himp];(repeat' ((first|apply AR|refine AC (hZ) ?_)<;>conv=>whnf))
  refine C9 (enc:=eQ) (λ_=>rfl) rfl (aK i).symm ?_;(conv=>whnf)
  (repeat' (refine AC (hR _ _) ?_<;>conv=>whnf))
  exact AX rfl (sQ _ _)
end Go.c9

namespace Go.c9
theorem Bs.getD {k:Nat} {l:List Rat} (h:Bs k l) (i:Nat):Bt k (l.getD i 0):=by
 rw[List.getD_eq_getElem?_getD];cases e:l[i]? with
 | none=>exact Bt.zero k
 | some x=>exact h.at e
theorem Bt.ofInt {k:Nat} {z:Int} (h:z.natAbs<=2^k):Bt k ((z:Int):Rat):=⟨by rw[Rat.num_intCast];exact h,by rw[Rat.den_intCast];exact Nat.one_le_two_pow⟩
theorem zH (σ:FR) (k:Nat) : ∀ (n i:Nat),B5 σ k i (List.replicate n none)=List.replicate n [.nil]
 | 0,_=>rfl
 | n+1,i=>by
  rw[List.replicate_succ,List.replicate_succ];show [AV.nil]::B5 σ k (i+1) (List.replicate n none)=_;rw[zH σ k n (i+1)]
theorem Xy {L:Lib} {kk:List It} {tm:Tm} {M:Mem} {Q:Tm->Mem->Prop} (k s n:Nat) (e:e8 M k=some (s,.mx (List.replicate n none))) (h:AA L kk tm ((k,s,.rw 1 (List.replicate n [.nil]))::M) Q):AA L kk tm M Q:=by
 intro σ st hr;have hg : ∀ j t c,c4 ((k,s,.rw 1 (List.replicate n [.nil]))::M) j t=some c -> ∃ c0,c4 M j t=some c0/\c0.g7 σ j=c.g7 σ j:=by
  intro j t c g;by_cases hj:j=k
  ·subst hj
   cases t with
   | zero =>
    have h1:e8 ((j,s,A8.rw 1 (List.replicate n [.nil]))::M) j=some (s,.rw 1 (List.replicate n [.nil])):=by simp [e8]
    simp only[c4,h1,Option.some.injEq]at g;subst g;refine ⟨.mx (List.replicate n none),by simp only[c4,e],?_⟩;simp only[A8.g7,zH]
   | succ i =>
    have h1:e8 ((j,s,A8.rw 1 (List.replicate n [.nil]))::M) j=some (s,.rw 1 (List.replicate n [.nil])):=by simp [e8]
    simp only[c4,h1]at g;cases g
  ·have h1:e8 ((k,s,A8.rw 1 (List.replicate n [.nil]))::M) j=e8 M j:=by
    have hb:Nat.beq j k=false:=by
     cases jo:Nat.beq j k with
     | false=>rfl
     | true=>exact absurd (Nat.eq_of_beq_eq_true jo) hj
    simp only[e8,hb,cond_false]
   refine ⟨c,?_,rfl⟩;simp only[c4,h1]at g ⊢;exact g
 refine h σ st ⟨hr.tm,⟨?_,?_,?_,?_,?_⟩⟩
 ·intro j s' c g
  by_cases hj:j=k
  ·subst hj
   have h1:e8 ((j,s,A8.rw 1 (List.replicate n [.nil]))::M) j=some (s,.rw 1 (List.replicate n [.nil])):=by simp [e8]
   rw[h1]at g;simp only[Option.some.injEq,Prod.mk.injEq]at g;obtain ⟨rfl,_⟩:=g;exact hr.sat.site _ _ _ e
  ·have h1:e8 ((k,s,A8.rw 1 (List.replicate n [.nil]))::M) j=e8 M j:=by
    have hb:Nat.beq j k=false:=by
     cases jo:Nat.beq j k with
     | false=>rfl
     | true=>exact absurd (Nat.eq_of_beq_eq_true jo) hj
    simp only[e8,hb,cond_false]
   rw[h1]at g;exact hr.sat.site _ _ _ g
 ·intro j t c g
  obtain ⟨c0,q1,q2⟩:=hg j t c g;rw[<-q2];exact hr.sat.g7 _ _ _ q1
 ·intro j t c g
  obtain ⟨c0,q1,_⟩:=hg j t c g;exact hr.sat.old _ _ _ q1
 ·intro j t j' t' c c' g g' hσ
  obtain ⟨c0,q1,_⟩:=hg j t c g;obtain ⟨c1,q2,_⟩:=hg j' t' c' g';exact hr.sat.inj _ _ _ _ _ _ q1 q2 hσ
 ·intro j t c g hw
  cases t with
  | zero =>
   by_cases hj:j=k
   ·subst hj;exact hr.sat.low _ _ _ (D4 e) rfl
   ·rw[OM hj]at g;exact hr.sat.low _ _ _ g hw
  | succ t =>
   obtain ⟨c0,q1,_⟩:=hg _ _ _ g;exact hr.sat.low _ _ _ q1 (fA q1)
end Go.c9



namespace Go.c9
open F
attribute [local irreducible] AA AF AP AD CI AY AW A6 A5 B2 AM BQ B8 C8 BM A1 BR B9 AB A7 AJ pw BO BH CH CK CS CP CD BT CJ
variable {L:Lib}
set_option maxHeartbeats 4000000
theorem iD (m p:Nat):(List.replicate m (0:Rat)).set p 1=E5 m p:=by
 refine List.ext_getElem? λ j => ?_
 simp only[E5,List.getElem?_set,List.getElem?_map,List.getElem?_replicate,List.length_replicate];by_cases h:j<m
 ·rw[List.getElem?_range h]
  by_cases e:p=j
  ·subst e;simp [h]
  ·simp [h,e];intro h3;omega
 ·rw[List.getElem?_eq_none (by simpa using h)]
  simp [h];intro e;omega
theorem Ahw {α:Type} (a b:α) {t m:Nat} (_:t<=m) (h:t<m):(List.replicate t a++List.replicate (m-t) b).set t a=List.replicate (t+1) a++List.replicate (m-(t+1)) b:=by
 obtain ⟨k,hk⟩ : ∃ k,m-t=k+1:=⟨m-t-1,by omega⟩;rw[List.set_append_right _ _ (by simp),hk,List.length_replicate,Nat.sub_self,List.replicate_succ,List.set_cons_zero,show m-(t+1)=k by omega,List.replicate_succ',List.append_assoc];rfl
def fz {α:Type} (z:α) (l:List α) (m:Nat):List α:=l++List.replicate (m-l.length) z
theorem YM {α:Type} {z:α} {l:List α} {m:Nat} (h:l.length<=m):(fz z l m).length=m:=by simp [fz];omega
theorem YN {α:Type} {z x:α} {l:List α} {m:Nat} (h:l.length<m):(fz z l m).set l.length x=fz z (l++[x]) m:=by
 unfold fz;obtain ⟨k,hk⟩ : ∃ k,m-l.length=k+1:=⟨m-l.length-1,by omega⟩;rw[List.set_append_right _ _ (by simp),hk,Nat.sub_self,List.replicate_succ,List.set_cons_zero,List.length_append,List.length_singleton,show m-(l.length+1)=k by omega,List.append_assoc];rfl
theorem AhA {α:Type} {z:α} {l:List α} {m:Nat} (h:l.length<m):(fz z l m)[l.length]? = some z:=by
 unfold fz;rw[List.getElem?_append_right (by omega),Nat.sub_self,List.getElem?_replicate,if_pos (by omega)]
theorem YL {α:Type} {z:α} {l:List α} {m:Nat} (h:l.length=m):fz z l m=l:=by simp [fz,h]
theorem Y7 {α:Type} {l:List α} {i:Nat} {x:α} (h:l[i]? = some x):l.take (i+1)=l.take i++[x]:=by
 rw[List.take_add_one,h];rfl
end Go.c9

namespace Go.c9
def DB (m:List (List Rat)) (j:Nat):List Rat:=m.map λ r=>r.getD j 0
def EH (r:List Rat) (m:List (List Rat)) (n:Nat):List Rat:=(List.range n).map λ j=>A0 r (DB m j)
def F2 (a m:List (List Rat)) (n:Nat):List (List Rat):=a.map λ r=>EH r m n
def lZ (n:Nat):List (List Rat):=(List.range n).map λ i:Nat=>E5 n i
def D5 (m:List (List Rat)) (b:List Rat):List Rat:=m.map λ r=>A0 r b
theorem Aeg (m:List (List Rat)) (j:Nat):(DB m j).length=m.length:=by simp [DB]
theorem zF (r:List Rat) (m:List (List Rat)) (n:Nat):(EH r m n).length=n:=by simp [EH]
theorem Ajh (a m:List (List Rat)) (n:Nat):(F2 a m n).length=a.length:=by simp [F2]
theorem mY (m:List (List Rat)) (b:List Rat):(D5 m b).length=m.length:=by simp [D5]
structure Sq (n:Nat) (m:List (List Rat)):Prop where
 l:m.length=n
 r : ∀ r∈m,r.length=n
theorem Sq.at {n:Nat} {m:List (List Rat)} (h:Sq n m) {i:Nat} {r:List Rat} (hr:m[i]? = some r):r.length=n:=h.r r (zM hr)
theorem Sq.mul {n:Nat} {a:List (List Rat)} (h:a.length=n) (m:List (List Rat)):Sq n (F2 a m n):=by
 refine ⟨by rw[Ajh,h],λ r hr => ?_⟩;obtain ⟨x,_,rfl⟩:=List.mem_map.1 hr;exact zF _ _ _
def Ms (k:Nat) (m:List (List Rat)):Prop := ∀ r∈m,Bs k r
theorem Ms.at {k:Nat} {m:List (List Rat)} (h:Ms k m) {i:Nat} {r:List Rat} (hr:m[i]? = some r):Bs k r:=h r (zM hr)
theorem Ms.getD {k:Nat} {m:List (List Rat)} (h:Ms k m) (i j:Nat):Bt k ((m.getD i []).getD j 0):=by
 rw[List.getD_eq_getElem?_getD,List.getD_eq_getElem?_getD];cases e:m[i]? with
 | none=>exact Bt.zero k
 | some r =>
  simp only[Option.getD_some];cases e2:r[j]? with
  | none=>exact Bt.zero k
  | some x=>exact (h.at e).at e2
theorem Ms.le {k j:Nat} {m:List (List Rat)} (h:Ms k m) (hj:k<=j):Ms j m:=λ r hr=>(h r hr).le hj
theorem Ms.Ia {k:Nat} {m:List (List Rat)} (h:Ms k m) (j:Nat):Bs k (DB m j):=by
 intro x hx;obtain ⟨r,hr,rfl⟩:=List.mem_map.1 hx;rw[List.getD_eq_getElem?_getD];cases e:r[j]? with
 | none=>exact Bt.zero k
 | some x=>exact (h r hr).at e
theorem Ms.mul {n k s:Nat} {a m:List (List Rat)} (ha:Ms k a) (hs:Sq n a) (hm:Ms s m):Ms (n*(k+s+1)) (F2 a m n):=by
 intro r hr x hx;obtain ⟨r,h1,rfl⟩:=List.mem_map.1 hr;obtain ⟨j,_,rfl⟩:=List.mem_map.1 hx;have:=(ha r h1).dot (hm.Ia j)
 rw[hs.r r h1]at this;exact this
end Go.c9

namespace Go.c9
variable {L:Lib}
end Go.c9

namespace Go.c9
open F
attribute [local irreducible] AA AF AP AD CI AY AW A6 A5 B2 AM BQ B8 C8 BM A1 BR B9 AB A7 AJ pw BO BH CH CK CS CP CD BT CJ
variable {L:Lib}
set_option maxHeartbeats 16000000
def ot (P:List (List Rat)) (n j i:Nat):List (List (Option Rat)):=(List.range P.length).map λ r=>ED ((P.getD r []).take (if r<i then j+1 else j)) n
theorem aW (P:List (List Rat)) (n j i:Nat):(ot P n j i).length=P.length:=by simp [ot]
theorem AhI {P:List (List Rat)} {i:Nat} {row:List Rat} (h:P[i]? = some row):P.getD i []=row:=by rw[List.getD_eq_getElem?_getD,h];rfl
theorem fO {P:List (List Rat)} {n j i r:Nat} {row:List Rat} (h:P[r]? = some row):(ot P n j i)[r]? = some (ED (row.take (if r<i then j+1 else j)) n):=by
 have h1:=(zS h).1;simp only[ot,List.getElem?_map,List.getElem?_range h1,Option.map_some,AhI h]
theorem AjI {P:List (List Rat)} {n j i:Nat} {row:List Rat} (h:P[i]? = some row):(ot P n j i).set i (ED (row.take (j+1)) n)=ot P n j (i+1):=by
 refine List.ext_getElem? λ r => ?_
 rw[List.getElem?_set,aW];cases e:P[r]? with
 | none =>
  have h1:=List.getElem?_eq_none_iff.1 e;have h2:=(zS h).1;rw[List.getElem?_eq_none (by rw[aW];exact h1),if_neg (by omega),List.getElem?_eq_none (by rw[aW];exact h1)]
 | some rw' =>
  rw[fO e,fO e];by_cases hi:i=r
  ·subst hi
   obtain rfl:=Option.some.inj (h.symm.trans e);have h2:=(zS h).1;rw[if_pos rfl,if_pos h2,if_pos (by omega)]
  ·rw[if_neg hi]
   by_cases h3:r<i
   ·rw[if_pos h3,if_pos (by omega)]
   ·rw[if_neg h3,if_neg (by omega)]
theorem AjH (P:List (List Rat)) (n j:Nat):ot P n j P.length=ot P n (j+1) 0:=by
 refine List.map_congr_left λ r hr => ?_
 rw[if_pos (List.mem_range.1 hr),if_neg (by omega)]
theorem AjJ (P:List (List Rat)) (n:Nat):ot P n 0 0=List.replicate P.length (ED [] n):=by
 refine List.ext_getElem? λ r => ?_
 simp only[ot,List.getElem?_map,List.getElem?_replicate];by_cases h:r<P.length
 ·rw[List.getElem?_range h,if_pos h];simp
 ·rw[List.getElem?_eq_none (by simp;omega),if_neg h];rfl
theorem AjG {P:List (List Rat)} {n:Nat} (h : ∀ r∈P,r.length=n):BK 3 eO (ot P n n 0)=BK 3 eQ P:=by
 refine List.ext_getElem? λ r => ?_
 simp only[BK,List.getElem?_map];cases e:P[r]? with
 | none=>rw[List.getElem?_eq_none (by rw[aW];exact List.getElem?_eq_none_iff.1 e)];rfl
 | some row =>
  have hl:=h row (zM e);rw[fO e,if_neg (by omega),List.take_of_length_le (by omega)];simp only[Option.map_some,OE hl]
theorem Agl (N:o6 L) (S:CU) (n k:Nat) (h:S.Ok n k) (hn:n<=64):Ev L 136 [.agg (eS S)] (.bool true):=by
 have h1:=h.la;have h2:=h.lb;have h3:=h.lc;refine Ev.x N.R6 rfl rfl ?_;(repeat' ((first|(apply AG<;>intro hc<;>try (exfalso;omega))|apply AR|apply AE)<;>conv=>whnf))
 refine BP (λ i=>S.a.length-i) (λ(i:Nat)=>i<=S.a.length) (λ i=>[(4,.int .i64 i)]) (λ_=>[]) [] [] 0 (by (conv=>whnf);exact ⟨rfl,rfl,rfl⟩) (by omega) ?_;intro i p1 ih;by_cases hi:i<S.a.length
 ·obtain ⟨r,hr⟩ : ∃ r,S.a[i]? = some r:=⟨_,zE hi⟩
  have ig:S.a[(i:Int).toNat]? = some r:=hr;have ax:=h.lr r (zM hr);(repeat' ((first|(apply AG<;>intro hc<;>try (exfalso;omega))|(apply AU;omega)|apply AR|(refine BA (by assumption) ?_ rfl ?_;omega)|apply AE)<;>conv=>whnf))
  exact BG [] (ih (i+1) (by omega) (by omega))
 ·obtain rfl:i=S.a.length:=by omega
  clear ih;(repeat' ((first|(apply AG<;>intro hc<;>try (exfalso;omega))|apply AE)<;>conv=>whnf))
  exact IJ rfl
theorem kV (N:o6 L) (a b:List Rat) (q1 q2:Bool) (k s:Nat) (hl:a.length=b.length) (ha:Bs k a) (hb:Bs s b) (hK:a.length*(k+s+1)+k+s<2199023255552) (ag:a.length<=1099511627776):Ev L 137 [.sl q1 (a.map eQ),.sl q2 (b.map eQ)] (.agg (eQ (A0 a b))):=by
 have hO:=YH N.tob8 0 (by omega);refine Ev.x N.R5 rfl rfl ?_;(repeat' ((first|apply AE|refine AC (hO) ?_)<;>conv=>whnf))
 refine FV (λ i _=>a.length-i) (λ(i:Nat) (acc:Rat)=>i<=a.length/\acc=A0 (a.take i) (b.take i)) (λ i acc=>[(6,.int .i64 i)]) (λ i acc=>[(5,5,.bx (eQ acc))]) [] [] 0 ((0:Int):Rat) (by (conv=>whnf);exact ⟨rfl,rfl,rfl⟩) ⟨by omega,by simp [A0]⟩ ?_;intro i acc ⟨p1,p2⟩ ih;by_cases hi:i<a.length
 ·obtain ⟨x,hx⟩ : ∃ x,a[i]? = some x:=⟨_,zE hi⟩
  obtain ⟨y,hy⟩ : ∃ y,b[i]? = some y:=⟨_,zE (by omega)⟩;have fb:a[(i:Int).toNat]? = some x:=hx;have uo:b[(i:Int).toNat]? = some y:=hy;have bx:=ha.at hx;have si:=hb.at hy
  have hM:=TB N.tob8 bx si (by omega) (by omega)
  have Ca:Bt (a.length*(k+s+1)) acc:=by
   rw[p2];have:=(ha.take i).dot (hb.take i)
   refine this.le (Nat.mul_le_mul_right _ ?_);rw[List.length_take];omega
  have hA:=WN N.tob8 Ca (bx.mul si) (by omega) (by omega);have k6:=WI hx hy;(repeat' ((first|(apply AG<;>intro hc<;>try (exfalso;omega))|(apply AU;omega)|apply AR|(refine BA (by assumption) ?_ rfl ?_;omega)|apply AE|refine AC (hM) ?_|refine AC (hA) ?_)<;>conv=>whnf))
  refine BW [] (by (conv=>whnf);exact ⟨rfl,rfl,rfl⟩) (ih (i+1) (acc+x*y) (by omega) ⟨by omega,?_⟩);rw[k6,<-p2]
 ·obtain rfl:i=a.length:=by omega
  clear ih;rw[VC rfl]at p2;rw[<-p2];(repeat' ((first|(apply AG<;>intro hc<;>try (exfalso;omega))|apply AR|apply AE)<;>conv=>whnf))
  exact AX rfl (DI _)
end Go.c9

namespace Go.c9
theorem V6 {R:List (Option (Nat × List (List AV)))} {i e z:Nat} {es:List (List AV)} {K:Option (Nat × List (List AV))->Prop} (he:e=i) (hi:i<R.length) (h:K (some (z,es))):BO (R.set i (some (z,es))) e K:=by
 subst he;exact ⟨_,by rw[List.getElem?_set,if_pos rfl,if_pos hi],h⟩
theorem TT {R:List (Option (Nat × List (List AV)))} {i e z:Nat} {es:List (List AV)} {K:Nat->List (List AV)->Prop} (he:e=i) (hi:i<R.length) (h:K z es):BH (R.set i (some (z,es))) e K:=by
 subst he;exact ⟨z,es,by rw[List.getElem?_set,if_pos rfl,if_pos hi],h⟩
theorem cM {R:List (Option (Nat × List (List AV)))} {i e z:Nat} {es es':List (List AV)} {K:List (Option (Nat × List (List AV)))->Prop} (he:e=i) (hl:es'.length=es.length) (h:K (R.set i (some (z,es')))):CK (R.set i (some (z,es))) e z es es' K:=by
 subst he;exact ⟨hl,by rw[List.set_set];exact h⟩
theorem XZ {R:List (Option (Nat × List (List AV)))} {i e z:Nat} {es:List (List AV)} {K:List (Option (Nat × List (List AV)))->Prop} (he:e=i) (hi:i<R.length) (h:K (R.set i (some (z,es)))):CH R e z es K:=by
 subst he;exact ⟨hi,h⟩
end Go.c9

namespace Go.c9
open F
attribute [local irreducible] AA AF AP AD CI AY AW A6 A5 B2 AM BQ B8 C8 BM A1 BR B9 AB A7 AJ pw BO BH CH CK CS CP CD BT CJ
variable {L:Lib}
set_option maxHeartbeats 16000000
def mz (Q:List (List Rat)) (n i:Nat):List (Option (Nat × List (List AV))):=fz none (BK 3 eQ (Q.take i)) n
theorem nA {Q:List (List Rat)} {n i:Nat} (hi:i<=n):(mz Q n i).length=n:=by
 refine YM ?_;simp only[BK,List.length_map,List.length_take];omega
theorem nC (Q:List (List Rat)) (n:Nat):mz Q n 0=List.replicate n none:=by simp [mz,fz]
theorem nB {Q:List (List Rat)} {n i:Nat} {row:List Rat} (h:Q[i]? = some row) (hi:i<n):(mz Q n i).set i (some (3,row.map eQ))=mz Q n (i+1):=by
 have h1:=(zS h).1;have hl:(BK 3 eQ (Q.take i)).length=i:=by simp only[BK,List.length_map,List.length_take];omega
 have:=YN (z:=none) (l:=BK 3 eQ (Q.take i)) (m:=n) (x:=some (3,row.map eQ)) (by omega)
 rw[hl]at this;rw[mz,this,mz,Y7 h];simp [BK]
theorem mZ {Q:List (List Rat)} {n:Nat} (h:Q.length=n):mz Q n n=BK 3 eQ Q:=by
 rw[mz,List.take_of_length_le (by omega)];exact YL (by simp [BK,h])
def cz (row:List Rat) (n j:Nat):List Rat:=fz 0 (row.take j) n
theorem tP {row:List Rat} {n j:Nat} (hj:j<=n):(cz row n j).length=n:=by
 refine YM ?_;rw[List.length_take];omega
theorem tR (row:List Rat) (n:Nat):cz row n 0=List.replicate n 0:=by simp [cz,fz]
theorem tQ {row:List Rat} {n j:Nat} {x:Rat} (h:row[j]? = some x) (hj:j<n):(cz row n j).set j x=cz row n (j+1):=by
 have h1:=(zS h).1;have hl:(row.take j).length=j:=by rw[List.length_take];omega
 have:=YN (z:=(0:Rat)) (l:=row.take j) (m:=n) (x:=x) (by omega)
 rw[hl]at this;rw[cz,this,cz,Y7 h]
theorem tO {row:List Rat} {n:Nat} (h:row.length=n):cz row n n=row:=by
 rw[cz,List.take_of_length_le (by omega)];exact YL h
end Go.c9

namespace Go.c9
open Go.ChangeShapes Go.WideShapes Go.ChangeAt Go.RowKit
inductive Ty where
 | int (k:IntKind)
 | bool
 | sl (e:Ty)
 | nil
 | cons (a r:Ty)
def Ty.cells:Ty->Nat
 | .int _=>1 | .bool=>1 | .sl _=>1
 | .nil=>0
 | .cons a r=>a.cells+r.cells
def HE:Ty->List AV->Prop
 | .int k,cs => ∃ n,cs=[.int k n]/\(Lit.int k n).wf=true
 | .bool,cs => ∃ b,cs=[.bool b]
 | .sl e,cs => ∃ es,cs=[.sl true es]/\es.length<=maxLen /\ ∀ x∈es,HE e x
 | .nil,cs=>cs=[]
 | .cons a r,cs => ∃ x y,cs=x++y/\HE a x/\HE r y
theorem HE.len : ∀ {ty:Ty} {cs:List AV},HE ty cs->cs.length=ty.cells
 | .int _,cs,h=>by obtain ⟨n,rfl,_⟩:=h;rfl
 | .bool,cs,h=>by obtain ⟨n,rfl⟩:=h;rfl
 | .sl _,cs,h=>by obtain ⟨n,rfl,_⟩:=h;rfl
 | .nil,cs,h=>by rw[show cs=[] from h];rfl
 | .cons a r,cs,h=>by obtain ⟨x,y,rfl,h1,h2⟩:=h;simp [Ty.cells,HE.len h1,HE.len h2]
def QH (P:Program):Nat->TypeId->Ty->Bool
 | 0,_,_=>false
 | n+1,t,ty=>match P.underlying t,ty with
  | some (.int k),.int k'=>decide (k=k')
  | some .bool,.bool=>true
  | some (.slice e),.sl mu=>QH P n e mu&&(P.cellsOf e == mu.cells&&decide (0<mu.cells))
  | some (.struct fs),ty=>go (QH P n) fs.toList 0 ty&&P.cellsOf t == ty.cells
  | _,_=>false
where
 go (ok:TypeId->Ty->Bool):List Field->Nat->Ty->Bool
  | [],_,.nil=>true
  | f::fs,off,.cons a r=>(f.offset == off&&(ok f.type a&&P.cellsOf f.type == a.cells))&&go ok fs (off+a.cells) r
  | _,_,_=>false
section
variable {H:Type} {enc:TypeId × Value->H} {P:Program} {w:World} {base:Nat} {spare:Nat->Bool} {held:Bool} {R:Bool->Nat->Prop}
def H4 (w:World) (R:Bool->Nat->Prop) (as:List AV) (cs:List Value):Prop:=as.length=cs.length /\ ∀ (j:Nat) (a:AV) (c:Value),as[j]? = some a->cs[j]? = some c->Rd w R a c
theorem H4.one {a:AV} {c:Value} (h:Rd w R a c):H4 w R [a] [c]:=by
 refine ⟨rfl,λ j a' c' h1 h2 => ?_⟩;cases j with
 | zero=>simp at h1 h2;subst h1 h2;exact h
 | succ j=>simp at h1
theorem H4.append {as bs:List AV} {cs ds:List Value} (h1:H4 w R as cs) (h2:H4 w R bs ds):H4 w R (as++bs) (cs++ds):=by
 refine ⟨by simp [h1.1,h2.1],λ j a c ha hc => ?_⟩;by_cases hj:j<as.length
 ·rw[List.getElem?_append_left hj]at ha
  rw[List.getElem?_append_left (by rw[<-h1.1];exact hj)]at hc;exact h1.2 j a c ha hc
 ·rw[List.getElem?_append_right (by omega)]at ha
  rw[List.getElem?_append_right (by rw[<-h1.1];omega),<-h1.1]at hc;exact h2.2 _ a c ha hc
theorem rS (a:Addr) (i:Nat) (h:a.spot=none):a.add i=⟨a.block,a.off+i,none⟩:=by
 obtain ⟨b,o,s⟩:=a;simp only at h;subst h;exact HL b o i
theorem Qv (hR : ∀ b,b<w.heap.size->R true b) (m:Nat) (ih : ∀ (ty:Ty) (t:TypeId) (cs:List Value) (fuel:Nat) (x:DataW H × List MemPlace),QH P m t ty=true->DataW.trod enc P w base spare held fuel t cs=some x -> ∃ as,HE ty as/\H4 w R as cs)
  (n:Nat) (cs:List Value) : ∀ (fs:List Field) (off:Nat) (ty:Ty),QH.go P (QH P m) fs off ty=true->(∀ f∈fs,∃ y,DataW.trod enc P w base spare held n f.type ((cs.drop f.offset).take (P.cellsOf f.type))=some y)->off+ty.cells=cs.length -> ∃ as,HE ty as/\H4 w R as (cs.drop off)
 | [],off,ty,j6,_,hl=>by
  cases ty<;>simp only[QH.go,Bool.false_eq_true]at j6;simp only[Ty.cells]at hl;exact ⟨[],rfl,by rw[List.drop_of_length_le (by omega)];exact ⟨rfl,λ j a c h=>by simp at h⟩⟩
 | f::fs,off,ty,j6,hf,hl=>by
  cases ty<;>simp only[QH.go,Bool.false_eq_true,Bool.and_eq_true,beq_iff_eq]at j6;rename_i a r;obtain ⟨⟨h1,h2,h3⟩,h4⟩:=j6;simp only[Ty.cells]at hl;obtain ⟨y,hy⟩:=hf f List.mem_cons_self;rw[h1,h3]at hy;obtain ⟨Ua,g1,g2⟩:=ih a f.type _ n y h2 hy;obtain ⟨Ub,g3,g4⟩:=Qv hR m ih n cs fs (off+a.cells) r h4 (λ f' h'=>hf f' (List.mem_cons_of_mem _ h')) (by omega);refine ⟨Ua++Ub,⟨Ua,Ub,rfl,g1,g3⟩,?_⟩;have:=g2.append g4
  rwa [show (cs.drop off).take a.cells++cs.drop (off+a.cells)=cs.drop off by rw[<-List.drop_drop,List.take_append_drop]]at this
theorem Qu (hR : ∀ b,b<w.heap.size->R true b) : ∀ (m:Nat) (ty:Ty) (t:TypeId) (cs:List Value) (fuel:Nat) (x:DataW H × List MemPlace),QH P m t ty=true->DataW.trod enc P w base spare held fuel t cs=some x -> ∃ as,HE ty as/\H4 w R as cs
 | 0,_,_,_,_,_,h,_=>by simp [QH]at h
 | m+1,ty,t,cs,fuel,x,j6,h=>by
  have ih:=Qu hR m;simp only[QH]at j6;split at j6
  ·rename_i k k' hu
   obtain rfl:k=k':=by simpa using j6
   obtain ⟨n,rfl,_,hw⟩:=DataW.trod_int hu h;exact ⟨[.int k n],⟨n,rfl,hw⟩,H4.one (.int k n)⟩
  ·rename_i hu
   cases fuel with
   | zero=>simp [DataW.trod]at h
   | succ fuel =>
    unfold DataW.trod at h;rw[hu]at h;split at h<;>simp_all
    exact ⟨_,⟨_,rfl⟩,H4.one (.bool _)⟩
  ·rename_i e mu hu
   simp only[Bool.and_eq_true,beq_iff_eq,decide_eq_true_eq]at j6;obtain ⟨h1,h2,h3⟩:=j6;rcases DataW.trod_slice hu h with ⟨rfl,_⟩|⟨a,len,cap,elems,rest,n,_,rfl,_,hb,hl,hm,hlen,fg,_,_⟩
   ·exact ⟨[.sl true []],⟨[],rfl,by simp,by simp⟩,H4.one (.jv true none 0)⟩
   ·have each : ∀ i,i<len -> ∃ as fe,HE mu as/\H4 w R as fe/\fe.length=mu.cells /\ ∀ j,j<mu.cells->w.cell? ((a.add (i*mu.cells)).add j)=fe[j]? := by
     intro i hi;have:=fg i hi
     rw[h2,zE (by omega),Option.bind_eq_some_iff]at this;obtain ⟨fe,hc,ht⟩:=this;obtain ⟨as,g1,g2⟩:=ih mu e fe n _ h1 ht;obtain ⟨_,q1,q2⟩:=World.cells?_some hc;exact ⟨as,fe,g1,g2,q1,q2⟩
    by_cases h0:len=0
    ·subst h0
     exact ⟨[.sl true []],⟨[],rfl,by simp,by simp⟩,H4.one (.jv true (some a) cap)⟩
    ·have Ax:a.spot=none:=by
      obtain ⟨as,fe,_,_,q1,q2⟩:=each 0 (by omega);have:=q2 0 h3
      rw[zE (by omega)]at this;simpa [Addr.add] using World.cell?_spot this
     have ni:a.block<w.heap.size:=by
      obtain ⟨as,fe,_,_,q1,q2⟩:=each 0 (by omega);have:=q2 0 h3
      rw[zE (by omega)]at this;simpa [Addr.add] using WE this
     have pick : ∃ f:Nat->List AV × List Value,∀ i,i<len->HE mu (f i).1/\H4 w R (f i).1 (f i).2/\(f i).2.length=mu.cells /\ ∀ j,j<mu.cells->w.cell? ((a.add (i*mu.cells)).add j)=(f i).2[j]? := by
      refine ⟨λ i=>if hi:i<len then (Classical.choose (each i hi),Classical.choose (Classical.choose_spec (each i hi))) else ([],[]),λ i hi => ?_⟩;simp only[hi,dif_pos];exact Classical.choose_spec (Classical.choose_spec (each i hi))
     obtain ⟨f,hf⟩:=pick;have n8 : ∀ i e',((List.range len).map λ i=>(f i).1)[i]? = some e'->i<len/\e'=(f i).1:=by
      intro i e' he;rw[List.getElem?_map]at he;by_cases hi:i<len
      ·rw[List.getElem?_range hi]at he
       simp at he;exact ⟨hi,he.symm⟩
      ·rw[List.getElem?_eq_none (by simpa using hi)]at he
       cases he
     refine ⟨[.sl true ((List.range len).map λ i=>(f i).1)],⟨_,rfl,by simp;omega,λ x hx => ?_⟩,H4.one ?_⟩
     ·obtain ⟨i,hi,rfl⟩:=List.mem_map.1 hx
      exact (hf i (List.mem_range.1 hi)).1
     ·obtain ⟨ab,ao,as⟩:=a
      simp only at Ax;subst Ax;have Aq:((List.range len).map λ i=>(f i).1).length=len:=by simp
      have:=Rd.sl (w:=w) (R:=R) true ((List.range len).map λ i=>(f i).1) ab ao mu.cells cap (λ i j=>((f i).2[j]?).getD default) (by intro e;have:=congrArg List.length e;simp at this;omega) h3 (hR ab ni) (by rw[Aq];exact hl)
       (λ e' he=>by
        obtain ⟨i,hi,rfl⟩:=List.mem_map.1 he;exact (hf i (List.mem_range.1 hi)).1.len)
       (λ i e' he j c hc=>by
        obtain ⟨hi,rfl⟩:=n8 i e' he;obtain ⟨g1,g2,g3,g4⟩:=hf i hi;have hj:j<mu.cells:=by
         have:=(zS hc).1
         rwa [g1.len]at this
        have h5:=g4 j hj;rw[rS ⟨ab,ao,none⟩ (i*mu.cells) rfl,rS _ _ rfl]at h5;simp only at h5;rw[show ao+(i*mu.cells+j)=ao+i*mu.cells+j by omega,h5,zE (by omega)];rfl)
       (λ i e' he j c hc=>by
        obtain ⟨hi,rfl⟩:=n8 i e' he;obtain ⟨g1,g2,g3,g4⟩:=hf i hi;have hj:j<mu.cells:=by
         have:=(zS hc).1
         rwa [g1.len]at this
        have h6:(f i).2[j]? = some ((f i).2[j]'(by omega)):=zE _;rw[h6];exact g2.2 j c _ hc h6)
      rwa [Aq]at this
  ·rename_i fs hu
   simp only[Bool.and_eq_true,beq_iff_eq]at j6;obtain ⟨h1,h2⟩:=j6;obtain ⟨xs,n,_,_,hl,hlen,hf⟩:=DataW.trod_struct hu h;have:=Qv hR m ih n cs fs.toList 0 _ h1 (λ f nk=>by
    obtain ⟨i,hi,rfl⟩:=List.getElem_of_mem nk;have h5:=hf i fs.toList[i] (by simp);rw[h5,zE (by simpa [hlen] using hi)];exact ⟨_,rfl⟩) (by rw[hl,h2];omega)
   simpa using this
  ·exact absurd j6 (by simp)
theorem nL {S:Nat->Prop} {ty:Ty} {t:TypeId} {v:Value} {d:DataW H} {ps:List MemPlace} {m:Nat} (j6:QH P m t ty=true) (hv:v.cells.toList=[v]) (h:DataW.Trod enc P w base spare held t v d ps) :
  ∃ a,HE ty [a]/\CA w.heap.size S ⟨λ_ _=>none,AH.emp,w⟩ a v:=by
 obtain ⟨fuel,hf⟩:=h;rw[hv]at hf;obtain ⟨as,h1,h2⟩:=Qu (R:=safe w.heap.size S ⟨λ_ _=>none,AH.emp,w⟩) (λ b hb=>Or.inr (Or.inr ⟨rfl,hb⟩)) m ty t [v] fuel _ j6 hf;obtain ⟨a,rfl⟩ : ∃ a,as=[a]:=by
  have:=h2.1
  match as,this with
  | [a],_=>exact ⟨a,rfl⟩
 exact ⟨a,h1,.one (.rd (h2.2 0 a v rfl rfl))⟩
end
theorem AdD {B:Nat} {S:Nat->Prop} {m:M} : ∀ (j:Nat) (c:AV) (v:Value),([]:List AV)[j]? = some c->([]:List Value)[j]? = some v->CA B S m c v:=λ j c v h=>by simp at h
theorem jB {B:Nat} {S:Nat->Prop} {m:M} {a:AV} {u:Value} {as:List AV} {us:List Value} (h:CA B S m a u) (hr : ∀ (j:Nat) (c:AV) (v:Value),as[j]? = some c->us[j]? = some v->CA B S m c v) :
  ∀ (j:Nat) (c:AV) (v:Value),(a::as)[j]? = some c->(u::us)[j]? = some v->CA B S m c v
 | 0,c,v,h1,h2=>by simp at h1 h2;subst h1 h2;exact h
 | j+1,c,v,h1,h2=>hr j c v (by simpa using h1) (by simpa using h2)
theorem AiS {P:Program} {num:Nat->Nat} {L:Lib} (hP:ProgOK P num L) {f:Nat} {vs:List AV} (h:Ev L f vs (.bool true)) {S:Nat->Prop} {w:World} {us:List Value} (hl:vs.length=us.length)
  (ha : ∀ (j:Nat) (c:AV) (v:Value),vs[j]? = some c->us[j]? = some v->CA w.heap.size S ⟨λ_ _=>none,AH.emp,w⟩ c v) :
  Calls P (num f) us.toArray w λ e w'=>e = .returned (.bool true)/\Below w.heap.size w w':=by
 obtain ⟨n,hn⟩:=h;refine ((AdM hP n).pure f vs _ hn S w us hl ha).mono ?_;rintro e w' ⟨u,rfl,hb,w6,_⟩
 refine ⟨?_,hb⟩;cases w6 with
 | ca mw=>cases mw with
  | one z0=>cases z0 with
   | rd na=>cases na;rfl
end Go.c9

namespace Go.c9
abbrev tI:Ty := .int .i64
theorem yO {α:Type} {enc:α->List AV} {p:α->Prop} : ∀ {es:List (List AV)},(∀ x∈es,∃ y,x=enc y/\p y) -> ∃ l:List α,es=l.map enc /\ ∀ y∈l,p y
 | [],_=>⟨[],rfl,by simp⟩
 | e::es,h=>by
  obtain ⟨y,rfl,hy⟩:=h e List.mem_cons_self;obtain ⟨l,rfl,hl⟩:=yO (enc:=enc) (p:=p) λ x hx=>h x (List.mem_cons_of_mem _ hx)
  exact ⟨y::l,rfl,by simpa using ⟨hy,hl⟩⟩
theorem Aie {α:Type} {enc:α->List AV} {p:α->Prop} {e:Ty} {cs:List AV} (he : ∀ x,HE e x -> ∃ y,x=enc y/\p y) (h:HE (.sl e) cs) : ∃ l:List α,cs=[.sl true (l.map enc)]/\l.length<9223372036854775808 /\ ∀ y∈l,p y:=by
 obtain ⟨es,rfl,hl,hx⟩:=h;obtain ⟨l,rfl,hp⟩:=yO (enc:=enc) (p:=p) λ x hm=>he x (hx x hm)
 refine ⟨l,rfl,?_,hp⟩;have:maxLen=9223372036854775807:=rfl
 simp at hl;omega
theorem Alm {n:Int} (h:(Lit.int .i64 n).wf=true):JO n:=by
 simp only[Lit.wf,Bool.and_eq_true,decide_eq_true_eq]at h;have h1:IntKind.i64.min = -9223372036854775808:=rfl;have h2:IntKind.i64.max=9223372036854775807:=rfl;rw[h1,h2]at h;unfold JO;constructor<;>omega
theorem lY {cs:List AV} (h:HE tI cs) : ∃ n,cs=YC n/\JO n:=by obtain ⟨n,rfl,hw⟩:=h;exact ⟨n,rfl,Alm hw⟩
theorem Aid {cs:List AV} (h:HE (.sl tI) cs) : ∃ l:List Int,cs=[.sl true (l.map YC)]/\l.length<9223372036854775808 /\ ∀ v∈l,JO v:=Aie (λ_=>lY) h
end Go.c9



namespace Go.c9
open F
attribute [local irreducible] AA AF AP AD CI AY AW A6 A5 B2 AM BQ B8 C8 BM A1 BR B9 AB A7 AJ pw BO BH CH CK CS CP CD BT CJ
variable {L:Lib}
set_option maxHeartbeats 8000000
abbrev eM (m:List (List Rat)):List (List AV):=m.map λ r=>[AV.sl false (r.map eQ)]
theorem jN (m:List (List Rat)):FP (eM m):=X6 (λ r=>by simp only[CG,A3,and_true,true_and];exact HO r) m
theorem sO (m:List (List Rat)):A3 (.sl false (eM m)):=by
 simp only[A3,true_and];exact jN m
end Go.c9

namespace Go.c9
variable {L:Lib}
theorem Xz {kk:List It} {tm:Tm} {M:Mem} {Q:Tm->Mem->Prop} {k s:Nat} {rows:List (Option (Nat × List (List AV)))} {w:List Nat} (q7:List (Option (Nat × List (List AV)))) (e:e8 M k=some (s,.vw w rows)) (hl:q7.length=w.length)
  (hw : ∀ (i t:Nat),w[i]? = some t -> ∃ r,rows[t]? = some r/\q7[i]? = some r) (hi : ∀ (i i' t:Nat),w[i]? = some t->w[i']? = some t->i=i') (bu:J6 k tm=false) (nj:IO k M=false)
  (h:AA L kk tm ((k,s,.mx q7)::M) Q):AA L kk tm M Q:=by
 intro σ st hr;obtain ⟨σ',ig⟩:=hr.Dm e hl hw hi bu nj;exact h σ' st ig
theorem qK {kk:List It} {tm:Tm} {M:Mem} {Q:Tm->Mem->Prop} {k s i j:Nat} {rows:List (Option (Nat × List (List AV)))} {a b:Option (Nat × List (List AV))} (e:e8 M k=some (s,.vw (((List.range rows.length).set i j).set j i) rows)) (ha:rows[i]? = some a) (hb:rows[j]? = some b) (bu:J6 k tm=false) (nj:IO k M=false)
  (h:AA L kk tm ((k,s,.mx ((rows.set i b).set j a))::M) Q):AA L kk tm M Q:=by
 have hi:=(zS ha).1;have hj:=(zS hb).1;have Ol : ∀ p,p<rows.length->(((List.range rows.length).set i j).set j i)[p]? = some (if p=j then i else if p=i then j else p):=λ p hp=>by
  rw[List.getElem?_set,List.getElem?_set,List.length_set,List.length_range];by_cases h1:j=p
  ·subst h1;simp [hp]
  ·rw[if_neg h1,if_neg (Ne.symm h1)]
   by_cases h2:i=p
   ·subst h2;simp [hp]
   ·rw[if_neg h2,if_neg (Ne.symm h2),List.getElem?_range hp]
 have El : ∀ p t,(((List.range rows.length).set i j).set j i)[p]? = some t->p<rows.length:=λ p t hp=>by
  have:=(zS hp).1
  simpa using this
 refine Xz ((rows.set i b).set j a) e (by simp) (λ p t hp => ?_) (λ p p' t hp Gz => ?_) bu nj h
 ·have uf:=El p t hp
  rw[Ol p uf]at hp;obtain rfl:=Option.some.inj hp;rw[List.getElem?_set,List.getElem?_set,List.length_set];by_cases h1:p=j
  ·subst h1
   exact ⟨a,by rw[if_pos rfl];exact ha,by rw[if_pos rfl,if_pos uf]⟩
  ·rw[if_neg h1,if_neg (Ne.symm h1)]
   by_cases h2:p=i
   ·subst h2
    exact ⟨b,by rw[if_pos rfl];exact hb,by rw[if_pos rfl,if_pos uf]⟩
   ·rw[if_neg h2,if_neg (Ne.symm h2)]
    exact ⟨_,zE uf,zE uf⟩
 ·have uf:=El p t hp
  have Na:=El p' t Gz;rw[Ol p uf]at hp;rw[Ol p' Na]at Gz;have:=Option.some.inj (hp.trans Gz.symm)
  split at this<;>split at this<;>(try split at this)<;>(try split at this)<;>omega
end Go.c9

namespace Go.c9
open F
attribute [local irreducible] AA AF AP AD CI AY AW A6 A5 B2 AM BQ B8 C8 BM A1 BR B9 AB A7 AJ pw BO BH CH CK CS CP CD BT CJ
variable {L:Lib}
set_option maxHeartbeats 16000000
abbrev CN (q:Bool) (m:List (List Rat)):List (List AV):=m.map λ r=>[AV.sl q (r.map eQ)]
theorem IQ (m:List (List Rat)) (e:Int):A3 (.j5 [.sl false (eM m),.int .i64 e]):=by
 simp only[A3,CG,and_true,true_and];exact jN m
theorem Agz (N:w7 L) (q q':Bool) (a:List (List Rat)) (n w:Nat) (hn:a.length=n) (hw : ∀ r∈a,r.length=w) (h1:1<=n/\n<=52) (h2:1<=w/\w<=52):Ev L 229 [.sl q (CN q' a)] (.bool true):=by
 obtain ⟨r0,s9⟩ : ∃ r,a[0]? = some r:=⟨_,zE (by omega)⟩;have Cx:a[(0:Int).toNat]? = some r0:=s9;have mf:=hw r0 (zM s9);refine Ev.x N.PH rfl rfl ?_;(repeat' ((first|(apply AG<;>intro hc<;>try (exfalso;omega))|apply AR|(refine BA (by assumption) ?_ rfl ?_;omega)|apply AE)<;>conv=>whnf))
 refine BP (λ i=>n-i) (λ(i:Nat)=>i<=n) (λ i=>[(20,.int .i64 i)]) (λ_=>[]) [] [] 0 (by (conv=>whnf);exact ⟨rfl,rfl,rfl⟩) (by omega) ?_;intro i p1 ih;by_cases hi:i<n
 ·obtain ⟨r,hr⟩ : ∃ r,a[i]? = some r:=⟨_,zE (by omega)⟩
  have ig:a[(i:Int).toNat]? = some r:=hr;have hl:=hw r (zM hr);(repeat' ((first|(apply AG<;>intro hc<;>try (exfalso;omega))|(apply AU;omega)|apply AR|(refine BA (by assumption) ?_ rfl ?_;omega)|apply AE)<;>conv=>whnf))
  exact BG [] (ih (i+1) (by omega) (by omega))
 ·obtain rfl:i=n:=by omega
  clear ih;(repeat' ((first|(apply AG<;>intro hc<;>try (exfalso;omega))|apply AE)<;>conv=>whnf))
  exact IJ rfl
def vA (p:Bool × List Rat):List AV:=[.sl p.1 (p.2.map eQ)]
def G6 (P:List (Bool × List Rat)) (i:Nat):List Rat:=((P.take i).map Prod.snd).flatten
theorem wV {P:List (Bool × List Rat)} {i:Nat} {p:Bool × List Rat} (h:P[i]? = some p):G6 P (i+1)=G6 P i++p.2:=by
 simp only[G6,List.take_add_one,h,Option.toList_some,List.map_append,List.map_cons,List.map_nil,List.flatten_append,List.flatten_cons,List.flatten_nil,List.append_nil]
theorem Agc (N:w7 L) (q:Bool) (P:List (Bool × List Rat)) (n:Nat) (hn:P.length=n) (Jc:n<=100) (hB : ∀ i,(G6 P i).length<=2000) (h0:0<(G6 P n).length):Ev L 228 [.sl q (P.map vA)] (.sl false ((G6 P n).map eQ)):=by
 refine Ev.x N.SJ rfl rfl ?_;(repeat' ((first|apply AR|apply AE)<;>conv=>whnf))
 refine BP (λ i=>n-i) (λ(i:Nat)=>i<=n) (λ i=>[(11,.int .i64 i),(3,.int .i64 (G6 P i).length)]) (λ_=>[]) [] [] 0 (by (conv=>whnf);exact ⟨rfl,rfl,rfl⟩) (by omega) ?_;intro i p1 ih;by_cases hi:i<n
 ·obtain ⟨p,hp⟩ : ∃ p,P[i]? = some p:=⟨_,zE (by omega)⟩
  have Gz:P[(i:Int).toNat]? = some p:=hp;have hs:=wV hp;have hb:=hB i;have pz:=hB (i+1);have hl:(G6 P (i+1)).length=(G6 P i).length+p.2.length:=by rw[hs,List.length_append]
  (repeat' ((first|(apply AG<;>intro hc<;>try (exfalso;omega))|(apply AU;omega)|apply AR|(refine BA (by assumption) ?_ rfl ?_;omega)|apply AE)<;>conv=>whnf))
  rw[show ((G6 P i).length:Int)+(p.2.length:Int)=((G6 P (i+1)).length:Nat) by rw[hl];omega];exact BG [] (ih (i+1) (by omega) (by omega))
 ·obtain rfl:i=n:=by omega
  clear ih;have hb:=hB i;(repeat' ((first|(apply AG<;>intro hc<;>try (exfalso;omega))|apply AE)<;>conv=>whnf))
  refine GI 1000 N.SK rfl rfl ?_;(repeat' ((first|(apply AG<;>intro hc<;>try (exfalso;omega))|(apply AZ;omega)|(apply B7;omega)|apply AE)<;>conv=>whnf))
  refine AZ ⟨by omega,by simp only[EA];omega,by omega⟩ ?_;(conv=>whnf)
  refine qN ⟨by omega,by omega⟩ ?_;(conv=>whnf)
  skip
  refine ⟨rfl,_,rfl,?_⟩;(conv=>whnf)
  (repeat' (apply AR<;>conv=>whnf))
  refine BP (λ j=>i-j) (λ(j:Nat)=>j<=i) (λ j=>[(27,.int .i64 j),(6,.row 227022 0 3 0 (G6 P j).length)]) (λ j=>[(227022,227022,.rw 3 ((G6 P j).map eQ))]) [] [] 0 (by (conv=>whnf);exact ⟨rfl,rfl,rfl⟩) (by omega) ?_;intro j p2 jh;by_cases hj:j<i
  ·obtain ⟨p,hp⟩ : ∃ p,P[j]? = some p:=⟨_,zE (by omega)⟩
   have Gz:P[(j:Int).toNat]? = some p:=hp;have hs:=wV hp;have hb:=hB j;have pz:=hB (j+1);have hl:(G6 P (j+1)).length=(G6 P j).length+p.2.length:=by rw[hs,List.length_append]
   (repeat' ((first|(apply AG<;>intro hc<;>try (exfalso;omega))|(refine BA (by assumption) ?_ rfl ?_;omega)|apply AE)<;>conv=>whnf))
   refine bZ rfl (λ_=>rfl) (by omega) (by omega) ?_;rw[<-hs];(conv=>whnf)
   (repeat' ((first|(apply AU;omega)|fail)<;>conv=>whnf))
   exact BG [(227022,33)] (jh (j+1) (by omega) (by omega))
  ·obtain rfl:j=i:=by omega
   clear jh;(repeat' ((first|(apply AG<;>intro hc<;>try (exfalso;omega))|(refine C9 (λ_=>rfl) rfl ?_ ?_;(first|rfl|simp))|apply AE)<;>conv=>whnf))
   exact AX rfl (by simp only[A3,true_and];exact HO _)
theorem Agb (N:w7 L) (q q1 q2:Bool) (a b:List Rat) (ha:a.length<=1000) (hb:b.length<=1000) (h0:0<a.length):Ev L 228 [.sl q [[.sl q1 (a.map eQ)],[.sl q2 (b.map eQ)]]] (.sl false ((a++b).map eQ)):=by
 have:=Agc N q [(q1,a),(q2,b)] 2 rfl (by omega) (λ i=>by
  rcases i with _|_|_|i<;>simp [G6]<;>omega) (by simp [G6];omega)
 simpa [G6,vA] using this
end Go.c9
