/-
  Natural numbers (layer 1): greatest common divisors.
-/
import Derived.Test.YtcoldcgafbbjoaaGreatB10
import Derived.Test.YtcoldcgafbbjoaaGreatB8
import Derived.Test.YtcoldcgafbbjoaaGreatB1
import Derived.Test.YtcoldcgafbbjoaaGreatB7
import Derived.Test.YtcoldcgafbbjoaaGreatB2
import Derived.Test.YtcoldcgafbbjoaaGreatB5
import Derived.ProofKit
import Derived.OpenShut
import Derived.ChangeOld
import Derived.WalkKit
import Derived.WideShapes
import Derived.ChangeArms
set_option linter.unusedSimpArgs false
set_option linter.unusedVariables false
set_option linter.unnecessarySimpa false
namespace Go.g6
open F
attribute [local irreducible] AA AF AM AD CZ AX A9 BG B8 B6 CT D8 B9 BF B1 CR AB A6 AJ pw BN BH CQ CK C6 C7 CW BV D4
set_option maxHeartbeats 4000000
variable {L:Lib}
theorem jW {k':IntKind} {a:Int} {K:AV->Prop} (hk:K (.int .i64 (a/4294967296))):AD .shr .i64 a k' 32 K:=by
 refine zD (by omega) ?_;have:pw 32=4294967296:=by decide +kernel
 rw[this];exact hk
theorem jG {t:Int} {K:Int->Prop} (hk:K (UX t:Int)):A4 .u32 t K:=by
 refine ⟨?_⟩;rw[IntKind.wrap_u32,<-bX];exact hk
section
variable {k':IntKind} {a b:Nat} {K:AV->Prop}
theorem zC {i:Nat} (hi:i<2) (ha:a<4294967296) (hk:K (.int .u64 ((a*4294967296^i:Nat):Int))):AD .shl .u64 (a:Int) k' (32*(i:Int)) K:=by
 rcases i with _|_|i
 ·exact ON (s:=0) (by omega) (by omega) hk
 ·exact ON (s:=32) (by omega) (by omega) hk
 ·omega
end
theorem qE {x y M N:Int} (hx : -M<=x/\x<=M) (hy : -N<=y/\y<=N) : -(M*N)<=x*y/\x*y<=M*N:=by
 have h1:x.natAbs<=M.natAbs:=by omega
 have h2:y.natAbs<=N.natAbs:=by omega
 have h3:=Nat.mul_le_mul h1 h2;rw[<-Int.natAbs_mul,<-Int.natAbs_mul]at h3;have h4:0<=M*N:=Int.mul_nonneg (by omega) (by omega);omega
theorem cZ (N:e9 L) (a b:List Nat) (q1 q2:Bool) (hA:A1 a) (hB:A1 b) (la:a.length<=549755813888) (lb:b.length<=549755813888) (h0:val b≠0) :
  Ev L 75 [.sl q1 (a.map AL),.sl q2 (b.map AL)] (.g9 [.sl false ((dg (val a/val b)).map AL),.sl false ((dg (val a%val b)).map AL),.int .i64 0]):=by
 have l1:=EX hA;have l2:=EX hB;have hp:=U4 h0;refine Ev.x N.L0 rfl rfl ?_;(repeat' ((first|(apply AG<;>intro hc<;>try omega)|apply AW|apply AC|refine KD (KX N a _ hA (by omega)) ?_|refine KD (KX N b _ hB (by omega)) ?_|refine AE (dB N _ _ _ _ h0 (by omega) (by omega)) ?_)<;>conv=>whnf))
 refine AY rfl ?_;simp only[A7,CJ,and_true,true_and];exact ⟨CS _,CS _⟩
theorem oG (N:e9 L) (V:Nat) (q:Bool) (hl:(dg V).length<=2):Ev L 76 [.sl q ((dg V).map AL)] (.int .u64 (V:Int)):=by
 have hV:=N6.1 hl;have hD:=EA V;have hv:=BW V;refine Ev.x N.MA rfl rfl ?_;generalize dg V=l at *;(repeat' ((first|apply AW|apply AC)<;>conv=>whnf))
 refine GW (λ i _=>l.length-i) (λ(i:Nat) (a:Nat)=>i<=l.length/\a=val (l.take i)) (λ i a=>[(3,.int .u64 (a:Int)),(8,.int .i64 i)]) (λ_ _=>[]) 0 0 ⟨by omega,rfl⟩ ?_;intro i a ⟨p1,p2⟩ ih;by_cases hi:i<l.length
 ·obtain ⟨d,hd⟩ : ∃ d,l[i]? = some d:=⟨_,zE hi⟩
  have dw:=hD.at hd;have h1:=EB hd;have h2:=E5 (hD.take i);have h3:=E5 (hD.take (i+1));rw[List.length_take,Nat.min_eq_left (by omega)]at h2 h3;have h4:4294967296^(i+1)<=4294967296^2:=Nat.pow_le_pow_right (by omega) (by omega);(repeat' ((first|(apply AG<;>intro hc<;>try omega)|(apply QS;omega)|(apply CF;omega)|(refine BD (by assumption) ?_ rfl ?_;omega)|apply AC)<;>conv=>whnf))
  refine zC (by omega) dw ?_;(conv=>whnf)
  rw[Nat.mul_comm d];refine W4 (32*i) (by rw[Nat.pow_mul];exact Nat.mul_mod_right _ _) (by rw[Nat.pow_mul,p2];exact h2) (by omega) ?_;(conv=>whnf)
  (repeat' ((first|(apply A0;omega)|fail)<;>conv=>whnf))
  exact BL [] (by (conv=>whnf);exact ⟨rfl,rfl,rfl⟩) (ih (i+1) _ (by omega) ⟨by omega,by rw[h1,p2]⟩)
 ·obtain rfl:i=l.length:=by omega
  clear ih;(repeat' ((first|(apply AG<;>intro hc<;>try omega)|apply AC)<;>conv=>whnf))
  rw[DB (Nat.le_refl _)]at p2;exact EI (by omega)
theorem aQ {f:Nat} {vs:List AV} {tm:Tm} {M:Mem} {K:AV->Mem->Prop} {v:AV} (h:A6 L f vs tm M (λ r M'=>r=v/\M'=M)) (hk:K v M):A6 L f vs tm M K:=by
 unfold A6 at h ⊢;intro σ own hs;obtain ⟨r,n0,σ',M',h1,h2,h3,rfl,rfl⟩:=h σ own hs;exact ⟨_,n0,σ',_,h1,h2,h3,hk⟩
theorem oF (N:e9 L) (a:List Nat) (q:Bool) (n s:Nat) (hD:A1 a) (hn:3<=n) (hl:a.length<=n) (Iz:n<=549755813888) (hs:s<=31) (o7:val a*2^s<4294967296^n) :
  Ev L 78 [.sl q (a.map AL),.int .i64 (n:Int),.int .u64 (s:Int)] (.int .i64 ((val a/TF n s:Nat):Int)):=by
 have b1:=PX hD (n-1);have b2:=PX hD (n-2);have b3:=PX hD (n-3);have wq:=qQ hD hn hl rfl rfl o7;have heq:=qP (s:=s) hD hn hl hs rfl rfl rfl;obtain ⟨f1,f2,f3,f4⟩:=R6 (s:=s) b3 (by omega);refine Ev.x N.L7 rfl rfl ?_;(repeat' ((first|(apply AU;omega)|(apply CE;omega)|apply AC)<;>conv=>whnf))
 refine aQ (v := .int .u64 ((a.getD (n-1) 0:Nat):Int)) ?_ ?_
 ·refine E2 1000 N.ID rfl rfl ?_
  (repeat' ((first|(apply AG<;>intro hc<;>try omega)|(apply CF;omega)|apply AW|(refine PH (by assumption) ?_ (λ e he hb => ?_);omega)|apply AC)<;>conv=>whnf))
  ·refine ⟨rfl,_,rfl,?_,rfl⟩
   rw[show ((n:Int)-1).toNat=n-1 by omega]at he;rw[GP he];rfl
  ·refine ⟨rfl,_,rfl,?_,rfl⟩
   rw[<-getD_none (show a.length<=n-1 by omega)];rfl
 (conv=>whnf)
 (repeat' ((first|(apply AU;omega)|(apply CE;omega)|(apply NY;omega))<;>conv=>whnf))
 refine aQ (v := .int .u64 ((a.getD (n-2) 0:Nat):Int)) ?_ ?_
 ·refine E2 1000 N.ID rfl rfl ?_
  (repeat' ((first|(apply AG<;>intro hc<;>try omega)|(apply CF;omega)|apply AW|(refine PH (by assumption) ?_ (λ e he hb => ?_);omega)|apply AC)<;>conv=>whnf))
  ·refine ⟨rfl,_,rfl,?_,rfl⟩
   rw[show ((n:Int)-2).toNat=n-2 by omega]at he;rw[GP he];rfl
  ·refine ⟨rfl,_,rfl,?_,rfl⟩
   rw[<-getD_none (show a.length<=n-2 by omega)];rfl
 (conv=>whnf)
 generalize a.getD (n-1) 0=d1 at *;generalize a.getD (n-2) 0=d2 at *;(repeat' ((first|(apply OL;omega)|fail)<;>conv=>whnf))
 refine ON (by omega) wq ?_;(conv=>whnf)
 generalize hT:(d1*4294967296+d2)*2^s=T at *;(repeat' ((first|(apply AU;omega)|(apply CE;omega))<;>conv=>whnf))
 refine aQ (v := .int .u64 ((a.getD (n-3) 0:Nat):Int)) ?_ ?_
 ·refine E2 1000 N.ID rfl rfl ?_
  (repeat' ((first|(apply AG<;>intro hc<;>try omega)|(apply CF;omega)|apply AW|(refine PH (by assumption) ?_ (λ e he hb => ?_);omega)|apply AC)<;>conv=>whnf))
  ·refine ⟨rfl,_,rfl,?_,rfl⟩
   rw[show ((n:Int)-3).toNat=n-3 by omega]at he;rw[GP he];rfl
  ·refine ⟨rfl,_,rfl,?_,rfl⟩
   rw[<-getD_none (show a.length<=n-3 by omega)];rfl
 (conv=>whnf)
 generalize a.getD (n-3) 0=d3 at *;skip
 refine ON (by omega) f4 ?_;(conv=>whnf)
 (repeat' (apply FH<;>conv=>whnf))
 rw[R5]at f2;refine jU s (by rw[<-hT];exact Nat.mul_mod_left _ _) f2 (by have:=Y3 (k:=d1*4294967296+d2) (show s<=64 by omega) (by omega);omega) ?_;(conv=>whnf)
 (repeat' ((first|apply yZ|(apply QJ;omega))<;>conv=>whnf))
 rw[heq];exact EI rfl
theorem Adc (N:e9 L) (P Q:Int) (hP:0<=P/\P<=4611686018427387904) (hQ:0<=Q/\Q<=4611686018427387904) : ∃ r,Ev L 79 [.int .i64 P,.int .i64 Q] r /\ ∃ a b c d:Int,(aS a b c d/\(-2147483647<=a/\a<=2147483647)/\(-2147483647<=b/\b<=2147483647)/\(-2147483647<=c/\c<=2147483647)/\(-2147483647<=d/\d<=2147483647))/\(b≠0->UC P Q a b c d)/\r = .g9 [.int .i64 a,.int .i64 b,.int .i64 c,.int .i64 d]:=by
 refine Ev.xE N.L4 rfl rfl ?_;(repeat' (apply AC<;>conv=>whnf))
 refine wP (λ_ _ _ _ _ q=>(q+2147483648).toNat) (λ(a b c d p q:Int)=>QP P Q a b c d p q/\((-2147483647<=a/\a<=2147483647)/\(-2147483647<=b/\b<=2147483647)/\(-2147483647<=c/\c<=2147483647)/\(-2147483647<=d/\d<=2147483647))/\(p<=4611686018427387904/\q<=4611686018427387904)/\SP P Q a b c d/\(b≠0->UC P Q a b c d)) (λ a b c d p q=>[(0,.int .i64 p),(1,.int .i64 q),(4,.int .i64 a),(5,.int .i64 b),(6,.int .i64 c),(7,.int .i64 d)]) (λ_ _ _ _ _ _=>[]) [] [] 1 0 0 1 P Q (by (conv=>whnf);exact ⟨rfl,rfl,rfl⟩) ⟨QP.start hP.1 hQ.1,by omega,by omega,SP.start P Q,λ h=>absurd rfl h⟩ ?_;intro a b c d p q ⟨p1,⟨⟨p2,p2'⟩,⟨p3,p3'⟩,⟨p4,p4'⟩,⟨p5,p5'⟩⟩,⟨p6,p7⟩,p8,p9⟩ ih;have g1:=p1.pa;have g2:=p1.pb;have g3:=p1.qc;have g4:=p1.qd;by_cases gi:q+c=0
 ·(repeat' ((first|(apply AG<;>intro hc<;>try omega)|(apply A0;omega)|apply AC)<;>conv=>whnf))
  refine ⟨.g9 [.int .i64 a,.int .i64 b,.int .i64 c,.int .i64 d],?_,a,b,c,d,⟨p1.sg,by omega⟩,p9,rfl⟩;(conv=>whnf)
  exact AY rfl (by simp [A7,CJ])
 by_cases Dv:q+d=0
 ·(repeat' ((first|(apply AG<;>intro hc<;>try omega)|(apply A0;omega)|apply AC)<;>conv=>whnf))
  refine ⟨.g9 [.int .i64 a,.int .i64 b,.int .i64 c,.int .i64 d],?_,a,b,c,d,⟨p1.sg,by omega⟩,p9,rfl⟩;(conv=>whnf)
  exact AY rfl (by simp [A7,CJ])
 by_cases hff:(p+a)/(q+c)=(p+b)/(q+d)
 ·obtain ⟨s1,s2,s3,s4⟩:=p1.step gi Dv rfl hff
  have s5:=s4 p8;have s6:=s5.half;have s7:=s1.qc;by_cases lu:2147483647<(p+a)/(q+c)
  ·(repeat' ((first|(apply AG<;>intro hc<;>try omega)|(apply A0;omega)|(refine QT ?_ ?_ (λ_ => ?_) (λ_ _ => ?_);omega;omega;all_goals try omega)|apply AC)<;>conv=>whnf))
   refine ⟨.g9 [.int .i64 a,.int .i64 b,.int .i64 c,.int .i64 d],?_,a,b,c,d,⟨p1.sg,by omega⟩,p9,rfl⟩;(conv=>whnf)
   exact AY rfl (by simp [A7,CJ])
  ·have t1:=qE (x:=(p+a)/(q+c)) (y:=c) (M:=2147483647) (N:=2147483647) (by omega) (by omega)
   have t2:=qE (x:=(p+a)/(q+c)) (y:=d) (M:=2147483647) (N:=2147483647) (by omega) (by omega);(repeat' ((first|(apply AG<;>intro hc<;>try omega)|(apply A0;omega)|(apply CE;omega)|(apply QS;omega)|(refine QT ?_ ?_ (λ_ => ?_) (λ_ _ => ?_);omega;omega;all_goals try omega)|(apply CZ.neg;omega)|apply AC)<;>conv=>whnf))
   all_goals first
    | exact BL [] (by (conv=>whnf);exact ⟨rfl,rfl,rfl⟩) (ih _ _ _ _ _ _ (by omega) ⟨s1,by omega,by omega,s6,λ_=>s5⟩)
    |(refine ⟨.g9 [.int .i64 a,.int .i64 b,.int .i64 c,.int .i64 d],?_,a,b,c,d,⟨p1.sg,by omega⟩,p9,rfl⟩
      (conv=>whnf)
      exact AY rfl (by simp [A7,CJ]))
 ·(repeat' ((first|(apply AG<;>intro hc<;>try omega)|(apply A0;omega)|(refine QT ?_ ?_ (λ_ => ?_) (λ_ _ => ?_);omega;omega;all_goals try omega)|apply AC)<;>conv=>whnf))
  refine ⟨.g9 [.int .i64 a,.int .i64 b,.int .i64 c,.int .i64 d],?_,a,b,c,d,⟨p1.sg,by omega⟩,p9,rfl⟩;(conv=>whnf)
  exact AY rfl (by simp [A7,CJ])
theorem Add (N:e9 L) (x y:List Nat) (q1 q2:Bool) (f g:Int) (hX:A1 x) (hY:A1 y) (hl:y.length<=x.length) (lx:x.length<=549755813888) (hs:PF f g) (R:Nat) (hR:(R:Int)=f*val x+g*val y) (Kc:R<=val x) :
  Ev L 80 [.sl q1 (x.map AL),.sl q2 (y.map AL),.int .i64 f,.int .i64 g] (.sl false ((dg R).map AL)):=by
 refine Ev.x N.L5 rfl rfl ?_;(repeat' ((first|apply AW|apply AC)<;>conv=>whnf))
 refine ER (enc:=AL) 0 x.length rfl rfl (by omega) ?_;(conv=>whnf)
 (repeat' (apply AW<;>conv=>whnf))
 refine F4 (λ i _ _=>x.length-i) (λ(i:Nat) (o:List Nat) (c:Int)=>i<=x.length/\o.length=x.length/\A1 o /\ -2147483648<=c/\c<=2147483648/\(val (o.take i):Int)+((4294967296^i:Nat):Int)*c=f*val (x.take i)+g*val (y.take i)) (λ i o c=>[(10,.int .i64 c),(19,.int .i64 i)]) (λ i o c=>[(16,16,.rw 1 (o.map AL))]) 0 (List.replicate x.length 0) 0 ⟨by omega,by simp,I5 _,by omega,by omega,by simp [val]⟩ ?_;intro i o c ⟨p1,p2,p3,p4,p5,p6⟩ ih;by_cases hi:i<x.length
 ·obtain ⟨d,hd⟩ : ∃ d,x[i]? = some d:=⟨_,zE hi⟩
  have dw:=hX.at hd;have h1:=EB hd;by_cases hy:i<y.length
  ·obtain ⟨e,he⟩ : ∃ e,y[i]? = some e:=⟨_,zE hy⟩
   have Lf:=hY.at he;have h2:=EB he;obtain ⟨r1,r2,r3⟩:=hs.Re dw Lf;have m4:=lI (d:=d) (e:=e) p6 rfl;(repeat' ((first|(apply AG<;>intro hc<;>try omega)|(apply A0;omega)|(apply QS;omega)|(apply QJ;omega)|apply AW|(refine BD (by assumption) ?_ rfl ?_;omega)|apply AC)<;>conv=>whnf))
   generalize htt:f * ↑d+c+g * ↑e=t at *;refine jG ?_;(conv=>whnf)
   (repeat' ((first|(apply AU;omega)|fail)<;>conv=>whnf))
   refine FC (by omega) ?_;(conv=>whnf)
   refine jW ?_;(conv=>whnf)
   (repeat' ((first|(apply A0;omega)|fail)<;>conv=>whnf))
   refine BL [] (by (conv=>whnf);exact ⟨rfl,rfl,rfl⟩) (ih (i+1) _ _ (by omega) ⟨by omega,by simpa using p2,p3.set _ (lH t),by omega,by omega,?_⟩);rw[F3 (by omega),h1,h2,Nat.pow_succ];simp only[Int.natCast_add,Int.natCast_mul,bX];exact m4
  ·have h2:=aI (y:=y) (i:=i) (by omega)
   obtain ⟨r1,r2,r3⟩:=hs.Re (e:=0) dw (by omega);have m4:=lI (d:=d) (e:=0) p6 rfl;rw[Int.mul_zero,Int.add_zero]at m4;have r4 : -9223372030412324865<=f*(d:Int)/\f*(d:Int)<=9223372030412324865:=r1;(repeat' ((first|(apply AG<;>intro hc<;>try omega)|(apply A0;omega)|(apply QS;omega)|(apply QJ;omega)|apply AW|(refine BD (by assumption) ?_ rfl ?_;omega)|apply AC)<;>conv=>whnf))
   generalize htt:f * ↑d+c=t at *;refine jG ?_;(conv=>whnf)
   (repeat' ((first|(apply AU;omega)|fail)<;>conv=>whnf))
   refine FC (by omega) ?_;(conv=>whnf)
   refine jW ?_;(conv=>whnf)
   (repeat' ((first|(apply A0;omega)|fail)<;>conv=>whnf))
   refine BL [] (by (conv=>whnf);exact ⟨rfl,rfl,rfl⟩) (ih (i+1) _ _ (by omega) ⟨by omega,by simpa using p2,p3.set _ (lH t),by omega,by omega,?_⟩);rw[F3 (by omega),h1,h2,Nat.pow_succ];simp only[Int.natCast_add,Int.natCast_mul,bX];rw[Int.mul_zero,Int.add_zero]at m4;exact m4
 ·obtain rfl:i=x.length:=by omega
  clear ih;rw[DB (by omega),DB (Nat.le_refl _),DB (by omega)]at p6;have Pw:=E5 p3;have hxv:=E5 hX;rw[p2]at Pw;have hVR:val o=R:=by
   have:=Rs Pw p6 (by omega) (by omega)
   omega
  have ng:=EX p3;rw[<-p2,<-hVR];(repeat' ((first|(apply AG<;>intro hc<;>try omega)|apply AC|refine WU N (by assumption) (by omega) rfl (by first|rfl|omega|assumption) ?_)<;>conv=>whnf))
  refine HO (enc:=AL) (λ_=>rfl) (by omega) ?_;(conv=>whnf)
  refine AY ?_ (by simp only[A7,true_and];exact CS _);rw[List.drop_zero,WJ p3]
theorem Adg (N:e9 L) (X Y:Nat) (wm:Y<=X) (hy:3<=(dg Y).length) (lx:(dg X).length<=549755813888) : ∃ r,Ev L 81 [.sl false ((dg X).map AL),.sl false ((dg Y).map AL)] r /\ ∃ A B:Nat,(B<Y/\B<=A/\A<=X/\Nat.gcd A B=Nat.gcd X Y)/\r = .g9 [.sl false ((dg A).map AL),.sl false ((dg B).map AL)]:=by
 have hY0:Y≠0:=λ h=>by rw[h,E4]at hy;simp at hy
 have yz:X≠0:=by omega
 have hlen:=PO wm;have hdv:=λ q q'=>dB N X Y q q' hY0 lx (by omega)
 have d1:=EA X;have d2:=EA Y;have v1:=BW X;have v2:=BW Y;obtain ⟨xt,Nr,Ns⟩:=cG yz;have Hq:=d1.at Nr;obtain ⟨b1,b2,b3,b4⟩:=eU Ns Hq;have Gl:=nQ N xt Hq;generalize hs:32-u7 xt=s at *;have ff:s<=31:=by omega
 obtain ⟨n1,n2⟩:=eI d1 Nr (by omega) ff b3 b4;have lk:=λ(f g:Int) (R:Nat) (hs:PF f g) (h1:(R:Int)=f*val (dg X)+g*val (dg Y)) (h2:R<=val (dg X)) (q q':Bool)=>Add N (dg X) (dg Y) q q' f g d1 d2 (by omega) lx hs R h1 h2
 have n3:val (dg Y)*2^s<4294967296^(dg X).length:=Nat.lt_of_le_of_lt (zR _ (by omega)) n1;have ng:=λ q=>oF N (dg X) q (dg X).length s d1 (by omega) (by omega) lx ff n1
 have iz:=λ q=>oF N (dg Y) q (dg X).length s d2 (by omega) (by omega) lx ff n3
 have hK:=AeK (dg X).length s;obtain ⟨e1,x1,x2,x3⟩:=qS (V:=X) hK;obtain ⟨e2,y1,y2,y3⟩:=qS (V:=Y) hK;rw[v1]at ng;rw[v2]at iz;have zl:=qR d1 (n:=(dg X).length) (by omega) (by omega) ff n1;have Eb:=qR d2 (n:=(dg X).length) (by omega) (by omega) ff n3;rw[v1]at zl;rw[v2]at Eb;generalize TF (dg X).length s=K at *;generalize X/K=P at *;generalize Y/K=Q at *;rw[v1,v2]at lk;obtain ⟨rc,Ec,a,b,c,d,⟨z1,z2,z3,z4,z5⟩,z6,rfl⟩:=Adc N (P:Int) (Q:Int) (by omega) (by omega);have e1:(((dg X).length:Int)-1).toNat=(dg X).length-1:=by omega
 rw[<-e1]at Nr;refine Ev.xE N.L9 rfl rfl ?_;by_cases hb:b=0
 ·(repeat' ((first|(apply AG<;>intro hc<;>try omega)|(apply CE;omega)|(apply CF;omega)|apply AW|(refine BD (by assumption) ?_ rfl ?_;omega)|apply AC|refine AE (Gl) ?_|refine AE (ng _) ?_|refine AE (iz _) ?_|refine AE (Ec) ?_|refine AE (hdv _ _) ?_)<;>conv=>whnf))
  refine ⟨_,?_,Y,X%Y,⟨Nat.mod_lt _ (by omega),Nat.le_of_lt (Nat.mod_lt _ (by omega)),wm,VN X Y⟩,rfl⟩;(conv=>whnf)
  exact AY rfl (UW _ _)
 ·obtain ⟨g1,g2,g3,g4⟩:=z6 hb (X:Int) (Y:Int) (K:Int) _ _ (by omega) x1 y1 x2 x3 y2 y3
  obtain ⟨A,hA⟩:=Int.eq_ofNat_of_zero_le (show 0<=a*X+b*Y by omega);obtain ⟨B,hB⟩:=Int.eq_ofNat_of_zero_le g1;have s1:PF a b:=by rcases z1 with ⟨h1,h2,h3,h4⟩|⟨h1,h2,h3,h4⟩<;>unfold PF<;>omega
  have s2:PF c d:=by rcases z1 with ⟨h1,h2,h3,h4⟩|⟨h1,h2,h3,h4⟩<;>unfold PF<;>omega
  (repeat' ((first|(apply AG<;>intro hc<;>try omega)|(apply CE;omega)|(apply CF;omega)|apply AW|(refine BD (by assumption) ?_ rfl ?_;omega)|apply AC|refine AE (Gl) ?_|refine AE (ng _) ?_|refine AE (iz _) ?_|refine AE (Ec) ?_|refine AE (lk a b A s1 hA.symm (by omega) _ _) ?_|refine AE (lk c d B s2 hB.symm (by omega) _ _) ?_)<;>conv=>whnf))
  rw[hA,hB]at g4;rw[hA,hB]at g2;refine ⟨_,?_,A,B,⟨by omega,by omega,by omega,by simpa using g4⟩,rfl⟩;(conv=>whnf)
  exact AY rfl (UW _ _)
theorem pM (N:e9 L) (X Y:Nat) (wm:Y<=X) (lx:(dg X).length<=549755813888) :
 AA L [It.lp GR.l1,It.g8 0,
   It.code
    ((((BK.ops GR.r6 false).dr [23,30,31] []).seq
       (BK.cond 32 (((BK.ops GR.r7 false).dr [5,6,32,33] []).seq BK.ret) BK.skip)).seq
     (((BK.ops GR.r8 false).dr [5,7,32,34,35,36,37,38,39] []).seq
      (((BK.ops GR.r9 false).dr [6,8,40,41,42,43] []).seq
       ((BK.block 2 GR.l2.loop).seq
        (((BK.ops GR.af false).dr [9,10,45,50,51,52,53,54,55,56] []).seq BK.ret)))))]
  [(6,AV.sl false (List.map AL (dg Y))),(5,AV.sl false (List.map AL (dg X)))] []
  (PI GR (AV.sl false (List.map AL (dg (X.gcd Y))))):=by
 refine GW (λ_ y=>y) (λ(x y:Nat)=>y<=x/\(dg x).length<=549755813888/\Nat.gcd x y=Nat.gcd X Y) (λ x y=>[(6,AV.sl false (List.map AL (dg y))),(5,AV.sl false (List.map AL (dg x)))]) (λ_ _=>[]) X Y ⟨wm,lx,rfl⟩ ?_;intro x y ⟨p1,p2,p3⟩ ih;rw[<-p3]at ih ⊢;generalize Nat.gcd X Y=G at *;clear wm lx;subst p3;have hlen:=PO p1;by_cases h3:3<=(dg y).length
 ·obtain ⟨r,hr,A,B,⟨k1,k2,k3,k4⟩,rfl⟩:=Adg N x y p1 h3 p2
  have k5:=PO k3;(repeat' ((first|(apply AG<;>intro hc<;>try omega)|apply AW|apply AC|refine AE (hr) ?_)<;>conv=>whnf))
  exact BR [] (ih A B k1 ⟨k2,by omega,k4⟩)
 ·clear ih
  by_cases h0:y=0
  ·subst h0
   have da:(dg 0).length=0:=by rw[E4];rfl
   (repeat' ((first|(apply AG<;>intro hc<;>try omega)|apply AW|apply AC)<;>conv=>whnf))
   rw[Nat.gcd_zero_right];exact AY rfl (by simp only[A7,true_and];exact CS _)
  ·have hp:=U4 h0
   have hm:=PO (Nat.le_of_lt (Nat.mod_lt x (show y>0 by omega)));have hd:=λ q q'=>dB N x y q q' h0 p2 (by omega)
   have Hi:=λ q=>oG N y q (by omega)
   have qz:=λ q=>oG N (x%y) q (by omega)
   have hb:y<18446744073709551616:=N6.1 (show (dg y).length<=2 by omega);have bb:x%y<y:=Nat.mod_lt _ (by omega);rw[<-VN x y];(repeat' ((first|(apply AG<;>intro hc<;>try omega)|apply AW|apply AC|refine AE (hd _ _) ?_|refine AE (Hi _) ?_|refine AE (qz _) ?_)<;>conv=>whnf))
   refine WR (λ_ q=>q) (λ(p q:Nat)=>p<18446744073709551616/\q<18446744073709551616/\Nat.gcd p q=Nat.gcd y (x%y)) (λ p q=>[(9,.int .u64 (p:Int)),(10,.int .u64 (q:Int))]) (λ_ _=>[]) [] [] y (x%y) (by (conv=>whnf);exact ⟨rfl,rfl,rfl⟩) ⟨hb,by omega,rfl⟩ ?_;intro p q ⟨g1,g2,g3⟩ ih;rw[<-g3]at ih ⊢;by_cases hq:q=0
   ·subst hq
    clear ih;obtain ⟨v1,v2⟩:=cD g1;rw[Nat.gcd_zero_right];have ng:=EX v2;have ht:=WJ v2;rw[v1]at ng ht;(repeat' ((first|(apply AG<;>intro hc<;>try omega)|apply FH|(apply EH;omega)|apply FU|apply AC)<;>conv=>whnf))
    generalize p%4294967296=lo at *;generalize p/4294967296=hi at *;refine WU N v2 (by simp) rfl rfl ?_;rw[v1];(conv=>whnf)
    skip
    refine HO (enc:=AL) (l:=[lo,hi]) (λ_=>rfl) (by omega) ?_;(conv=>whnf)
    refine AY ?_ (by simp only[A7,true_and];exact CS _);rw[List.drop_zero,ht]
   ·have hpq:p%q<q:=Nat.mod_lt _ (by omega)
    (repeat' ((first|(apply AG<;>intro hc<;>try omega)|(apply UE;omega)|apply AC)<;>conv=>whnf))
    exact BR [] (ih q (p%q) hpq ⟨g2,by omega,VN p q⟩)
theorem Adb (N:e9 L) (a b:List Nat) (q1 q2:Bool) (hA:A1 a) (hB:A1 b) (la:a.length<=549755813888) (lb:b.length<=549755813888) :
  Ev L 82 [.sl q1 (a.map AL),.sl q2 (b.map AL)] (.sl false ((dg (Nat.gcd (val a) (val b))).map AL)):=by
 have t1:=λ q=>U8 N a q hA (by omega)
 have t2:=λ q=>U8 N b q hB (by omega)
 have l1:=EX hA;have l2:=EX hB;have n8:=λ q q'=>RA N (dg (val a)) (dg (val b)) q q' (EA _) (EA _) (by omega) (by omega)
 rw[BW,BW]at n8;generalize val a=X at *;generalize val b=Y at *;refine Ev.x N.GR rfl rfl ?_;by_cases o7:X<Y
 ·have hn:DC X Y = -1:=(H3 (by omega)).symm
  rw[hn]at n8;(repeat' ((first|(apply AG<;>intro hc<;>try omega)|apply AC|refine AE (t1 _) ?_|refine AE (t2 _) ?_|refine AE (n8 _ _) ?_)<;>conv=>whnf))
  rw[Nat.gcd_comm];exact BL [] (by (conv=>whnf);exact ⟨rfl,rfl,rfl⟩) (pM N Y X (by omega) (by omega))
 ·have qo:0<=DC X Y:=by unfold DC;split<;>(try split)<;>omega
  generalize DC X Y=cm at *;(repeat' ((first|(apply AG<;>intro hc<;>try omega)|apply AC|refine AE (t1 _) ?_|refine AE (t2 _) ?_|refine AE (n8 _ _) ?_)<;>conv=>whnf))
  exact BL [] (by (conv=>whnf);exact ⟨rfl,rfl,rfl⟩) (pM N X Y (by omega) (by omega))
end Go.g6
namespace Go.g6
open F
attribute [local irreducible] AA AF AM AD CZ AX A9 BG B8 B6 CT D8 B9 BF B1 CR AB A6 AJ pw BN BH CQ CK C6 C7 CW BV D4
variable {L:Lib}
set_option maxHeartbeats 4000000
theorem yE {k:Nat} {K:Int->Prop} (h:0<k/\k<=9223372036854775808) (hk:K ((18446744073709551616-k:Nat):Int)):A4 .u64 (-(k:Int)) K:=by
 refine ⟨?_⟩;have e:IntKind.u64.wrap (-(k:Int))=((18446744073709551616-k:Nat):Int):=by
  simp [IntKind.wrap,IntKind.bits,IntKind.signed];omega
 rw[e];exact hk
theorem CZ.Hw {k:Nat} {K:AV->Prop} (h:0<k/\k<=9223372036854775808) (hk:K (.int .u64 (k:Int))):CZ .neg .u64 ((18446744073709551616-k:Nat):Int) K:=by
 refine CZ.go (v := .int .u64 (IntKind.u64.wrap (0-((18446744073709551616-k:Nat):Int)))) rfl ?_;have e:IntKind.u64.wrap (0-((18446744073709551616-k:Nat):Int))=(k:Int):=by
  simp [IntKind.wrap,IntKind.bits,IntKind.signed];omega
 rw[e];exact hk
theorem Ws (N:a8 L) (z:Int) (hz : -9223372036854775808<=z/\z<=9223372036854775807):Ev L 85 [.int .i64 z] (.agg (eZ z)):=by
 have two : ∀ k:Nat,k<18446744073709551616 -> ∀ q,Ev L 66 [.sl q [[.int .u32 ((k%4294967296:Nat):Int)],[.int .u32 ((k/4294967296:Nat):Int)]]] (.sl false ((dg k).map AL)):=λ k hk q=>by
  have:=U8 N.toe9 [k%4294967296,k/4294967296] q (cD hk).2 (by simp)
  rw[wH hk]at this;exact this
 refine Ev.x N.LI rfl rfl ?_;by_cases h0:0<=z
 ·obtain ⟨k,rfl⟩:=Int.eq_ofNat_of_zero_le h0
  have hT:=two k (by omega);have z1:=H5 k;(repeat' ((first|(apply AG<;>intro hc<;>try omega)|apply FH|(apply CF;omega)|(apply EH;omega)|apply FU|refine PJ rfl rfl ?_|apply AC)<;>conv=>whnf))
  generalize k%4294967296=lo at *;generalize k/4294967296=hi at *;(repeat' (refine AE (hT _) ?_<;>conv=>whnf))
  refine FB 1000 N.DH rfl rfl ?_;(repeat' (apply AC<;>conv=>whnf))
  all_goals (refine ⟨rfl,?_⟩;(conv=>whnf);skip)
  exact AY (ET (by omega) (GI (by omega))) (DW _)
 ·obtain ⟨k,hk⟩:=Int.eq_ofNat_of_zero_le (show 0 <= -z by omega)
  obtain rfl:z = -(k:Int):=by omega
  have hT:=two k (by omega);have z1:=H5 k;(repeat' (apply AC<;>conv=>whnf))
  refine yE (by omega) ?_;(conv=>whnf)
  (repeat' ((first|(apply AG<;>intro hc<;>try omega)|fail)<;>conv=>whnf))
  refine CZ.Hw (by omega) ?_;(conv=>whnf)
  (repeat' ((first|(apply AG<;>intro hc<;>try omega)|apply FH|(apply EH;omega)|apply FU|refine PJ rfl rfl ?_)<;>conv=>whnf))
  generalize k%4294967296=lo at *;generalize k/4294967296=hi at *;(repeat' (refine AE (hT _) ?_<;>conv=>whnf))
  refine FB 1000 N.DH rfl rfl ?_;(repeat' ((first|(apply AG<;>intro hc<;>try omega)|apply AW|apply AC)<;>conv=>whnf))
  all_goals (refine ⟨rfl,?_⟩;(conv=>whnf);skip)
  exact AY (ET (by omega) (NP (by omega))) (DW _)
theorem nY (N:a8 L) (n q:Bool) (m:List Nat) (hm:Sm 549755813888 m):Ev L 84 [.agg (rZ q n m)] (.agg (eZ (zv n m))):=by
 have hT:=λ q=>U8 N.toe9 m q hm.1 (by have:=hm.2;omega)
 have hz:=H5 (val m);have ha:=FO n m;refine Ev.x N.LK rfl rfl ?_;cases n
 ·rw[E6]at *
  (repeat' ((first|apply AC|refine AE (hT _) ?_)<;>conv=>whnf))
  refine FB 1000 N.DH rfl rfl ?_;(repeat' (apply AC<;>conv=>whnf))
  all_goals (refine ⟨rfl,?_⟩;(conv=>whnf);skip)
  exact AY (ET ha.symm (GI (by omega))) (DW _)
 ·rw[OI]at *
  (repeat' ((first|apply AC|refine AE (hT _) ?_)<;>conv=>whnf))
  refine FB 1000 N.DH rfl rfl ?_;(repeat' ((first|(apply AG<;>intro hc<;>try omega)|apply AW|apply AC)<;>conv=>whnf))
  all_goals (refine ⟨rfl,?_⟩;(conv=>whnf);skip)
  ·exact AY (ET ha.symm (NP (by omega))) (DW _)
  ·exact AY (ET ha.symm (GI (by omega))) (DW _)
theorem nX (N:a8 L) (n q:Bool) (m:List Nat) (hm:Sm 549755813888 m):Ev L 86 [.agg (rZ q n m)] (.int .i64 (fb (zv n m))):=by
 have n8:=λ q q'=>RA N.toe9 m [] q q' hm.1 S0 (by have:=hm.2;omega) (by simp)
 rw[IZ]at n8;refine Ev.x N.LJ rfl rfl ?_;by_cases h0:val m=0
 ·have hn:DC (val m) (0:Nat)=0:=(Q2 (by omega)).symm
  rw[hn]at n8;(repeat' ((first|(apply AG<;>intro hc<;>try omega)|apply AC|refine AE (n8 _ _) ?_)<;>conv=>whnf))
  exact EI (ZY (by have:=FO n m;omega))
 ·have hn:DC (val m) (0:Nat)=1:=(N5 (by omega)).symm
  rw[hn]at n8;cases n
  ·(repeat' ((first|(apply AG<;>intro hc<;>try omega)|apply AC|refine AE (n8 _ _) ?_)<;>conv=>whnf))
   exact EI (uH (by rw[E6];omega))
  ·(repeat' ((first|(apply AG<;>intro hc<;>try omega)|apply AC|refine AE (n8 _ _) ?_)<;>conv=>whnf))
   exact EI (uG (by rw[OI];omega))
theorem nW (N:a8 L) (n1 n2 q1 q2:Bool) (a b:List Nat) (ha:Sm 549755813888 a) (hb:Sm 549755813888 b):Ev L 87 [.agg (rZ q1 n1 a),.agg (rZ q2 n2 b)] (.agg (eZ (zv n1 a+zv n2 b))):=by
 have la:=ha.2;have lb:=hb.2;have h1:=λ q q'=>Ada N.toe9 a b q q' ha.1 hb.1 (by omega) (by omega)
 have h2:=λ q q'=>oE N.toe9 a b q q' ha.1 hb.1 (by omega) (by omega)
 have h3:=λ q q'=>oE N.toe9 b a q q' hb.1 ha.1 (by omega) (by omega)
 have n8:=λ q q'=>RA N.toe9 a b q q' ha.1 hb.1 (by omega) (by omega)
 have z1:=H5 (val a+val b);have z2:=H5 (val a-val b);have z3:=H5 (val b-val a);refine Ev.x N.LG rfl rfl ?_;by_cases o7:val a<val b
 ·have hn:DC (val a) (val b) = -1:=(H3 (by omega)).symm
  rw[hn]at n8;cases n1<;>cases n2<;>simp only[E6,OI]
  ·(repeat' ((first|apply AC|refine AE (h1 _ _) ?_)<;>conv=>whnf))
   refine FB 1000 N.DH rfl rfl ?_;(repeat' (apply AC<;>conv=>whnf))
   all_goals (refine ⟨rfl,?_⟩;(conv=>whnf);skip)
   exact AY (ET (by omega) (GI (by omega))) (DW _)
  ·(repeat' ((first|(apply AG<;>intro hc<;>try omega)|apply AC|refine AE (h3 _ _) ?_|refine AE (n8 _ _) ?_)<;>conv=>whnf))
   refine FB 1000 N.DH rfl rfl ?_;(repeat' ((first|(apply AG<;>intro hc<;>try omega)|apply AW|apply AC)<;>conv=>whnf))
   all_goals (refine ⟨rfl,?_⟩;(conv=>whnf);skip)
   ·exact AY (ET (by omega) (NP (by omega))) (DW _)
  ·(repeat' ((first|(apply AG<;>intro hc<;>try omega)|apply AC|refine AE (h3 _ _) ?_|refine AE (n8 _ _) ?_)<;>conv=>whnf))
   refine FB 1000 N.DH rfl rfl ?_;(repeat' (apply AC<;>conv=>whnf))
   all_goals (refine ⟨rfl,?_⟩;(conv=>whnf);skip)
   ·exact AY (ET (by omega) (GI (by omega))) (DW _)
  ·(repeat' ((first|apply AC|refine AE (h1 _ _) ?_)<;>conv=>whnf))
   refine FB 1000 N.DH rfl rfl ?_;(repeat' ((first|(apply AG<;>intro hc<;>try omega)|apply AW|apply AC)<;>conv=>whnf))
   all_goals (refine ⟨rfl,?_⟩;(conv=>whnf);skip)
   ·exact AY (ET (by omega) (NP (by omega))) (DW _)
 ·have hn:DC (val a) (val b) ≠ -1:=by unfold DC;split<;>(try split)<;>omega
  generalize DC (val a) (val b)=cm at *;cases n1<;>cases n2<;>simp only[E6,OI]
  ·(repeat' ((first|apply AC|refine AE (h1 _ _) ?_)<;>conv=>whnf))
   refine FB 1000 N.DH rfl rfl ?_;(repeat' (apply AC<;>conv=>whnf))
   all_goals (refine ⟨rfl,?_⟩;(conv=>whnf);skip)
   exact AY (ET (by omega) (GI (by omega))) (DW _)
  ·(repeat' ((first|(apply AG<;>intro hc<;>try omega)|apply AC|refine AE (h2 _ _) ?_|refine AE (n8 _ _) ?_)<;>conv=>whnf))
   refine FB 1000 N.DH rfl rfl ?_;(repeat' (apply AC<;>conv=>whnf))
   all_goals (refine ⟨rfl,?_⟩;(conv=>whnf);skip)
   exact AY (ET (by omega) (GI (by omega))) (DW _)
  ·(repeat' ((first|(apply AG<;>intro hc<;>try omega)|apply AC|refine AE (h2 _ _) ?_|refine AE (n8 _ _) ?_)<;>conv=>whnf))
   refine FB 1000 N.DH rfl rfl ?_;(repeat' ((first|(apply AG<;>intro hc<;>try omega)|apply AW|apply AC)<;>conv=>whnf))
   all_goals (refine ⟨rfl,?_⟩;(conv=>whnf);skip)
   ·exact AY (ET (by omega) (NP (by omega))) (DW _)
   ·exact AY (ET (by omega) (GI (by omega))) (DW _)
  ·(repeat' ((first|apply AC|refine AE (h1 _ _) ?_)<;>conv=>whnf))
   refine FB 1000 N.DH rfl rfl ?_;(repeat' ((first|(apply AG<;>intro hc<;>try omega)|apply AW|apply AC)<;>conv=>whnf))
   all_goals (refine ⟨rfl,?_⟩;(conv=>whnf);skip)
   ·exact AY (ET (by omega) (NP (by omega))) (DW _)
   ·exact AY (ET (by omega) (GI (by omega))) (DW _)
theorem U9 (N:a8 L) (n1 n2 q1 q2:Bool) (a b:List Nat) (ha:A1 a) (hb:A1 b) (hl:a.length+b.length<=1099511627776):Ev L 88 [.agg (rZ q1 n1 a),.agg (rZ q2 n2 b)] (.agg (eZ (zv n1 a*zv n2 b))):=by
 have h1:=λ q q'=>dA N.toe9 a b q q' ha hb hl
 have z1:=H5 (val a*val b);have Kl:(zv n1 a*zv n2 b).natAbs=val a*val b:=by rw[Int.natAbs_mul,FO,FO]
 refine Ev.x N.LH rfl rfl ?_;have e:zv n1 a*zv n2 b=bif n1 == n2 then ((val a*val b:Nat):Int) else -((val a*val b:Nat):Int):=by
  cases n1<;>cases n2<;>simp [E6,OI,Int.mul_neg,Int.neg_mul]
 rw[e]at Kl ⊢;generalize val a*val b=V at *;cases n1<;>cases n2<;>simp only[beq_self_eq_true,cond_true,show (false == true)=false from rfl,show (true == false)=false from rfl,cond_false]
 ·(repeat' ((first|apply AC|refine AE (h1 _ _) ?_)<;>conv=>whnf))
  refine FB 1000 N.DH rfl rfl ?_;(repeat' (apply AC<;>conv=>whnf))
  all_goals (refine ⟨rfl,?_⟩;(conv=>whnf);skip)
  exact AY (ET (by omega) (GI (by omega))) (DW _)
 ·(repeat' ((first|apply AC|refine AE (h1 _ _) ?_)<;>conv=>whnf))
  refine FB 1000 N.DH rfl rfl ?_;(repeat' ((first|(apply AG<;>intro hc<;>try omega)|apply AW|apply AC)<;>conv=>whnf))
  all_goals (refine ⟨rfl,?_⟩;(conv=>whnf);skip)
  ·exact AY (ET (by omega) (NP (by omega))) (DW _)
  ·exact AY (ET (by omega) (GI (by omega))) (DW _)
 ·(repeat' ((first|apply AC|refine AE (h1 _ _) ?_)<;>conv=>whnf))
  refine FB 1000 N.DH rfl rfl ?_;(repeat' ((first|(apply AG<;>intro hc<;>try omega)|apply AW|apply AC)<;>conv=>whnf))
  all_goals (refine ⟨rfl,?_⟩;(conv=>whnf);skip)
  ·exact AY (ET (by omega) (NP (by omega))) (DW _)
  ·exact AY (ET (by omega) (GI (by omega))) (DW _)
 ·(repeat' ((first|apply AC|refine AE (h1 _ _) ?_)<;>conv=>whnf))
  refine FB 1000 N.DH rfl rfl ?_;(repeat' (apply AC<;>conv=>whnf))
  all_goals (refine ⟨rfl,?_⟩;(conv=>whnf);skip)
  exact AY (ET (by omega) (GI (by omega))) (DW _)
theorem cF:dg 1=[1]:=by rw[I4 (by omega)];simp [E4]
theorem Wv (N:a8 L) (V:Nat) (q:Bool):Ev L 90 [.sl q ((dg V).map AL)] (.bool (decide (V=1))):=by
 have hv:=BW V;have hD:=EA V;have h1:V=1->dg V=[1]:=λ h=>by rw[h,cF]
 generalize dg V=l at *;refine Ev.x N.MM rfl rfl ?_;by_cases hl:l.length=1
 ·obtain ⟨d,rfl⟩:=List.length_eq_one_iff.1 hl
  have e:V=d:=by rw[<-hv];simp [val]
  subst e;have hd:[V][(0:Int).toNat]? = some V:=rfl;(repeat' ((first|(apply AG<;>intro hc<;>try omega)|apply AW|(refine BD (by assumption) ?_ rfl ?_;omega)|apply AC)<;>conv=>whnf))
  ·exact yR (by omega)
  ·exact jO (by omega)
 ·(repeat' ((first|(apply AG<;>intro hc<;>try omega)|apply AW|apply AC)<;>conv=>whnf))
  exact jO (λ h=>by rw[h1 h]at hl;simp at hl)
theorem VB (N:a8 L) (n q1 q2:Bool) (m d:List Nat) (hm:Sm 549755813888 m) (hd:Sm 549755813888 d) (h0:val d≠0):Ev L 94 [.agg (rQ q1 q2 n m d)] (.agg (eQ (qv n m d))):=by
 have Dr:=λ q q'=>cZ N.toe9 m d q q' hm.1 hd.1 hm.2 hd.2 h0
 have Jl:=FO n m;have sq:Sm 549755813888 (dg (val m/val d)):=hm.low (Nat.div_le_self _ _);have sr:Sm 549755813888 (dg (val m%val d)):=hd.low (Nat.le_of_lt (Nat.mod_lt _ (by omega)));have hT:=λ q=>nY N n q _ sq
 have hG:=λ q q'=>Adb N.toe9 d (dg (val m%val d)) q q' hd.1 sr.1 hd.2 sr.2
 rw[BW,show Nat.gcd (val d) (val m%val d)=Nat.gcd (val d) (zv n m).natAbs by rw[Jl,VN,Nat.gcd_comm]]at hG;have Lo:=pN (zv n m).natAbs h0;have zd:=Nat.gcd_le_left (zv n m).natAbs (show 0<val d by omega);have hz:=H5 (val m%val d);obtain ⟨e1,e2,e3⟩:=fP (z:=zv n m) h0;unfold qv;generalize hGG:Nat.gcd (val d) (zv n m).natAbs=g at *;have h1:=λ q=>Wv N g q
 refine Ev.x N.MO rfl rfl ?_;by_cases k9:val m%val d=0
 ·(repeat' ((first|(apply AG<;>intro hc<;>try omega)|apply AW|apply AC|refine AE (Dr _ _) ?_|refine AE (hT _) ?_)<;>conv=>whnf))
  refine FB 1000 N.HG rfl rfl ?_;(repeat' (apply AC<;>conv=>whnf))
  refine ⟨rfl,?_⟩;(conv=>whnf)
  (repeat' (refine HN rfl ?_<;>conv=>whnf))
  have qo:g=val d:=by
   rw[<-hGG,Jl];exact Nat.gcd_eq_left (Nat.dvd_of_mod_eq_zero k9)
  have hv:=BW (val m/val d);refine AY ?_ ?_
  ·show _=AV.agg (rQ _ _ _ _ _)
   rw[e1,e2,e3,Jl,qo,Nat.div_self (by omega),FO,hv,cF];have hs:decide (zv n (dg (val m/val d))<0)=decide (zv n m<0):=by
    cases n
    ·rw[E6,E6];simp;omega
    ·rw[OI,OI,hv]
     congr 1;rw[eq_iff_iff];have h5:=Nat.div_add_mod (val m) (val d);rw[k9,Nat.add_zero]at h5;constructor
     ·intro h6
      have h7:val m/val d≠0:=by omega
      have:val m≠0:=λ h8=>h7 (by rw[h8,Nat.zero_div])
      omega
     ·intro h6
      have h7:val m/val d≠0:=λ h8=>by rw[h8,Nat.mul_zero]at h5;omega
      omega
   rw[hs];rfl
  ·exact E8 _
 ·by_cases Cr:g=1
  ·have Ic:=λ q=>nY N n q m hm
   have Bz:=λ q=>U8 N.toe9 d q hd.1 (by have:=hd.2;omega)
   (repeat' ((first|(apply AG<;>intro hc<;>try omega)|apply AW|apply AC|refine AE (Dr _ _) ?_|refine AE (hG _ _) ?_|refine jE (h1 _) (λ hf => ?_) (λ hf => ?_)|refine AE (Ic _) ?_|refine AE (Bz _) ?_)<;>conv=>whnf))
   ·refine AY ?_ (XU _ _ _)
    show _=AV.agg (rQ _ _ _ _ _);rw[e1,e2,e3,Cr,Nat.div_one,Nat.div_one]
   ·exact absurd Cr hf
  ·have sg:Sm 549755813888 (dg g):=hd.low zd
   have Fb:=λ q q'=>cZ N.toe9 m (dg g) q q' hm.1 sg.1 hm.2 sg.2 (by rw[BW];omega)
   have Fc:=λ q q'=>cZ N.toe9 d (dg g) q q' hd.1 sg.1 hd.2 sg.2 (by rw[BW];omega)
   rw[BW]at Fb Fc;(repeat' ((first|(apply AG<;>intro hc<;>try omega)|apply AW|apply AC|refine AE (Dr _ _) ?_|refine AE (hG _ _) ?_|refine jE (h1 _) (λ hf => ?_) (λ hf => ?_)|refine AE (Fb _ _) ?_|refine AE (Fc _ _) ?_)<;>conv=>whnf))
   ·exact absurd hf Cr
   ·refine AY ?_ (XU _ _ _)
    show _=AV.agg (rQ _ _ _ _ _);rw[e1,e2,e3,Jl];have hs:n=decide (zv n m<0):=by
     have:val m≠0:=λ h=>k9 (by rw[h,Nat.zero_mod])
     cases n
     ·exact GI (by rw[E6];omega)
     ·exact NP (by rw[OI];omega)
    rw[<-hs]
theorem YI (N:a8 L) (m:List Nat):Ev L 91 [.sl false (m.map AL)] (.agg [.bool false,.sl false (m.map AL)]):=by
 refine Ev.x N.MN rfl rfl ?_;(repeat' (apply AC<;>conv=>whnf))
 exact AY rfl (Ta _ _)
def zJ (n:Bool) (m d:List Nat) (n':Bool) (m' d':List Nat) (w:Bool) (k:Nat):Prop:=Sm k m'/\Sm k d'/\val d'≠0/\(w=true->val d'=1)/\qv n m d=mkRat (zv n' m') (val d')
theorem PS (N:a8 L) (n:Bool) (m d:List Nat) (k:Nat) (hk:1<=k/\k<=549755813888) (hm:Sm k m) (hd:Sm k d) : ∃ n' m' d' w,Ev L 89 [.agg (rQ false false n m d)] (.agg [.bool n',.sl false (m'.map AL),.sl false (d'.map AL),.bool w])/\zJ n m d n' m' d' w k:=by
 have n8:=λ q q'=>RA N.toe9 d [] q q' hd.1 S0 (by have:=hd.2;omega) (by simp)
 rw[IZ]at n8;by_cases h1:d=[1]
 ·subst h1
  refine ⟨n,m,[1],true,?_,hm,hd,by decide,λ_=>rfl,rfl⟩;refine Ev.x N.II rfl rfl ?_;have hd:[1][(0:Int).toNat]? = some 1:=rfl;have zh:([1]:List Nat).length=1:=rfl;(repeat' ((first|(apply AG<;>intro hc<;>try omega)|apply AW|(refine BD (by assumption) ?_ rfl ?_;omega)|apply AC)<;>conv=>whnf))
  exact AY rfl (UU _ _ _ _)
 have n9 : ∀ x,d[(0:Int).toNat]? = some x->(d.length:Int)=1->(x:Int)≠1:=λ x hx hl h=>by
  obtain ⟨y,rfl⟩:=List.length_eq_one_iff.1 (show d.length=1 by omega);simp at hx;apply h1;congr 1;omega
 by_cases h0:val d=0
 ·refine ⟨false,[],[1],true,?_,ZZ _,gX hk.1 (by omega),by decide,λ_=>rfl,by unfold qv;rw[h0,Rat.mkRat_zero,wN,Rat.zero_mkRat]⟩
  have hn:DC (val d) (0:Nat)=0:=(Q2 (by omega)).symm;rw[hn]at n8;refine Ev.x N.II rfl rfl ?_;have hD:=hd.1;(repeat' ((first|(apply AG<;>intro hc<;>try omega)|apply AW|(refine PH (by assumption) ?_ (λ e he hb => ?_);omega)|refine HN rfl ?_|apply AC|refine AE (n8 _ _) ?_)<;>conv=>whnf))
  all_goals first
   | exact AY rfl (UU _ _ _ _)
   | exact AY rfl (UU false true [] [1])
   | exact absurd (by assumption) (n9 _ he (by assumption))
 ·refine ⟨n,m,d,false,?_,hm,hd,h0,(λ h=>by cases h),rfl⟩
  have hn:DC (val d) (0:Nat)=1:=(N5 (by omega)).symm;rw[hn]at n8;have hD:=hd.1;refine Ev.x N.II rfl rfl ?_;(repeat' ((first|(apply AG<;>intro hc<;>try omega)|apply AW|(refine PH (by assumption) ?_ (λ e he hb => ?_);omega)|apply AC|refine AE (n8 _ _) ?_)<;>conv=>whnf))
  all_goals first
   | exact AY rfl (UU _ _ _ _)
   | exact AY rfl (UU false true [] [1])
   | exact absurd (by assumption) (n9 _ he (by assumption))
theorem oU (N:a8 L) (n q1 q2:Bool) (m d:List Nat) (hm:Sm 549755813888 m) (hd:Sm 549755813888 d):Ev L 95 [.agg (rQ q1 q2 n m d)] (.agg (eQ (qv n m d))):=by
 obtain ⟨n',m',d',w,hr,s1,s2,s3,s4,s5⟩:=PS N n m d 549755813888 (by omega) hm hd;have hl:=λ q1 q2=>VB N n' q1 q2 m' d' s1 s2 s3
 rw[s5];unfold qv at hl;refine Ev.x N.MK rfl rfl ?_;(repeat' ((first|apply I1|apply AC|refine AE (hr) ?_|refine AE (hl _ _) ?_)<;>conv=>whnf))
 exact AY rfl (E8 _)
theorem Ady (N:a8 L) (n q1 q2:Bool) (m d:List Nat) (hm:Sm 549755813888 m) (hd:Sm 549755813888 d):Ev L 97 [.agg (rQ q1 q2 n m d)] (.int .i64 (fb (qv n m d).num)):=by
 obtain ⟨n',m',d',w,hr,s1,s2,s3,s4,s5⟩:=PS N n m d 549755813888 (by omega) hm hd;have hl:=λ q=>nX N n' q m' s1
 rw[s5,rO s3];refine Ev.x N.MI rfl rfl ?_;(repeat' ((first|apply I1|apply AC|refine AE (hr) ?_|refine AE (hl _) ?_)<;>conv=>whnf))
 exact EI rfl
theorem bC (z:Int):AV.agg [.bool (decide (z<0)),.sl false ((dg z.natAbs).map AL),.sl false [[.int .u32 1]]] = .agg (eQ (z:Rat)):=by
 show _=AV.agg (rQ _ _ _ _ _);rw[Rat.num_intCast,Rat.den_intCast,cF];rfl
theorem KM (N:a8 L) (z:Int) (hz : -9223372036854775808<=z/\z<=9223372036854775807):Ev L 96 [.int .i64 z] (.agg (eQ (z:Rat))):=by
 have h1:=Ws N z hz;refine Ev.x N.MH rfl rfl ?_;(repeat' ((first|apply AC|refine AE (h1) ?_)<;>conv=>whnf))
 refine FB 1000 N.HG rfl rfl ?_;(repeat' (apply AC<;>conv=>whnf))
 refine ⟨rfl,?_⟩;(conv=>whnf)
 (repeat' (refine HN rfl ?_<;>conv=>whnf))
 exact AY (bC z) (E8 _)
theorem WB {k l:Nat} {n1 n2:Bool} {a b:List Nat} (ha:Sm k a) (hb:Sm l b):Sm (k+l) (dg (zv n1 a*zv n2 b).natAbs):=ha.mul hb (by rw[Int.natAbs_mul,FO,FO])
theorem uO {k:Nat} {x y:Int} (ha:Sm k (dg x.natAbs)) (hb:Sm k (dg y.natAbs)):Sm (k+1) (dg (x+y).natAbs):=ha.add hb (by rw[BW,BW];omega)
theorem oT (N:a8 L) (k:Nat) (hk:1<=k/\k<=68719476736) (n1 n2 q1 q2 q3 q4:Bool) (m1 d1 m2 d2:List Nat) (ni:Sm k m1) (pd:Sm k d1) (jy:Sm k m2) (uw:Sm k d2) :
  Ev L 98 [.agg (rQ q1 q2 n1 m1 d1),.agg (rQ q3 q4 n2 m2 d2)] (.agg (eQ (qv n1 m1 d1+qv n2 m2 d2))):=by
 obtain ⟨a1,a2,a3,w1,dc,s1,s2,s3,s4,s5⟩:=PS N n1 m1 d1 k (by omega) ni pd;obtain ⟨b1,b2,b3,w2,gn,t1,t2,t3,t4,t5⟩:=PS N n2 m2 d2 k (by omega) jy uw;rw[s5,t5];have hA:=λ q q'=>nW N a1 b1 q q' a2 b2 (s1.le (by omega)) (t1.le (by omega))
 have Nc:Sm (k+1) (dg (zv a1 a2+zv b1 b2).natAbs):=uO (by rw[FO];exact s1.Di) (by rw[FO];exact t1.Di);by_cases hw:w1=true/\w2=true
 ·obtain ⟨rfl,rfl⟩:=hw
  rw[s4 rfl,t4 rfl,rM (by omega),rN];generalize zv a1 a2+zv b1 b2=z at *;refine Ev.x N.IH rfl rfl ?_;(repeat' ((first|apply I1|apply AC|refine AE (dc) ?_|refine AE (gn) ?_|refine AE (hA _ _) ?_)<;>conv=>whnf))
  refine FB 1000 N.HG rfl rfl ?_;(repeat' (apply AC<;>conv=>whnf))
  refine ⟨rfl,?_⟩;(conv=>whnf)
  (repeat' (refine HN rfl ?_<;>conv=>whnf))
  exact AY (bC z) (E8 _)
 ·have n8:=λ q q'=>RA N.toe9 a3 b3 q q' s2.1 t2.1 (by have:=s2.2;omega) (by have:=t2.2;omega)
  by_cases hde:val a3=val b3
  ·have hn:DC (val a3) (val b3)=0:=(Q2 (by omega)).symm
   rw[hn]at n8;rw[<-hde,rM s3];generalize zv a1 a2+zv b1 b2=z at *;have hl:=λ q1 q2=>VB N (decide (z<0)) q1 q2 (dg z.natAbs) a3 (Nc.le (by omega)) (s2.le (by omega)) s3
   unfold qv at hl;rw[GA]at hl;refine Ev.x N.IH rfl rfl ?_;cases w1<;>cases w2
   ·(repeat' ((first|(apply AG<;>intro hc<;>try omega)|apply I1|apply AC|refine AE (dc) ?_|refine AE (gn) ?_|refine AE (hA _ _) ?_|refine AE (n8 _ _) ?_|refine AE (hl _ _) ?_)<;>conv=>whnf))
    exact AY rfl (E8 _)
   ·(repeat' ((first|(apply AG<;>intro hc<;>try omega)|apply I1|apply AC|refine AE (dc) ?_|refine AE (gn) ?_|refine AE (hA _ _) ?_|refine AE (n8 _ _) ?_|refine AE (hl _ _) ?_)<;>conv=>whnf))
    exact AY rfl (E8 _)
   ·(repeat' ((first|(apply AG<;>intro hc<;>try omega)|apply I1|apply AC|refine AE (dc) ?_|refine AE (gn) ?_|refine AE (hA _ _) ?_|refine AE (n8 _ _) ?_|refine AE (hl _ _) ?_)<;>conv=>whnf))
    exact AY rfl (E8 _)
   ·exact absurd ⟨rfl,rfl⟩ hw
  ·have hn:DC (val a3) (val b3)≠0:=by unfold DC;split<;>(try split)<;>omega
   generalize DC (val a3) (val b3)=cm at *;have ck:=λ q q'=>U9 N a1 false q q' a2 b3 s1.1 t2.1 (by have:=s1.2;have:=t2.2;omega)
   have fi:=λ q q'=>U9 N b1 false q q' b2 a3 t1.1 s2.1 (by have:=t1.2;have:=s2.2;omega)
   have tp:=λ q q'=>dA N.toe9 a3 b3 q q' s2.1 t2.1 (by have:=s2.2;have:=t2.2;omega)
   have Gq:=YI N a3;have Cx:=YI N b3;have g1:Sm (k+k) (dg (zv a1 a2*zv false b3).natAbs):=WB s1 t2;have g2:Sm (k+k) (dg (zv b1 b2*zv false a3).natAbs):=WB t1 s2;have g3:=uO g1 g2;have g4:Sm (k+k) (dg (val a3*val b3)):=s2.mul t2 rfl;rw[fJ s3 t3,<-E6 b3,<-E6 a3];have Ck:val a3*val b3≠0:=Nat.mul_ne_zero s3 t3;generalize zv a1 a2*zv false b3=x at *;generalize zv b1 b2*zv false a3=y at *;generalize val a3*val b3=D at *;have Ia:=λ q q'=>nW N (decide (x<0)) (decide (y<0)) q q' (dg x.natAbs) (dg y.natAbs) (g1.le (by omega)) (g2.le (by omega))
   rw[GA,GA]at Ia;generalize x+y=z at *;have hl:=λ q1 q2=>VB N (decide (z<0)) q1 q2 (dg z.natAbs) (dg D) (g3.le (by omega)) (g4.le (by omega)) (by rw[BW];exact Ck)
   unfold qv at hl;rw[GA,BW]at hl;refine Ev.x N.IH rfl rfl ?_;cases w1<;>cases w2
   ·(repeat' ((first|(apply AG<;>intro hc<;>try omega)|apply I1|apply WZ|apply AC|refine AE (dc) ?_|refine AE (gn) ?_|refine AE (n8 _ _) ?_|refine AE (Gq) ?_|refine AE (Cx) ?_|refine AE (ck _ _) ?_|refine AE (fi _ _) ?_|refine AE (Ia _ _) ?_|refine AE (tp _ _) ?_|refine AE (hl _ _) ?_)<;>conv=>whnf))
    exact AY rfl (E8 _)
   ·(repeat' ((first|(apply AG<;>intro hc<;>try omega)|apply I1|apply WZ|apply AC|refine AE (dc) ?_|refine AE (gn) ?_|refine AE (n8 _ _) ?_|refine AE (Gq) ?_|refine AE (Cx) ?_|refine AE (ck _ _) ?_|refine AE (fi _ _) ?_|refine AE (Ia _ _) ?_|refine AE (tp _ _) ?_|refine AE (hl _ _) ?_)<;>conv=>whnf))
    exact AY rfl (E8 _)
   ·(repeat' ((first|(apply AG<;>intro hc<;>try omega)|apply I1|apply WZ|apply AC|refine AE (dc) ?_|refine AE (gn) ?_|refine AE (n8 _ _) ?_|refine AE (Gq) ?_|refine AE (Cx) ?_|refine AE (ck _ _) ?_|refine AE (fi _ _) ?_|refine AE (Ia _ _) ?_|refine AE (tp _ _) ?_|refine AE (hl _ _) ?_)<;>conv=>whnf))
    exact AY rfl (E8 _)
   ·exact absurd ⟨rfl,rfl⟩ hw
theorem YK (N:a8 L) (k:Nat) (hk:1<=k/\k<=68719476736) (n1 n2 q1 q2 q3 q4:Bool) (m1 d1 m2 d2:List Nat) (ni:Sm k m1) (pd:Sm k d1) (jy:Sm k m2) (uw:Sm k d2) :
  Ev L 99 [.agg (rQ q1 q2 n1 m1 d1),.agg (rQ q3 q4 n2 m2 d2)] (.agg (eQ (qv n1 m1 d1*qv n2 m2 d2))):=by
 obtain ⟨a1,a2,a3,w1,dc,s1,s2,s3,s4,s5⟩:=PS N n1 m1 d1 k (by omega) ni pd;obtain ⟨b1,b2,b3,w2,gn,t1,t2,t3,t4,t5⟩:=PS N n2 m2 d2 k (by omega) jy uw;rw[s5,t5,fK];have ck:=λ q q'=>U9 N a1 b1 q q' a2 b2 s1.1 t1.1 (by have:=s1.2;have:=t1.2;omega)
 have tp:=λ q q'=>dA N.toe9 a3 b3 q q' s2.1 t2.1 (by have:=s2.2;have:=t2.2;omega)
 have g1:Sm (k+k) (dg (zv a1 a2*zv b1 b2).natAbs):=WB s1 t1;have g4:Sm (k+k) (dg (val a3*val b3)):=s2.mul t2 rfl;have Ck:val a3*val b3≠0:=Nat.mul_ne_zero s3 t3;generalize zv a1 a2*zv b1 b2=z at *;by_cases hw:w1=true/\w2=true
 ·obtain ⟨rfl,rfl⟩:=hw
  rw[s4 rfl,t4 rfl,Nat.one_mul,rN];refine Ev.x N.JY rfl rfl ?_;(repeat' ((first|apply I1|apply AC|refine AE (dc) ?_|refine AE (gn) ?_|refine AE (ck _ _) ?_)<;>conv=>whnf))
  refine FB 1000 N.HG rfl rfl ?_;(repeat' (apply AC<;>conv=>whnf))
  refine ⟨rfl,?_⟩;(conv=>whnf)
  (repeat' (refine HN rfl ?_<;>conv=>whnf))
  exact AY (bC z) (E8 _)
 ·generalize val a3*val b3=D at *
  have hl:=λ q1 q2=>VB N (decide (z<0)) q1 q2 (dg z.natAbs) (dg D) (g1.le (by omega)) (g4.le (by omega)) (by rw[BW];exact Ck)
  unfold qv at hl;rw[GA,BW]at hl;refine Ev.x N.JY rfl rfl ?_;cases w1<;>cases w2
  ·(repeat' ((first|apply I1|apply AC|refine AE (dc) ?_|refine AE (gn) ?_|refine AE (ck _ _) ?_|refine AE (tp _ _) ?_|refine AE (hl _ _) ?_)<;>conv=>whnf))
   exact AY rfl (E8 _)
  ·(repeat' ((first|apply I1|apply AC|refine AE (dc) ?_|refine AE (gn) ?_|refine AE (ck _ _) ?_|refine AE (tp _ _) ?_|refine AE (hl _ _) ?_)<;>conv=>whnf))
   exact AY rfl (E8 _)
  ·(repeat' ((first|apply I1|apply AC|refine AE (dc) ?_|refine AE (gn) ?_|refine AE (ck _ _) ?_|refine AE (tp _ _) ?_|refine AE (hl _ _) ?_)<;>conv=>whnf))
   exact AY rfl (E8 _)
  ·exact absurd ⟨rfl,rfl⟩ hw
theorem Rn (x:Rat) (e:Int):A7 (.g9 [.agg (eQ x),.int .i64 e]):=by
 simp only[A7,CJ,and_true,true_and];exact ⟨CS _,CS _⟩
theorem Adx (N:a8 L) (k:Nat) (hk:1<=k/\k<=68719476736) (n1 n2 q1 q2 q3 q4:Bool) (m1 d1 m2 d2:List Nat) (ni:Sm k m1) (pd:Sm k d1) (jy:Sm k m2) (uw:Sm k d2) (h0:qv n2 m2 d2≠0) :
  Ev L 100 [.agg (rQ q1 q2 n1 m1 d1),.agg (rQ q3 q4 n2 m2 d2)] (.g9 [.agg (eQ (qv n1 m1 d1/qv n2 m2 d2)),.int .i64 0]):=by
 obtain ⟨a1,a2,a3,w1,dc,s1,s2,s3,s4,s5⟩:=PS N n1 m1 d1 k (by omega) ni pd;obtain ⟨b1,b2,b3,w2,gn,t1,t2,t3,t4,t5⟩:=PS N n2 m2 d2 k (by omega) jy uw;rw[t5]at h0;rw[s5,t5];have Ao:zv b1 b2≠0:=λ h=>h0 ((fO t3).2 h)
 rw[AeX s3 t3 Ao];have hS:=λ q=>nX N b1 q b2 (t1.le (by omega))
 have mq:fb (zv b1 b2)≠0:=by unfold fb;split<;>(try split)<;>omega
 have ck:=λ q q'=>U9 N a1 false q q' a2 b3 s1.1 t2.1 (by have:=s1.2;have:=t2.2;omega)
 have fi:=λ q q'=>U9 N false b1 q q' a3 b2 s2.1 t1.1 (by have:=t1.2;have:=s2.2;omega)
 have Gq:=YI N a3;have Cx:=YI N b3;have g1:Sm (k+k) (dg (zv a1 a2*zv false b3).natAbs):=WB s1 t2;have g2:Sm (k+k) (dg (zv false a3*zv b1 b2).natAbs):=WB s2 t1;have hd:(zv false a3*zv b1 b2).natAbs=val a3*(zv b1 b2).natAbs:=by rw[Int.natAbs_mul,FO]
 have Cm:(zv false a3*zv b1 b2).sign=(zv b1 b2).sign:=by
  rw[Int.sign_mul,E6,Int.sign_eq_one_of_pos (by omega),Int.one_mul]
 have ri:zv false a3*zv b1 b2≠0:=by
  intro h;rw[h]at Cm;exact Ao (by simpa using Cm.symm)
 rw[<-hd,<-Cm,<-E6 b3];generalize zv a1 a2*zv false b3=x at *;generalize zv false a3*zv b1 b2=y at *;generalize fb (zv b1 b2)=sg at *;have hl:=λ q1 q2=>VB N (decide (x<0) != decide (y<0)) q1 q2 (dg x.natAbs) (dg y.natAbs) (g1.le (by omega)) (g2.le (by omega)) (by rw[BW];omega)
 unfold qv at hl;rw[AhL ri,BW]at hl;refine Ev.x N.MF rfl rfl ?_;(repeat' ((first|(apply AG<;>intro hc<;>try omega)|apply I1|apply WZ|apply AC|refine AE (dc) ?_|refine AE (gn) ?_|refine AE (hS _) ?_|refine AE (Gq) ?_|refine AE (Cx) ?_|refine AE (ck _ _) ?_|refine AE (fi _ _) ?_)<;>conv=>whnf))
 refine FB 1000 N.MP rfl rfl ?_;(repeat' (apply AC<;>conv=>whnf))
 generalize decide (x<0)=p at *;generalize decide (y<0)=r at *;cases p<;>cases r;all_goals
  (conv=>whnf)
  refine ⟨rfl,?_⟩;(conv=>whnf)
  (repeat' (refine AE (hl _ _) ?_<;>conv=>whnf))
  exact AY rfl (Rn _ _)
end Go.g6

namespace Go.g6
open F
attribute [local irreducible] AA AF AM AD CZ AX A9 BG B8 B6 CT D8 B9 BF B1 CR AB A6 AJ pw BN BH CQ CK C6 C7 CW BV D4
set_option maxHeartbeats 1000000
variable {L:Lib}
def HA (n:Int):Prop := -9223372036854775808<=n/\n<=9223372036854775807
structure Wd where
 b:Int
 f:Int
 r:Int
 o:Int
def WV (w:Wd):Prop:=4<=w.b/\w.b<=24/\0<=w.f/\w.f<w.b/\1<=w.r/\w.r<=3/\1<=w.o/\w.o<=2
instance (w : Wd) : Decidable (WV w) := by unfold WV; infer_instance
variable (w:Wd)
def AeR:Int:=if WV w then -pw (w.b-1) else 0
def Zg:Int:=if WV w then pw (w.b-1)-1 else 0
def FT (v:Int):Prop:=WV w/\AeR w<=v/\v<=Zg w
instance (v : Int) : Decidable (FT w v) := by unfold FT; infer_instance
end Go.g6

namespace Go.g6
open F
attribute [local irreducible] AA AF AM AD CZ AX A9 BG B8 B6 CT D8 B9 BF B1 CR AB A6 AJ pw BN BH CQ CK C6 C7 CW BV D4
set_option maxHeartbeats 1000000
variable {L:Lib}
structure Nd where
 q:Bool
 ts:List (Int × Int)
structure Nt where
 d:Wd
 c:Wd
 s:Int
 qn:Bool
 nodes:List Nd
 qx:Bool
 next:List Int
 out:Int
variable (n:Nt)
end Go.g6

namespace Go.g6
open F
attribute [local irreducible] AA AF AM AD CZ AX A9 BG B8 B6 CT D8 B9 BF B1 CR AB A6 AJ pw BN BH CQ CK C6 C7 CW BV D4
variable {L:Lib}
set_option maxHeartbeats 8000000
theorem Bt.sm {k:Nat} {x:Rat} (h:Bt k x) (hk:k<2199023255552):Sm 68719476736 (dg x.num.natAbs)/\Sm 68719476736 (dg x.den):=h.Om (by omega)
theorem Xx (N:a8 L) {x y:Rat} {k l:Nat} (hx:Bt k x) (hy:Bt l y) (hk:k<2199023255552) (hl:l<2199023255552):Ev L 98 [.agg (eQ x),.agg (eQ y)] (.agg (eQ (x+y))):=by
 have:=oT N 68719476736 (by omega) (decide (x.num<0)) (decide (y.num<0)) false false false false _ _ _ _ (hx.sm hk).1 (hx.sm hk).2 (hy.sm hl).1 (hy.sm hl).2
 rw[GT,GT]at this;exact this
theorem KL (N:a8 L) {x y:Rat} {k l:Nat} (hx:Bt k x) (hy:Bt l y) (hk:k<2199023255552) (hl:l<2199023255552):Ev L 99 [.agg (eQ x),.agg (eQ y)] (.agg (eQ (x*y))):=by
 have:=YK N 68719476736 (by omega) (decide (x.num<0)) (decide (y.num<0)) false false false false _ _ _ _ (hx.sm hk).1 (hx.sm hk).2 (hy.sm hl).1 (hy.sm hl).2
 rw[GT,GT]at this;exact this
theorem Q9 (N:a8 L) {x y:Rat} {k l:Nat} (hx:Bt k x) (hy:Bt l y) (hk:k<2199023255552) (hl:l<2199023255552) (h0:y≠0):Ev L 100 [.agg (eQ x),.agg (eQ y)] (.g9 [.agg (eQ (x/y)),.int .i64 0]):=by
 have:=Adx N 68719476736 (by omega) (decide (x.num<0)) (decide (y.num<0)) false false false false _ _ _ _ (hx.sm hk).1 (hx.sm hk).2 (hy.sm hl).1 (hy.sm hl).2 (by rw[GT];exact h0)
 rw[GT,GT]at this;exact this
theorem dG (N:a8 L) {x:Rat} {k:Nat} (hx:Bt k x) (hk:k<2199023255552):Ev L 97 [.agg (eQ x)] (.int .i64 (fb x.num)):=by
 have:=Ady N (decide (x.num<0)) false false _ _ ((hx.sm hk).1.le (by omega)) ((hx.sm hk).2.le (by omega))
 rw[GT]at this;exact this
theorem ZX {x:Rat}:fb x.num=0↔x=0:=by
 rw[<-Rat.num_eq_zero];unfold fb;split
 ·omega
 ·split<;>omega
theorem tB (n:Bool) (m d:List Nat):qv (!n) m d = -(qv n m d):=by
 unfold qv;have h:zv (!n) m = -(zv n m):=by cases n<;>simp [zv]
 rw[h,Rat.neg_mkRat]
theorem Rr (n:Bool) (m d:List Nat):A7 (.agg (rQ false false n m d)):=by
 simp only[A7,CJ,and_true,true_and];exact ⟨CS _,CS _⟩
theorem nV (N:az L) (n:Bool) (m d:List Nat):Ev L 149 [.agg (rQ false false n m d)] (.agg (rQ false false (!n) m d)):=by
 refine Ev.x N.ML rfl rfl ?_;cases n;all_goals
  (repeat' (apply AC<;>conv=>whnf))
  exact AY rfl (Rr _ _ _)
theorem YL (N:az L) {x y:Rat} {k l:Nat} (hx:Bt k x) (hy:Bt l y) (hk:k<2199023255552) (hl:l<2199023255552):Ev L 150 [.agg (eQ x),.agg (eQ y)] (.agg (eQ (x-y))):=by
 have hF:=nV N (decide (y.num<0)) (dg y.num.natAbs) (dg y.den);have hA:=λ q3 q4=>oT N.toa8 68719476736 (by omega) (decide (x.num<0)) (!decide (y.num<0)) false false q3 q4 _ _ _ _ (hx.sm hk).1 (hx.sm hk).2 (hy.sm hl).1 (hy.sm hl).2
 rw[tB,GT,GT,<-Rat.sub_eq_add_neg]at hA;refine Ev.x N.MJ rfl rfl ?_;(repeat' ((first|apply jP|apply AC|refine AE (hF) ?_|refine AE (hA _ _) ?_)<;>conv=>whnf))
 exact AY rfl (E8 _)
theorem Adh (N:mg L) {x:Rat} {k:Nat} (hx:Bt k x) (hk:k<2199023255552):Ev L 199 [.agg (eQ x)] (.agg (eQ (-x))):=by
 have hF:=nV N.toaz (decide (x.num<0)) (dg x.num.natAbs) (dg x.den);have hT:=λ q1 q2=>oU N.toa8 (!decide (x.num<0)) q1 q2 _ _ ((hx.sm hk).1.le (by omega)) ((hx.sm hk).2.le (by omega))
 rw[tB,GT]at hT;refine Ev.x N.MG rfl rfl ?_;(repeat' ((first|apply jP|apply AC|refine AE (hF) ?_|refine AE (hT _ _) ?_)<;>conv=>whnf))
 exact AY rfl (E8 _)
end Go.g6

namespace Go.g6
open F
attribute [local irreducible] AA AF AM AD CZ AX A9 BG B8 B6 CT D8 B9 BF B1 CR AB A6 AJ pw BN BH CQ CK C6 C7 CW BV D4
set_option maxHeartbeats 4000000
variable {L:Lib}
structure AQ where
 n:Bool
 m:List Nat
 d:List Nat
abbrev eW (w:AQ):List AV:=rQ false false w.n w.m w.d
def AQ.v (w:AQ):Rat:=qv w.n w.m w.d
def AQ.Sz (k:Nat) (w:AQ):Prop:=Sm k w.m/\Sm k w.d
def KY (x:Rat):AQ:=⟨decide (x.num<0),dg x.num.natAbs,dg x.den⟩
theorem TW (x:Rat):(KY x).v=x:=GT x
theorem uN {k:Nat} {l:List Nat} (h:Sm k l):val l<=2^(32*k):=by
 have:=h.val
 rw[show 4294967296=2^32 from rfl,<-Nat.pow_mul]at this;omega
theorem AQ.bt {w:AQ} {k:Nat} (h:w.Sz k):Bt (32*k) w.v:=by
 unfold AQ.v qv;refine Bt.mk ?_ (uN h.2);rw[FO];exact uN h.1
section program
theorem oY (N:a8 L) {w:AQ} {k:Nat} (h:w.Sz k) (hk:k<=68719476736):Ev L 95 [.agg (eW w)] (.agg (eQ w.v)):=oU N w.n false false w.m w.d (h.1.le (by omega)) (h.2.le (by omega))
theorem YG (N:a8 L) {w:AQ} {y:Rat} {k l:Nat} (h:w.Sz k) (hy:Bt l y) (hk:k<=68719476736) (hl:l<2199023255552):Ev L 99 [.agg (eW w),.agg (eQ y)] (.agg (eQ (w.v*y))):=by
 have:=YK N 68719476736 (by omega) w.n (decide (y.num<0)) false false false false w.m w.d _ _ (h.1.le hk) (h.2.le hk) (hy.um hl).1 (hy.um hl).2
 rw[GT]at this;exact this
theorem YH (N:a8 L) {w:AQ} {x:Rat} {k l:Nat} (hx:Bt l x) (h:w.Sz k) (hl:l<2199023255552) (hk:k<=68719476736):Ev L 99 [.agg (eQ x),.agg (eW w)] (.agg (eQ (x*w.v))):=by
 have:=YK N 68719476736 (by omega) (decide (x.num<0)) w.n false false false false _ _ w.m w.d (hx.um hl).1 (hx.um hl).2 (h.1.le hk) (h.2.le hk)
 rw[GT]at this;exact this
end program
section reference
theorem dH (N:b8 L) {w:AQ} {k:Nat} (h:w.Sz k) (hk:k<=68719476736):Ev L 123 [.agg (eW w)] (.agg (eQ w.v)):=oQ N w.n false w.m w.d (h.1.le (by omega)) (h.2.le (by omega))
theorem cY (N:b8 L) {w u:AQ} {k l:Nat} (h:w.Sz k) (g:u.Sz l) (hk:k<=68719476736) (hl:l<=68719476736):Ev L 128 [.agg (eW w),.agg (eW u)] (.agg (eQ (w.v*u.v))) :=
 Adq N 68719476736 (by omega) w.n u.n false false w.m w.d u.m u.d (h.1.le hk) (h.2.le hk) (g.1.le hl) (g.2.le hl)
theorem Xy (N:b8 L) {w u:AQ} {k l:Nat} (h:w.Sz k) (g:u.Sz l) (hk:k<=68719476736) (hl:l<=68719476736):Ev L 126 [.agg (eW w),.agg (eW u)] (.agg (eQ (w.v+u.v))) :=
 oO N 68719476736 (by omega) w.n u.n false false w.m w.d u.m u.d (h.1.le hk) (h.2.le hk) (g.1.le hl) (g.2.le hl)
theorem Adz (N:m6 L) {w:AQ} {k:Nat} (h:w.Sz k) (hk:k<=68719476736):Ev L 155 [.agg (eW w)] (.int .i64 (fb w.v.num)):=by
 obtain ⟨n',m',d',hp,s1,s2,s3,s4⟩:=PR N.tob8 w.n false w.m w.d 274877906943 (by omega) (h.1.le (by omega)) (h.2.le (by omega));have hS:=λ q=>YJ N.tob8 n' q m' (s1.le (by omega))
 have hz:fb (zv n' m')=fb w.v.num:=by
  rw[AQ.v,s4];exact (rO s3).symm
 rw[hz]at hS;refine Ev.x N.NH rfl rfl ?_;(repeat' ((first|apply T9|apply AC|refine AE (hp) ?_|refine AE (hS _) ?_)<;>conv=>whnf))
 exact EI rfl
end reference
end Go.g6

namespace Go.g6
open F
attribute [local irreducible] AA AF AM AD CZ AX A9 BG B8 B6 CT D8 B9 BF B1 CR AB A6 AJ pw BN BH CQ CK C6 C7 CW BV D4
variable {L:Lib} (n:Nt)
set_option maxHeartbeats 1000000
end Go.g6

namespace Go.g6
open F
attribute [local irreducible] AA AF AM AD CZ AX A9 BG B8 B6 CT D8 B9 BF B1 CR AB A6 AJ pw BN BH CQ CK C6 C7 CW BV D4
variable {L:Lib}
set_option maxHeartbeats 8000000
theorem wB (m p:Nat):(List.replicate m (0:Rat)).set p 1=FR m p:=by
 refine List.ext_getElem? λ j => ?_
 simp only[FR,List.getElem?_set,List.getElem?_map,List.getElem?_replicate,List.length_replicate];by_cases h:j<m
 ·rw[List.getElem?_range h]
  by_cases e:p=j
  ·subst e;simp [h]
  ·simp [h,e];intro h3;omega
 ·rw[List.getElem?_eq_none (by simpa using h)]
  simp [h];intro e;omega
theorem Zl {α:Type} (a b:α) {t m:Nat} (_:t<=m) (h:t<m):(List.replicate t a++List.replicate (m-t) b).set t a=List.replicate (t+1) a++List.replicate (m-(t+1)) b:=by
 obtain ⟨k,hk⟩ : ∃ k,m-t=k+1:=⟨m-t-1,by omega⟩;rw[List.set_append_right _ _ (by simp),hk,List.length_replicate,Nat.sub_self,List.replicate_succ,List.set_cons_zero,show m-(t+1)=k by omega,List.replicate_succ',List.append_assoc];rfl
def fz {α:Type} (z:α) (l:List α) (m:Nat):List α:=l++List.replicate (m-l.length) z
theorem dR {α:Type} {z:α} {l:List α} {m:Nat} (h:l.length<=m):(fz z l m).length=m:=by simp [fz];omega
theorem dS {α:Type} {z x:α} {l:List α} {m:Nat} (h:l.length<m):(fz z l m).set l.length x=fz z (l++[x]) m:=by
 unfold fz;obtain ⟨k,hk⟩ : ∃ k,m-l.length=k+1:=⟨m-l.length-1,by omega⟩;rw[List.set_append_right _ _ (by simp),hk,Nat.sub_self,List.replicate_succ,List.set_cons_zero,List.length_append,List.length_singleton,show m-(l.length+1)=k by omega,List.append_assoc];rfl
theorem Zn {α:Type} {z:α} {l:List α} {m:Nat} (h:l.length<m):(fz z l m)[l.length]? = some z:=by
 unfold fz;rw[List.getElem?_append_right (by omega),Nat.sub_self,List.getElem?_replicate,if_pos (by omega)]
theorem dQ {α:Type} {z:α} {l:List α} {m:Nat} (h:l.length=m):fz z l m=l:=by simp [fz,h]
theorem K2 {α:Type} {l:List α} {i:Nat} {x:α} (h:l[i]? = some x):l.take (i+1)=l.take i++[x]:=by
 rw[List.take_add_one,h];rfl
end Go.g6

namespace Go.g6
open F
attribute [local irreducible] AA AF AM AD CZ AX A9 BG B8 B6 CT D8 B9 BF B1 CR AB A6 AJ pw BN BH CQ CK C6 C7 CW BV D4
variable {L:Lib}
variable (b a:List Int) (d c:Wd)
variable {b a d c}
set_option maxHeartbeats 4000000
end Go.g6

namespace Go.g6
open F
attribute [local irreducible] AA AF AM AD CZ AX A9 BG B8 B6 CT D8 B9 BF B1 CR AB A6 AJ pw BN BH CQ CK C6 C7 CW BV D4
variable {L:Lib}
set_option maxHeartbeats 8000000
end Go.g6

namespace Go.g6
open F
attribute [local irreducible] AA AF AM AD CZ AX A9 BG B8 B6 CT D8 B9 BF B1 CR AB A6 AJ pw BN BH CQ CK C6 C7 CW BV D4
set_option maxHeartbeats 4000000
variable {L:Lib}
section
variable (n:Nt)
end
end Go.g6

namespace Go.g6
variable {L:Lib}
end Go.g6

namespace Go.g6
theorem I2 {R:List (Option (Nat × List (List AV)))} {i e z:Nat} {es:List (List AV)} {K:Option (Nat × List (List AV))->Prop} (he:e=i) (hi:i<R.length) (h:K (some (z,es))):BN (R.set i (some (z,es))) e K:=by
 subst he;exact ⟨_,by rw[List.getElem?_set,if_pos rfl,if_pos hi],h⟩
theorem GM {R:List (Option (Nat × List (List AV)))} {i e z:Nat} {es:List (List AV)} {K:Nat->List (List AV)->Prop} (he:e=i) (hi:i<R.length) (h:K z es):BH (R.set i (some (z,es))) e K:=by
 subst he;exact ⟨z,es,by rw[List.getElem?_set,if_pos rfl,if_pos hi],h⟩
theorem KF {R:List (Option (Nat × List (List AV)))} {i e z:Nat} {es es':List (List AV)} {K:List (Option (Nat × List (List AV)))->Prop} (he:e=i) (hl:es'.length=es.length) (h:K (R.set i (some (z,es')))):CK (R.set i (some (z,es))) e z es es' K:=by
 subst he;exact ⟨hl,by rw[List.set_set];exact h⟩
theorem K5 {R:List (Option (Nat × List (List AV)))} {i e z:Nat} {es:List (List AV)} {K:List (Option (Nat × List (List AV)))->Prop} (he:e=i) (hi:i<R.length) (h:K (R.set i (some (z,es)))):CQ R e z es K:=by
 subst he;exact ⟨hi,h⟩
end Go.g6

namespace Go.g6
variable {b a:List Int} {d c:Wd}
end Go.g6

namespace Go.g6
variable {d c:Wd} {p:List Int}
end Go.g6

namespace Go.g6
open F
attribute [local irreducible] AA AF AM AD CZ AX A9 BG B8 B6 CT D8 B9 BF B1 CR AB A6 AJ pw BN BH CQ CK C6 C7 CW BV D4
variable {L:Lib}
set_option maxHeartbeats 16000000
def ot (P:List (List Rat)) (n j i:Nat):List (List (Option Rat)):=(List.range P.length).map λ r=>DG ((P.getD r []).take (if r<i then j+1 else j)) n
theorem VZ (P:List (List Rat)) (n j i:Nat):(ot P n j i).length=P.length:=by simp [ot]
theorem Zq {P:List (List Rat)} {i:Nat} {row:List Rat} (h:P[i]? = some row):P.getD i []=row:=by rw[List.getD_eq_getElem?_getD,h];rfl
theorem ZH {P:List (List Rat)} {n j i r:Nat} {row:List Rat} (h:P[r]? = some row):(ot P n j i)[r]? = some (DG (row.take (if r<i then j+1 else j)) n):=by
 have h1:=(zS h).1;simp only[ot,List.getElem?_map,List.getElem?_range h1,Option.map_some,Zq h]
theorem Afs {P:List (List Rat)} {n j i:Nat} {row:List Rat} (h:P[i]? = some row):(ot P n j i).set i (DG (row.take (j+1)) n)=ot P n j (i+1):=by
 refine List.ext_getElem? λ r => ?_
 rw[List.getElem?_set,VZ];cases e:P[r]? with
 | none =>
  have h1:=List.getElem?_eq_none_iff.1 e;have h2:=(zS h).1;rw[List.getElem?_eq_none (by rw[VZ];exact h1),if_neg (by omega),List.getElem?_eq_none (by rw[VZ];exact h1)]
 | some rw' =>
  rw[ZH e,ZH e];by_cases hi:i=r
  ·subst hi
   obtain rfl:=Option.some.inj (h.symm.trans e);have h2:=(zS h).1;rw[if_pos rfl,if_pos h2,if_pos (by omega)]
  ·rw[if_neg hi]
   by_cases h3:r<i
   ·rw[if_pos h3,if_pos (by omega)]
   ·rw[if_neg h3,if_neg (by omega)]
theorem Afr (P:List (List Rat)) (n j:Nat):ot P n j P.length=ot P n (j+1) 0:=by
 refine List.map_congr_left λ r hr => ?_
 rw[if_pos (List.mem_range.1 hr),if_neg (by omega)]
theorem Aft (P:List (List Rat)) (n:Nat):ot P n 0 0=List.replicate P.length (DG [] n):=by
 refine List.ext_getElem? λ r => ?_
 simp only[ot,List.getElem?_map,List.getElem?_replicate];by_cases h:r<P.length
 ·rw[List.getElem?_range h,if_pos h];simp
 ·rw[List.getElem?_eq_none (by simp;omega),if_neg h];rfl
theorem Afq {P:List (List Rat)} {n:Nat} (h : ∀ r∈P,r.length=n):A8 3 eO (ot P n n 0)=A8 3 eQ P:=by
 refine List.ext_getElem? λ r => ?_
 simp only[A8,List.getElem?_map];cases e:P[r]? with
 | none=>rw[List.getElem?_eq_none (by rw[VZ];exact List.getElem?_eq_none_iff.1 e)];rfl
 | some row =>
  have hl:=h row (zM e);rw[ZH e,if_neg (by omega),zT (by omega)];simp only[Option.map_some,I6 hl]
def mz (Q:List (List Rat)) (n i:Nat):List (Option (Nat × List (List AV))):=fz none (A8 3 eQ (Q.take i)) n
theorem P3 {Q:List (List Rat)} {n i:Nat} (hi:i<=n):(mz Q n i).length=n:=by
 refine dR ?_;simp only[A8,List.length_map,List.length_take];omega
theorem P5 (Q:List (List Rat)) (n:Nat):mz Q n 0=List.replicate n none:=by simp [mz,fz]
theorem P4 {Q:List (List Rat)} {n i:Nat} {row:List Rat} (h:Q[i]? = some row) (hi:i<n):(mz Q n i).set i (some (3,row.map eQ))=mz Q n (i+1):=by
 have h1:=(zS h).1;have hl:(A8 3 eQ (Q.take i)).length=i:=by simp only[A8,List.length_map,List.length_take];omega
 have:=dS (z:=none) (l:=A8 3 eQ (Q.take i)) (m:=n) (x:=some (3,row.map eQ)) (by omega)
 rw[hl]at this;rw[mz,this,mz,K2 h];simp [A8]
theorem P2 {Q:List (List Rat)} {n:Nat} (h:Q.length=n):mz Q n n=A8 3 eQ Q:=by
 rw[mz,zT (by omega)];exact dQ (by simp [A8,h])
end Go.g6

namespace Go.g6
open Go.ChangeShapes Go.WideShapes Go.ChangeAt Go.RowKit
inductive Ty where
 | int (k:IntKind)
 | bool
 | sl (e:Ty)
 | nil
 | cons (a r:Ty)
def Ty.cells:Ty->Nat
 | .int _=>1 | .bool=>1 | .sl _=>1
 | .nil=>0
 | .cons a r=>a.cells+r.cells
def FW (l:Bool):Ty->List AV->Prop
 | .int k,cs => ∃ n,cs=[.int k n]/\(Lit.int k n).wf=true
 | .bool,cs => ∃ b,cs=[.bool b]
 | .sl e,cs => ∃ es,cs=[.sl l es]/\es.length<=maxLen /\ ∀ x∈es,FW l e x
 | .nil,cs=>cs=[]
 | .cons a r,cs => ∃ x y,cs=x++y/\FW l a x/\FW l r y
theorem FW.len {l:Bool} : ∀ {ty:Ty} {cs:List AV},FW l ty cs->cs.length=ty.cells
 | .int _,cs,h=>by obtain ⟨n,rfl,_⟩:=h;rfl
 | .bool,cs,h=>by obtain ⟨n,rfl⟩:=h;rfl
 | .sl _,cs,h=>by obtain ⟨n,rfl,_⟩:=h;rfl
 | .nil,cs,h=>by rw[show cs=[] from h];rfl
 | .cons a r,cs,h=>by obtain ⟨x,y,rfl,h1,h2⟩:=h;simp [Ty.cells,FW.len h1,FW.len h2]
def MD (P:Program):Nat->TypeId->Ty->Bool
 | 0,_,_=>false
 | n+1,t,ty=>match P.underlying t,ty with
  | some (.int k),.int k'=>decide (k=k')
  | some .bool,.bool=>true
  | some (.slice e),.sl na=>MD P n e na&&(P.cellsOf e == na.cells&&decide (0<na.cells))
  | some (.struct fs),ty=>go (MD P n) fs.toList 0 ty&&P.cellsOf t == ty.cells
  | _,_=>false
where
 go (ok:TypeId->Ty->Bool):List Field->Nat->Ty->Bool
  | [],_,.nil=>true
  | f::fs,off,.cons a r=>(f.offset == off&&(ok f.type a&&P.cellsOf f.type == a.cells))&&go ok fs (off+a.cells) r
  | _,_,_=>false
section
variable {H:Type} {enc:TypeId × Value->H} {P:Program} {w:World} {base:Nat} {spare:Nat->Bool} {held:Bool} {R:Bool->Nat->Prop}
def HM (w:World) (R:Bool->Nat->Prop) (as:List AV) (cs:List Value):Prop:=as.length=cs.length /\ ∀ (j:Nat) (a:AV) (c:Value),as[j]? = some a->cs[j]? = some c->Rd w R a c
theorem HM.one {a:AV} {c:Value} (h:Rd w R a c):HM w R [a] [c]:=by
 refine ⟨rfl,λ j a' c' h1 h2 => ?_⟩;cases j with
 | zero=>simp at h1 h2;subst h1 h2;exact h
 | succ j=>simp at h1
theorem HM.append {as bs:List AV} {cs ds:List Value} (h1:HM w R as cs) (h2:HM w R bs ds):HM w R (as++bs) (cs++ds):=by
 refine ⟨by simp [h1.1,h2.1],λ j a c ha hc => ?_⟩;by_cases hj:j<as.length
 ·rw[List.getElem?_append_left hj]at ha
  rw[List.getElem?_append_left (by rw[<-h1.1];exact hj)]at hc;exact h1.2 j a c ha hc
 ·rw[List.getElem?_append_right (by omega)]at ha
  rw[List.getElem?_append_right (by rw[<-h1.1];omega),<-h1.1]at hc;exact h2.2 _ a c ha hc
theorem kH (a:Addr) (i:Nat) (h:a.spot=none):a.add i=⟨a.block,a.off+i,none⟩:=by
 obtain ⟨b,o,s⟩:=a;simp only at h;subst h;exact HB b o i
theorem sP {l:Bool} (hR : ∀ b,b<w.heap.size->R l b) (m:Nat) (ih : ∀ (ty:Ty) (t:TypeId) (cs:List Value) (fuel:Nat) (x:DataW H × List MemPlace),MD P m t ty=true->DataW.trod enc P w base spare held fuel t cs=some x -> ∃ as,FW l ty as/\HM w R as cs)
  (n:Nat) (cs:List Value) : ∀ (fs:List Field) (off:Nat) (ty:Ty),MD.go P (MD P m) fs off ty=true->(∀ f∈fs,∃ y,DataW.trod enc P w base spare held n f.type ((cs.drop f.offset).take (P.cellsOf f.type))=some y)->off+ty.cells=cs.length -> ∃ as,FW l ty as/\HM w R as (cs.drop off)
 | [],off,ty,k6,_,hl=>by
  cases ty<;>simp only[MD.go,Bool.false_eq_true]at k6;simp only[Ty.cells]at hl;exact ⟨[],rfl,by rw[List.drop_of_length_le (by omega)];exact ⟨rfl,λ j a c h=>by simp at h⟩⟩
 | f::fs,off,ty,k6,hf,hl=>by
  cases ty<;>simp only[MD.go,Bool.false_eq_true,Bool.and_eq_true,beq_iff_eq]at k6;rename_i a r;obtain ⟨⟨h1,h2,h3⟩,h4⟩:=k6;simp only[Ty.cells]at hl;obtain ⟨y,hy⟩:=hf f List.mem_cons_self;rw[h1,h3]at hy;obtain ⟨Oj,g1,g2⟩:=ih a f.type _ n y h2 hy;obtain ⟨Ok,g3,g4⟩:=sP hR m ih n cs fs (off+a.cells) r h4 (λ f' h'=>hf f' (List.mem_cons_of_mem _ h')) (by omega);refine ⟨Oj++Ok,⟨Oj,Ok,rfl,g1,g3⟩,?_⟩;have:=g2.append g4
  rwa [show (cs.drop off).take a.cells++cs.drop (off+a.cells)=cs.drop off by rw[<-List.drop_drop,List.take_append_drop]]at this
theorem sO {l:Bool} (hR : ∀ b,b<w.heap.size->R l b) : ∀ (m:Nat) (ty:Ty) (t:TypeId) (cs:List Value) (fuel:Nat) (x:DataW H × List MemPlace),MD P m t ty=true->DataW.trod enc P w base spare held fuel t cs=some x -> ∃ as,FW l ty as/\HM w R as cs
 | 0,_,_,_,_,_,h,_=>by simp [MD]at h
 | m+1,ty,t,cs,fuel,x,k6,h=>by
  have ih:=sO hR m;simp only[MD]at k6;split at k6
  ·rename_i k k' hu
   obtain rfl:k=k':=by simpa using k6
   obtain ⟨n,rfl,_,hw⟩:=DataW.trod_int hu h;exact ⟨[.int k n],⟨n,rfl,hw⟩,HM.one (.int k n)⟩
  ·rename_i hu
   cases fuel with
   | zero=>simp [DataW.trod]at h
   | succ fuel =>
    unfold DataW.trod at h;rw[hu]at h;split at h<;>simp_all
    exact ⟨_,⟨_,rfl⟩,HM.one (.bool _)⟩
  ·rename_i e na hu
   simp only[Bool.and_eq_true,beq_iff_eq,decide_eq_true_eq]at k6;obtain ⟨h1,h2,h3⟩:=k6;rcases DataW.trod_slice hu h with ⟨rfl,_⟩|⟨a,len,cap,elems,rest,n,_,rfl,_,hb,hl,hm,hlen,fu,_,_⟩
   ·exact ⟨[.sl l []],⟨[],rfl,by simp,by simp⟩,HM.one (.ke l none 0)⟩
   ·have each : ∀ i,i<len -> ∃ as fr,FW l na as/\HM w R as fr/\fr.length=na.cells /\ ∀ j,j<na.cells->w.cell? ((a.add (i*na.cells)).add j)=fr[j]? := by
     intro i hi;have:=fu i hi
     rw[h2,zE (by omega),Option.bind_eq_some_iff]at this;obtain ⟨fr,hc,ht⟩:=this;obtain ⟨as,g1,g2⟩:=ih na e fr n _ h1 ht;obtain ⟨_,q1,q2⟩:=World.cells?_some hc;exact ⟨as,fr,g1,g2,q1,q2⟩
    by_cases h0:len=0
    ·subst h0
     exact ⟨[.sl l []],⟨[],rfl,by simp,by simp⟩,HM.one (.ke l (some a) cap)⟩
    ·have Bd:a.spot=none:=by
      obtain ⟨as,fr,_,_,q1,q2⟩:=each 0 (by omega);have:=q2 0 h3
      rw[zE (by omega)]at this;simpa [Addr.add] using World.cell?_spot this
     have ny:a.block<w.heap.size:=by
      obtain ⟨as,fr,_,_,q1,q2⟩:=each 0 (by omega);have:=q2 0 h3
      rw[zE (by omega)]at this;simpa [Addr.add] using Q0 this
     have pick : ∃ f:Nat->List AV × List Value,∀ i,i<len->FW l na (f i).1/\HM w R (f i).1 (f i).2/\(f i).2.length=na.cells /\ ∀ j,j<na.cells->w.cell? ((a.add (i*na.cells)).add j)=(f i).2[j]? := by
      refine ⟨λ i=>if hi:i<len then (Classical.choose (each i hi),Classical.choose (Classical.choose_spec (each i hi))) else ([],[]),λ i hi => ?_⟩;simp only[hi,dif_pos];exact Classical.choose_spec (Classical.choose_spec (each i hi))
     obtain ⟨f,hf⟩:=pick;have s9 : ∀ i e',((List.range len).map λ i=>(f i).1)[i]? = some e'->i<len/\e'=(f i).1:=by
      intro i e' he;rw[List.getElem?_map]at he;by_cases hi:i<len
      ·rw[List.getElem?_range hi]at he
       simp at he;exact ⟨hi,he.symm⟩
      ·rw[List.getElem?_eq_none (by simpa using hi)]at he
       cases he
     refine ⟨[.sl l ((List.range len).map λ i=>(f i).1)],⟨_,rfl,by simp;omega,λ x hx => ?_⟩,HM.one ?_⟩
     ·obtain ⟨i,hi,rfl⟩:=List.mem_map.1 hx
      exact (hf i (List.mem_range.1 hi)).1
     ·obtain ⟨ab,ao,as⟩:=a
      simp only at Bd;subst Bd;have Aw:((List.range len).map λ i=>(f i).1).length=len:=by simp
      have:=Rd.sl (w:=w) (R:=R) l ((List.range len).map λ i=>(f i).1) ab ao na.cells cap (λ i j=>((f i).2[j]?).getD default) (by intro e;have:=congrArg List.length e;simp at this;omega) h3 (hR ab ny) (by rw[Aw];exact hl)
       (λ e' he=>by
        obtain ⟨i,hi,rfl⟩:=List.mem_map.1 he;exact (hf i (List.mem_range.1 hi)).1.len)
       (λ i e' he j c hc=>by
        obtain ⟨hi,rfl⟩:=s9 i e' he;obtain ⟨g1,g2,g3,g4⟩:=hf i hi;have hj:j<na.cells:=by
         have:=(zS hc).1
         rwa [g1.len]at this
        have h5:=g4 j hj;rw[kH ⟨ab,ao,none⟩ (i*na.cells) rfl,kH _ _ rfl]at h5;simp only at h5;rw[show ao+(i*na.cells+j)=ao+i*na.cells+j by omega,h5,zE (by omega)];rfl)
       (λ i e' he j c hc=>by
        obtain ⟨hi,rfl⟩:=s9 i e' he;obtain ⟨g1,g2,g3,g4⟩:=hf i hi;have hj:j<na.cells:=by
         have:=(zS hc).1
         rwa [g1.len]at this
        have h6:(f i).2[j]? = some ((f i).2[j]'(by omega)):=zE _;rw[h6];exact g2.2 j c _ hc h6)
      rwa [Aw]at this
  ·rename_i fs hu
   simp only[Bool.and_eq_true,beq_iff_eq]at k6;obtain ⟨h1,h2⟩:=k6;obtain ⟨xs,n,_,_,hl,hlen,hf⟩:=DataW.trod_struct hu h;have:=sP hR m ih n cs fs.toList 0 _ h1 (λ f od=>by
    obtain ⟨i,hi,rfl⟩:=List.getElem_of_mem od;have h5:=hf i fs.toList[i] (by simp);rw[h5,zE (by simpa [hlen] using hi)];exact ⟨_,rfl⟩) (by rw[hl,h2];omega)
   simpa using this
  ·exact absurd k6 (by simp)
theorem TP {ty:Ty} {t:TypeId} {v:Value} {d:DataW H} {ps:List MemPlace} {m:Nat} (k6:MD P m t ty=true) (hv:v.cells.toList=[v]) (h:DataW.Trod enc P w base spare held t v d ps) :
  ∃ a,FW false ty [a]/\CA w.heap.size (λ_=>True) ⟨λ_ _=>none,AH.emp,w⟩ a v:=by
 obtain ⟨fuel,hf⟩:=h;rw[hv]at hf;obtain ⟨as,h1,h2⟩:=sO (l:=false) (R:=safe w.heap.size (λ_=>True) ⟨λ_ _=>none,AH.emp,w⟩) (λ b hb=>Or.inl ⟨trivial,hb⟩) m ty t [v] fuel _ k6 hf;obtain ⟨a,rfl⟩ : ∃ a,as=[a]:=by
  have:=h2.1
  match as,this with
  | [a],_=>exact ⟨a,rfl⟩
 exact ⟨a,h1,.one (.rd (h2.2 0 a v rfl rfl))⟩
end
theorem Sl {B:Nat} {S:Nat->Prop} {m:M} : ∀ (j:Nat) (c:AV) (v:Value),([]:List AV)[j]? = some c->([]:List Value)[j]? = some v->CA B S m c v:=λ j c v h=>by simp at h
theorem ST {B:Nat} {S:Nat->Prop} {m:M} {a:AV} {u:Value} {as:List AV} {us:List Value} (h:CA B S m a u) (hr : ∀ (j:Nat) (c:AV) (v:Value),as[j]? = some c->us[j]? = some v->CA B S m c v) :
  ∀ (j:Nat) (c:AV) (v:Value),(a::as)[j]? = some c->(u::us)[j]? = some v->CA B S m c v
 | 0,c,v,h1,h2=>by simp at h1 h2;subst h1 h2;exact h
 | j+1,c,v,h1,h2=>hr j c v (by simpa using h1) (by simpa using h2)
theorem AeI {P:Program} {num:Nat->Nat} {L:Lib} (hP:ProgOK P num L) {f:Nat} {vs:List AV} (h:Ev L f vs (.bool true)) {S:Nat->Prop} {w:World} {us:List Value} (hl:vs.length=us.length)
  (ha : ∀ (j:Nat) (c:AV) (v:Value),vs[j]? = some c->us[j]? = some v->CA w.heap.size S ⟨λ_ _=>none,AH.emp,w⟩ c v) :
  Calls P (num f) us.toArray w λ e w'=>e = .returned (.bool true)/\Below w.heap.size w w':=by
 obtain ⟨n,hn⟩:=h;refine ((Sx hP n).pure f vs _ hn S w us hl ha).mono ?_;rintro e w' ⟨u,rfl,hb,aj,_⟩
 refine ⟨?_,hb⟩;cases aj with
 | ca nf=>cases nf with
  | one ax=>cases ax with
   | rd ku=>cases ku;rfl
end Go.g6

namespace Go.g6
abbrev tI:Ty := .int .i64
theorem rD {α:Type} {enc:α->List AV} {p:α->Prop} : ∀ {es:List (List AV)},(∀ x∈es,∃ y,x=enc y/\p y) -> ∃ l:List α,es=l.map enc /\ ∀ y∈l,p y
 | [],_=>⟨[],rfl,by simp⟩
 | e::es,h=>by
  obtain ⟨y,rfl,hy⟩:=h e List.mem_cons_self;obtain ⟨l,rfl,hl⟩:=rD (enc:=enc) (p:=p) λ x hx=>h x (List.mem_cons_of_mem _ hx)
  exact ⟨y::l,rfl,by simpa using ⟨hy,hl⟩⟩
theorem AhE {n:Int} (h:(Lit.int .i64 n).wf=true):HA n:=by
 simp only[Lit.wf,Bool.and_eq_true,decide_eq_true_eq]at h;have h1:IntKind.i64.min = -9223372036854775808:=rfl;have h2:IntKind.i64.max=9223372036854775807:=rfl;rw[h1,h2]at h;unfold HA;constructor<;>omega
def hQ (S:aY):Nat->Rat
 | 0=>S.d
 | j+1=>A5 S.c (wQ S j)
end Go.g6

namespace Go.g6
section
variable {M ky:Nat} {g:List Pt}
end
end Go.g6

namespace Go.g6
end Go.g6

namespace Go.g6
open F
attribute [local irreducible] AA AF AM AD CZ AX A9 BG B8 B6 CT D8 B9 BF B1 CR AB A6 AJ pw BN BH CQ CK C6 C7 CW BV D4
variable {L:Lib}
set_option maxHeartbeats 16000000
set_option maxRecDepth 8000
theorem YF (N:bg L) (a m:Int) (ha:HA a) (hm:1<=m/\m<=1000000):Ev L 224 [.int .i64 a,.int .i64 m] (.int .i64 (a%m)):=by
 unfold HA at ha;have h1:=Int.emod_nonneg a (show m≠0 by omega);have h2:=Int.emod_lt_of_pos a (show 0<m by omega);refine Ev.x N.LT rfl rfl ?_;(repeat' ((first|(apply AG<;>intro hc<;>try omega)|(apply A0;omega)|(refine UF ?_ (λ_ _ _ => ?_) (λ_ _ _ _ => ?_);omega;all_goals try omega)|apply AC)<;>conv=>whnf))
 all_goals exact EI (by omega)
abbrev eM (m:List (List Rat)):List (List AV):=m.map λ r=>[AV.sl false (r.map eQ)]
theorem kY (m:List (List Rat)):GL (eM m):=XX (λ r=>by simp only[CJ,A7,and_true,true_and];exact bV r) m
theorem lB (m:List (List Rat)):A7 (.sl false (eM m)):=by
 simp only[A7,true_and];exact kY m
theorem bI {x y:Int} (hx : -4<=x/\x<=4) (hy:1<=y/\y<=3):Bt 2 (Rat.divInt x y):=by
 obtain ⟨d,rfl⟩ : ∃ d:Nat,y=d:=⟨y.toNat,by omega⟩;rw[Rat.divInt_ofNat];exact Bt.mk (show x.natAbs<=4 by omega) (show d<=4 by omega)
theorem bH {k:Nat} {w:List Rat} {x:Rat} (h:Bs k w) (hx:Bt k x):Bs k (w++[x]):=λ y hy=>by
 rcases List.mem_append.1 hy with hy|hy
 ·exact h y hy
 ·obtain rfl:=List.mem_singleton.1 hy;exact hx
theorem cV (N:bg L) (q:Bool) (l:List Int) (hl:l.length<9223372036854775808) (hv : ∀ v∈l,HA v) (r c:Nat) (hr:r<=16) (hc:c<=16) :
  ∃ m:List (List Rat),m.length=r/\(∀ w∈m,w.length=c)/\Ms 2 m/\Ev L 226 [.sl q (l.map OU),.int .i64 r,.int .i64 c] (.sl false (m.map λ r=>[AV.sl false (r.map eQ)])):=by
 suffices h : ∃ v,Ev L 226 [.sl q (l.map OU),.int .i64 r,.int .i64 c] v /\ ∃ m:List (List Rat),v = .sl false (m.map λ r=>[AV.sl false (r.map eQ)])/\m.length=r/\(∀ w∈m,w.length=c)/\Ms 2 m by
  obtain ⟨v,h1,m,rfl,h2,h3,h4⟩:=h;exact ⟨m,h2,h3,h4,h1⟩
 refine Ev.xE N.LS rfl rfl ?_;refine iY 10 ?_;(conv=>whnf)
 refine QH 8 8 rfl ?_;(repeat' (apply AC<;>conv=>whnf))
 refine F4 (λ_ n _=>r-n) (λ(m:List (List Rat)) (n t:Nat)=>m.length=n/\n<=r/\t<=32*n/\(∀ w∈m,w.length=c)/\Ms 2 m) (λ m n _=>[(9,.int .i64 n),(8,.row 8 0 1 0 n)]) (λ m _ t=>[(8,8,.mx (A8 3 eQ m)),(14,14,.bx [.sl q (l.map OU),.int .i64 (t:Nat)])]) [] 0 0 ⟨rfl,by omega,by omega,by simp,λ_ h=>by cases h⟩ ?_;intro m n t p mh;obtain ⟨p0,p1,p2,p3,p4⟩:=p;by_cases hm:n<r
 ·(repeat' ((first|(apply AG<;>intro hc<;>try omega)|apply AC)<;>conv=>whnf))
  refine F4 (λ_ k _=>c-k) (λ(w:List Rat) (k t:Nat)=>w.length=k/\k<=c/\t<=32*n+2*k/\Bs 2 w) (λ w k _=>[(11,.int .i64 k),(10,.row 10 0 3 0 k)]) (λ w _ t=>[(10,10,.rw 3 (w.map eQ)),(14,14,.bx [.sl q (l.map OU),.int .i64 (t:Nat)])]) [] 0 t ⟨rfl,by omega,by omega,λ_ h=>by cases h⟩ ?_;intro w k u p wh;obtain ⟨p5,p6,p7,p8⟩:=p;by_cases hw:k<c
  ·(repeat' ((first|(apply AG<;>intro hc<;>try omega)|apply AC)<;>conv=>whnf))
   refine E2 1000 N.IC rfl rfl ?_;(repeat' ((first|(apply AG<;>intro hc<;>try omega)|(apply A0;omega)|(apply CE;omega)|apply AW|(refine W9 ?_ (λ_=>rfl) (λ e he => ?_);omega)|apply AC)<;>conv=>whnf))
   ·refine ⟨rfl,_,rfl,?_⟩
    (conv=>whnf)
    (repeat' ((first|(apply CE;omega)|fail)<;>conv=>whnf))
    refine E2 1000 N.IC rfl rfl ?_;(repeat' ((first|(apply AG<;>intro hc<;>try omega)|apply AW|apply AC)<;>conv=>whnf))
    refine ⟨rfl,_,rfl,?_⟩;(conv=>whnf)
    (repeat' ((first|(apply A0;omega)|fail)<;>conv=>whnf))
    have hF:=VD N.tob8 (0-4) (1+0) (by omega) (by omega);have Fv:=bI (x:=0-4) (y:=1+0) (by omega) (by omega);(repeat' ((first|apply FI|refine AE (hF) ?_)<;>conv=>whnf))
    refine FS (enc:=eQ) (Rat.divInt (0-4) (1+0)) rfl p5.symm rfl (by omega) (by omega) ?_;rw[show (w++[Rat.divInt (0-4) (1+0)]).length=k+1 by simp [p5]];(conv=>whnf)
    (repeat' ((first|(apply A0;omega)|fail)<;>conv=>whnf))
    exact BR [(10,34)] (wh (w++[Rat.divInt (0-4) (1+0)]) (k+1) (u) (by omega) ⟨by simp [p5],by omega,by omega,bH p8 Fv⟩)
   ·have h0:=he
    have hM:=YF N e 9 (hv e (zM he)) (by omega);have ni:=Int.emod_nonneg e (show (9:Int)≠0 by omega);have jy:=Int.emod_lt_of_pos e (show (0:Int)<9 by omega);generalize e%9=z at *;(repeat' (refine AE (hM) ?_<;>conv=>whnf))
    refine ⟨rfl,_,rfl,?_⟩;(conv=>whnf)
    (repeat' ((first|(apply CE;omega)|fail)<;>conv=>whnf))
    refine E2 1000 N.IC rfl rfl ?_;(repeat' ((first|(apply AG<;>intro hc<;>try omega)|(apply A0;omega)|(apply CE;omega)|apply AW|(refine W9 ?_ (λ_=>rfl) (λ e he => ?_);omega)|apply AC)<;>conv=>whnf))
    ·refine ⟨rfl,_,rfl,?_⟩
     (conv=>whnf)
     (repeat' ((first|(apply A0;omega)|fail)<;>conv=>whnf))
     have hF:=VD N.tob8 (z-4) (1+0) (by omega) (by omega);have Fv:=bI (x:=z-4) (y:=1+0) (by omega) (by omega);(repeat' ((first|apply FI|refine AE (hF) ?_)<;>conv=>whnf))
     refine FS (enc:=eQ) (Rat.divInt (z-4) (1+0)) rfl p5.symm rfl (by omega) (by omega) ?_;rw[show (w++[Rat.divInt (z-4) (1+0)]).length=k+1 by simp [p5]];(conv=>whnf)
     (repeat' ((first|(apply A0;omega)|fail)<;>conv=>whnf))
     exact BR [(10,34)] (wh (w++[Rat.divInt (z-4) (1+0)]) (k+1) (u+1) (by omega) ⟨by simp [p5],by omega,by omega,bH p8 Fv⟩)
    ·have hM':=YF N e 3 (hv e (zM he)) (by omega)
     have hm3:=Int.emod_nonneg e (show (3:Int)≠0 by omega);have hm4:=Int.emod_lt_of_pos e (show (0:Int)<3 by omega);generalize e%3=y at *;(repeat' (refine AE (hM') ?_<;>conv=>whnf))
     refine ⟨rfl,_,rfl,?_⟩;(conv=>whnf)
     (repeat' ((first|(apply A0;omega)|fail)<;>conv=>whnf))
     have hF:=VD N.tob8 (z-4) (1+y) (by omega) (by omega);have Fv:=bI (x:=z-4) (y:=1+y) (by omega) (by omega);(repeat' ((first|apply FI|refine AE (hF) ?_)<;>conv=>whnf))
     refine FS (enc:=eQ) (Rat.divInt (z-4) (1+y)) rfl p5.symm rfl (by omega) (by omega) ?_;rw[show (w++[Rat.divInt (z-4) (1+y)]).length=k+1 by simp [p5]];(conv=>whnf)
     (repeat' ((first|(apply A0;omega)|fail)<;>conv=>whnf))
     exact BR [(10,34)] (wh (w++[Rat.divInt (z-4) (1+y)]) (k+1) (u+1+1) (by omega) ⟨by simp [p5],by omega,by omega,bH p8 Fv⟩)
  ·obtain rfl:k=c:=by omega
   clear wh;(repeat' ((first|(apply AG<;>intro hc<;>try omega)|apply AC)<;>conv=>whnf))
   refine AU (by rw[List.length_map,p5]) ?_;refine QI (r:=w) (en:=eQ) p0.symm (by omega) (by omega) ?_;rw[show (m++[w]).length=n+1 by simp [p0]];(conv=>whnf)
   (repeat' ((first|(apply A0;omega)|fail)<;>conv=>whnf))
   refine BL [(8,38)] (by (conv=>whnf);exact ⟨rfl,rfl,rfl⟩) (mh (m++[w]) (n+1) u (by omega) ⟨by simp [p0],by omega,by omega,?_,?_⟩)
   ·intro x hx
    rcases List.mem_append.1 hx with hx|hx
    ·exact p3 x hx
    ·obtain rfl:=List.mem_singleton.1 hx;exact p5
   ·intro x hx
    rcases List.mem_append.1 hx with hx|hx
    ·exact p4 x hx
    ·obtain rfl:=List.mem_singleton.1 hx;exact p8
 ·obtain rfl:n=r:=by omega
  clear mh;(repeat' ((first|(apply AG<;>intro hc<;>try omega)|apply AC)<;>conv=>whnf))
  refine ⟨.sl false (m.map λ r=>[AV.sl false (r.map eQ)]),?_,m,rfl,p0,p3,p4⟩;(conv=>whnf)
  refine KH (λ_=>rfl) rfl p0.symm ?_;(conv=>whnf)
  exact AY rfl (lB m)
end Go.g6

namespace Go.g6
variable {L:Lib}
theorem wT {kk:List It} {tm:Tm} {M:Mem} {Q:Tm->Mem->Prop} {k s:Nat} {rows:List (Option (Nat × List (List AV)))} {w:List Nat} (w8:List (Option (Nat × List (List AV)))) (e:c8 M k=some (s,.vw w rows)) (hl:w8.length=w.length)
  (hw : ∀ (i t:Nat),w[i]? = some t -> ∃ r,rows[t]? = some r/\w8[i]? = some r) (hi : ∀ (i i' t:Nat),w[i]? = some t->w[i']? = some t->i=i') (dk:JJ k tm=false) (oc:H1 k M=false)
  (h:AA L kk tm ((k,s,.mx w8)::M) Q):AA L kk tm M Q:=by
 intro σ st hr;obtain ⟨σ',mn⟩:=hr.Dn e hl hw hi dk oc;exact h σ' st mn
theorem WS {kk:List It} {tm:Tm} {M:Mem} {Q:Tm->Mem->Prop} {k s i j:Nat} {rows:List (Option (Nat × List (List AV)))} {a b:Option (Nat × List (List AV))} (e:c8 M k=some (s,.vw (((List.range rows.length).set i j).set j i) rows)) (ha:rows[i]? = some a) (hb:rows[j]? = some b) (dk:JJ k tm=false) (oc:H1 k M=false)
  (h:AA L kk tm ((k,s,.mx ((rows.set i b).set j a))::M) Q):AA L kk tm M Q:=by
 have hi:=(zS ha).1;have hj:=(zS hb).1;have Nn : ∀ p,p<rows.length->(((List.range rows.length).set i j).set j i)[p]? = some (if p=j then i else if p=i then j else p):=λ p hp=>by
  rw[List.getElem?_set,List.getElem?_set,List.length_set,List.length_range];by_cases h1:j=p
  ·subst h1;simp [hp]
  ·rw[if_neg h1,if_neg (Ne.symm h1)]
   by_cases h2:i=p
   ·subst h2;simp [hp]
   ·rw[if_neg h2,if_neg (Ne.symm h2),List.getElem?_range hp]
 have zt : ∀ p t,(((List.range rows.length).set i j).set j i)[p]? = some t->p<rows.length:=λ p t hp=>by
  have:=(zS hp).1
  simpa using this
 refine wT ((rows.set i b).set j a) e (by simp) (λ p t hp => ?_) (λ p p' t hp Gx => ?_) dk oc h
 ·have xf:=zt p t hp
  rw[Nn p xf]at hp;obtain rfl:=Option.some.inj hp;rw[List.getElem?_set,List.getElem?_set,List.length_set];by_cases h1:p=j
  ·subst h1
   exact ⟨a,by rw[if_pos rfl];exact ha,by rw[if_pos rfl,if_pos xf]⟩
  ·rw[if_neg h1,if_neg (Ne.symm h1)]
   by_cases h2:p=i
   ·subst h2
    exact ⟨b,by rw[if_pos rfl];exact hb,by rw[if_pos rfl,if_pos xf]⟩
   ·rw[if_neg h2,if_neg (Ne.symm h2)]
    exact ⟨_,zE xf,zE xf⟩
 ·have xf:=zt p t hp
  have Mg:=zt p' t Gx;rw[Nn p xf]at hp;rw[Nn p' Mg]at Gx;have:=Option.some.inj (hp.trans Gx.symm)
  split at this<;>split at this<;>(try split at this)<;>(try split at this)<;>omega
def KS:BK->Bool
 | .ret=>false
 | .dr c _ _=>KS c
 | .scope c=>KS c
 | .seq a b=>KS a&&KS b
 | .cond _ a b=>KS a&&KS b
 | .block _ c=>KS c
 | .loop c=>KS c
 | _=>true
def KU:It->Bool
 | .code c=>KS c
 | .lp c=>KS c
 | _=>true
theorem VH {id:Nat} {kk:List It} : ∀ {l l':List It},DJ id l=some l'->DJ id (l++kk)=some (l'++kk)
 | [],_,h=>by cases h
 | .g8 i::l,l',h=>by
  simp only[List.cons_append,DJ]at h ⊢;split at h
  ·rename_i e;rw[if_pos e];cases h;rfl
  ·rename_i e;rw[if_neg e];exact VH h
 | .code c::l,l',h=>by
  simp only[List.cons_append,DJ]at h ⊢;exact VH h
 | .ki a b::l,l',h=>by
  simp only[List.cons_append,DJ]at h ⊢;exact VH h
 | .lp c::l,l',h=>by
  simp only[List.cons_append,DJ]at h ⊢;exact VH h
theorem VG {id:Nat} {p:It->Bool} : ∀ {l l':List It},DJ id l=some l'->l.all p=true->l'.all p=true
 | [],_,h,_=>by cases h
 | .g8 i::l,l',h,ha=>by
  simp only[DJ]at h;simp only[List.all_cons,Bool.and_eq_true]at ha;split at h
  ·cases h;exact ha.2
  ·exact VG h ha.2
 | .code c::l,l',h,ha=>by
  simp only[DJ]at h;simp only[List.all_cons,Bool.and_eq_true]at ha;exact VG h ha.2
 | .ki a b::l,l',h,ha=>by
  simp only[DJ]at h;simp only[List.all_cons,Bool.and_eq_true]at ha;exact VG h ha.2
 | .lp c::l,l',h,ha=>by
  simp only[DJ]at h;simp only[List.all_cons,Bool.and_eq_true]at ha;exact VG h ha.2
theorem JC {C:Cl} {kk:List It} {m:Nat} {BA BM:St} (hk:run C m kk BA=some BM) : ∀ (n:Nat) (l:List It) (st:St),l.all KU=true->run C n l st=some BA->run C (n+m) (l++kk) st=some BM
 | 0,_,_,_,h=>by cases h
 | n+1,[],st,_,h=>by
  simp only[run,Option.some.injEq]at h;subst h;exact JE (C:=C) (C':=C) ⟨λ_ _ _ h=>h,λ_ _ _ _ h=>h,rfl⟩ (by omega) hk
 | n+1,.g8 i::l,st,ha,h=>by
  simp only[List.all_cons,Bool.and_eq_true]at ha;rw[show n+1+m=n+m+1 by omega];simp only[List.cons_append,run]at h ⊢;exact JC hk n l st ha.2 h
 | n+1,.ki ts ss::l,st,ha,h=>by
  simp only[List.all_cons,Bool.and_eq_true]at ha;rw[show n+1+m=n+m+1 by omega];simp only[List.cons_append,run]at h ⊢;exact JC hk n l _ ha.2 h
 | n+1,.lp c::l,st,ha,h=>by
  rw[show n+1+m=n+m+1 by omega];simp only[List.cons_append,run]at h ⊢;exact JC hk n (.code c :: .lp c::l) st (by simp only[List.all_cons,KU,Bool.and_eq_true]at ha ⊢;exact ⟨ha.1,ha.1,ha.2⟩) h
 | n+1,.code c::l,st,ha,h=>by
  simp only[List.all_cons,KU,Bool.and_eq_true]at ha;obtain ⟨h1,h2⟩:=ha;rw[show n+1+m=n+m+1 by omega];cases c with
  | ret=>cases h1
  | skip =>
   simp only[List.cons_append,run]at h ⊢;exact JC hk n l st h2 h
  | ops o d =>
   simp only[List.cons_append,run]at h ⊢;cases hs:C4 C o st with
   | none=>rw[hs]at h;cases h
   | some s'=>rw[hs]at h;exact JC hk n l s' h2 h
  | dr c ts ss =>
   simp only[List.cons_append,run]at h ⊢;exact JC hk n (.code c :: .ki ts ss::l) st (by simp only[List.all_cons,KU,Bool.and_eq_true];exact ⟨h1,trivial,h2⟩) h
  | scope c =>
   simp only[List.cons_append,run]at h ⊢;exact JC hk n (.code c::l) st (by simp only[List.all_cons,KU,Bool.and_eq_true];exact ⟨h1,h2⟩) h
  | seq a b =>
   simp only[KS,Bool.and_eq_true]at h1;simp only[List.cons_append,run]at h ⊢;exact JC hk n (.code a :: .code b::l) st (by simp only[List.all_cons,KU,Bool.and_eq_true];exact ⟨h1.1,h1.2,h2⟩) h
  | cond x a b =>
   simp only[KS,Bool.and_eq_true]at h1;simp only[List.cons_append,run]at h ⊢;split at h
   ·exact JC hk n (.code a::l) st (by simp only[List.all_cons,KU,Bool.and_eq_true];exact ⟨h1.1,h2⟩) h
   ·exact JC hk n (.code b::l) st (by simp only[List.all_cons,KU,Bool.and_eq_true];exact ⟨h1.2,h2⟩) h
   ·cases h
  | block i c =>
   simp only[List.cons_append,run]at h ⊢;exact JC hk n (.code c :: .g8 i::l) st (by simp only[List.all_cons,KU,Bool.and_eq_true];exact ⟨h1,trivial,h2⟩) h
  | loop c =>
   simp only[List.cons_append,run]at h ⊢;exact JC hk n (.code c :: .lp c::l) st (by simp only[List.all_cons,KU,Bool.and_eq_true];exact ⟨h1,h1,h2⟩) h
  | exit i =>
   simp only[List.cons_append,run]at h ⊢;cases he:DJ i l with
   | none=>rw[he]at h;cases h
   | some l' =>
    rw[he]at h;rw[VH he];exact JC hk n l' st (VG he h2) h
theorem KB {l kk:List It} {tm:Tm} {M:Mem} {Q:Tm->Mem->Prop} (hn:l.all KU=true) (h:AA L l tm M (λ tm M=>AA L kk tm M Q)):AA L (l++kk) tm M Q:=by
 intro σ st hr;obtain ⟨n,c,BA,h1,σ1,Rl,M1,dc,h2⟩:=h σ st hr;obtain ⟨m,c2,BM,h3,h4⟩:=h2 σ1 BA dc;obtain ⟨c3,g1,g2⟩ : ∃ c3,(CM L c).le (CM L c3)/\(CM L c2).le (CM L c3):=⟨max c c2,E3 (Nat.le_max_left _ _),E3 (Nat.le_max_right _ _)⟩;exact ⟨n+m,c3,BM,JC (JE g2 (Nat.le_refl _) h3) n l st hn (JE g1 (Nat.le_refl _) h1),h4⟩
structure NW (p:Prop):Prop where
 go ::
 out:p
theorem aP {α β γ:Type} {l kk:List It} {tm:Tm} {M:Mem} {Q:Tm->Mem->Prop} (P:α->β->γ->Prop) (vs:α->β->γ->Tm) (Ms:α->β->γ->Mem) (ts:List Nat) (hn:l.all KU=true)
  (hr : ∀ a b c,P a b c->AA L kk (vs a b c++x8 ts tm) (Ms a b c++M) Q)
  (h:(∀ a b c,P a b c->AA L kk (vs a b c++x8 ts tm) (Ms a b c++M) Q)->AA L l tm M (λ tm M=>NW (AA L kk tm M Q))):AA L (l++kk) tm M Q:=by
 refine KB hn ?_;intro σ st hs;obtain ⟨n,c,BA,h1,σ1,Rl,M1,dc,h2⟩:=h hr σ st hs;exact ⟨n,c,BA,h1,σ1,Rl,M1,dc,h2.out⟩
end Go.g6

namespace Go.g6
set_option maxHeartbeats 4000000
end Go.g6

namespace Go.g6
open F
attribute [local irreducible] AA AF AM AD CZ AX A9 BG B8 B6 CT D8 B9 BF B1 CR AB A6 AJ pw BN BH CQ CK C6 C7 CW BV D4
variable {L:Lib}
set_option maxHeartbeats 16000000
abbrev LE (q:Bool) (m:List (List Rat)):List (List AV):=m.map λ r=>[AV.sl q (r.map eQ)]
theorem H2 (m:List (List Rat)) (e:Int):A7 (.g9 [.sl false (eM m),.int .i64 e]):=by
 simp only[A7,CJ,and_true,true_and];exact kY m
theorem nZ (N:e8 L) (n:Nat) (hn:1<=n/\n<=52):Ev L 230 [.int .i64 n] (.g9 [.sl false (eM (DK n)),.int .i64 0]):=by
 have hO:=KM N.toa8 0 (by omega);have hI:=KM N.toa8 1 (by omega);have fm : ∀ i,i<n->(DK n)[i]? = some (FR n i):=λ i hi=>by simp [DK,hi]
 have ct:(DK n).length=n:=by simp [DK]
 generalize hT:DK n=T at *;refine Ev.x N.JO rfl rfl ?_;(repeat' ((first|(apply AG<;>intro hc<;>try omega)|apply AC)<;>conv=>whnf))
 unfold C6;refine ⟨⟨by omega,by omega,by simp only[D5];omega,by omega⟩,?_⟩;rw[Int.toNat_natCast];(conv=>whnf)
 skip
 refine D0 (λ i=>n-i) (λ(i:Nat)=>i<=n) (λ i=>[(17,.int .i64 i)]) (λ i=>[(14,14,.mx (mz T n i))]) [] [] 0 (by first|exact (by (conv=>whnf);exact ⟨rfl,rfl,rfl⟩)|(rw[<-P5 T];exact (by (conv=>whnf);exact ⟨rfl,rfl,rfl⟩))) (by omega) ?_;intro i p1 ih;have Dh:=P3 (Q:=T) p1;by_cases hi:i<n
 ·have m4:=P4 (fm i hi) hi
  generalize mz T n i=R0 at *;(repeat' ((first|(apply AG<;>intro hc<;>try omega)|apply AC)<;>conv=>whnf))
  refine ER (enc:=eO) none n rfl (by omega) (by omega) ?_;(conv=>whnf)
  (repeat' ((first|(apply AU;omega)|fail)<;>conv=>whnf))
  refine AU (by simp) ?_;refine K5 (i:=i) (by omega) (by omega) ?_;(conv=>whnf)
  (repeat' ((first|(apply AU;omega)|fail)<;>conv=>whnf))
  refine I2 (by omega) (by omega) ?_;(conv=>whnf)
  skip
  rw[show (List.map eO (List.replicate n none)).length=n by simp];refine D0 (λ j=>n-j) (λ(j:Nat)=>j<=n) (λ j=>[(30,.int .i64 j)]) (λ j=>[(14,14,.mx (R0.set i (some (3,(DG (List.replicate j 0) n).map eO))))]) [] [] 0 (by first|exact (by (conv=>whnf);exact ⟨rfl,rfl,rfl⟩)|(rw[List.replicate_zero,<-I7];exact (by (conv=>whnf);exact ⟨rfl,rfl,rfl⟩))) (by omega) ?_;intro j r2 jh;have ka:(List.replicate j (0:Rat)).length=j:=by simp
  have Ax:=H6 (l:=List.replicate j (0:Rat)) (m:=n) (by omega);by_cases hj:j<n
  ·have hs:=I8 (l:=List.replicate j (0:Rat)) (m:=n) (x:=((0:Int):Rat)) (by omega)
   rw[ka,show List.replicate j (0:Rat)++[((0:Int):Rat)]=List.replicate (j+1) 0 from List.replicate_succ'.symm]at hs;generalize DG (List.replicate j (0:Rat)) n=W at *;(repeat' ((first|(apply AG<;>intro hc<;>try omega)|(apply AU;omega)|apply AC)<;>conv=>whnf))
   refine I2 (by omega) (by omega) ?_;(conv=>whnf)
   (repeat' (refine AE (hO) ?_<;>conv=>whnf))
   refine AU (by rw[List.length_map];omega) ?_;(conv=>whnf)
   skip
   refine GM (by omega) (by omega) ?_;(conv=>whnf)
   refine FJ (enc:=eO) (some ((0:Int):Rat)) rfl (λ e=>by cases e<;>rfl) (by omega) ?_;(conv=>whnf)
   rw[hs];refine KF (by omega) (by rw[List.length_map,List.length_map,<-hs,List.length_set]) ?_;(conv=>whnf)
   (repeat' ((first|(apply A0;omega)|fail)<;>conv=>whnf))
   exact BR [] (jh (j+1) (by omega) (by omega))
  obtain rfl:j=n:=by omega
  clear jh;rw[I6 (by omega)];(repeat' ((first|(apply AG<;>intro hc<;>try omega)|(apply AU;omega)|apply AC)<;>conv=>whnf))
  refine I2 (by omega) (by omega) ?_;(conv=>whnf)
  (repeat' (refine AE (hI) ?_<;>conv=>whnf))
  refine AU (by rw[List.length_map];omega) ?_;(conv=>whnf)
  skip
  refine GM (by omega) (by omega) ?_;(conv=>whnf)
  refine FJ (enc:=eQ) ((1:Int):Rat) rfl (λ_=>rfl) (by omega) ?_;rw[show (List.replicate j (0:Rat)).set i ((1:Int):Rat)=FR j i from wB j i];(conv=>whnf)
  refine KF (by omega) (by rw[List.length_map,List.length_map,WQ,ka]) ?_;rw[m4];(conv=>whnf)
  (repeat' ((first|(apply A0;omega)|fail)<;>conv=>whnf))
  exact BR [] (ih (i+1) (by omega) (by omega))
 ·obtain rfl:i=n:=by omega
  clear ih;rw[P2 (by omega)];(repeat' ((first|(apply AG<;>intro hc<;>try omega)|apply AC)<;>conv=>whnf))
  refine KH (λ_=>rfl) rfl (by omega) ?_;(conv=>whnf)
  exact AY rfl (H2 T 0)
def cw (n:Nat) (v:List Rat):List (Option Rat):=List.replicate (n-v.length) none++v.map some
theorem lU {n:Nat} {v:List Rat} (h:v.length<=n):(cw n v).length=n:=by simp [cw];omega
theorem Wb (n:Nat):cw n []=List.replicate n none:=by simp [cw]
theorem Vz {n s:Nat} {v:List Rat} {x:Rat} (h:v[s]? = some x):(cw n v)[n-v.length+s]? = some (some x):=by
 rw[cw,List.getElem?_append_right (by simp),List.length_replicate,Nat.add_sub_cancel_left,List.getElem?_map,h];rfl
theorem Wc {n:Nat} {v:List Rat} {x:Rat} (h:v.length<n):(cw n v).set (n-(v.length+1)) (some x)=cw n (x::v):=by
 obtain ⟨k,hk⟩ : ∃ k,n-v.length=k+1:=⟨n-v.length-1,by omega⟩;have e:n-(v.length+1)=k:=by omega
 simp only[cw,hk,List.length_cons,e];rw[List.replicate_succ',List.append_assoc,List.set_append_right _ _ (by simp),List.length_replicate,Nat.sub_self];rfl
theorem Wa {n:Nat} {v:List Rat} (h:v.length=n):(cw n v).map eO=v.map eQ:=by
 simp [cw,h,Function.comp_def]
theorem GH {l:List Rat} {i:Nat} (h:i<l.length):l[i]? = some (l.getD i 0):=by
 rw[List.getD_eq_getElem?_getD,zE h];rfl
theorem Wq (N:e8 L) (q q':Bool) (m:List (List Rat)) (n W c S:Nat) (l:Rat) (hm:m.length=n) (hW : ∀ r∈m,r.length=W) (hn:1<=n/\n<=1000) (hnW:n<=W) (hc:c<W) (ta:W<=100000)
  (hd : ∀ (k:Nat) (r:List Rat),m[k]? = some r->r.getD k 0≠0) (fc:Ms S m) (hl:Bt S l) (hB:DU S n n<2199023255552):Ev L 234 [.sl q (LE q' m),.int .i64 c,.agg (eQ l)] (.sl false ((EW c l m 0).map eQ)):=by
 have hS:S<2199023255552:=by
  have:=kX S n (show 1<=n by omega)
  rw[DU]at this;omega
 refine Ev.x N.LN rfl rfl ?_;(repeat' ((first|apply AW|apply AC)<;>conv=>whnf))
 refine ER (enc:=eO) none n rfl (by omega) (by omega) ?_;(conv=>whnf)
 (repeat' ((first|(apply CE;omega)|apply AW)<;>conv=>whnf))
 rw[hm];refine D0 (λ k=>k) (λ(k:Nat)=>k<=n) (λ k=>[(8,.int .i64 ((k:Int)-1))]) (λ k=>[(13,13,.rw 3 ((cw n (EW c l (m.drop k) k)).map eO))]) [] [] n (by first|exact (by (conv=>whnf);exact ⟨rfl,rfl,rfl⟩)|(rw[List.drop_of_length_le (by omega),EW,Wb];exact (by (conv=>whnf);exact ⟨rfl,rfl,rfl⟩))) (by omega) ?_;intro k p1 kh;rcases k with _|k
 ·clear kh
  rw[List.drop_zero,Wa (by rw[OQ];exact hm)];(repeat' ((first|(apply AG<;>intro hc<;>try omega)|apply AC)<;>conv=>whnf))
  refine GC (enc:=eQ) (λ_=>rfl) rfl (by rw[OQ];omega) ?_;(conv=>whnf)
  exact AY rfl (by simp only[A7,true_and];exact bV _)
 ·obtain ⟨r,hr⟩ : ∃ r,m[k]? = some r:=⟨_,zE (by omega)⟩
  have mn:m[(k:Int).toNat]? = some r:=hr;have cn:=hW r (zM hr);have e1:((k+1:Nat):Int)-1=k:=by omega
  have hv:EW c l (m.drop k) k=(r.getD c 0*l-A5 (r.drop (k+1)) (EW c l (m.drop (k+1)) (k+1)))/r.getD k 0::EW c l (m.drop (k+1)) (k+1):=by
   obtain ⟨h1,h2⟩:=zS hr;rw[List.drop_eq_getElem_cons h1,EW,h2]
  have mc:(EW c l (m.drop (k+1)) (k+1)).length=n-(k+1):=by rw[OQ,List.length_drop,hm]
  have gv:Bs (DU S n (n-(k+1))) (EW c l (m.drop (k+1)) (k+1)):=by
   have:=XL (c:=c) (n:=n) hl (m.drop (k+1)) (k+1) (by rw[List.length_drop];omega) (λ r hr=>fc r (List.mem_of_mem_drop hr))
   rwa [List.length_drop,hm]at this
  have hB2:DU S n (n-(k+1)+1)<=DU S n n:=kX S n (by omega);rw[DU]at hB2;have fe:=fc.at hr;have Ec:r[(c:Int).toNat]? = some (r.getD c 0):=GH (by omega);have te:r[(k:Int).toNat]? = some (r.getD k 0):=GH (by omega);have Mn:=hd k r hr;have bc:=fe.at Ec;have bk:=fe.at te;have hM:=KL N.toa8 bc hl hS hS;generalize je:r.getD c 0=rc at *;generalize Am6:r.getD k 0=rk at *;generalize EW c l (m.drop (k+1)) (k+1)=v at *;generalize DU S n (n-(k+1))=X at *;rw[e1];(repeat' ((first|(apply AG<;>intro hc<;>try omega)|(apply A0;omega)|(refine BD (by assumption) ?_ rfl ?_;omega)|apply AC|refine AE (hM) ?_)<;>conv=>whnf))
  refine GW (λ s _=>n-s) (λ(s:Nat) (acc:Rat)=>k+1+s<=n/\acc=rc*l-A5 ((r.drop (k+1)).take s) (v.take s)) (λ s _=>[(10,.int .i64 ((k+1+s:Nat):Int))]) (λ_ acc=>[(9,9,.bx (eQ acc))]) 0 (rc*l) ⟨by omega,by simp only[List.take_zero,A5];grind⟩ ?_;intro s acc ⟨p2,p3⟩ sh;have bj:Bt (2*S+(n-(k+1))*(S+X+1)+1) acc:=by
   rw[p3];have h1:=mX (k:=S) (l:=X) (a:=(r.drop (k+1)).take s) (b:=v.take s) (n:=n-(k+1)) (λ x hx=>fe x (List.mem_of_mem_drop (List.mem_of_mem_take hx))) (gv.take s) (by rw[List.length_take];omega);exact ((bc.mul hl).rz h1).le (by omega)
  have hmul:=zR (S+X+1) (show n-(k+1)+1<=n by omega);rw[Nat.add_mul,Nat.one_mul]at hmul;have hX:X<2199023255552:=by
   have:=Nat.le_mul_of_pos_left (S+X+1) (show 0<n by omega)
   omega
  by_cases hs:k+1+s<n
  ·obtain ⟨x,hx⟩ : ∃ x,v[s]? = some x:=⟨_,zE (by omega)⟩
   obtain ⟨y,hy⟩ : ∃ y,r[k+1+s]? = some y:=⟨_,zE (by omega)⟩;have Hr:r[((k+1+s:Nat):Int).toNat]? = some y:=hy;have Eh:(r.drop (k+1))[s]? = some y:=by rw[List.getElem?_drop];exact hy
   have nf:=Vz (n:=n) hx;rw[mc,show n-(n-(k+1))+s=k+1+s by omega]at nf;have u9:=lU (n:=n) (v:=v) (by omega);have si:=fe.at hy
   have bx:=gv.at hx;have fi:=KL N.toa8 si bx hS hX
   have yx:=YL N.toaz bj (si.mul bx) (by omega) (by
    have:=Nat.le_mul_of_pos_left (S+X+1) (show 0<n-(k+1) by omega)
    omega)
   have Dw:=cL Eh hx;generalize cw n v=C at *;(repeat' ((first|(apply AG<;>intro hc<;>try omega)|(apply AU;omega)|apply AW|(refine BD (by assumption) ?_ rfl ?_;omega)|apply AC)<;>conv=>whnf))
   refine UD (enc:=eO) (e:=some x) (by rw[Nat.zero_add];exact nf) rfl ?_;(conv=>whnf)
   (repeat' ((first|(apply A0;omega)|refine AE (fi) ?_|refine AE (yx) ?_)<;>conv=>whnf))
   refine BL [] (by (conv=>whnf);exact ⟨rfl,rfl,rfl⟩) (sh (s+1) (acc-y*x) (by omega) ⟨by omega,?_⟩);rw[Dw,p3];grind
  ·obtain rfl:s=n-(k+1):=by omega
   clear sh;have Dw:acc=rc*l-A5 (r.drop (k+1)) v:=by
    rw[p3,KJ,U5 mc,KJ]
   have hD:=Q9 N.toa8 bj bk (by omega) hS Mn;have gk:=Wc (n:=n) (v:=v) (x:=acc/rk) (by omega);rw[mc,show n-(n-(k+1)+1)=k by omega]at gk;have u9:=lU (n:=n) (v:=v) (by omega);rw[<-Dw]at hv;rw[<-hv]at gk;generalize cw n v=C at *;(repeat' ((first|(apply AG<;>intro hc<;>try omega)|(apply AU;omega)|apply AW|(refine BD (by assumption) ?_ rfl ?_;omega)|apply AC|refine AE (hD) ?_)<;>conv=>whnf))
   refine FJ (enc:=eO) (some (acc/rk)) rfl (λ e=>by cases e<;>rfl) (by omega) ?_;(conv=>whnf)
   rw[gk];(repeat' ((first|(apply CE;omega)|fail)<;>conv=>whnf))
   exact BR [] (kh k (by omega) (by omega))
theorem lZ:dg 1=[1]:=by rw[I4 (by decide)];simp [E4]
theorem VC (N:a8 L) {s:Rat} {a l d:Nat} (q:Bool) (hs:Bt a s) (hd:d<=2^l) (ha:a<2199023255552) (hl:l<2199023255552):Ev L 99 [.agg (eQ s),.agg [.bool false,.sl false ((dg d).map AL),.sl q [[.int .u32 1]]]] (.agg (eQ (s*((d:Nat):Rat)))):=by
 have uw:Bt l ((d:Nat):Rat):=⟨by simpa using hd,by simpa using Nat.one_le_two_pow⟩;have e:=GT ((d:Nat):Rat);have h1:=(uw.sm hl).1;have h2:=(uw.sm hl).2;rw[Rat.num_natCast,Rat.den_natCast,Int.natAbs_natCast,show decide ((d:Int)<0)=false by simp,lZ]at e;rw[Rat.num_natCast,Int.natAbs_natCast]at h1;rw[Rat.den_natCast,lZ]at h2;have h:=YK N 68719476736 (by omega) (decide (s.num<0)) false false false false q _ _ (dg d) [1] (hs.sm ha).1 (hs.sm ha).2 h1 h2;rw[GT,e]at h;exact h
theorem aL {N i k:Nat} (hk:k<N) : ∀ t,t∈(List.range N).set i k->t<N:=λ t ht=>by
 rcases List.mem_or_eq_of_mem_set ht with h|h
 ·exact List.mem_range.1 h
 ·omega
theorem I9 {z:Nat} {m:List (List Rat)} {i:Nat} {r:List Rat} (h:m[i]? = some r):(A8 z eQ m)[i]? = some (some (z,r.map eQ)):=by
 rw[A8,List.getElem?_map,h];rfl
theorem fU {z:Nat} {m:List (List Rat)} {i j:Nat} {a b:List Rat}:((A8 z eQ m).set i (some (z,b.map eQ))).set j (some (z,a.map eQ))=A8 z eQ ((m.set i b).set j a):=by
 simp only[A8,List.map_set]
theorem KE {R:List (Option (Nat × List (List AV)))} {e z:Nat} {es:List (List AV)} {K:Nat->List (List AV)->Prop} (h:R[e]? = some (some (z,es))) (hk:K z es):BH R e K:=by
 unfold BH;exact ⟨z,es,h,hk⟩
theorem R3 {α:Type} {l:List α} {i:Nat} {x:α} (h:l[i]? = some x):l.set i x=l:=by
 obtain ⟨h1,rfl⟩:=zS h;exact List.set_getElem_self h1
theorem fI {a b:List Rat} {c:Nat} (hl:a.length=b.length) (h : ∀ j,j<c->a.getD j 0=0/\b.getD j 0=0):a.take c++b.drop c=b:=by
 have e:a.take c=b.take c:=by
  refine List.ext_getElem? λ j => ?_
  rw[List.getElem?_take,List.getElem?_take];by_cases hj:j<c
  ·rw[if_pos hj,if_pos hj]
   obtain ⟨h1,h2⟩:=h j hj;rw[List.getD_eq_getElem?_getD]at h1 h2;by_cases iz:j<a.length
   ·rw[zE iz,zE (by omega)]at *
    simp only[Option.getD_some]at h1 h2;rw[h1,h2]
   ·rw[List.getElem?_eq_none (by omega),List.getElem?_eq_none (by omega)]
  ·rw[if_neg hj,if_neg hj]
 rw[e,List.take_append_drop]
theorem fG {a b:List Rat} {j:Nat} {x:Rat} (hl:a.length=b.length) (hx:b[j]? = some x):(a.take j++b.drop j)[j]? = some x:=by
 have h1:=(zS hx).1;have ht:(a.take j).length=j:=by rw[List.length_take];omega
 rw[List.getElem?_append_right (by omega),ht,Nat.sub_self,List.getElem?_drop];exact hx
theorem fH {a b:List Rat} {j:Nat} {y:Rat} (hl:a.length=b.length) (hy:a[j]? = some y):(a.take j++b.drop j).set j y=a.take (j+1)++b.drop (j+1):=by
 have h1:=(zS hy).1;have ht:(a.take j).length=j:=by rw[List.length_take];omega
 rw[List.set_append_right _ _ (by omega),ht,Nat.sub_self,List.drop_eq_getElem_cons (by omega),List.set_cons_zero,G7 hy,List.append_assoc];rfl
theorem qL : ∀ a:List (List Rat),DI a (List.replicate a.length [])=a
 | []=>rfl
 | r::a=>by
  have:=qL a
  simp only[DI]at this;simp [DI,List.replicate_succ,this]
theorem YD {m0 m a b:List (List Rat)} {K n w c:Nat} {P:List Nat} {odd:Bool} {l:Rat} (hE:EN m0 K (n+w) n m P c odd l) (hs:QU m0 (DI a b)) (hl:a.length=b.length) (ha : ∀ r∈a,r.length=n) (ah:a.length=n) (z9:n<=c\/n<=P.length):P.length=n↔NS n a:=by
 have Lg:C8 m (n+w) n P:=by
  have hc:=hE.cc;rcases z9 with h|h
  ·obtain rfl:c=n:=by omega
   exact hE.o5
  ·have h1:=hE.o5.pl
   have h2:=hE.len;have h3:=hs.1;simp only[DI,List.length_zipWith]at h3;exact hE.o5.wide (by omega) hc
 exact tE Lg (λ X=>(hE.kz X).trans (hs.kz X)) hl ha
end Go.g6
