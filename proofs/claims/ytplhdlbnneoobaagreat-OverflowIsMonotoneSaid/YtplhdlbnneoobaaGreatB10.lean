/-
  Natural numbers (layer 1): greatest common divisors.
-/
import Derived.Test.YtplhdlbnneoobaaGreatB9
import Derived.Test.YtplhdlbnneoobaaGreatB8
import Derived.Test.YtplhdlbnneoobaaGreatB7
import Derived.Test.YtplhdlbnneoobaaGreatB3
import Derived.Test.YtplhdlbnneoobaaGreatB4
import Derived.Test.YtplhdlbnneoobaaGreatB1
import Derived.Test.YtplhdlbnneoobaaGreatB5
import Derived.ProofKit
import Derived.OpenShut
import Derived.ChangeOld
import Derived.WalkKit
import Derived.WideShapes
import Derived.ChangeArms
set_option linter.unusedSimpArgs false
set_option linter.unusedVariables false
set_option linter.unnecessarySimpa false
namespace Go.b7
open F
attribute [local irreducible] AA AF AM AC BT AQ A5 AZ BG A9 BS CN BH AU BI BR AB A1 AJ pw B1 BQ B9 CM CH BF BV BB B5
set_option maxHeartbeats 4000000
variable {L:Lib}
theorem iT {k':IntKind} {a:Int} {K:AV->Prop} (hk:K (.int .i64 (a/4294967296))):AC .shr .i64 a k' 32 K:=by
 refine xK (by omega) ?_;have:pw 32=4294967296:=by decide +kernel
 rw[this];exact hk
theorem iI {t:Int} {K:Int->Prop} (hk:K (UW t:Int)):A0 .u32 t K:=by
 refine ⟨?_⟩;rw[IntKind.wrap_u32,<-aT];exact hk
section
variable {k':IntKind} {a b:Nat} {K:AV->Prop}
theorem xJ {i:Nat} (hi:i<2) (ha:a<4294967296) (hk:K (.int .u64 ((a*4294967296^i:Nat):Int))):AC .shl .u64 (a:Int) k' (32*(i:Int)) K:=by
 rcases i with _|_|i
 ·exact PG (s:=0) (by omega) (by omega) hk
 ·exact PG (s:=32) (by omega) (by omega) hk
 ·omega
end
theorem pI {x y M N:Int} (hx : -M<=x/\x<=M) (hy : -N<=y/\y<=N) : -(M*N)<=x*y/\x*y<=M*N:=by
 have h1:x.natAbs<=M.natAbs:=by omega
 have h2:y.natAbs<=N.natAbs:=by omega
 have h3:=Nat.mul_le_mul h1 h2;rw[<-Int.natAbs_mul,<-Int.natAbs_mul]at h3;have h4:0<=M*N:=Int.mul_nonneg (by omega) (by omega);omega
theorem cC (N:c6 L) (a b:List Nat) (q1 q2:Bool) (hA:A2 a) (hB:A2 b) (la:a.length<=549755813888) (lb:b.length<=549755813888) (h0:val b≠0) :
  Ev L 75 [.sl q1 (a.map AL),.sl q2 (b.map AL)] (.g8 [.sl false ((dg (val a/val b)).map AL),.sl false ((dg (val a%val b)).map AL),.int .i64 0]):=by
 have l1:=ES hA;have l2:=ES hB;have hp:=U1 h0;refine Ev.x N.LT rfl rfl ?_;(repeat' ((first|(apply AG<;>intro hc<;>try (exfalso;omega))|apply AY|apply AE|refine J9 (KO N a _ hA (by omega)) ?_|refine J9 (KO N b _ hB (by omega)) ?_|refine AD (cE N _ _ _ _ h0 (by omega) (by omega)) ?_)<;>conv=>whnf))
 refine AW rfl ?_;simp only[A4,CB,and_true,true_and];exact ⟨C0 _,C0 _⟩
theorem nD (N:c6 L) (V:Nat) (q:Bool) (hl:(dg V).length<=2):Ev L 76 [.sl q ((dg V).map AL)] (.int .u64 (V:Int)):=by
 have hV:=OT.1 hl;have hD:=DT V;have hv:=BP V;refine Ev.x N.L3 rfl rfl ?_;generalize dg V=l at *;(repeat' ((first|apply AY|apply AE)<;>conv=>whnf))
 refine EX (λ i _=>l.length-i) (λ(i:Nat) (a:Nat)=>i<=l.length/\a=val (l.take i)) (λ i a=>[(3,.int .u64 (a:Int)),(8,.int .i64 i)]) (λ_ _=>[]) [] [] 0 0 (by (conv=>whnf);exact ⟨rfl,rfl,rfl⟩) ⟨by omega,rfl⟩ ?_;intro i a ⟨p1,p2⟩ ih;by_cases hi:i<l.length
 ·obtain ⟨d,hd⟩ : ∃ d,l[i]? = some d:=⟨_,zE hi⟩
  have x6:=hD.at hd;have h1:=DX hd;have h2:=E0 (hD.take i);have h3:=E0 (hD.take (i+1));rw[List.length_take,Nat.min_eq_left (by omega)]at h2 h3;have h4:4294967296^(i+1)<=4294967296^2:=Nat.pow_le_pow_right (by omega) (by omega);(repeat' ((first|(apply AG<;>intro hc<;>try (exfalso;omega))|(apply FY;omega)|(apply B7;omega)|(refine BC (by assumption) ?_ rfl ?_;omega)|apply AE)<;>conv=>whnf))
  refine xJ (by omega) x6 ?_;(conv=>whnf)
  rw[Nat.mul_comm d];refine WU (32*i) (by rw[Nat.pow_mul];exact Nat.mul_mod_right _ _) (by rw[Nat.pow_mul,p2];exact h2) (by omega) ?_;(conv=>whnf)
  (repeat' ((first|(apply AR;omega)|fail)<;>conv=>whnf))
  exact BL [] (by (conv=>whnf);exact ⟨rfl,rfl,rfl⟩) (ih (i+1) _ (by omega) ⟨by omega,by rw[h1,p2]⟩)
 ·obtain rfl:i=l.length:=by omega
  clear ih;(repeat' ((first|(apply AG<;>intro hc<;>try (exfalso;omega))|apply AE)<;>conv=>whnf))
  rw[C7 (Nat.le_refl _)]at p2;exact CP (by omega)
theorem ZR {f:Nat} {vs:List AV} {tm:Tm} {M:Mem} {K:AV->Mem->Prop} {v:AV} (h:A1 L f vs tm M (λ r M'=>r=v/\M'=M)) (hk:K v M):A1 L f vs tm M K:=by
 unfold A1 at h ⊢;intro σ own hs;obtain ⟨r,l6,σ',M',h1,h2,h3,rfl,rfl⟩:=h σ own hs;exact ⟨_,l6,σ',_,h1,h2,h3,hk⟩
theorem nC (N:c6 L) (a:List Nat) (q:Bool) (n s:Nat) (hD:A2 a) (hn:3<=n) (hl:a.length<=n) (Hq:n<=549755813888) (hs:s<=31) (k6:val a*2^s<4294967296^n) :
  Ev L 78 [.sl q (a.map AL),.int .i64 (n:Int),.int .u64 (s:Int)] (.int .i64 ((val a/TJ n s:Nat):Int)):=by
 have b1:=QO hD (n-1);have b2:=QO hD (n-2);have b3:=QO hD (n-3);have te:=pP hD hn hl rfl rfl k6;have heq:=pN (s:=s) hD hn hl hs rfl rfl rfl;obtain ⟨f1,f2,f3,f4⟩:=SF (s:=s) b3 (by omega);refine Ev.x N.L0 rfl rfl ?_;(repeat' ((first|(apply A3;omega)|(apply BM;omega)|apply AE)<;>conv=>whnf))
 refine ZR (v := .int .u64 ((a.getD (n-1) 0:Nat):Int)) ?_ ?_
 ·refine GS 1000 N.IR rfl rfl ?_
  (repeat' ((first|(apply AG<;>intro hc<;>try (exfalso;omega))|(apply B7;omega)|apply AY|(refine QB (by assumption) ?_ (λ e he hb => ?_);omega)|apply AE)<;>conv=>whnf))
  ·refine ⟨rfl,_,rfl,?_,rfl⟩
   rw[show ((n:Int)-1).toNat=n-1 by omega]at he;rw[GV he];rfl
  ·refine ⟨rfl,_,rfl,?_,rfl⟩
   rw[<-QP (show a.length<=n-1 by omega)];rfl
 (conv=>whnf)
 (repeat' ((first|(apply A3;omega)|(apply BM;omega)|(apply OK;omega))<;>conv=>whnf))
 refine ZR (v := .int .u64 ((a.getD (n-2) 0:Nat):Int)) ?_ ?_
 ·refine GS 1000 N.IR rfl rfl ?_
  (repeat' ((first|(apply AG<;>intro hc<;>try (exfalso;omega))|(apply B7;omega)|apply AY|(refine QB (by assumption) ?_ (λ e he hb => ?_);omega)|apply AE)<;>conv=>whnf))
  ·refine ⟨rfl,_,rfl,?_,rfl⟩
   rw[show ((n:Int)-2).toNat=n-2 by omega]at he;rw[GV he];rfl
  ·refine ⟨rfl,_,rfl,?_,rfl⟩
   rw[<-QP (show a.length<=n-2 by omega)];rfl
 (conv=>whnf)
 generalize a.getD (n-1) 0=d1 at *;generalize a.getD (n-2) 0=d2 at *;(repeat' ((first|(apply PE;omega)|fail)<;>conv=>whnf))
 refine PG (by omega) te ?_;(conv=>whnf)
 generalize hT:(d1*4294967296+d2)*2^s=T at *;(repeat' ((first|(apply A3;omega)|(apply BM;omega))<;>conv=>whnf))
 refine ZR (v := .int .u64 ((a.getD (n-3) 0:Nat):Int)) ?_ ?_
 ·refine GS 1000 N.IR rfl rfl ?_
  (repeat' ((first|(apply AG<;>intro hc<;>try (exfalso;omega))|(apply B7;omega)|apply AY|(refine QB (by assumption) ?_ (λ e he hb => ?_);omega)|apply AE)<;>conv=>whnf))
  ·refine ⟨rfl,_,rfl,?_,rfl⟩
   rw[show ((n:Int)-3).toNat=n-3 by omega]at he;rw[GV he];rfl
  ·refine ⟨rfl,_,rfl,?_,rfl⟩
   rw[<-QP (show a.length<=n-3 by omega)];rfl
 (conv=>whnf)
 generalize a.getD (n-3) 0=d3 at *;skip
 refine PG (by omega) f4 ?_;(conv=>whnf)
 (repeat' (apply FD<;>conv=>whnf))
 rw[SE]at f2;refine iR s (by rw[<-hT];exact Nat.mul_mod_left _ _) f2 (by have:=YE (k:=d1*4294967296+d2) (show s<=64 by omega) (by omega);omega) ?_;(conv=>whnf)
 (repeat' ((first|apply xG|(apply Q3;omega))<;>conv=>whnf))
 rw[heq];exact CP rfl
theorem Um (N:c6 L) (P Q:Int) (hP:0<=P/\P<=4611686018427387904) (hQ:0<=Q/\Q<=4611686018427387904) : ∃ r,Ev L 79 [.int .i64 P,.int .i64 Q] r /\ ∃ a b c d:Int,(ZV a b c d/\(-2147483647<=a/\a<=2147483647)/\(-2147483647<=b/\b<=2147483647)/\(-2147483647<=c/\c<=2147483647)/\(-2147483647<=d/\d<=2147483647))/\(b≠0->UJ P Q a b c d)/\r = .g8 [.int .i64 a,.int .i64 b,.int .i64 c,.int .i64 d]:=by
 refine Ev.xE N.LX rfl rfl ?_;(repeat' (apply AE<;>conv=>whnf))
 refine vM (λ_ _ _ _ _ q=>(q+2147483648).toNat) (λ(a b c d p q:Int)=>Q8 P Q a b c d p q/\((-2147483647<=a/\a<=2147483647)/\(-2147483647<=b/\b<=2147483647)/\(-2147483647<=c/\c<=2147483647)/\(-2147483647<=d/\d<=2147483647))/\(p<=4611686018427387904/\q<=4611686018427387904)/\SY P Q a b c d/\(b≠0->UJ P Q a b c d)) (λ a b c d p q=>[(0,.int .i64 p),(1,.int .i64 q),(4,.int .i64 a),(5,.int .i64 b),(6,.int .i64 c),(7,.int .i64 d)]) (λ_ _ _ _ _ _=>[]) [] [] 1 0 0 1 P Q (by (conv=>whnf);exact ⟨rfl,rfl,rfl⟩) ⟨Q8.start hP.1 hQ.1,by omega,by omega,SY.start P Q,λ h=>absurd rfl h⟩ ?_;intro a b c d p q ⟨p1,⟨⟨p2,p2'⟩,⟨p3,p3'⟩,⟨p4,p4'⟩,⟨p5,p5'⟩⟩,⟨p6,p7⟩,p8,p9⟩ ih;have g1:=p1.pa;have g2:=p1.pb;have g3:=p1.qc;have g4:=p1.qd;by_cases ep:q+c=0
 ·(repeat' ((first|(apply AG<;>intro hc<;>try (exfalso;omega))|(apply AR;omega)|apply AE)<;>conv=>whnf))
  refine ⟨.g8 [.int .i64 a,.int .i64 b,.int .i64 c,.int .i64 d],?_,a,b,c,d,⟨p1.sg,by omega⟩,p9,rfl⟩;(conv=>whnf)
  exact AW rfl (by simp [A4,CB])
 by_cases tc:q+d=0
 ·(repeat' ((first|(apply AG<;>intro hc<;>try (exfalso;omega))|(apply AR;omega)|apply AE)<;>conv=>whnf))
  refine ⟨.g8 [.int .i64 a,.int .i64 b,.int .i64 c,.int .i64 d],?_,a,b,c,d,⟨p1.sg,by omega⟩,p9,rfl⟩;(conv=>whnf)
  exact AW rfl (by simp [A4,CB])
 by_cases hff:(p+a)/(q+c)=(p+b)/(q+d)
 ·obtain ⟨s1,s2,s3,s4⟩:=p1.step ep tc rfl hff
  have s5:=s4 p8;have s6:=s5.half;have s7:=s1.qc;by_cases du:2147483647<(p+a)/(q+c)
  ·(repeat' ((first|(apply AG<;>intro hc<;>try (exfalso;omega))|(apply AR;omega)|(refine KA ?_ ?_ (λ_ => ?_) (λ_ _ => ?_);omega;omega;all_goals try (exfalso;omega))|apply AE)<;>conv=>whnf))
   refine ⟨.g8 [.int .i64 a,.int .i64 b,.int .i64 c,.int .i64 d],?_,a,b,c,d,⟨p1.sg,by omega⟩,p9,rfl⟩;(conv=>whnf)
   exact AW rfl (by simp [A4,CB])
  ·have t1:=pI (x:=(p+a)/(q+c)) (y:=c) (M:=2147483647) (N:=2147483647) (by omega) (by omega)
   have t2:=pI (x:=(p+a)/(q+c)) (y:=d) (M:=2147483647) (N:=2147483647) (by omega) (by omega);(repeat' ((first|(apply AG<;>intro hc<;>try (exfalso;omega))|(apply AR;omega)|(apply BM;omega)|(apply FY;omega)|(refine KA ?_ ?_ (λ_ => ?_) (λ_ _ => ?_);omega;omega;all_goals try (exfalso;omega))|(apply BT.neg;omega)|apply AE)<;>conv=>whnf))
   all_goals first
    | exact BL [] (by (conv=>whnf);exact ⟨rfl,rfl,rfl⟩) (ih _ _ _ _ _ _ (by omega) ⟨s1,by omega,by omega,s6,λ_=>s5⟩)
    |(refine ⟨.g8 [.int .i64 a,.int .i64 b,.int .i64 c,.int .i64 d],?_,a,b,c,d,⟨p1.sg,by omega⟩,p9,rfl⟩
      (conv=>whnf)
      exact AW rfl (by simp [A4,CB]))
 ·(repeat' ((first|(apply AG<;>intro hc<;>try (exfalso;omega))|(apply AR;omega)|(refine KA ?_ ?_ (λ_ => ?_) (λ_ _ => ?_);omega;omega;all_goals try (exfalso;omega))|apply AE)<;>conv=>whnf))
  refine ⟨.g8 [.int .i64 a,.int .i64 b,.int .i64 c,.int .i64 d],?_,a,b,c,d,⟨p1.sg,by omega⟩,p9,rfl⟩;(conv=>whnf)
  exact AW rfl (by simp [A4,CB])
theorem Un (N:c6 L) (x y:List Nat) (q1 q2:Bool) (f g:Int) (hX:A2 x) (hY:A2 y) (hl:y.length<=x.length) (lx:x.length<=549755813888) (hs:P8 f g) (R:Nat) (hR:(R:Int)=f*val x+g*val y) (hR2:R<=val x) :
  Ev L 80 [.sl q1 (x.map AL),.sl q2 (y.map AL),.int .i64 f,.int .i64 g] (.sl false ((dg R).map AL)):=by
 refine Ev.x N.LY rfl rfl ?_;(repeat' ((first|apply AY|apply AE)<;>conv=>whnf))
 refine DP (enc:=AL) 0 x.length rfl rfl (by omega) ?_;(conv=>whnf)
 (repeat' (apply AY<;>conv=>whnf))
 refine GR (λ i _ _=>x.length-i) (λ(i:Nat) (o:List Nat) (c:Int)=>i<=x.length/\o.length=x.length/\A2 o /\ -2147483648<=c/\c<=2147483648/\(val (o.take i):Int)+((4294967296^i:Nat):Int)*c=f*val (x.take i)+g*val (y.take i)) (λ i o c=>[(10,.int .i64 c),(19,.int .i64 i)]) (λ i o c=>[(16,16,.rw 1 (o.map AL))]) [] [] 0 (List.replicate x.length 0) 0 (by (conv=>whnf);exact ⟨rfl,rfl,rfl⟩) ⟨by omega,by simp,JD _,by omega,by omega,by simp [val]⟩ ?_;intro i o c ⟨p1,p2,p3,p4,p5,p6⟩ ih;by_cases hi:i<x.length
 ·obtain ⟨d,hd⟩ : ∃ d,x[i]? = some d:=⟨_,zE hi⟩
  have x6:=hX.at hd;have h1:=DX hd;by_cases hy:i<y.length
  ·obtain ⟨e,he⟩ : ∃ e,y[i]? = some e:=⟨_,zE hy⟩
   have Hb:=hY.at he;have h2:=DX he;obtain ⟨r1,r2,r3⟩:=hs.Mv x6 Hb;have j9:=kP (d:=d) (e:=e) p6 rfl;(repeat' ((first|(apply AG<;>intro hc<;>try (exfalso;omega))|(apply AR;omega)|(apply FY;omega)|(apply Q3;omega)|apply AY|(refine BC (by assumption) ?_ rfl ?_;omega)|apply AE)<;>conv=>whnf))
   generalize htt:f * ↑d+c+g * ↑e=t at *;refine iI ?_;(conv=>whnf)
   (repeat' ((first|(apply A3;omega)|fail)<;>conv=>whnf))
   refine E7 (by omega) ?_;(conv=>whnf)
   refine iT ?_;(conv=>whnf)
   (repeat' ((first|(apply AR;omega)|fail)<;>conv=>whnf))
   refine BL [] (by (conv=>whnf);exact ⟨rfl,rfl,rfl⟩) (ih (i+1) _ _ (by omega) ⟨by omega,by simpa using p2,p3.set _ (kO t),by omega,by omega,?_⟩);rw[F8 (by omega),h1,h2,Nat.pow_succ];simp only[Int.natCast_add,Int.natCast_mul,aT];exact j9
  ·have h2:=ZJ (y:=y) (i:=i) (by omega)
   obtain ⟨r1,r2,r3⟩:=hs.Mv (e:=0) x6 (by omega);have j9:=kP (d:=d) (e:=0) p6 rfl;rw[Int.mul_zero,Int.add_zero]at j9;have r4 : -9223372030412324865<=f*(d:Int)/\f*(d:Int)<=9223372030412324865:=r1;(repeat' ((first|(apply AG<;>intro hc<;>try (exfalso;omega))|(apply AR;omega)|(apply FY;omega)|(apply Q3;omega)|apply AY|(refine BC (by assumption) ?_ rfl ?_;omega)|apply AE)<;>conv=>whnf))
   generalize htt:f * ↑d+c=t at *;refine iI ?_;(conv=>whnf)
   (repeat' ((first|(apply A3;omega)|fail)<;>conv=>whnf))
   refine E7 (by omega) ?_;(conv=>whnf)
   refine iT ?_;(conv=>whnf)
   (repeat' ((first|(apply AR;omega)|fail)<;>conv=>whnf))
   refine BL [] (by (conv=>whnf);exact ⟨rfl,rfl,rfl⟩) (ih (i+1) _ _ (by omega) ⟨by omega,by simpa using p2,p3.set _ (kO t),by omega,by omega,?_⟩);rw[F8 (by omega),h1,h2,Nat.pow_succ];simp only[Int.natCast_add,Int.natCast_mul,aT];rw[Int.mul_zero,Int.add_zero]at j9;exact j9
 ·obtain rfl:i=x.length:=by omega
  clear ih;rw[C7 (by omega),C7 (Nat.le_refl _),C7 (by omega)]at p6;have Lh:=E0 p3;have hxv:=E0 hX;rw[p2]at Lh;have hVR:val o=R:=by
   have:=Pg Lh p6 (by omega) (by omega)
   omega
  have ch:=ES p3;rw[<-p2,<-hVR];(repeat' ((first|(apply AG<;>intro hc<;>try (exfalso;omega))|apply AE|refine WP N (by assumption) (by omega) rfl (by first|rfl|omega|assumption) ?_)<;>conv=>whnf))
  refine H1 (enc:=AL) (λ_=>rfl) (by omega) ?_;(conv=>whnf)
  refine AW ?_ (by simp only[A4,true_and];exact C0 _);rw[List.drop_zero,WH p3]
theorem Uq (N:c6 L) (X Y:Nat) (ox:Y<=X) (hy:3<=(dg Y).length) (lx:(dg X).length<=549755813888) : ∃ r,Ev L 81 [.sl false ((dg X).map AL),.sl false ((dg Y).map AL)] r /\ ∃ A B:Nat,(B<Y/\B<=A/\A<=X/\Nat.gcd A B=Nat.gcd X Y)/\r = .g8 [.sl false ((dg A).map AL),.sl false ((dg B).map AL)]:=by
 have hY0:Y≠0:=λ h=>by rw[h,EY]at hy;simp at hy
 have sw:X≠0:=by omega
 have hlen:=QI ox;have td:=λ q q'=>cE N X Y q q' hY0 lx (by omega)
 have d1:=DT X;have d2:=DT Y;have v1:=BP X;have v2:=BP Y;obtain ⟨xt,Ja,Jb⟩:=bI sw;have Cz:=d1.at Ja;obtain ⟨b1,b2,b3,b4⟩:=dT Jb Cz;have Ca:=mP N xt Cz;generalize hs:32-n0 xt=s at *;have ah:s<=31:=by omega
 obtain ⟨n1,n2⟩:=dM d1 Ja (by omega) ah b3 b4;have ji:=λ(f g:Int) (R:Nat) (hs:P8 f g) (h1:(R:Int)=f*val (dg X)+g*val (dg Y)) (h2:R<=val (dg X)) (q q':Bool)=>Un N (dg X) (dg Y) q q' f g d1 d2 (by omega) lx hs R h1 h2
 have n3:val (dg Y)*2^s<4294967296^(dg X).length:=Nat.lt_of_le_of_lt (Nat.mul_le_mul_right _ (by omega)) n1;have ch:=λ q=>nC N (dg X) q (dg X).length s d1 (by omega) (by omega) lx ah n1
 have eu:=λ q=>nC N (dg Y) q (dg X).length s d2 (by omega) (by omega) lx ah n3
 have hK:=Yy (dg X).length s;obtain ⟨e1,x1,x2,x3⟩:=pR (V:=X) hK;obtain ⟨e2,y1,y2,y3⟩:=pR (V:=Y) hK;rw[v1]at ch;rw[v2]at eu;have uz:=pQ d1 (n:=(dg X).length) (by omega) (by omega) ah n1;have zs:=pQ d2 (n:=(dg X).length) (by omega) (by omega) ah n3;rw[v1]at uz;rw[v2]at zs;generalize TJ (dg X).length s=K at *;generalize X/K=P at *;generalize Y/K=Q at *;rw[v1,v2]at ji;obtain ⟨rc,zt,a,b,c,d,⟨z1,z2,z3,z4,z5⟩,z6,rfl⟩:=Um N (P:Int) (Q:Int) (by omega) (by omega);have e1:(((dg X).length:Int)-1).toNat=(dg X).length-1:=by omega
 rw[<-e1]at Ja;refine Ev.xE N.L2 rfl rfl ?_;by_cases hb:b=0
 ·(repeat' ((first|(apply AG<;>intro hc<;>try (exfalso;omega))|(apply BM;omega)|(apply B7;omega)|apply AY|(refine BC (by assumption) ?_ rfl ?_;omega)|apply AE|refine AD (Ca) ?_|refine AD (ch _) ?_|refine AD (eu _) ?_|refine AD (zt) ?_|refine AD (td _ _) ?_)<;>conv=>whnf))
  refine ⟨_,?_,Y,X%Y,⟨Nat.mod_lt _ (by omega),Nat.le_of_lt (Nat.mod_lt _ (by omega)),ox,VH X Y⟩,rfl⟩;(conv=>whnf)
  exact AW rfl (UV _ _)
 ·obtain ⟨g1,g2,g3,g4⟩:=z6 hb (X:Int) (Y:Int) (K:Int) _ _ (by omega) x1 y1 x2 x3 y2 y3
  obtain ⟨A,hA⟩:=Int.eq_ofNat_of_zero_le (show 0<=a*X+b*Y by omega);obtain ⟨B,hB⟩:=Int.eq_ofNat_of_zero_le g1;have s1:P8 a b:=by rcases z1 with ⟨h1,h2,h3,h4⟩|⟨h1,h2,h3,h4⟩<;>unfold P8<;>omega
  have s2:P8 c d:=by rcases z1 with ⟨h1,h2,h3,h4⟩|⟨h1,h2,h3,h4⟩<;>unfold P8<;>omega
  (repeat' ((first|(apply AG<;>intro hc<;>try (exfalso;omega))|(apply BM;omega)|(apply B7;omega)|apply AY|(refine BC (by assumption) ?_ rfl ?_;omega)|apply AE|refine AD (Ca) ?_|refine AD (ch _) ?_|refine AD (eu _) ?_|refine AD (zt) ?_|refine AD (ji a b A s1 hA.symm (by omega) _ _) ?_|refine AD (ji c d B s2 hB.symm (by omega) _ _) ?_)<;>conv=>whnf))
  rw[hA,hB]at g4;rw[hA,hB]at g2;refine ⟨_,?_,A,B,⟨by omega,by omega,by omega,by simpa using g4⟩,rfl⟩;(conv=>whnf)
  exact AW rfl (UV _ _)
theorem oQ (N:c6 L) (X Y:Nat) (ox:Y<=X) (lx:(dg X).length<=549755813888) :
 AA L [It.lp GZ.l1,It.c9 0,
   It.code
    ((((BD.ops GZ.r6 false).dr [23,30,31] []).seq
       (BD.cond 32 (((BD.ops GZ.r7 false).dr [5,6,32,33] []).seq BD.ret) BD.skip)).seq
     (((BD.ops GZ.r8 false).dr [5,7,32,34,35,36,37,38,39] []).seq
      (((BD.ops GZ.r9 false).dr [6,8,40,41,42,43] []).seq
       ((BD.block 2 GZ.l2.loop).seq
        (((BD.ops GZ.s8 false).dr [9,10,45,50,51,52,53,54,55,56] []).seq BD.ret)))))]
  [(6,AV.sl false (List.map AL (dg Y))),(5,AV.sl false (List.map AL (dg X)))] []
  (QC GZ (AV.sl false (List.map AL (dg (X.gcd Y))))):=by
 refine EX (λ_ y=>y) (λ(x y:Nat)=>y<=x/\(dg x).length<=549755813888/\Nat.gcd x y=Nat.gcd X Y) (λ x y=>[(6,AV.sl false (List.map AL (dg y))),(5,AV.sl false (List.map AL (dg x)))]) (λ_ _=>[]) [] [] X Y (by (conv=>whnf);exact ⟨rfl,rfl,rfl⟩) ⟨ox,lx,rfl⟩ ?_;intro x y ⟨p1,p2,p3⟩ ih;rw[<-p3]at ih ⊢;generalize Nat.gcd X Y=G at *;clear ox lx;subst p3;have hlen:=QI p1;by_cases h3:3<=(dg y).length
 ·obtain ⟨r,hr,A,B,⟨k1,k2,k3,k4⟩,rfl⟩:=Uq N x y p1 h3 p2
  have k5:=QI k3;(repeat' ((first|(apply AG<;>intro hc<;>try (exfalso;omega))|apply AY|apply AE|refine AD (hr) ?_)<;>conv=>whnf))
  exact BO [] (ih A B k1 ⟨k2,by omega,k4⟩)
 ·clear ih
  by_cases h0:y=0
  ·subst h0
   have pt:(dg 0).length=0:=by rw[EY];rfl
   (repeat' ((first|(apply AG<;>intro hc<;>try (exfalso;omega))|apply AY|apply AE)<;>conv=>whnf))
   rw[Nat.gcd_zero_right];exact AW rfl (by simp only[A4,true_and];exact C0 _)
  ·have hp:=U1 h0
   have hm:=QI (Nat.le_of_lt (Nat.mod_lt x (show y>0 by omega)));have hd:=λ q q'=>cE N x y q q' h0 p2 (by omega)
   have rl:=λ q=>nD N y q (by omega)
   have yj:=λ q=>nD N (x%y) q (by omega)
   have hb:y<18446744073709551616:=OT.1 (show (dg y).length<=2 by omega);have rh:x%y<y:=Nat.mod_lt _ (by omega);rw[<-VH x y];(repeat' ((first|(apply AG<;>intro hc<;>try (exfalso;omega))|apply AY|apply AE|refine AD (hd _ _) ?_|refine AD (rl _) ?_|refine AD (yj _) ?_)<;>conv=>whnf))
   refine EX (λ_ q=>q) (λ(p q:Nat)=>p<18446744073709551616/\q<18446744073709551616/\Nat.gcd p q=Nat.gcd y (x%y)) (λ p q=>[(9,.int .u64 (p:Int)),(10,.int .u64 (q:Int))]) (λ_ _=>[]) [] [] y (x%y) (by (conv=>whnf);exact ⟨rfl,rfl,rfl⟩) ⟨hb,by omega,rfl⟩ ?_;intro p q ⟨g1,g2,g3⟩ ih;rw[<-g3]at ih ⊢;by_cases hq:q=0
   ·subst hq
    clear ih;obtain ⟨v1,v2⟩:=bF g1;rw[Nat.gcd_zero_right];have ch:=ES v2;have ht:=WH v2;rw[v1]at ch ht;(repeat' ((first|(apply AG<;>intro hc<;>try (exfalso;omega))|apply FD|(apply D8;omega)|apply FW|apply AE)<;>conv=>whnf))
    generalize p%4294967296=lo at *;generalize p/4294967296=hi at *;refine WP N v2 (by simp) rfl rfl ?_;rw[v1];(conv=>whnf)
    skip
    refine H1 (enc:=AL) (l:=[lo,hi]) (λ_=>rfl) (by omega) ?_;(conv=>whnf)
    refine AW ?_ (by simp only[A4,true_and];exact C0 _);rw[List.drop_zero,ht]
   ·have hpq:p%q<q:=Nat.mod_lt _ (by omega)
    (repeat' ((first|(apply AG<;>intro hc<;>try (exfalso;omega))|(apply UK;omega)|apply AE)<;>conv=>whnf))
    exact BO [] (ih q (p%q) hpq ⟨g2,by omega,VH p q⟩)
theorem Ul (N:c6 L) (a b:List Nat) (q1 q2:Bool) (hA:A2 a) (hB:A2 b) (la:a.length<=549755813888) (lb:b.length<=549755813888) :
  Ev L 82 [.sl q1 (a.map AL),.sl q2 (b.map AL)] (.sl false ((dg (Nat.gcd (val a) (val b))).map AL)):=by
 have t1:=λ q=>U5 N a q hA (by omega)
 have t2:=λ q=>U5 N b q hB (by omega)
 have l1:=ES hA;have l2:=ES hB;have k9:=λ q q'=>PS N (dg (val a)) (dg (val b)) q q' (DT _) (DT _) (by omega) (by omega)
 rw[BP,BP]at k9;generalize val a=X at *;generalize val b=Y at *;refine Ev.x N.GZ rfl rfl ?_;by_cases k6:X<Y
 ·have hn:C5 X Y = -1:=(IL (by omega)).symm
  rw[hn]at k9;(repeat' ((first|(apply AG<;>intro hc<;>try (exfalso;omega))|apply AE|refine AD (t1 _) ?_|refine AD (t2 _) ?_|refine AD (k9 _ _) ?_)<;>conv=>whnf))
  rw[Nat.gcd_comm];exact BL [] (by (conv=>whnf);exact ⟨rfl,rfl,rfl⟩) (oQ N Y X (by omega) (by omega))
 ·have jl:0<=C5 X Y:=by unfold C5;split<;>(try split)<;>omega
  generalize C5 X Y=cm at *;(repeat' ((first|(apply AG<;>intro hc<;>try (exfalso;omega))|apply AE|refine AD (t1 _) ?_|refine AD (t2 _) ?_|refine AD (k9 _ _) ?_)<;>conv=>whnf))
  exact BL [] (by (conv=>whnf);exact ⟨rfl,rfl,rfl⟩) (oQ N X Y (by omega) (by omega))
end Go.b7
namespace Go.b7
open F
attribute [local irreducible] AA AF AM AC BT AQ A5 AZ BG A9 BS CN BH AU BI BR AB A1 AJ pw B1 BQ B9 CM CH BF BV BB B5
variable {L:Lib}
set_option maxHeartbeats 8000000
theorem wV {k:Nat} {K:Int->Prop} (h:0<k/\k<=9223372036854775808) (hk:K ((18446744073709551616-k:Nat):Int)):A0 .u64 (-(k:Int)) K:=by
 refine ⟨?_⟩;have e:IntKind.u64.wrap (-(k:Int))=((18446744073709551616-k:Nat):Int):=by
  simp [IntKind.wrap,IntKind.bits,IntKind.signed];omega
 rw[e];exact hk
theorem BT.De {k:Nat} {K:AV->Prop} (h:0<k/\k<=9223372036854775808) (hk:K (.int .u64 (k:Int))):BT .neg .u64 ((18446744073709551616-k:Nat):Int) K:=by
 refine BT.go (v := .int .u64 (IntKind.u64.wrap (0-((18446744073709551616-k:Nat):Int)))) rfl ?_;have e:IntKind.u64.wrap (0-((18446744073709551616-k:Nat):Int))=(k:Int):=by
  simp [IntKind.wrap,IntKind.bits,IntKind.signed];omega
 rw[e];exact hk
theorem cB (N:a6 L) (z:Int) (hz : -9223372036854775808<=z/\z<=9223372036854775807):Ev L 85 [.int .i64 z] (.agg (eZ z)):=by
 have two : ∀ k:Nat,k<18446744073709551616 -> ∀ q,Ev L 66 [.sl q [[.int .u32 ((k%4294967296:Nat):Int)],[.int .u32 ((k/4294967296:Nat):Int)]]] (.sl false ((dg k).map AL)):=λ k hk q=>by
  have:=U5 N.toc6 [k%4294967296,k/4294967296] q (bF hk).2 (by simp)
  rw[uY hk]at this;exact this
 refine Ev.x N.LF rfl rfl ?_;by_cases h0:0<=z
 ·obtain ⟨k,rfl⟩:=Int.eq_ofNat_of_zero_le h0
  have hT:=two k (by omega);have z1:=IO k;(repeat' ((first|(apply AG<;>intro hc<;>try (exfalso;omega))|apply FD|(apply B7;omega)|(apply D8;omega)|apply FW|refine I9 rfl rfl ?_|apply AE)<;>conv=>whnf))
  generalize k%4294967296=lo at *;generalize k/4294967296=hi at *;(repeat' (refine AD (hT _) ?_<;>conv=>whnf))
  refine FC 1000 N.DD rfl rfl ?_;(repeat' (apply AE<;>conv=>whnf))
  all_goals (refine ⟨rfl,?_⟩;(conv=>whnf);skip)
  exact AW (EK (by omega) (GO (by omega))) (DI _)
 ·obtain ⟨k,hk⟩:=Int.eq_ofNat_of_zero_le (show 0 <= -z by omega)
  obtain rfl:z = -(k:Int):=by omega
  have hT:=two k (by omega);have z1:=IO k;(repeat' (apply AE<;>conv=>whnf))
  refine wV (by omega) ?_;(conv=>whnf)
  (repeat' ((first|(apply AG<;>intro hc<;>try (exfalso;omega))|fail)<;>conv=>whnf))
  refine BT.De (by omega) ?_;(conv=>whnf)
  (repeat' ((first|(apply AG<;>intro hc<;>try (exfalso;omega))|apply FD|(apply D8;omega)|apply FW|refine I9 rfl rfl ?_)<;>conv=>whnf))
  generalize k%4294967296=lo at *;generalize k/4294967296=hi at *;(repeat' (refine AD (hT _) ?_<;>conv=>whnf))
  refine FC 1000 N.DD rfl rfl ?_;(repeat' ((first|(apply AG<;>intro hc<;>try (exfalso;omega))|apply AY|apply AE)<;>conv=>whnf))
  all_goals (refine ⟨rfl,?_⟩;(conv=>whnf);skip)
  exact AW (EK (by omega) (N3 (by omega))) (DI _)
theorem mW (N:a6 L) (n q:Bool) (m:List Nat) (hm:Sm 549755813888 m):Ev L 84 [.agg (rZ q n m)] (.agg (eZ (zv n m))):=by
 have hT:=λ q=>U5 N.toc6 m q hm.1 (by have:=hm.2;omega)
 have hz:=IO (val m);have ha:=EW n m;refine Ev.x N.LH rfl rfl ?_;cases n
 ·rw[G3]at *
  (repeat' ((first|apply AE|refine AD (hT _) ?_)<;>conv=>whnf))
  refine FC 1000 N.DD rfl rfl ?_;(repeat' (apply AE<;>conv=>whnf))
  all_goals (refine ⟨rfl,?_⟩;(conv=>whnf);skip)
  exact AW (EK ha.symm (GO (by omega))) (DI _)
 ·rw[PB]at *
  (repeat' ((first|apply AE|refine AD (hT _) ?_)<;>conv=>whnf))
  refine FC 1000 N.DD rfl rfl ?_;(repeat' ((first|(apply AG<;>intro hc<;>try (exfalso;omega))|apply AY|apply AE)<;>conv=>whnf))
  all_goals (refine ⟨rfl,?_⟩;(conv=>whnf);skip)
  ·exact AW (EK ha.symm (N3 (by omega))) (DI _)
  ·exact AW (EK ha.symm (GO (by omega))) (DI _)
theorem XW (N:a6 L) (n q:Bool) (m:List Nat) (hm:Sm 549755813888 m):Ev L 86 [.agg (rZ q n m)] (.int .i64 (q9 (zv n m))):=by
 have k9:=λ q q'=>PS N.toc6 m [] q q' hm.1 S9 (by have:=hm.2;omega) (by simp)
 rw[I7]at k9;refine Ev.x N.LG rfl rfl ?_;by_cases h0:val m=0
 ·have hn:C5 (val m) (0:Nat)=0:=(RH (by omega)).symm
  rw[hn]at k9;(repeat' ((first|(apply AG<;>intro hc<;>try (exfalso;omega))|apply AE|refine AD (k9 _ _) ?_)<;>conv=>whnf))
  exact CP (Y4 (by have:=EW n m;omega))
 ·have hn:C5 (val m) (0:Nat)=1:=(OS (by omega)).symm
  rw[hn]at k9;cases n
  ·(repeat' ((first|(apply AG<;>intro hc<;>try (exfalso;omega))|apply AE|refine AD (k9 _ _) ?_)<;>conv=>whnf))
   exact CP (gA (by rw[G3];omega))
  ·(repeat' ((first|(apply AG<;>intro hc<;>try (exfalso;omega))|apply AE|refine AD (k9 _ _) ?_)<;>conv=>whnf))
   exact CP (fZ (by rw[PB];omega))
theorem mU (N:a6 L) (n1 n2 q1 q2:Bool) (a b:List Nat) (ha:Sm 549755813888 a) (hb:Sm 549755813888 b):Ev L 87 [.agg (rZ q1 n1 a),.agg (rZ q2 n2 b)] (.agg (eZ (zv n1 a+zv n2 b))):=by
 have la:=ha.2;have lb:=hb.2;have h1:=λ q q'=>Uk N.toc6 a b q q' ha.1 hb.1 (by omega) (by omega)
 have h2:=λ q q'=>nB N.toc6 a b q q' ha.1 hb.1 (by omega) (by omega)
 have h3:=λ q q'=>nB N.toc6 b a q q' hb.1 ha.1 (by omega) (by omega)
 have k9:=λ q q'=>PS N.toc6 a b q q' ha.1 hb.1 (by omega) (by omega)
 have z1:=IO (val a+val b);have z2:=IO (val a-val b);have z3:=IO (val b-val a);refine Ev.x N.LC rfl rfl ?_;by_cases k6:val a<val b
 ·have hn:C5 (val a) (val b) = -1:=(IL (by omega)).symm
  rw[hn]at k9;cases n1<;>cases n2<;>simp only[G3,PB]
  ·(repeat' ((first|apply AE|refine AD (h1 _ _) ?_)<;>conv=>whnf))
   refine FC 1000 N.DD rfl rfl ?_;(repeat' (apply AE<;>conv=>whnf))
   all_goals (refine ⟨rfl,?_⟩;(conv=>whnf);skip)
   exact AW (EK (by omega) (GO (by omega))) (DI _)
  ·(repeat' ((first|(apply AG<;>intro hc<;>try (exfalso;omega))|apply AE|refine AD (h3 _ _) ?_|refine AD (k9 _ _) ?_)<;>conv=>whnf))
   refine FC 1000 N.DD rfl rfl ?_;(repeat' ((first|(apply AG<;>intro hc<;>try (exfalso;omega))|apply AY|apply AE)<;>conv=>whnf))
   all_goals (refine ⟨rfl,?_⟩;(conv=>whnf);skip)
   ·exact AW (EK (by omega) (N3 (by omega))) (DI _)
  ·(repeat' ((first|(apply AG<;>intro hc<;>try (exfalso;omega))|apply AE|refine AD (h3 _ _) ?_|refine AD (k9 _ _) ?_)<;>conv=>whnf))
   refine FC 1000 N.DD rfl rfl ?_;(repeat' (apply AE<;>conv=>whnf))
   all_goals (refine ⟨rfl,?_⟩;(conv=>whnf);skip)
   ·exact AW (EK (by omega) (GO (by omega))) (DI _)
  ·(repeat' ((first|apply AE|refine AD (h1 _ _) ?_)<;>conv=>whnf))
   refine FC 1000 N.DD rfl rfl ?_;(repeat' ((first|(apply AG<;>intro hc<;>try (exfalso;omega))|apply AY|apply AE)<;>conv=>whnf))
   all_goals (refine ⟨rfl,?_⟩;(conv=>whnf);skip)
   ·exact AW (EK (by omega) (N3 (by omega))) (DI _)
 ·have hn:C5 (val a) (val b) ≠ -1:=by unfold C5;split<;>(try split)<;>omega
  generalize C5 (val a) (val b)=cm at *;cases n1<;>cases n2<;>simp only[G3,PB]
  ·(repeat' ((first|apply AE|refine AD (h1 _ _) ?_)<;>conv=>whnf))
   refine FC 1000 N.DD rfl rfl ?_;(repeat' (apply AE<;>conv=>whnf))
   all_goals (refine ⟨rfl,?_⟩;(conv=>whnf);skip)
   exact AW (EK (by omega) (GO (by omega))) (DI _)
  ·(repeat' ((first|(apply AG<;>intro hc<;>try (exfalso;omega))|apply AE|refine AD (h2 _ _) ?_|refine AD (k9 _ _) ?_)<;>conv=>whnf))
   refine FC 1000 N.DD rfl rfl ?_;(repeat' (apply AE<;>conv=>whnf))
   all_goals (refine ⟨rfl,?_⟩;(conv=>whnf);skip)
   exact AW (EK (by omega) (GO (by omega))) (DI _)
  ·(repeat' ((first|(apply AG<;>intro hc<;>try (exfalso;omega))|apply AE|refine AD (h2 _ _) ?_|refine AD (k9 _ _) ?_)<;>conv=>whnf))
   refine FC 1000 N.DD rfl rfl ?_;(repeat' ((first|(apply AG<;>intro hc<;>try (exfalso;omega))|apply AY|apply AE)<;>conv=>whnf))
   all_goals (refine ⟨rfl,?_⟩;(conv=>whnf);skip)
   ·exact AW (EK (by omega) (N3 (by omega))) (DI _)
   ·exact AW (EK (by omega) (GO (by omega))) (DI _)
  ·(repeat' ((first|apply AE|refine AD (h1 _ _) ?_)<;>conv=>whnf))
   refine FC 1000 N.DD rfl rfl ?_;(repeat' ((first|(apply AG<;>intro hc<;>try (exfalso;omega))|apply AY|apply AE)<;>conv=>whnf))
   all_goals (refine ⟨rfl,?_⟩;(conv=>whnf);skip)
   ·exact AW (EK (by omega) (N3 (by omega))) (DI _)
   ·exact AW (EK (by omega) (GO (by omega))) (DI _)
theorem RP (N:a6 L) (n1 n2 q1 q2:Bool) (a b:List Nat) (ha:A2 a) (hb:A2 b) (hl:a.length+b.length<=1099511627776):Ev L 88 [.agg (rZ q1 n1 a),.agg (rZ q2 n2 b)] (.agg (eZ (zv n1 a*zv n2 b))):=by
 have h1:=λ q q'=>cD N.toc6 a b q q' ha hb hl
 have z1:=IO (val a*val b);have Gm:(zv n1 a*zv n2 b).natAbs=val a*val b:=by rw[Int.natAbs_mul,EW,EW]
 refine Ev.x N.LE rfl rfl ?_;have e:zv n1 a*zv n2 b=bif n1 == n2 then ((val a*val b:Nat):Int) else -((val a*val b:Nat):Int):=by
  cases n1<;>cases n2<;>simp [G3,PB,Int.mul_neg,Int.neg_mul]
 rw[e]at Gm ⊢;generalize val a*val b=V at *;cases n1<;>cases n2<;>simp only[beq_self_eq_true,cond_true,show (false == true)=false from rfl,show (true == false)=false from rfl,cond_false]
 ·(repeat' ((first|apply AE|refine AD (h1 _ _) ?_)<;>conv=>whnf))
  refine FC 1000 N.DD rfl rfl ?_;(repeat' (apply AE<;>conv=>whnf))
  all_goals (refine ⟨rfl,?_⟩;(conv=>whnf);skip)
  exact AW (EK (by omega) (GO (by omega))) (DI _)
 ·(repeat' ((first|apply AE|refine AD (h1 _ _) ?_)<;>conv=>whnf))
  refine FC 1000 N.DD rfl rfl ?_;(repeat' ((first|(apply AG<;>intro hc<;>try (exfalso;omega))|apply AY|apply AE)<;>conv=>whnf))
  all_goals (refine ⟨rfl,?_⟩;(conv=>whnf);skip)
  ·exact AW (EK (by omega) (N3 (by omega))) (DI _)
  ·exact AW (EK (by omega) (GO (by omega))) (DI _)
 ·(repeat' ((first|apply AE|refine AD (h1 _ _) ?_)<;>conv=>whnf))
  refine FC 1000 N.DD rfl rfl ?_;(repeat' ((first|(apply AG<;>intro hc<;>try (exfalso;omega))|apply AY|apply AE)<;>conv=>whnf))
  all_goals (refine ⟨rfl,?_⟩;(conv=>whnf);skip)
  ·exact AW (EK (by omega) (N3 (by omega))) (DI _)
  ·exact AW (EK (by omega) (GO (by omega))) (DI _)
 ·(repeat' ((first|apply AE|refine AD (h1 _ _) ?_)<;>conv=>whnf))
  refine FC 1000 N.DD rfl rfl ?_;(repeat' (apply AE<;>conv=>whnf))
  all_goals (refine ⟨rfl,?_⟩;(conv=>whnf);skip)
  exact AW (EK (by omega) (GO (by omega))) (DI _)
theorem bH:dg 1=[1]:=by rw[JC (by omega)];simp [EY]
theorem Ue (N:a6 L) (V:Nat) (q:Bool):Ev L 90 [.sl q ((dg V).map AL)] (.bool (decide (V=1))):=by
 have hv:=BP V;have hD:=DT V;have h1:V=1->dg V=[1]:=λ h=>by rw[h,bH]
 generalize dg V=l at *;refine Ev.x N.M8 rfl rfl ?_;by_cases hl:l.length=1
 ·obtain ⟨d,rfl⟩:=List.length_eq_one_iff.1 hl
  have e:V=d:=by rw[<-hv];simp [val]
  subst e;have hd:[V][(0:Int).toNat]? = some V:=rfl;(repeat' ((first|(apply AG<;>intro hc<;>try (exfalso;omega))|apply AY|(refine BC (by assumption) ?_ rfl ?_;omega)|apply AE)<;>conv=>whnf))
  ·exact SW (by omega)
  ·exact Q6 (by omega)
 ·(repeat' ((first|(apply AG<;>intro hc<;>try (exfalso;omega))|apply AY|apply AE)<;>conv=>whnf))
  exact Q6 (λ h=>by rw[h1 h]at hl;simp at hl)
theorem TD (N:a6 L) (n q1 q2:Bool) (m d:List Nat) (hm:Sm 549755813888 m) (hd:Sm 549755813888 d) (h0:val d≠0):Ev L 94 [.agg (rQ q1 q2 n m d)] (.agg (eQ (qv n m d))):=by
 have yx:=λ q q'=>cC N.toc6 m d q q' hm.1 hd.1 hm.2 hd.2 h0
 have Ez:=EW n m;have sq:Sm 549755813888 (dg (val m/val d)):=hm.low (Nat.div_le_self _ _);have sr:Sm 549755813888 (dg (val m%val d)):=hd.low (Nat.le_of_lt (Nat.mod_lt _ (by omega)));have hT:=λ q=>mW N n q _ sq
 have hG:=λ q q'=>Ul N.toc6 d (dg (val m%val d)) q q' hd.1 sr.1 hd.2 sr.2
 rw[BP,show Nat.gcd (val d) (val m%val d)=Nat.gcd (val d) (zv n m).natAbs by rw[Ez,VH,Nat.gcd_comm]]at hG;have Hi:=oR (zv n m).natAbs h0;have zk:=Nat.gcd_le_left (zv n m).natAbs (show 0<val d by omega);have hz:=IO (val m%val d);obtain ⟨e1,e2,e3⟩:=dZ (z:=zv n m) h0;unfold qv;generalize hGG:Nat.gcd (val d) (zv n m).natAbs=g at *;have h1:=λ q=>Ue N g q
 refine Ev.x N.NA rfl rfl ?_;by_cases lq:val m%val d=0
 ·(repeat' ((first|(apply AG<;>intro hc<;>try (exfalso;omega))|apply AY|apply AE|refine AD (yx _ _) ?_|refine AD (hT _) ?_)<;>conv=>whnf))
  refine FC 1000 N.HU rfl rfl ?_;(repeat' (apply AE<;>conv=>whnf))
  refine ⟨rfl,?_⟩;(conv=>whnf)
  (repeat' (refine FF rfl ?_<;>conv=>whnf))
  have jl:g=val d:=by
   rw[<-hGG,Ez];exact Nat.gcd_eq_left (Nat.dvd_of_mod_eq_zero lq)
  have hv:=BP (val m/val d);refine AW ?_ ?_
  ·show _=AV.agg (rQ _ _ _ _ _)
   rw[e1,e2,e3,Ez,jl,Nat.div_self (by omega),EW,hv,bH];have hs:decide (zv n (dg (val m/val d))<0)=decide (zv n m<0):=by
    cases n
    ·rw[G3,G3];simp;omega
    ·rw[PB,PB,hv]
     congr 1;rw[eq_iff_iff];have h5:=Nat.div_add_mod (val m) (val d);rw[lq,Nat.add_zero]at h5;constructor
     ·intro h6
      have h7:val m/val d≠0:=by omega
      have:val m≠0:=λ h8=>h7 (by rw[h8,Nat.zero_div])
      omega
     ·intro h6
      have h7:val m/val d≠0:=λ h8=>by rw[h8,Nat.mul_zero]at h5;omega
      omega
   rw[hs];rfl
  ·exact DH _
 ·by_cases xp:g=1
  ·have hT1:=λ q=>mW N n q m hm
   have Dr:=λ q=>U5 N.toc6 d q hd.1 (by have:=hd.2;omega)
   (repeat' ((first|(apply AG<;>intro hc<;>try (exfalso;omega))|apply AY|apply AE|refine AD (yx _ _) ?_|refine AD (hG _ _) ?_|refine F9 (h1 _) (λ hf => ?_) (λ hf => ?_)|refine AD (hT1 _) ?_|refine AD (Dr _) ?_)<;>conv=>whnf))
   ·refine AW ?_ (XA _ _ _)
    show _=AV.agg (rQ _ _ _ _ _);rw[e1,e2,e3,xp,Nat.div_one,Nat.div_one]
   ·exact absurd xp hf
  ·have sg:Sm 549755813888 (dg g):=hd.low zk
   have nf:=λ q q'=>cC N.toc6 m (dg g) q q' hm.1 sg.1 hm.2 sg.2 (by rw[BP];omega)
   have ng:=λ q q'=>cC N.toc6 d (dg g) q q' hd.1 sg.1 hd.2 sg.2 (by rw[BP];omega)
   rw[BP]at nf ng;(repeat' ((first|(apply AG<;>intro hc<;>try (exfalso;omega))|apply AY|apply AE|refine AD (yx _ _) ?_|refine AD (hG _ _) ?_|refine F9 (h1 _) (λ hf => ?_) (λ hf => ?_)|refine AD (nf _ _) ?_|refine AD (ng _ _) ?_)<;>conv=>whnf))
   ·exact absurd hf xp
   ·refine AW ?_ (XA _ _ _)
    show _=AV.agg (rQ _ _ _ _ _);rw[e1,e2,e3,Ez];have hs:n=decide (zv n m<0):=by
     have:val m≠0:=λ h=>lq (by rw[h,Nat.zero_mod])
     cases n
     ·exact GO (by rw[G3];omega)
     ·exact N3 (by rw[PB];omega)
    rw[<-hs]
theorem TE (N:a6 L) (m:List Nat):Ev L 91 [.sl false (m.map AL)] (.agg [.bool false,.sl false (m.map AL)]):=by
 refine Ev.x N.M9 rfl rfl ?_;(repeat' (apply AE<;>conv=>whnf))
 exact AW rfl (Ow _ _)
def xN (n:Bool) (m d:List Nat) (n':Bool) (m' d':List Nat) (w:Bool) (k:Nat):Prop:=Sm k m'/\Sm k d'/\val d'≠0/\(w=true->val d'=1)/\qv n m d=mkRat (zv n' m') (val d')
theorem OV (N:a6 L) (n:Bool) (m d:List Nat) (k:Nat) (hk:1<=k/\k<=549755813888) (hm:Sm k m) (hd:Sm k d) : ∃ n' m' d' w,Ev L 89 [.agg (rQ false false n m d)] (.agg [.bool n',.sl false (m'.map AL),.sl false (d'.map AL),.bool w])/\xN n m d n' m' d' w k:=by
 have k9:=λ q q'=>PS N.toc6 d [] q q' hd.1 S9 (by have:=hd.2;omega) (by simp)
 rw[I7]at k9;by_cases h1:d=[1]
 ·subst h1
  refine ⟨n,m,[1],true,?_,hm,hd,by decide,λ_=>rfl,rfl⟩;refine Ev.x N.IY rfl rfl ?_;have hd:[1][(0:Int).toNat]? = some 1:=rfl;have pz:([1]:List Nat).length=1:=rfl;(repeat' ((first|(apply AG<;>intro hc<;>try (exfalso;omega))|apply AY|(refine BC (by assumption) ?_ rfl ?_;omega)|apply AE)<;>conv=>whnf))
  exact AW rfl (UU _ _ _ _)
 have l9 : ∀ x,d[(0:Int).toNat]? = some x->(d.length:Int)=1->(x:Int)≠1:=λ x hx hl h=>by
  obtain ⟨y,rfl⟩:=List.length_eq_one_iff.1 (show d.length=1 by omega);simp at hx;apply h1;congr 1;omega
 by_cases h0:val d=0
 ·refine ⟨false,[],[1],true,?_,tC _,gD hk.1 (by omega),by decide,λ_=>rfl,by unfold qv;rw[h0,Rat.mkRat_zero,vJ,Rat.zero_mkRat]⟩
  have hn:C5 (val d) (0:Nat)=0:=(RH (by omega)).symm;rw[hn]at k9;refine Ev.x N.IY rfl rfl ?_;have hD:=hd.1;(repeat' ((first|(apply AG<;>intro hc<;>try (exfalso;omega))|apply AY|(refine QB (by assumption) ?_ (λ e he hb => ?_);omega)|refine FF rfl ?_|apply AE|refine AD (k9 _ _) ?_)<;>conv=>whnf))
  all_goals first
   | exact AW rfl (UU _ _ _ _)
   | exact AW rfl (UU false true [] [1])
   | exact absurd (by assumption) (l9 _ he (by assumption))
 ·refine ⟨n,m,d,false,?_,hm,hd,h0,(λ h=>by cases h),rfl⟩
  have hn:C5 (val d) (0:Nat)=1:=(OS (by omega)).symm;rw[hn]at k9;have hD:=hd.1;refine Ev.x N.IY rfl rfl ?_;(repeat' ((first|(apply AG<;>intro hc<;>try (exfalso;omega))|apply AY|(refine QB (by assumption) ?_ (λ e he hb => ?_);omega)|apply AE|refine AD (k9 _ _) ?_)<;>conv=>whnf))
  all_goals first
   | exact AW rfl (UU _ _ _ _)
   | exact AW rfl (UU false true [] [1])
   | exact absurd (by assumption) (l9 _ he (by assumption))
theorem cL (N:a6 L) (n q1 q2:Bool) (m d:List Nat) (hm:Sm 549755813888 m) (hd:Sm 549755813888 d):Ev L 95 [.agg (rQ q1 q2 n m d)] (.agg (eQ (qv n m d))):=by
 obtain ⟨n',m',d',w,hr,s1,s2,s3,s4,s5⟩:=OV N n m d 549755813888 (by omega) hm hd;have hl:=λ q1 q2=>TD N n' q1 q2 m' d' s1 s2 s3
 rw[s5];unfold qv at hl;refine Ev.x N.M6 rfl rfl ?_;(repeat' ((first|apply G8|apply AE|refine AD (hr) ?_|refine AD (hl _ _) ?_)<;>conv=>whnf))
 exact AW rfl (DH _)
theorem nV (N:a6 L) (n q1 q2:Bool) (m d:List Nat) (hm:Sm 549755813888 m) (hd:Sm 549755813888 d):Ev L 97 [.agg (rQ q1 q2 n m d)] (.int .i64 (q9 (qv n m d).num)):=by
 obtain ⟨n',m',d',w,hr,s1,s2,s3,s4,s5⟩:=OV N n m d 549755813888 (by omega) hm hd;have hl:=λ q=>XW N n' q m' s1
 rw[s5,qT s3];refine Ev.x N.M4 rfl rfl ?_;(repeat' ((first|apply G8|apply AE|refine AD (hr) ?_|refine AD (hl _) ?_)<;>conv=>whnf))
 exact CP rfl
theorem aD (z:Int):AV.agg [.bool (decide (z<0)),.sl false ((dg z.natAbs).map AL),.sl false [[.int .u32 1]]] = .agg (eQ (z:Rat)):=by
 show _=AV.agg (rQ _ _ _ _ _);rw[Rat.num_intCast,Rat.den_intCast,bH];rfl
theorem E2 (N:a6 L) (z:Int) (hz : -9223372036854775808<=z/\z<=9223372036854775807):Ev L 96 [.int .i64 z] (.agg (eQ (z:Rat))):=by
 have h1:=cB N z hz;refine Ev.x N.M3 rfl rfl ?_;(repeat' ((first|apply AE|refine AD (h1) ?_)<;>conv=>whnf))
 refine FC 1000 N.HU rfl rfl ?_;(repeat' (apply AE<;>conv=>whnf))
 refine ⟨rfl,?_⟩;(conv=>whnf)
 (repeat' (refine FF rfl ?_<;>conv=>whnf))
 exact AW (aD z) (DH _)
theorem SH {k l:Nat} {n1 n2:Bool} {a b:List Nat} (ha:Sm k a) (hb:Sm l b):Sm (k+l) (dg (zv n1 a*zv n2 b).natAbs):=ha.mul hb (by rw[Int.natAbs_mul,EW,EW])
theorem tE {k:Nat} {x y:Int} (ha:Sm k (dg x.natAbs)) (hb:Sm k (dg y.natAbs)):Sm (k+1) (dg (x+y).natAbs):=ha.add hb (by rw[BP,BP];omega)
theorem nT (N:a6 L) (k:Nat) (hk:1<=k/\k<=68719476736) (n1 n2 q1 q2 q3 q4:Bool) (m1 d1 m2 d2:List Nat) (iw:Sm k m1) (nk:Sm k d1) (fh:Sm k m2) (re:Sm k d2) :
  Ev L 98 [.agg (rQ q1 q2 n1 m1 d1),.agg (rQ q3 q4 n2 m2 d2)] (.agg (eQ (qv n1 m1 d1+qv n2 m2 d2))):=by
 obtain ⟨a1,a2,a3,w1,da,s1,s2,s3,s4,s5⟩:=OV N n1 m1 d1 k (by omega) iw nk;obtain ⟨b1,b2,b3,w2,ae,t1,t2,t3,t4,t5⟩:=OV N n2 m2 d2 k (by omega) fh re;rw[s5,t5];have hA:=λ q q'=>mU N a1 b1 q q' a2 b2 (s1.le (by omega)) (t1.le (by omega))
 have aj:Sm (k+1) (dg (zv a1 a2+zv b1 b2).natAbs):=tE (by rw[EW];exact s1.rq) (by rw[EW];exact t1.rq);by_cases hw:w1=true/\w2=true
 ·obtain ⟨rfl,rfl⟩:=hw
  rw[s4 rfl,t4 rfl,qP (by omega),qS];generalize zv a1 a2+zv b1 b2=z at *;refine Ev.x N.IX rfl rfl ?_;(repeat' ((first|apply G8|apply AE|refine AD (da) ?_|refine AD (ae) ?_|refine AD (hA _ _) ?_)<;>conv=>whnf))
  refine FC 1000 N.HU rfl rfl ?_;(repeat' (apply AE<;>conv=>whnf))
  refine ⟨rfl,?_⟩;(conv=>whnf)
  (repeat' (refine FF rfl ?_<;>conv=>whnf))
  exact AW (aD z) (DH _)
 ·have k9:=λ q q'=>PS N.toc6 a3 b3 q q' s2.1 t2.1 (by have:=s2.2;omega) (by have:=t2.2;omega)
  by_cases hde:val a3=val b3
  ·have hn:C5 (val a3) (val b3)=0:=(RH (by omega)).symm
   rw[hn]at k9;rw[<-hde,qP s3];generalize zv a1 a2+zv b1 b2=z at *;have hl:=λ q1 q2=>TD N (decide (z<0)) q1 q2 (dg z.natAbs) a3 (aj.le (by omega)) (s2.le (by omega)) s3
   unfold qv at hl;rw[G4]at hl;refine Ev.x N.IX rfl rfl ?_;cases w1<;>cases w2
   ·(repeat' ((first|(apply AG<;>intro hc<;>try (exfalso;omega))|apply G8|apply AE|refine AD (da) ?_|refine AD (ae) ?_|refine AD (hA _ _) ?_|refine AD (k9 _ _) ?_|refine AD (hl _ _) ?_)<;>conv=>whnf))
    exact AW rfl (DH _)
   ·(repeat' ((first|(apply AG<;>intro hc<;>try (exfalso;omega))|apply G8|apply AE|refine AD (da) ?_|refine AD (ae) ?_|refine AD (hA _ _) ?_|refine AD (k9 _ _) ?_|refine AD (hl _ _) ?_)<;>conv=>whnf))
    exact AW rfl (DH _)
   ·(repeat' ((first|(apply AG<;>intro hc<;>try (exfalso;omega))|apply G8|apply AE|refine AD (da) ?_|refine AD (ae) ?_|refine AD (hA _ _) ?_|refine AD (k9 _ _) ?_|refine AD (hl _ _) ?_)<;>conv=>whnf))
    exact AW rfl (DH _)
   ·exact absurd ⟨rfl,rfl⟩ hw
  ·have hn:C5 (val a3) (val b3)≠0:=by unfold C5;split<;>(try split)<;>omega
   generalize C5 (val a3) (val b3)=cm at *;have gd:=λ q q'=>RP N a1 false q q' a2 b3 s1.1 t2.1 (by have:=s1.2;have:=t2.2;omega)
   have il:=λ q q'=>RP N b1 false q q' b2 a3 t1.1 s2.1 (by have:=t1.2;have:=s2.2;omega)
   have wi:=λ q q'=>cD N.toc6 a3 b3 q q' s2.1 t2.1 (by have:=s2.2;have:=t2.2;omega)
   have tj:=TE N a3;have qf:=TE N b3;have g1:Sm (k+k) (dg (zv a1 a2*zv false b3).natAbs):=SH s1 t2;have g2:Sm (k+k) (dg (zv b1 b2*zv false a3).natAbs):=SH t1 s2;have g3:=tE g1 g2;have g4:Sm (k+k) (dg (val a3*val b3)):=s2.mul t2 rfl;rw[dX s3 t3,<-G3 b3,<-G3 a3];have xh:val a3*val b3≠0:=Nat.mul_ne_zero s3 t3;generalize zv a1 a2*zv false b3=x at *;generalize zv b1 b2*zv false a3=y at *;generalize val a3*val b3=D at *;have Di:=λ q q'=>mU N (decide (x<0)) (decide (y<0)) q q' (dg x.natAbs) (dg y.natAbs) (g1.le (by omega)) (g2.le (by omega))
   rw[G4,G4]at Di;generalize x+y=z at *;have hl:=λ q1 q2=>TD N (decide (z<0)) q1 q2 (dg z.natAbs) (dg D) (g3.le (by omega)) (g4.le (by omega)) (by rw[BP];exact xh)
   unfold qv at hl;rw[G4,BP]at hl;refine Ev.x N.IX rfl rfl ?_;cases w1<;>cases w2
   ·(repeat' ((first|(apply AG<;>intro hc<;>try (exfalso;omega))|apply G8|apply Q7|apply AE|refine AD (da) ?_|refine AD (ae) ?_|refine AD (k9 _ _) ?_|refine AD (tj) ?_|refine AD (qf) ?_|refine AD (gd _ _) ?_|refine AD (il _ _) ?_|refine AD (Di _ _) ?_|refine AD (wi _ _) ?_|refine AD (hl _ _) ?_)<;>conv=>whnf))
    exact AW rfl (DH _)
   ·(repeat' ((first|(apply AG<;>intro hc<;>try (exfalso;omega))|apply G8|apply Q7|apply AE|refine AD (da) ?_|refine AD (ae) ?_|refine AD (k9 _ _) ?_|refine AD (tj) ?_|refine AD (qf) ?_|refine AD (gd _ _) ?_|refine AD (il _ _) ?_|refine AD (Di _ _) ?_|refine AD (wi _ _) ?_|refine AD (hl _ _) ?_)<;>conv=>whnf))
    exact AW rfl (DH _)
   ·(repeat' ((first|(apply AG<;>intro hc<;>try (exfalso;omega))|apply G8|apply Q7|apply AE|refine AD (da) ?_|refine AD (ae) ?_|refine AD (k9 _ _) ?_|refine AD (tj) ?_|refine AD (qf) ?_|refine AD (gd _ _) ?_|refine AD (il _ _) ?_|refine AD (Di _ _) ?_|refine AD (wi _ _) ?_|refine AD (hl _ _) ?_)<;>conv=>whnf))
    exact AW rfl (DH _)
   ·exact absurd ⟨rfl,rfl⟩ hw
theorem nU (N:a6 L) (k:Nat) (hk:1<=k/\k<=68719476736) (n1 n2 q1 q2 q3 q4:Bool) (m1 d1 m2 d2:List Nat) (iw:Sm k m1) (nk:Sm k d1) (fh:Sm k m2) (re:Sm k d2) :
  Ev L 99 [.agg (rQ q1 q2 n1 m1 d1),.agg (rQ q3 q4 n2 m2 d2)] (.agg (eQ (qv n1 m1 d1*qv n2 m2 d2))):=by
 obtain ⟨a1,a2,a3,w1,da,s1,s2,s3,s4,s5⟩:=OV N n1 m1 d1 k (by omega) iw nk;obtain ⟨b1,b2,b3,w2,ae,t1,t2,t3,t4,t5⟩:=OV N n2 m2 d2 k (by omega) fh re;rw[s5,t5,qR];have gd:=λ q q'=>RP N a1 b1 q q' a2 b2 s1.1 t1.1 (by have:=s1.2;have:=t1.2;omega)
 have wi:=λ q q'=>cD N.toc6 a3 b3 q q' s2.1 t2.1 (by have:=s2.2;have:=t2.2;omega)
 have g1:Sm (k+k) (dg (zv a1 a2*zv b1 b2).natAbs):=SH s1 t1;have g4:Sm (k+k) (dg (val a3*val b3)):=s2.mul t2 rfl;have xh:val a3*val b3≠0:=Nat.mul_ne_zero s3 t3;generalize zv a1 a2*zv b1 b2=z at *;by_cases hw:w1=true/\w2=true
 ·obtain ⟨rfl,rfl⟩:=hw
  rw[s4 rfl,t4 rfl,Nat.one_mul,qS];refine Ev.x N.JY rfl rfl ?_;(repeat' ((first|apply G8|apply AE|refine AD (da) ?_|refine AD (ae) ?_|refine AD (gd _ _) ?_)<;>conv=>whnf))
  refine FC 1000 N.HU rfl rfl ?_;(repeat' (apply AE<;>conv=>whnf))
  refine ⟨rfl,?_⟩;(conv=>whnf)
  (repeat' (refine FF rfl ?_<;>conv=>whnf))
  exact AW (aD z) (DH _)
 ·generalize val a3*val b3=D at *
  have hl:=λ q1 q2=>TD N (decide (z<0)) q1 q2 (dg z.natAbs) (dg D) (g1.le (by omega)) (g4.le (by omega)) (by rw[BP];exact xh)
  unfold qv at hl;rw[G4,BP]at hl;refine Ev.x N.JY rfl rfl ?_;cases w1<;>cases w2
  ·(repeat' ((first|apply G8|apply AE|refine AD (da) ?_|refine AD (ae) ?_|refine AD (gd _ _) ?_|refine AD (wi _ _) ?_|refine AD (hl _ _) ?_)<;>conv=>whnf))
   exact AW rfl (DH _)
  ·(repeat' ((first|apply G8|apply AE|refine AD (da) ?_|refine AD (ae) ?_|refine AD (gd _ _) ?_|refine AD (wi _ _) ?_|refine AD (hl _ _) ?_)<;>conv=>whnf))
   exact AW rfl (DH _)
  ·(repeat' ((first|apply G8|apply AE|refine AD (da) ?_|refine AD (ae) ?_|refine AD (gd _ _) ?_|refine AD (wi _ _) ?_|refine AD (hl _ _) ?_)<;>conv=>whnf))
   exact AW rfl (DH _)
  ·exact absurd ⟨rfl,rfl⟩ hw
theorem kG (x:Rat) (e:Int):A4 (.g8 [.agg (eQ x),.int .i64 e]):=by
 simp only[A4,CB,and_true,true_and];exact ⟨C0 _,C0 _⟩
theorem To (N:a6 L) (k:Nat) (hk:1<=k/\k<=68719476736) (n1 n2 q1 q2 q3 q4:Bool) (m1 d1 m2 d2:List Nat) (iw:Sm k m1) (nk:Sm k d1) (fh:Sm k m2) (re:Sm k d2) (h0:qv n2 m2 d2≠0) :
  Ev L 100 [.agg (rQ q1 q2 n1 m1 d1),.agg (rQ q3 q4 n2 m2 d2)] (.g8 [.agg (eQ (qv n1 m1 d1/qv n2 m2 d2)),.int .i64 0]):=by
 obtain ⟨a1,a2,a3,w1,da,s1,s2,s3,s4,s5⟩:=OV N n1 m1 d1 k (by omega) iw nk;obtain ⟨b1,b2,b3,w2,ae,t1,t2,t3,t4,t5⟩:=OV N n2 m2 d2 k (by omega) fh re;rw[t5]at h0;rw[s5,t5];have ni:zv b1 b2≠0:=λ h=>h0 ((dY t3).2 h)
 rw[Zp s3 t3 ni];have hS:=λ q=>XW N b1 q b2 (t1.le (by omega))
 have od:q9 (zv b1 b2)≠0:=by unfold q9;split<;>(try split)<;>omega
 have gd:=λ q q'=>RP N a1 false q q' a2 b3 s1.1 t2.1 (by have:=s1.2;have:=t2.2;omega)
 have il:=λ q q'=>RP N false b1 q q' a3 b2 s2.1 t1.1 (by have:=t1.2;have:=s2.2;omega)
 have tj:=TE N a3;have qf:=TE N b3;have g1:Sm (k+k) (dg (zv a1 a2*zv false b3).natAbs):=SH s1 t2;have g2:Sm (k+k) (dg (zv false a3*zv b1 b2).natAbs):=SH s2 t1;have hd:(zv false a3*zv b1 b2).natAbs=val a3*(zv b1 b2).natAbs:=by rw[Int.natAbs_mul,EW]
 have xi:(zv false a3*zv b1 b2).sign=(zv b1 b2).sign:=by
  rw[Int.sign_mul,G3,Int.sign_eq_one_of_pos (by omega),Int.one_mul]
 have lz:zv false a3*zv b1 b2≠0:=by
  intro h;rw[h]at xi;exact ni (by simpa using xi.symm)
 rw[<-hd,<-xi,<-G3 b3];generalize zv a1 a2*zv false b3=x at *;generalize zv false a3*zv b1 b2=y at *;generalize q9 (zv b1 b2)=sg at *;have hl:=λ q1 q2=>TD N (decide (x<0) != decide (y<0)) q1 q2 (dg x.natAbs) (dg y.natAbs) (g1.le (by omega)) (g2.le (by omega)) (by rw[BP];omega)
 unfold qv at hl;rw[vK lz,BP]at hl;refine Ev.x N.MX rfl rfl ?_;(repeat' ((first|(apply AG<;>intro hc<;>try (exfalso;omega))|apply G8|apply Q7|apply AE|refine AD (da) ?_|refine AD (ae) ?_|refine AD (hS _) ?_|refine AD (tj) ?_|refine AD (qf) ?_|refine AD (gd _ _) ?_|refine AD (il _ _) ?_)<;>conv=>whnf))
 refine FC 1000 N.JZ rfl rfl ?_;(repeat' (apply AE<;>conv=>whnf))
 generalize decide (x<0)=p at *;generalize decide (y<0)=r at *;cases p<;>cases r;all_goals
  (conv=>whnf)
  refine ⟨rfl,?_⟩;(conv=>whnf)
  (repeat' (refine AD (hl _ _) ?_<;>conv=>whnf))
  exact AW rfl (kG _ _)
theorem Bt.sm {k:Nat} {x:Rat} (h:Bt k x) (hk:k<2199023255552):Sm 68719476736 (dg x.num.natAbs)/\Sm 68719476736 (dg x.den):=h.Jr (by omega)
theorem HD (N:a6 L) {x y:Rat} {k l:Nat} (hx:Bt k x) (hy:Bt l y) (hk:k<2199023255552) (hl:l<2199023255552):Ev L 98 [.agg (eQ x),.agg (eQ y)] (.agg (eQ (x+y))):=by
 have:=nT N 68719476736 (by omega) (decide (x.num<0)) (decide (y.num<0)) false false false false _ _ _ _ (hx.sm hk).1 (hx.sm hk).2 (hy.sm hl).1 (hy.sm hl).2
 rw[F5,F5]at this;exact this
theorem F3 (N:a6 L) {x y:Rat} {k l:Nat} (hx:Bt k x) (hy:Bt l y) (hk:k<2199023255552) (hl:l<2199023255552):Ev L 99 [.agg (eQ x),.agg (eQ y)] (.agg (eQ (x*y))):=by
 have:=nU N 68719476736 (by omega) (decide (x.num<0)) (decide (y.num<0)) false false false false _ _ _ _ (hx.sm hk).1 (hx.sm hk).2 (hy.sm hl).1 (hy.sm hl).2
 rw[F5,F5]at this;exact this
theorem XV (N:a6 L) {x y:Rat} {k l:Nat} (hx:Bt k x) (hy:Bt l y) (hk:k<2199023255552) (hl:l<2199023255552) (h0:y≠0):Ev L 100 [.agg (eQ x),.agg (eQ y)] (.g8 [.agg (eQ (x/y)),.int .i64 0]):=by
 have:=To N 68719476736 (by omega) (decide (x.num<0)) (decide (y.num<0)) false false false false _ _ _ _ (hx.sm hk).1 (hx.sm hk).2 (hy.sm hl).1 (hy.sm hl).2 (by rw[F5];exact h0)
 rw[F5,F5]at this;exact this
theorem nY (N:a6 L) {x:Rat} {k:Nat} (hx:Bt k x) (hk:k<2199023255552):Ev L 95 [.agg (eQ x)] (.agg (eQ x)):=by
 have:=cL N (decide (x.num<0)) false false _ _ ((hx.sm hk).1.le (by omega)) ((hx.sm hk).2.le (by omega))
 rw[F5]at this;exact this
theorem PT (N:a6 L) {x:Rat} {k:Nat} (hx:Bt k x) (hk:k<2199023255552):Ev L 97 [.agg (eQ x)] (.int .i64 (q9 x.num)):=by
 have:=nV N (decide (x.num<0)) false false _ _ ((hx.sm hk).1.le (by omega)) ((hx.sm hk).2.le (by omega))
 rw[F5]at this;exact this
theorem N4 {x:Rat}:q9 x.num=0↔x=0:=by
 rw[<-Rat.num_eq_zero];unfold q9;split
 ·omega
 ·split<;>omega
theorem rY (n:Bool) (m d:List Nat):qv (!n) m d = -(qv n m d):=by
 unfold qv;have h:zv (!n) m = -(zv n m):=by cases n<;>simp [zv]
 rw[h,Rat.neg_mkRat]
theorem Pf (n:Bool) (m d:List Nat):A4 (.agg (rQ false false n m d)):=by
 simp only[A4,CB,and_true,true_and];exact ⟨C0 _,C0 _⟩
theorem mS (N:v3 L) (n:Bool) (m d:List Nat):Ev L 149 [.agg (rQ false false n m d)] (.agg (rQ false false (!n) m d)):=by
 refine Ev.x N.M7 rfl rfl ?_;cases n;all_goals
  (repeat' (apply AE<;>conv=>whnf))
  exact AW rfl (Pf _ _ _)
theorem Tu (N:v3 L) {x y:Rat} {k l:Nat} (hx:Bt k x) (hy:Bt l y) (hk:k<2199023255552) (hl:l<2199023255552):Ev L 150 [.agg (eQ x),.agg (eQ y)] (.agg (eQ (x-y))):=by
 have hF:=mS N (decide (y.num<0)) (dg y.num.natAbs) (dg y.den);have hA:=λ q3 q4=>nT N.toa6 68719476736 (by omega) (decide (x.num<0)) (!decide (y.num<0)) false false q3 q4 _ _ _ _ (hx.sm hk).1 (hx.sm hk).2 (hy.sm hl).1 (hy.sm hl).2
 rw[rY,F5,F5,<-Rat.sub_eq_add_neg]at hA;refine Ev.x N.M5 rfl rfl ?_;(repeat' ((first|apply iL|apply AE|refine AD (hF) ?_|refine AD (hA _ _) ?_)<;>conv=>whnf))
 exact AW rfl (DH _)
theorem Zq {x y:Int} (h:y≠0):mkRat (y.sign*x) y.natAbs=Rat.divInt x y:=by
 obtain ⟨d,hd|hd⟩:=Int.eq_nat_or_neg y
 ·subst hd
  rw[Int.sign_eq_one_of_pos (by omega),Int.one_mul,Int.natAbs_natCast,Rat.divInt_ofNat]
 ·subst hd
  rw[Int.sign_eq_neg_one_of_neg (by omega),Int.natAbs_neg,Int.natAbs_natCast,Rat.divInt_neg',Rat.divInt_ofNat,Int.neg_one_mul]
theorem bY (N:v3 L) (x y:Int) (hx : -9223372036854775808<=x/\x<=9223372036854775807) (hy : -9223372036854775808<=y/\y<=9223372036854775807) (h0:y≠0):Ev L 151 [.int .i64 x,.int .i64 y] (.agg (eQ (Rat.divInt x y))):=by
 have h1:=cB N.toa6 x hx;have h2:=cB N.toa6 y hy;have g1:Sm 2 (dg x.natAbs):=Sm.dg (by omega);have g2:Sm 2 (dg y.natAbs):=Sm.dg (by omega);have hl:=λ q1 q2=>TD N.toa6 (decide (x<0) != decide (y<0)) q1 q2 (dg x.natAbs) (dg y.natAbs) (g1.le (by omega)) (g2.le (by omega)) (by rw[BP];omega)
 unfold qv at hl;rw[vK h0,BP,Zq h0]at hl;refine Ev.x N.MY rfl rfl ?_;(repeat' ((first|(apply AG<;>intro hc<;>try (exfalso;omega))|apply AE|refine AD (h1) ?_|refine AD (h2) ?_)<;>conv=>whnf))
 refine FC 1000 N.JZ rfl rfl ?_;(repeat' (apply AE<;>conv=>whnf))
 generalize decide (x<0)=p at *;generalize decide (y<0)=r at *;cases p<;>cases r;all_goals
  (conv=>whnf)
  refine ⟨rfl,?_⟩;(conv=>whnf)
  (repeat' (refine AD (hl _ _) ?_<;>conv=>whnf))
  exact AW rfl (DH _)
theorem X3 {l:List Rat} {i:Nat} {x:Rat} (h:l[i]? = some x):l.getD i 0=x:=by rw[List.getD_eq_getElem?_getD,h];rfl
theorem Ss {l:List Rat} {i:Nat} (h:l.length<=i):l.getD i 0=0:=by rw[List.getD_eq_getElem?_getD,List.getElem?_eq_none h];rfl
theorem VJ {l:List Rat} {k:Nat} (h:Bs k l) (i:Nat):Bt k (l.getD i 0):=by
 rw[List.getD_eq_getElem?_getD];cases e:l[i]? with
 | none=>exact Bt.zero k
 | some x=>exact h.at e
theorem fY (z:Int):q9 z = -1/\z<0\/q9 z=0/\z=0\/q9 z=1/\0<z:=by
 unfold q9;split
 ·exact Or.inl ⟨rfl,by omega⟩
 ·split
  ·exact Or.inr (Or.inr ⟨rfl,by omega⟩)
  ·exact Or.inr (Or.inl ⟨rfl,by omega⟩)
theorem Pl {a b:Nat} {z:Int} (h:z=(a:Int)-b):C5 a b=q9 z:=by
 unfold C5 q9;subst h;repeat' split
 all_goals omega
theorem mV (N:o4 L) (n1 n2 q1 q2:Bool) (a b:List Nat) (ha:Sm 549755813888 a) (hb:Sm 549755813888 b):Ev L 197 [.agg (rZ q1 n1 a),.agg (rZ q2 n2 b)] (.int .i64 (q9 (zv n1 a-zv n2 b))):=by
 have h1:=λ q=>XW N.toa6 n1 q a ha
 have h2:=λ q=>XW N.toa6 n2 q b hb
 have h3:=λ q q'=>PS N.toc6 a b q q' ha.1 hb.1 (by have:=ha.2;omega) (by have:=hb.2;omega)
 have h4:=λ q q'=>PS N.toc6 b a q q' hb.1 ha.1 (by have:=hb.2;omega) (by have:=ha.2;omega)
 have za:=EW n1 a;have zb:=EW n2 b;generalize zv n1 a=x at *;generalize zv n2 b=y at *;rcases fY x with ⟨e1,g1⟩|⟨e1,g1⟩|⟨e1,g1⟩<;>rcases fY y with ⟨e2,g2⟩|⟨e2,g2⟩|⟨e2,g2⟩
 all_goals
  rw[e1]at h1;rw[e2]at h2;refine Ev.x N.LD rfl rfl ?_;(repeat' ((first|(apply AG<;>intro hc<;>try (exfalso;omega))|apply AE|refine AD (h1 _) ?_|refine AD (h2 _) ?_|refine AD (h3 _ _) ?_|refine AD (h4 _ _) ?_)<;>conv=>whnf))
  first
   | exact CP (fZ (by omega))
   | exact CP (gA (by omega))
   | exact CP (Pl (by omega))
theorem Tn (N:o4 L) (k:Nat) (hk:1<=k/\k<=68719476736) (n1 n2:Bool) (m1 d1 m2 d2:List Nat) (iw:Sm k m1) (nk:Sm k d1) (fh:Sm k m2) (re:Sm k d2) :
  Ev L 198 [.agg (rQ false false n1 m1 d1),.agg (rQ false false n2 m2 d2)] (.int .i64 (q9 (qv n1 m1 d1-qv n2 m2 d2).num)):=by
 obtain ⟨a1,a2,a3,w1,da,s1,s2,s3,s4,s5⟩:=OV N.toa6 n1 m1 d1 k (by omega) iw nk;obtain ⟨b1,b2,b3,w2,ae,t1,t2,t3,t4,t5⟩:=OV N.toa6 n2 m2 d2 k (by omega) fh re;rw[s5,t5,<-qQ s3 t3];by_cases hw:w1=true/\w2=true
 ·obtain ⟨rfl,rfl⟩:=hw
  have hC:=λ q q'=>mV N a1 b1 q q' a2 b2 (s1.le (by omega)) (t1.le (by omega))
  rw[s4 rfl,t4 rfl];rw[show zv a1 a2*((1:Nat):Int)-zv b1 b2*((1:Nat):Int)=zv a1 a2-zv b1 b2 by omega];refine Ev.x N.JX rfl rfl ?_;(repeat' ((first|apply G8|apply AE|refine AD (da) ?_|refine AD (ae) ?_|refine AD (hC _ _) ?_)<;>conv=>whnf))
  exact CP rfl
 ·have gd:=λ q q'=>RP N.toa6 a1 false q q' a2 b3 s1.1 t2.1 (by have:=s1.2;have:=t2.2;omega)
  have il:=λ q q'=>RP N.toa6 b1 false q q' b2 a3 t1.1 s2.1 (by have:=t1.2;have:=s2.2;omega)
  have tj:=TE N.toa6 a3;have qf:=TE N.toa6 b3;have g1:Sm (k+k) (dg (zv a1 a2*zv false b3).natAbs):=SH s1 t2;have g2:Sm (k+k) (dg (zv b1 b2*zv false a3).natAbs):=SH t1 s2;have hC:=λ q q'=>mV N (decide (zv a1 a2*zv false b3<0)) (decide (zv b1 b2*zv false a3<0)) q q' _ _ (g1.le (by omega)) (g2.le (by omega))
  rw[G4,G4]at hC;rw[<-G3 b3,<-G3 a3];generalize zv a1 a2*zv false b3=x at *;generalize zv b1 b2*zv false a3=y at *;refine Ev.x N.JX rfl rfl ?_;cases w1<;>cases w2
  ·(repeat' ((first|apply G8|apply Q7|apply AE|refine AD (da) ?_|refine AD (ae) ?_|refine AD (tj) ?_|refine AD (qf) ?_|refine AD (gd _ _) ?_|refine AD (il _ _) ?_|refine AD (hC _ _) ?_)<;>conv=>whnf))
   exact CP rfl
  ·(repeat' ((first|apply G8|apply Q7|apply AE|refine AD (da) ?_|refine AD (ae) ?_|refine AD (tj) ?_|refine AD (qf) ?_|refine AD (gd _ _) ?_|refine AD (il _ _) ?_|refine AD (hC _ _) ?_)<;>conv=>whnf))
   exact CP rfl
  ·(repeat' ((first|apply G8|apply Q7|apply AE|refine AD (da) ?_|refine AD (ae) ?_|refine AD (tj) ?_|refine AD (qf) ?_|refine AD (gd _ _) ?_|refine AD (il _ _) ?_|refine AD (hC _ _) ?_)<;>conv=>whnf))
   exact CP rfl
  ·exact absurd ⟨rfl,rfl⟩ hw
theorem TC (N:o4 L) {x y:Rat} {k l:Nat} (hx:Bt k x) (hy:Bt l y) (hk:k<2199023255552) (hl:l<2199023255552):Ev L 198 [.agg (eQ x),.agg (eQ y)] (.int .i64 (q9 (x-y).num)):=by
 have:=Tn N 68719476736 (by omega) (decide (x.num<0)) (decide (y.num<0)) _ _ _ _ (hx.sm hk).1 (hx.sm hk).2 (hy.sm hl).1 (hy.sm hl).2
 rw[F5,F5]at this;exact this
theorem Us (N:o4 L) {x:Rat} {k:Nat} (hx:Bt k x) (hk:k<2199023255552):Ev L 199 [.agg (eQ x)] (.agg (eQ (-x))):=by
 have hF:=mS N.tov3 (decide (x.num<0)) (dg x.num.natAbs) (dg x.den);have hT:=λ q1 q2=>cL N.toa6 (!decide (x.num<0)) q1 q2 _ _ ((hx.sm hk).1.le (by omega)) ((hx.sm hk).2.le (by omega))
 rw[rY,F5]at hT;refine Ev.x N.MZ rfl rfl ?_;(repeat' ((first|apply iL|apply AE|refine AD (hF) ?_|refine AD (hT _ _) ?_)<;>conv=>whnf))
 exact AW rfl (DH _)
theorem nM (N:o4 L) (q:Bool) (l:List Rat) (k:Nat) (hl:Bs k l) (hk:k<2199023255552) (hn:l.length<=1000000):Ev L 200 [.sl q (l.map eQ)] (.int .i64 ((H2 l l.length:Int)-1)):=by
 refine Ev.x N.MU rfl rfl ?_;(repeat' (apply AE<;>conv=>whnf))
 refine GS 1000 N.MV rfl rfl ?_;(repeat' ((first|apply AY|apply AE)<;>conv=>whnf))
 refine CK (λ n=>n) (λ(n:Nat)=>n<=l.length/\H2 l l.length=H2 l n) (λ n=>[(3,.int .i64 n)]) (λ_=>[]) [] [] l.length (by (conv=>whnf);exact ⟨rfl,rfl,rfl⟩) ⟨Nat.le_refl _,rfl⟩ ?_;intro n ⟨p1,p2⟩ ih;have done : ∀ {n:Nat},H2 l l.length=n->O9 l=l.take n:=λ h=>by rw[O9,h]
 by_cases hz:n=0\/(∃ m x,n=m+1/\l[m]? = some x/\x≠0)
 ·have Bk:H2 l l.length=n:=by
   rw[p2];rcases hz with rfl|⟨m,x,rfl,h1,h2⟩
   ·rfl
   ·rw[H2,if_neg]
    rw[List.getD_eq_getElem?_getD,h1];exact h2
  have htq:=done Bk;have ft:(l.take n).length=n:=by rw[List.length_take];omega
  clear ih Bk p2 done;rcases hz with h0|⟨m,x,Cd,h1,h2⟩
  case' inl=>(repeat' ((first|(apply AG<;>intro hc<;>try (exfalso;omega))|apply AE)<;>conv=>whnf))
  case' inr =>
   have nb:l[((n:Int)-1).toNat]? = some x:=by rw[show ((n:Int)-1).toNat=m by omega];exact h1
   have jd:=PT N.toa6 (hl.at h1) (by omega);have hs:=N4 (x:=x);generalize q9 x.num=s at *;have hS : ∀ v,l[((n:Int)-1).toNat]? = some v->Ev L 97 [.agg (eQ v)] (.int .i64 s):=λ v h=>by
    obtain rfl:=Option.some.inj (nb.symm.trans h);exact jd
   have oc:s≠0:=λ h=>h2 (hs.1 h)
   (repeat' ((first|(apply AG<;>intro hc<;>try (exfalso;omega))|(apply BM;omega)|(refine BC (by assumption) ?_ rfl ?_;omega)|apply AE|refine AD (jd) ?_)<;>conv=>whnf))
  all_goals
   refine QD (enc:=eQ) (λ_=>rfl) p1 ?_;(conv=>whnf)
   skip
   refine ⟨rfl,_,rfl,?_⟩;(conv=>whnf)
   (repeat' ((first|(apply BM;omega)|apply AY)<;>conv=>whnf))
   have Bl:H2 l l.length=n:=by rw[<-uT,htq,ft]
   rw[Bl];exact CP (by rw[ft])
 ·obtain ⟨m,rfl⟩ : ∃ m,n=m+1:=⟨n-1,by omega⟩
  obtain ⟨x,hx⟩ : ∃ x,l[m]? = some x:=⟨_,zE (by omega)⟩;have fv:x=0:=by
   rcases Classical.em (x=0) with h|h
   ·exact h
   ·exact (hz (Or.inr ⟨m,x,rfl,hx,h⟩)).elim
  have rn:l[((m+1:Nat)-1:Int).toNat]? = some x:=by rw[show ((m+1:Nat)-1:Int).toNat=m by omega];exact hx
  have jd:=PT N.toa6 (hl.at hx) (by omega);have hs:=N4 (x:=x);generalize q9 x.num=s at *;have hS : ∀ v,l[((m+1:Nat)-1:Int).toNat]? = some v->Ev L 97 [.agg (eQ v)] (.int .i64 s):=λ v h=>by
   obtain rfl:=Option.some.inj (rn.symm.trans h);exact jd
  have oc:=hs.2 fv;(repeat' ((first|(apply AG<;>intro hc<;>try (exfalso;omega))|(apply BM;omega)|(refine BC (by assumption) ?_ rfl ?_;omega)|apply AE|refine AD (jd) ?_)<;>conv=>whnf))
  rw[show ((m+1:Nat):Int)-1=(m:Int) by omega];exact BO [] (ih m (by omega) ⟨by omega,by rw[p2,H2,if_pos (by rw[List.getD_eq_getElem?_getD,hx];exact fv)]⟩)
end Go.b7

namespace Go.b7
open F
attribute [local irreducible] AA AF AM AC BT AQ A5 AZ BG A9 BS CN BH AU BI BR AB A1 AJ pw B1 BQ B9 CM CH BF BV BB B5
set_option maxHeartbeats 1000000
variable {L:Lib}
def EJ (n:Int):Prop := -9223372036854775808<=n/\n<=9223372036854775807
structure Wd where
 b:Int
 f:Int
 r:Int
 o:Int
abbrev F2 (w:Wd):List AV:=[.int .i64 w.b,.int .i64 w.f,.int .i64 w.r,.int .i64 w.o]
theorem Ua (I:j4 L) (r:Int):Ev L 1 [.int .i64 r] (.bool (decide (1<=r/\r<=3))):=by
 refine Ev.x I.LA rfl rfl ?_;(repeat' ((first|(apply AG<;>intro hc<;>try (exfalso;omega))|apply AE)<;>conv=>whnf))
 all_goals (first|exact SW (by omega)|exact Q6 (by omega))
theorem Tq (I:j4 L) (v a b:Int):Ev L 10 [.int .i64 v,.int .i64 a,.int .i64 b] (.bool (decide (a<=v/\v<=b))):=by
 refine Ev.x I.NY rfl rfl ?_;(repeat' ((first|(apply AG<;>intro hc<;>try (exfalso;omega))|apply AE)<;>conv=>whnf))
 all_goals (first|exact SW (by omega)|exact Q6 (by omega))
def WV (w:Wd):Prop:=4<=w.b/\w.b<=24/\0<=w.f/\w.f<w.b/\1<=w.r/\w.r<=3/\1<=w.o/\w.o<=2
instance (w : Wd) : Decidable (WV w) := by unfold WV; infer_instance
variable (w:Wd)
theorem PR (I:j4 L):Ev L 2 [.agg (F2 w)] (.bool (decide (WV w))):=by
 refine Ev.x I.K9 rfl rfl ?_;(repeat' ((first|(apply AG<;>intro hc<;>try (exfalso;omega))|apply AE|refine F9 (Ua I _) (λ hf => ?_) (λ hf => ?_))<;>conv=>whnf))
 all_goals (unfold WV;first|exact SW (by omega)|exact Q6 (by omega))
theorem Tr (I:j4 L):Ev L 11 [.agg (F2 w)] (.bool (decide (WV w))):=by
 refine Ev.x I.NZ rfl rfl ?_;(repeat' ((first|(apply BM;omega)|apply AE|refine F9 (Tq I _ _ _) (λ hf => ?_) (λ hf => ?_))<;>conv=>whnf))
 all_goals (unfold WV;first|exact SW (by omega)|exact Q6 (by omega))
def TL:Int:=if WV w then -pw (w.b-1) else 0
def E3:Int:=if WV w then pw (w.b-1)-1 else 0
theorem Tz (I:j4 L):Ev L 3 [.agg (F2 w)] (.int .i64 (TL w)):=by
 refine Ev.x I.K8 rfl rfl ?_;by_cases hv:WV w;all_goals (
  have fi:=hv;unfold WV at fi;(repeat' ((first|(apply BM;omega)|(refine FN ?_ (λ_ _ => ?_);omega)|apply Z4|(apply BT.neg;omega)|apply AE|refine F9 (PR _ I) (λ hf => ?_) (λ hf => ?_))<;>conv=>whnf))
  all_goals (first|contradiction|exact CP (by rw[TL,if_pos hv])|exact CP (by rw[TL,if_neg hv])))
theorem cA (I:j4 L):Ev L 4 [.agg (F2 w)] (.int .i64 (E3 w)):=by
 refine Ev.x I.K7 rfl rfl ?_;by_cases hv:WV w;all_goals (
  have fi:=hv;unfold WV at fi;(repeat' ((first|(apply BM;omega)|(refine FN ?_ (λ_ _ => ?_);omega)|apply Z4|apply AE|refine F9 (PR _ I) (λ hf => ?_) (λ hf => ?_))<;>conv=>whnf))
  all_goals (first|contradiction|exact CP (by rw[E3,if_pos hv])|exact CP (by rw[E3,if_neg hv])))
theorem Tp (I:j4 L):Ev L 13 [.agg (F2 w)] (.int .i64 (E3 w)):=by
 refine Ev.x I.NX rfl rfl ?_;by_cases hv:WV w;all_goals (
  have fi:=hv;unfold WV at fi;(repeat' ((first|(apply BM;omega)|(refine FN ?_ (λ_ _ => ?_);omega)|apply Z4|(apply B7;omega)|apply AE|refine F9 (Tr _ I) (λ hf => ?_) (λ hf => ?_))<;>conv=>whnf))
  all_goals (first|contradiction|exact CP (by rw[E3,if_pos hv])|exact CP (by rw[E3,if_neg hv])))
def FT (v:Int):Prop:=WV w/\TL w<=v/\v<=E3 w
instance (v : Int) : Decidable (FT w v) := by unfold FT; infer_instance
theorem RO (I:j4 L) (v:Int):Ev L 5 [.agg (F2 w),.int .i64 v] (.bool (decide (FT w v))):=by
 refine Ev.x I.K6 rfl rfl ?_;(repeat' ((first|(apply AG<;>intro hc<;>try (exfalso;omega))|apply AE|refine F9 (PR _ I) (λ hf => ?_) (λ hf => ?_)|refine AD (Tz _ I) ?_|refine AD (cA _ I) ?_)<;>conv=>whnf))
 all_goals (unfold FT;first|exact SW ⟨by assumption,by assumption,by assumption⟩|exact Q6 (by rintro ⟨h1,h2,h3⟩;first|contradiction|omega))
end Go.b7

namespace Go.b7
open F
attribute [local irreducible] AA AF AM AC BT AQ A5 AZ BG A9 BS CN BH AU BI BR AB A1 AJ pw B1 BQ B9 CM CH BF BV BB B5
set_option maxHeartbeats 1000000
variable {L:Lib}
theorem TA {α:Type} {l:List α} {i:Nat} {e:α} (h:l[i]? = some e):l.drop i=e::l.drop (i+1):=by
 obtain ⟨h1,h2⟩:=zS h;rw[List.drop_eq_getElem_cons h1,h2]
theorem bS {α:Type} {l:List α} {i:Nat} (h:l.length<=i):l.drop i=[]:=List.drop_eq_nil_of_le h
structure Nd where
 q:Bool
 ts:List (Int × Int)
abbrev HB (t:Int × Int):List AV:=[.int .i64 t.1,.int .i64 t.2]
abbrev RM (n:Nd):List AV:=[.sl n.q (n.ts.map HB)]
structure Nt where
 d:Wd
 c:Wd
 s:Int
 qn:Bool
 nodes:List Nd
 qx:Bool
 next:List Int
 out:Int
abbrev D9 (n:Nt):List AV:=[.int .i64 n.d.b,.int .i64 n.d.f,.int .i64 n.d.r,.int .i64 n.d.o,.int .i64 n.c.b,.int .i64 n.c.f,.int .i64 n.c.r,.int .i64 n.c.o,.int .i64 n.s,.sl n.qn (n.nodes.map RM),.sl n.qx (n.next.map CQ),.int .i64 n.out]
def GQ (c:Wd) (s:Int) (k:Nat) (t:Int × Int):Bool:=decide (0<=t.1/\t.1<=s+k/\(t.2=pw c.f\/FT c t.2))
def HE (c:Wd) (s:Int):Nat->List Nd->Bool
 | _,[]=>true
 | k,n::l=>(decide (n.ts.length<=64)&&n.ts.all (GQ c s k))&&HE c s (k+1) l
def KJ (m:Int) (l:List Int):Bool:=l.all λ k=>decide (0<=k/\k<=m)
def O0 (n:Nt):Bool:=decide (WV n.d)&&decide (WV n.c)&&decide (0<=n.s/\n.s<=64/\n.nodes.length<=64/\(n.next.length:Int)=n.s)&&HE n.c n.s 0 n.nodes&&KJ (n.s+n.nodes.length) n.next&&decide (0<=n.out/\n.out<=n.s+n.nodes.length)
variable (n:Nt)
theorem GN:O0 n=true↔WV n.d/\WV n.c/\(0<=n.s/\n.s<=64/\n.nodes.length<=64/\(n.next.length:Int)=n.s)/\HE n.c n.s 0 n.nodes=true/\KJ (n.s+n.nodes.length) n.next=true/\0<=n.out/\n.out<=n.s+n.nodes.length:=by
 simp only[O0,Bool.and_eq_true,decide_eq_true_eq,and_assoc]
theorem U2 {x:Bool} (h : ¬ x=true):false=x:=by simp at h;rw[h]
theorem eqT {x:Bool} (h:x=true):true=x:=by rw[h]
theorem Ut (I:j4 L) (J:ef L):Ev L 21 [.agg (D9 n)] (.bool (O0 n)):=by
 refine Ev.x J.L5 rfl rfl ?_;(repeat' ((first|(apply AG<;>intro hc<;>try (exfalso;omega))|apply AY|apply AE|refine F9 (PR ⟨_,_,_,_⟩ I) (λ hf => ?_) (λ hf => ?_))<;>conv=>whnf))
 all_goals try (
  refine G7 (U2 ?_);rw[GN];rintro ⟨x1,x2,x3,_⟩
  first|contradiction|omega)
 rename_i h1 h3 h4 h5;have h2:=hf;have h6:=hc;have h1:WV n.d:=h1;have h2:WV n.c:=h2;have hw:=h2;unfold WV at hw;refine CK (λ i=>n.nodes.length-i) (λ(i:Nat)=>i<=n.nodes.length/\HE n.c n.s i (n.nodes.drop i)=HE n.c n.s 0 n.nodes) (λ i=>[(45,.int .i64 i)]) (λ_=>[]) [] [] 0 (by (conv=>whnf);exact ⟨rfl,rfl,rfl⟩) ⟨by omega,rfl⟩ ?_;intro i ⟨p1,p2⟩ ih;(repeat' ((first|(apply AG<;>intro hc<;>try (exfalso;omega))|(apply AR;omega)|apply AY|(refine PH ?_ (λ_=>rfl) (λ e he => ?_);omega)|apply AE)<;>conv=>whnf))
 ·rename Nd=>nd
  have hnd:=he;rw[TA hnd,HE,decide_eq_false (by omega)]at p2;refine G7 (U2 ?_);rw[GN,<-p2];simp
 ·rename Nd=>nd
  have hnd:=he;rw[TA hnd,HE,decide_eq_true (by omega),Bool.true_and]at p2;refine CK (λ j=>nd.ts.length-j) (λ(j:Nat)=>j<=nd.ts.length/\(nd.ts.drop j).all (GQ n.c n.s i)=nd.ts.all (GQ n.c n.s i)) (λ j=>[(57,.int .i64 j)]) (λ_=>[]) [] [] 0 (by (conv=>whnf);exact ⟨rfl,rfl,rfl⟩) ⟨by omega,rfl⟩ ?_;intro j ⟨r1,r2⟩ iz;(repeat' ((first|(apply AG<;>intro hc<;>try (exfalso;omega))|(apply AR;omega)|(refine FN ?_ (λ_ _ => ?_);omega)|(refine PH ?_ (λ_=>rfl) (λ e he => ?_);omega)|apply AE|refine F9 (RO ⟨_,_,_,_⟩ I _) (λ hf => ?_) (λ hf => ?_))<;>conv=>whnf))
  all_goals try (
   have hb:GQ n.c n.s i e=false:=by
    simp only[GQ,decide_eq_false_iff_not];intro hh;first|omega|exact absurd hh.2.2 (λ hx=>hx.elim (λ hx=>by omega) (λ hx=>by contradiction))
   rw[TA he,List.all_cons,hb,Bool.false_and]at r2;rw[<-r2,Bool.false_and]at p2;refine G7 (U2 ?_);rw[GN,<-p2];simp;done)
  all_goals try (
   have hb:GQ n.c n.s i e=true:=by
    simp only[GQ,decide_eq_true_eq];exact ⟨by omega,by omega,by first|exact Or.inr (by assumption)|exact Or.inl (by assumption)⟩
   rw[TA he,List.all_cons,hb,Bool.true_and]at r2;exact BL [] (by (conv=>whnf);exact ⟨rfl,rfl,rfl⟩) (iz (j+1) (by omega) ⟨by omega,r2⟩))
  rw[bS (by omega)]at r2;rw[<-r2,List.all_nil,Bool.true_and]at p2;exact BO [] (ih (i+1) (by omega) ⟨by omega,p2⟩)
 ·rw[bS (by omega),HE]at p2
  refine CK (λ i=>n.next.length-i) (λ(i:Nat)=>i<=n.next.length/\KJ (n.s+n.nodes.length) (n.next.drop i)=KJ (n.s+n.nodes.length) n.next) (λ i=>[(99,.int .i64 i)]) (λ_=>[]) [] [] 0 (by (conv=>whnf);exact ⟨rfl,rfl,rfl⟩) ⟨by omega,rfl⟩ ?_;intro k ⟨r1,r2⟩ ih3;(repeat' ((first|(apply AG<;>intro hc<;>try (exfalso;omega))|(apply AR;omega)|(refine PH ?_ (λ_=>rfl) (λ e he => ?_);omega)|apply AE)<;>conv=>whnf))
  all_goals try (
   have hb:decide (0<=e/\e<=n.s+n.nodes.length)=false:=by (rw[decide_eq_false_iff_not];omega)
   rw[TA he,KJ,List.all_cons,hb,Bool.false_and]at r2;refine G7 (U2 ?_);rw[GN,<-r2];simp;done)
  all_goals try (
   have hb:decide (0<=e/\e<=n.s+n.nodes.length)=true:=by (rw[decide_eq_true_eq];omega)
   rw[TA he,KJ,List.all_cons,hb,Bool.true_and]at r2;exact BL [] (by (conv=>whnf);exact ⟨rfl,rfl,rfl⟩) (ih3 (k+1) (by omega) ⟨by omega,r2⟩))
  all_goals (
   rw[bS (by omega)]at r2;first
    | (refine G7 (eqT ?_);rw[GN];exact ⟨h1,h2,by omega,p2.symm,r2.symm,by omega,by omega⟩)
    | (refine G7 (U2 ?_);rw[GN];omega))
end Go.b7

namespace Go.b7
open F
attribute [local irreducible] AA AF AM AC BT AQ A5 AZ BG A9 BS CN BH AU BI BR AB A1 AJ pw B1 BQ B9 CM CH BF BV BB B5
variable {L:Lib}
set_option maxHeartbeats 1000000
theorem AgF (n:Int):EJ (IntKind.i64.wrap n):=by
 unfold EJ;rw[IntKind.wrap_i64];omega
def DC (v m:Int):Int:=if m<1 then 0 else v%m
theorem RQ (W:o5 L) (v m:Int) (hv:EJ v) (hm:m<=9223372036854775807):Ev L 34 [.int .i64 v,.int .i64 m] (.int .i64 (DC v m)):=by
 unfold EJ at hv;refine Ev.x W.OH rfl rfl ?_;(repeat' ((first|(apply AG<;>intro hc<;>try (exfalso;omega))|(apply AR;omega)|(refine QA ?_ (λ_ _ _ => ?_) (λ_ _ _ _ => ?_);omega;all_goals try (exfalso;omega))|apply AE)<;>conv=>whnf))
 all_goals (refine CP ?_;unfold DC;first|rw[if_pos (by omega)]|rw[if_neg (by omega)])
 all_goals omega
def EP (l:List Int) (i:Int):Int:=if 0<=i/\i<l.length then l.getD i.toNat 0 else 0
theorem oA (W:o5 L) (l:List Int) (q:Bool) (i:Int):Ev L 35 [.sl q (l.map CQ),.int .i64 i] (.int .i64 (EP l i)):=by
 refine Ev.x W.OA rfl rfl ?_;(repeat' ((first|(apply AG<;>intro hc<;>try (exfalso;omega))|apply AY|(refine Z5 ?_ (λ_=>rfl) (λ e he => ?_);omega)|apply AE)<;>conv=>whnf))
 all_goals (refine CP ?_;unfold EP;first|rw[if_neg (by omega)]|(rw[if_pos (by omega),List.getD_eq_getElem?_getD,he];rfl))
theorem PA {v m:Int} (h:1<=m):0<=DC v m/\DC v m<m:=by
 unfold DC;rw[if_neg (by omega)];exact ⟨Int.emod_nonneg _ (by omega),Int.emod_lt_of_pos _ (by omega)⟩
def P5 (k least most above:Int):Wd :=
 let K:=DC k 1099511627776
 let b:=least+K%(most-least+1)
 let K1:=K/(most-least+1)
 ⟨b,max (b-1-above-K1%2) 0,1+K1/2%3,1+K1/2/3%2⟩
theorem oB (W:o5 L) (k least most above:Int) (hk:EJ k) (h1:1<=least/\least<=most/\most<=1000/\0<=above/\above<=1000):Ev L 36 [.int .i64 k,.int .i64 least,.int .i64 most,.int .i64 above] (.agg (F2 (P5 k least most above))):=by
 refine Ev.x W.OI rfl rfl ?_;have hr:=PA (v:=k) (m:=1099511627776) (by omega);have h3:0<=DC k 1099511627776/(most-least+1):=Int.ediv_nonneg hr.1 (by omega);have h4:DC k 1099511627776/(most-least+1)<=DC k 1099511627776:=Int.ediv_le_self _ hr.1;(repeat' ((first|(apply AG<;>intro hc<;>try (exfalso;omega))|(apply AR;omega)|(apply BM;omega)|(refine QA ?_ (λ_ _ _ => ?_) (λ_ _ _ _ => ?_);omega;all_goals try (exfalso;omega))|(refine KA ?_ ?_ (λ_ => ?_) (λ_ _ => ?_);omega;omega;all_goals try (exfalso;omega))|apply AE|refine AD (RQ W _ _ hk (by omega)) ?_)<;>conv=>whnf))
 all_goals (
  refine AW ?_ (by simp [A4,CB]);simp only[P5,AV.agg.injEq,List.cons.injEq,AV.int.injEq,true_and,and_true];omega)
def GJ (k:Int):Wd:=P5 k 6 12 2
def B8 (k:Int):Wd:=P5 k 6 9 1
theorem vD {k least most above:Int} (h:4<=least/\least<=most/\most<=24/\0<=above):WV (P5 k least most above)/\least<=(P5 k least most above).b/\(P5 k least most above).b<=most:=by
 have hr:=PA (v:=k) (m:=1099511627776) (by omega);have h1:0<=DC k 1099511627776%(most-least+1):=Int.emod_nonneg _ (by omega);have h2:DC k 1099511627776%(most-least+1)<most-least+1:=Int.emod_lt_of_pos _ (by omega);simp only[WV,P5];generalize DC k 1099511627776/(most-least+1)=d;omega
theorem Oh (k:Int):WV (GJ k)/\6<=(GJ k).b/\(GJ k).b<=12:=vD (by omega)
theorem kT (k:Int):WV (B8 k)/\6<=(B8 k).b/\(B8 k).b<=9:=vD (by omega)
theorem Sj (W:o5 L) (k:Int) (hk:EJ k):Ev L 37 [.int .i64 k] (.agg (F2 (GJ k))):=by
 refine Ev.x W.OD rfl rfl ?_;(repeat' ((first|apply AE|refine AD (oB W _ _ _ _ hk (by omega)) ?_)<;>conv=>whnf))
 exact AW rfl (by simp [A4,CB])
theorem Si (W:o5 L) (k:Int) (hk:EJ k):Ev L 38 [.int .i64 k] (.agg (F2 (B8 k))):=by
 refine Ev.x W.OC rfl rfl ?_;(repeat' ((first|apply AE|refine AD (oB W _ _ _ _ hk (by omega)) ?_)<;>conv=>whnf))
 exact AW rfl (by simp [A4,CB])
theorem Sl (W:o5 L) (w:Wd) (h:WV w):Ev L 41 [.agg (F2 w)] (.int .i64 (pw w.f)):=by
 unfold WV at h;refine Ev.x W.OG rfl rfl ?_;(repeat' ((first|(refine FN ?_ (λ_ _ => ?_);omega)|(apply B7;omega)|apply AE)<;>conv=>whnf))
 exact CP rfl
theorem QS {w:Wd} (h:WV w):TL w = -pw (w.b-1)/\E3 w=pw (w.b-1)-1/\1<=pw (w.b-1)/\pw (w.b-1)<=8388608:=by
 have h':=h;unfold WV at h';refine ⟨by rw[TL,if_pos h],by rw[E3,if_pos h],GF _,?_⟩;have:=JI (n:=w.b-1) (m:=23) (by omega)
 have e:pw 23=8388608:=by unfold pw;rfl
 omega
theorem sB {α:Type} (f:Nat->α) (n:Nat):(List.range (n+1)).map f=(List.range n).map f++[f n]:=by rw[List.range_succ,List.map_append];rfl
def KR (b v:Int):Int:=DC (IntKind.i64.wrap (v+b)) (2*b+1)-b
def HJ (b:Int) (l:List Int) (n:Nat):List Int:=(List.range n).map λ i:Nat=>KR b (EP l (i:Int))
theorem XX (W:o5 L) (b:Int) (hb:0<=b/\b<=1000000000000) (l:List Int) (q:Bool) (n:Nat) (hn:n<=1000000):Ev L 40 [.int .i64 b,.sl q (l.map CQ),.int .i64 n] (.sl false ((HJ b l n).map CQ)):=by
 refine Ev.x W.OB rfl rfl ?_;(repeat' (apply AE<;>conv=>whnf))
 refine EX (λ i _=>n-i) (λ(i:Nat) (o:List Int)=>i<=n/\o.length=i/\o=HJ b l i) (λ i o=>[(7,.row 7 0 1 0 o.length),(8,.int .i64 i)]) (λ i o=>[(7,7,.rw 1 (o.map CQ))]) [] [] 0 [] (by (conv=>whnf);exact ⟨rfl,rfl,rfl⟩) ⟨by omega,rfl,rfl⟩ ?_;intro i o ⟨p1,p2,p3⟩ ih;have hr:=PA (v:=IntKind.i64.wrap (EP l i+b)) (m:=2*b+1) (by omega);(repeat' ((first|(apply AG<;>intro hc<;>try (exfalso;omega))|(apply AR;omega)|(apply BM;omega)|(apply FY;omega)|apply iU|(refine C3 (λ_=>rfl) rfl ?_ ?_;(first|rfl|simp))|apply EF|apply AE|refine AD (oA W l _ _) ?_|refine AD (RQ W _ _ (AgF _) (by omega)) ?_)<;>conv=>whnf))
 ·refine FV (enc:=CQ) _ rfl rfl rfl (by omega) (by omega) ?_
  (conv=>whnf)
  (repeat' ((first|(apply AR;omega)|fail)<;>conv=>whnf))
  refine BL [(7,27)] (by (conv=>whnf);exact ⟨rfl,rfl,rfl⟩) (ih (i+1) _ (by omega) ⟨by omega,by simp [p2],?_⟩);rw[HJ,sB,p3];rfl
 ·have:i=n:=by omega
  subst this;exact AW (by rw[p3]) (by simp [A4,kH])
end Go.b7

namespace Go.b7
open F
attribute [local irreducible] AA AF AM AC BT AQ A5 AZ BG A9 BS CN BH AU BI BR AB A1 AJ pw B1 BQ B9 CM CH BF BV BB B5
variable {L:Lib} (n:Nt)
set_option maxHeartbeats 1000000
theorem QM {α:Type} {o F:List α} {i:Nat} {v:α} (hl:o.length=F.length) (h:o.take i=F.take i) (hv:F[i]? = some v):(o.set i v).length=F.length/\(o.set i v).take (i+1)=F.take (i+1):=by
 obtain ⟨hi,rfl⟩:=zS hv;refine ⟨by simp [hl],?_⟩;rw[List.take_add_one,List.take_add_one,<-h];congr 1
 ·rw[List.take_set_of_le (Nat.le_refl i)]
 ·rw[hv];simp [hl,hi]
theorem X1 {α:Type} {o F:List α} {i:Nat} (hl:o.length=F.length) (h:o.take i=F.take i) (hi:F.length<=i):o=F:=by
 rwa [List.take_of_length_le (by omega),List.take_of_length_le hi]at h
end Go.b7

namespace Go.b7
open F
attribute [local irreducible] AA AF AM AC BT AQ A5 AZ BG A9 BS CN BH AU BI BR AB A1 AJ pw B1 BQ B9 CM CH BF BV BB B5
variable {L:Lib}
set_option maxHeartbeats 4000000
theorem Qg (N:dt L) (S:IH) (n k:Nat) (h:S.Ok n k) (hn:n<=64):Ev L 130 [.agg (eS S)] (.bool true):=by
 have h1:=h.la;have h2:=h.lb;have h3:=h.lc;refine Ev.x N.L4 rfl rfl ?_;(repeat' ((first|(apply AG<;>intro hc<;>try (exfalso;omega))|apply AY|apply AE)<;>conv=>whnf))
 refine CK (λ i=>S.a.length-i) (λ(i:Nat)=>i<=S.a.length) (λ i=>[(28,.int .i64 i)]) (λ_=>[]) [] [] 0 (by (conv=>whnf);exact ⟨rfl,rfl,rfl⟩) (by omega) ?_;intro i p1 ih;by_cases hi:i<S.a.length
 ·obtain ⟨r,hr⟩ : ∃ r,S.a[i]? = some r:=⟨_,zE hi⟩
  have yh:S.a[(i:Int).toNat]? = some r:=hr;have gp:=h.lr r (zM hr);(repeat' ((first|(apply AG<;>intro hc<;>try (exfalso;omega))|(apply AR;omega)|apply AY|(refine BC (by assumption) ?_ rfl ?_;omega)|apply AE)<;>conv=>whnf))
  exact BO [] (ih (i+1) (by omega) (by omega))
 ·obtain rfl:i=S.a.length:=by omega
  clear ih;(repeat' ((first|(apply AG<;>intro hc<;>try (exfalso;omega))|apply AE)<;>conv=>whnf))
  exact G7 rfl
end Go.b7

namespace Go.b7
def I6 (vals:List Rat):List (Int × Int)->Rat
 | []=>0
 | t::ts=>(t.2:Rat)*vals.getD t.1.toNat 0+I6 vals ts
theorem uF (vals:List Rat) (t:Int × Int) : ∀ ts,I6 vals (ts++[t])=I6 vals ts+(t.2:Rat)*vals.getD t.1.toNat 0
 | []=>by simp only[List.nil_append,I6];grind
 | u::ts=>by simp only[List.cons_append,I6];rw[uF vals t ts];grind
theorem ZG {vals:List Rat} {ts:List (Int × Int)} {i:Nat} {t:Int × Int} (h:ts[i]? = some t):I6 vals (ts.take (i+1))=I6 vals (ts.take i)+(t.2:Rat)*vals.getD t.1.toNat 0:=by
 rw[List.take_add_one,h,Option.toList_some,uF]
theorem Bs.getD {k:Nat} {l:List Rat} (h:Bs k l) (i:Nat):Bt k (l.getD i 0):=by
 rw[List.getD_eq_getElem?_getD];cases e:l[i]? with
 | none=>exact Bt.zero k
 | some x=>exact h.at e
theorem Bs.sum {k j:Nat} {vals:List Rat} (hv:Bs k vals) : ∀ (ts:List (Int × Int)),(∀ t∈ts,Bt j ((t.2:Int):Rat))->Bt (ts.length*(j+k+1)) (I6 vals ts)
 | [],_=>Bt.zero _
 | t::ts,h=>by
  have h1:=(h t (by simp)).mul (hv.getD t.1.toNat);have h2:=Bs.sum hv ts (λ u hu=>h u (by simp [hu]));refine (h1.add h2).le ?_;rw[List.length_cons,Nat.succ_mul];omega
theorem Bt.ofInt {k:Nat} {z:Int} (h:z.natAbs<=2^k):Bt k ((z:Int):Rat):=⟨by rw[Rat.num_intCast];exact h,by rw[Rat.den_intCast];exact Nat.one_le_two_pow⟩
structure Z7 (l:List (List (Int × Int))):Prop where
 len : ∀ ts∈l,ts.length<=5
 cf : ∀ ts∈l,∀ t∈ts,t.2.natAbs<=2^24
end Go.b7

namespace Go.b7
variable {L:Lib}
def iW (fn:AFn) (z:Nat) (es:List (List AV)) (tm:Tm) (M:Mem):Prop:=match fn.res with
 | [.tmp t]=>match tg tm t with
  | .row k 0 z' 0 n=>match c7 M k with
   | some (_,.rw di es')=>z'=z/\di=z/\n=es.length/\es'=es/\EN es
   | _=>False
  | _=>False
 | _=>False
theorem OJ.x {f:Nat} {fn:AFn} {vs:List AV} {z:Nat} {es:List (List AV)} (hL:L f=some fn) (hp:Nat.beq vs.length fn.x5=true) (hd:KE vs=true) (h:AA L [.code fn.body] (CR 0 vs) [] (iW fn z es)):OJ L f vs z es:=by
 obtain ⟨n,c,j7,hr,σ,tm,M,hR,hq⟩:=h (λ_ _=>(0,0)) ⟨CR 0 vs,AH.emp⟩ ⟨λ j=>Or.inr (by rw[J5];exact UZ hd j),⟨(λ_ _ _ e=>by cases e),(λ_ _ _ e=>by simp [c5,c7]at e),(λ_ _ _ e=>by simp [c5,c7]at e),(λ_ _ _ _ _ _ e=>by simp [c5,c7]at e),(λ_ _ _ e=>by simp [c5,c7]at e)⟩⟩;unfold iW at hq;split at hq
 ·rename_i t lu
  split at hq
  ·rename_i k z' m rm
   split at hq
   ·rename_i s di es' hM
    obtain ⟨rfl,rfl,rfl,rfl,n6⟩:=hq;have hv:g6 j7.tm t = .row (σ k 0).1 (σ k 0).2 di 0 es'.length:=by
     rcases hR.tm t with e|e
     ·rw[rm]at e;cases e
     ·rw[e,rm];rfl
    have hb:=hR.sat.c9 k 0 (.rw di es') (by simp only[c5,hM]);obtain ⟨q,hq⟩:=GT.intro (r := .row (σ k 0).1 (σ k 0).2 di 0 es'.length) (o':=j7.own) hL (BJ.1 hp) ⟨n,c,j7,hr,by simp [lu,E6,hv,I1,H5],rfl⟩;refine ⟨q,?_⟩;simp only[hq,ON,AH.get,hb];rw[if_pos (show (A7.c9 σ k (.rw di es')).es.length=es'.length/\EN (A7.c9 σ k (.rw di es')).es from ⟨rfl,n6⟩)];rfl
   ·exact hq.elim
  ·exact hq.elim
 ·exact hq.elim
theorem Q2 {α:Type} {enc:α->List AV} {l:List α} {f z:Nat} {vs:List AV} {K:Nat->List (List AV)->Nat->Prop} (n:Nat) (h:OJ L f vs z (l.map enc)) (hn:n=l.length) (hk:K z (l.map enc) n):B5 L f vs K:=⟨z,_,n,h,by simpa using hn,hk⟩
end Go.b7



namespace Go.b7
open F
attribute [local irreducible] AA AF AM AC BT AQ A5 AZ BG A9 BS CN BH AU BI BR AB A1 AJ pw B1 BQ B9 CM CH BF BV BB B5
variable {L:Lib}
set_option maxHeartbeats 4000000
def CW (n:Nt):List (List (Int × Int)):=n.nodes.map Nd.ts
theorem VT {c:Wd} {s:Int} : ∀ {l:List Nd} {k j:Nat} {nd:Nd},HE c s k l=true->l[j]? = some nd->nd.ts.all (GQ c s (k+j))=true
 | [],_,_,_,_,h=>by simp at h
 | e::l,k,0,nd,hb,h=>by
  simp only[List.getElem?_cons_zero,Option.some.injEq]at h;subst h;simp only[HE,Bool.and_eq_true]at hb;exact hb.1.2
 | e::l,k,j+1,nd,hb,h=>by
  simp only[List.getElem?_cons_succ]at h;simp only[HE,Bool.and_eq_true]at hb;rw[show k+(j+1)=k+1+j by omega];exact VT hb.2 h
theorem UA (m p:Nat):(List.replicate m (0:Rat)).set p 1=D4 m p:=by
 refine List.ext_getElem? λ j => ?_
 simp only[D4,List.getElem?_set,List.getElem?_map,List.getElem?_replicate,List.length_replicate];by_cases h:j<m
 ·rw[List.getElem?_range h]
  by_cases e:p=j
  ·subst e;simp [h]
  ·simp [h,e];intro h3;omega
 ·rw[List.getElem?_eq_none (by simpa using h)]
  simp [h];intro e;omega
theorem Bs.unit (k m:Nat) (p:Int):Bs k (D4 m p):=by
 intro x hx;simp only[D4,List.mem_map]at hx;obtain ⟨a,_,rfl⟩:=hx;split
 ·exact Bt.one k
 ·exact Bt.zero k
abbrev eC:Option (List Rat)->List AV
 | none=>[.nil]
 | some l=>[.sl false (l.map eQ)]
def fz {α:Type} (z:α) (l:List α) (m:Nat):List α:=l++List.replicate (m-l.length) z
theorem cX {α:Type} {z:α} {l:List α} {m:Nat} (h:l.length<=m):(fz z l m).length=m:=by simp [fz];omega
theorem cY {α:Type} {z x:α} {l:List α} {m:Nat} (h:l.length<m):(fz z l m).set l.length x=fz z (l++[x]) m:=by
 unfold fz;obtain ⟨k,hk⟩ : ∃ k,m-l.length=k+1:=⟨m-l.length-1,by omega⟩;rw[List.set_append_right _ _ (by simp),hk,Nat.sub_self,List.replicate_succ,List.set_cons_zero,List.length_append,List.length_singleton,show m-(l.length+1)=k by omega,List.append_assoc];rfl
theorem Sr {α:Type} {z:α} {l:List α} {m:Nat} (h:l.length<m):(fz z l m)[l.length]? = some z:=by
 unfold fz;rw[List.getElem?_append_right (by omega),Nat.sub_self,List.getElem?_replicate,if_pos (by omega)]
theorem cW {α:Type} {z:α} {l:List α} {m:Nat} (h:l.length=m):fz z l m=l:=by simp [fz,h]
theorem uJ {α:Type} {l:List α} {i:Nat} {x:α} (h:l[i]? = some x):l.take (i+1)=l.take i++[x]:=by
 rw[List.take_add_one,h];rfl
end Go.b7

namespace Go.b7
def ER (m:List (List Rat)) (j:Nat):List Rat:=m.map λ r=>r.getD j 0
def HS (r:List Rat) (m:List (List Rat)) (n:Nat):List Rat:=(List.range n).map λ j=>CE r (ER m j)
def JH (a m:List (List Rat)) (n:Nat):List (List Rat):=a.map λ r=>HS r m n
def GY (m:List (List Rat)) (b:List Rat):List Rat:=m.map λ r=>CE r b
theorem Pm (m:List (List Rat)) (j:Nat):(ER m j).length=m.length:=by simp [ER]
theorem Xy (r:List Rat) (m:List (List Rat)) (n:Nat):(HS r m n).length=n:=by simp [HS]
theorem Xw (a m:List (List Rat)) (n:Nat):(JH a m n).length=a.length:=by simp [JH]
theorem qX (m:List (List Rat)) (b:List Rat):(GY m b).length=m.length:=by simp [GY]
structure Sq (n:Nat) (m:List (List Rat)):Prop where
 l:m.length=n
 r : ∀ r∈m,r.length=n
theorem Sq.at {n:Nat} {m:List (List Rat)} (h:Sq n m) {i:Nat} {r:List Rat} (hr:m[i]? = some r):r.length=n:=h.r r (zM hr)
theorem Sq.mul {n:Nat} {a:List (List Rat)} (h:a.length=n) (m:List (List Rat)):Sq n (JH a m n):=by
 refine ⟨by rw[Xw,h],λ r hr => ?_⟩;obtain ⟨x,_,rfl⟩:=List.mem_map.1 hr;exact Xy _ _ _
def Ms (k:Nat) (m:List (List Rat)):Prop := ∀ r∈m,Bs k r
theorem Ms.at {k:Nat} {m:List (List Rat)} (h:Ms k m) {i:Nat} {r:List Rat} (hr:m[i]? = some r):Bs k r:=h r (zM hr)
theorem Ms.col {k:Nat} {m:List (List Rat)} (h:Ms k m) (j:Nat):Bs k (ER m j):=by
 intro x hx;obtain ⟨r,hr,rfl⟩:=List.mem_map.1 hx;rw[List.getD_eq_getElem?_getD];cases e:r[j]? with
 | none=>exact Bt.zero k
 | some x=>exact (h r hr).at e
end Go.b7

namespace Go.b7
open F
attribute [local irreducible] AA AF AM AC BT AQ A5 AZ BG A9 BS CN BH AU BI BR AB A1 AJ pw B1 BQ B9 CM CH BF BV BB B5
variable {L:Lib}
set_option maxHeartbeats 16000000
def cf (l:List Rat) (prev:List (Option Rat)) (i:Nat):List (Option Rat):=(l.take i).map some++prev.drop i
end Go.b7

namespace Go.b7
theorem xB {R:List (Option (Nat × List (List AV)))} {i e z:Nat} {es:List (List AV)} {K:Option (Nat × List (List AV))->Prop} (he:e=i) (hi:i<R.length) (h:K (some (z,es))):B1 (R.set i (some (z,es))) e K:=by
 subst he;exact ⟨_,by rw[List.getElem?_set,if_pos rfl,if_pos hi],h⟩
theorem wZ {R:List (Option (Nat × List (List AV)))} {i e z:Nat} {es:List (List AV)} {K:Nat->List (List AV)->Prop} (he:e=i) (hi:i<R.length) (h:K z es):BQ (R.set i (some (z,es))) e K:=by
 subst he;exact ⟨z,es,by rw[List.getElem?_set,if_pos rfl,if_pos hi],h⟩
theorem Z6 {R:List (Option (Nat × List (List AV)))} {i e z:Nat} {es:List (List AV)} {K:List (Option (Nat × List (List AV)))->Prop} (he:e=i) (hi:i<R.length) (h:K (R.set i (some (z,es)))):B9 R e z es K:=by
 subst he;exact ⟨hi,h⟩
end Go.b7

namespace Go.b7
open F
attribute [local irreducible] AA AF AM AC BT AQ A5 AZ BG A9 BS CN BH AU BI BR AB A1 AJ pw B1 BQ B9 CM CH BF BV BB B5
variable {L:Lib}
set_option maxHeartbeats 16000000
def mz (Q:List (List Rat)) (n i:Nat):List (Option (Nat × List (List AV))):=fz none (ET 3 eQ (Q.take i)) n
theorem qZ {Q:List (List Rat)} {n i:Nat} (hi:i<=n):(mz Q n i).length=n:=by
 refine cX ?_;simp only[ET,List.length_map,List.length_take];omega
theorem rB (Q:List (List Rat)) (n:Nat):mz Q n 0=List.replicate n none:=by simp [mz,fz]
theorem rA {Q:List (List Rat)} {n i:Nat} {row:List Rat} (h:Q[i]? = some row) (hi:i<n):(mz Q n i).set i (some (3,row.map eQ))=mz Q n (i+1):=by
 have h1:=(zS h).1;have hl:(ET 3 eQ (Q.take i)).length=i:=by simp only[ET,List.length_map,List.length_take];omega
 have:=cY (z:=none) (l:=ET 3 eQ (Q.take i)) (m:=n) (x:=some (3,row.map eQ)) (by omega)
 rw[hl]at this;rw[mz,this,mz,uJ h];simp [ET]
theorem qY {Q:List (List Rat)} {n:Nat} (h:Q.length=n):mz Q n n=ET 3 eQ Q:=by
 rw[mz,List.take_of_length_le (by omega)];exact cW (by simp [ET,h])
def cz (row:List Rat) (n j:Nat):List Rat:=fz 0 (row.take j) n
theorem lC {row:List Rat} {n j:Nat} (hj:j<=n):(cz row n j).length=n:=by
 refine cX ?_;rw[List.length_take];omega
theorem lE (row:List Rat) (n:Nat):cz row n 0=List.replicate n 0:=by simp [cz,fz]
theorem lD {row:List Rat} {n j:Nat} {x:Rat} (h:row[j]? = some x) (hj:j<n):(cz row n j).set j x=cz row n (j+1):=by
 have h1:=(zS h).1;have hl:(row.take j).length=j:=by rw[List.length_take];omega
 have:=cY (z:=(0:Rat)) (l:=row.take j) (m:=n) (x:=x) (by omega)
 rw[hl]at this;rw[cz,this,cz,uJ h]
theorem kZ {row:List Rat} {n:Nat} (h:row.length=n):cz row n n=row:=by
 rw[cz,List.take_of_length_le (by omega)];exact cW h
end Go.b7

namespace Go.b7
open Go.ChangeShapes Go.WideShapes Go.ChangeAt Go.RowKit
inductive Ty where
 | int (k:IntKind)
 | bool
 | sl (e:Ty)
 | nil
 | cons (a r:Ty)
def Ty.cells:Ty->Nat
 | .int _=>1 | .bool=>1 | .sl _=>1
 | .nil=>0
 | .cons a r=>a.cells+r.cells
def GU:Ty->List AV->Prop
 | .int k,cs => ∃ n,cs=[.int k n]/\(Lit.int k n).wf=true
 | .bool,cs => ∃ b,cs=[.bool b]
 | .sl e,cs => ∃ es,cs=[.sl true es]/\es.length<=maxLen /\ ∀ x∈es,GU e x
 | .nil,cs=>cs=[]
 | .cons a r,cs => ∃ x y,cs=x++y/\GU a x/\GU r y
theorem GU.len : ∀ {ty:Ty} {cs:List AV},GU ty cs->cs.length=ty.cells
 | .int _,cs,h=>by obtain ⟨n,rfl,_⟩:=h;rfl
 | .bool,cs,h=>by obtain ⟨n,rfl⟩:=h;rfl
 | .sl _,cs,h=>by obtain ⟨n,rfl,_⟩:=h;rfl
 | .nil,cs,h=>by rw[show cs=[] from h];rfl
 | .cons a r,cs,h=>by obtain ⟨x,y,rfl,h1,h2⟩:=h;simp [Ty.cells,GU.len h1,GU.len h2]
def KM (P:Program):Nat->TypeId->Ty->Bool
 | 0,_,_=>false
 | n+1,t,ty=>match P.underlying t,ty with
  | some (.int k),.int k'=>decide (k=k')
  | some .bool,.bool=>true
  | some (.slice e),.sl ik=>KM P n e ik&&(P.cellsOf e == ik.cells&&decide (0<ik.cells))
  | some (.struct fs),ty=>go (KM P n) fs.toList 0 ty&&P.cellsOf t == ty.cells
  | _,_=>false
where
 go (ok:TypeId->Ty->Bool):List Field->Nat->Ty->Bool
  | [],_,.nil=>true
  | f::fs,off,.cons a r=>(f.offset == off&&(ok f.type a&&P.cellsOf f.type == a.cells))&&go ok fs (off+a.cells) r
  | _,_,_=>false
section
variable {H:Type} {enc:TypeId × Value->H} {P:Program} {w:World} {base:Nat} {spare:Nat->Bool} {held:Bool} {R:Bool->Nat->Prop}
def H0 (w:World) (R:Bool->Nat->Prop) (as:List AV) (cs:List Value):Prop:=as.length=cs.length /\ ∀ (j:Nat) (a:AV) (c:Value),as[j]? = some a->cs[j]? = some c->Rd w R a c
theorem H0.one {a:AV} {c:Value} (h:Rd w R a c):H0 w R [a] [c]:=by
 refine ⟨rfl,λ j a' c' h1 h2 => ?_⟩;cases j with
 | zero=>simp at h1 h2;subst h1 h2;exact h
 | succ j=>simp at h1
theorem H0.append {as bs:List AV} {cs ds:List Value} (h1:H0 w R as cs) (h2:H0 w R bs ds):H0 w R (as++bs) (cs++ds):=by
 refine ⟨by simp [h1.1,h2.1],λ j a c ha hc => ?_⟩;by_cases hj:j<as.length
 ·rw[List.getElem?_append_left hj]at ha
  rw[List.getElem?_append_left (by rw[<-h1.1];exact hj)]at hc;exact h1.2 j a c ha hc
 ·rw[List.getElem?_append_right (by omega)]at ha
  rw[List.getElem?_append_right (by rw[<-h1.1];omega),<-h1.1]at hc;exact h2.2 _ a c ha hc
theorem jI (a:Addr) (i:Nat) (h:a.spot=none):a.add i=⟨a.block,a.off+i,none⟩:=by
 obtain ⟨b,o,s⟩:=a;simp only at h;subst h;exact HI b o i
theorem rN (hR : ∀ b,b<w.heap.size->R true b) (m:Nat) (ih : ∀ (ty:Ty) (t:TypeId) (cs:List Value) (fuel:Nat) (x:DataW H × List MemPlace),KM P m t ty=true->DataW.trod enc P w base spare held fuel t cs=some x -> ∃ as,GU ty as/\H0 w R as cs)
  (n:Nat) (cs:List Value) : ∀ (fs:List Field) (off:Nat) (ty:Ty),KM.go P (KM P m) fs off ty=true->(∀ f∈fs,∃ y,DataW.trod enc P w base spare held n f.type ((cs.drop f.offset).take (P.cellsOf f.type))=some y)->off+ty.cells=cs.length -> ∃ as,GU ty as/\H0 w R as (cs.drop off)
 | [],off,ty,j6,_,hl=>by
  cases ty<;>simp only[KM.go,Bool.false_eq_true]at j6;simp only[Ty.cells]at hl;exact ⟨[],rfl,by rw[List.drop_of_length_le (by omega)];exact ⟨rfl,λ j a c h=>by simp at h⟩⟩
 | f::fs,off,ty,j6,hf,hl=>by
  cases ty<;>simp only[KM.go,Bool.false_eq_true,Bool.and_eq_true,beq_iff_eq]at j6;rename_i a r;obtain ⟨⟨h1,h2,h3⟩,h4⟩:=j6;simp only[Ty.cells]at hl;obtain ⟨y,hy⟩:=hf f List.mem_cons_self;rw[h1,h3]at hy;obtain ⟨Jn,g1,g2⟩:=ih a f.type _ n y h2 hy;obtain ⟨Jo,g3,g4⟩:=rN hR m ih n cs fs (off+a.cells) r h4 (λ f' h'=>hf f' (List.mem_cons_of_mem _ h')) (by omega);refine ⟨Jn++Jo,⟨Jn,Jo,rfl,g1,g3⟩,?_⟩;have:=g2.append g4
  rwa [show (cs.drop off).take a.cells++cs.drop (off+a.cells)=cs.drop off by rw[<-List.drop_drop,List.take_append_drop]]at this
theorem eR (hR : ∀ b,b<w.heap.size->R true b) : ∀ (m:Nat) (ty:Ty) (t:TypeId) (cs:List Value) (fuel:Nat) (x:DataW H × List MemPlace),KM P m t ty=true->DataW.trod enc P w base spare held fuel t cs=some x -> ∃ as,GU ty as/\H0 w R as cs
 | 0,_,_,_,_,_,h,_=>by simp [KM]at h
 | m+1,ty,t,cs,fuel,x,j6,h=>by
  have ih:=eR hR m;simp only[KM]at j6;split at j6
  ·rename_i k k' hu
   obtain rfl:k=k':=by simpa using j6
   obtain ⟨n,rfl,_,hw⟩:=DataW.trod_int hu h;exact ⟨[.int k n],⟨n,rfl,hw⟩,H0.one (.int k n)⟩
  ·rename_i hu
   cases fuel with
   | zero=>simp [DataW.trod]at h
   | succ fuel =>
    unfold DataW.trod at h;rw[hu]at h;split at h<;>simp_all
    exact ⟨_,⟨_,rfl⟩,H0.one (.bool _)⟩
  ·rename_i e ik hu
   simp only[Bool.and_eq_true,beq_iff_eq,decide_eq_true_eq]at j6;obtain ⟨h1,h2,h3⟩:=j6;rcases DataW.trod_slice hu h with ⟨rfl,_⟩|⟨a,len,cap,elems,rest,n,_,rfl,_,hb,hl,hm,hlen,bh,_,_⟩
   ·exact ⟨[.sl true []],⟨[],rfl,by simp,by simp⟩,H0.one (.fe true none 0)⟩
   ·have each : ∀ i,i<len -> ∃ as bg,GU ik as/\H0 w R as bg/\bg.length=ik.cells /\ ∀ j,j<ik.cells->w.cell? ((a.add (i*ik.cells)).add j)=bg[j]? := by
     intro i hi;have:=bh i hi
     rw[h2,zE (by omega),Option.bind_eq_some_iff]at this;obtain ⟨bg,hc,ht⟩:=this;obtain ⟨as,g1,g2⟩:=ih ik e bg n _ h1 ht;obtain ⟨_,q1,q2⟩:=World.cells?_some hc;exact ⟨as,bg,g1,g2,q1,q2⟩
    by_cases h0:len=0
    ·subst h0
     exact ⟨[.sl true []],⟨[],rfl,by simp,by simp⟩,H0.one (.fe true (some a) cap)⟩
    ·have vd:a.spot=none:=by
      obtain ⟨as,bg,_,_,q1,q2⟩:=each 0 (by omega);have:=q2 0 h3
      rw[zE (by omega)]at this;simpa [Addr.add] using World.cell?_spot this
     have jf:a.block<w.heap.size:=by
      obtain ⟨as,bg,_,_,q1,q2⟩:=each 0 (by omega);have:=q2 0 h3
      rw[zE (by omega)]at this;simpa [Addr.add] using RE this
     have pick : ∃ f:Nat->List AV × List Value,∀ i,i<len->GU ik (f i).1/\H0 w R (f i).1 (f i).2/\(f i).2.length=ik.cells /\ ∀ j,j<ik.cells->w.cell? ((a.add (i*ik.cells)).add j)=(f i).2[j]? := by
      refine ⟨λ i=>if hi:i<len then (Classical.choose (each i hi),Classical.choose (Classical.choose_spec (each i hi))) else ([],[]),λ i hi => ?_⟩;simp only[hi,dif_pos];exact Classical.choose_spec (Classical.choose_spec (each i hi))
     obtain ⟨f,hf⟩:=pick;have m9 : ∀ i e',((List.range len).map λ i=>(f i).1)[i]? = some e'->i<len/\e'=(f i).1:=by
      intro i e' he;rw[List.getElem?_map]at he;by_cases hi:i<len
      ·rw[List.getElem?_range hi]at he
       simp at he;exact ⟨hi,he.symm⟩
      ·rw[List.getElem?_eq_none (by simpa using hi)]at he
       cases he
     refine ⟨[.sl true ((List.range len).map λ i=>(f i).1)],⟨_,rfl,by simp;omega,λ x hx => ?_⟩,H0.one ?_⟩
     ·obtain ⟨i,hi,rfl⟩:=List.mem_map.1 hx
      exact (hf i (List.mem_range.1 hi)).1
     ·obtain ⟨ab,ao,as⟩:=a
      simp only at vd;subst vd;have ux:((List.range len).map λ i=>(f i).1).length=len:=by simp
      have:=Rd.sl (w:=w) (R:=R) true ((List.range len).map λ i=>(f i).1) ab ao ik.cells cap (λ i j=>((f i).2[j]?).getD default) (by intro e;have:=congrArg List.length e;simp at this;omega) h3 (hR ab jf) (by rw[ux];exact hl)
       (λ e' he=>by
        obtain ⟨i,hi,rfl⟩:=List.mem_map.1 he;exact (hf i (List.mem_range.1 hi)).1.len)
       (λ i e' he j c hc=>by
        obtain ⟨hi,rfl⟩:=m9 i e' he;obtain ⟨g1,g2,g3,g4⟩:=hf i hi;have hj:j<ik.cells:=by
         have:=(zS hc).1
         rwa [g1.len]at this
        have h5:=g4 j hj;rw[jI ⟨ab,ao,none⟩ (i*ik.cells) rfl,jI _ _ rfl]at h5;simp only at h5;rw[show ao+(i*ik.cells+j)=ao+i*ik.cells+j by omega,h5,zE (by omega)];rfl)
       (λ i e' he j c hc=>by
        obtain ⟨hi,rfl⟩:=m9 i e' he;obtain ⟨g1,g2,g3,g4⟩:=hf i hi;have hj:j<ik.cells:=by
         have:=(zS hc).1
         rwa [g1.len]at this
        have h6:(f i).2[j]? = some ((f i).2[j]'(by omega)):=zE _;rw[h6];exact g2.2 j c _ hc h6)
      rwa [ux]at this
  ·rename_i fs hu
   simp only[Bool.and_eq_true,beq_iff_eq]at j6;obtain ⟨h1,h2⟩:=j6;obtain ⟨xs,n,_,_,hl,hlen,hf⟩:=DataW.trod_struct hu h;have:=rN hR m ih n cs fs.toList 0 _ h1 (λ f jk=>by
    obtain ⟨i,hi,rfl⟩:=List.getElem_of_mem jk;have h5:=hf i fs.toList[i] (by simp);rw[h5,zE (by simpa [hlen] using hi)];exact ⟨_,rfl⟩) (by rw[hl,h2];omega)
   simpa using this
  ·exact absurd j6 (by simp)
theorem Yl {S:Nat->Prop} {ty:Ty} {t:TypeId} {v:Value} {d:DataW H} {ps:List MemPlace} {m:Nat} (j6:KM P m t ty=true) (hv:v.cells.toList=[v]) (h:DataW.Trod enc P w base spare held t v d ps) :
  ∃ a,GU ty [a]/\CA w.heap.size S ⟨λ_ _=>none,AH.emp,w⟩ a v:=by
 obtain ⟨fuel,hf⟩:=h;rw[hv]at hf;obtain ⟨as,h1,h2⟩:=eR (R:=safe w.heap.size S ⟨λ_ _=>none,AH.emp,w⟩) (λ b hb=>Or.inr (Or.inr ⟨rfl,hb⟩)) m ty t [v] fuel _ j6 hf;obtain ⟨a,rfl⟩ : ∃ a,as=[a]:=by
  have:=h2.1
  match as,this with
  | [a],_=>exact ⟨a,rfl⟩
 exact ⟨a,h1,.one (.rd (h2.2 0 a v rfl rfl))⟩
theorem Ym {S:Nat->Prop} {ty:Ty} {t:TypeId} {cs:Array Value} {d:DataW H} {ps:List MemPlace} {m:Nat} (j6:KM P m t ty=true) (h:DataW.Trod enc P w base spare held t (.agg cs) d ps) :
  ∃ as,GU ty as/\CA w.heap.size S ⟨λ_ _=>none,AH.emp,w⟩ (.agg as) (.agg cs):=by
 obtain ⟨fuel,hf⟩:=h;obtain ⟨as,h1,h2⟩:=eR (R:=safe w.heap.size S ⟨λ_ _=>none,AH.emp,w⟩) (λ b hb=>Or.inr (Or.inr ⟨rfl,hb⟩)) m ty t cs.toList fuel _ j6 hf;refine ⟨as,h1,?_⟩;have:=CA.agg (B:=w.heap.size) (S:=S) (m:=⟨λ_ _=>none,AH.emp,w⟩) as cs.toList ⟨h2.1,λ j c v hc hv => .rd (h2.2 j c v hc hv)⟩
 simpa using this
end
theorem zD {B:Nat} {S:Nat->Prop} {m:M} : ∀ (j:Nat) (c:AV) (v:Value),([]:List AV)[j]? = some c->([]:List Value)[j]? = some v->CA B S m c v:=λ j c v h=>by simp at h
theorem jM {B:Nat} {S:Nat->Prop} {m:M} {a:AV} {u:Value} {as:List AV} {us:List Value} (h:CA B S m a u) (hr : ∀ (j:Nat) (c:AV) (v:Value),as[j]? = some c->us[j]? = some v->CA B S m c v) :
  ∀ (j:Nat) (c:AV) (v:Value),(a::as)[j]? = some c->(u::us)[j]? = some v->CA B S m c v
 | 0,c,v,h1,h2=>by simp at h1 h2;subst h1 h2;exact h
 | j+1,c,v,h1,h2=>hr j c v (by simpa using h1) (by simpa using h2)
theorem Yw {P:Program} {num:Nat->Nat} {L:Lib} (hP:ProgOK P num L) {f:Nat} {vs:List AV} (h:Ev L f vs (.bool true)) {S:Nat->Prop} {w:World} {us:List Value} (hl:vs.length=us.length)
  (ha : ∀ (j:Nat) (c:AV) (v:Value),vs[j]? = some c->us[j]? = some v->CA w.heap.size S ⟨λ_ _=>none,AH.emp,w⟩ c v) :
  Calls P (num f) us.toArray w λ e w'=>e = .returned (.bool true)/\Below w.heap.size w w':=by
 obtain ⟨n,hn⟩:=h;refine ((Ou hP n).pure f vs _ hn S w us hl ha).mono ?_;rintro e w' ⟨u,rfl,hb,u6,_⟩
 refine ⟨?_,hb⟩;cases u6 with
 | ca nj=>cases nj with
  | one v8=>cases v8 with
   | rd ix=>cases ix;rfl
end Go.b7

namespace Go.b7
abbrev tI:Ty := .int .i64
theorem qD {α:Type} {enc:α->List AV} {p:α->Prop} : ∀ {es:List (List AV)},(∀ x∈es,∃ y,x=enc y/\p y) -> ∃ l:List α,es=l.map enc /\ ∀ y∈l,p y
 | [],_=>⟨[],rfl,by simp⟩
 | e::es,h=>by
  obtain ⟨y,rfl,hy⟩:=h e List.mem_cons_self;obtain ⟨l,rfl,hl⟩:=qD (enc:=enc) (p:=p) λ x hx=>h x (List.mem_cons_of_mem _ hx)
  exact ⟨y::l,rfl,by simpa using ⟨hy,hl⟩⟩
theorem Vo {α:Type} {enc:α->List AV} {p:α->Prop} {e:Ty} {cs:List AV} (he : ∀ x,GU e x -> ∃ y,x=enc y/\p y) (h:GU (.sl e) cs) : ∃ l:List α,cs=[.sl true (l.map enc)]/\l.length<9223372036854775808 /\ ∀ y∈l,p y:=by
 obtain ⟨es,rfl,hl,hx⟩:=h;obtain ⟨l,rfl,hp⟩:=qD (enc:=enc) (p:=p) λ x hm=>he x (hx x hm)
 refine ⟨l,rfl,?_,hp⟩;have:maxLen=9223372036854775807:=rfl
 simp at hl;omega
theorem Agx {n:Int} (h:(Lit.int .i64 n).wf=true):EJ n:=by
 simp only[Lit.wf,Bool.and_eq_true,decide_eq_true_eq]at h;have h1:IntKind.i64.min = -9223372036854775808:=rfl;have h2:IntKind.i64.max=9223372036854775807:=rfl;rw[h1,h2]at h;unfold EJ;constructor<;>omega
theorem VN {cs:List AV} (h:GU tI cs) : ∃ n,cs=CQ n/\EJ n:=by obtain ⟨n,rfl,hw⟩:=h;exact ⟨n,rfl,Agx hw⟩
theorem pB {cs:List AV} (h:GU (.sl tI) cs) : ∃ l:List Int,cs=[.sl true (l.map CQ)]/\l.length<9223372036854775808 /\ ∀ v∈l,EJ v:=Vo (λ_=>VN) h
end Go.b7



namespace Go.b7
open F
attribute [local irreducible] AA AF AM AC BT AQ A5 AZ BG A9 BS CN BH AU BI BR AB A1 AJ pw B1 BQ B9 CM CH BF BV BB B5
variable {L:Lib}
set_option maxHeartbeats 8000000
abbrev eM (m:List (List Rat)):List (List AV):=m.map λ r=>[AV.sl false (r.map eQ)]
theorem aQ (m:List (List Rat)):EN (eM m):=RG (λ r=>by simp only[CB,A4,and_true,true_and];exact KC r) m
theorem Pa (m:List (List Rat)):A4 (.sl false (eM m)):=by
 simp only[A4,true_and];exact aQ m
end Go.b7

namespace Go.b7
variable {L:Lib}
end Go.b7



namespace Go.b7
open F
attribute [local irreducible] AA AF AM AC BT AQ A5 AZ BG A9 BS CN BH AU BI BR AB A1 AJ pw B1 BQ B9 CM CH BF BV BB B5
variable {L:Lib}
set_option maxHeartbeats 16000000
abbrev KF (q:Bool) (m:List (List Rat)):List (List AV):=m.map λ r=>[AV.sl q (r.map eQ)]
end Go.b7

namespace Go.b7
theorem bN : ∀ a b:List Rat,CE a b=CE b a
 | [],[]=>rfl
 | [],_::_=>rfl
 | _::_,[]=>rfl
 | x::a,y::b=>by simp only[CE,bN a b,Rat.mul_comm]
def wQ (S:IH):Nat->List Rat
 | 0=>S.b
 | j+1=>GY S.a (wQ S j)
def conv (A h:Nat->Rat) (K:Nat):Nat->Rat
 | 0=>0
 | a+1=>conv A h K a+A a*h (K-a)
def IA (f:Nat->Rat):Nat->Rat
 | 0=>0
 | n+1=>IA f n+f n
theorem bP (x:Rat) : ∀ a b:List Rat,CE (a.map (· * x)) b=CE a b*x
 | [],b=>by simp [CE]
 | a::l,[]=>by rw[lY,lY,Rat.zero_mul]
 | a::l,b::k=>by
  simp only[List.map_cons,CE,bP x l k];grind
end Go.b7

namespace Go.b7
theorem Bt.Jg {k:Nat} {y:Rat} (h:Bt k y):Bt k y⁻¹:=by
 rw[Rat.inv_def];rcases Int.natAbs_eq y.num with e|e
 ·rw[e,Rat.divInt_ofNat]
  exact Bt.mk (by simpa using h.2) h.1
 ·rw[e,Rat.divInt_neg',Rat.divInt_ofNat]
  exact Bt.mk (by simpa using h.2) h.1
theorem Bt.na {k l:Nat} {x y:Rat} (hx:Bt k x) (hy:Bt l y):Bt (k+l) (x/y):=by
 rw[Rat.div_def];exact hx.mul hy.Jg
theorem Bt.Df {k:Nat} {x:Rat} (h:Bt k x):Bt k (-x):=⟨by rw[Rat.neg_num,Int.natAbs_neg];exact h.1,by rw[Rat.neg_den];exact h.2⟩
def V9 (s x:Rat):Rat:=s*(((s*x).den:Nat):Rat)
def F7 (r:List Rat):Rat:=r.foldl V9 1
theorem AfI (r:List Rat) (x:Rat):F7 (r++[x])=V9 (F7 r) x:=by rw[F7,List.foldl_append];rfl
theorem Xz {a b c:Rat} (h:c≠0) (e:a*c=b*c):a=b:=by
 have h1:=Rat.mul_inv_cancel c h;have:a*c*c⁻¹=b*c*c⁻¹:=by rw[e]
 rwa [Rat.mul_assoc,Rat.mul_assoc,h1,Rat.mul_one,Rat.mul_one]at this
section
variable {m0 m:List (List Rat)} {K W AhQ c:Nat} {P:List Nat} {odd:Bool} {l:Rat}
end
end Go.b7

namespace Go.b7
open F
attribute [local irreducible] AA AF AM AC BT AQ A5 AZ BG A9 BS CN BH AU BI BR AB A1 AJ pw B1 BQ B9 CM CH BF BV BB B5
variable {L:Lib}
set_option maxHeartbeats 16000000
def cw (n:Nat) (v:List Rat):List (Option Rat):=List.replicate (n-v.length) none++v.map some
end Go.b7

namespace Go.b7
variable {L:Lib}
end Go.b7

namespace Go.b7
open F
attribute [local irreducible] AA AF AM AC BT AQ A5 AZ BG A9 BS CN BH AU BI BR AB A1 AJ pw B1 BQ B9 CM CH BF BV BB B5
variable {L:Lib}
set_option maxHeartbeats 16000000
theorem On:dg 1=[1]:=by rw[JC (by decide)];simp [EY]
end Go.b7

namespace Go.b7
structure Pt where
 x:Rat
 y:Rat
 w:Rat
def Agd (g:List Pt) (f:Pt->Rat):Rat:=g.foldl (λ s p=>s+f p) 0
def rhs (g:List Pt) (k:Nat):Rat:=Agd g λ p=>p.w*p.x^k*p.y
def Wh (k:Nat) (x:Rat):Prop := ∃ z:Int,x=(z:Rat)/\z.natAbs<=2^k
theorem Wh.le {k l:Nat} {x:Rat} (h:Wh k x) (hl:k<=l):Wh l x:=by
 obtain ⟨z,e,b⟩:=h;exact ⟨z,e,Nat.le_trans b (Nat.pow_le_pow_right (by omega) hl)⟩
theorem Wh.mul {k l:Nat} {x y:Rat} (hx:Wh k x) (hy:Wh l y):Wh (k+l) (x*y):=by
 obtain ⟨z,rfl,b⟩:=hx;obtain ⟨u,rfl,c⟩:=hy;exact ⟨z*u,by rw[Rat.intCast_mul],by rw[Int.natAbs_mul,Nat.pow_add];exact Nat.mul_le_mul b c⟩
theorem Wh.add {k:Nat} {x y:Rat} (hx:Wh k x) (hy:Wh k y):Wh (k+1) (x+y):=by
 obtain ⟨z,rfl,b⟩:=hx;obtain ⟨u,rfl,c⟩:=hy;refine ⟨z+u,by rw[Rat.intCast_add],?_⟩;rw[Nat.pow_succ];have:=Int.natAbs_add_le z u
 omega
theorem Wh.zero (k:Nat):Wh k 0:=⟨0,rfl,Nat.zero_le _⟩
theorem Wh.bt {k:Nat} {x:Rat} (h:Wh k x):Bt k x:=by
 obtain ⟨z,rfl,b⟩:=h;exact Bt.ofInt b
theorem Wh.dot {k l:Nat} : ∀ {a b:List Rat},(∀ x∈a,Wh k x)->(∀ x∈b,Wh l x)->Wh (k+l+a.length) (CE a b)
 | [],b,_,_=>by cases b<;>exact Wh.zero _
 | x::a,[],_,_=>Wh.zero _
 | x::a,y::b,ha,hb=>by
  rw[CE,List.length_cons,<-Nat.add_assoc];exact (((ha x List.mem_cons_self).mul (hb y List.mem_cons_self)).le (by omega)).add (Wh.dot (λ z hz=>ha z (List.mem_cons_of_mem _ hz)) λ z hz=>hb z (List.mem_cons_of_mem _ hz))
theorem R3 (y:Rat):y*(y.den:Rat)=(y.num:Rat):=by
 have h:=Rat.num_divInt_den y;rw[Rat.divInt_eq_div]at h;have h0:((y.den:Int):Rat)≠0:=λ e=>by
  have:((y.den:Int):Rat)=((0:Int):Rat):=e
  have:=Rat.intCast_inj.1 this
  have:=y.den_pos
  omega
 have h2:=Rat.div_mul_cancel h0 (a:=(y.num:Rat));rw[h,Rat.intCast_natCast]at h2;exact h2
theorem bC {y:Rat} {T:Nat} {z:Int} (h:(T:Rat)*y=(z:Rat)):y.den ∣ T:=by
 have h1:y*(y.den:Rat)=(y.num:Rat):=R3 y;have h2:(((T:Int)*y.num:Int):Rat)=((z*(y.den:Int):Int):Rat):=by
  rw[Rat.intCast_mul,Rat.intCast_mul,<-h1,<-h,Rat.intCast_natCast,Rat.intCast_natCast,Rat.mul_assoc]
 have h3:=Rat.intCast_inj.1 h2;have h4:(y.den:Int) ∣ (T:Int)*y.num:=⟨z,by rw[h3,Int.mul_comm]⟩;have h5:y.den ∣ T*y.num.natAbs:=by
  have:=Int.natAbs_dvd_natAbs.2 h4
  simpa [Int.natAbs_mul] using this
 exact Nat.Coprime.dvd_of_dvd_mul_right (Nat.Coprime.symm y.reduced) h5
def hQ (S:IH):Nat->Rat
 | 0=>S.d
 | j+1=>CE S.c (wQ S j)
theorem Agp {r:List Rat} (h:O9 r=r) (hn:r.length≠0):r.getD (r.length-1) 0≠0:=by
 have hl:=uT r;rw[h]at hl;obtain ⟨n,mv⟩ : ∃ n,r.length=n+1:=⟨r.length-1,by omega⟩;rw[mv,H2]at hl;rw[mv,Nat.add_sub_cancel];intro h0;rw[if_pos h0]at hl;have:=UX r n
 omega
def E9 (B A:List Rat) (n:Nat):IH where
 a:=(List.range n).map λ i=>if i=0 then (List.range n).map λ k => -(A.getD (k+1) 0) else D4 n ((i-1:Nat):Int)
 b:=D4 n 0
 c:=(List.range n).map λ i=>B.getD (i+1) 0-B.getD 0 0*A.getD (i+1) 0
 d:=B.getD 0 0
def CJ (x:Rat):Rat:=if x.num<0 then -x else x
end Go.b7

namespace Go.b7
section
variable {M ky:Nat} {g:List Pt}
end
end Go.b7

namespace Go.b7
open F
attribute [local irreducible] AA AF AM AC BT AQ A5 AZ BG A9 BS CN BH AU BI BR AB A1 AJ pw B1 BQ B9 CM CH BF BV BB B5
variable {L:Lib}
set_option maxHeartbeats 16000000
theorem Xp (x:Rat):qv false (dg x.num.natAbs) (dg x.den)=CJ x:=by
 unfold CJ;split
 ·rename_i h
  have:=F5 (-x)
  rw[Rat.neg_num,Int.natAbs_neg,Rat.neg_den,show decide (-x.num<0)=false from decide_eq_false (by omega)]at this;exact this
 ·rename_i h
  have:=F5 x
  rw[show decide (x.num<0)=false from decide_eq_false h]at this;exact this
theorem U4 (N:v9 L) {x:Rat} {k:Nat} (hx:Bt k x) (hk:k<2199023255552):Ev L 256 [.agg (eQ x)] (.agg (eQ (CJ x))):=by
 have hs:=hx.sm hk;have hT:=cL N.toa6 false false false (dg x.num.natAbs) (dg x.den) (hs.1.le (by omega)) (hs.2.le (by omega));rw[Xp]at hT;refine Ev.x N.MW rfl rfl ?_;(repeat' ((first|apply AE|refine AD (hT) ?_)<;>conv=>whnf))
 exact AW rfl (DH _)
theorem Qu (z:Int):eQ (z:Rat)=[.bool (decide (z<0)),.sl false ((dg z.natAbs).map AL),.sl false [[.int .u32 1]]]:=by
 simp only[eQ,rQ,Rat.num_intCast,Rat.den_intCast,On];rfl
end Go.b7



namespace Go.b7
open F
attribute [local irreducible] AA AF AM AC BT AQ A5 AZ BG A9 BS CN BH AU BI BR AB A1 AJ pw B1 BQ B9 CM CH BF BV BB B5
variable {L:Lib}
set_option maxHeartbeats 16000000
end Go.b7

namespace Go.b7
end Go.b7

namespace Go.b7
open F
attribute [local irreducible] AA AF AM AC BT AQ A5 AZ BG A9 BS CN BH AU BI BR AB A1 AJ pw B1 BQ B9 CM CH BF BV BB B5
variable {L:Lib}
set_option maxHeartbeats 16000000
end Go.b7

namespace Go.b7
end Go.b7
