/-
  Natural numbers (layer 1): greatest common divisors.
-/
import Derived.Test.YtfnglkabkfmjcaaGreatB9
import Derived.Test.YtfnglkabkfmjcaaGreatB8
import Derived.Test.YtfnglkabkfmjcaaGreatB7
import Derived.Test.YtfnglkabkfmjcaaGreatB3
import Derived.Test.YtfnglkabkfmjcaaGreatB4
import Derived.Test.YtfnglkabkfmjcaaGreatB1
import Derived.Test.YtfnglkabkfmjcaaGreatB5
import Derived.ProofKit
import Derived.OpenShut
import Derived.ChangeOld
import Derived.WalkKit
import Derived.WideShapes
import Derived.ChangeArms
set_option linter.unusedSimpArgs false
set_option linter.unusedVariables false
set_option linter.unnecessarySimpa false
namespace Go.e8
open F
attribute [local irreducible] AA AF AP AD CB AU AW BA A6 B2 AM BO B8 C8 BN A3 BX B9 AB A8 AJ pw BK BI CJ CK CU CR CI BT CT
set_option maxHeartbeats 4000000
variable {L:Lib}
theorem wU {k':IntKind} {a:Int} {K:AV->Prop} (hk:K (.int .i64 (a/4294967296))):AD .shr .i64 a k' 32 K:=by
 refine Ae7 (by omega) ?_;have:pw 32=4294967296:=by decide +kernel
 rw[this];exact hk
theorem wI {t:Int} {K:Int->Prop} (hk:K (fW t:Int)):AU .u32 t K:=by
 unfold AU;rw[IntKind.wrap_u32,<-pO];exact hk
section
variable {k':IntKind} {a b:Nat} {K:AV->Prop}
theorem Ae6 {i:Nat} (hi:i<2) (ha:a<4294967296) (hk:K (.int .u64 ((a*4294967296^i:Nat):Int))):AD .shl .u64 (a:Int) k' (32*(i:Int)) K:=by
 rcases i with _|_|i
 ·exact YB (s:=0) (by omega) (by omega) hk
 ·exact YB (s:=32) (by omega) (by omega) hk
 ·omega
end
theorem Td {x y M N:Int} (hx : -M<=x/\x<=M) (hy : -N<=y/\y<=N) : -(M*N)<=x*y/\x*y<=M*N:=by
 have h1:x.natAbs<=M.natAbs:=by omega
 have h2:y.natAbs<=N.natAbs:=by omega
 have h3:=Nat.mul_le_mul h1 h2;rw[<-Int.natAbs_mul,<-Int.natAbs_mul]at h3;have h4:0<=M*N:=Int.mul_nonneg (by omega) (by omega);omega
theorem qY (N:j4 L) (a b:List Nat) (q1 q2:Bool) (hA:A1 a) (hB:A1 b) (la:a.length<=549755813888) (lb:b.length<=549755813888) (h0:val b≠0) :
  Ev L 75 [.sl q1 (a.map AL),.sl q2 (b.map AL)] (.j9 [.sl false ((dg (val a/val b)).map AL),.sl false ((dg (val a%val b)).map AL),.int .i64 0]):=by
 have l1:=EX hA;have l2:=EX hB;have hp:=gB h0;refine Ev.x N.T3 rfl rfl ?_;(repeat' ((first|(apply AG<;>intro hc<;>try (exfalso;omega))|apply AR|apply AE|refine OR (QH N a _ hA (by omega)) ?_|refine OR (QH N b _ hB (by omega)) ?_|refine AC (rB N _ _ _ _ h0 (by omega) (by omega)) ?_)<;>conv=>whnf))
 refine AX rfl ?_;simp only[A0,CE,and_true,true_and];exact ⟨CQ _,CQ _⟩
theorem Rh (N:j4 L) (V:Nat) (q:Bool) (hl:(dg V).length<=2):Ev L 76 [.sl q ((dg V).map AL)] (.int .u64 (V:Int)):=by
 have hV:=XN.1 hl;have hD:=DW V;have hv:=BW V;refine Ev.x N.UD rfl rfl ?_;generalize dg V=l at *;(repeat' ((first|apply AR|apply AE)<;>conv=>whnf))
 refine F8 (λ i _=>l.length-i) (λ(i:Nat) (a:Nat)=>i<=l.length/\a=val (l.take i)) (λ i a=>[(3,.int .u64 (a:Int)),(8,.int .i64 i)]) (λ_ _=>[]) [] [] 0 0 (by (conv=>whnf);exact ⟨rfl,rfl,rfl⟩) ⟨by omega,rfl⟩ ?_;intro i a ⟨p1,p2⟩ ih;by_cases hi:i<l.length
 ·obtain ⟨d,hd⟩ : ∃ d,l[i]? = some d:=⟨_,zE hi⟩
  have dz:=hD.at hd;have h1:=EC hd;have h2:=E3 (hD.take i);have h3:=E3 (hD.take (i+1));rw[List.length_take,Nat.min_eq_left (by omega)]at h2 h3;have h4:4294967296^(i+1)<=4294967296^2:=Nat.pow_le_pow_right (by omega) (by omega);(repeat' ((first|(apply AG<;>intro hc<;>try (exfalso;omega))|(apply FN;omega)|(apply CP;omega)|(refine A9 (by assumption) ?_ rfl ?_;omega)|apply AE)<;>conv=>whnf))
  refine Ae6 (by omega) dz ?_;(conv=>whnf)
  rw[Nat.mul_comm d];refine jV (32*i) (by rw[Nat.pow_mul];exact Nat.mul_mod_right _ _) (by rw[Nat.pow_mul,p2];exact h2) (by omega) ?_;(conv=>whnf)
  (repeat' ((first|(apply AY;omega)|fail)<;>conv=>whnf))
  exact B1 [] (by (conv=>whnf);exact ⟨rfl,rfl,rfl⟩) (ih (i+1) _ (by omega) ⟨by omega,by rw[h1,p2]⟩)
 ·obtain rfl:i=l.length:=by omega
  clear ih;(repeat' ((first|(apply AG<;>intro hc<;>try (exfalso;omega))|apply AE)<;>conv=>whnf))
  rw[DD (Nat.le_refl _)]at p2;exact CX (by omega)
theorem oH {f:Nat} {vs:List AV} {tm:Tm} {M:Mem} {K:AV->Mem->Prop} {v:AV} (h:A8 L f vs tm M (λ r M'=>r=v/\M'=M)) (hk:K v M):A8 L f vs tm M K:=by
 unfold A8 at h ⊢;intro σ own hs;obtain ⟨r,n0,σ',M',h1,h2,h3,rfl,rfl⟩:=h σ own hs;exact ⟨_,n0,σ',_,h1,h2,h3,hk⟩
theorem Rg (N:j4 L) (a:List Nat) (q:Bool) (n s:Nat) (hD:A1 a) (hn:3<=n) (hl:a.length<=n) (Ju:n<=549755813888) (hs:s<=31) (m7:val a*2^s<4294967296^n) :
  Ev L 78 [.sl q (a.map AL),.int .i64 (n:Int),.int .u64 (s:Int)] (.int .i64 ((val a/dN n s:Nat):Int)):=by
 have b1:=ZO hD (n-1);have b2:=ZO hD (n-2);have b3:=ZO hD (n-3);have wy:=Tj hD hn hl rfl rfl m7;have heq:=Ti (s:=s) hD hn hl hs rfl rfl rfl;obtain ⟨f1,f2,f3,f4⟩:=bN (s:=s) b3 (by omega);refine Ev.x N.UA rfl rfl ?_;(repeat' ((first|(apply AZ;omega)|(apply B3;omega)|apply AE)<;>conv=>whnf))
 refine oH (v := .int .u64 ((a.getD (n-1) 0:Nat):Int)) ?_ ?_
 ·refine GF 1000 N.I8 rfl rfl ?_
  (repeat' ((first|(apply AG<;>intro hc<;>try (exfalso;omega))|(apply CP;omega)|apply AR|(refine ZC (by assumption) ?_ (λ e he hb => ?_);omega)|apply AE)<;>conv=>whnf))
  ·refine ⟨rfl,_,rfl,?_,rfl⟩
   rw[show ((n:Int)-1).toNat=n-1 by omega]at he;rw[GW he];rfl
  ·refine ⟨rfl,_,rfl,?_,rfl⟩
   rw[<-ZP (show a.length<=n-1 by omega)];rfl
 (conv=>whnf)
 (repeat' ((first|(apply AZ;omega)|(apply B3;omega)|(apply XA;omega))<;>conv=>whnf))
 refine oH (v := .int .u64 ((a.getD (n-2) 0:Nat):Int)) ?_ ?_
 ·refine GF 1000 N.I8 rfl rfl ?_
  (repeat' ((first|(apply AG<;>intro hc<;>try (exfalso;omega))|(apply CP;omega)|apply AR|(refine ZC (by assumption) ?_ (λ e he hb => ?_);omega)|apply AE)<;>conv=>whnf))
  ·refine ⟨rfl,_,rfl,?_,rfl⟩
   rw[show ((n:Int)-2).toNat=n-2 by omega]at he;rw[GW he];rfl
  ·refine ⟨rfl,_,rfl,?_,rfl⟩
   rw[<-ZP (show a.length<=n-2 by omega)];rfl
 (conv=>whnf)
 generalize a.getD (n-1) 0=d1 at *;generalize a.getD (n-2) 0=d2 at *;(repeat' ((first|(apply X9;omega)|fail)<;>conv=>whnf))
 refine YB (by omega) wy ?_;(conv=>whnf)
 generalize hT:(d1*4294967296+d2)*2^s=T at *;(repeat' ((first|(apply AZ;omega)|(apply B3;omega))<;>conv=>whnf))
 refine oH (v := .int .u64 ((a.getD (n-3) 0:Nat):Int)) ?_ ?_
 ·refine GF 1000 N.I8 rfl rfl ?_
  (repeat' ((first|(apply AG<;>intro hc<;>try (exfalso;omega))|(apply CP;omega)|apply AR|(refine ZC (by assumption) ?_ (λ e he hb => ?_);omega)|apply AE)<;>conv=>whnf))
  ·refine ⟨rfl,_,rfl,?_,rfl⟩
   rw[show ((n:Int)-3).toNat=n-3 by omega]at he;rw[GW he];rfl
  ·refine ⟨rfl,_,rfl,?_,rfl⟩
   rw[<-ZP (show a.length<=n-3 by omega)];rfl
 (conv=>whnf)
 generalize a.getD (n-3) 0=d3 at *;skip
 refine YB (by omega) f4 ?_;(conv=>whnf)
 (repeat' (apply FJ<;>conv=>whnf))
 rw[bM]at f2;refine wS s (by rw[<-hT];exact Nat.mul_mod_left _ _) f2 (by have:=mN (k:=d1*4294967296+d2) (show s<=64 by omega) (by omega);omega) ?_;(conv=>whnf)
 (repeat' ((first|apply Ae3|(apply aA;omega))<;>conv=>whnf))
 rw[heq];exact CX rfl
theorem Aja (N:j4 L) (P Q:Int) (hP:0<=P/\P<=4611686018427387904) (hQ:0<=Q/\Q<=4611686018427387904) : ∃ r,Ev L 79 [.int .i64 P,.int .i64 Q] r /\ ∃ a b c d:Int,(oJ a b c d/\(-2147483647<=a/\a<=2147483647)/\(-2147483647<=b/\b<=2147483647)/\(-2147483647<=c/\c<=2147483647)/\(-2147483647<=d/\d<=2147483647))/\(b≠0->fE P Q a b c d)/\r = .j9 [.int .i64 a,.int .i64 b,.int .i64 c,.int .i64 d]:=by
 refine Ev.xE N.T7 rfl rfl ?_;(repeat' (apply AE<;>conv=>whnf))
 refine Aej (λ_ _ _ _ _ q=>(q+2147483648).toNat) (λ(a b c d p q:Int)=>aD P Q a b c d p q/\((-2147483647<=a/\a<=2147483647)/\(-2147483647<=b/\b<=2147483647)/\(-2147483647<=c/\c<=2147483647)/\(-2147483647<=d/\d<=2147483647))/\(p<=4611686018427387904/\q<=4611686018427387904)/\cF P Q a b c d/\(b≠0->fE P Q a b c d)) (λ a b c d p q=>[(0,.int .i64 p),(1,.int .i64 q),(4,.int .i64 a),(5,.int .i64 b),(6,.int .i64 c),(7,.int .i64 d)]) (λ_ _ _ _ _ _=>[]) [] [] 1 0 0 1 P Q (by (conv=>whnf);exact ⟨rfl,rfl,rfl⟩) ⟨aD.start hP.1 hQ.1,by omega,by omega,cF.start P Q,λ h=>absurd rfl h⟩ ?_;intro a b c d p q ⟨p1,⟨⟨p2,p2'⟩,⟨p3,p3'⟩,⟨p4,p4'⟩,⟨p5,p5'⟩⟩,⟨p6,p7⟩,p8,p9⟩ ih;have g1:=p1.pa;have g2:=p1.pb;have g3:=p1.qc;have g4:=p1.qd;by_cases ko:q+c=0
 ·(repeat' ((first|(apply AG<;>intro hc<;>try (exfalso;omega))|(apply AY;omega)|apply AE)<;>conv=>whnf))
  refine ⟨.j9 [.int .i64 a,.int .i64 b,.int .i64 c,.int .i64 d],?_,a,b,c,d,⟨p1.sg,by omega⟩,p9,rfl⟩;(conv=>whnf)
  exact AX rfl (by simp [A0,CE])
 by_cases Aa:q+d=0
 ·(repeat' ((first|(apply AG<;>intro hc<;>try (exfalso;omega))|(apply AY;omega)|apply AE)<;>conv=>whnf))
  refine ⟨.j9 [.int .i64 a,.int .i64 b,.int .i64 c,.int .i64 d],?_,a,b,c,d,⟨p1.sg,by omega⟩,p9,rfl⟩;(conv=>whnf)
  exact AX rfl (by simp [A0,CE])
 by_cases hff:(p+a)/(q+c)=(p+b)/(q+d)
 ·obtain ⟨s1,s2,s3,s4⟩:=p1.step ko Aa rfl hff
  have s5:=s4 p8;have s6:=s5.half;have s7:=s1.qc;by_cases fo:2147483647<(p+a)/(q+c)
  ·(repeat' ((first|(apply AG<;>intro hc<;>try (exfalso;omega))|(apply AY;omega)|(refine IO ?_ ?_ (λ_ => ?_) (λ_ _ => ?_);omega;omega;all_goals try (exfalso;omega))|apply AE)<;>conv=>whnf))
   refine ⟨.j9 [.int .i64 a,.int .i64 b,.int .i64 c,.int .i64 d],?_,a,b,c,d,⟨p1.sg,by omega⟩,p9,rfl⟩;(conv=>whnf)
   exact AX rfl (by simp [A0,CE])
  ·have t1:=Td (x:=(p+a)/(q+c)) (y:=c) (M:=2147483647) (N:=2147483647) (by omega) (by omega)
   have t2:=Td (x:=(p+a)/(q+c)) (y:=d) (M:=2147483647) (N:=2147483647) (by omega) (by omega);(repeat' ((first|(apply AG<;>intro hc<;>try (exfalso;omega))|(apply AY;omega)|(apply B3;omega)|(apply FN;omega)|(refine IO ?_ ?_ (λ_ => ?_) (λ_ _ => ?_);omega;omega;all_goals try (exfalso;omega))|(apply CB.neg;omega)|apply AE)<;>conv=>whnf))
   all_goals first
    | exact B1 [] (by (conv=>whnf);exact ⟨rfl,rfl,rfl⟩) (ih _ _ _ _ _ _ (by omega) ⟨s1,by omega,by omega,s6,λ_=>s5⟩)
    |(refine ⟨.j9 [.int .i64 a,.int .i64 b,.int .i64 c,.int .i64 d],?_,a,b,c,d,⟨p1.sg,by omega⟩,p9,rfl⟩
      (conv=>whnf)
      exact AX rfl (by simp [A0,CE]))
 ·(repeat' ((first|(apply AG<;>intro hc<;>try (exfalso;omega))|(apply AY;omega)|(refine IO ?_ ?_ (λ_ => ?_) (λ_ _ => ?_);omega;omega;all_goals try (exfalso;omega))|apply AE)<;>conv=>whnf))
  refine ⟨.j9 [.int .i64 a,.int .i64 b,.int .i64 c,.int .i64 d],?_,a,b,c,d,⟨p1.sg,by omega⟩,p9,rfl⟩;(conv=>whnf)
  exact AX rfl (by simp [A0,CE])
theorem Ajb (N:j4 L) (x y:List Nat) (q1 q2:Bool) (f g:Int) (hX:A1 x) (hY:A1 y) (hl:y.length<=x.length) (lx:x.length<=549755813888) (hs:ZA f g) (R:Nat) (hR:(R:Int)=f*val x+g*val y) (Li:R<=val x) :
  Ev L 80 [.sl q1 (x.map AL),.sl q2 (y.map AL),.int .i64 f,.int .i64 g] (.sl false ((dg R).map AL)):=by
 refine Ev.x N.T8 rfl rfl ?_;(repeat' ((first|apply AR|apply AE)<;>conv=>whnf))
 refine EV (enc:=AL) 0 x.length rfl rfl (by omega) ?_;(conv=>whnf)
 (repeat' (apply AR<;>conv=>whnf))
 refine GQ (λ i _ _=>x.length-i) (λ(i:Nat) (o:List Nat) (c:Int)=>i<=x.length/\o.length=x.length/\A1 o /\ -2147483648<=c/\c<=2147483648/\(val (o.take i):Int)+((4294967296^i:Nat):Int)*c=f*val (x.take i)+g*val (y.take i)) (λ i o c=>[(10,.int .i64 c),(19,.int .i64 i)]) (λ i o c=>[(16,16,.rw 1 (o.map AL))]) [] [] 0 (List.replicate x.length 0) 0 (by (conv=>whnf);exact ⟨rfl,rfl,rfl⟩) ⟨by omega,by simp,J3 _,by omega,by omega,by simp [val]⟩ ?_;intro i o c ⟨p1,p2,p3,p4,p5,p6⟩ ih;by_cases hi:i<x.length
 ·obtain ⟨d,hd⟩ : ∃ d,x[i]? = some d:=⟨_,zE hi⟩
  have dz:=hX.at hd;have h1:=EC hd;by_cases hy:i<y.length
  ·obtain ⟨e,he⟩ : ∃ e,y[i]? = some e:=⟨_,zE hy⟩
   have Mn:=hY.at he;have h2:=EC he;obtain ⟨r1,r2,r3⟩:=hs.rng dz Mn;have l9:=yR (d:=d) (e:=e) p6 rfl;(repeat' ((first|(apply AG<;>intro hc<;>try (exfalso;omega))|(apply AY;omega)|(apply FN;omega)|(apply aA;omega)|apply AR|(refine A9 (by assumption) ?_ rfl ?_;omega)|apply AE)<;>conv=>whnf))
   generalize htt:f * ↑d+c+g * ↑e=t at *;refine wI ?_;(conv=>whnf)
   (repeat' ((first|(apply AZ;omega)|fail)<;>conv=>whnf))
   refine FB (by omega) ?_;(conv=>whnf)
   refine wU ?_;(conv=>whnf)
   (repeat' ((first|(apply AY;omega)|fail)<;>conv=>whnf))
   refine B1 [] (by (conv=>whnf);exact ⟨rfl,rfl,rfl⟩) (ih (i+1) _ _ (by omega) ⟨by omega,by simpa using p2,p3.set _ (yQ t),by omega,by omega,?_⟩);rw[F7 (by omega),h1,h2,Nat.pow_succ];simp only[Int.natCast_add,Int.natCast_mul,pO];exact l9
  ·have h2:=oD (y:=y) (i:=i) (by omega)
   obtain ⟨r1,r2,r3⟩:=hs.rng (e:=0) dz (by omega);have l9:=yR (d:=d) (e:=0) p6 rfl;rw[Int.mul_zero,Int.add_zero]at l9;have r4 : -9223372030412324865<=f*(d:Int)/\f*(d:Int)<=9223372030412324865:=r1;(repeat' ((first|(apply AG<;>intro hc<;>try (exfalso;omega))|(apply AY;omega)|(apply FN;omega)|(apply aA;omega)|apply AR|(refine A9 (by assumption) ?_ rfl ?_;omega)|apply AE)<;>conv=>whnf))
   generalize htt:f * ↑d+c=t at *;refine wI ?_;(conv=>whnf)
   (repeat' ((first|(apply AZ;omega)|fail)<;>conv=>whnf))
   refine FB (by omega) ?_;(conv=>whnf)
   refine wU ?_;(conv=>whnf)
   (repeat' ((first|(apply AY;omega)|fail)<;>conv=>whnf))
   refine B1 [] (by (conv=>whnf);exact ⟨rfl,rfl,rfl⟩) (ih (i+1) _ _ (by omega) ⟨by omega,by simpa using p2,p3.set _ (yQ t),by omega,by omega,?_⟩);rw[F7 (by omega),h1,h2,Nat.pow_succ];simp only[Int.natCast_add,Int.natCast_mul,pO];rw[Int.mul_zero,Int.add_zero]at l9;exact l9
 ·obtain rfl:i=x.length:=by omega
  clear ih;rw[DD (by omega),DD (Nat.le_refl _),DD (by omega)]at p6;have hov:=E3 p3;have hxv:=E3 hX;rw[p2]at hov;have hVR:val o=R:=by
   have:=Agq hov p6 (by omega) (by omega)
   omega
  have mf:=EX p3;rw[<-p2,<-hVR];(repeat' ((first|(apply AG<;>intro hc<;>try (exfalso;omega))|apply AE|refine jN N (by assumption) (by omega) rfl (by first|rfl|omega|assumption) ?_)<;>conv=>whnf))
  refine H7 (enc:=AL) (λ_=>rfl) (by omega) ?_;(conv=>whnf)
  refine AX ?_ (by simp only[A0,true_and];exact CQ _);rw[List.drop_zero,jD p3]
theorem Aje (N:j4 L) (X Y:Nat) (wq:Y<=X) (hy:3<=(dg Y).length) (lx:(dg X).length<=549755813888) : ∃ r,Ev L 81 [.sl false ((dg X).map AL),.sl false ((dg Y).map AL)] r /\ ∃ A B:Nat,(B<Y/\B<=A/\A<=X/\Nat.gcd A B=Nat.gcd X Y)/\r = .j9 [.sl false ((dg A).map AL),.sl false ((dg B).map AL)]:=by
 have hY0:Y≠0:=λ h=>by rw[h,E2]at hy;simp at hy
 have ym:X≠0:=by omega
 have hlen:=ZJ wq;have hdv:=λ q q'=>rB N X Y q q' hY0 lx (by omega)
 have d1:=DW X;have d2:=DW Y;have v1:=BW X;have v2:=BW Y;obtain ⟨xt,Pn,Po⟩:=qG ym;have Io:=d1.at Pn;obtain ⟨b1,b2,b3,b4⟩:=sV Po Io;have Hh:=Qt N xt Io;generalize hs:32-s8 xt=s at *;have ff:s<=31:=by omega
 obtain ⟨n1,n2⟩:=sQ d1 Pn (by omega) ff b3 b4;have ug:=λ(f g:Int) (R:Nat) (hs:ZA f g) (h1:(R:Int)=f*val (dg X)+g*val (dg Y)) (h2:R<=val (dg X)) (q q':Bool)=>Ajb N (dg X) (dg Y) q q' f g d1 d2 (by omega) lx hs R h1 h2
 have n3:val (dg Y)*2^s<4294967296^(dg X).length:=Nat.lt_of_le_of_lt (Nat.mul_le_mul_right _ (by omega)) n1;have mf:=λ q=>Rg N (dg X) q (dg X).length s d1 (by omega) (by omega) lx ff n1
 have ja:=λ q=>Rg N (dg Y) q (dg X).length s d2 (by omega) (by omega) lx ff n3
 have hK:=Alw (dg X).length s;obtain ⟨e1,x1,x2,x3⟩:=Tl (V:=X) hK;obtain ⟨e2,y1,y2,y3⟩:=Tl (V:=Y) hK;rw[v1]at mf;rw[v2]at ja;have Ah:=Tk d1 (n:=(dg X).length) (by omega) (by omega) ff n1;have Fa:=Tk d2 (n:=(dg X).length) (by omega) (by omega) ff n3;rw[v1]at Ah;rw[v2]at Fa;generalize dN (dg X).length s=K at *;generalize X/K=P at *;generalize Y/K=Q at *;rw[v1,v2]at ug;obtain ⟨rc,yv,a,b,c,d,⟨z1,z2,z3,z4,z5⟩,z6,rfl⟩:=Aja N (P:Int) (Q:Int) (by omega) (by omega);have e1:(((dg X).length:Int)-1).toNat=(dg X).length-1:=by omega
 rw[<-e1]at Pn;refine Ev.xE N.UC rfl rfl ?_;by_cases hb:b=0
 ·(repeat' ((first|(apply AG<;>intro hc<;>try (exfalso;omega))|(apply B3;omega)|(apply CP;omega)|apply AR|(refine A9 (by assumption) ?_ rfl ?_;omega)|apply AE|refine AC (Hh) ?_|refine AC (mf _) ?_|refine AC (ja _) ?_|refine AC (yv) ?_|refine AC (hdv _ _) ?_)<;>conv=>whnf))
  refine ⟨_,?_,Y,X%Y,⟨Nat.mod_lt _ (by omega),Nat.le_of_lt (Nat.mod_lt _ (by omega)),wq,gT X Y⟩,rfl⟩;(conv=>whnf)
  exact AX rfl (fU _ _)
 ·obtain ⟨g1,g2,g3,g4⟩:=z6 hb (X:Int) (Y:Int) (K:Int) _ _ (by omega) x1 y1 x2 x3 y2 y3
  obtain ⟨A,hA⟩:=Int.eq_ofNat_of_zero_le (show 0<=a*X+b*Y by omega);obtain ⟨B,hB⟩:=Int.eq_ofNat_of_zero_le g1;have s1:ZA a b:=by rcases z1 with ⟨h1,h2,h3,h4⟩|⟨h1,h2,h3,h4⟩<;>unfold ZA<;>omega
  have s2:ZA c d:=by rcases z1 with ⟨h1,h2,h3,h4⟩|⟨h1,h2,h3,h4⟩<;>unfold ZA<;>omega
  (repeat' ((first|(apply AG<;>intro hc<;>try (exfalso;omega))|(apply B3;omega)|(apply CP;omega)|apply AR|(refine A9 (by assumption) ?_ rfl ?_;omega)|apply AE|refine AC (Hh) ?_|refine AC (mf _) ?_|refine AC (ja _) ?_|refine AC (yv) ?_|refine AC (ug a b A s1 hA.symm (by omega) _ _) ?_|refine AC (ug c d B s2 hB.symm (by omega) _ _) ?_)<;>conv=>whnf))
  rw[hA,hB]at g4;rw[hA,hB]at g2;refine ⟨_,?_,A,B,⟨by omega,by omega,by omega,by simpa using g4⟩,rfl⟩;(conv=>whnf)
  exact AX rfl (fU _ _)
theorem Up (N:j4 L) (X Y:Nat) (wq:Y<=X) (lx:(dg X).length<=549755813888) :
 AA L [It.lp GY.l1,It.j5 0,
   It.code
    ((((BH.ops GY.r6 false).dr [23,30,31] []).seq
       (BH.cond 32 (((BH.ops GY.r7 false).dr [5,6,32,33] []).seq BH.ret) BH.skip)).seq
     (((BH.ops GY.r8 false).dr [5,7,32,34,35,36,37,38,39] []).seq
      (((BH.ops GY.r9 false).dr [6,8,40,41,42,43] []).seq
       ((BH.block 2 GY.l2.loop).seq
        (((BH.ops GY.w4 false).dr [9,10,45,50,51,52,53,54,55,56] []).seq BH.ret)))))]
  [(6,AV.sl false (List.map AL (dg Y))),(5,AV.sl false (List.map AL (dg X)))] []
  (ZD GY (AV.sl false (List.map AL (dg (X.gcd Y))))):=by
 refine F8 (λ_ y=>y) (λ(x y:Nat)=>y<=x/\(dg x).length<=549755813888/\Nat.gcd x y=Nat.gcd X Y) (λ x y=>[(6,AV.sl false (List.map AL (dg y))),(5,AV.sl false (List.map AL (dg x)))]) (λ_ _=>[]) [] [] X Y (by (conv=>whnf);exact ⟨rfl,rfl,rfl⟩) ⟨wq,lx,rfl⟩ ?_;intro x y ⟨p1,p2,p3⟩ ih;rw[<-p3]at ih ⊢;generalize Nat.gcd X Y=G at *;clear wq lx;subst p3;have hlen:=ZJ p1;by_cases h3:3<=(dg y).length
 ·obtain ⟨r,hr,A,B,⟨k1,k2,k3,k4⟩,rfl⟩:=Aje N x y p1 h3 p2
  have k5:=ZJ k3;(repeat' ((first|(apply AG<;>intro hc<;>try (exfalso;omega))|apply AR|apply AE|refine AC (hr) ?_)<;>conv=>whnf))
  exact BF [] (ih A B k1 ⟨k2,by omega,k4⟩)
 ·clear ih
  by_cases h0:y=0
  ·subst h0
   have nn:(dg 0).length=0:=by rw[E2];rfl
   (repeat' ((first|(apply AG<;>intro hc<;>try (exfalso;omega))|apply AR|apply AE)<;>conv=>whnf))
   rw[Nat.gcd_zero_right];exact AX rfl (by simp only[A0,true_and];exact CQ _)
  ·have hp:=gB h0
   have hm:=ZJ (Nat.le_of_lt (Nat.mod_lt x (show y>0 by omega)));have hd:=λ q q'=>rB N x y q q' h0 p2 (by omega)
   have Fc:=λ q=>Rh N y q (by omega)
   have rm:=λ q=>Rh N (x%y) q (by omega)
   have hb:y<18446744073709551616:=XN.1 (show (dg y).length<=2 by omega);have fe:x%y<y:=Nat.mod_lt _ (by omega);rw[<-gT x y];(repeat' ((first|(apply AG<;>intro hc<;>try (exfalso;omega))|apply AR|apply AE|refine AC (hd _ _) ?_|refine AC (Fc _) ?_|refine AC (rm _) ?_)<;>conv=>whnf))
   refine F8 (λ_ q=>q) (λ(p q:Nat)=>p<18446744073709551616/\q<18446744073709551616/\Nat.gcd p q=Nat.gcd y (x%y)) (λ p q=>[(9,.int .u64 (p:Int)),(10,.int .u64 (q:Int))]) (λ_ _=>[]) [] [] y (x%y) (by (conv=>whnf);exact ⟨rfl,rfl,rfl⟩) ⟨hb,by omega,rfl⟩ ?_;intro p q ⟨g1,g2,g3⟩ ih;rw[<-g3]at ih ⊢;by_cases hq:q=0
   ·subst hq
    clear ih;obtain ⟨v1,v2⟩:=qC g1;rw[Nat.gcd_zero_right];have mf:=EX v2;have ht:=jD v2;rw[v1]at mf ht;(repeat' ((first|(apply AG<;>intro hc<;>try (exfalso;omega))|apply FJ|(apply EJ;omega)|apply FR|apply AE)<;>conv=>whnf))
    generalize p%4294967296=lo at *;generalize p/4294967296=hi at *;refine jN N v2 (by simp) rfl rfl ?_;rw[v1];(conv=>whnf)
    skip
    refine H7 (enc:=AL) (l:=[lo,hi]) (λ_=>rfl) (by omega) ?_;(conv=>whnf)
    refine AX ?_ (by simp only[A0,true_and];exact CQ _);rw[List.drop_zero,ht]
   ·have hpq:p%q<q:=Nat.mod_lt _ (by omega)
    (repeat' ((first|(apply AG<;>intro hc<;>try (exfalso;omega))|(apply fG;omega)|apply AE)<;>conv=>whnf))
    exact BF [] (ih q (p%q) hpq ⟨g2,by omega,gT p q⟩)
theorem Ai9 (N:j4 L) (a b:List Nat) (q1 q2:Bool) (hA:A1 a) (hB:A1 b) (la:a.length<=549755813888) (lb:b.length<=549755813888) :
  Ev L 82 [.sl q1 (a.map AL),.sl q2 (b.map AL)] (.sl false ((dg (Nat.gcd (val a) (val b))).map AL)):=by
 have t1:=λ q=>gF N a q hA (by omega)
 have t2:=λ q=>gF N b q hB (by omega)
 have l1:=EX hA;have l2:=EX hB;have m8:=λ q q'=>YI N (dg (val a)) (dg (val b)) q q' (DW _) (DW _) (by omega) (by omega)
 rw[BW,BW]at m8;generalize val a=X at *;generalize val b=Y at *;refine Ev.x N.GY rfl rfl ?_;by_cases m7:X<Y
 ·have hn:C9 X Y = -1:=(IZ (by omega)).symm
  rw[hn]at m8;(repeat' ((first|(apply AG<;>intro hc<;>try (exfalso;omega))|apply AE|refine AC (t1 _) ?_|refine AC (t2 _) ?_|refine AC (m8 _ _) ?_)<;>conv=>whnf))
  rw[Nat.gcd_comm];exact B1 [] (by (conv=>whnf);exact ⟨rfl,rfl,rfl⟩) (Up N Y X (by omega) (by omega))
 ·have me:0<=C9 X Y:=by unfold C9;split<;>(try split)<;>omega
  generalize C9 X Y=cm at *;(repeat' ((first|(apply AG<;>intro hc<;>try (exfalso;omega))|apply AE|refine AC (t1 _) ?_|refine AC (t2 _) ?_|refine AC (m8 _ _) ?_)<;>conv=>whnf))
  exact B1 [] (by (conv=>whnf);exact ⟨rfl,rfl,rfl⟩) (Up N X Y (by omega) (by omega))
end Go.e8
namespace Go.e8
def dX (N:Nat):List KE->Bool
 | []=>true
 | .tmp t::r=>Nat.blt t N&&dX N r
 | .cell t _ _::r=>Nat.blt t N&&dX N r
theorem uO {N:Nat} {s s':St} (ho:s.own=s'.own) (qk : ∀ j,j<N->j8 s'.tm j=j8 s.tm j) : ∀ {res:List KE},dX N res=true->res.mapM (E8 s)=res.mapM (E8 s')
 | [],_=>rfl
 | .tmp t::r,h=>by
  simp only[dX,Bool.and_eq_true]at h;have:=uO ho qk h.2
  simp only[List.mapM_cons,E8,qk t (aJ.1 h.1),this]
 | .cell t agg n::r,h=>by
  simp only[dX,Bool.and_eq_true]at h;have:=uO ho qk h.2
  simp only[List.mapM_cons,E8,qk t (aJ.1 h.1),this,ho]
def Afc (N:Nat) (fn:AFn) (tm:Tm) (K:AV->Mem->Prop) (da:Tm) (M':Mem):Prop:=gh N da=tm/\nC da M' fn.res (λ rs=>rsv rs λ v=>K v M')
theorem FG {L:Lib} {f:Nat} {fn:AFn} {vs:List AV} {tm:Tm} {M:Mem} {K:AV->Mem->Prop} (N:Nat) (hL:L f=some fn) (hp:Nat.beq vs.length fn.cu=true) (hN:(Nat.ble fn.cu N&&(IR N fn.body&&dX N fn.res))=true)
  (h:AA L [.code fn.body] (C0 0 vs++GP N tm) M (Afc N fn tm K)):A8 L f vs tm M K:=by
 intro σ own hs;simp only[Bool.and_eq_true]at hN;obtain ⟨n1,n2,n3⟩:=hN;have n1:=Nat.le_of_ble_eq_true n1;have hp:vs.length=fn.cu:=Nat.eq_of_beq_eq_true hp;have Oj:RX σ (C0 0 vs++GP N tm) M ⟨TT (BG σ) (C0 0 vs++GP N tm),own⟩:=⟨λ j=>Or.inr (by rw[OL];exact OM (SF σ) j _),hs⟩;obtain ⟨n,c,s',hr,σ',da,M',hR,hg,rl⟩:=h σ _ Oj;have Mv:Gh N (TT (BG σ) (GP N tm)) (C0 0 (vs.map (BG σ))) (TT (BG σ) (C0 0 vs++GP N tm)):=by
  constructor
  ·intro j hj
   rw[sI,OM (SF σ),OM (SF σ)];rcases jF j (GP N tm) (C0 0 vs) with ⟨_,e⟩|⟨hn,e⟩
   ·rw[e]
   ·rw[e,vW hj,vU j 0 vs hn]
  ·intro j hj
   rw[OM (SF σ),OM (SF σ)];rcases jF j (GP N tm) (C0 0 vs) with ⟨hn,e⟩|⟨_,e⟩
   ·have:=sH j 0 vs hn
    omega
   ·rw[e]
 obtain ⟨s,r1,r2,r3⟩:=JT n (by simp [ZR,n2]) Mv hr;obtain ⟨rs,i1,i2,i3⟩:=uN hR rl;rw[<-uO (s:=s) r2.symm r3.lo n3,i3]at i1;have key : ∃ r,IH (rs.map (BS σ'))=BG σ' r/\K r M':=by
  match rs,i2,i3 with
  | [],h,_=>exact ⟨.j9 [],rfl,h⟩
  | [v],h,e =>
   simp only[List.map_cons,List.map_nil,List.cons.injEq,and_true]at e;exact ⟨v,by simp only[List.map_cons,List.map_nil,IH];exact e.symm,h⟩
  | a::b::l,h,_=>exact ⟨.j9 (a::b::l),rfl,h⟩
 obtain ⟨r,k1,k2⟩:=key;refine ⟨r,s.own,σ',M',GR.intro hL (by simpa using hp) ⟨n,c,s,r1,?_,rfl⟩,?_,?_,k2⟩
 ·rw[i1,Option.map_some,k1]
 ·rw[<-r2];exact hR.sat
 ·intro j
  have e1:tg tm j=tg da (N+j):=by rw[OL,OL,<-hg,vT]
  rcases hR.tm (N+j) with e|e
  ·rw[e1,e];rfl
  ·rw[e1,<-e,r3.hi (N+j) (by omega),OM (SF σ),vV,<-OL,e1]
end Go.e8

namespace Go.e8
open F
attribute [local irreducible] AA AF AP AD CB AU AW BA A6 B2 AM BO B8 C8 BN A3 BX B9 AB A8 AJ pw BK BI CJ CK CU CR CI BT CT
variable {L:Lib}
set_option maxHeartbeats 8000000
theorem AeV {k:Nat} {K:Int->Prop} (h:0<k/\k<=9223372036854775808) (hk:K ((18446744073709551616-k:Nat):Int)):AU .u64 (-(k:Int)) K:=by
 unfold AU;have e:IntKind.u64.wrap (-(k:Int))=((18446744073709551616-k:Nat):Int):=by
  simp [IntKind.wrap,IntKind.bits,IntKind.signed];omega
 rw[e];exact hk
theorem CB.Iv {k:Nat} {K:AV->Prop} (h:0<k/\k<=9223372036854775808) (hk:K (.int .u64 (k:Int))):CB .neg .u64 ((18446744073709551616-k:Nat):Int) K:=by
 refine CB.go (v := .int .u64 (IntKind.u64.wrap (0-((18446744073709551616-k:Nat):Int)))) rfl ?_;have e:IntKind.u64.wrap (0-((18446744073709551616-k:Nat):Int))=(k:Int):=by
  simp [IntKind.wrap,IntKind.bits,IntKind.signed];omega
 rw[e];exact hk
theorem qX (N:b7 L) (z:Int) (hz : -9223372036854775808<=z/\z<=9223372036854775807):Ev L 85 [.int .i64 z] (.agg (eZ z)):=by
 have two : ∀ k:Nat,k<18446744073709551616 -> ∀ q,Ev L 66 [.sl q [[.int .u32 ((k%4294967296:Nat):Int)],[.int .u32 ((k/4294967296:Nat):Int)]]] (.sl false ((dg k).map AL)):=λ k hk q=>by
  have:=gF N.toj4 [k%4294967296,k/4294967296] q (qC hk).2 (by simp)
  rw[Xx hk]at this;exact this
 refine Ev.x N.TH rfl rfl ?_;by_cases h0:0<=z
 ·obtain ⟨k,rfl⟩:=Int.eq_ofNat_of_zero_le h0
  have hT:=two k (by omega);have z1:=I1 k;(repeat' ((first|(apply AG<;>intro hc<;>try (exfalso;omega))|apply FJ|(apply CP;omega)|(apply EJ;omega)|apply FR|refine aG rfl rfl ?_|apply AE)<;>conv=>whnf))
  generalize k%4294967296=lo at *;generalize k/4294967296=hi at *;(repeat' (refine AC (hT _) ?_<;>conv=>whnf))
  refine FG 1000 N.DL rfl rfl ?_;(repeat' (apply AE<;>conv=>whnf))
  all_goals (refine ⟨rfl,?_⟩;(conv=>whnf);skip)
  exact AX (ET (by omega) (GO (by omega))) (DP _)
 ·obtain ⟨k,hk⟩:=Int.eq_ofNat_of_zero_le (show 0 <= -z by omega)
  obtain rfl:z = -(k:Int):=by omega
  have hT:=two k (by omega);have z1:=I1 k;(repeat' (apply AE<;>conv=>whnf))
  refine AeV (by omega) ?_;(conv=>whnf)
  (repeat' ((first|(apply AG<;>intro hc<;>try (exfalso;omega))|fail)<;>conv=>whnf))
  refine CB.Iv (by omega) ?_;(conv=>whnf)
  (repeat' ((first|(apply AG<;>intro hc<;>try (exfalso;omega))|apply FJ|(apply EJ;omega)|apply FR|refine aG rfl rfl ?_)<;>conv=>whnf))
  generalize k%4294967296=lo at *;generalize k/4294967296=hi at *;(repeat' (refine AC (hT _) ?_<;>conv=>whnf))
  refine FG 1000 N.DL rfl rfl ?_;(repeat' ((first|(apply AG<;>intro hc<;>try (exfalso;omega))|apply AR|apply AE)<;>conv=>whnf))
  all_goals (refine ⟨rfl,?_⟩;(conv=>whnf);skip)
  exact AX (ET (by omega) (WO (by omega))) (DP _)
theorem Rc (N:b7 L) (n q:Bool) (m:List Nat) (hm:Sm 549755813888 m):Ev L 84 [.agg (rZ q n m)] (.agg (eZ (zv n m))):=by
 have hT:=λ q=>gF N.toj4 m q hm.1 (by have:=hm.2;omega)
 have hz:=I1 (val m);have ha:=E1 n m;refine Ev.x N.TJ rfl rfl ?_;cases n
 ·rw[EP]at *
  (repeat' ((first|apply AE|refine AC (hT _) ?_)<;>conv=>whnf))
  refine FG 1000 N.DL rfl rfl ?_;(repeat' (apply AE<;>conv=>whnf))
  all_goals (refine ⟨rfl,?_⟩;(conv=>whnf);skip)
  exact AX (ET ha.symm (GO (by omega))) (DP _)
 ·rw[X6]at *
  (repeat' ((first|apply AE|refine AC (hT _) ?_)<;>conv=>whnf))
  refine FG 1000 N.DL rfl rfl ?_;(repeat' ((first|(apply AG<;>intro hc<;>try (exfalso;omega))|apply AR|apply AE)<;>conv=>whnf))
  all_goals (refine ⟨rfl,?_⟩;(conv=>whnf);skip)
  ·exact AX (ET ha.symm (WO (by omega))) (DP _)
  ·exact AX (ET ha.symm (GO (by omega))) (DP _)
theorem lP (N:b7 L) (n q:Bool) (m:List Nat) (hm:Sm 549755813888 m):Ev L 86 [.agg (rZ q n m)] (.int .i64 (w9 (zv n m))):=by
 have m8:=λ q q'=>YI N.toj4 m [] q q' hm.1 cS (by have:=hm.2;omega) (by simp)
 rw[JW]at m8;refine Ev.x N.TI rfl rfl ?_;by_cases h0:val m=0
 ·have hn:C9 (val m) (0:Nat)=0:=(aN (by omega)).symm
  rw[hn]at m8;(repeat' ((first|(apply AG<;>intro hc<;>try (exfalso;omega))|apply AE|refine AC (m8 _ _) ?_)<;>conv=>whnf))
  exact CX (nM (by have:=E1 n m;omega))
 ·have hn:C9 (val m) (0:Nat)=1:=(XM (by omega)).symm
  rw[hn]at m8;cases n
  ·(repeat' ((first|(apply AG<;>intro hc<;>try (exfalso;omega))|apply AE|refine AC (m8 _ _) ?_)<;>conv=>whnf))
   exact CX (uY (by rw[EP];omega))
  ·(repeat' ((first|(apply AG<;>intro hc<;>try (exfalso;omega))|apply AE|refine AC (m8 _ _) ?_)<;>conv=>whnf))
   exact CX (uX (by rw[X6];omega))
theorem Ra (N:b7 L) (n1 n2 q1 q2:Bool) (a b:List Nat) (ha:Sm 549755813888 a) (hb:Sm 549755813888 b):Ev L 87 [.agg (rZ q1 n1 a),.agg (rZ q2 n2 b)] (.agg (eZ (zv n1 a+zv n2 b))):=by
 have la:=ha.2;have lb:=hb.2;have h1:=λ q q'=>Ai8 N.toj4 a b q q' ha.1 hb.1 (by omega) (by omega)
 have h2:=λ q q'=>Rf N.toj4 a b q q' ha.1 hb.1 (by omega) (by omega)
 have h3:=λ q q'=>Rf N.toj4 b a q q' hb.1 ha.1 (by omega) (by omega)
 have m8:=λ q q'=>YI N.toj4 a b q q' ha.1 hb.1 (by omega) (by omega)
 have z1:=I1 (val a+val b);have z2:=I1 (val a-val b);have z3:=I1 (val b-val a);refine Ev.x N.TE rfl rfl ?_;by_cases m7:val a<val b
 ·have hn:C9 (val a) (val b) = -1:=(IZ (by omega)).symm
  rw[hn]at m8;cases n1<;>cases n2<;>simp only[EP,X6]
  ·(repeat' ((first|apply AE|refine AC (h1 _ _) ?_)<;>conv=>whnf))
   refine FG 1000 N.DL rfl rfl ?_;(repeat' (apply AE<;>conv=>whnf))
   all_goals (refine ⟨rfl,?_⟩;(conv=>whnf);skip)
   exact AX (ET (by omega) (GO (by omega))) (DP _)
  ·(repeat' ((first|(apply AG<;>intro hc<;>try (exfalso;omega))|apply AE|refine AC (h3 _ _) ?_|refine AC (m8 _ _) ?_)<;>conv=>whnf))
   refine FG 1000 N.DL rfl rfl ?_;(repeat' ((first|(apply AG<;>intro hc<;>try (exfalso;omega))|apply AR|apply AE)<;>conv=>whnf))
   all_goals (refine ⟨rfl,?_⟩;(conv=>whnf);skip)
   ·exact AX (ET (by omega) (WO (by omega))) (DP _)
  ·(repeat' ((first|(apply AG<;>intro hc<;>try (exfalso;omega))|apply AE|refine AC (h3 _ _) ?_|refine AC (m8 _ _) ?_)<;>conv=>whnf))
   refine FG 1000 N.DL rfl rfl ?_;(repeat' (apply AE<;>conv=>whnf))
   all_goals (refine ⟨rfl,?_⟩;(conv=>whnf);skip)
   ·exact AX (ET (by omega) (GO (by omega))) (DP _)
  ·(repeat' ((first|apply AE|refine AC (h1 _ _) ?_)<;>conv=>whnf))
   refine FG 1000 N.DL rfl rfl ?_;(repeat' ((first|(apply AG<;>intro hc<;>try (exfalso;omega))|apply AR|apply AE)<;>conv=>whnf))
   all_goals (refine ⟨rfl,?_⟩;(conv=>whnf);skip)
   ·exact AX (ET (by omega) (WO (by omega))) (DP _)
 ·have hn:C9 (val a) (val b) ≠ -1:=by unfold C9;split<;>(try split)<;>omega
  generalize C9 (val a) (val b)=cm at *;cases n1<;>cases n2<;>simp only[EP,X6]
  ·(repeat' ((first|apply AE|refine AC (h1 _ _) ?_)<;>conv=>whnf))
   refine FG 1000 N.DL rfl rfl ?_;(repeat' (apply AE<;>conv=>whnf))
   all_goals (refine ⟨rfl,?_⟩;(conv=>whnf);skip)
   exact AX (ET (by omega) (GO (by omega))) (DP _)
  ·(repeat' ((first|(apply AG<;>intro hc<;>try (exfalso;omega))|apply AE|refine AC (h2 _ _) ?_|refine AC (m8 _ _) ?_)<;>conv=>whnf))
   refine FG 1000 N.DL rfl rfl ?_;(repeat' (apply AE<;>conv=>whnf))
   all_goals (refine ⟨rfl,?_⟩;(conv=>whnf);skip)
   exact AX (ET (by omega) (GO (by omega))) (DP _)
  ·(repeat' ((first|(apply AG<;>intro hc<;>try (exfalso;omega))|apply AE|refine AC (h2 _ _) ?_|refine AC (m8 _ _) ?_)<;>conv=>whnf))
   refine FG 1000 N.DL rfl rfl ?_;(repeat' ((first|(apply AG<;>intro hc<;>try (exfalso;omega))|apply AR|apply AE)<;>conv=>whnf))
   all_goals (refine ⟨rfl,?_⟩;(conv=>whnf);skip)
   ·exact AX (ET (by omega) (WO (by omega))) (DP _)
   ·exact AX (ET (by omega) (GO (by omega))) (DP _)
  ·(repeat' ((first|apply AE|refine AC (h1 _ _) ?_)<;>conv=>whnf))
   refine FG 1000 N.DL rfl rfl ?_;(repeat' ((first|(apply AG<;>intro hc<;>try (exfalso;omega))|apply AR|apply AE)<;>conv=>whnf))
   all_goals (refine ⟨rfl,?_⟩;(conv=>whnf);skip)
   ·exact AX (ET (by omega) (WO (by omega))) (DP _)
   ·exact AX (ET (by omega) (GO (by omega))) (DP _)
theorem aU (N:b7 L) (n1 n2 q1 q2:Bool) (a b:List Nat) (ha:A1 a) (hb:A1 b) (hl:a.length+b.length<=1099511627776):Ev L 88 [.agg (rZ q1 n1 a),.agg (rZ q2 n2 b)] (.agg (eZ (zv n1 a*zv n2 b))):=by
 have h1:=λ q q'=>qZ N.toj4 a b q q' ha hb hl
 have z1:=I1 (val a*val b);have Ly:(zv n1 a*zv n2 b).natAbs=val a*val b:=by rw[Int.natAbs_mul,E1,E1]
 refine Ev.x N.TG rfl rfl ?_;have e:zv n1 a*zv n2 b=bif n1 == n2 then ((val a*val b:Nat):Int) else -((val a*val b:Nat):Int):=by
  cases n1<;>cases n2<;>simp [EP,X6,Int.mul_neg,Int.neg_mul]
 rw[e]at Ly ⊢;generalize val a*val b=V at *;cases n1<;>cases n2<;>simp only[beq_self_eq_true,cond_true,show (false == true)=false from rfl,show (true == false)=false from rfl,cond_false]
 ·(repeat' ((first|apply AE|refine AC (h1 _ _) ?_)<;>conv=>whnf))
  refine FG 1000 N.DL rfl rfl ?_;(repeat' (apply AE<;>conv=>whnf))
  all_goals (refine ⟨rfl,?_⟩;(conv=>whnf);skip)
  exact AX (ET (by omega) (GO (by omega))) (DP _)
 ·(repeat' ((first|apply AE|refine AC (h1 _ _) ?_)<;>conv=>whnf))
  refine FG 1000 N.DL rfl rfl ?_;(repeat' ((first|(apply AG<;>intro hc<;>try (exfalso;omega))|apply AR|apply AE)<;>conv=>whnf))
  all_goals (refine ⟨rfl,?_⟩;(conv=>whnf);skip)
  ·exact AX (ET (by omega) (WO (by omega))) (DP _)
  ·exact AX (ET (by omega) (GO (by omega))) (DP _)
 ·(repeat' ((first|apply AE|refine AC (h1 _ _) ?_)<;>conv=>whnf))
  refine FG 1000 N.DL rfl rfl ?_;(repeat' ((first|(apply AG<;>intro hc<;>try (exfalso;omega))|apply AR|apply AE)<;>conv=>whnf))
  all_goals (refine ⟨rfl,?_⟩;(conv=>whnf);skip)
  ·exact AX (ET (by omega) (WO (by omega))) (DP _)
  ·exact AX (ET (by omega) (GO (by omega))) (DP _)
 ·(repeat' ((first|apply AE|refine AC (h1 _ _) ?_)<;>conv=>whnf))
  refine FG 1000 N.DL rfl rfl ?_;(repeat' (apply AE<;>conv=>whnf))
  all_goals (refine ⟨rfl,?_⟩;(conv=>whnf);skip)
  exact AX (ET (by omega) (GO (by omega))) (DP _)
theorem qE:dg 1=[1]:=by rw[J0 (by omega)];simp [E2]
theorem Ai1 (N:b7 L) (V:Nat) (q:Bool):Ev L 90 [.sl q ((dg V).map AL)] (.bool (decide (V=1))):=by
 have hv:=BW V;have hD:=DW V;have h1:V=1->dg V=[1]:=λ h=>by rw[h,qE]
 generalize dg V=l at *;refine Ev.x N.VD rfl rfl ?_;by_cases hl:l.length=1
 ·obtain ⟨d,rfl⟩:=List.length_eq_one_iff.1 hl
  have e:V=d:=by rw[<-hv];simp [val]
  subst e;have hd:[V][(0:Int).toNat]? = some V:=rfl;(repeat' ((first|(apply AG<;>intro hc<;>try (exfalso;omega))|apply AR|(refine A9 (by assumption) ?_ rfl ?_;omega)|apply AE)<;>conv=>whnf))
  ·exact jQ (by omega)
  ·exact fA (by omega)
 ·(repeat' ((first|(apply AG<;>intro hc<;>try (exfalso;omega))|apply AR|apply AE)<;>conv=>whnf))
  exact fA (λ h=>by rw[h1 h]at hl;simp at hl)
theorem cY (N:b7 L) (n q1 q2:Bool) (m d:List Nat) (hm:Sm 549755813888 m) (hd:Sm 549755813888 d) (h0:val d≠0):Ev L 94 [.agg (rQ q1 q2 n m d)] (.agg (eQ (qv n m d))):=by
 have El:=λ q q'=>qY N.toj4 m d q q' hm.1 hd.1 hm.2 hd.2 h0
 have Kh:=E1 n m;have sq:Sm 549755813888 (dg (val m/val d)):=hm.low (Nat.div_le_self _ _);have sr:Sm 549755813888 (dg (val m%val d)):=hd.low (Nat.le_of_lt (Nat.mod_lt _ (by omega)));have hT:=λ q=>Rc N n q _ sq
 have hG:=λ q q'=>Ai9 N.toj4 d (dg (val m%val d)) q q' hd.1 sr.1 hd.2 sr.2
 rw[BW,show Nat.gcd (val d) (val m%val d)=Nat.gcd (val d) (zv n m).natAbs by rw[Kh,gT,Nat.gcd_comm]]at hG;have Na:=Uq (zv n m).natAbs h0;have Es:=Nat.gcd_le_left (zv n m).natAbs (show 0<val d by omega);have hz:=I1 (val m%val d);obtain ⟨e1,e2,e3⟩:=tE (z:=zv n m) h0;unfold qv;generalize hGG:Nat.gcd (val d) (zv n m).natAbs=g at *;have h1:=λ q=>Ai1 N g q
 refine Ev.x N.VF rfl rfl ?_;by_cases w8:val m%val d=0
 ·(repeat' ((first|(apply AG<;>intro hc<;>try (exfalso;omega))|apply AR|apply AE|refine AC (El _ _) ?_|refine AC (hT _) ?_)<;>conv=>whnf))
  refine FG 1000 N.HV rfl rfl ?_;(repeat' (apply AE<;>conv=>whnf))
  refine ⟨rfl,?_⟩;(conv=>whnf)
  (repeat' (refine JZ rfl ?_<;>conv=>whnf))
  have me:g=val d:=by
   rw[<-hGG,Kh];exact Nat.gcd_eq_left (Nat.dvd_of_mod_eq_zero w8)
  have hv:=BW (val m/val d);refine AX ?_ ?_
  ·show _=AV.agg (rQ _ _ _ _ _)
   rw[e1,e2,e3,Kh,me,Nat.div_self (by omega),E1,hv,qE];have hs:decide (zv n (dg (val m/val d))<0)=decide (zv n m<0):=by
    cases n
    ·rw[EP,EP];simp;omega
    ·rw[X6,X6,hv]
     congr 1;rw[eq_iff_iff];have h5:=Nat.div_add_mod (val m) (val d);rw[w8,Nat.add_zero]at h5;constructor
     ·intro h6
      have h7:val m/val d≠0:=by omega
      have:val m≠0:=λ h8=>h7 (by rw[h8,Nat.zero_div])
      omega
     ·intro h6
      have h7:val m/val d≠0:=λ h8=>by rw[h8,Nat.mul_zero]at h5;omega
      omega
   rw[hs];rfl
  ·exact DJ _
 ·by_cases Ac:g=1
  ·have Lp:=λ q=>Rc N n q m hm
   have Je:=λ q=>gF N.toj4 d q hd.1 (by have:=hd.2;omega)
   (repeat' ((first|(apply AG<;>intro hc<;>try (exfalso;omega))|apply AR|apply AE|refine AC (El _ _) ?_|refine AC (hG _ _) ?_|refine cA (h1 _) (λ hf => ?_) (λ hf => ?_)|refine AC (Lp _) ?_|refine AC (Je _) ?_)<;>conv=>whnf))
   ·refine AX ?_ (kR _ _ _)
    show _=AV.agg (rQ _ _ _ _ _);rw[e1,e2,e3,Ac,Nat.div_one,Nat.div_one]
   ·exact absurd Ac hf
  ·have sg:Sm 549755813888 (dg g):=hd.low Es
   have ub:=λ q q'=>qY N.toj4 m (dg g) q q' hm.1 sg.1 hm.2 sg.2 (by rw[BW];omega)
   have uc:=λ q q'=>qY N.toj4 d (dg g) q q' hd.1 sg.1 hd.2 sg.2 (by rw[BW];omega)
   rw[BW]at ub uc;(repeat' ((first|(apply AG<;>intro hc<;>try (exfalso;omega))|apply AR|apply AE|refine AC (El _ _) ?_|refine AC (hG _ _) ?_|refine cA (h1 _) (λ hf => ?_) (λ hf => ?_)|refine AC (ub _ _) ?_|refine AC (uc _ _) ?_)<;>conv=>whnf))
   ·exact absurd hf Ac
   ·refine AX ?_ (kR _ _ _)
    show _=AV.agg (rQ _ _ _ _ _);rw[e1,e2,e3,Kh];have hs:n=decide (zv n m<0):=by
     have:val m≠0:=λ h=>w8 (by rw[h,Nat.zero_mod])
     cases n
     ·exact GO (by rw[EP];omega)
     ·exact WO (by rw[X6];omega)
    rw[<-hs]
theorem dC (N:b7 L) (m:List Nat):Ev L 91 [.sl false (m.map AL)] (.agg [.bool false,.sl false (m.map AL)]):=by
 refine Ev.x N.VE rfl rfl ?_;(repeat' (apply AE<;>conv=>whnf))
 exact AX rfl (yB _ _)
def Afa (n:Bool) (m d:List Nat) (n':Bool) (m' d':List Nat) (w:Bool) (k:Nat):Prop:=Sm k m'/\Sm k d'/\val d'≠0/\(w=true->val d'=1)/\qv n m d=mkRat (zv n' m') (val d')
theorem XR (N:b7 L) (n:Bool) (m d:List Nat) (k:Nat) (hk:1<=k/\k<=549755813888) (hm:Sm k m) (hd:Sm k d) : ∃ n' m' d' w,Ev L 89 [.agg (rQ false false n m d)] (.agg [.bool n',.sl false (m'.map AL),.sl false (d'.map AL),.bool w])/\Afa n m d n' m' d' w k:=by
 have m8:=λ q q'=>YI N.toj4 d [] q q' hd.1 cS (by have:=hd.2;omega) (by simp)
 rw[JW]at m8;by_cases h1:d=[1]
 ·subst h1
  refine ⟨n,m,[1],true,?_,hm,hd,by decide,λ_=>rfl,rfl⟩;refine Ev.x N.JN rfl rfl ?_;have hd:[1][(0:Int).toNat]? = some 1:=rfl;have xd:([1]:List Nat).length=1:=rfl;(repeat' ((first|(apply AG<;>intro hc<;>try (exfalso;omega))|apply AR|(refine A9 (by assumption) ?_ rfl ?_;omega)|apply AE)<;>conv=>whnf))
  exact AX rfl (fS _ _ _ _)
 have m9 : ∀ x,d[(0:Int).toNat]? = some x->(d.length:Int)=1->(x:Int)≠1:=λ x hx hl h=>by
  obtain ⟨y,rfl⟩:=List.length_eq_one_iff.1 (show d.length=1 by omega);simp at hx;apply h1;congr 1;omega
 by_cases h0:val d=0
 ·refine ⟨false,[],[1],true,?_,nN _,vC hk.1 (by omega),by decide,λ_=>rfl,by unfold qv;rw[h0,Rat.mkRat_zero,Zw,Rat.zero_mkRat]⟩
  have hn:C9 (val d) (0:Nat)=0:=(aN (by omega)).symm;rw[hn]at m8;refine Ev.x N.JN rfl rfl ?_;have hD:=hd.1;(repeat' ((first|(apply AG<;>intro hc<;>try (exfalso;omega))|apply AR|(refine ZC (by assumption) ?_ (λ e he hb => ?_);omega)|refine JZ rfl ?_|apply AE|refine AC (m8 _ _) ?_)<;>conv=>whnf))
  all_goals first
   | exact AX rfl (fS _ _ _ _)
   | exact AX rfl (fS false true [] [1])
   | exact absurd (by assumption) (m9 _ he (by assumption))
 ·refine ⟨n,m,d,false,?_,hm,hd,h0,(λ h=>by cases h),rfl⟩
  have hn:C9 (val d) (0:Nat)=1:=(XM (by omega)).symm;rw[hn]at m8;have hD:=hd.1;refine Ev.x N.JN rfl rfl ?_;(repeat' ((first|(apply AG<;>intro hc<;>try (exfalso;omega))|apply AR|(refine ZC (by assumption) ?_ (λ e he hb => ?_);omega)|apply AE|refine AC (m8 _ _) ?_)<;>conv=>whnf))
  all_goals first
   | exact AX rfl (fS _ _ _ _)
   | exact AX rfl (fS false true [] [1])
   | exact absurd (by assumption) (m9 _ he (by assumption))
theorem rJ (N:b7 L) (n q1 q2:Bool) (m d:List Nat) (hm:Sm 549755813888 m) (hd:Sm 549755813888 d):Ev L 95 [.agg (rQ q1 q2 n m d)] (.agg (eQ (qv n m d))):=by
 obtain ⟨n',m',d',w,hr,s1,s2,s3,s4,s5⟩:=XR N n m d 549755813888 (by omega) hm hd;have hl:=λ q1 q2=>cY N n' q1 q2 m' d' s1 s2 s3
 rw[s5];unfold qv at hl;refine Ev.x N.VB rfl rfl ?_;(repeat' ((first|apply HA|apply AE|refine AC (hr) ?_|refine AC (hl _ _) ?_)<;>conv=>whnf))
 exact AX rfl (DJ _)
theorem Qg (N:b7 L) (n q1 q2:Bool) (m d:List Nat) (hm:Sm 549755813888 m) (hd:Sm 549755813888 d):Ev L 97 [.agg (rQ q1 q2 n m d)] (.int .i64 (w9 (qv n m d).num)):=by
 obtain ⟨n',m',d',w,hr,s1,s2,s3,s4,s5⟩:=XR N n m d 549755813888 (by omega) hm hd;have hl:=λ q=>lP N n' q m' s1
 rw[s5,Ta s3];refine Ev.x N.U8 rfl rfl ?_;(repeat' ((first|apply HA|apply AE|refine AC (hr) ?_|refine AC (hl _) ?_)<;>conv=>whnf))
 exact CX rfl
theorem oT (z:Int):AV.agg [.bool (decide (z<0)),.sl false ((dg z.natAbs).map AL),.sl false [[.int .u32 1]]] = .agg (eQ (z:Rat)):=by
 show _=AV.agg (rQ _ _ _ _ _);rw[Rat.num_intCast,Rat.den_intCast,qE];rfl
theorem I2 (N:b7 L) (z:Int) (hz : -9223372036854775808<=z/\z<=9223372036854775807):Ev L 96 [.int .i64 z] (.agg (eQ (z:Rat))):=by
 have h1:=qX N z hz;refine Ev.x N.U7 rfl rfl ?_;(repeat' ((first|apply AE|refine AC (h1) ?_)<;>conv=>whnf))
 refine FG 1000 N.HV rfl rfl ?_;(repeat' (apply AE<;>conv=>whnf))
 refine ⟨rfl,?_⟩;(conv=>whnf)
 (repeat' (refine JZ rfl ?_<;>conv=>whnf))
 exact AX (oT z) (DJ _)
theorem bO {k l:Nat} {n1 n2:Bool} {a b:List Nat} (ha:Sm k a) (hb:Sm l b):Sm (k+l) (dg (zv n1 a*zv n2 b).natAbs):=ha.mul hb (by rw[Int.natAbs_mul,E1,E1])
theorem Yu {k:Nat} {x y:Int} (ha:Sm k (dg x.natAbs)) (hb:Sm k (dg y.natAbs)):Sm (k+1) (dg (x+y).natAbs):=ha.add hb (by rw[BW,BW];omega)
theorem Qf (N:b7 L) (k:Nat) (hk:1<=k/\k<=68719476736) (n1 n2 q1 q2 q3 q4:Bool) (m1 d1 m2 d2:List Nat) (mi:Sm k m1) (qg:Sm k d1) (jk:Sm k m2) (qh:Sm k d2) :
  Ev L 98 [.agg (rQ q1 q2 n1 m1 d1),.agg (rQ q3 q4 n2 m2 d2)] (.agg (eQ (qv n1 m1 d1+qv n2 m2 d2))):=by
 obtain ⟨a1,a2,a3,w1,bn,s1,s2,s3,s4,s5⟩:=XR N n1 m1 d1 k (by omega) mi qg;obtain ⟨b1,b2,b3,w2,dd,t1,t2,t3,t4,t5⟩:=XR N n2 m2 d2 k (by omega) jk qh;rw[s5,t5];have hA:=λ q q'=>Ra N a1 b1 q q' a2 b2 (s1.le (by omega)) (t1.le (by omega))
 have Oz:Sm (k+1) (dg (zv a1 a2+zv b1 b2).natAbs):=Yu (by rw[E1];exact s1.zf) (by rw[E1];exact t1.zf);by_cases hw:w1=true/\w2=true
 ·obtain ⟨rfl,rfl⟩:=hw
  rw[s4 rfl,t4 rfl,Sx (by omega),Sz];generalize zv a1 a2+zv b1 b2=z at *;refine Ev.x N.JM rfl rfl ?_;(repeat' ((first|apply HA|apply AE|refine AC (bn) ?_|refine AC (dd) ?_|refine AC (hA _ _) ?_)<;>conv=>whnf))
  refine FG 1000 N.HV rfl rfl ?_;(repeat' (apply AE<;>conv=>whnf))
  refine ⟨rfl,?_⟩;(conv=>whnf)
  (repeat' (refine JZ rfl ?_<;>conv=>whnf))
  exact AX (oT z) (DJ _)
 ·have m8:=λ q q'=>YI N.toj4 a3 b3 q q' s2.1 t2.1 (by have:=s2.2;omega) (by have:=t2.2;omega)
  by_cases Ab:val a3=val b3
  ·have hn:C9 (val a3) (val b3)=0:=(aN (by omega)).symm
   rw[hn]at m8;rw[<-Ab,Sx s3];generalize zv a1 a2+zv b1 b2=z at *;have hl:=λ q1 q2=>cY N (decide (z<0)) q1 q2 (dg z.natAbs) a3 (Oz.le (by omega)) (s2.le (by omega)) s3
   unfold qv at hl;rw[E5]at hl;refine Ev.x N.JM rfl rfl ?_;cases w1<;>cases w2
   ·(repeat' ((first|(apply AG<;>intro hc<;>try (exfalso;omega))|apply HA|apply AE|refine AC (bn) ?_|refine AC (dd) ?_|refine AC (hA _ _) ?_|refine AC (m8 _ _) ?_|refine AC (hl _ _) ?_)<;>conv=>whnf))
    exact AX rfl (DJ _)
   ·(repeat' ((first|(apply AG<;>intro hc<;>try (exfalso;omega))|apply HA|apply AE|refine AC (bn) ?_|refine AC (dd) ?_|refine AC (hA _ _) ?_|refine AC (m8 _ _) ?_|refine AC (hl _ _) ?_)<;>conv=>whnf))
    exact AX rfl (DJ _)
   ·(repeat' ((first|(apply AG<;>intro hc<;>try (exfalso;omega))|apply HA|apply AE|refine AC (bn) ?_|refine AC (dd) ?_|refine AC (hA _ _) ?_|refine AC (m8 _ _) ?_|refine AC (hl _ _) ?_)<;>conv=>whnf))
    exact AX rfl (DJ _)
   ·exact absurd ⟨rfl,rfl⟩ hw
  ·have hn:C9 (val a3) (val b3)≠0:=by unfold C9;split<;>(try split)<;>omega
   generalize C9 (val a3) (val b3)=cm at *;have eb:=λ q q'=>aU N a1 false q q' a2 b3 s1.1 t2.1 (by have:=s1.2;have:=t2.2;omega)
   have fm:=λ q q'=>aU N b1 false q q' b2 a3 t1.1 s2.1 (by have:=t1.2;have:=s2.2;omega)
   have ud:=λ q q'=>qZ N.toj4 a3 b3 q q' s2.1 t2.1 (by have:=s2.2;have:=t2.2;omega)
   have Af:=dC N a3;have xi:=dC N b3;have g1:Sm (k+k) (dg (zv a1 a2*zv false b3).natAbs):=bO s1 t2;have g2:Sm (k+k) (dg (zv b1 b2*zv false a3).natAbs):=bO t1 s2;have g3:=Yu g1 g2;have g4:Sm (k+k) (dg (val a3*val b3)):=s2.mul t2 rfl;rw[mK s3 t3,<-EP b3,<-EP a3];have De:val a3*val b3≠0:=Nat.mul_ne_zero s3 t3;generalize zv a1 a2*zv false b3=x at *;generalize zv b1 b2*zv false a3=y at *;generalize val a3*val b3=D at *;have Iz:=λ q q'=>Ra N (decide (x<0)) (decide (y<0)) q q' (dg x.natAbs) (dg y.natAbs) (g1.le (by omega)) (g2.le (by omega))
   rw[E5,E5]at Iz;generalize x+y=z at *;have hl:=λ q1 q2=>cY N (decide (z<0)) q1 q2 (dg z.natAbs) (dg D) (g3.le (by omega)) (g4.le (by omega)) (by rw[BW];exact De)
   unfold qv at hl;rw[E5,BW]at hl;refine Ev.x N.JM rfl rfl ?_;cases w1<;>cases w2
   ·(repeat' ((first|(apply AG<;>intro hc<;>try (exfalso;omega))|apply HA|apply aC|apply AE|refine AC (bn) ?_|refine AC (dd) ?_|refine AC (m8 _ _) ?_|refine AC (Af) ?_|refine AC (xi) ?_|refine AC (eb _ _) ?_|refine AC (fm _ _) ?_|refine AC (Iz _ _) ?_|refine AC (ud _ _) ?_|refine AC (hl _ _) ?_)<;>conv=>whnf))
    exact AX rfl (DJ _)
   ·(repeat' ((first|(apply AG<;>intro hc<;>try (exfalso;omega))|apply HA|apply aC|apply AE|refine AC (bn) ?_|refine AC (dd) ?_|refine AC (m8 _ _) ?_|refine AC (Af) ?_|refine AC (xi) ?_|refine AC (eb _ _) ?_|refine AC (fm _ _) ?_|refine AC (Iz _ _) ?_|refine AC (ud _ _) ?_|refine AC (hl _ _) ?_)<;>conv=>whnf))
    exact AX rfl (DJ _)
   ·(repeat' ((first|(apply AG<;>intro hc<;>try (exfalso;omega))|apply HA|apply aC|apply AE|refine AC (bn) ?_|refine AC (dd) ?_|refine AC (m8 _ _) ?_|refine AC (Af) ?_|refine AC (xi) ?_|refine AC (eb _ _) ?_|refine AC (fm _ _) ?_|refine AC (Iz _ _) ?_|refine AC (ud _ _) ?_|refine AC (hl _ _) ?_)<;>conv=>whnf))
    exact AX rfl (DJ _)
   ·exact absurd ⟨rfl,rfl⟩ hw
theorem rI (N:b7 L) (k:Nat) (hk:1<=k/\k<=68719476736) (n1 n2 q1 q2 q3 q4:Bool) (m1 d1 m2 d2:List Nat) (mi:Sm k m1) (qg:Sm k d1) (jk:Sm k m2) (qh:Sm k d2) :
  Ev L 99 [.agg (rQ q1 q2 n1 m1 d1),.agg (rQ q3 q4 n2 m2 d2)] (.agg (eQ (qv n1 m1 d1*qv n2 m2 d2))):=by
 obtain ⟨a1,a2,a3,w1,bn,s1,s2,s3,s4,s5⟩:=XR N n1 m1 d1 k (by omega) mi qg;obtain ⟨b1,b2,b3,w2,dd,t1,t2,t3,t4,t5⟩:=XR N n2 m2 d2 k (by omega) jk qh;rw[s5,t5,tC];have eb:=λ q q'=>aU N a1 b1 q q' a2 b2 s1.1 t1.1 (by have:=s1.2;have:=t1.2;omega)
 have ud:=λ q q'=>qZ N.toj4 a3 b3 q q' s2.1 t2.1 (by have:=s2.2;have:=t2.2;omega)
 have g1:Sm (k+k) (dg (zv a1 a2*zv b1 b2).natAbs):=bO s1 t1;have g4:Sm (k+k) (dg (val a3*val b3)):=s2.mul t2 rfl;have De:val a3*val b3≠0:=Nat.mul_ne_zero s3 t3;generalize zv a1 a2*zv b1 b2=z at *;by_cases hw:w1=true/\w2=true
 ·obtain ⟨rfl,rfl⟩:=hw
  rw[s4 rfl,t4 rfl,Nat.one_mul,Sz];refine Ev.x N.N0 rfl rfl ?_;(repeat' ((first|apply HA|apply AE|refine AC (bn) ?_|refine AC (dd) ?_|refine AC (eb _ _) ?_)<;>conv=>whnf))
  refine FG 1000 N.HV rfl rfl ?_;(repeat' (apply AE<;>conv=>whnf))
  refine ⟨rfl,?_⟩;(conv=>whnf)
  (repeat' (refine JZ rfl ?_<;>conv=>whnf))
  exact AX (oT z) (DJ _)
 ·generalize val a3*val b3=D at *
  have hl:=λ q1 q2=>cY N (decide (z<0)) q1 q2 (dg z.natAbs) (dg D) (g1.le (by omega)) (g4.le (by omega)) (by rw[BW];exact De)
  unfold qv at hl;rw[E5,BW]at hl;refine Ev.x N.N0 rfl rfl ?_;cases w1<;>cases w2
  ·(repeat' ((first|apply HA|apply AE|refine AC (bn) ?_|refine AC (dd) ?_|refine AC (eb _ _) ?_|refine AC (ud _ _) ?_|refine AC (hl _ _) ?_)<;>conv=>whnf))
   exact AX rfl (DJ _)
  ·(repeat' ((first|apply HA|apply AE|refine AC (bn) ?_|refine AC (dd) ?_|refine AC (eb _ _) ?_|refine AC (ud _ _) ?_|refine AC (hl _ _) ?_)<;>conv=>whnf))
   exact AX rfl (DJ _)
  ·(repeat' ((first|apply HA|apply AE|refine AC (bn) ?_|refine AC (dd) ?_|refine AC (eb _ _) ?_|refine AC (ud _ _) ?_|refine AC (hl _ _) ?_)<;>conv=>whnf))
   exact AX rfl (DJ _)
  ·exact absurd ⟨rfl,rfl⟩ hw
theorem Agi (x:Rat) (e:Int):A0 (.j9 [.agg (eQ x),.int .i64 e]):=by
 simp only[A0,CE,and_true,true_and];exact ⟨CQ _,CQ _⟩
theorem AjU (N:b7 L) (k:Nat) (hk:1<=k/\k<=68719476736) (n1 n2 q1 q2 q3 q4:Bool) (m1 d1 m2 d2:List Nat) (mi:Sm k m1) (qg:Sm k d1) (jk:Sm k m2) (qh:Sm k d2) (h0:qv n2 m2 d2≠0) :
  Ev L 100 [.agg (rQ q1 q2 n1 m1 d1),.agg (rQ q3 q4 n2 m2 d2)] (.j9 [.agg (eQ (qv n1 m1 d1/qv n2 m2 d2)),.int .i64 0]):=by
 obtain ⟨a1,a2,a3,w1,bn,s1,s2,s3,s4,s5⟩:=XR N n1 m1 d1 k (by omega) mi qg;obtain ⟨b1,b2,b3,w2,dd,t1,t2,t3,t4,t5⟩:=XR N n2 m2 d2 k (by omega) jk qh;rw[t5]at h0;rw[s5,t5];have Be:zv b1 b2≠0:=λ h=>h0 ((tD t3).2 h)
 rw[AlM s3 t3 Be];have hS:=λ q=>lP N b1 q b2 (t1.le (by omega))
 have uy:w9 (zv b1 b2)≠0:=by unfold w9;split<;>(try split)<;>omega
 have eb:=λ q q'=>aU N a1 false q q' a2 b3 s1.1 t2.1 (by have:=s1.2;have:=t2.2;omega)
 have fm:=λ q q'=>aU N false b1 q q' a3 b2 s2.1 t1.1 (by have:=t1.2;have:=s2.2;omega)
 have Af:=dC N a3;have xi:=dC N b3;have g1:Sm (k+k) (dg (zv a1 a2*zv false b3).natAbs):=bO s1 t2;have g2:Sm (k+k) (dg (zv false a3*zv b1 b2).natAbs):=bO s2 t1;have hd:(zv false a3*zv b1 b2).natAbs=val a3*(zv b1 b2).natAbs:=by rw[Int.natAbs_mul,E1]
 have Df:(zv false a3*zv b1 b2).sign=(zv b1 b2).sign:=by
  rw[Int.sign_mul,EP,Int.sign_eq_one_of_pos (by omega),Int.one_mul]
 have sd:zv false a3*zv b1 b2≠0:=by
  intro h;rw[h]at Df;exact Be (by simpa using Df.symm)
 rw[<-hd,<-Df,<-EP b3];generalize zv a1 a2*zv false b3=x at *;generalize zv false a3*zv b1 b2=y at *;generalize w9 (zv b1 b2)=sg at *;have hl:=λ q1 q2=>cY N (decide (x<0) != decide (y<0)) q1 q2 (dg x.natAbs) (dg y.natAbs) (g1.le (by omega)) (g2.le (by omega)) (by rw[BW];omega)
 unfold qv at hl;rw[Aeh sd,BW]at hl;refine Ev.x N.U4 rfl rfl ?_;(repeat' ((first|(apply AG<;>intro hc<;>try (exfalso;omega))|apply HA|apply aC|apply AE|refine AC (bn) ?_|refine AC (dd) ?_|refine AC (hS _) ?_|refine AC (Af) ?_|refine AC (xi) ?_|refine AC (eb _ _) ?_|refine AC (fm _ _) ?_)<;>conv=>whnf))
 refine FG 1000 N.N6 rfl rfl ?_;(repeat' (apply AE<;>conv=>whnf))
 generalize decide (x<0)=p at *;generalize decide (y<0)=r at *;cases p<;>cases r;all_goals
  (conv=>whnf)
  refine ⟨rfl,?_⟩;(conv=>whnf)
  (repeat' (refine AC (hl _ _) ?_<;>conv=>whnf))
  exact AX rfl (Agi _ _)
theorem Bt.sm {k:Nat} {x:Rat} (h:Bt k x) (hk:k<2199023255552):Sm 68719476736 (dg x.num.natAbs)/\Sm 68719476736 (dg x.den):=h.dig (by omega)
theorem ZM (N:b7 L) {x y:Rat} {k l:Nat} (hx:Bt k x) (hy:Bt l y) (hk:k<2199023255552) (hl:l<2199023255552):Ev L 98 [.agg (eQ x),.agg (eQ y)] (.agg (eQ (x+y))):=by
 have:=Qf N 68719476736 (by omega) (decide (x.num<0)) (decide (y.num<0)) false false false false _ _ _ _ (hx.sm hk).1 (hx.sm hk).2 (hy.sm hl).1 (hy.sm hl).2
 rw[EN,EN]at this;exact this
theorem GT (N:b7 L) {x y:Rat} {k l:Nat} (hx:Bt k x) (hy:Bt l y) (hk:k<2199023255552) (hl:l<2199023255552):Ev L 99 [.agg (eQ x),.agg (eQ y)] (.agg (eQ (x*y))):=by
 have:=rI N 68719476736 (by omega) (decide (x.num<0)) (decide (y.num<0)) false false false false _ _ _ _ (hx.sm hk).1 (hx.sm hk).2 (hy.sm hl).1 (hy.sm hl).2
 rw[EN,EN]at this;exact this
theorem lN (N:b7 L) {x y:Rat} {k l:Nat} (hx:Bt k x) (hy:Bt l y) (hk:k<2199023255552) (hl:l<2199023255552) (h0:y≠0):Ev L 100 [.agg (eQ x),.agg (eQ y)] (.j9 [.agg (eQ (x/y)),.int .i64 0]):=by
 have:=AjU N 68719476736 (by omega) (decide (x.num<0)) (decide (y.num<0)) false false false false _ _ _ _ (hx.sm hk).1 (hx.sm hk).2 (hy.sm hl).1 (hy.sm hl).2 (by rw[EN];exact h0)
 rw[EN,EN]at this;exact this
theorem lZ (N:b7 L) {x:Rat} {k:Nat} (hx:Bt k x) (hk:k<2199023255552):Ev L 95 [.agg (eQ x)] (.agg (eQ x)):=by
 have:=rJ N (decide (x.num<0)) false false _ _ ((hx.sm hk).1.le (by omega)) ((hx.sm hk).2.le (by omega))
 rw[EN]at this;exact this
theorem aW (N:b7 L) {x:Rat} {k:Nat} (hx:Bt k x) (hk:k<2199023255552):Ev L 97 [.agg (eQ x)] (.int .i64 (w9 x.num)):=by
 have:=Qg N (decide (x.num<0)) false false _ _ ((hx.sm hk).1.le (by omega)) ((hx.sm hk).2.le (by omega))
 rw[EN]at this;exact this
theorem X2 {x:Rat}:w9 x.num=0↔x=0:=by
 rw[<-Rat.num_eq_zero];unfold w9;split
 ·omega
 ·split<;>omega
theorem Vz (n:Bool) (m d:List Nat):qv (!n) m d = -(qv n m d):=by
 unfold qv;have h:zv (!n) m = -(zv n m):=by cases n<;>simp [zv]
 rw[h,Rat.neg_mkRat]
theorem Agp (n:Bool) (m d:List Nat):A0 (.agg (rQ false false n m d)):=by
 simp only[A0,CE,and_true,true_and];exact ⟨CQ _,CQ _⟩
theorem Qy (N:w6 L) (n:Bool) (m d:List Nat):Ev L 149 [.agg (rQ false false n m d)] (.agg (rQ false false (!n) m d)):=by
 refine Ev.x N.VC rfl rfl ?_;cases n;all_goals
  (repeat' (apply AE<;>conv=>whnf))
  exact AX rfl (Agp _ _ _)
theorem gJ (N:w6 L) {x y:Rat} {k l:Nat} (hx:Bt k x) (hy:Bt l y) (hk:k<2199023255552) (hl:l<2199023255552):Ev L 150 [.agg (eQ x),.agg (eQ y)] (.agg (eQ (x-y))):=by
 have hF:=Qy N (decide (y.num<0)) (dg y.num.natAbs) (dg y.den);have hA:=λ q3 q4=>Qf N.tob7 68719476736 (by omega) (decide (x.num<0)) (!decide (y.num<0)) false false q3 q4 _ _ _ _ (hx.sm hk).1 (hx.sm hk).2 (hy.sm hl).1 (hy.sm hl).2
 rw[Vz,EN,EN,<-Rat.sub_eq_add_neg]at hA;refine Ev.x N.U9 rfl rfl ?_;(repeat' ((first|apply wM|apply AE|refine AC (hF) ?_|refine AC (hA _ _) ?_)<;>conv=>whnf))
 exact AX rfl (DJ _)
theorem AlO {x y:Int} (h:y≠0):mkRat (y.sign*x) y.natAbs=Rat.divInt x y:=by
 obtain ⟨d,hd|hd⟩:=Int.eq_nat_or_neg y
 ·subst hd
  rw[Int.sign_eq_one_of_pos (by omega),Int.one_mul,Int.natAbs_natCast,Rat.divInt_ofNat]
 ·subst hd
  rw[Int.sign_eq_neg_one_of_neg (by omega),Int.natAbs_neg,Int.natAbs_natCast,Rat.divInt_neg',Rat.divInt_ofNat,Int.neg_one_mul]
theorem AiH (N:w6 L) (x y:Int) (hx : -9223372036854775808<=x/\x<=9223372036854775807) (hy : -9223372036854775808<=y/\y<=9223372036854775807) (h0:y≠0):Ev L 151 [.int .i64 x,.int .i64 y] (.agg (eQ (Rat.divInt x y))):=by
 have h1:=qX N.tob7 x hx;have h2:=qX N.tob7 y hy;have g1:Sm 2 (dg x.natAbs):=Sm.dg (by omega);have g2:Sm 2 (dg y.natAbs):=Sm.dg (by omega);have hl:=λ q1 q2=>cY N.tob7 (decide (x<0) != decide (y<0)) q1 q2 (dg x.natAbs) (dg y.natAbs) (g1.le (by omega)) (g2.le (by omega)) (by rw[BW];omega)
 unfold qv at hl;rw[Aeh h0,BW,AlO h0]at hl;refine Ev.x N.U5 rfl rfl ?_;(repeat' ((first|(apply AG<;>intro hc<;>try (exfalso;omega))|apply AE|refine AC (h1) ?_|refine AC (h2) ?_)<;>conv=>whnf))
 refine FG 1000 N.N6 rfl rfl ?_;(repeat' (apply AE<;>conv=>whnf))
 generalize decide (x<0)=p at *;generalize decide (y<0)=r at *;cases p<;>cases r;all_goals
  (conv=>whnf)
  refine ⟨rfl,?_⟩;(conv=>whnf)
  (repeat' (refine AC (hl _ _) ?_<;>conv=>whnf))
  exact AX rfl (DJ _)
theorem rW {l:List Rat} {i:Nat} {x:Rat} (h:l[i]? = some x):l.getD i 0=x:=by rw[List.getD_eq_getElem?_getD,h];rfl
theorem rV {l:List Rat} {i:Nat} (h:l.length<=i):l.getD i 0=0:=by rw[List.getD_eq_getElem?_getD,List.getElem?_eq_none h];rfl
theorem lS (N:au L) (q:Bool) (l:List Rat) (k:Nat) (hl:Bs k l) (hk:k<2199023255552) (hn:l.length<=1000000):Ev L 170 [.sl q (l.map eQ)] (.sl false ((C7 l).map eQ)):=by
 refine Ev.x N.U0 rfl rfl ?_;(repeat' (apply AE<;>conv=>whnf))
 refine GF 1000 N.NX rfl rfl ?_;(repeat' ((first|apply AR|apply AE)<;>conv=>whnf))
 refine BQ (λ n=>n) (λ(n:Nat)=>n<=l.length/\D7 l l.length=D7 l n) (λ n=>[(3,.int .i64 n)]) (λ_=>[]) [] [] l.length (by (conv=>whnf);exact ⟨rfl,rfl,rfl⟩) ⟨Nat.le_refl _,rfl⟩ ?_;intro n ⟨p1,p2⟩ ih;have done : ∀ {n:Nat},D7 l l.length=n->C7 l=l.take n:=λ h=>by rw[C7,h]
 by_cases hz:n=0\/(∃ m x,n=m+1/\l[m]? = some x/\x≠0)
 ·have wv:D7 l l.length=n:=by
   rw[p2];rcases hz with rfl|⟨m,x,rfl,h1,h2⟩
   ·rfl
   ·rw[D7,if_neg]
    rw[List.getD_eq_getElem?_getD,h1];exact h2
  have Kc:=done wv;have cp:(l.take n).length=n:=by rw[List.length_take];omega
  clear ih wv p2 done;rcases hz with h0|⟨m,x,hnm,h1,h2⟩
  case' inl=>(repeat' ((first|(apply AG<;>intro hc<;>try (exfalso;omega))|apply AE)<;>conv=>whnf))
  case' inr =>
   have ua:l[((n:Int)-1).toNat]? = some x:=by rw[show ((n:Int)-1).toNat=m by omega];exact h1
   have wo:=aW N.tob7 (hl.at h1) (by omega);have hs:=X2 (x:=x);generalize w9 x.num=s at *;have hS : ∀ v,l[((n:Int)-1).toNat]? = some v->Ev L 97 [.agg (eQ v)] (.int .i64 s):=λ v h=>by
    obtain rfl:=Option.some.inj (ua.symm.trans h);exact wo
   have fc:s≠0:=λ h=>h2 (hs.1 h)
   (repeat' ((first|(apply AG<;>intro hc<;>try (exfalso;omega))|(apply B3;omega)|(refine A9 (by assumption) ?_ rfl ?_;omega)|apply AE|refine AC (wo) ?_)<;>conv=>whnf))
  all_goals
   refine ZE (enc:=eQ) (λ_=>rfl) p1 ?_;(conv=>whnf)
   skip
   refine ⟨rfl,_,rfl,?_⟩;(conv=>whnf)
   (repeat' (apply AR<;>conv=>whnf))
   refine EV (enc:=eO) none n rfl (by rw[cp]) (by omega) ?_;(conv=>whnf)
   skip
   refine BQ (λ i=>n-i) (λ(i:Nat)=>i<=n) (λ i=>[(11,.int .i64 i)]) (λ i=>[(170008,170008,.rw 3 ((EM (l.take i) n).map eO))]) [] [] 0 (by first|exact (by (conv=>whnf);exact ⟨rfl,rfl,rfl⟩)|(rw[List.take_zero,<-YM];exact (by (conv=>whnf);exact ⟨rfl,rfl,rfl⟩))) (by omega) ?_;intro i g1 ih;by_cases hi:i<n
   ·all_goals try (exfalso;omega)
    all_goals
     obtain ⟨y,hy⟩ : ∃ y,l[i]? = some y:=⟨_,zE (by omega)⟩;have vt:l[(i:Int).toNat]? = some y:=hy;have tt:(l.take i).length=i:=by rw[List.length_take];omega
     have Hf:=XT (l:=l.take i) (m:=n) (by omega);have l9:=YN (l:=l.take i) (m:=n) (x:=y) (by omega);rw[tt,<-Any hy]at l9;have hT':=lZ N.tob7 (hl.at hy) (by omega);have hT : ∀ v,l[(i:Int).toNat]? = some v->Ev L 95 [.agg (eQ v)] (.agg (eQ y)):=λ v h=>by
      obtain rfl:=Option.some.inj (vt.symm.trans h);exact hT'
     (repeat' ((first|(apply AG<;>intro hc<;>try (exfalso;omega))|(apply AZ;omega)|(refine A9 (by assumption) ?_ rfl ?_;omega)|apply AE|refine AC (hT') ?_)<;>conv=>whnf))
     refine FX (enc:=eO) (some y) rfl (λ e=>by cases e<;>rfl) (by omega) ?_;(conv=>whnf)
     (repeat' ((first|(apply AY;omega)|fail)<;>conv=>whnf))
     rw[l9];exact BF [] (ih (i+1) (by omega) (by omega))
   ·obtain rfl:i=n:=by omega
    clear ih;rw[YL cp,<-Kc]at *;rw[<-Kc]at cp;(repeat' ((first|(apply AG<;>intro hc<;>try (exfalso;omega))|apply AE)<;>conv=>whnf))
    refine DH (enc:=eQ) (λ_=>rfl) rfl cp.symm ?_;(conv=>whnf)
    exact AX rfl (by simp only[A0,true_and];exact IE _)
 ·obtain ⟨m,rfl⟩ : ∃ m,n=m+1:=⟨n-1,by omega⟩
  obtain ⟨x,hx⟩ : ∃ x,l[m]? = some x:=⟨_,zE (by omega)⟩;have rz:x=0:=by
   rcases Classical.em (x=0) with h|h
   ·exact h
   ·exact (hz (Or.inr ⟨m,x,rfl,hx,h⟩)).elim
  have gv:l[((m+1:Nat)-1:Int).toNat]? = some x:=by rw[show ((m+1:Nat)-1:Int).toNat=m by omega];exact hx
  have wo:=aW N.tob7 (hl.at hx) (by omega);have hs:=X2 (x:=x);generalize w9 x.num=s at *;have hS : ∀ v,l[((m+1:Nat)-1:Int).toNat]? = some v->Ev L 97 [.agg (eQ v)] (.int .i64 s):=λ v h=>by
   obtain rfl:=Option.some.inj (gv.symm.trans h);exact wo
  have fc:=hs.2 rz;(repeat' ((first|(apply AG<;>intro hc<;>try (exfalso;omega))|(apply B3;omega)|(refine A9 (by assumption) ?_ rfl ?_;omega)|apply AE|refine AC (wo) ?_)<;>conv=>whnf))
  rw[show ((m+1:Nat):Int)-1=(m:Int) by omega];exact BF [] (ih m (by omega) ⟨by omega,by rw[p2,D7,if_pos (by rw[List.getD_eq_getElem?_getD,hx];exact rz)]⟩)
theorem gU {l:List Rat} {k:Nat} (h:Bs k l) (i:Nat):Bt k (l.getD i 0):=by
 rw[List.getD_eq_getElem?_getD];cases e:l[i]? with
 | none=>exact Bt.zero k
 | some x=>exact h.at e
theorem uV (z:Int):w9 z = -1/\z<0\/w9 z=0/\z=0\/w9 z=1/\0<z:=by
 unfold w9;split
 ·exact Or.inl ⟨rfl,by omega⟩
 ·split
  ·exact Or.inr (Or.inr ⟨rfl,by omega⟩)
  ·exact Or.inr (Or.inl ⟨rfl,by omega⟩)
theorem Agu {a b:Nat} {z:Int} (h:z=(a:Int)-b):C9 a b=w9 z:=by
 unfold C9 w9;subst h;repeat' split
 all_goals omega
theorem Rb (N:q7 L) (n1 n2 q1 q2:Bool) (a b:List Nat) (ha:Sm 549755813888 a) (hb:Sm 549755813888 b):Ev L 197 [.agg (rZ q1 n1 a),.agg (rZ q2 n2 b)] (.int .i64 (w9 (zv n1 a-zv n2 b))):=by
 have h1:=λ q=>lP N.tob7 n1 q a ha
 have h2:=λ q=>lP N.tob7 n2 q b hb
 have h3:=λ q q'=>YI N.toj4 a b q q' ha.1 hb.1 (by have:=ha.2;omega) (by have:=hb.2;omega)
 have h4:=λ q q'=>YI N.toj4 b a q q' hb.1 ha.1 (by have:=hb.2;omega) (by have:=ha.2;omega)
 have za:=E1 n1 a;have zb:=E1 n2 b;generalize zv n1 a=x at *;generalize zv n2 b=y at *;rcases uV x with ⟨e1,g1⟩|⟨e1,g1⟩|⟨e1,g1⟩<;>rcases uV y with ⟨e2,g2⟩|⟨e2,g2⟩|⟨e2,g2⟩
 all_goals
  rw[e1]at h1;rw[e2]at h2;refine Ev.x N.TF rfl rfl ?_;(repeat' ((first|(apply AG<;>intro hc<;>try (exfalso;omega))|apply AE|refine AC (h1 _) ?_|refine AC (h2 _) ?_|refine AC (h3 _ _) ?_|refine AC (h4 _ _) ?_)<;>conv=>whnf))
  first
   | exact CX (uX (by omega))
   | exact CX (uY (by omega))
   | exact CX (Agu (by omega))
theorem AjT (N:q7 L) (k:Nat) (hk:1<=k/\k<=68719476736) (n1 n2:Bool) (m1 d1 m2 d2:List Nat) (mi:Sm k m1) (qg:Sm k d1) (jk:Sm k m2) (qh:Sm k d2) :
  Ev L 198 [.agg (rQ false false n1 m1 d1),.agg (rQ false false n2 m2 d2)] (.int .i64 (w9 (qv n1 m1 d1-qv n2 m2 d2).num)):=by
 obtain ⟨a1,a2,a3,w1,bn,s1,s2,s3,s4,s5⟩:=XR N.tob7 n1 m1 d1 k (by omega) mi qg;obtain ⟨b1,b2,b3,w2,dd,t1,t2,t3,t4,t5⟩:=XR N.tob7 n2 m2 d2 k (by omega) jk qh;rw[s5,t5,<-Sy s3 t3];by_cases hw:w1=true/\w2=true
 ·obtain ⟨rfl,rfl⟩:=hw
  have hC:=λ q q'=>Rb N a1 b1 q q' a2 b2 (s1.le (by omega)) (t1.le (by omega))
  rw[s4 rfl,t4 rfl];rw[show zv a1 a2*((1:Nat):Int)-zv b1 b2*((1:Nat):Int)=zv a1 a2-zv b1 b2 by omega];refine Ev.x N.NZ rfl rfl ?_;(repeat' ((first|apply HA|apply AE|refine AC (bn) ?_|refine AC (dd) ?_|refine AC (hC _ _) ?_)<;>conv=>whnf))
  exact CX rfl
 ·have eb:=λ q q'=>aU N.tob7 a1 false q q' a2 b3 s1.1 t2.1 (by have:=s1.2;have:=t2.2;omega)
  have fm:=λ q q'=>aU N.tob7 b1 false q q' b2 a3 t1.1 s2.1 (by have:=t1.2;have:=s2.2;omega)
  have Af:=dC N.tob7 a3;have xi:=dC N.tob7 b3;have g1:Sm (k+k) (dg (zv a1 a2*zv false b3).natAbs):=bO s1 t2;have g2:Sm (k+k) (dg (zv b1 b2*zv false a3).natAbs):=bO t1 s2;have hC:=λ q q'=>Rb N (decide (zv a1 a2*zv false b3<0)) (decide (zv b1 b2*zv false a3<0)) q q' _ _ (g1.le (by omega)) (g2.le (by omega))
  rw[E5,E5]at hC;rw[<-EP b3,<-EP a3];generalize zv a1 a2*zv false b3=x at *;generalize zv b1 b2*zv false a3=y at *;refine Ev.x N.NZ rfl rfl ?_;cases w1<;>cases w2
  ·(repeat' ((first|apply HA|apply aC|apply AE|refine AC (bn) ?_|refine AC (dd) ?_|refine AC (Af) ?_|refine AC (xi) ?_|refine AC (eb _ _) ?_|refine AC (fm _ _) ?_|refine AC (hC _ _) ?_)<;>conv=>whnf))
   exact CX rfl
  ·(repeat' ((first|apply HA|apply aC|apply AE|refine AC (bn) ?_|refine AC (dd) ?_|refine AC (Af) ?_|refine AC (xi) ?_|refine AC (eb _ _) ?_|refine AC (fm _ _) ?_|refine AC (hC _ _) ?_)<;>conv=>whnf))
   exact CX rfl
  ·(repeat' ((first|apply HA|apply aC|apply AE|refine AC (bn) ?_|refine AC (dd) ?_|refine AC (Af) ?_|refine AC (xi) ?_|refine AC (eb _ _) ?_|refine AC (fm _ _) ?_|refine AC (hC _ _) ?_)<;>conv=>whnf))
   exact CX rfl
  ·exact absurd ⟨rfl,rfl⟩ hw
theorem Qv (N:q7 L) {x y:Rat} {k l:Nat} (hx:Bt k x) (hy:Bt l y) (hk:k<2199023255552) (hl:l<2199023255552):Ev L 198 [.agg (eQ x),.agg (eQ y)] (.int .i64 (w9 (x-y).num)):=by
 have:=AjT N 68719476736 (by omega) (decide (x.num<0)) (decide (y.num<0)) _ _ _ _ (hx.sm hk).1 (hx.sm hk).2 (hy.sm hl).1 (hy.sm hl).2
 rw[EN,EN]at this;exact this
theorem lR (N:q7 L) {x:Rat} {k:Nat} (hx:Bt k x) (hk:k<2199023255552):Ev L 199 [.agg (eQ x)] (.agg (eQ (-x))):=by
 have hF:=Qy N.tow6 (decide (x.num<0)) (dg x.num.natAbs) (dg x.den);have hT:=λ q1 q2=>rJ N.tob7 (!decide (x.num<0)) q1 q2 _ _ ((hx.sm hk).1.le (by omega)) ((hx.sm hk).2.le (by omega))
 rw[Vz,EN]at hT;refine Ev.x N.U6 rfl rfl ?_;(repeat' ((first|apply wM|apply AE|refine AC (hF) ?_|refine AC (hT _ _) ?_)<;>conv=>whnf))
 exact AX rfl (DJ _)
theorem Rj (N:q7 L) (q:Bool) (l:List Rat) (k:Nat) (hl:Bs k l) (hk:k<2199023255552) (hn:l.length<=1000000):Ev L 200 [.sl q (l.map eQ)] (.int .i64 ((D7 l l.length:Int)-1)):=by
 refine Ev.x N.UZ rfl rfl ?_;(repeat' (apply AE<;>conv=>whnf))
 refine GF 1000 N.NX rfl rfl ?_;(repeat' ((first|apply AR|apply AE)<;>conv=>whnf))
 refine BQ (λ n=>n) (λ(n:Nat)=>n<=l.length/\D7 l l.length=D7 l n) (λ n=>[(3,.int .i64 n)]) (λ_=>[]) [] [] l.length (by (conv=>whnf);exact ⟨rfl,rfl,rfl⟩) ⟨Nat.le_refl _,rfl⟩ ?_;intro n ⟨p1,p2⟩ ih;have done : ∀ {n:Nat},D7 l l.length=n->C7 l=l.take n:=λ h=>by rw[C7,h]
 by_cases hz:n=0\/(∃ m x,n=m+1/\l[m]? = some x/\x≠0)
 ·have wv:D7 l l.length=n:=by
   rw[p2];rcases hz with rfl|⟨m,x,rfl,h1,h2⟩
   ·rfl
   ·rw[D7,if_neg]
    rw[List.getD_eq_getElem?_getD,h1];exact h2
  have Kc:=done wv;have cp:(l.take n).length=n:=by rw[List.length_take];omega
  clear ih wv p2 done;rcases hz with h0|⟨m,x,hnm,h1,h2⟩
  case' inl=>(repeat' ((first|(apply AG<;>intro hc<;>try (exfalso;omega))|apply AE)<;>conv=>whnf))
  case' inr =>
   have ua:l[((n:Int)-1).toNat]? = some x:=by rw[show ((n:Int)-1).toNat=m by omega];exact h1
   have wo:=aW N.tob7 (hl.at h1) (by omega);have hs:=X2 (x:=x);generalize w9 x.num=s at *;have hS : ∀ v,l[((n:Int)-1).toNat]? = some v->Ev L 97 [.agg (eQ v)] (.int .i64 s):=λ v h=>by
    obtain rfl:=Option.some.inj (ua.symm.trans h);exact wo
   have fc:s≠0:=λ h=>h2 (hs.1 h)
   (repeat' ((first|(apply AG<;>intro hc<;>try (exfalso;omega))|(apply B3;omega)|(refine A9 (by assumption) ?_ rfl ?_;omega)|apply AE|refine AC (wo) ?_)<;>conv=>whnf))
  all_goals
   refine ZE (enc:=eQ) (λ_=>rfl) p1 ?_;(conv=>whnf)
   skip
   refine ⟨rfl,_,rfl,?_⟩;(conv=>whnf)
   (repeat' ((first|(apply B3;omega)|apply AR)<;>conv=>whnf))
   have Gp:D7 l l.length=n:=by rw[<-jI,Kc,cp]
   rw[Gp];exact CX (by rw[cp])
 ·obtain ⟨m,rfl⟩ : ∃ m,n=m+1:=⟨n-1,by omega⟩
  obtain ⟨x,hx⟩ : ∃ x,l[m]? = some x:=⟨_,zE (by omega)⟩;have rz:x=0:=by
   rcases Classical.em (x=0) with h|h
   ·exact h
   ·exact (hz (Or.inr ⟨m,x,rfl,hx,h⟩)).elim
  have gv:l[((m+1:Nat)-1:Int).toNat]? = some x:=by rw[show ((m+1:Nat)-1:Int).toNat=m by omega];exact hx
  have wo:=aW N.tob7 (hl.at hx) (by omega);have hs:=X2 (x:=x);generalize w9 x.num=s at *;have hS : ∀ v,l[((m+1:Nat)-1:Int).toNat]? = some v->Ev L 97 [.agg (eQ v)] (.int .i64 s):=λ v h=>by
   obtain rfl:=Option.some.inj (gv.symm.trans h);exact wo
  have fc:=hs.2 rz;(repeat' ((first|(apply AG<;>intro hc<;>try (exfalso;omega))|(apply B3;omega)|(refine A9 (by assumption) ?_ rfl ?_;omega)|apply AE|refine AC (wo) ?_)<;>conv=>whnf))
  rw[show ((m+1:Nat):Int)-1=(m:Int) by omega];exact BF [] (ih m (by omega) ⟨by omega,by rw[p2,D7,if_pos (by rw[List.getD_eq_getElem?_getD,hx];exact rz)]⟩)
end Go.e8

namespace Go.e8
open F
attribute [local irreducible] AA AF AP AD CB AU AW BA A6 B2 AM BO B8 C8 BN A3 BX B9 AB A8 AJ pw BK BI CJ CK CU CR CI BT CT
set_option maxHeartbeats 1000000
variable {L:Lib}
def FV (n:Int):Prop := -9223372036854775808<=n/\n<=9223372036854775807
structure Wd where
 b:Int
 f:Int
 r:Int
 o:Int
abbrev J4 (w:Wd):List AV:=[.int .i64 w.b,.int .i64 w.f,.int .i64 w.r,.int .i64 w.o]
theorem AiX (I:o5 L) (r:Int):Ev L 1 [.int .i64 r] (.bool (decide (1<=r/\r<=3))):=by
 refine Ev.x I.TC rfl rfl ?_;(repeat' ((first|(apply AG<;>intro hc<;>try (exfalso;omega))|apply AE)<;>conv=>whnf))
 all_goals (first|exact jQ (by omega)|exact fA (by omega))
def WV (w:Wd):Prop:=4<=w.b/\w.b<=24/\0<=w.f/\w.f<w.b/\1<=w.r/\w.r<=3/\1<=w.o/\w.o<=2
instance (w : Wd) : Decidable (WV w) := by unfold WV; infer_instance
variable (w:Wd)
theorem gG (I:o5 L):Ev L 2 [.agg (J4 w)] (.bool (decide (WV w))):=by
 refine Ev.x I.TA rfl rfl ?_;(repeat' ((first|(apply AG<;>intro hc<;>try (exfalso;omega))|apply AE|refine cA (AiX I _) (λ hf => ?_) (λ hf => ?_))<;>conv=>whnf))
 all_goals (unfold WV;first|exact jQ (by omega)|exact fA (by omega))
def dP:Int:=if WV w then -pw (w.b-1) else 0
def dM:Int:=if WV w then pw (w.b-1)-1 else 0
theorem AiW (I:o5 L):Ev L 3 [.agg (J4 w)] (.int .i64 (dP w)):=by
 refine Ev.x I.S9 rfl rfl ?_;by_cases hv:WV w;all_goals (
  have na:=hv;unfold WV at na;(repeat' ((first|(apply B3;omega)|(refine cI ?_ (λ_ _ => ?_);omega)|apply wW|(apply CB.neg;omega)|apply AE|refine cA (gG _ I) (λ hf => ?_) (λ hf => ?_))<;>conv=>whnf))
  all_goals (first|contradiction|exact CX (by rw[dP,if_pos hv])|exact CX (by rw[dP,if_neg hv])))
theorem AiV (I:o5 L):Ev L 4 [.agg (J4 w)] (.int .i64 (dM w)):=by
 refine Ev.x I.S8 rfl rfl ?_;by_cases hv:WV w;all_goals (
  have na:=hv;unfold WV at na;(repeat' ((first|(apply B3;omega)|(refine cI ?_ (λ_ _ => ?_);omega)|apply wW|apply AE|refine cA (gG _ I) (λ hf => ?_) (λ hf => ?_))<;>conv=>whnf))
  all_goals (first|contradiction|exact CX (by rw[dM,if_pos hv])|exact CX (by rw[dM,if_neg hv])))
def FT (v:Int):Prop:=WV w/\dP w<=v/\v<=dM w
instance (v : Int) : Decidable (FT w v) := by unfold FT; infer_instance
theorem lO (I:o5 L) (v:Int):Ev L 5 [.agg (J4 w),.int .i64 v] (.bool (decide (FT w v))):=by
 refine Ev.x I.S7 rfl rfl ?_;(repeat' ((first|(apply AG<;>intro hc<;>try (exfalso;omega))|apply AE|refine cA (gG _ I) (λ hf => ?_) (λ hf => ?_)|refine AC (AiW _ I) ?_|refine AC (AiV _ I) ?_)<;>conv=>whnf))
 all_goals (unfold FT;first|exact jQ ⟨by assumption,by assumption,by assumption⟩|exact fA (by rintro ⟨h1,h2,h3⟩;first|contradiction|omega))
end Go.e8

namespace Go.e8
open F
attribute [local irreducible] AA AF AP AD CB AU AW BA A6 B2 AM BO B8 C8 BN A3 BX B9 AB A8 AJ pw BK BI CJ CK CU CR CI BT CT
set_option maxHeartbeats 1000000
variable {L:Lib}
structure Nd where
 q:Bool
 ts:List (Int × Int)
structure Nt where
 d:Wd
 c:Wd
 s:Int
 qn:Bool
 nodes:List Nd
 qx:Bool
 next:List Int
 out:Int
variable (n:Nt)
end Go.e8

namespace Go.e8
open F
attribute [local irreducible] AA AF AP AD CB AU AW BA A6 B2 AM BO B8 C8 BN A3 BX B9 AB A8 AJ pw BK BI CJ CK CU CR CI BT CT
variable {L:Lib}
set_option maxHeartbeats 1000000
theorem An0 (n:Int):FV (IntKind.i64.wrap n):=by
 unfold FV;rw[IntKind.wrap_i64];omega
def JX (v m:Int):Int:=if m<1 then 0 else v%m
theorem rL (W:v3 L) (v m:Int) (hv:FV v) (hm:m<=9223372036854775807):Ev L 34 [.int .i64 v,.int .i64 m] (.int .i64 (JX v m)):=by
 unfold FV at hv;refine Ev.x W.W6 rfl rfl ?_;(repeat' ((first|(apply AG<;>intro hc<;>try (exfalso;omega))|(apply AY;omega)|(refine cH ?_ (λ_ _ _ => ?_) (λ_ _ _ _ => ?_);omega;all_goals try (exfalso;omega))|apply AE)<;>conv=>whnf))
 all_goals (refine CX ?_;unfold JX;first|rw[if_pos (by omega)]|rw[if_neg (by omega)])
 all_goals omega
def XF (l:List Int) (i:Int):Int:=if 0<=i/\i<l.length then l.getD i.toNat 0 else 0
theorem Aj3 (W:v3 L) (l:List Int) (q:Bool) (i:Int):Ev L 35 [.sl q (l.map O4),.int .i64 i] (.int .i64 (XF l i)):=by
 refine Ev.x W.W2 rfl rfl ?_;(repeat' ((first|(apply AG<;>intro hc<;>try (exfalso;omega))|apply AR|(refine oQ ?_ (λ_=>rfl) (λ e he => ?_);omega)|apply AE)<;>conv=>whnf))
 all_goals (refine CX ?_;unfold XF;first|rw[if_neg (by omega)]|(rw[if_pos (by omega),List.getD_eq_getElem?_getD,he];rfl))
theorem eR {v m:Int} (h:1<=m):0<=JX v m/\JX v m<m:=by
 unfold JX;rw[if_neg (by omega)];exact ⟨Int.emod_nonneg _ (by omega),Int.emod_lt_of_pos _ (by omega)⟩
def Z9 (k least most above:Int):Wd :=
 let K:=JX k 1099511627776
 let b:=least+K%(most-least+1)
 let K1:=K/(most-least+1)
 ⟨b,max (b-1-above-K1%2) 0,1+K1/2%3,1+K1/2/3%2⟩
theorem Aj7 (W:v3 L) (k least most above:Int) (hk:FV k) (h1:1<=least/\least<=most/\most<=1000/\0<=above/\above<=1000):Ev L 36 [.int .i64 k,.int .i64 least,.int .i64 most,.int .i64 above] (.agg (J4 (Z9 k least most above))):=by
 refine Ev.x W.W7 rfl rfl ?_;have hr:=eR (v:=k) (m:=1099511627776) (by omega);have h3:0<=JX k 1099511627776/(most-least+1):=Int.ediv_nonneg hr.1 (by omega);have h4:JX k 1099511627776/(most-least+1)<=JX k 1099511627776:=Int.ediv_le_self _ hr.1;(repeat' ((first|(apply AG<;>intro hc<;>try (exfalso;omega))|(apply AY;omega)|(apply B3;omega)|(refine cH ?_ (λ_ _ _ => ?_) (λ_ _ _ _ => ?_);omega;all_goals try (exfalso;omega))|(refine IO ?_ ?_ (λ_ => ?_) (λ_ _ => ?_);omega;omega;all_goals try (exfalso;omega))|apply AE|refine AC (rL W _ _ hk (by omega)) ?_)<;>conv=>whnf))
 all_goals (
  refine AX ?_ (by simp [A0,CE]);simp only[Z9,AV.agg.injEq,List.cons.injEq,AV.int.injEq,true_and,and_true];omega)
def S3 (k:Int):Wd:=Z9 k 6 9 1
theorem AnV {k least most above:Int} (h:4<=least/\least<=most/\most<=24/\0<=above):WV (Z9 k least most above)/\least<=(Z9 k least most above).b/\(Z9 k least most above).b<=most:=by
 have hr:=eR (v:=k) (m:=1099511627776) (by omega);have h1:0<=JX k 1099511627776%(most-least+1):=Int.emod_nonneg _ (by omega);have h2:JX k 1099511627776%(most-least+1)<most-least+1:=Int.emod_lt_of_pos _ (by omega);simp only[WV,Z9];generalize JX k 1099511627776/(most-least+1)=d;omega
theorem Agw (k:Int):WV (S3 k)/\6<=(S3 k).b/\(S3 k).b<=9:=AnV (by omega)
theorem Aj5 (W:v3 L) (k:Int) (hk:FV k):Ev L 38 [.int .i64 k] (.agg (J4 (S3 k))):=by
 refine Ev.x W.W4 rfl rfl ?_;(repeat' ((first|apply AE|refine AC (Aj7 W _ _ _ _ hk (by omega)) ?_)<;>conv=>whnf))
 exact AX rfl (by simp [A0,CE])
theorem Aj6 (W:v3 L) (w:Wd) (h:WV w):Ev L 41 [.agg (J4 w)] (.int .i64 (pw w.f)):=by
 unfold WV at h;refine Ev.x W.W5 rfl rfl ?_;(repeat' ((first|(refine cI ?_ (λ_ _ => ?_);omega)|(apply CP;omega)|apply AE)<;>conv=>whnf))
 exact CX rfl
theorem AlD {w:Wd} (h:WV w):dP w = -pw (w.b-1)/\dM w=pw (w.b-1)-1/\1<=pw (w.b-1)/\pw (w.b-1)<=8388608:=by
 have h':=h;unfold WV at h';refine ⟨by rw[dP,if_pos h],by rw[dM,if_pos h],iP _,?_⟩;have:=uA (n:=w.b-1) (m:=23) (by omega)
 have e:pw 23=8388608:=by unfold pw;rfl
 omega
theorem Amw {α:Type} (f:Nat->α) (n:Nat):(List.range (n+1)).map f=(List.range n).map f++[f n]:=by rw[List.range_succ,List.map_append];rfl
def Z5 (b v:Int):Int:=JX (IntKind.i64.wrap (v+b)) (2*b+1)-b
def kI (b:Int) (l:List Int) (n:Nat):List Int:=(List.range n).map λ i:Nat=>Z5 b (XF l (i:Int))
theorem Aj4 (W:v3 L) (b:Int) (hb:0<=b/\b<=1000000000000) (l:List Int) (q:Bool) (n:Nat) (hn:n<=1000000):Ev L 40 [.int .i64 b,.sl q (l.map O4),.int .i64 n] (.sl false ((kI b l n).map O4)):=by
 refine Ev.x W.W3 rfl rfl ?_;(repeat' (apply AE<;>conv=>whnf))
 refine F8 (λ i _=>n-i) (λ(i:Nat) (o:List Int)=>i<=n/\o.length=i/\o=kI b l i) (λ i o=>[(7,.row 7 0 1 0 o.length),(8,.int .i64 i)]) (λ i o=>[(7,7,.rw 1 (o.map O4))]) [] [] 0 [] (by (conv=>whnf);exact ⟨rfl,rfl,rfl⟩) ⟨by omega,rfl,rfl⟩ ?_;intro i o ⟨p1,p2,p3⟩ ih;have hr:=eR (v:=IntKind.i64.wrap (XF l i+b)) (m:=2*b+1) (by omega);(repeat' ((first|(apply AG<;>intro hc<;>try (exfalso;omega))|(apply AY;omega)|(apply B3;omega)|(apply FN;omega)|apply wV|(refine DH (λ_=>rfl) rfl ?_ ?_;(first|rfl|simp))|apply EE|apply AE|refine AC (Aj3 W l _ _) ?_|refine AC (rL W _ _ (An0 _) (by omega)) ?_)<;>conv=>whnf))
 ·refine ES (enc:=O4) _ rfl rfl rfl (by omega) (by omega) ?_
  (conv=>whnf)
  (repeat' ((first|(apply AY;omega)|fail)<;>conv=>whnf))
  refine B1 [(7,27)] (by (conv=>whnf);exact ⟨rfl,rfl,rfl⟩) (ih (i+1) _ (by omega) ⟨by omega,by simp [p2],?_⟩);rw[kI,Amw,p3];rfl
 ·have:i=n:=by omega
  subst this;exact AX (by rw[p3]) (by simp [A0,Agn])
end Go.e8

namespace Go.e8
open F
attribute [local irreducible] AA AF AP AD CB AU AW BA A6 B2 AM BO B8 C8 BN A3 BX B9 AB A8 AJ pw BK BI CJ CK CU CR CI BT CT
variable {L:Lib} (n:Nt)
set_option maxHeartbeats 1000000
end Go.e8

namespace Go.e8
open F
attribute [local irreducible] AA AF AP AD CB AU AW BA A6 B2 AM BO B8 C8 BN A3 BX B9 AB A8 AJ pw BK BI CJ CK CU CR CI BT CT
variable {L:Lib}
set_option maxHeartbeats 4000000
theorem AiL (N:fb L) (S:GJ) (n k:Nat) (h:S.Ok n k) (hn:n<=64):Ev L 130 [.agg (eS S)] (.bool true):=by
 have h1:=h.la;have h2:=h.lb;have h3:=h.lc;refine Ev.x N.UE rfl rfl ?_;(repeat' ((first|(apply AG<;>intro hc<;>try (exfalso;omega))|apply AR|apply AE)<;>conv=>whnf))
 refine BQ (λ i=>S.a.length-i) (λ(i:Nat)=>i<=S.a.length) (λ i=>[(28,.int .i64 i)]) (λ_=>[]) [] [] 0 (by (conv=>whnf);exact ⟨rfl,rfl,rfl⟩) (by omega) ?_;intro i p1 ih;by_cases hi:i<S.a.length
 ·obtain ⟨r,hr⟩ : ∃ r,S.a[i]? = some r:=⟨_,zE hi⟩
  have ka:S.a[(i:Int).toNat]? = some r:=hr;have dp:=h.lr r (zM hr);(repeat' ((first|(apply AG<;>intro hc<;>try (exfalso;omega))|(apply AY;omega)|apply AR|(refine A9 (by assumption) ?_ rfl ?_;omega)|apply AE)<;>conv=>whnf))
  exact BF [] (ih (i+1) (by omega) (by omega))
 ·obtain rfl:i=S.a.length:=by omega
  clear ih;(repeat' ((first|(apply AG<;>intro hc<;>try (exfalso;omega))|apply AE)<;>conv=>whnf))
  exact GG rfl
end Go.e8

namespace Go.e8
theorem Bs.getD {k:Nat} {l:List Rat} (h:Bs k l) (i:Nat):Bt k (l.getD i 0):=by
 rw[List.getD_eq_getElem?_getD];cases e:l[i]? with
 | none=>exact Bt.zero k
 | some x=>exact h.at e
theorem Bt.ofInt {k:Nat} {z:Int} (h:z.natAbs<=2^k):Bt k ((z:Int):Rat):=⟨by rw[Rat.num_intCast];exact h,by rw[Rat.den_intCast];exact Nat.one_le_two_pow⟩
theorem Ws (σ:FP) (k:Nat) : ∀ (n i:Nat),B5 σ k i (List.replicate n none)=List.replicate n [.nil]
 | 0,_=>rfl
 | n+1,i=>by
  rw[List.replicate_succ,List.replicate_succ];show [AV.nil]::B5 σ k (i+1) (List.replicate n none)=_;rw[Ws σ k n (i+1)]
theorem Ael {L:Lib} {kk:List It} {tm:Tm} {M:Mem} {Q:Tm->Mem->Prop} (k s n:Nat) (e:g9 M k=some (s,.mx (List.replicate n none))) (h:AA L kk tm ((k,s,.rw 1 (List.replicate n [.nil]))::M) Q):AA L kk tm M Q:=by
 intro σ st hr;have hg : ∀ j t c,c7 ((k,s,.rw 1 (List.replicate n [.nil]))::M) j t=some c -> ∃ c0,c7 M j t=some c0/\c0.j5 σ j=c.j5 σ j:=by
  intro j t c g;by_cases hj:j=k
  ·subst hj
   cases t with
   | zero =>
    have h1:g9 ((j,s,A5.rw 1 (List.replicate n [.nil]))::M) j=some (s,.rw 1 (List.replicate n [.nil])):=by simp [g9]
    simp only[c7,h1,Option.some.injEq]at g;subst g;refine ⟨.mx (List.replicate n none),by simp only[c7,e],?_⟩;simp only[A5.j5,Ws]
   | succ i =>
    have h1:g9 ((j,s,A5.rw 1 (List.replicate n [.nil]))::M) j=some (s,.rw 1 (List.replicate n [.nil])):=by simp [g9]
    simp only[c7,h1]at g;cases g
  ·have h1:g9 ((k,s,A5.rw 1 (List.replicate n [.nil]))::M) j=g9 M j:=by
    have hb:Nat.beq j k=false:=by
     cases nk:Nat.beq j k with
     | false=>rfl
     | true=>exact absurd (Nat.eq_of_beq_eq_true nk) hj
    simp only[g9,hb,cond_false]
   refine ⟨c,?_,rfl⟩;simp only[c7,h1]at g ⊢;exact g
 refine h σ st ⟨hr.tm,⟨?_,?_,?_,?_,?_⟩⟩
 ·intro j s' c g
  by_cases hj:j=k
  ·subst hj
   have h1:g9 ((j,s,A5.rw 1 (List.replicate n [.nil]))::M) j=some (s,.rw 1 (List.replicate n [.nil])):=by simp [g9]
   rw[h1]at g;simp only[Option.some.injEq,Prod.mk.injEq]at g;obtain ⟨rfl,_⟩:=g;exact hr.sat.site _ _ _ e
  ·have h1:g9 ((k,s,A5.rw 1 (List.replicate n [.nil]))::M) j=g9 M j:=by
    have hb:Nat.beq j k=false:=by
     cases nk:Nat.beq j k with
     | false=>rfl
     | true=>exact absurd (Nat.eq_of_beq_eq_true nk) hj
    simp only[g9,hb,cond_false]
   rw[h1]at g;exact hr.sat.site _ _ _ g
 ·intro j t c g
  obtain ⟨c0,q1,q2⟩:=hg j t c g;rw[<-q2];exact hr.sat.j5 _ _ _ q1
 ·intro j t c g
  obtain ⟨c0,q1,_⟩:=hg j t c g;exact hr.sat.old _ _ _ q1
 ·intro j t j' t' c c' g g' hσ
  obtain ⟨c0,q1,_⟩:=hg j t c g;obtain ⟨c1,q2,_⟩:=hg j' t' c' g';exact hr.sat.inj _ _ _ _ _ _ q1 q2 hσ
 ·intro j t c g hw
  cases t with
  | zero =>
   by_cases hj:j=k
   ·subst hj;exact hr.sat.low _ _ _ (DZ e) rfl
   ·rw[PN hj]at g;exact hr.sat.low _ _ _ g hw
  | succ t =>
   obtain ⟨c0,q1,_⟩:=hg _ _ _ g;exact hr.sat.low _ _ _ q1 (mM q1)
end Go.e8



namespace Go.e8
open F
attribute [local irreducible] AA AF AP AD CB AU AW BA A6 B2 AM BO B8 C8 BN A3 BX B9 AB A8 AJ pw BK BI CJ CK CU CR CI BT CT
variable {L:Lib}
set_option maxHeartbeats 4000000
theorem oA (m p:Nat):(List.replicate m (0:Rat)).set p 1=GE m p:=by
 refine List.ext_getElem? λ j => ?_
 simp only[GE,List.getElem?_set,List.getElem?_map,List.getElem?_replicate,List.length_replicate];by_cases h:j<m
 ·rw[List.getElem?_range h]
  by_cases e:p=j
  ·subst e;simp [h]
  ·simp [h,e];intro h3;omega
 ·rw[List.getElem?_eq_none (by simpa using h)]
  simp [h];intro e;omega
theorem Ake {α:Type} (a b:α) {t m:Nat} (_:t<=m) (h:t<m):(List.replicate t a++List.replicate (m-t) b).set t a=List.replicate (t+1) a++List.replicate (m-(t+1)) b:=by
 obtain ⟨k,hk⟩ : ∃ k,m-t=k+1:=⟨m-t-1,by omega⟩;rw[List.set_append_right _ _ (by simp),hk,List.length_replicate,Nat.sub_self,List.replicate_succ,List.set_cons_zero,show m-(t+1)=k by omega,List.replicate_succ',List.append_assoc];rfl
def fz {α:Type} (z:α) (l:List α) (m:Nat):List α:=l++List.replicate (m-l.length) z
theorem dI {α:Type} {z:α} {l:List α} {m:Nat} (h:l.length<=m):(fz z l m).length=m:=by simp [fz];omega
theorem dJ {α:Type} {z x:α} {l:List α} {m:Nat} (h:l.length<m):(fz z l m).set l.length x=fz z (l++[x]) m:=by
 unfold fz;obtain ⟨k,hk⟩ : ∃ k,m-l.length=k+1:=⟨m-l.length-1,by omega⟩;rw[List.set_append_right _ _ (by simp),hk,Nat.sub_self,List.replicate_succ,List.set_cons_zero,List.length_append,List.length_singleton,show m-(l.length+1)=k by omega,List.append_assoc];rfl
theorem Akf {α:Type} {z:α} {l:List α} {m:Nat} (h:l.length<m):(fz z l m)[l.length]? = some z:=by
 unfold fz;rw[List.getElem?_append_right (by omega),Nat.sub_self,List.getElem?_replicate,if_pos (by omega)]
theorem dH {α:Type} {z:α} {l:List α} {m:Nat} (h:l.length=m):fz z l m=l:=by simp [fz,h]
theorem eH {α:Type} {l:List α} {i:Nat} {x:α} (h:l[i]? = some x):l.take (i+1)=l.take i++[x]:=by
 rw[List.take_add_one,h];rfl
end Go.e8

namespace Go.e8
def DE (m:List (List Rat)) (j:Nat):List Rat:=m.map λ r=>r.getD j 0
def FF (r:List Rat) (m:List (List Rat)) (n:Nat):List Rat:=(List.range n).map λ j=>A4 r (DE m j)
def GM (a m:List (List Rat)) (n:Nat):List (List Rat):=a.map λ r=>FF r m n
def sG (n:Nat):List (List Rat):=(List.range n).map λ i:Nat=>GE n i
def mO (m:List (List Rat)) (b:List Rat):List Rat:=m.map λ r=>A4 r b
theorem Agx (m:List (List Rat)) (j:Nat):(DE m j).length=m.length:=by simp [DE]
theorem AlV (r:List Rat) (m:List (List Rat)) (n:Nat):(FF r m n).length=n:=by simp [FF]
theorem AlT (a m:List (List Rat)) (n:Nat):(GM a m n).length=a.length:=by simp [GM]
structure Sq (n:Nat) (m:List (List Rat)):Prop where
 l:m.length=n
 r : ∀ r∈m,r.length=n
theorem Sq.at {n:Nat} {m:List (List Rat)} (h:Sq n m) {i:Nat} {r:List Rat} (hr:m[i]? = some r):r.length=n:=h.r r (zM hr)
theorem Sq.mul {n:Nat} {a:List (List Rat)} (h:a.length=n) (m:List (List Rat)):Sq n (GM a m n):=by
 refine ⟨by rw[AlT,h],λ r hr => ?_⟩;obtain ⟨x,_,rfl⟩:=List.mem_map.1 hr;exact AlV _ _ _
def Ms (k:Nat) (m:List (List Rat)):Prop := ∀ r∈m,Bs k r
theorem Ms.at {k:Nat} {m:List (List Rat)} (h:Ms k m) {i:Nat} {r:List Rat} (hr:m[i]? = some r):Bs k r:=h r (zM hr)
theorem Ms.getD {k:Nat} {m:List (List Rat)} (h:Ms k m) (i j:Nat):Bt k ((m.getD i []).getD j 0):=by
 rw[List.getD_eq_getElem?_getD,List.getD_eq_getElem?_getD];cases e:m[i]? with
 | none=>exact Bt.zero k
 | some r =>
  simp only[Option.getD_some];cases e2:r[j]? with
  | none=>exact Bt.zero k
  | some x=>exact (h.at e).at e2
theorem Ms.le {k j:Nat} {m:List (List Rat)} (h:Ms k m) (hj:k<=j):Ms j m:=λ r hr=>(h r hr).le hj
theorem Ms.Iy {k:Nat} {m:List (List Rat)} (h:Ms k m) (j:Nat):Bs k (DE m j):=by
 intro x hx;obtain ⟨r,hr,rfl⟩:=List.mem_map.1 hx;rw[List.getD_eq_getElem?_getD];cases e:r[j]? with
 | none=>exact Bt.zero k
 | some x=>exact (h r hr).at e
theorem Ms.mul {n k s:Nat} {a m:List (List Rat)} (ha:Ms k a) (hs:Sq n a) (hm:Ms s m):Ms (n*(k+s+1)) (GM a m n):=by
 intro r hr x hx;obtain ⟨r,h1,rfl⟩:=List.mem_map.1 hr;obtain ⟨j,_,rfl⟩:=List.mem_map.1 hx;have:=(ha r h1).dot (hm.Iy j)
 rw[hs.r r h1]at this;exact this
end Go.e8

namespace Go.e8
variable {L:Lib}
end Go.e8

namespace Go.e8
open F
attribute [local irreducible] AA AF AP AD CB AU AW BA A6 B2 AM BO B8 C8 BN A3 BX B9 AB A8 AJ pw BK BI CJ CK CU CR CI BT CT
variable {L:Lib}
set_option maxHeartbeats 16000000
def ot (P:List (List Rat)) (n j i:Nat):List (List (Option Rat)):=(List.range P.length).map λ r=>EM ((P.getD r []).take (if r<i then j+1 else j)) n
theorem iI (P:List (List Rat)) (n j i:Nat):(ot P n j i).length=P.length:=by simp [ot]
theorem Akm {P:List (List Rat)} {i:Nat} {row:List Rat} (h:P[i]? = some row):P.getD i []=row:=by rw[List.getD_eq_getElem?_getD,h];rfl
theorem mU {P:List (List Rat)} {n j i r:Nat} {row:List Rat} (h:P[r]? = some row):(ot P n j i)[r]? = some (EM (row.take (if r<i then j+1 else j)) n):=by
 have h1:=(zS h).1;simp only[ot,List.getElem?_map,List.getElem?_range h1,Option.map_some,Akm h]
theorem Amg {P:List (List Rat)} {n j i:Nat} {row:List Rat} (h:P[i]? = some row):(ot P n j i).set i (EM (row.take (j+1)) n)=ot P n j (i+1):=by
 refine List.ext_getElem? λ r => ?_
 rw[List.getElem?_set,iI];cases e:P[r]? with
 | none =>
  have h1:=List.getElem?_eq_none_iff.1 e;have h2:=(zS h).1;rw[List.getElem?_eq_none (by rw[iI];exact h1),if_neg (by omega),List.getElem?_eq_none (by rw[iI];exact h1)]
 | some rw' =>
  rw[mU e,mU e];by_cases hi:i=r
  ·subst hi
   obtain rfl:=Option.some.inj (h.symm.trans e);have h2:=(zS h).1;rw[if_pos rfl,if_pos h2,if_pos (by omega)]
  ·rw[if_neg hi]
   by_cases h3:r<i
   ·rw[if_pos h3,if_pos (by omega)]
   ·rw[if_neg h3,if_neg (by omega)]
theorem Amf (P:List (List Rat)) (n j:Nat):ot P n j P.length=ot P n (j+1) 0:=by
 refine List.map_congr_left λ r hr => ?_
 rw[if_pos (List.mem_range.1 hr),if_neg (by omega)]
theorem Amh (P:List (List Rat)) (n:Nat):ot P n 0 0=List.replicate P.length (EM [] n):=by
 refine List.ext_getElem? λ r => ?_
 simp only[ot,List.getElem?_map,List.getElem?_replicate];by_cases h:r<P.length
 ·rw[List.getElem?_range h,if_pos h];simp
 ·rw[List.getElem?_eq_none (by simp;omega),if_neg h];rfl
theorem Ame {P:List (List Rat)} {n:Nat} (h : ∀ r∈P,r.length=n):BJ 3 eO (ot P n n 0)=BJ 3 eQ P:=by
 refine List.ext_getElem? λ r => ?_
 simp only[BJ,List.getElem?_map];cases e:P[r]? with
 | none=>rw[List.getElem?_eq_none (by rw[iI];exact List.getElem?_eq_none_iff.1 e)];rfl
 | some row =>
  have hl:=h row (zM e);rw[mU e,if_neg (by omega),List.take_of_length_le (by omega)];simp only[Option.map_some,YL hl]
theorem AiM (N:fb L) (S:GJ) (n k:Nat) (h:S.Ok n k) (hn:n<=64):Ev L 136 [.agg (eS S)] (.bool true):=by
 have h1:=h.la;have h2:=h.lb;have h3:=h.lc;refine Ev.x N.WD rfl rfl ?_;(repeat' ((first|(apply AG<;>intro hc<;>try (exfalso;omega))|apply AR|apply AE)<;>conv=>whnf))
 refine BQ (λ i=>S.a.length-i) (λ(i:Nat)=>i<=S.a.length) (λ i=>[(4,.int .i64 i)]) (λ_=>[]) [] [] 0 (by (conv=>whnf);exact ⟨rfl,rfl,rfl⟩) (by omega) ?_;intro i p1 ih;by_cases hi:i<S.a.length
 ·obtain ⟨r,hr⟩ : ∃ r,S.a[i]? = some r:=⟨_,zE hi⟩
  have ka:S.a[(i:Int).toNat]? = some r:=hr;have dp:=h.lr r (zM hr);(repeat' ((first|(apply AG<;>intro hc<;>try (exfalso;omega))|(apply AY;omega)|apply AR|(refine A9 (by assumption) ?_ rfl ?_;omega)|apply AE)<;>conv=>whnf))
  exact BF [] (ih (i+1) (by omega) (by omega))
 ·obtain rfl:i=S.a.length:=by omega
  clear ih;(repeat' ((first|(apply AG<;>intro hc<;>try (exfalso;omega))|apply AE)<;>conv=>whnf))
  exact GG rfl
end Go.e8

namespace Go.e8
theorem aE {R:List (Option (Nat × List (List AV)))} {i e z:Nat} {es:List (List AV)} {K:Option (Nat × List (List AV))->Prop} (he:e=i) (hi:i<R.length) (h:K (some (z,es))):BK (R.set i (some (z,es))) e K:=by
 subst he;exact ⟨_,by rw[List.getElem?_set,if_pos rfl,if_pos hi],h⟩
theorem X7 {R:List (Option (Nat × List (List AV)))} {i e z:Nat} {es:List (List AV)} {K:Nat->List (List AV)->Prop} (he:e=i) (hi:i<R.length) (h:K z es):BI (R.set i (some (z,es))) e K:=by
 subst he;exact ⟨z,es,by rw[List.getElem?_set,if_pos rfl,if_pos hi],h⟩
theorem jZ {R:List (Option (Nat × List (List AV)))} {i e z:Nat} {es es':List (List AV)} {K:List (Option (Nat × List (List AV)))->Prop} (he:e=i) (hl:es'.length=es.length) (h:K (R.set i (some (z,es')))):CK (R.set i (some (z,es))) e z es es' K:=by
 subst he;exact ⟨hl,by rw[List.set_set];exact h⟩
theorem cJ {R:List (Option (Nat × List (List AV)))} {i e z:Nat} {es:List (List AV)} {K:List (Option (Nat × List (List AV)))->Prop} (he:e=i) (hi:i<R.length) (h:K (R.set i (some (z,es)))):CJ R e z es K:=by
 subst he;exact ⟨hi,h⟩
end Go.e8

namespace Go.e8
open F
attribute [local irreducible] AA AF AP AD CB AU AW BA A6 B2 AM BO B8 C8 BN A3 BX B9 AB A8 AJ pw BK BI CJ CK CU CR CI BT CT
variable {L:Lib}
set_option maxHeartbeats 16000000
def mz (Q:List (List Rat)) (n i:Nat):List (Option (Nat × List (List AV))):=fz none (BJ 3 eQ (Q.take i)) n
theorem tH {Q:List (List Rat)} {n i:Nat} (hi:i<=n):(mz Q n i).length=n:=by
 refine dI ?_;simp only[BJ,List.length_map,List.length_take];omega
theorem tK (Q:List (List Rat)) (n:Nat):mz Q n 0=List.replicate n none:=by simp [mz,fz]
theorem tJ {Q:List (List Rat)} {n i:Nat} {row:List Rat} (h:Q[i]? = some row) (hi:i<n):(mz Q n i).set i (some (3,row.map eQ))=mz Q n (i+1):=by
 have h1:=(zS h).1;have hl:(BJ 3 eQ (Q.take i)).length=i:=by simp only[BJ,List.length_map,List.length_take];omega
 have:=dJ (z:=none) (l:=BJ 3 eQ (Q.take i)) (m:=n) (x:=some (3,row.map eQ)) (by omega)
 rw[hl]at this;rw[mz,this,mz,eH h];simp [BJ]
theorem tG {Q:List (List Rat)} {n:Nat} (h:Q.length=n):mz Q n n=BJ 3 eQ Q:=by
 rw[mz,List.take_of_length_le (by omega)];exact dH (by simp [BJ,h])
def cz (row:List Rat) (n j:Nat):List Rat:=fz 0 (row.take j) n
theorem zN {row:List Rat} {n j:Nat} (hj:j<=n):(cz row n j).length=n:=by
 refine dI ?_;rw[List.length_take];omega
theorem zQ (row:List Rat) (n:Nat):cz row n 0=List.replicate n 0:=by simp [cz,fz]
theorem zO {row:List Rat} {n j:Nat} {x:Rat} (h:row[j]? = some x) (hj:j<n):(cz row n j).set j x=cz row n (j+1):=by
 have h1:=(zS h).1;have hl:(row.take j).length=j:=by rw[List.length_take];omega
 have:=dJ (z:=(0:Rat)) (l:=row.take j) (m:=n) (x:=x) (by omega)
 rw[hl]at this;rw[cz,this,cz,eH h]
theorem zL {row:List Rat} {n:Nat} (h:row.length=n):cz row n n=row:=by
 rw[cz,List.take_of_length_le (by omega)];exact dH h
end Go.e8

namespace Go.e8
open Go.ChangeShapes Go.WideShapes Go.ChangeAt Go.RowKit
inductive Ty where
 | int (k:IntKind)
 | bool
 | sl (e:Ty)
 | nil
 | cons (a r:Ty)
def Ty.cells:Ty->Nat
 | .int _=>1 | .bool=>1 | .sl _=>1
 | .nil=>0
 | .cons a r=>a.cells+r.cells
def HN:Ty->List AV->Prop
 | .int k,cs => ∃ n,cs=[.int k n]/\(Lit.int k n).wf=true
 | .bool,cs => ∃ b,cs=[.bool b]
 | .sl e,cs => ∃ es,cs=[.sl true es]/\es.length<=maxLen /\ ∀ x∈es,HN e x
 | .nil,cs=>cs=[]
 | .cons a r,cs => ∃ x y,cs=x++y/\HN a x/\HN r y
theorem HN.len : ∀ {ty:Ty} {cs:List AV},HN ty cs->cs.length=ty.cells
 | .int _,cs,h=>by obtain ⟨n,rfl,_⟩:=h;rfl
 | .bool,cs,h=>by obtain ⟨n,rfl⟩:=h;rfl
 | .sl _,cs,h=>by obtain ⟨n,rfl,_⟩:=h;rfl
 | .nil,cs,h=>by rw[show cs=[] from h];rfl
 | .cons a r,cs,h=>by obtain ⟨x,y,rfl,h1,h2⟩:=h;simp [Ty.cells,HN.len h1,HN.len h2]
def UP (P:Program):Nat->TypeId->Ty->Bool
 | 0,_,_=>false
 | n+1,t,ty=>match P.underlying t,ty with
  | some (.int k),.int k'=>decide (k=k')
  | some .bool,.bool=>true
  | some (.slice e),.sl nw=>UP P n e nw&&(P.cellsOf e == nw.cells&&decide (0<nw.cells))
  | some (.struct fs),ty=>go (UP P n) fs.toList 0 ty&&P.cellsOf t == ty.cells
  | _,_=>false
where
 go (ok:TypeId->Ty->Bool):List Field->Nat->Ty->Bool
  | [],_,.nil=>true
  | f::fs,off,.cons a r=>(f.offset == off&&(ok f.type a&&P.cellsOf f.type == a.cells))&&go ok fs (off+a.cells) r
  | _,_,_=>false
section
variable {H:Type} {enc:TypeId × Value->H} {P:Program} {w:World} {base:Nat} {spare:Nat->Bool} {held:Bool} {R:Bool->Nat->Prop}
def H6 (w:World) (R:Bool->Nat->Prop) (as:List AV) (cs:List Value):Prop:=as.length=cs.length /\ ∀ (j:Nat) (a:AV) (c:Value),as[j]? = some a->cs[j]? = some c->Rd w R a c
theorem H6.one {a:AV} {c:Value} (h:Rd w R a c):H6 w R [a] [c]:=by
 refine ⟨rfl,λ j a' c' h1 h2 => ?_⟩;cases j with
 | zero=>simp at h1 h2;subst h1 h2;exact h
 | succ j=>simp at h1
theorem H6.append {as bs:List AV} {cs ds:List Value} (h1:H6 w R as cs) (h2:H6 w R bs ds):H6 w R (as++bs) (cs++ds):=by
 refine ⟨by simp [h1.1,h2.1],λ j a c ha hc => ?_⟩;by_cases hj:j<as.length
 ·rw[List.getElem?_append_left hj]at ha
  rw[List.getElem?_append_left (by rw[<-h1.1];exact hj)]at hc;exact h1.2 j a c ha hc
 ·rw[List.getElem?_append_right (by omega)]at ha
  rw[List.getElem?_append_right (by rw[<-h1.1];omega),<-h1.1]at hc;exact h2.2 _ a c ha hc
theorem xH (a:Addr) (i:Nat) (h:a.spot=none):a.add i=⟨a.block,a.off+i,none⟩:=by
 obtain ⟨b,o,s⟩:=a;simp only at h;subst h;exact HP b o i
theorem Xi (hR : ∀ b,b<w.heap.size->R true b) (m:Nat) (ih : ∀ (ty:Ty) (t:TypeId) (cs:List Value) (fuel:Nat) (x:DataW H × List MemPlace),UP P m t ty=true->DataW.trod enc P w base spare held fuel t cs=some x -> ∃ as,HN ty as/\H6 w R as cs)
  (n:Nat) (cs:List Value) : ∀ (fs:List Field) (off:Nat) (ty:Ty),UP.go P (UP P m) fs off ty=true->(∀ f∈fs,∃ y,DataW.trod enc P w base spare held n f.type ((cs.drop f.offset).take (P.cellsOf f.type))=some y)->off+ty.cells=cs.length -> ∃ as,HN ty as/\H6 w R as (cs.drop off)
 | [],off,ty,k8,_,hl=>by
  cases ty<;>simp only[UP.go,Bool.false_eq_true]at k8;simp only[Ty.cells]at hl;exact ⟨[],rfl,by rw[List.drop_of_length_le (by omega)];exact ⟨rfl,λ j a c h=>by simp at h⟩⟩
 | f::fs,off,ty,k8,hf,hl=>by
  cases ty<;>simp only[UP.go,Bool.false_eq_true,Bool.and_eq_true,beq_iff_eq]at k8;rename_i a r;obtain ⟨⟨h1,h2,h3⟩,h4⟩:=k8;simp only[Ty.cells]at hl;obtain ⟨y,hy⟩:=hf f List.mem_cons_self;rw[h1,h3]at hy;obtain ⟨as1,g1,g2⟩:=ih a f.type _ n y h2 hy;obtain ⟨as2,g3,g4⟩:=Xi hR m ih n cs fs (off+a.cells) r h4 (λ f' h'=>hf f' (List.mem_cons_of_mem _ h')) (by omega);refine ⟨as1++as2,⟨as1,as2,rfl,g1,g3⟩,?_⟩;have:=g2.append g4
  rwa [show (cs.drop off).take a.cells++cs.drop (off+a.cells)=cs.drop off by rw[<-List.drop_drop,List.take_append_drop]]at this
theorem Xh (hR : ∀ b,b<w.heap.size->R true b) : ∀ (m:Nat) (ty:Ty) (t:TypeId) (cs:List Value) (fuel:Nat) (x:DataW H × List MemPlace),UP P m t ty=true->DataW.trod enc P w base spare held fuel t cs=some x -> ∃ as,HN ty as/\H6 w R as cs
 | 0,_,_,_,_,_,h,_=>by simp [UP]at h
 | m+1,ty,t,cs,fuel,x,k8,h=>by
  have ih:=Xh hR m;simp only[UP]at k8;split at k8
  ·rename_i k k' hu
   obtain rfl:k=k':=by simpa using k8
   obtain ⟨n,rfl,_,hw⟩:=DataW.trod_int hu h;exact ⟨[.int k n],⟨n,rfl,hw⟩,H6.one (.int k n)⟩
  ·rename_i hu
   cases fuel with
   | zero=>simp [DataW.trod]at h
   | succ fuel =>
    unfold DataW.trod at h;rw[hu]at h;split at h<;>simp_all
    exact ⟨_,⟨_,rfl⟩,H6.one (.bool _)⟩
  ·rename_i e nw hu
   simp only[Bool.and_eq_true,beq_iff_eq,decide_eq_true_eq]at k8;obtain ⟨h1,h2,h3⟩:=k8;rcases DataW.trod_slice hu h with ⟨rfl,_⟩|⟨a,len,cap,elems,rest,n,_,rfl,_,hb,hl,hm,hlen,fy,_,_⟩
   ·exact ⟨[.sl true []],⟨[],rfl,by simp,by simp⟩,H6.one (.kz true none 0)⟩
   ·have each : ∀ i,i<len -> ∃ as fx,HN nw as/\H6 w R as fx/\fx.length=nw.cells /\ ∀ j,j<nw.cells->w.cell? ((a.add (i*nw.cells)).add j)=fx[j]? := by
     intro i hi;have:=fy i hi
     rw[h2,zE (by omega),Option.bind_eq_some_iff]at this;obtain ⟨fx,hc,ht⟩:=this;obtain ⟨as,g1,g2⟩:=ih nw e fx n _ h1 ht;obtain ⟨_,q1,q2⟩:=World.cells?_some hc;exact ⟨as,fx,g1,g2,q1,q2⟩
    by_cases h0:len=0
    ·subst h0
     exact ⟨[.sl true []],⟨[],rfl,by simp,by simp⟩,H6.one (.kz true (some a) cap)⟩
    ·have Bp:a.spot=none:=by
      obtain ⟨as,fx,_,_,q1,q2⟩:=each 0 (by omega);have:=q2 0 h3
      rw[zE (by omega)]at this;simpa [Addr.add] using World.cell?_spot this
     have ow:a.block<w.heap.size:=by
      obtain ⟨as,fx,_,_,q1,q2⟩:=each 0 (by omega);have:=q2 0 h3
      rw[zE (by omega)]at this;simpa [Addr.add] using aK this
     have pick : ∃ f:Nat->List AV × List Value,∀ i,i<len->HN nw (f i).1/\H6 w R (f i).1 (f i).2/\(f i).2.length=nw.cells /\ ∀ j,j<nw.cells->w.cell? ((a.add (i*nw.cells)).add j)=(f i).2[j]? := by
      refine ⟨λ i=>if hi:i<len then (Classical.choose (each i hi),Classical.choose (Classical.choose_spec (each i hi))) else ([],[]),λ i hi => ?_⟩;simp only[hi,dif_pos];exact Classical.choose_spec (Classical.choose_spec (each i hi))
     obtain ⟨f,hf⟩:=pick;have q6 : ∀ i e',((List.range len).map λ i=>(f i).1)[i]? = some e'->i<len/\e'=(f i).1:=by
      intro i e' he;rw[List.getElem?_map]at he;by_cases hi:i<len
      ·rw[List.getElem?_range hi]at he
       simp at he;exact ⟨hi,he.symm⟩
      ·rw[List.getElem?_eq_none (by simpa using hi)]at he
       cases he
     refine ⟨[.sl true ((List.range len).map λ i=>(f i).1)],⟨_,rfl,by simp;omega,λ x hx => ?_⟩,H6.one ?_⟩
     ·obtain ⟨i,hi,rfl⟩:=List.mem_map.1 hx
      exact (hf i (List.mem_range.1 hi)).1
     ·obtain ⟨ab,ao,as⟩:=a
      simp only at Bp;subst Bp;have Bk:((List.range len).map λ i=>(f i).1).length=len:=by simp
      have:=Rd.sl (w:=w) (R:=R) true ((List.range len).map λ i=>(f i).1) ab ao nw.cells cap (λ i j=>((f i).2[j]?).getD default) (by intro e;have:=congrArg List.length e;simp at this;omega) h3 (hR ab ow) (by rw[Bk];exact hl)
       (λ e' he=>by
        obtain ⟨i,hi,rfl⟩:=List.mem_map.1 he;exact (hf i (List.mem_range.1 hi)).1.len)
       (λ i e' he j c hc=>by
        obtain ⟨hi,rfl⟩:=q6 i e' he;obtain ⟨g1,g2,g3,g4⟩:=hf i hi;have hj:j<nw.cells:=by
         have:=(zS hc).1
         rwa [g1.len]at this
        have h5:=g4 j hj;rw[xH ⟨ab,ao,none⟩ (i*nw.cells) rfl,xH _ _ rfl]at h5;simp only at h5;rw[show ao+(i*nw.cells+j)=ao+i*nw.cells+j by omega,h5,zE (by omega)];rfl)
       (λ i e' he j c hc=>by
        obtain ⟨hi,rfl⟩:=q6 i e' he;obtain ⟨g1,g2,g3,g4⟩:=hf i hi;have hj:j<nw.cells:=by
         have:=(zS hc).1
         rwa [g1.len]at this
        have h6:(f i).2[j]? = some ((f i).2[j]'(by omega)):=zE _;rw[h6];exact g2.2 j c _ hc h6)
      rwa [Bk]at this
  ·rename_i fs hu
   simp only[Bool.and_eq_true,beq_iff_eq]at k8;obtain ⟨h1,h2⟩:=k8;obtain ⟨xs,n,_,_,hl,hlen,hf⟩:=DataW.trod_struct hu h;have:=Xi hR m ih n cs fs.toList 0 _ h1 (λ f oy=>by
    obtain ⟨i,hi,rfl⟩:=List.getElem_of_mem oy;have h5:=hf i fs.toList[i] (by simp);rw[h5,zE (by simpa [hlen] using hi)];exact ⟨_,rfl⟩) (by rw[hl,h2];omega)
   simpa using this
  ·exact absurd k8 (by simp)
theorem tT {S:Nat->Prop} {ty:Ty} {t:TypeId} {v:Value} {d:DataW H} {ps:List MemPlace} {m:Nat} (k8:UP P m t ty=true) (hv:v.cells.toList=[v]) (h:DataW.Trod enc P w base spare held t v d ps) :
  ∃ a,HN ty [a]/\CA w.heap.size S ⟨λ_ _=>none,AH.emp,w⟩ a v:=by
 obtain ⟨fuel,hf⟩:=h;rw[hv]at hf;obtain ⟨as,h1,h2⟩:=Xh (R:=safe w.heap.size S ⟨λ_ _=>none,AH.emp,w⟩) (λ b hb=>Or.inr (Or.inr ⟨rfl,hb⟩)) m ty t [v] fuel _ k8 hf;obtain ⟨a,rfl⟩ : ∃ a,as=[a]:=by
  have:=h2.1
  match as,this with
  | [a],_=>exact ⟨a,rfl⟩
 exact ⟨a,h1,.one (.rd (h2.2 0 a v rfl rfl))⟩
end
theorem Af6 {B:Nat} {S:Nat->Prop} {m:M} : ∀ (j:Nat) (c:AV) (v:Value),([]:List AV)[j]? = some c->([]:List Value)[j]? = some v->CA B S m c v:=λ j c v h=>by simp at h
theorem oW {B:Nat} {S:Nat->Prop} {m:M} {a:AV} {u:Value} {as:List AV} {us:List Value} (h:CA B S m a u) (hr : ∀ (j:Nat) (c:AV) (v:Value),as[j]? = some c->us[j]? = some v->CA B S m c v) :
  ∀ (j:Nat) (c:AV) (v:Value),(a::as)[j]? = some c->(u::us)[j]? = some v->CA B S m c v
 | 0,c,v,h1,h2=>by simp at h1 h2;subst h1 h2;exact h
 | j+1,c,v,h1,h2=>hr j c v (by simpa using h1) (by simpa using h2)
theorem Alu {P:Program} {num:Nat->Nat} {L:Lib} (hP:ProgOK P num L) {f:Nat} {vs:List AV} (h:Ev L f vs (.bool true)) {S:Nat->Prop} {w:World} {us:List Value} (hl:vs.length=us.length)
  (ha : ∀ (j:Nat) (c:AV) (v:Value),vs[j]? = some c->us[j]? = some v->CA w.heap.size S ⟨λ_ _=>none,AH.emp,w⟩ c v) :
  Calls P (num f) us.toArray w λ e w'=>e = .returned (.bool true)/\Below w.heap.size w w':=by
 obtain ⟨n,hn⟩:=h;refine ((Agg hP n).pure f vs _ hn S w us hl ha).mono ?_;rintro e w' ⟨u,rfl,hb,af,_⟩
 refine ⟨?_,hb⟩;cases af with
 | ca od=>cases od with
  | one aw=>cases aw with
   | rd og=>cases og;rfl
end Go.e8

namespace Go.e8
abbrev tI:Ty := .int .i64
theorem Ua {α:Type} {enc:α->List AV} {p:α->Prop} : ∀ {es:List (List AV)},(∀ x∈es,∃ y,x=enc y/\p y) -> ∃ l:List α,es=l.map enc /\ ∀ y∈l,p y
 | [],_=>⟨[],rfl,by simp⟩
 | e::es,h=>by
  obtain ⟨y,rfl,hy⟩:=h e List.mem_cons_self;obtain ⟨l,rfl,hl⟩:=Ua (enc:=enc) (p:=p) λ x hx=>h x (List.mem_cons_of_mem _ hx)
  exact ⟨y::l,rfl,by simpa using ⟨hy,hl⟩⟩
theorem AkQ {α:Type} {enc:α->List AV} {p:α->Prop} {e:Ty} {cs:List AV} (he : ∀ x,HN e x -> ∃ y,x=enc y/\p y) (h:HN (.sl e) cs) : ∃ l:List α,cs=[.sl true (l.map enc)]/\l.length<9223372036854775808 /\ ∀ y∈l,p y:=by
 obtain ⟨es,rfl,hl,hx⟩:=h;obtain ⟨l,rfl,hp⟩:=Ua (enc:=enc) (p:=p) λ x hm=>he x (hx x hm)
 refine ⟨l,rfl,?_,hp⟩;have:maxLen=9223372036854775807:=rfl
 simp at hl;omega
theorem AnP {n:Int} (h:(Lit.int .i64 n).wf=true):FV n:=by
 simp only[Lit.wf,Bool.and_eq_true,decide_eq_true_eq]at h;have h1:IntKind.i64.min = -9223372036854775808:=rfl;have h2:IntKind.i64.max=9223372036854775807:=rfl;rw[h1,h2]at h;unfold FV;constructor<;>omega
theorem sF {cs:List AV} (h:HN tI cs) : ∃ n,cs=O4 n/\FV n:=by obtain ⟨n,rfl,hw⟩:=h;exact ⟨n,rfl,AnP hw⟩
theorem AkP {cs:List AV} (h:HN (.sl tI) cs) : ∃ l:List Int,cs=[.sl true (l.map O4)]/\l.length<9223372036854775808 /\ ∀ v∈l,FV v:=AkQ (λ_=>sF) h
end Go.e8



namespace Go.e8
open F
attribute [local irreducible] AA AF AP AD CB AU AW BA A6 B2 AM BO B8 C8 BN A3 BX B9 AB A8 AJ pw BK BI CJ CK CU CR CI BT CT
variable {L:Lib}
set_option maxHeartbeats 8000000
abbrev eM (m:List (List Rat)):List (List AV):=m.map λ r=>[AV.sl false (r.map eQ)]
theorem pM (m:List (List Rat)):FH (eM m):=aM (λ r=>by simp only[CE,A0,and_true,true_and];exact IE r) m
theorem yE (m:List (List Rat)):A0 (.sl false (eM m)):=by
 simp only[A0,true_and];exact pM m
end Go.e8

namespace Go.e8
variable {L:Lib}
theorem Aem {kk:List It} {tm:Tm} {M:Mem} {Q:Tm->Mem->Prop} {k s:Nat} {rows:List (Option (Nat × List (List AV)))} {w:List Nat} (v9:List (Option (Nat × List (List AV)))) (e:g9 M k=some (s,.vw w rows)) (hl:v9.length=w.length)
  (hw : ∀ (i t:Nat),w[i]? = some t -> ∃ r,rows[t]? = some r/\v9[i]? = some r) (hi : ∀ (i i' t:Nat),w[i]? = some t->w[i']? = some t->i=i') (dk:K6 k tm=false) (ox:IV k M=false)
  (h:AA L kk tm ((k,s,.mx v9)::M) Q):AA L kk tm M Q:=by
 intro σ st hr;obtain ⟨σ',ka⟩:=hr.Eg e hl hw hi dk ox;exact h σ' st ka
theorem wD {kk:List It} {tm:Tm} {M:Mem} {Q:Tm->Mem->Prop} {k s i j:Nat} {rows:List (Option (Nat × List (List AV)))} {a b:Option (Nat × List (List AV))} (e:g9 M k=some (s,.vw (((List.range rows.length).set i j).set j i) rows)) (ha:rows[i]? = some a) (hb:rows[j]? = some b) (dk:K6 k tm=false) (ox:IV k M=false)
  (h:AA L kk tm ((k,s,.mx ((rows.set i b).set j a))::M) Q):AA L kk tm M Q:=by
 have hi:=(zS ha).1;have hj:=(zS hb).1;have Pl : ∀ p,p<rows.length->(((List.range rows.length).set i j).set j i)[p]? = some (if p=j then i else if p=i then j else p):=λ p hp=>by
  rw[List.getElem?_set,List.getElem?_set,List.length_set,List.length_range];by_cases h1:j=p
  ·subst h1;simp [hp]
  ·rw[if_neg h1,if_neg (Ne.symm h1)]
   by_cases h2:i=p
   ·subst h2;simp [hp]
   ·rw[if_neg h2,if_neg (Ne.symm h2),List.getElem?_range hp]
 have Fg : ∀ p t,(((List.range rows.length).set i j).set j i)[p]? = some t->p<rows.length:=λ p t hp=>by
  have:=(zS hp).1
  simpa using this
 refine Aem ((rows.set i b).set j a) e (by simp) (λ p t hp => ?_) (λ p p' t hp Hp => ?_) dk ox h
 ·have vk:=Fg p t hp
  rw[Pl p vk]at hp;obtain rfl:=Option.some.inj hp;rw[List.getElem?_set,List.getElem?_set,List.length_set];by_cases h1:p=j
  ·subst h1
   exact ⟨a,by rw[if_pos rfl];exact ha,by rw[if_pos rfl,if_pos vk]⟩
  ·rw[if_neg h1,if_neg (Ne.symm h1)]
   by_cases h2:p=i
   ·subst h2
    exact ⟨b,by rw[if_pos rfl];exact hb,by rw[if_pos rfl,if_pos vk]⟩
   ·rw[if_neg h2,if_neg (Ne.symm h2)]
    exact ⟨_,zE vk,zE vk⟩
 ·have vk:=Fg p t hp
  have Nw:=Fg p' t Hp;rw[Pl p vk]at hp;rw[Pl p' Nw]at Hp;have:=Option.some.inj (hp.trans Hp.symm)
  split at this<;>split at this<;>(try split at this)<;>(try split at this)<;>omega
end Go.e8

namespace Go.e8
open F
attribute [local irreducible] AA AF AP AD CB AU AW BA A6 B2 AM BO B8 C8 BN A3 BX B9 AB A8 AJ pw BK BI CJ CK CU CR CI BT CT
variable {L:Lib}
set_option maxHeartbeats 16000000
abbrev CN (q:Bool) (m:List (List Rat)):List (List AV):=m.map λ r=>[AV.sl q (r.map eQ)]
theorem IW (m:List (List Rat)) (e:Int):A0 (.j9 [.sl false (eM m),.int .i64 e]):=by
 simp only[A0,CE,and_true,true_and];exact pM m
theorem Ai4 (N:ah L) (q q':Bool) (a:List (List Rat)) (n w:Nat) (hn:a.length=n) (hw : ∀ r∈a,r.length=w) (h1:1<=n/\n<=52) (h2:1<=w/\w<=52):Ev L 229 [.sl q (CN q' a)] (.bool true):=by
 obtain ⟨r0,w8⟩ : ∃ r,a[0]? = some r:=⟨_,zE (by omega)⟩;have Dt:a[(0:Int).toNat]? = some r0:=w8;have nn:=hw r0 (zM w8);refine Ev.x N.TM rfl rfl ?_;(repeat' ((first|(apply AG<;>intro hc<;>try (exfalso;omega))|apply AR|(refine A9 (by assumption) ?_ rfl ?_;omega)|apply AE)<;>conv=>whnf))
 refine BQ (λ i=>n-i) (λ(i:Nat)=>i<=n) (λ i=>[(20,.int .i64 i)]) (λ_=>[]) [] [] 0 (by (conv=>whnf);exact ⟨rfl,rfl,rfl⟩) (by omega) ?_;intro i p1 ih;by_cases hi:i<n
 ·obtain ⟨r,hr⟩ : ∃ r,a[i]? = some r:=⟨_,zE (by omega)⟩
  have ka:a[(i:Int).toNat]? = some r:=hr;have hl:=hw r (zM hr);(repeat' ((first|(apply AG<;>intro hc<;>try (exfalso;omega))|(apply AY;omega)|apply AR|(refine A9 (by assumption) ?_ rfl ?_;omega)|apply AE)<;>conv=>whnf))
  exact BF [] (ih (i+1) (by omega) (by omega))
 ·obtain rfl:i=n:=by omega
  clear ih;(repeat' ((first|(apply AG<;>intro hc<;>try (exfalso;omega))|apply AE)<;>conv=>whnf))
  exact GG rfl
def Qm (p:Bool × List Rat):List AV:=[.sl p.1 (p.2.map eQ)]
def HD (P:List (Bool × List Rat)) (i:Nat):List Rat:=((P.take i).map Prod.snd).flatten
theorem Ul {P:List (Bool × List Rat)} {i:Nat} {p:Bool × List Rat} (h:P[i]? = some p):HD P (i+1)=HD P i++p.2:=by
 simp only[HD,List.take_add_one,h,Option.toList_some,List.map_append,List.map_cons,List.map_nil,List.flatten_append,List.flatten_cons,List.flatten_nil,List.append_nil]
theorem AiF (N:ah L) (q:Bool) (P:List (Bool × List Rat)) (n:Nat) (hn:P.length=n) (Ju:n<=100) (hB : ∀ i,(HD P i).length<=2000) (h0:0<(HD P n).length):Ev L 228 [.sl q (P.map Qm)] (.sl false ((HD P n).map eQ)):=by
 refine Ev.x N.WP rfl rfl ?_;(repeat' ((first|apply AR|apply AE)<;>conv=>whnf))
 refine BQ (λ i=>n-i) (λ(i:Nat)=>i<=n) (λ i=>[(11,.int .i64 i),(3,.int .i64 (HD P i).length)]) (λ_=>[]) [] [] 0 (by (conv=>whnf);exact ⟨rfl,rfl,rfl⟩) (by omega) ?_;intro i p1 ih;by_cases hi:i<n
 ·obtain ⟨p,hp⟩ : ∃ p,P[i]? = some p:=⟨_,zE (by omega)⟩
  have Hp:P[(i:Int).toNat]? = some p:=hp;have hs:=Ul hp;have hb:=hB i;have rh:=hB (i+1);have hl:(HD P (i+1)).length=(HD P i).length+p.2.length:=by rw[hs,List.length_append]
  (repeat' ((first|(apply AG<;>intro hc<;>try (exfalso;omega))|(apply AY;omega)|apply AR|(refine A9 (by assumption) ?_ rfl ?_;omega)|apply AE)<;>conv=>whnf))
  rw[show ((HD P i).length:Int)+(p.2.length:Int)=((HD P (i+1)).length:Nat) by rw[hl];omega];exact BF [] (ih (i+1) (by omega) (by omega))
 ·obtain rfl:i=n:=by omega
  clear ih;have hb:=hB i;(repeat' ((first|(apply AG<;>intro hc<;>try (exfalso;omega))|apply AE)<;>conv=>whnf))
  refine GF 1000 N.WQ rfl rfl ?_;(repeat' ((first|(apply AG<;>intro hc<;>try (exfalso;omega))|(apply AZ;omega)|(apply B3;omega)|apply AE)<;>conv=>whnf))
  refine AZ ⟨by omega,by simp only[EB];omega,by omega⟩ ?_;(conv=>whnf)
  refine wG ⟨by omega,by omega⟩ ?_;(conv=>whnf)
  skip
  refine ⟨rfl,_,rfl,?_⟩;(conv=>whnf)
  (repeat' (apply AR<;>conv=>whnf))
  refine BQ (λ j=>i-j) (λ(j:Nat)=>j<=i) (λ j=>[(27,.int .i64 j),(6,.row 227022 0 3 0 (HD P j).length)]) (λ j=>[(227022,227022,.rw 3 ((HD P j).map eQ))]) [] [] 0 (by (conv=>whnf);exact ⟨rfl,rfl,rfl⟩) (by omega) ?_;intro j p2 jh;by_cases hj:j<i
  ·obtain ⟨p,hp⟩ : ∃ p,P[j]? = some p:=⟨_,zE (by omega)⟩
   have Hp:P[(j:Int).toNat]? = some p:=hp;have hs:=Ul hp;have hb:=hB j;have rh:=hB (j+1);have hl:(HD P (j+1)).length=(HD P j).length+p.2.length:=by rw[hs,List.length_append]
   (repeat' ((first|(apply AG<;>intro hc<;>try (exfalso;omega))|(refine A9 (by assumption) ?_ rfl ?_;omega)|apply AE)<;>conv=>whnf))
   refine jM rfl (λ_=>rfl) (by omega) (by omega) ?_;rw[<-hs];(conv=>whnf)
   (repeat' ((first|(apply AY;omega)|fail)<;>conv=>whnf))
   exact BF [(227022,33)] (jh (j+1) (by omega) (by omega))
  ·obtain rfl:j=i:=by omega
   clear jh;(repeat' ((first|(apply AG<;>intro hc<;>try (exfalso;omega))|(refine DH (λ_=>rfl) rfl ?_ ?_;(first|rfl|simp))|apply AE)<;>conv=>whnf))
   exact AX rfl (by simp only[A0,true_and];exact IE _)
theorem AiE (N:ah L) (q q1 q2:Bool) (a b:List Rat) (ha:a.length<=1000) (hb:b.length<=1000) (h0:0<a.length):Ev L 228 [.sl q [[.sl q1 (a.map eQ)],[.sl q2 (b.map eQ)]]] (.sl false ((a++b).map eQ)):=by
 have:=AiF N q [(q1,a),(q2,b)] 2 rfl (by omega) (λ i=>by
  rcases i with _|_|_|i<;>simp [HD]<;>omega) (by simp [HD];omega)
 simpa [HD,Qm] using this
end Go.e8

namespace Go.e8
theorem S5 : ∀ a b:List Rat,A4 a b=A4 b a
 | [],[]=>rfl
 | [],_::_=>rfl
 | _::_,[]=>rfl
 | x::a,y::b=>by simp only[A4,S5 a b,Rat.mul_comm]
theorem lI : ∀ (v:List Rat) (n:Nat),A4 (List.replicate n 0) v=0
 | [],n=>cU _
 | y::v,0=>rfl
 | y::v,n+1=>by rw[List.replicate_succ];simp only[A4,lI v n];grind
theorem cW (v:List Rat) (n:Nat):A4 v (List.replicate n 0)=0:=by rw[S5,lI]
theorem Sa (x:Rat) : ∀ a b:List Rat,A4 (a.map (x * ·)) b=x*A4 a b
 | [],_=>by simp [A4]
 | _::_,[]=>by simp [A4]
 | p::a,q::b=>by simp only[List.map_cons,A4,Sa x a b];grind
theorem AlX {n:Nat} {b:List Rat} (hb:b.length=n):mO (sG n) b=b:=by
 have unit : ∀ (k n i:Nat) (b:List Rat),b.length=n->A4 ((List.range' k n).map λ a:Nat=>if (a:Int)=((k+i:Nat):Int) then 1 else 0) b=b.getD i 0:=by
  intro k n;induction n generalizing k with
  | zero=>intro i b hb;obtain rfl:=List.eq_nil_of_length_eq_zero hb;simp [A4]
  | succ n ih =>
   intro i b hb;cases b with
   | nil=>simp at hb
   | cons y b =>
    rw[List.range'_succ,List.map_cons,A4];cases i with
    | zero =>
     have hz:((List.range' (k+1) n).map λ a:Nat=>if (a:Int)=((k+0:Nat):Int) then (1:Rat) else 0)=List.replicate n 0:=by
      rw[List.eq_replicate_iff];refine ⟨by simp,λ x hx => ?_⟩;obtain ⟨a,ha,rfl⟩:=List.mem_map.1 hx;rw[if_neg];have:=(List.mem_range'_1.1 ha).1
      omega
     rw[hz,lI,if_pos (by simp)];simp [Rat.add_zero]
    | succ i =>
     have:=ih (k+1) i b (by simpa using hb)
     rw[show k+1+i=k+(i+1) by omega]at this;rw[this,if_neg (by omega),List.getD_cons_succ];grind
 refine List.ext_getElem? λ r => ?_
 simp only[mO,sG,List.getElem?_map];by_cases h:r<n
 ·rw[List.getElem?_range h]
  have:=unit 0 n r b hb
  rw[Nat.zero_add]at this;simp only[Option.map_some,GE,List.range_eq_range']at this ⊢;rw[this,List.getD_eq_getElem?_getD,zE (by omega)];rfl
 ·rw[List.getElem?_eq_none (by simp;omega),List.getElem?_eq_none (by omega)]
  rfl
def wQ (S:GJ):Nat->List Rat
 | 0=>S.b
 | j+1=>mO S.a (wQ S j)
def conv (A h:Nat->Rat) (K:Nat):Nat->Rat
 | 0=>0
 | a+1=>conv A h K a+A a*h (K-a)
end Go.e8
