/-
  Natural numbers (layer 1): greatest common divisors.
-/
import Derived.Test.YtfnglkabkfmjcaaGreatB9
import Derived.Test.YtfnglkabkfmjcaaGreatB8
import Derived.Test.YtfnglkabkfmjcaaGreatB7
import Derived.Test.YtfnglkabkfmjcaaGreatB4
import Derived.Test.YtfnglkabkfmjcaaGreatB1
import Derived.Test.YtfnglkabkfmjcaaGreatB3
import Derived.Test.YtfnglkabkfmjcaaGreatB5
import Derived.ProofKit
import Derived.OpenShut
import Derived.ChangeOld
import Derived.WalkKit
import Derived.WideShapes
import Derived.ChangeArms
set_option linter.unusedSimpArgs false
set_option linter.unusedVariables false
set_option linter.unnecessarySimpa false
namespace Go.c5
open F
attribute [local irreducible] AA AF AM AC CI AW AX A5 A6 B3 AQ BS B7 C5 BQ A2 BO B9 AB A9 AJ pw BN BG CH CM CT CP CE BU CK
set_option maxHeartbeats 4000000
variable {L:Lib}
theorem jA {k':IntKind} {a:Int} {K:AV->Prop} (hk:K (.int .i64 (a/4294967296))):AC .shr .i64 a k' 32 K:=by
 refine xF (by omega) ?_;have:pw 32=4294967296:=by decide +kernel
 rw[this];exact hk
theorem iP {t:Int} {K:Int->Prop} (hk:K (UY t:Int)):AW .u32 t K:=by
 unfold AW;rw[IntKind.wrap_u32,<-bD];exact hk
section
variable {k':IntKind} {a b:Nat} {K:AV->Prop}
theorem xD {i:Nat} (hi:i<2) (ha:a<4294967296) (hk:K (.int .u64 ((a*4294967296^i:Nat):Int))):AC .shl .u64 (a:Int) k' (32*(i:Int)) K:=by
 rcases i with _|_|i
 ·exact O8 (s:=0) (by omega) (by omega) hk
 ·exact O8 (s:=32) (by omega) (by omega) hk
 ·omega
end
theorem pG {x y M N:Int} (hx : -M<=x/\x<=M) (hy : -N<=y/\y<=N) : -(M*N)<=x*y/\x*y<=M*N:=by
 have h1:x.natAbs<=M.natAbs:=by omega
 have h2:y.natAbs<=N.natAbs:=by omega
 have h3:=Nat.mul_le_mul h1 h2;rw[<-Int.natAbs_mul,<-Int.natAbs_mul]at h3;have h4:0<=M*N:=Int.mul_nonneg (by omega) (by omega);omega
theorem cF (N:c8 L) (a b:List Nat) (q1 q2:Bool) (hA:A1 a) (hB:A1 b) (la:a.length<=549755813888) (lb:b.length<=549755813888) (h0:val b≠0) :
  Ev L 75 [.sl q1 (a.map AL),.sl q2 (b.map AL)] (.g7 [.sl false ((dg (val a/val b)).map AL),.sl false ((dg (val a%val b)).map AL),.int .i64 0]):=by
 have l1:=ES hA;have l2:=ES hB;have hp:=U3 h0;refine Ev.x N.LF rfl rfl ?_;(repeat' ((first|(apply AG<;>intro hc<;>try (exfalso;omega))|apply AR|apply AD|refine JR (J9 N a _ hA (by omega)) ?_|refine JR (J9 N b _ hB (by omega)) ?_|refine AE (cH N _ _ _ _ h0 (by omega) (by omega)) ?_)<;>conv=>whnf))
 refine AZ rfl ?_;simp only[A4,CW,and_true,true_and];exact ⟨CQ _,CQ _⟩
theorem nJ (N:c8 L) (V:Nat) (q:Bool) (hl:(dg V).length<=2):Ev L 76 [.sl q ((dg V).map AL)] (.int .u64 (V:Int)):=by
 have hV:=OO.1 hl;have hD:=DU V;have hv:=B1 V;refine Ev.x N.LP rfl rfl ?_;generalize dg V=l at *;(repeat' ((first|apply AR|apply AD)<;>conv=>whnf))
 refine F3 (λ i _=>l.length-i) (λ(i:Nat) (a:Nat)=>i<=l.length/\a=val (l.take i)) (λ i a=>[(3,.int .u64 (a:Int)),(8,.int .i64 i)]) (λ_ _=>[]) [] [] 0 0 (by (conv=>whnf);exact ⟨rfl,rfl,rfl⟩) ⟨by omega,rfl⟩ ?_;intro i a ⟨p1,p2⟩ ih;by_cases hi:i<l.length
 ·obtain ⟨d,hd⟩ : ∃ d,l[i]? = some d:=⟨_,zE hi⟩
  have bm:=hD.at hd;have h1:=D8 hd;have h2:=E0 (hD.take i);have h3:=E0 (hD.take (i+1));rw[List.length_take,Nat.min_eq_left (by omega)]at h2 h3;have h4:4294967296^(i+1)<=4294967296^2:=Nat.pow_le_pow_right (by omega) (by omega);(repeat' ((first|(apply AG<;>intro hc<;>try (exfalso;omega))|(apply EF;omega)|(apply CR;omega)|(refine BC (by assumption) ?_ rfl ?_;omega)|apply AD)<;>conv=>whnf))
  refine xD (by omega) bm ?_;(conv=>whnf)
  rw[Nat.mul_comm d];refine XA (32*i) (by rw[Nat.pow_mul];exact Nat.mul_mod_right _ _) (by rw[Nat.pow_mul,p2];exact h2) (by omega) ?_;(conv=>whnf)
  (repeat' ((first|(apply AU;omega)|fail)<;>conv=>whnf))
  exact BZ [] (by (conv=>whnf);exact ⟨rfl,rfl,rfl⟩) (ih (i+1) _ (by omega) ⟨by omega,by rw[h1,p2]⟩)
 ·obtain rfl:i=l.length:=by omega
  clear ih;(repeat' ((first|(apply AG<;>intro hc<;>try (exfalso;omega))|apply AD)<;>conv=>whnf))
  rw[DC (Nat.le_refl _)]at p2;exact C2 (by omega)
theorem Z9 {f:Nat} {vs:List AV} {tm:Tm} {M:Mem} {K:AV->Mem->Prop} {v:AV} (h:A9 L f vs tm M (λ r M'=>r=v/\M'=M)) (hk:K v M):A9 L f vs tm M K:=by
 unfold A9 at h ⊢;intro σ own hs;obtain ⟨r,l8,σ',M',h1,h2,h3,rfl,rfl⟩:=h σ own hs;exact ⟨_,l8,σ',_,h1,h2,h3,hk⟩
theorem nI (N:c8 L) (a:List Nat) (q:Bool) (n s:Nat) (hD:A1 a) (hn:3<=n) (hl:a.length<=n) (Hn:n<=549755813888) (hs:s<=31) (k7:val a*2^s<4294967296^n) :
  Ev L 78 [.sl q (a.map AL),.int .i64 (n:Int),.int .u64 (s:Int)] (.int .i64 ((val a/TP n s:Nat):Int)):=by
 have b1:=QI hD (n-1);have b2:=QI hD (n-2);have b3:=QI hD (n-3);have tt:=pM hD hn hl rfl rfl k7;have heq:=pL (s:=s) hD hn hl hs rfl rfl rfl;obtain ⟨f1,f2,f3,f4⟩:=R6 (s:=s) b3 (by omega);refine Ev.x N.LM rfl rfl ?_;(repeat' ((first|(apply AY;omega)|(apply B6;omega)|apply AD)<;>conv=>whnf))
 refine Z9 (v := .int .u64 ((a.getD (n-1) 0:Nat):Int)) ?_ ?_
 ·refine GF 1000 N.H3 rfl rfl ?_
  (repeat' ((first|(apply AG<;>intro hc<;>try (exfalso;omega))|(apply CR;omega)|apply AR|(refine P4 (by assumption) ?_ (λ e he hb => ?_);omega)|apply AD)<;>conv=>whnf))
  ·refine ⟨rfl,_,rfl,?_,rfl⟩
   rw[show ((n:Int)-1).toNat=n-1 by omega]at he;rw[GK he];rfl
  ·refine ⟨rfl,_,rfl,?_,rfl⟩
   rw[<-QJ (show a.length<=n-1 by omega)];rfl
 (conv=>whnf)
 (repeat' ((first|(apply AY;omega)|(apply B6;omega)|(apply OE;omega))<;>conv=>whnf))
 refine Z9 (v := .int .u64 ((a.getD (n-2) 0:Nat):Int)) ?_ ?_
 ·refine GF 1000 N.H3 rfl rfl ?_
  (repeat' ((first|(apply AG<;>intro hc<;>try (exfalso;omega))|(apply CR;omega)|apply AR|(refine P4 (by assumption) ?_ (λ e he hb => ?_);omega)|apply AD)<;>conv=>whnf))
  ·refine ⟨rfl,_,rfl,?_,rfl⟩
   rw[show ((n:Int)-2).toNat=n-2 by omega]at he;rw[GK he];rfl
  ·refine ⟨rfl,_,rfl,?_,rfl⟩
   rw[<-QJ (show a.length<=n-2 by omega)];rfl
 (conv=>whnf)
 generalize a.getD (n-1) 0=d1 at *;generalize a.getD (n-2) 0=d2 at *;(repeat' ((first|(apply O6;omega)|fail)<;>conv=>whnf))
 refine O8 (by omega) tt ?_;(conv=>whnf)
 generalize hT:(d1*4294967296+d2)*2^s=T at *;(repeat' ((first|(apply AY;omega)|(apply B6;omega))<;>conv=>whnf))
 refine Z9 (v := .int .u64 ((a.getD (n-3) 0:Nat):Int)) ?_ ?_
 ·refine GF 1000 N.H3 rfl rfl ?_
  (repeat' ((first|(apply AG<;>intro hc<;>try (exfalso;omega))|(apply CR;omega)|apply AR|(refine P4 (by assumption) ?_ (λ e he hb => ?_);omega)|apply AD)<;>conv=>whnf))
  ·refine ⟨rfl,_,rfl,?_,rfl⟩
   rw[show ((n:Int)-3).toNat=n-3 by omega]at he;rw[GK he];rfl
  ·refine ⟨rfl,_,rfl,?_,rfl⟩
   rw[<-QJ (show a.length<=n-3 by omega)];rfl
 (conv=>whnf)
 generalize a.getD (n-3) 0=d3 at *;skip
 refine O8 (by omega) f4 ?_;(conv=>whnf)
 (repeat' (apply FC<;>conv=>whnf))
 rw[R5]at f2;refine iY s (by rw[<-hT];exact Nat.mul_mod_left _ _) f2 (by have:=YX (k:=d1*4294967296+d2) (show s<=64 by omega) (by omega);omega) ?_;(conv=>whnf)
 (repeat' ((first|apply xA|(apply Q3;omega))<;>conv=>whnf))
 rw[heq];exact C2 rfl
theorem Xj (N:c8 L) (P Q:Int) (hP:0<=P/\P<=4611686018427387904) (hQ:0<=Q/\Q<=4611686018427387904) : ∃ r,Ev L 79 [.int .i64 P,.int .i64 Q] r /\ ∃ a b c d:Int,(aB a b c d/\(-2147483647<=a/\a<=2147483647)/\(-2147483647<=b/\b<=2147483647)/\(-2147483647<=c/\c<=2147483647)/\(-2147483647<=d/\d<=2147483647))/\(b≠0->UJ P Q a b c d)/\r = .g7 [.int .i64 a,.int .i64 b,.int .i64 c,.int .i64 d]:=by
 refine Ev.xE N.LJ rfl rfl ?_;(repeat' (apply AD<;>conv=>whnf))
 refine vH (λ_ _ _ _ _ q=>(q+2147483648).toNat) (λ(a b c d p q:Int)=>Q5 P Q a b c d p q/\((-2147483647<=a/\a<=2147483647)/\(-2147483647<=b/\b<=2147483647)/\(-2147483647<=c/\c<=2147483647)/\(-2147483647<=d/\d<=2147483647))/\(p<=4611686018427387904/\q<=4611686018427387904)/\SN P Q a b c d/\(b≠0->UJ P Q a b c d)) (λ a b c d p q=>[(0,.int .i64 p),(1,.int .i64 q),(4,.int .i64 a),(5,.int .i64 b),(6,.int .i64 c),(7,.int .i64 d)]) (λ_ _ _ _ _ _=>[]) [] [] 1 0 0 1 P Q (by (conv=>whnf);exact ⟨rfl,rfl,rfl⟩) ⟨Q5.start hP.1 hQ.1,by omega,by omega,SN.start P Q,λ h=>absurd rfl h⟩ ?_;intro a b c d p q ⟨p1,⟨⟨p2,p2'⟩,⟨p3,p3'⟩,⟨p4,p4'⟩,⟨p5,p5'⟩⟩,⟨p6,p7⟩,p8,p9⟩ ih;have g1:=p1.pa;have g2:=p1.pb;have g3:=p1.qc;have g4:=p1.qd;by_cases gb:q+c=0
 ·(repeat' ((first|(apply AG<;>intro hc<;>try (exfalso;omega))|(apply AU;omega)|apply AD)<;>conv=>whnf))
  refine ⟨.g7 [.int .i64 a,.int .i64 b,.int .i64 c,.int .i64 d],?_,a,b,c,d,⟨p1.sg,by omega⟩,p9,rfl⟩;(conv=>whnf)
  exact AZ rfl (by simp [A4,CW])
 by_cases wy:q+d=0
 ·(repeat' ((first|(apply AG<;>intro hc<;>try (exfalso;omega))|(apply AU;omega)|apply AD)<;>conv=>whnf))
  refine ⟨.g7 [.int .i64 a,.int .i64 b,.int .i64 c,.int .i64 d],?_,a,b,c,d,⟨p1.sg,by omega⟩,p9,rfl⟩;(conv=>whnf)
  exact AZ rfl (by simp [A4,CW])
 by_cases hff:(p+a)/(q+c)=(p+b)/(q+d)
 ·obtain ⟨s1,s2,s3,s4⟩:=p1.step gb wy rfl hff
  have s5:=s4 p8;have s6:=s5.half;have s7:=s1.qc;by_cases df:2147483647<(p+a)/(q+c)
  ·(repeat' ((first|(apply AG<;>intro hc<;>try (exfalso;omega))|(apply AU;omega)|(refine KG ?_ ?_ (λ_ => ?_) (λ_ _ => ?_);omega;omega;all_goals try (exfalso;omega))|apply AD)<;>conv=>whnf))
   refine ⟨.g7 [.int .i64 a,.int .i64 b,.int .i64 c,.int .i64 d],?_,a,b,c,d,⟨p1.sg,by omega⟩,p9,rfl⟩;(conv=>whnf)
   exact AZ rfl (by simp [A4,CW])
  ·have t1:=pG (x:=(p+a)/(q+c)) (y:=c) (M:=2147483647) (N:=2147483647) (by omega) (by omega)
   have t2:=pG (x:=(p+a)/(q+c)) (y:=d) (M:=2147483647) (N:=2147483647) (by omega) (by omega);(repeat' ((first|(apply AG<;>intro hc<;>try (exfalso;omega))|(apply AU;omega)|(apply B6;omega)|(apply EF;omega)|(refine KG ?_ ?_ (λ_ => ?_) (λ_ _ => ?_);omega;omega;all_goals try (exfalso;omega))|(apply CI.neg;omega)|apply AD)<;>conv=>whnf))
   all_goals first
    | exact BZ [] (by (conv=>whnf);exact ⟨rfl,rfl,rfl⟩) (ih _ _ _ _ _ _ (by omega) ⟨s1,by omega,by omega,s6,λ_=>s5⟩)
    |(refine ⟨.g7 [.int .i64 a,.int .i64 b,.int .i64 c,.int .i64 d],?_,a,b,c,d,⟨p1.sg,by omega⟩,p9,rfl⟩
      (conv=>whnf)
      exact AZ rfl (by simp [A4,CW]))
 ·(repeat' ((first|(apply AG<;>intro hc<;>try (exfalso;omega))|(apply AU;omega)|(refine KG ?_ ?_ (λ_ => ?_) (λ_ _ => ?_);omega;omega;all_goals try (exfalso;omega))|apply AD)<;>conv=>whnf))
  refine ⟨.g7 [.int .i64 a,.int .i64 b,.int .i64 c,.int .i64 d],?_,a,b,c,d,⟨p1.sg,by omega⟩,p9,rfl⟩;(conv=>whnf)
  exact AZ rfl (by simp [A4,CW])
theorem Xk (N:c8 L) (x y:List Nat) (q1 q2:Bool) (f g:Int) (hX:A1 x) (hY:A1 y) (hl:y.length<=x.length) (lx:x.length<=549755813888) (hs:P2 f g) (R:Nat) (hR:(R:Int)=f*val x+g*val y) (Jf:R<=val x) :
  Ev L 80 [.sl q1 (x.map AL),.sl q2 (y.map AL),.int .i64 f,.int .i64 g] (.sl false ((dg R).map AL)):=by
 refine Ev.x N.LK rfl rfl ?_;(repeat' ((first|apply AR|apply AD)<;>conv=>whnf))
 refine EX (enc:=AL) 0 x.length rfl rfl (by omega) ?_;(conv=>whnf)
 (repeat' (apply AR<;>conv=>whnf))
 refine GE (λ i _ _=>x.length-i) (λ(i:Nat) (o:List Nat) (c:Int)=>i<=x.length/\o.length=x.length/\A1 o /\ -2147483648<=c/\c<=2147483648/\(val (o.take i):Int)+((4294967296^i:Nat):Int)*c=f*val (x.take i)+g*val (y.take i)) (λ i o c=>[(10,.int .i64 c),(19,.int .i64 i)]) (λ i o c=>[(16,16,.rw 1 (o.map AL))]) [] [] 0 (List.replicate x.length 0) 0 (by (conv=>whnf);exact ⟨rfl,rfl,rfl⟩) ⟨by omega,by simp,IO _,by omega,by omega,by simp [val]⟩ ?_;intro i o c ⟨p1,p2,p3,p4,p5,p6⟩ ih;by_cases hi:i<x.length
 ·obtain ⟨d,hd⟩ : ∃ d,x[i]? = some d:=⟨_,zE hi⟩
  have bm:=hX.at hd;have h1:=D8 hd;by_cases hy:i<y.length
  ·obtain ⟨e,he⟩ : ∃ e,y[i]? = some e:=⟨_,zE hy⟩
   have Ki:=hY.at he;have h2:=D8 he;obtain ⟨r1,r2,r3⟩:=hs.Rm bm Ki;have j6:=kN (d:=d) (e:=e) p6 rfl;(repeat' ((first|(apply AG<;>intro hc<;>try (exfalso;omega))|(apply AU;omega)|(apply EF;omega)|(apply Q3;omega)|apply AR|(refine BC (by assumption) ?_ rfl ?_;omega)|apply AD)<;>conv=>whnf))
   generalize htt:f * ↑d+c+g * ↑e=t at *;refine iP ?_;(conv=>whnf)
   (repeat' ((first|(apply AY;omega)|fail)<;>conv=>whnf))
   refine E7 (by omega) ?_;(conv=>whnf)
   refine jA ?_;(conv=>whnf)
   (repeat' ((first|(apply AU;omega)|fail)<;>conv=>whnf))
   refine BZ [] (by (conv=>whnf);exact ⟨rfl,rfl,rfl⟩) (ih (i+1) _ _ (by omega) ⟨by omega,by simpa using p2,p3.set _ (kL t),by omega,by omega,?_⟩);rw[FS (by omega),h1,h2,Nat.pow_succ];simp only[Int.natCast_add,Int.natCast_mul,bD];exact j6
  ·have h2:=Z4 (y:=y) (i:=i) (by omega)
   obtain ⟨r1,r2,r3⟩:=hs.Rm (e:=0) bm (by omega);have j6:=kN (d:=d) (e:=0) p6 rfl;rw[Int.mul_zero,Int.add_zero]at j6;have r4 : -9223372030412324865<=f*(d:Int)/\f*(d:Int)<=9223372030412324865:=r1;(repeat' ((first|(apply AG<;>intro hc<;>try (exfalso;omega))|(apply AU;omega)|(apply EF;omega)|(apply Q3;omega)|apply AR|(refine BC (by assumption) ?_ rfl ?_;omega)|apply AD)<;>conv=>whnf))
   generalize htt:f * ↑d+c=t at *;refine iP ?_;(conv=>whnf)
   (repeat' ((first|(apply AY;omega)|fail)<;>conv=>whnf))
   refine E7 (by omega) ?_;(conv=>whnf)
   refine jA ?_;(conv=>whnf)
   (repeat' ((first|(apply AU;omega)|fail)<;>conv=>whnf))
   refine BZ [] (by (conv=>whnf);exact ⟨rfl,rfl,rfl⟩) (ih (i+1) _ _ (by omega) ⟨by omega,by simpa using p2,p3.set _ (kL t),by omega,by omega,?_⟩);rw[FS (by omega),h1,h2,Nat.pow_succ];simp only[Int.natCast_add,Int.natCast_mul,bD];rw[Int.mul_zero,Int.add_zero]at j6;exact j6
 ·obtain rfl:i=x.length:=by omega
  clear ih;rw[DC (by omega),DC (Nat.le_refl _),DC (by omega)]at p6;have Qd:=E0 p3;have hxv:=E0 hX;rw[p2]at Qd;have hVR:val o=R:=by
   have:=Tr Qd p6 (by omega) (by omega)
   omega
  have ji:=ES p3;rw[<-p2,<-hVR];(repeat' ((first|(apply AG<;>intro hc<;>try (exfalso;omega))|apply AD|refine WZ N (by assumption) (by omega) rfl (by first|rfl|omega|assumption) ?_)<;>conv=>whnf))
  refine HL (enc:=AL) (λ_=>rfl) (by omega) ?_;(conv=>whnf)
  refine AZ ?_ (by simp only[A4,true_and];exact CQ _);rw[List.drop_zero,WP p3]
theorem Xn (N:c8 L) (X Y:Nat) (tj:Y<=X) (hy:3<=(dg Y).length) (lx:(dg X).length<=549755813888) : ∃ r,Ev L 81 [.sl false ((dg X).map AL),.sl false ((dg Y).map AL)] r /\ ∃ A B:Nat,(B<Y/\B<=A/\A<=X/\Nat.gcd A B=Nat.gcd X Y)/\r = .g7 [.sl false ((dg A).map AL),.sl false ((dg B).map AL)]:=by
 have hY0:Y≠0:=λ h=>by rw[h,EY]at hy;simp at hy
 have vh:X≠0:=by omega
 have hlen:=P9 tj;have hdv:=λ q q'=>cH N X Y q q' hY0 lx (by omega)
 have d1:=DU X;have d2:=DU Y;have v1:=B1 X;have v2:=B1 Y;obtain ⟨xt,Mw,Mx⟩:=bR vh;have Gi:=d1.at Mw;obtain ⟨b1,b2,b3,b4⟩:=dR Mx Gi;have Fc:=mX N xt Gi;generalize hs:32-n7 xt=s at *;have da:s<=31:=by omega
 obtain ⟨n1,n2⟩:=dM d1 Mw (by omega) da b3 b4;have oh:=λ(f g:Int) (R:Nat) (hs:P2 f g) (h1:(R:Int)=f*val (dg X)+g*val (dg Y)) (h2:R<=val (dg X)) (q q':Bool)=>Xk N (dg X) (dg Y) q q' f g d1 d2 (by omega) lx hs R h1 h2
 have n3:val (dg Y)*2^s<4294967296^(dg X).length:=Nat.lt_of_le_of_lt (Nat.mul_le_mul_right _ (by omega)) n1;have ji:=λ q=>nI N (dg X) q (dg X).length s d1 (by omega) (by omega) lx da n1
 have fj:=λ q=>nI N (dg Y) q (dg X).length s d2 (by omega) (by omega) lx da n3
 have hK:=AeP (dg X).length s;obtain ⟨e1,x1,x2,x3⟩:=pO (V:=X) hK;obtain ⟨e2,y1,y2,y3⟩:=pO (V:=Y) hK;rw[v1]at ji;rw[v2]at fj;have xj:=pN d1 (n:=(dg X).length) (by omega) (by omega) da n1;have Ct:=pN d2 (n:=(dg X).length) (by omega) (by omega) da n3;rw[v1]at xj;rw[v2]at Ct;generalize TP (dg X).length s=K at *;generalize X/K=P at *;generalize Y/K=Q at *;rw[v1,v2]at oh;obtain ⟨rc,vo,a,b,c,d,⟨z1,z2,z3,z4,z5⟩,z6,rfl⟩:=Xj N (P:Int) (Q:Int) (by omega) (by omega);have e1:(((dg X).length:Int)-1).toNat=(dg X).length-1:=by omega
 rw[<-e1]at Mw;refine Ev.xE N.LO rfl rfl ?_;by_cases hb:b=0
 ·(repeat' ((first|(apply AG<;>intro hc<;>try (exfalso;omega))|(apply B6;omega)|(apply CR;omega)|apply AR|(refine BC (by assumption) ?_ rfl ?_;omega)|apply AD|refine AE (Fc) ?_|refine AE (ji _) ?_|refine AE (fj _) ?_|refine AE (vo) ?_|refine AE (hdv _ _) ?_)<;>conv=>whnf))
  refine ⟨_,?_,Y,X%Y,⟨Nat.mod_lt _ (by omega),Nat.le_of_lt (Nat.mod_lt _ (by omega)),tj,VP X Y⟩,rfl⟩;(conv=>whnf)
  exact AZ rfl (UX _ _)
 ·obtain ⟨g1,g2,g3,g4⟩:=z6 hb (X:Int) (Y:Int) (K:Int) _ _ (by omega) x1 y1 x2 x3 y2 y3
  obtain ⟨A,hA⟩:=Int.eq_ofNat_of_zero_le (show 0<=a*X+b*Y by omega);obtain ⟨B,hB⟩:=Int.eq_ofNat_of_zero_le g1;have s1:P2 a b:=by rcases z1 with ⟨h1,h2,h3,h4⟩|⟨h1,h2,h3,h4⟩<;>unfold P2<;>omega
  have s2:P2 c d:=by rcases z1 with ⟨h1,h2,h3,h4⟩|⟨h1,h2,h3,h4⟩<;>unfold P2<;>omega
  (repeat' ((first|(apply AG<;>intro hc<;>try (exfalso;omega))|(apply B6;omega)|(apply CR;omega)|apply AR|(refine BC (by assumption) ?_ rfl ?_;omega)|apply AD|refine AE (Fc) ?_|refine AE (ji _) ?_|refine AE (fj _) ?_|refine AE (vo) ?_|refine AE (oh a b A s1 hA.symm (by omega) _ _) ?_|refine AE (oh c d B s2 hB.symm (by omega) _ _) ?_)<;>conv=>whnf))
  rw[hA,hB]at g4;rw[hA,hB]at g2;refine ⟨_,?_,A,B,⟨by omega,by omega,by omega,by simpa using g4⟩,rfl⟩;(conv=>whnf)
  exact AZ rfl (UX _ _)
theorem oQ (N:c8 L) (X Y:Nat) (tj:Y<=X) (lx:(dg X).length<=549755813888) :
 AA L [It.lp GL.l1,It.e8 0,
   It.code
    ((((BI.ops GL.r6 false).dr [23,30,31] []).seq
       (BI.cond 32 (((BI.ops GL.r7 false).dr [5,6,32,33] []).seq BI.ret) BI.skip)).seq
     (((BI.ops GL.r8 false).dr [5,7,32,34,35,36,37,38,39] []).seq
      (((BI.ops GL.r9 false).dr [6,8,40,41,42,43] []).seq
       ((BI.block 2 GL.l2.loop).seq
        (((BI.ops GL.o6 false).dr [9,10,45,50,51,52,53,54,55,56] []).seq BI.ret)))))]
  [(6,AV.sl false (List.map AL (dg Y))),(5,AV.sl false (List.map AL (dg X)))] []
  (P5 GL (AV.sl false (List.map AL (dg (X.gcd Y))))):=by
 refine F3 (λ_ y=>y) (λ(x y:Nat)=>y<=x/\(dg x).length<=549755813888/\Nat.gcd x y=Nat.gcd X Y) (λ x y=>[(6,AV.sl false (List.map AL (dg y))),(5,AV.sl false (List.map AL (dg x)))]) (λ_ _=>[]) [] [] X Y (by (conv=>whnf);exact ⟨rfl,rfl,rfl⟩) ⟨tj,lx,rfl⟩ ?_;intro x y ⟨p1,p2,p3⟩ ih;rw[<-p3]at ih ⊢;generalize Nat.gcd X Y=G at *;clear tj lx;subst p3;have hlen:=P9 p1;by_cases h3:3<=(dg y).length
 ·obtain ⟨r,hr,A,B,⟨k1,k2,k3,k4⟩,rfl⟩:=Xn N x y p1 h3 p2
  have k5:=P9 k3;(repeat' ((first|(apply AG<;>intro hc<;>try (exfalso;omega))|apply AR|apply AD|refine AE (hr) ?_)<;>conv=>whnf))
  exact BF [] (ih A B k1 ⟨k2,by omega,k4⟩)
 ·clear ih
  by_cases h0:y=0
  ·subst h0
   have ka:(dg 0).length=0:=by rw[EY];rfl
   (repeat' ((first|(apply AG<;>intro hc<;>try (exfalso;omega))|apply AR|apply AD)<;>conv=>whnf))
   rw[Nat.gcd_zero_right];exact AZ rfl (by simp only[A4,true_and];exact CQ _)
  ·have hp:=U3 h0
   have hm:=P9 (Nat.le_of_lt (Nat.mod_lt x (show y>0 by omega)));have hd:=λ q q'=>cH N x y q q' h0 p2 (by omega)
   have Cv:=λ q=>nJ N y q (by omega)
   have mn:=λ q=>nJ N (x%y) q (by omega)
   have hb:y<18446744073709551616:=OO.1 (show (dg y).length<=2 by omega);have cu:x%y<y:=Nat.mod_lt _ (by omega);rw[<-VP x y];(repeat' ((first|(apply AG<;>intro hc<;>try (exfalso;omega))|apply AR|apply AD|refine AE (hd _ _) ?_|refine AE (Cv _) ?_|refine AE (mn _) ?_)<;>conv=>whnf))
   refine F3 (λ_ q=>q) (λ(p q:Nat)=>p<18446744073709551616/\q<18446744073709551616/\Nat.gcd p q=Nat.gcd y (x%y)) (λ p q=>[(9,.int .u64 (p:Int)),(10,.int .u64 (q:Int))]) (λ_ _=>[]) [] [] y (x%y) (by (conv=>whnf);exact ⟨rfl,rfl,rfl⟩) ⟨hb,by omega,rfl⟩ ?_;intro p q ⟨g1,g2,g3⟩ ih;rw[<-g3]at ih ⊢;by_cases hq:q=0
   ·subst hq
    clear ih;obtain ⟨v1,v2⟩:=bM g1;rw[Nat.gcd_zero_right];have ji:=ES v2;have ht:=WP v2;rw[v1]at ji ht;(repeat' ((first|(apply AG<;>intro hc<;>try (exfalso;omega))|apply FC|(apply EE;omega)|apply FK|apply AD)<;>conv=>whnf))
    generalize p%4294967296=lo at *;generalize p/4294967296=hi at *;refine WZ N v2 (by simp) rfl rfl ?_;rw[v1];(conv=>whnf)
    skip
    refine HL (enc:=AL) (l:=[lo,hi]) (λ_=>rfl) (by omega) ?_;(conv=>whnf)
    refine AZ ?_ (by simp only[A4,true_and];exact CQ _);rw[List.drop_zero,ht]
   ·have hpq:p%q<q:=Nat.mod_lt _ (by omega)
    (repeat' ((first|(apply AG<;>intro hc<;>try (exfalso;omega))|(apply UK;omega)|apply AD)<;>conv=>whnf))
    exact BF [] (ih q (p%q) hpq ⟨g2,by omega,VP p q⟩)
theorem Xi (N:c8 L) (a b:List Nat) (q1 q2:Bool) (hA:A1 a) (hB:A1 b) (la:a.length<=549755813888) (lb:b.length<=549755813888) :
  Ev L 82 [.sl q1 (a.map AL),.sl q2 (b.map AL)] (.sl false ((dg (Nat.gcd (val a) (val b))).map AL)):=by
 have t1:=λ q=>U8 N a q hA (by omega)
 have t2:=λ q=>U8 N b q hB (by omega)
 have l1:=ES hA;have l2:=ES hB;have k8:=λ q q'=>PG N (dg (val a)) (dg (val b)) q q' (DU _) (DU _) (by omega) (by omega)
 rw[B1,B1]at k8;generalize val a=X at *;generalize val b=Y at *;refine Ev.x N.GL rfl rfl ?_;by_cases k7:X<Y
 ·have hn:C9 X Y = -1:=(HZ (by omega)).symm
  rw[hn]at k8;(repeat' ((first|(apply AG<;>intro hc<;>try (exfalso;omega))|apply AD|refine AE (t1 _) ?_|refine AE (t2 _) ?_|refine AE (k8 _ _) ?_)<;>conv=>whnf))
  rw[Nat.gcd_comm];exact BZ [] (by (conv=>whnf);exact ⟨rfl,rfl,rfl⟩) (oQ N Y X (by omega) (by omega))
 ·have jq:0<=C9 X Y:=by unfold C9;split<;>(try split)<;>omega
  generalize C9 X Y=cm at *;(repeat' ((first|(apply AG<;>intro hc<;>try (exfalso;omega))|apply AD|refine AE (t1 _) ?_|refine AE (t2 _) ?_|refine AE (k8 _ _) ?_)<;>conv=>whnf))
  exact BZ [] (by (conv=>whnf);exact ⟨rfl,rfl,rfl⟩) (oQ N X Y (by omega) (by omega))
end Go.c5
namespace Go.c5
def T3 (N:Nat):List IY->Bool
 | []=>true
 | .tmp t::r=>Nat.blt t N&&T3 N r
 | .cell t _ _::r=>Nat.blt t N&&T3 N r
theorem fU {N:Nat} {s s':St} (ho:s.own=s'.own) (nk : ∀ j,j<N->g6 s'.tm j=g6 s.tm j) : ∀ {res:List IY},T3 N res=true->res.mapM (E5 s)=res.mapM (E5 s')
 | [],_=>rfl
 | .tmp t::r,h=>by
  simp only[T3,Bool.and_eq_true]at h;have:=fU ho nk h.2
  simp only[List.mapM_cons,E5,nk t (RB.1 h.1),this]
 | .cell t agg n::r,h=>by
  simp only[T3,Bool.and_eq_true]at h;have:=fU ho nk h.2
  simp only[List.mapM_cons,E5,nk t (RB.1 h.1),this,ho]
def xL (N:Nat) (fn:AFn) (tm:Tm) (K:AV->Mem->Prop) (z9:Tm) (M':Mem):Prop:=gh N z9=tm/\ZE z9 M' fn.res (λ rs=>Ro rs λ v=>K v M')
theorem EW {L:Lib} {f:Nat} {fn:AFn} {vs:List AV} {tm:Tm} {M:Mem} {K:AV->Mem->Prop} (N:Nat) (hL:L f=some fn) (hp:Nat.beq vs.length fn.z8=true) (hN:(Nat.ble fn.z8 N&&(HV N fn.body&&T3 N fn.res))=true)
  (h:AA L [.code fn.body] (CY 0 vs++GC N tm) M (xL N fn tm K)):A9 L f vs tm M K:=by
 intro σ own hs;simp only[Bool.and_eq_true]at hN;obtain ⟨n1,n2,n3⟩:=hN;have n1:=Nat.le_of_ble_eq_true n1;have hp:vs.length=fn.z8:=Nat.eq_of_beq_eq_true hp;have Ma:RX σ (CY 0 vs++GC N tm) M ⟨K8 (BH σ) (CY 0 vs++GC N tm),own⟩:=⟨λ j=>Or.inr (by rw[JL];exact JM (KB σ) j _),hs⟩;obtain ⟨n,c,s',hr,σ',z9,M',hR,hg,oo⟩:=h σ _ Ma;have Kp:Gh N (K8 (BH σ) (GC N tm)) (CY 0 (vs.map (BH σ))) (K8 (BH σ) (CY 0 vs++GC N tm)):=by
  constructor
  ·intro j hj
   rw[dE,JM (KB σ),JM (KB σ)];rcases WR j (GC N tm) (CY 0 vs) with ⟨_,e⟩|⟨hn,e⟩
   ·rw[e]
   ·rw[e,iE hj,iC j 0 vs hn]
  ·intro j hj
   rw[JM (KB σ),JM (KB σ)];rcases WR j (GC N tm) (CY 0 vs) with ⟨hn,e⟩|⟨_,e⟩
   ·have:=dD j 0 vs hn
    omega
   ·rw[e]
 obtain ⟨s,r1,r2,r3⟩:=IH n (by simp [QL,n2]) Kp hr;obtain ⟨rs,i1,i2,i3⟩:=fS hR oo;rw[<-fU (s:=s) r2.symm r3.lo n3,i3]at i1;have key : ∃ r,HP (rs.map (BV σ'))=BH σ' r/\K r M':=by
  match rs,i2,i3 with
  | [],h,_=>exact ⟨.g7 [],rfl,h⟩
  | [v],h,e =>
   simp only[List.map_cons,List.map_nil,List.cons.injEq,and_true]at e;exact ⟨v,by simp only[List.map_cons,List.map_nil,HP];exact e.symm,h⟩
  | a::b::l,h,_=>exact ⟨.g7 (a::b::l),rfl,h⟩
 obtain ⟨r,k1,k2⟩:=key;refine ⟨r,s.own,σ',M',GG.intro hL (by simpa using hp) ⟨n,c,s,r1,?_,rfl⟩,?_,?_,k2⟩
 ·rw[i1,Option.map_some,k1]
 ·rw[<-r2];exact hR.sat
 ·intro j
  have e1:tg tm j=tg z9 (N+j):=by rw[JL,JL,<-hg,iB]
  rcases hR.tm (N+j) with e|e
  ·rw[e1,e];rfl
  ·rw[e1,<-e,r3.hi (N+j) (by omega),JM (KB σ),iD,<-JL,e1]
end Go.c5

namespace Go.c5
open F
attribute [local irreducible] AA AF AM AC CI AW AX A5 A6 B3 AQ BS B7 C5 BQ A2 BO B9 AB A9 AJ pw BN BG CH CM CT CP CE BU CK
variable {L:Lib}
set_option maxHeartbeats 8000000
theorem wS {k:Nat} {K:Int->Prop} (h:0<k/\k<=9223372036854775808) (hk:K ((18446744073709551616-k:Nat):Int)):AW .u64 (-(k:Int)) K:=by
 unfold AW;have e:IntKind.u64.wrap (-(k:Int))=((18446744073709551616-k:Nat):Int):=by
  simp [IntKind.wrap,IntKind.bits,IntKind.signed];omega
 rw[e];exact hk
theorem CI.Gn {k:Nat} {K:AV->Prop} (h:0<k/\k<=9223372036854775808) (hk:K (.int .u64 (k:Int))):CI .neg .u64 ((18446744073709551616-k:Nat):Int) K:=by
 refine CI.go (v := .int .u64 (IntKind.u64.wrap (0-((18446744073709551616-k:Nat):Int)))) rfl ?_;have e:IntKind.u64.wrap (0-((18446744073709551616-k:Nat):Int))=(k:Int):=by
  simp [IntKind.wrap,IntKind.bits,IntKind.signed];omega
 rw[e];exact hk
theorem Yx (N:a8 L) (z:Int) (hz : -9223372036854775808<=z/\z<=9223372036854775807):Ev L 85 [.int .i64 z] (.agg (eZ z)):=by
 have two : ∀ k:Nat,k<18446744073709551616 -> ∀ q,Ev L 66 [.sl q [[.int .u32 ((k%4294967296:Nat):Int)],[.int .u32 ((k/4294967296:Nat):Int)]]] (.sl false ((dg k).map AL)):=λ k hk q=>by
  have:=U8 N.toc8 [k%4294967296,k/4294967296] q (bM hk).2 (by simp)
  rw[uV hk]at this;exact this
 refine Ev.x N.KV rfl rfl ?_;by_cases h0:0<=z
 ·obtain ⟨k,rfl⟩:=Int.eq_ofNat_of_zero_le h0
  have hT:=two k (by omega);have z1:=H2 k;(repeat' ((first|(apply AG<;>intro hc<;>try (exfalso;omega))|apply FC|(apply CR;omega)|(apply EE;omega)|apply FK|refine ST rfl rfl ?_|apply AD)<;>conv=>whnf))
  generalize k%4294967296=lo at *;generalize k/4294967296=hi at *;(repeat' (refine AE (hT _) ?_<;>conv=>whnf))
  refine EW 1000 N.DF rfl rfl ?_;(repeat' (apply AD<;>conv=>whnf))
  all_goals (refine ⟨rfl,?_⟩;(conv=>whnf);skip)
  exact AZ (EP (by omega) (GA (by omega))) (DM _)
 ·obtain ⟨k,hk⟩:=Int.eq_ofNat_of_zero_le (show 0 <= -z by omega)
  obtain rfl:z = -(k:Int):=by omega
  have hT:=two k (by omega);have z1:=H2 k;(repeat' (apply AD<;>conv=>whnf))
  refine wS (by omega) ?_;(conv=>whnf)
  (repeat' ((first|(apply AG<;>intro hc<;>try (exfalso;omega))|fail)<;>conv=>whnf))
  refine CI.Gn (by omega) ?_;(conv=>whnf)
  (repeat' ((first|(apply AG<;>intro hc<;>try (exfalso;omega))|apply FC|(apply EE;omega)|apply FK|refine ST rfl rfl ?_)<;>conv=>whnf))
  generalize k%4294967296=lo at *;generalize k/4294967296=hi at *;(repeat' (refine AE (hT _) ?_<;>conv=>whnf))
  refine EW 1000 N.DF rfl rfl ?_;(repeat' ((first|(apply AG<;>intro hc<;>try (exfalso;omega))|apply AR|apply AD)<;>conv=>whnf))
  all_goals (refine ⟨rfl,?_⟩;(conv=>whnf);skip)
  exact AZ (EP (by omega) (N0 (by omega))) (DM _)
theorem nF (N:a8 L) (n q:Bool) (m:List Nat) (hm:Sm 549755813888 m):Ev L 84 [.agg (rZ q n m)] (.agg (eZ (zv n m))):=by
 have hT:=λ q=>U8 N.toc8 m q hm.1 (by have:=hm.2;omega)
 have hz:=H2 (val m);have ha:=EV n m;refine Ev.x N.KX rfl rfl ?_;cases n
 ·rw[EL]at *
  (repeat' ((first|apply AD|refine AE (hT _) ?_)<;>conv=>whnf))
  refine EW 1000 N.DF rfl rfl ?_;(repeat' (apply AD<;>conv=>whnf))
  all_goals (refine ⟨rfl,?_⟩;(conv=>whnf);skip)
  exact AZ (EP ha.symm (GA (by omega))) (DM _)
 ·rw[O2]at *
  (repeat' ((first|apply AD|refine AE (hT _) ?_)<;>conv=>whnf))
  refine EW 1000 N.DF rfl rfl ?_;(repeat' ((first|(apply AG<;>intro hc<;>try (exfalso;omega))|apply AR|apply AD)<;>conv=>whnf))
  all_goals (refine ⟨rfl,?_⟩;(conv=>whnf);skip)
  ·exact AZ (EP ha.symm (N0 (by omega))) (DM _)
  ·exact AZ (EP ha.symm (GA (by omega))) (DM _)
theorem YH (N:a8 L) (n q:Bool) (m:List Nat) (hm:Sm 549755813888 m):Ev L 86 [.agg (rZ q n m)] (.int .i64 (o8 (zv n m))):=by
 have k8:=λ q q'=>PG N.toc8 m [] q q' hm.1 S7 (by have:=hm.2;omega) (by simp)
 rw[IJ]at k8;refine Ev.x N.KW rfl rfl ?_;by_cases h0:val m=0
 ·have hn:C9 (val m) (0:Nat)=0:=(RF (by omega)).symm
  rw[hn]at k8;(repeat' ((first|(apply AG<;>intro hc<;>try (exfalso;omega))|apply AD|refine AE (k8 _ _) ?_)<;>conv=>whnf))
  exact C2 (ZO (by have:=EV n m;omega))
 ·have hn:C9 (val m) (0:Nat)=1:=(ON (by omega)).symm
  rw[hn]at k8;cases n
  ·(repeat' ((first|(apply AG<;>intro hc<;>try (exfalso;omega))|apply AD|refine AE (k8 _ _) ?_)<;>conv=>whnf))
   exact C2 (gG (by rw[EL];omega))
  ·(repeat' ((first|(apply AG<;>intro hc<;>try (exfalso;omega))|apply AD|refine AE (k8 _ _) ?_)<;>conv=>whnf))
   exact C2 (gF (by rw[O2];omega))
theorem nD (N:a8 L) (n1 n2 q1 q2:Bool) (a b:List Nat) (ha:Sm 549755813888 a) (hb:Sm 549755813888 b):Ev L 87 [.agg (rZ q1 n1 a),.agg (rZ q2 n2 b)] (.agg (eZ (zv n1 a+zv n2 b))):=by
 have la:=ha.2;have lb:=hb.2;have h1:=λ q q'=>Xh N.toc8 a b q q' ha.1 hb.1 (by omega) (by omega)
 have h2:=λ q q'=>nH N.toc8 a b q q' ha.1 hb.1 (by omega) (by omega)
 have h3:=λ q q'=>nH N.toc8 b a q q' hb.1 ha.1 (by omega) (by omega)
 have k8:=λ q q'=>PG N.toc8 a b q q' ha.1 hb.1 (by omega) (by omega)
 have z1:=H2 (val a+val b);have z2:=H2 (val a-val b);have z3:=H2 (val b-val a);refine Ev.x N.KS rfl rfl ?_;by_cases k7:val a<val b
 ·have hn:C9 (val a) (val b) = -1:=(HZ (by omega)).symm
  rw[hn]at k8;cases n1<;>cases n2<;>simp only[EL,O2]
  ·(repeat' ((first|apply AD|refine AE (h1 _ _) ?_)<;>conv=>whnf))
   refine EW 1000 N.DF rfl rfl ?_;(repeat' (apply AD<;>conv=>whnf))
   all_goals (refine ⟨rfl,?_⟩;(conv=>whnf);skip)
   exact AZ (EP (by omega) (GA (by omega))) (DM _)
  ·(repeat' ((first|(apply AG<;>intro hc<;>try (exfalso;omega))|apply AD|refine AE (h3 _ _) ?_|refine AE (k8 _ _) ?_)<;>conv=>whnf))
   refine EW 1000 N.DF rfl rfl ?_;(repeat' ((first|(apply AG<;>intro hc<;>try (exfalso;omega))|apply AR|apply AD)<;>conv=>whnf))
   all_goals (refine ⟨rfl,?_⟩;(conv=>whnf);skip)
   ·exact AZ (EP (by omega) (N0 (by omega))) (DM _)
  ·(repeat' ((first|(apply AG<;>intro hc<;>try (exfalso;omega))|apply AD|refine AE (h3 _ _) ?_|refine AE (k8 _ _) ?_)<;>conv=>whnf))
   refine EW 1000 N.DF rfl rfl ?_;(repeat' (apply AD<;>conv=>whnf))
   all_goals (refine ⟨rfl,?_⟩;(conv=>whnf);skip)
   ·exact AZ (EP (by omega) (GA (by omega))) (DM _)
  ·(repeat' ((first|apply AD|refine AE (h1 _ _) ?_)<;>conv=>whnf))
   refine EW 1000 N.DF rfl rfl ?_;(repeat' ((first|(apply AG<;>intro hc<;>try (exfalso;omega))|apply AR|apply AD)<;>conv=>whnf))
   all_goals (refine ⟨rfl,?_⟩;(conv=>whnf);skip)
   ·exact AZ (EP (by omega) (N0 (by omega))) (DM _)
 ·have hn:C9 (val a) (val b) ≠ -1:=by unfold C9;split<;>(try split)<;>omega
  generalize C9 (val a) (val b)=cm at *;cases n1<;>cases n2<;>simp only[EL,O2]
  ·(repeat' ((first|apply AD|refine AE (h1 _ _) ?_)<;>conv=>whnf))
   refine EW 1000 N.DF rfl rfl ?_;(repeat' (apply AD<;>conv=>whnf))
   all_goals (refine ⟨rfl,?_⟩;(conv=>whnf);skip)
   exact AZ (EP (by omega) (GA (by omega))) (DM _)
  ·(repeat' ((first|(apply AG<;>intro hc<;>try (exfalso;omega))|apply AD|refine AE (h2 _ _) ?_|refine AE (k8 _ _) ?_)<;>conv=>whnf))
   refine EW 1000 N.DF rfl rfl ?_;(repeat' (apply AD<;>conv=>whnf))
   all_goals (refine ⟨rfl,?_⟩;(conv=>whnf);skip)
   exact AZ (EP (by omega) (GA (by omega))) (DM _)
  ·(repeat' ((first|(apply AG<;>intro hc<;>try (exfalso;omega))|apply AD|refine AE (h2 _ _) ?_|refine AE (k8 _ _) ?_)<;>conv=>whnf))
   refine EW 1000 N.DF rfl rfl ?_;(repeat' ((first|(apply AG<;>intro hc<;>try (exfalso;omega))|apply AR|apply AD)<;>conv=>whnf))
   all_goals (refine ⟨rfl,?_⟩;(conv=>whnf);skip)
   ·exact AZ (EP (by omega) (N0 (by omega))) (DM _)
   ·exact AZ (EP (by omega) (GA (by omega))) (DM _)
  ·(repeat' ((first|apply AD|refine AE (h1 _ _) ?_)<;>conv=>whnf))
   refine EW 1000 N.DF rfl rfl ?_;(repeat' ((first|(apply AG<;>intro hc<;>try (exfalso;omega))|apply AR|apply AD)<;>conv=>whnf))
   all_goals (refine ⟨rfl,?_⟩;(conv=>whnf);skip)
   ·exact AZ (EP (by omega) (N0 (by omega))) (DM _)
   ·exact AZ (EP (by omega) (GA (by omega))) (DM _)
theorem RM (N:a8 L) (n1 n2 q1 q2:Bool) (a b:List Nat) (ha:A1 a) (hb:A1 b) (hl:a.length+b.length<=1099511627776):Ev L 88 [.agg (rZ q1 n1 a),.agg (rZ q2 n2 b)] (.agg (eZ (zv n1 a*zv n2 b))):=by
 have h1:=λ q q'=>cG N.toc8 a b q q' ha hb hl
 have z1:=H2 (val a*val b);have Jv:(zv n1 a*zv n2 b).natAbs=val a*val b:=by rw[Int.natAbs_mul,EV,EV]
 refine Ev.x N.KU rfl rfl ?_;have e:zv n1 a*zv n2 b=bif n1 == n2 then ((val a*val b:Nat):Int) else -((val a*val b:Nat):Int):=by
  cases n1<;>cases n2<;>simp [EL,O2,Int.mul_neg,Int.neg_mul]
 rw[e]at Jv ⊢;generalize val a*val b=V at *;cases n1<;>cases n2<;>simp only[beq_self_eq_true,cond_true,show (false == true)=false from rfl,show (true == false)=false from rfl,cond_false]
 ·(repeat' ((first|apply AD|refine AE (h1 _ _) ?_)<;>conv=>whnf))
  refine EW 1000 N.DF rfl rfl ?_;(repeat' (apply AD<;>conv=>whnf))
  all_goals (refine ⟨rfl,?_⟩;(conv=>whnf);skip)
  exact AZ (EP (by omega) (GA (by omega))) (DM _)
 ·(repeat' ((first|apply AD|refine AE (h1 _ _) ?_)<;>conv=>whnf))
  refine EW 1000 N.DF rfl rfl ?_;(repeat' ((first|(apply AG<;>intro hc<;>try (exfalso;omega))|apply AR|apply AD)<;>conv=>whnf))
  all_goals (refine ⟨rfl,?_⟩;(conv=>whnf);skip)
  ·exact AZ (EP (by omega) (N0 (by omega))) (DM _)
  ·exact AZ (EP (by omega) (GA (by omega))) (DM _)
 ·(repeat' ((first|apply AD|refine AE (h1 _ _) ?_)<;>conv=>whnf))
  refine EW 1000 N.DF rfl rfl ?_;(repeat' ((first|(apply AG<;>intro hc<;>try (exfalso;omega))|apply AR|apply AD)<;>conv=>whnf))
  all_goals (refine ⟨rfl,?_⟩;(conv=>whnf);skip)
  ·exact AZ (EP (by omega) (N0 (by omega))) (DM _)
  ·exact AZ (EP (by omega) (GA (by omega))) (DM _)
 ·(repeat' ((first|apply AD|refine AE (h1 _ _) ?_)<;>conv=>whnf))
  refine EW 1000 N.DF rfl rfl ?_;(repeat' (apply AD<;>conv=>whnf))
  all_goals (refine ⟨rfl,?_⟩;(conv=>whnf);skip)
  exact AZ (EP (by omega) (GA (by omega))) (DM _)
theorem bO:dg 1=[1]:=by rw[IM (by omega)];simp [EY]
theorem Za (N:a8 L) (V:Nat) (q:Bool):Ev L 90 [.sl q ((dg V).map AL)] (.bool (decide (V=1))):=by
 have hv:=B1 V;have hD:=DU V;have h1:V=1->dg V=[1]:=λ h=>by rw[h,bO]
 generalize dg V=l at *;refine Ev.x N.ML rfl rfl ?_;by_cases hl:l.length=1
 ·obtain ⟨d,rfl⟩:=List.length_eq_one_iff.1 hl
  have e:V=d:=by rw[<-hv];simp [val]
  subst e;have hd:[V][(0:Int).toNat]? = some V:=rfl;(repeat' ((first|(apply AG<;>intro hc<;>try (exfalso;omega))|apply AR|(refine BC (by assumption) ?_ rfl ?_;omega)|apply AD)<;>conv=>whnf))
  ·exact iT (by omega)
  ·exact W3 (by omega)
 ·(repeat' ((first|(apply AG<;>intro hc<;>try (exfalso;omega))|apply AR|apply AD)<;>conv=>whnf))
  exact W3 (λ h=>by rw[h1 h]at hl;simp at hl)
theorem VC (N:a8 L) (n q1 q2:Bool) (m d:List Nat) (hm:Sm 549755813888 m) (hd:Sm 549755813888 d) (h0:val d≠0):Ev L 94 [.agg (rQ q1 q2 n m d)] (.agg (eQ (qv n m d))):=by
 have Cf:=λ q q'=>cF N.toc8 m d q q' hm.1 hd.1 hm.2 hd.2 h0
 have Hy:=EV n m;have sq:Sm 549755813888 (dg (val m/val d)):=hm.low (Nat.div_le_self _ _);have sr:Sm 549755813888 (dg (val m%val d)):=hd.low (Nat.le_of_lt (Nat.mod_lt _ (by omega)));have hT:=λ q=>nF N n q _ sq
 have hG:=λ q q'=>Xi N.toc8 d (dg (val m%val d)) q q' hd.1 sr.1 hd.2 sr.2
 rw[B1,show Nat.gcd (val d) (val m%val d)=Nat.gcd (val d) (zv n m).natAbs by rw[Hy,VP,Nat.gcd_comm]]at hG;have Ku:=oR (zv n m).natAbs h0;have Cm:=Nat.gcd_le_left (zv n m).natAbs (show 0<val d by omega);have hz:=H2 (val m%val d);obtain ⟨e1,e2,e3⟩:=dY (z:=zv n m) h0;unfold qv;generalize hGG:Nat.gcd (val d) (zv n m).natAbs=g at *;have h1:=λ q=>Za N g q
 refine Ev.x N.MN rfl rfl ?_;by_cases o5:val m%val d=0
 ·(repeat' ((first|(apply AG<;>intro hc<;>try (exfalso;omega))|apply AR|apply AD|refine AE (Cf _ _) ?_|refine AE (hT _) ?_)<;>conv=>whnf))
  refine EW 1000 N.HF rfl rfl ?_;(repeat' (apply AD<;>conv=>whnf))
  refine ⟨rfl,?_⟩;(conv=>whnf)
  (repeat' (refine IL rfl ?_<;>conv=>whnf))
  have jq:g=val d:=by
   rw[<-hGG,Hy];exact Nat.gcd_eq_left (Nat.dvd_of_mod_eq_zero o5)
  have hv:=B1 (val m/val d);refine AZ ?_ ?_
  ·show _=AV.agg (rQ _ _ _ _ _)
   rw[e1,e2,e3,Hy,jq,Nat.div_self (by omega),EV,hv,bO];have hs:decide (zv n (dg (val m/val d))<0)=decide (zv n m<0):=by
    cases n
    ·rw[EL,EL];simp;omega
    ·rw[O2,O2,hv]
     congr 1;rw[eq_iff_iff];have h5:=Nat.div_add_mod (val m) (val d);rw[o5,Nat.add_zero]at h5;constructor
     ·intro h6
      have h7:val m/val d≠0:=by omega
      have:val m≠0:=λ h8=>h7 (by rw[h8,Nat.zero_div])
      omega
     ·intro h6
      have h7:val m/val d≠0:=λ h8=>by rw[h8,Nat.mul_zero]at h5;omega
      omega
   rw[hs];rfl
  ·exact DH _
 ·by_cases xg:g=1
  ·have Jm:=λ q=>nF N n q m hm
   have Gx:=λ q=>U8 N.toc8 d q hd.1 (by have:=hd.2;omega)
   (repeat' ((first|(apply AG<;>intro hc<;>try (exfalso;omega))|apply AR|apply AD|refine AE (Cf _ _) ?_|refine AE (hG _ _) ?_|refine iN (h1 _) (λ hf => ?_) (λ hf => ?_)|refine AE (Jm _) ?_|refine AE (Gx _) ?_)<;>conv=>whnf))
   ·refine AZ ?_ (XZ _ _ _)
    show _=AV.agg (rQ _ _ _ _ _);rw[e1,e2,e3,xg,Nat.div_one,Nat.div_one]
   ·exact absurd xg hf
  ·have sg:Sm 549755813888 (dg g):=hd.low Cm
   have qi:=λ q q'=>cF N.toc8 m (dg g) q q' hm.1 sg.1 hm.2 sg.2 (by rw[B1];omega)
   have qj:=λ q q'=>cF N.toc8 d (dg g) q q' hd.1 sg.1 hd.2 sg.2 (by rw[B1];omega)
   rw[B1]at qi qj;(repeat' ((first|(apply AG<;>intro hc<;>try (exfalso;omega))|apply AR|apply AD|refine AE (Cf _ _) ?_|refine AE (hG _ _) ?_|refine iN (h1 _) (λ hf => ?_) (λ hf => ?_)|refine AE (qi _ _) ?_|refine AE (qj _ _) ?_)<;>conv=>whnf))
   ·exact absurd hf xg
   ·refine AZ ?_ (XZ _ _ _)
    show _=AV.agg (rQ _ _ _ _ _);rw[e1,e2,e3,Hy];have hs:n=decide (zv n m<0):=by
     have:val m≠0:=λ h=>o5 (by rw[h,Nat.zero_mod])
     cases n
     ·exact GA (by rw[EL];omega)
     ·exact N0 (by rw[O2];omega)
    rw[<-hs]
theorem TE (N:a8 L) (m:List Nat):Ev L 91 [.sl false (m.map AL)] (.agg [.bool false,.sl false (m.map AL)]):=by
 refine Ev.x N.MM rfl rfl ?_;(repeat' (apply AD<;>conv=>whnf))
 exact AZ rfl (kC _ _)
def xJ (n:Bool) (m d:List Nat) (n':Bool) (m' d':List Nat) (w:Bool) (k:Nat):Prop:=Sm k m'/\Sm k d'/\val d'≠0/\(w=true->val d'=1)/\qv n m d=mkRat (zv n' m') (val d')
theorem OR (N:a8 L) (n:Bool) (m d:List Nat) (k:Nat) (hk:1<=k/\k<=549755813888) (hm:Sm k m) (hd:Sm k d) : ∃ n' m' d' w,Ev L 89 [.agg (rQ false false n m d)] (.agg [.bool n',.sl false (m'.map AL),.sl false (d'.map AL),.bool w])/\xJ n m d n' m' d' w k:=by
 have k8:=λ q q'=>PG N.toc8 d [] q q' hd.1 S7 (by have:=hd.2;omega) (by simp)
 rw[IJ]at k8;by_cases h1:d=[1]
 ·subst h1
  refine ⟨n,m,[1],true,?_,hm,hd,by decide,λ_=>rfl,rfl⟩;refine Ev.x N.IA rfl rfl ?_;have hd:[1][(0:Int).toNat]? = some 1:=rfl;have vk:([1]:List Nat).length=1:=rfl;(repeat' ((first|(apply AG<;>intro hc<;>try (exfalso;omega))|apply AR|(refine BC (by assumption) ?_ rfl ?_;omega)|apply AD)<;>conv=>whnf))
  exact AZ rfl (UV _ _ _ _)
 have k9 : ∀ x,d[(0:Int).toNat]? = some x->(d.length:Int)=1->(x:Int)≠1:=λ x hx hl h=>by
  obtain ⟨y,rfl⟩:=List.length_eq_one_iff.1 (show d.length=1 by omega);simp at hx;apply h1;congr 1;omega
 by_cases h0:val d=0
 ·refine ⟨false,[],[1],true,?_,ZP _,gL hk.1 (by omega),by decide,λ_=>rfl,by unfold qv;rw[h0,Rat.mkRat_zero,vF,Rat.zero_mkRat]⟩
  have hn:C9 (val d) (0:Nat)=0:=(RF (by omega)).symm;rw[hn]at k8;refine Ev.x N.IA rfl rfl ?_;have hD:=hd.1;(repeat' ((first|(apply AG<;>intro hc<;>try (exfalso;omega))|apply AR|(refine P4 (by assumption) ?_ (λ e he hb => ?_);omega)|refine IL rfl ?_|apply AD|refine AE (k8 _ _) ?_)<;>conv=>whnf))
  all_goals first
   | exact AZ rfl (UV _ _ _ _)
   | exact AZ rfl (UV false true [] [1])
   | exact absurd (by assumption) (k9 _ he (by assumption))
 ·refine ⟨n,m,d,false,?_,hm,hd,h0,(λ h=>by cases h),rfl⟩
  have hn:C9 (val d) (0:Nat)=1:=(ON (by omega)).symm;rw[hn]at k8;have hD:=hd.1;refine Ev.x N.IA rfl rfl ?_;(repeat' ((first|(apply AG<;>intro hc<;>try (exfalso;omega))|apply AR|(refine P4 (by assumption) ?_ (λ e he hb => ?_);omega)|apply AD|refine AE (k8 _ _) ?_)<;>conv=>whnf))
  all_goals first
   | exact AZ rfl (UV _ _ _ _)
   | exact AZ rfl (UV false true [] [1])
   | exact absurd (by assumption) (k9 _ he (by assumption))
theorem cN (N:a8 L) (n q1 q2:Bool) (m d:List Nat) (hm:Sm 549755813888 m) (hd:Sm 549755813888 d):Ev L 95 [.agg (rQ q1 q2 n m d)] (.agg (eQ (qv n m d))):=by
 obtain ⟨n',m',d',w,hr,s1,s2,s3,s4,s5⟩:=OR N n m d 549755813888 (by omega) hm hd;have hl:=λ q1 q2=>VC N n' q1 q2 m' d' s1 s2 s3
 rw[s5];unfold qv at hl;refine Ev.x N.MJ rfl rfl ?_;(repeat' ((first|apply GV|apply AD|refine AE (hr) ?_|refine AE (hl _ _) ?_)<;>conv=>whnf))
 exact AZ rfl (DH _)
theorem nV (N:a8 L) (n q1 q2:Bool) (m d:List Nat) (hm:Sm 549755813888 m) (hd:Sm 549755813888 d):Ev L 97 [.agg (rQ q1 q2 n m d)] (.int .i64 (o8 (qv n m d).num)):=by
 obtain ⟨n',m',d',w,hr,s1,s2,s3,s4,s5⟩:=OR N n m d 549755813888 (by omega) hm hd;have hl:=λ q=>YH N n' q m' s1
 rw[s5,qL s3];refine Ev.x N.MH rfl rfl ?_;(repeat' ((first|apply GV|apply AD|refine AE (hr) ?_|refine AE (hl _) ?_)<;>conv=>whnf))
 exact C2 rfl
theorem aL (z:Int):AV.agg [.bool (decide (z<0)),.sl false ((dg z.natAbs).map AL),.sl false [[.int .u32 1]]] = .agg (eQ (z:Rat)):=by
 show _=AV.agg (rQ _ _ _ _ _);rw[Rat.num_intCast,Rat.den_intCast,bO];rfl
theorem I7 (N:a8 L) (z:Int) (hz : -9223372036854775808<=z/\z<=9223372036854775807):Ev L 96 [.int .i64 z] (.agg (eQ (z:Rat))):=by
 have h1:=Yx N z hz;refine Ev.x N.MG rfl rfl ?_;(repeat' ((first|apply AD|refine AE (h1) ?_)<;>conv=>whnf))
 refine EW 1000 N.HF rfl rfl ?_;(repeat' (apply AD<;>conv=>whnf))
 refine ⟨rfl,?_⟩;(conv=>whnf)
 (repeat' (refine IL rfl ?_<;>conv=>whnf))
 exact AZ (aL z) (DH _)
theorem R7 {k l:Nat} {n1 n2:Bool} {a b:List Nat} (ha:Sm k a) (hb:Sm l b):Sm (k+l) (dg (zv n1 a*zv n2 b).natAbs):=ha.mul hb (by rw[Int.natAbs_mul,EV,EV])
theorem tL {k:Nat} {x y:Int} (ha:Sm k (dg x.natAbs)) (hb:Sm k (dg y.natAbs)):Sm (k+1) (dg (x+y).natAbs):=ha.add hb (by rw[B1,B1];omega)
theorem nU (N:a8 L) (k:Nat) (hk:1<=k/\k<=68719476736) (n1 n2 q1 q2 q3 q4:Bool) (m1 d1 m2 d2:List Nat) (iy:Sm k m1) (nh:Sm k d1) (gf:Sm k m2) (ni:Sm k d2) :
  Ev L 98 [.agg (rQ q1 q2 n1 m1 d1),.agg (rQ q3 q4 n2 m2 d2)] (.agg (eQ (qv n1 m1 d1+qv n2 m2 d2))):=by
 obtain ⟨a1,a2,a3,w1,w8,s1,s2,s3,s4,s5⟩:=OR N n1 m1 d1 k (by omega) iy nh;obtain ⟨b1,b2,b3,w2,ae,t1,t2,t3,t4,t5⟩:=OR N n2 m2 d2 k (by omega) gf ni;rw[s5,t5];have hA:=λ q q'=>nD N a1 b1 q q' a2 b2 (s1.le (by omega)) (t1.le (by omega))
 have Mk:Sm (k+1) (dg (zv a1 a2+zv b1 b2).natAbs):=tL (by rw[EV];exact s1.vz) (by rw[EV];exact t1.vz);by_cases hw:w1=true/\w2=true
 ·obtain ⟨rfl,rfl⟩:=hw
  rw[s4 rfl,t4 rfl,qI (by omega),qK];generalize zv a1 a2+zv b1 b2=z at *;refine Ev.x N.H9 rfl rfl ?_;(repeat' ((first|apply GV|apply AD|refine AE (w8) ?_|refine AE (ae) ?_|refine AE (hA _ _) ?_)<;>conv=>whnf))
  refine EW 1000 N.HF rfl rfl ?_;(repeat' (apply AD<;>conv=>whnf))
  refine ⟨rfl,?_⟩;(conv=>whnf)
  (repeat' (refine IL rfl ?_<;>conv=>whnf))
  exact AZ (aL z) (DH _)
 ·have k8:=λ q q'=>PG N.toc8 a3 b3 q q' s2.1 t2.1 (by have:=s2.2;omega) (by have:=t2.2;omega)
  by_cases wz:val a3=val b3
  ·have hn:C9 (val a3) (val b3)=0:=(RF (by omega)).symm
   rw[hn]at k8;rw[<-wz,qI s3];generalize zv a1 a2+zv b1 b2=z at *;have hl:=λ q1 q2=>VC N (decide (z<0)) q1 q2 (dg z.natAbs) a3 (Mk.le (by omega)) (s2.le (by omega)) s3
   unfold qv at hl;rw[E2]at hl;refine Ev.x N.H9 rfl rfl ?_;cases w1<;>cases w2
   ·(repeat' ((first|(apply AG<;>intro hc<;>try (exfalso;omega))|apply GV|apply AD|refine AE (w8) ?_|refine AE (ae) ?_|refine AE (hA _ _) ?_|refine AE (k8 _ _) ?_|refine AE (hl _ _) ?_)<;>conv=>whnf))
    exact AZ rfl (DH _)
   ·(repeat' ((first|(apply AG<;>intro hc<;>try (exfalso;omega))|apply GV|apply AD|refine AE (w8) ?_|refine AE (ae) ?_|refine AE (hA _ _) ?_|refine AE (k8 _ _) ?_|refine AE (hl _ _) ?_)<;>conv=>whnf))
    exact AZ rfl (DH _)
   ·(repeat' ((first|(apply AG<;>intro hc<;>try (exfalso;omega))|apply GV|apply AD|refine AE (w8) ?_|refine AE (ae) ?_|refine AE (hA _ _) ?_|refine AE (k8 _ _) ?_|refine AE (hl _ _) ?_)<;>conv=>whnf))
    exact AZ rfl (DH _)
   ·exact absurd ⟨rfl,rfl⟩ hw
  ·have hn:C9 (val a3) (val b3)≠0:=by unfold C9;split<;>(try split)<;>omega
   generalize C9 (val a3) (val b3)=cm at *;have ay:=λ q q'=>RM N a1 false q q' a2 b3 s1.1 t2.1 (by have:=s1.2;have:=t2.2;omega)
   have cr:=λ q q'=>RM N b1 false q q' b2 a3 t1.1 s2.1 (by have:=t1.2;have:=s2.2;omega)
   have qk:=λ q q'=>cG N.toc8 a3 b3 q q' s2.1 t2.1 (by have:=s2.2;have:=t2.2;omega)
   have xh:=TE N a3;have uf:=TE N b3;have g1:Sm (k+k) (dg (zv a1 a2*zv false b3).natAbs):=R7 s1 t2;have g2:Sm (k+k) (dg (zv b1 b2*zv false a3).natAbs):=R7 t1 s2;have g3:=tL g1 g2;have g4:Sm (k+k) (dg (val a3*val b3)):=s2.mul t2 rfl;rw[YU s3 t3,<-EL b3,<-EL a3];have Az:val a3*val b3≠0:=Nat.mul_ne_zero s3 t3;generalize zv a1 a2*zv false b3=x at *;generalize zv b1 b2*zv false a3=y at *;generalize val a3*val b3=D at *;have Gt:=λ q q'=>nD N (decide (x<0)) (decide (y<0)) q q' (dg x.natAbs) (dg y.natAbs) (g1.le (by omega)) (g2.le (by omega))
   rw[E2,E2]at Gt;generalize x+y=z at *;have hl:=λ q1 q2=>VC N (decide (z<0)) q1 q2 (dg z.natAbs) (dg D) (g3.le (by omega)) (g4.le (by omega)) (by rw[B1];exact Az)
   unfold qv at hl;rw[E2,B1]at hl;refine Ev.x N.H9 rfl rfl ?_;cases w1<;>cases w2
   ·(repeat' ((first|(apply AG<;>intro hc<;>try (exfalso;omega))|apply GV|apply Q4|apply AD|refine AE (w8) ?_|refine AE (ae) ?_|refine AE (k8 _ _) ?_|refine AE (xh) ?_|refine AE (uf) ?_|refine AE (ay _ _) ?_|refine AE (cr _ _) ?_|refine AE (Gt _ _) ?_|refine AE (qk _ _) ?_|refine AE (hl _ _) ?_)<;>conv=>whnf))
    exact AZ rfl (DH _)
   ·(repeat' ((first|(apply AG<;>intro hc<;>try (exfalso;omega))|apply GV|apply Q4|apply AD|refine AE (w8) ?_|refine AE (ae) ?_|refine AE (k8 _ _) ?_|refine AE (xh) ?_|refine AE (uf) ?_|refine AE (ay _ _) ?_|refine AE (cr _ _) ?_|refine AE (Gt _ _) ?_|refine AE (qk _ _) ?_|refine AE (hl _ _) ?_)<;>conv=>whnf))
    exact AZ rfl (DH _)
   ·(repeat' ((first|(apply AG<;>intro hc<;>try (exfalso;omega))|apply GV|apply Q4|apply AD|refine AE (w8) ?_|refine AE (ae) ?_|refine AE (k8 _ _) ?_|refine AE (xh) ?_|refine AE (uf) ?_|refine AE (ay _ _) ?_|refine AE (cr _ _) ?_|refine AE (Gt _ _) ?_|refine AE (qk _ _) ?_|refine AE (hl _ _) ?_)<;>conv=>whnf))
    exact AZ rfl (DH _)
   ·exact absurd ⟨rfl,rfl⟩ hw
theorem cM (N:a8 L) (k:Nat) (hk:1<=k/\k<=68719476736) (n1 n2 q1 q2 q3 q4:Bool) (m1 d1 m2 d2:List Nat) (iy:Sm k m1) (nh:Sm k d1) (gf:Sm k m2) (ni:Sm k d2) :
  Ev L 99 [.agg (rQ q1 q2 n1 m1 d1),.agg (rQ q3 q4 n2 m2 d2)] (.agg (eQ (qv n1 m1 d1*qv n2 m2 d2))):=by
 obtain ⟨a1,a2,a3,w1,w8,s1,s2,s3,s4,s5⟩:=OR N n1 m1 d1 k (by omega) iy nh;obtain ⟨b1,b2,b3,w2,ae,t1,t2,t3,t4,t5⟩:=OR N n2 m2 d2 k (by omega) gf ni;rw[s5,t5,dW];have ay:=λ q q'=>RM N a1 b1 q q' a2 b2 s1.1 t1.1 (by have:=s1.2;have:=t1.2;omega)
 have qk:=λ q q'=>cG N.toc8 a3 b3 q q' s2.1 t2.1 (by have:=s2.2;have:=t2.2;omega)
 have g1:Sm (k+k) (dg (zv a1 a2*zv b1 b2).natAbs):=R7 s1 t1;have g4:Sm (k+k) (dg (val a3*val b3)):=s2.mul t2 rfl;have Az:val a3*val b3≠0:=Nat.mul_ne_zero s3 t3;generalize zv a1 a2*zv b1 b2=z at *;by_cases hw:w1=true/\w2=true
 ·obtain ⟨rfl,rfl⟩:=hw
  rw[s4 rfl,t4 rfl,Nat.one_mul,qK];refine Ev.x N.JF rfl rfl ?_;(repeat' ((first|apply GV|apply AD|refine AE (w8) ?_|refine AE (ae) ?_|refine AE (ay _ _) ?_)<;>conv=>whnf))
  refine EW 1000 N.HF rfl rfl ?_;(repeat' (apply AD<;>conv=>whnf))
  refine ⟨rfl,?_⟩;(conv=>whnf)
  (repeat' (refine IL rfl ?_<;>conv=>whnf))
  exact AZ (aL z) (DH _)
 ·generalize val a3*val b3=D at *
  have hl:=λ q1 q2=>VC N (decide (z<0)) q1 q2 (dg z.natAbs) (dg D) (g1.le (by omega)) (g4.le (by omega)) (by rw[B1];exact Az)
  unfold qv at hl;rw[E2,B1]at hl;refine Ev.x N.JF rfl rfl ?_;cases w1<;>cases w2
  ·(repeat' ((first|apply GV|apply AD|refine AE (w8) ?_|refine AE (ae) ?_|refine AE (ay _ _) ?_|refine AE (qk _ _) ?_|refine AE (hl _ _) ?_)<;>conv=>whnf))
   exact AZ rfl (DH _)
  ·(repeat' ((first|apply GV|apply AD|refine AE (w8) ?_|refine AE (ae) ?_|refine AE (ay _ _) ?_|refine AE (qk _ _) ?_|refine AE (hl _ _) ?_)<;>conv=>whnf))
   exact AZ rfl (DH _)
  ·(repeat' ((first|apply GV|apply AD|refine AE (w8) ?_|refine AE (ae) ?_|refine AE (ay _ _) ?_|refine AE (qk _ _) ?_|refine AE (hl _ _) ?_)<;>conv=>whnf))
   exact AZ rfl (DH _)
  ·exact absurd ⟨rfl,rfl⟩ hw
theorem Tl (x:Rat) (e:Int):A4 (.g7 [.agg (eQ x),.int .i64 e]):=by
 simp only[A4,CW,and_true,true_and];exact ⟨CQ _,CQ _⟩
theorem Adh (N:a8 L) (k:Nat) (hk:1<=k/\k<=68719476736) (n1 n2 q1 q2 q3 q4:Bool) (m1 d1 m2 d2:List Nat) (iy:Sm k m1) (nh:Sm k d1) (gf:Sm k m2) (ni:Sm k d2) (h0:qv n2 m2 d2≠0) :
  Ev L 100 [.agg (rQ q1 q2 n1 m1 d1),.agg (rQ q3 q4 n2 m2 d2)] (.g7 [.agg (eQ (qv n1 m1 d1/qv n2 m2 d2)),.int .i64 0]):=by
 obtain ⟨a1,a2,a3,w1,w8,s1,s2,s3,s4,s5⟩:=OR N n1 m1 d1 k (by omega) iy nh;obtain ⟨b1,b2,b3,w2,ae,t1,t2,t3,t4,t5⟩:=OR N n2 m2 d2 k (by omega) gf ni;rw[t5]at h0;rw[s5,t5];have yv:zv b1 b2≠0:=λ h=>h0 ((dX t3).2 h)
 rw[Ae4 s3 t3 yv];have hS:=λ q=>YH N b1 q b2 (t1.le (by omega))
 have rb:o8 (zv b1 b2)≠0:=by unfold o8;split<;>(try split)<;>omega
 have ay:=λ q q'=>RM N a1 false q q' a2 b3 s1.1 t2.1 (by have:=s1.2;have:=t2.2;omega)
 have cr:=λ q q'=>RM N false b1 q q' a3 b2 s2.1 t1.1 (by have:=t1.2;have:=s2.2;omega)
 have xh:=TE N a3;have uf:=TE N b3;have g1:Sm (k+k) (dg (zv a1 a2*zv false b3).natAbs):=R7 s1 t2;have g2:Sm (k+k) (dg (zv false a3*zv b1 b2).natAbs):=R7 s2 t1;have hd:(zv false a3*zv b1 b2).natAbs=val a3*(zv b1 b2).natAbs:=by rw[Int.natAbs_mul,EV]
 have Ba:(zv false a3*zv b1 b2).sign=(zv b1 b2).sign:=by
  rw[Int.sign_mul,EL,Int.sign_eq_one_of_pos (by omega),Int.one_mul]
 have ox:zv false a3*zv b1 b2≠0:=by
  intro h;rw[h]at Ba;exact yv (by simpa using Ba.symm)
 rw[<-hd,<-Ba,<-EL b3];generalize zv a1 a2*zv false b3=x at *;generalize zv false a3*zv b1 b2=y at *;generalize o8 (zv b1 b2)=sg at *;have hl:=λ q1 q2=>VC N (decide (x<0) != decide (y<0)) q1 q2 (dg x.natAbs) (dg y.natAbs) (g1.le (by omega)) (g2.le (by omega)) (by rw[B1];omega)
 unfold qv at hl;rw[Ahh ox,B1]at hl;refine Ev.x N.ME rfl rfl ?_;(repeat' ((first|(apply AG<;>intro hc<;>try (exfalso;omega))|apply GV|apply Q4|apply AD|refine AE (w8) ?_|refine AE (ae) ?_|refine AE (hS _) ?_|refine AE (xh) ?_|refine AE (uf) ?_|refine AE (ay _ _) ?_|refine AE (cr _ _) ?_)<;>conv=>whnf))
 refine EW 1000 N.MO rfl rfl ?_;(repeat' (apply AD<;>conv=>whnf))
 generalize decide (x<0)=p at *;generalize decide (y<0)=r at *;cases p<;>cases r;all_goals
  (conv=>whnf)
  refine ⟨rfl,?_⟩;(conv=>whnf)
  (repeat' (refine AE (hl _ _) ?_<;>conv=>whnf))
  exact AZ rfl (Tl _ _)
theorem Bt.sm {k:Nat} {x:Rat} (h:Bt k x) (hk:k<2199023255552):Sm 68719476736 (dg x.num.natAbs)/\Sm 68719476736 (dg x.den):=h.Ns (by omega)
theorem QC (N:a8 L) {x y:Rat} {k l:Nat} (hx:Bt k x) (hy:Bt l y) (hk:k<2199023255552) (hl:l<2199023255552):Ev L 98 [.agg (eQ x),.agg (eQ y)] (.agg (eQ (x+y))):=by
 have:=nU N 68719476736 (by omega) (decide (x.num<0)) (decide (y.num<0)) false false false false _ _ _ _ (hx.sm hk).1 (hx.sm hk).2 (hy.sm hl).1 (hy.sm hl).2
 rw[EJ,EJ]at this;exact this
theorem GY (N:a8 L) {x y:Rat} {k l:Nat} (hx:Bt k x) (hy:Bt l y) (hk:k<2199023255552) (hl:l<2199023255552):Ev L 99 [.agg (eQ x),.agg (eQ y)] (.agg (eQ (x*y))):=by
 have:=cM N 68719476736 (by omega) (decide (x.num<0)) (decide (y.num<0)) false false false false _ _ _ _ (hx.sm hk).1 (hx.sm hk).2 (hy.sm hl).1 (hy.sm hl).2
 rw[EJ,EJ]at this;exact this
theorem YG (N:a8 L) {x y:Rat} {k l:Nat} (hx:Bt k x) (hy:Bt l y) (hk:k<2199023255552) (hl:l<2199023255552) (h0:y≠0):Ev L 100 [.agg (eQ x),.agg (eQ y)] (.g7 [.agg (eQ (x/y)),.int .i64 0]):=by
 have:=Adh N 68719476736 (by omega) (decide (x.num<0)) (decide (y.num<0)) false false false false _ _ _ _ (hx.sm hk).1 (hx.sm hk).2 (hy.sm hl).1 (hy.sm hl).2 (by rw[EJ];exact h0)
 rw[EJ,EJ]at this;exact this
theorem cP (N:a8 L) {x:Rat} {k:Nat} (hx:Bt k x) (hk:k<2199023255552):Ev L 95 [.agg (eQ x)] (.agg (eQ x)):=by
 have:=cN N (decide (x.num<0)) false false _ _ ((hx.sm hk).1.le (by omega)) ((hx.sm hk).2.le (by omega))
 rw[EJ]at this;exact this
theorem VG (N:a8 L) {x:Rat} {k:Nat} (hx:Bt k x) (hk:k<2199023255552):Ev L 97 [.agg (eQ x)] (.int .i64 (o8 x.num)):=by
 have:=nV N (decide (x.num<0)) false false _ _ ((hx.sm hk).1.le (by omega)) ((hx.sm hk).2.le (by omega))
 rw[EJ]at this;exact this
theorem QV {x:Rat}:o8 x.num=0↔x=0:=by
 rw[<-Rat.num_eq_zero];unfold o8;split
 ·omega
 ·split<;>omega
theorem rY (n:Bool) (m d:List Nat):qv (!n) m d = -(qv n m d):=by
 unfold qv;have h:zv (!n) m = -(zv n m):=by cases n<;>simp [zv]
 rw[h,Rat.neg_mkRat]
theorem Tq (n:Bool) (m d:List Nat):A4 (.agg (rQ false false n m d)):=by
 simp only[A4,CW,and_true,true_and];exact ⟨CQ _,CQ _⟩
theorem nB (N:v5 L) (n:Bool) (m d:List Nat):Ev L 149 [.agg (rQ false false n m d)] (.agg (rQ false false (!n) m d)):=by
 refine Ev.x N.MK rfl rfl ?_;cases n;all_goals
  (repeat' (apply AD<;>conv=>whnf))
  exact AZ rfl (Tq _ _ _)
theorem YJ (N:v5 L) {x y:Rat} {k l:Nat} (hx:Bt k x) (hy:Bt l y) (hk:k<2199023255552) (hl:l<2199023255552):Ev L 150 [.agg (eQ x),.agg (eQ y)] (.agg (eQ (x-y))):=by
 have hF:=nB N (decide (y.num<0)) (dg y.num.natAbs) (dg y.den);have hA:=λ q3 q4=>nU N.toa8 68719476736 (by omega) (decide (x.num<0)) (!decide (y.num<0)) false false q3 q4 _ _ _ _ (hx.sm hk).1 (hx.sm hk).2 (hy.sm hl).1 (hy.sm hl).2
 rw[rY,EJ,EJ,<-Rat.sub_eq_add_neg]at hA;refine Ev.x N.MI rfl rfl ?_;(repeat' ((first|apply iU|apply AD|refine AE (hF) ?_|refine AE (hA _ _) ?_)<;>conv=>whnf))
 exact AZ rfl (DH _)
theorem cY {l:List Rat} {i:Nat} {x:Rat} (h:l[i]? = some x):l.getD i 0=x:=by rw[List.getD_eq_getElem?_getD,h];rfl
theorem Adx {l:List Rat} {i:Nat} (h:l.length<=i):l.getD i 0=0:=by rw[List.getD_eq_getElem?_getD,List.getElem?_eq_none h];rfl
theorem VQ {l:List Rat} {k:Nat} (h:Bs k l) (i:Nat):Bt k (l.getD i 0):=by
 rw[List.getD_eq_getElem?_getD];cases e:l[i]? with
 | none=>exact Bt.zero k
 | some x=>exact h.at e
theorem gD (z:Int):o8 z = -1/\z<0\/o8 z=0/\z=0\/o8 z=1/\0<z:=by
 unfold o8;split
 ·exact Or.inl ⟨rfl,by omega⟩
 ·split
  ·exact Or.inr (Or.inr ⟨rfl,by omega⟩)
  ·exact Or.inr (Or.inl ⟨rfl,by omega⟩)
theorem Tv {a b:Nat} {z:Int} (h:z=(a:Int)-b):C9 a b=o8 z:=by
 unfold C9 o8;subst h;repeat' split
 all_goals omega
theorem nE (N:n9 L) (n1 n2 q1 q2:Bool) (a b:List Nat) (ha:Sm 549755813888 a) (hb:Sm 549755813888 b):Ev L 197 [.agg (rZ q1 n1 a),.agg (rZ q2 n2 b)] (.int .i64 (o8 (zv n1 a-zv n2 b))):=by
 have h1:=λ q=>YH N.toa8 n1 q a ha
 have h2:=λ q=>YH N.toa8 n2 q b hb
 have h3:=λ q q'=>PG N.toc8 a b q q' ha.1 hb.1 (by have:=ha.2;omega) (by have:=hb.2;omega)
 have h4:=λ q q'=>PG N.toc8 b a q q' hb.1 ha.1 (by have:=hb.2;omega) (by have:=ha.2;omega)
 have za:=EV n1 a;have zb:=EV n2 b;generalize zv n1 a=x at *;generalize zv n2 b=y at *;rcases gD x with ⟨e1,g1⟩|⟨e1,g1⟩|⟨e1,g1⟩<;>rcases gD y with ⟨e2,g2⟩|⟨e2,g2⟩|⟨e2,g2⟩
 all_goals
  rw[e1]at h1;rw[e2]at h2;refine Ev.x N.KT rfl rfl ?_;(repeat' ((first|(apply AG<;>intro hc<;>try (exfalso;omega))|apply AD|refine AE (h1 _) ?_|refine AE (h2 _) ?_|refine AE (h3 _ _) ?_|refine AE (h4 _ _) ?_)<;>conv=>whnf))
  first
   | exact C2 (gF (by omega))
   | exact C2 (gG (by omega))
   | exact C2 (Tv (by omega))
theorem Adg (N:n9 L) (k:Nat) (hk:1<=k/\k<=68719476736) (n1 n2:Bool) (m1 d1 m2 d2:List Nat) (iy:Sm k m1) (nh:Sm k d1) (gf:Sm k m2) (ni:Sm k d2) :
  Ev L 198 [.agg (rQ false false n1 m1 d1),.agg (rQ false false n2 m2 d2)] (.int .i64 (o8 (qv n1 m1 d1-qv n2 m2 d2).num)):=by
 obtain ⟨a1,a2,a3,w1,w8,s1,s2,s3,s4,s5⟩:=OR N.toa8 n1 m1 d1 k (by omega) iy nh;obtain ⟨b1,b2,b3,w2,ae,t1,t2,t3,t4,t5⟩:=OR N.toa8 n2 m2 d2 k (by omega) gf ni;rw[s5,t5,<-qJ s3 t3];by_cases hw:w1=true/\w2=true
 ·obtain ⟨rfl,rfl⟩:=hw
  have hC:=λ q q'=>nE N a1 b1 q q' a2 b2 (s1.le (by omega)) (t1.le (by omega))
  rw[s4 rfl,t4 rfl];rw[show zv a1 a2*((1:Nat):Int)-zv b1 b2*((1:Nat):Int)=zv a1 a2-zv b1 b2 by omega];refine Ev.x N.JE rfl rfl ?_;(repeat' ((first|apply GV|apply AD|refine AE (w8) ?_|refine AE (ae) ?_|refine AE (hC _ _) ?_)<;>conv=>whnf))
  exact C2 rfl
 ·have ay:=λ q q'=>RM N.toa8 a1 false q q' a2 b3 s1.1 t2.1 (by have:=s1.2;have:=t2.2;omega)
  have cr:=λ q q'=>RM N.toa8 b1 false q q' b2 a3 t1.1 s2.1 (by have:=t1.2;have:=s2.2;omega)
  have xh:=TE N.toa8 a3;have uf:=TE N.toa8 b3;have g1:Sm (k+k) (dg (zv a1 a2*zv false b3).natAbs):=R7 s1 t2;have g2:Sm (k+k) (dg (zv b1 b2*zv false a3).natAbs):=R7 t1 s2;have hC:=λ q q'=>nE N (decide (zv a1 a2*zv false b3<0)) (decide (zv b1 b2*zv false a3<0)) q q' _ _ (g1.le (by omega)) (g2.le (by omega))
  rw[E2,E2]at hC;rw[<-EL b3,<-EL a3];generalize zv a1 a2*zv false b3=x at *;generalize zv b1 b2*zv false a3=y at *;refine Ev.x N.JE rfl rfl ?_;cases w1<;>cases w2
  ·(repeat' ((first|apply GV|apply Q4|apply AD|refine AE (w8) ?_|refine AE (ae) ?_|refine AE (xh) ?_|refine AE (uf) ?_|refine AE (ay _ _) ?_|refine AE (cr _ _) ?_|refine AE (hC _ _) ?_)<;>conv=>whnf))
   exact C2 rfl
  ·(repeat' ((first|apply GV|apply Q4|apply AD|refine AE (w8) ?_|refine AE (ae) ?_|refine AE (xh) ?_|refine AE (uf) ?_|refine AE (ay _ _) ?_|refine AE (cr _ _) ?_|refine AE (hC _ _) ?_)<;>conv=>whnf))
   exact C2 rfl
  ·(repeat' ((first|apply GV|apply Q4|apply AD|refine AE (w8) ?_|refine AE (ae) ?_|refine AE (xh) ?_|refine AE (uf) ?_|refine AE (ay _ _) ?_|refine AE (cr _ _) ?_|refine AE (hC _ _) ?_)<;>conv=>whnf))
   exact C2 rfl
  ·exact absurd ⟨rfl,rfl⟩ hw
theorem mZ (N:n9 L) {x y:Rat} {k l:Nat} (hx:Bt k x) (hy:Bt l y) (hk:k<2199023255552) (hl:l<2199023255552):Ev L 198 [.agg (eQ x),.agg (eQ y)] (.int .i64 (o8 (x-y).num)):=by
 have:=Adg N 68719476736 (by omega) (decide (x.num<0)) (decide (y.num<0)) _ _ _ _ (hx.sm hk).1 (hx.sm hk).2 (hy.sm hl).1 (hy.sm hl).2
 rw[EJ,EJ]at this;exact this
theorem nK (N:n9 L) {x:Rat} {k:Nat} (hx:Bt k x) (hk:k<2199023255552):Ev L 199 [.agg (eQ x)] (.agg (eQ (-x))):=by
 have hF:=nB N.tov5 (decide (x.num<0)) (dg x.num.natAbs) (dg x.den);have hT:=λ q1 q2=>cN N.toa8 (!decide (x.num<0)) q1 q2 _ _ ((hx.sm hk).1.le (by omega)) ((hx.sm hk).2.le (by omega))
 rw[rY,EJ]at hT;refine Ev.x N.MF rfl rfl ?_;(repeat' ((first|apply iU|apply AD|refine AE (hF) ?_|refine AE (hT _ _) ?_)<;>conv=>whnf))
 exact AZ rfl (DH _)
theorem nM (N:n9 L) (q:Bool) (l:List Rat) (k:Nat) (hl:Bs k l) (hk:k<2199023255552) (hn:l.length<=1000000):Ev L 200 [.sl q (l.map eQ)] (.int .i64 ((HN l l.length:Int)-1)):=by
 refine Ev.x N.MB rfl rfl ?_;(repeat' (apply AD<;>conv=>whnf))
 refine GF 1000 N.MC rfl rfl ?_;(repeat' ((first|apply AR|apply AD)<;>conv=>whnf))
 refine BR (λ n=>n) (λ(n:Nat)=>n<=l.length/\HN l l.length=HN l n) (λ n=>[(3,.int .i64 n)]) (λ_=>[]) [] [] l.length (by (conv=>whnf);exact ⟨rfl,rfl,rfl⟩) ⟨Nat.le_refl _,rfl⟩ ?_;intro n ⟨p1,p2⟩ ih;have done : ∀ {n:Nat},HN l l.length=n->O1 l=l.take n:=λ h=>by rw[O1,h]
 by_cases hz:n=0\/(∃ m x,n=m+1/\l[m]? = some x/\x≠0)
 ·have Ef:HN l l.length=n:=by
   rw[p2];rcases hz with rfl|⟨m,x,rfl,h1,h2⟩
   ·rfl
   ·rw[HN,if_neg]
    rw[List.getD_eq_getElem?_getD,h1];exact h2
  have htq:=done Ef;have aw:(l.take n).length=n:=by rw[List.length_take];omega
  clear ih Ef p2 done;rcases hz with h0|⟨m,x,hnm,h1,h2⟩
  case' inl=>(repeat' ((first|(apply AG<;>intro hc<;>try (exfalso;omega))|apply AD)<;>conv=>whnf))
  case' inr =>
   have ti:l[((n:Int)-1).toNat]? = some x:=by rw[show ((n:Int)-1).toNat=m by omega];exact h1
   have Du:=VG N.toa8 (hl.at h1) (by omega);have hs:=QV (x:=x);generalize o8 x.num=s at *;have hS : ∀ v,l[((n:Int)-1).toNat]? = some v->Ev L 97 [.agg (eQ v)] (.int .i64 s):=λ v h=>by
    obtain rfl:=Option.some.inj (ti.symm.trans h);exact Du
   have ck:s≠0:=λ h=>h2 (hs.1 h)
   (repeat' ((first|(apply AG<;>intro hc<;>try (exfalso;omega))|(apply B6;omega)|(refine BC (by assumption) ?_ rfl ?_;omega)|apply AD|refine AE (Du) ?_)<;>conv=>whnf))
  all_goals
   refine Q8 (enc:=eQ) (λ_=>rfl) p1 ?_;(conv=>whnf)
   skip
   refine ⟨rfl,_,rfl,?_⟩;(conv=>whnf)
   (repeat' ((first|(apply B6;omega)|apply AR)<;>conv=>whnf))
   have Eg:HN l l.length=n:=by rw[<-uQ,htq,aw]
   rw[Eg];exact C2 (by rw[aw])
 ·obtain ⟨m,rfl⟩ : ∃ m,n=m+1:=⟨n-1,by omega⟩
  obtain ⟨x,hx⟩ : ∃ x,l[m]? = some x:=⟨_,zE (by omega)⟩;have si:x=0:=by
   rcases Classical.em (x=0) with h|h
   ·exact h
   ·exact (hz (Or.inr ⟨m,x,rfl,hx,h⟩)).elim
  have fm:l[((m+1:Nat)-1:Int).toNat]? = some x:=by rw[show ((m+1:Nat)-1:Int).toNat=m by omega];exact hx
  have Du:=VG N.toa8 (hl.at hx) (by omega);have hs:=QV (x:=x);generalize o8 x.num=s at *;have hS : ∀ v,l[((m+1:Nat)-1:Int).toNat]? = some v->Ev L 97 [.agg (eQ v)] (.int .i64 s):=λ v h=>by
   obtain rfl:=Option.some.inj (fm.symm.trans h);exact Du
  have ck:=hs.2 si;(repeat' ((first|(apply AG<;>intro hc<;>try (exfalso;omega))|(apply B6;omega)|(refine BC (by assumption) ?_ rfl ?_;omega)|apply AD|refine AE (Du) ?_)<;>conv=>whnf))
  rw[show ((m+1:Nat):Int)-1=(m:Int) by omega];exact BF [] (ih m (by omega) ⟨by omega,by rw[p2,HN,if_pos (by rw[List.getD_eq_getElem?_getD,hx];exact si)]⟩)
end Go.c5

namespace Go.c5
open F
attribute [local irreducible] AA AF AM AC CI AW AX A5 A6 B3 AQ BS B7 C5 BQ A2 BO B9 AB A9 AJ pw BN BG CH CM CT CP CE BU CK
set_option maxHeartbeats 1000000
variable {L:Lib}
def I0 (n:Int):Prop := -9223372036854775808<=n/\n<=9223372036854775807
structure Wd where
 b:Int
 f:Int
 r:Int
 o:Int
def WV (w:Wd):Prop:=4<=w.b/\w.b<=24/\0<=w.f/\w.f<w.b/\1<=w.r/\w.r<=3/\1<=w.o/\w.o<=2
instance (w : Wd) : Decidable (WV w) := by unfold WV; infer_instance
variable (w:Wd)
def AeV:Int:=if WV w then -pw (w.b-1) else 0
def Zj:Int:=if WV w then pw (w.b-1)-1 else 0
def FT (v:Int):Prop:=WV w/\AeV w<=v/\v<=Zj w
instance (v : Int) : Decidable (FT w v) := by unfold FT; infer_instance
end Go.c5

namespace Go.c5
open F
attribute [local irreducible] AA AF AM AC CI AW AX A5 A6 B3 AQ BS B7 C5 BQ A2 BO B9 AB A9 AJ pw BN BG CH CM CT CP CE BU CK
set_option maxHeartbeats 1000000
variable {L:Lib}
structure Nd where
 q:Bool
 ts:List (Int × Int)
structure Nt where
 d:Wd
 c:Wd
 s:Int
 qn:Bool
 nodes:List Nd
 qx:Bool
 next:List Int
 out:Int
variable (n:Nt)
end Go.c5

namespace Go.c5
open F
attribute [local irreducible] AA AF AM AC CI AW AX A5 A6 B3 AQ BS B7 C5 BQ A2 BO B9 AB A9 AJ pw BN BG CH CM CT CP CE BU CK
variable {L:Lib}
set_option maxHeartbeats 1000000
def F2 (v m:Int):Int:=if m<1 then 0 else v%m
theorem nZ (W:v8 L) (v m:Int) (hv:I0 v) (hm:m<=9223372036854775807):Ev L 34 [.int .i64 v,.int .i64 m] (.int .i64 (F2 v m)):=by
 unfold I0 at hv;refine Ev.x W.OA rfl rfl ?_;(repeat' ((first|(apply AG<;>intro hc<;>try (exfalso;omega))|(apply AU;omega)|(refine SR ?_ (λ_ _ _ => ?_) (λ_ _ _ _ => ?_);omega;all_goals try (exfalso;omega))|apply AD)<;>conv=>whnf))
 all_goals (refine C2 ?_;unfold F2;first|rw[if_pos (by omega)]|rw[if_neg (by omega)])
 all_goals omega
def G8 (l:List Int) (i:Int):Int:=if 0<=i/\i<l.length then l.getD i.toNat 0 else 0
theorem Adm (W:v8 L) (l:List Int) (q:Bool) (i:Int):Ev L 35 [.sl q (l.map TC),.int .i64 i] (.int .i64 (G8 l i)):=by
 refine Ev.x W.N8 rfl rfl ?_;(repeat' ((first|(apply AG<;>intro hc<;>try (exfalso;omega))|apply AR|(refine aI ?_ (λ_=>rfl) (λ e he => ?_);omega)|apply AD)<;>conv=>whnf))
 all_goals (refine C2 ?_;unfold G8;first|rw[if_neg (by omega)]|(rw[if_pos (by omega),List.getD_eq_getElem?_getD,he];rfl))
theorem Aha {v m:Int} (h:1<=m):0<=F2 v m/\F2 v m<m:=by
 unfold F2;rw[if_neg (by omega)];exact ⟨Int.emod_nonneg _ (by omega),Int.emod_lt_of_pos _ (by omega)⟩
end Go.c5

namespace Go.c5
open F
attribute [local irreducible] AA AF AM AC CI AW AX A5 A6 B3 AQ BS B7 C5 BQ A2 BO B9 AB A9 AJ pw BN BG CH CM CT CP CE BU CK
variable {L:Lib} (n:Nt)
set_option maxHeartbeats 1000000
end Go.c5

namespace Go.c5
open F
attribute [local irreducible] AA AF AM AC CI AW AX A5 A6 B3 AQ BS B7 C5 BQ A2 BO B9 AB A9 AJ pw BN BG CH CM CT CP CE BU CK
variable {L:Lib}
set_option maxHeartbeats 4000000
theorem Yq (N:gu L) (S:HM) (n k:Nat) (h:S.Ok n k) (hn:n<=64):Ev L 130 [.agg (eS S)] (.bool true):=by
 have h1:=h.la;have h2:=h.lb;have h3:=h.lc;refine Ev.x N.LQ rfl rfl ?_;(repeat' ((first|(apply AG<;>intro hc<;>try (exfalso;omega))|apply AR|apply AD)<;>conv=>whnf))
 refine BR (λ i=>S.a.length-i) (λ(i:Nat)=>i<=S.a.length) (λ i=>[(28,.int .i64 i)]) (λ_=>[]) [] [] 0 (by (conv=>whnf);exact ⟨rfl,rfl,rfl⟩) (by omega) ?_;intro i p1 ih;by_cases hi:i<S.a.length
 ·obtain ⟨r,hr⟩ : ∃ r,S.a[i]? = some r:=⟨_,zE hi⟩
  have iz:S.a[(i:Int).toNat]? = some r:=hr;have bp:=h.lr r (zM hr);(repeat' ((first|(apply AG<;>intro hc<;>try (exfalso;omega))|(apply AU;omega)|apply AR|(refine BC (by assumption) ?_ rfl ?_;omega)|apply AD)<;>conv=>whnf))
  exact BF [] (ih (i+1) (by omega) (by omega))
 ·obtain rfl:i=S.a.length:=by omega
  clear ih;(repeat' ((first|(apply AG<;>intro hc<;>try (exfalso;omega))|apply AD)<;>conv=>whnf))
  exact IZ rfl
end Go.c5

namespace Go.c5
theorem Bs.getD {k:Nat} {l:List Rat} (h:Bs k l) (i:Nat):Bt k (l.getD i 0):=by
 rw[List.getD_eq_getElem?_getD];cases e:l[i]? with
 | none=>exact Bt.zero k
 | some x=>exact h.at e
theorem Bt.ofInt {k:Nat} {z:Int} (h:z.natAbs<=2^k):Bt k ((z:Int):Rat):=⟨by rw[Rat.num_intCast];exact h,by rw[Rat.den_intCast];exact Nat.one_le_two_pow⟩
theorem qP (σ:FH) (k:Nat) : ∀ (n i:Nat),B5 σ k i (List.replicate n none)=List.replicate n [.nil]
 | 0,_=>rfl
 | n+1,i=>by
  rw[List.replicate_succ,List.replicate_succ];show [AV.nil]::B5 σ k (i+1) (List.replicate n none)=_;rw[qP σ k n (i+1)]
theorem vJ {L:Lib} {kk:List It} {tm:Tm} {M:Mem} {Q:Tm->Mem->Prop} (k s n:Nat) (e:c6 M k=some (s,.mx (List.replicate n none))) (h:AA L kk tm ((k,s,.rw 1 (List.replicate n [.nil]))::M) Q):AA L kk tm M Q:=by
 intro σ st hr;have hg : ∀ j t c,b8 ((k,s,.rw 1 (List.replicate n [.nil]))::M) j t=some c -> ∃ c0,b8 M j t=some c0/\c0.e8 σ j=c.e8 σ j:=by
  intro j t c g;by_cases hj:j=k
  ·subst hj
   cases t with
   | zero =>
    have h1:c6 ((j,s,A7.rw 1 (List.replicate n [.nil]))::M) j=some (s,.rw 1 (List.replicate n [.nil])):=by simp [c6]
    simp only[b8,h1,Option.some.injEq]at g;subst g;refine ⟨.mx (List.replicate n none),by simp only[b8,e],?_⟩;simp only[A7.e8,qP]
   | succ i =>
    have h1:c6 ((j,s,A7.rw 1 (List.replicate n [.nil]))::M) j=some (s,.rw 1 (List.replicate n [.nil])):=by simp [c6]
    simp only[b8,h1]at g;cases g
  ·have h1:c6 ((k,s,A7.rw 1 (List.replicate n [.nil]))::M) j=c6 M j:=by
    have hb:Nat.beq j k=false:=by
     cases gl:Nat.beq j k with
     | false=>rfl
     | true=>exact absurd (Nat.eq_of_beq_eq_true gl) hj
    simp only[c6,hb,cond_false]
   refine ⟨c,?_,rfl⟩;simp only[b8,h1]at g ⊢;exact g
 refine h σ st ⟨hr.tm,⟨?_,?_,?_,?_,?_⟩⟩
 ·intro j s' c g
  by_cases hj:j=k
  ·subst hj
   have h1:c6 ((j,s,A7.rw 1 (List.replicate n [.nil]))::M) j=some (s,.rw 1 (List.replicate n [.nil])):=by simp [c6]
   rw[h1]at g;simp only[Option.some.injEq,Prod.mk.injEq]at g;obtain ⟨rfl,_⟩:=g;exact hr.sat.site _ _ _ e
  ·have h1:c6 ((k,s,A7.rw 1 (List.replicate n [.nil]))::M) j=c6 M j:=by
    have hb:Nat.beq j k=false:=by
     cases gl:Nat.beq j k with
     | false=>rfl
     | true=>exact absurd (Nat.eq_of_beq_eq_true gl) hj
    simp only[c6,hb,cond_false]
   rw[h1]at g;exact hr.sat.site _ _ _ g
 ·intro j t c g
  obtain ⟨c0,q1,q2⟩:=hg j t c g;rw[<-q2];exact hr.sat.e8 _ _ _ q1
 ·intro j t c g
  obtain ⟨c0,q1,_⟩:=hg j t c g;exact hr.sat.old _ _ _ q1
 ·intro j t j' t' c c' g g' hσ
  obtain ⟨c0,q1,_⟩:=hg j t c g;obtain ⟨c1,q2,_⟩:=hg j' t' c' g';exact hr.sat.inj _ _ _ _ _ _ q1 q2 hσ
 ·intro j t c g hw
  cases t with
  | zero =>
   by_cases hj:j=k
   ·subst hj;exact hr.sat.low _ _ _ (DJ e) rfl
   ·rw[J5 hj]at g;exact hr.sat.low _ _ _ g hw
  | succ t =>
   obtain ⟨c0,q1,_⟩:=hg _ _ _ g;exact hr.sat.low _ _ _ q1 (YW q1)
end Go.c5



namespace Go.c5
open F
attribute [local irreducible] AA AF AM AC CI AW AX A5 A6 B3 AQ BS B7 C5 BQ A2 BO B9 AB A9 AJ pw BN BG CH CM CT CP CE BU CK
variable {L:Lib}
set_option maxHeartbeats 4000000
theorem Z1 (m p:Nat):(List.replicate m (0:Rat)).set p 1=FZ m p:=by
 refine List.ext_getElem? λ j => ?_
 simp only[FZ,List.getElem?_set,List.getElem?_map,List.getElem?_replicate,List.length_replicate];by_cases h:j<m
 ·rw[List.getElem?_range h]
  by_cases e:p=j
  ·subst e;simp [h]
  ·simp [h,e];intro h3;omega
 ·rw[List.getElem?_eq_none (by simpa using h)]
  simp [h];intro e;omega
theorem Adt {α:Type} (a b:α) {t m:Nat} (_:t<=m) (h:t<m):(List.replicate t a++List.replicate (m-t) b).set t a=List.replicate (t+1) a++List.replicate (m-(t+1)) b:=by
 obtain ⟨k,hk⟩ : ∃ k,m-t=k+1:=⟨m-t-1,by omega⟩;rw[List.set_append_right _ _ (by simp),hk,List.length_replicate,Nat.sub_self,List.replicate_succ,List.set_cons_zero,show m-(t+1)=k by omega,List.replicate_succ',List.append_assoc];rfl
def fz {α:Type} (z:α) (l:List α) (m:Nat):List α:=l++List.replicate (m-l.length) z
theorem TK {α:Type} {z:α} {l:List α} {m:Nat} (h:l.length<=m):(fz z l m).length=m:=by simp [fz];omega
theorem TL {α:Type} {z x:α} {l:List α} {m:Nat} (h:l.length<m):(fz z l m).set l.length x=fz z (l++[x]) m:=by
 unfold fz;obtain ⟨k,hk⟩ : ∃ k,m-l.length=k+1:=⟨m-l.length-1,by omega⟩;rw[List.set_append_right _ _ (by simp),hk,Nat.sub_self,List.replicate_succ,List.set_cons_zero,List.length_append,List.length_singleton,show m-(l.length+1)=k by omega,List.append_assoc];rfl
theorem Adu {α:Type} {z:α} {l:List α} {m:Nat} (h:l.length<m):(fz z l m)[l.length]? = some z:=by
 unfold fz;rw[List.getElem?_append_right (by omega),Nat.sub_self,List.getElem?_replicate,if_pos (by omega)]
theorem TJ {α:Type} {z:α} {l:List α} {m:Nat} (h:l.length=m):fz z l m=l:=by simp [fz,h]
theorem UA {α:Type} {l:List α} {i:Nat} {x:α} (h:l[i]? = some x):l.take (i+1)=l.take i++[x]:=by
 rw[List.take_add_one,h];rfl
end Go.c5

namespace Go.c5
def DD (m:List (List Rat)) (j:Nat):List Rat:=m.map λ r=>r.getD j 0
def FB (r:List Rat) (m:List (List Rat)) (n:Nat):List Rat:=(List.range n).map λ j=>A3 r (DD m j)
def F9 (a m:List (List Rat)) (n:Nat):List (List Rat):=a.map λ r=>FB r m n
def dC (n:Nat):List (List Rat):=(List.range n).map λ i:Nat=>FZ n i
def YY (m:List (List Rat)) (b:List Rat):List Rat:=m.map λ r=>A3 r b
theorem Tw (m:List (List Rat)) (j:Nat):(DD m j).length=m.length:=by simp [DD]
theorem Afd (r:List Rat) (m:List (List Rat)) (n:Nat):(FB r m n).length=n:=by simp [FB]
theorem Afb (a m:List (List Rat)) (n:Nat):(F9 a m n).length=a.length:=by simp [F9]
structure Sq (n:Nat) (m:List (List Rat)):Prop where
 l:m.length=n
 r : ∀ r∈m,r.length=n
theorem Sq.at {n:Nat} {m:List (List Rat)} (h:Sq n m) {i:Nat} {r:List Rat} (hr:m[i]? = some r):r.length=n:=h.r r (zM hr)
theorem Sq.mul {n:Nat} {a:List (List Rat)} (h:a.length=n) (m:List (List Rat)):Sq n (F9 a m n):=by
 refine ⟨by rw[Afb,h],λ r hr => ?_⟩;obtain ⟨x,_,rfl⟩:=List.mem_map.1 hr;exact Afd _ _ _
def Ms (k:Nat) (m:List (List Rat)):Prop := ∀ r∈m,Bs k r
theorem Ms.at {k:Nat} {m:List (List Rat)} (h:Ms k m) {i:Nat} {r:List Rat} (hr:m[i]? = some r):Bs k r:=h r (zM hr)
theorem Ms.getD {k:Nat} {m:List (List Rat)} (h:Ms k m) (i j:Nat):Bt k ((m.getD i []).getD j 0):=by
 rw[List.getD_eq_getElem?_getD,List.getD_eq_getElem?_getD];cases e:m[i]? with
 | none=>exact Bt.zero k
 | some r =>
  simp only[Option.getD_some];cases e2:r[j]? with
  | none=>exact Bt.zero k
  | some x=>exact (h.at e).at e2
theorem Ms.le {k j:Nat} {m:List (List Rat)} (h:Ms k m) (hj:k<=j):Ms j m:=λ r hr=>(h r hr).le hj
theorem Ms.Gq {k:Nat} {m:List (List Rat)} (h:Ms k m) (j:Nat):Bs k (DD m j):=by
 intro x hx;obtain ⟨r,hr,rfl⟩:=List.mem_map.1 hx;rw[List.getD_eq_getElem?_getD];cases e:r[j]? with
 | none=>exact Bt.zero k
 | some x=>exact (h r hr).at e
theorem Ms.mul {n k s:Nat} {a m:List (List Rat)} (ha:Ms k a) (hs:Sq n a) (hm:Ms s m):Ms (n*(k+s+1)) (F9 a m n):=by
 intro r hr x hx;obtain ⟨r,h1,rfl⟩:=List.mem_map.1 hr;obtain ⟨j,_,rfl⟩:=List.mem_map.1 hx;have:=(ha r h1).dot (hm.Gq j)
 rw[hs.r r h1]at this;exact this
end Go.c5

namespace Go.c5
variable {L:Lib}
end Go.c5

namespace Go.c5
open F
attribute [local irreducible] AA AF AM AC CI AW AX A5 A6 B3 AQ BS B7 C5 BQ A2 BO B9 AB A9 AJ pw BN BG CH CM CT CP CE BU CK
variable {L:Lib}
set_option maxHeartbeats 16000000
def ot (P:List (List Rat)) (n j i:Nat):List (List (Option Rat)):=(List.range P.length).map λ r=>EM ((P.getD r []).take (if r<i then j+1 else j)) n
theorem V5 (P:List (List Rat)) (n j i:Nat):(ot P n j i).length=P.length:=by simp [ot]
theorem Zn {P:List (List Rat)} {i:Nat} {row:List Rat} (h:P[i]? = some row):P.getD i []=row:=by rw[List.getD_eq_getElem?_getD,h];rfl
theorem Y5 {P:List (List Rat)} {n j i r:Nat} {row:List Rat} (h:P[r]? = some row):(ot P n j i)[r]? = some (EM (row.take (if r<i then j+1 else j)) n):=by
 have h1:=(zS h).1;simp only[ot,List.getElem?_map,List.getElem?_range h1,Option.map_some,Zn h]
theorem Afw {P:List (List Rat)} {n j i:Nat} {row:List Rat} (h:P[i]? = some row):(ot P n j i).set i (EM (row.take (j+1)) n)=ot P n j (i+1):=by
 refine List.ext_getElem? λ r => ?_
 rw[List.getElem?_set,V5];cases e:P[r]? with
 | none =>
  have h1:=List.getElem?_eq_none_iff.1 e;have h2:=(zS h).1;rw[List.getElem?_eq_none (by rw[V5];exact h1),if_neg (by omega),List.getElem?_eq_none (by rw[V5];exact h1)]
 | some rw' =>
  rw[Y5 e,Y5 e];by_cases hi:i=r
  ·subst hi
   obtain rfl:=Option.some.inj (h.symm.trans e);have h2:=(zS h).1;rw[if_pos rfl,if_pos h2,if_pos (by omega)]
  ·rw[if_neg hi]
   by_cases h3:r<i
   ·rw[if_pos h3,if_pos (by omega)]
   ·rw[if_neg h3,if_neg (by omega)]
theorem Afv (P:List (List Rat)) (n j:Nat):ot P n j P.length=ot P n (j+1) 0:=by
 refine List.map_congr_left λ r hr => ?_
 rw[if_pos (List.mem_range.1 hr),if_neg (by omega)]
theorem Afx (P:List (List Rat)) (n:Nat):ot P n 0 0=List.replicate P.length (EM [] n):=by
 refine List.ext_getElem? λ r => ?_
 simp only[ot,List.getElem?_map,List.getElem?_replicate];by_cases h:r<P.length
 ·rw[List.getElem?_range h,if_pos h];simp
 ·rw[List.getElem?_eq_none (by simp;omega),if_neg h];rfl
theorem Afu {P:List (List Rat)} {n:Nat} (h : ∀ r∈P,r.length=n):BJ 3 eO (ot P n n 0)=BJ 3 eQ P:=by
 refine List.ext_getElem? λ r => ?_
 simp only[BJ,List.getElem?_map];cases e:P[r]? with
 | none=>rw[List.getElem?_eq_none (by rw[V5];exact List.getElem?_eq_none_iff.1 e)];rfl
 | some row =>
  have hl:=h row (zM e);rw[Y5 e,if_neg (by omega),List.take_of_length_le (by omega)];simp only[Option.map_some,QE hl]
end Go.c5

namespace Go.c5
theorem Q6 {R:List (Option (Nat × List (List AV)))} {i e z:Nat} {es:List (List AV)} {K:Option (Nat × List (List AV))->Prop} (he:e=i) (hi:i<R.length) (h:K (some (z,es))):BN (R.set i (some (z,es))) e K:=by
 subst he;exact ⟨_,by rw[List.getElem?_set,if_pos rfl,if_pos hi],h⟩
theorem O4 {R:List (Option (Nat × List (List AV)))} {i e z:Nat} {es:List (List AV)} {K:Nat->List (List AV)->Prop} (he:e=i) (hi:i<R.length) (h:K z es):BG (R.set i (some (z,es))) e K:=by
 subst he;exact ⟨z,es,by rw[List.getElem?_set,if_pos rfl,if_pos hi],h⟩
theorem XF {R:List (Option (Nat × List (List AV)))} {i e z:Nat} {es es':List (List AV)} {K:List (Option (Nat × List (List AV)))->Prop} (he:e=i) (hl:es'.length=es.length) (h:K (R.set i (some (z,es')))):CM (R.set i (some (z,es))) e z es es' K:=by
 subst he;exact ⟨hl,by rw[List.set_set];exact h⟩
theorem SS {R:List (Option (Nat × List (List AV)))} {i e z:Nat} {es:List (List AV)} {K:List (Option (Nat × List (List AV)))->Prop} (he:e=i) (hi:i<R.length) (h:K (R.set i (some (z,es)))):CH R e z es K:=by
 subst he;exact ⟨hi,h⟩
end Go.c5

namespace Go.c5
open F
attribute [local irreducible] AA AF AM AC CI AW AX A5 A6 B3 AQ BS B7 C5 BQ A2 BO B9 AB A9 AJ pw BN BG CH CM CT CP CE BU CK
variable {L:Lib}
set_option maxHeartbeats 16000000
def mz (Q:List (List Rat)) (n i:Nat):List (Option (Nat × List (List AV))):=fz none (BJ 3 eQ (Q.take i)) n
theorem eC {Q:List (List Rat)} {n i:Nat} (hi:i<=n):(mz Q n i).length=n:=by
 refine TK ?_;simp only[BJ,List.length_map,List.length_take];omega
theorem eF (Q:List (List Rat)) (n:Nat):mz Q n 0=List.replicate n none:=by simp [mz,fz]
theorem eE {Q:List (List Rat)} {n i:Nat} {row:List Rat} (h:Q[i]? = some row) (hi:i<n):(mz Q n i).set i (some (3,row.map eQ))=mz Q n (i+1):=by
 have h1:=(zS h).1;have hl:(BJ 3 eQ (Q.take i)).length=i:=by simp only[BJ,List.length_map,List.length_take];omega
 have:=TL (z:=none) (l:=BJ 3 eQ (Q.take i)) (m:=n) (x:=some (3,row.map eQ)) (by omega)
 rw[hl]at this;rw[mz,this,mz,UA h];simp [BJ]
theorem eB {Q:List (List Rat)} {n:Nat} (h:Q.length=n):mz Q n n=BJ 3 eQ Q:=by
 rw[mz,List.take_of_length_le (by omega)];exact TJ (by simp [BJ,h])
def cz (row:List Rat) (n j:Nat):List Rat:=fz 0 (row.take j) n
theorem lF {row:List Rat} {n j:Nat} (hj:j<=n):(cz row n j).length=n:=by
 refine TK ?_;rw[List.length_take];omega
theorem lH (row:List Rat) (n:Nat):cz row n 0=List.replicate n 0:=by simp [cz,fz]
theorem lG {row:List Rat} {n j:Nat} {x:Rat} (h:row[j]? = some x) (hj:j<n):(cz row n j).set j x=cz row n (j+1):=by
 have h1:=(zS h).1;have hl:(row.take j).length=j:=by rw[List.length_take];omega
 have:=TL (z:=(0:Rat)) (l:=row.take j) (m:=n) (x:=x) (by omega)
 rw[hl]at this;rw[cz,this,cz,UA h]
theorem lE {row:List Rat} {n:Nat} (h:row.length=n):cz row n n=row:=by
 rw[cz,List.take_of_length_le (by omega)];exact TJ h
end Go.c5

namespace Go.c5
open Go.ChangeShapes Go.WideShapes Go.ChangeAt Go.RowKit
inductive Ty where
 | int (k:IntKind)
 | bool
 | sl (e:Ty)
 | nil
 | cons (a r:Ty)
def Ty.cells:Ty->Nat
 | .int _=>1 | .bool=>1 | .sl _=>1
 | .nil=>0
 | .cons a r=>a.cells+r.cells
def G6:Ty->List AV->Prop
 | .int k,cs => ∃ n,cs=[.int k n]/\(Lit.int k n).wf=true
 | .bool,cs => ∃ b,cs=[.bool b]
 | .sl e,cs => ∃ es,cs=[.sl true es]/\es.length<=maxLen /\ ∀ x∈es,G6 e x
 | .nil,cs=>cs=[]
 | .cons a r,cs => ∃ x y,cs=x++y/\G6 a x/\G6 r y
theorem G6.len : ∀ {ty:Ty} {cs:List AV},G6 ty cs->cs.length=ty.cells
 | .int _,cs,h=>by obtain ⟨n,rfl,_⟩:=h;rfl
 | .bool,cs,h=>by obtain ⟨n,rfl⟩:=h;rfl
 | .sl _,cs,h=>by obtain ⟨n,rfl,_⟩:=h;rfl
 | .nil,cs,h=>by rw[show cs=[] from h];rfl
 | .cons a r,cs,h=>by obtain ⟨x,y,rfl,h1,h2⟩:=h;simp [Ty.cells,G6.len h1,G6.len h2]
def L1 (P:Program):Nat->TypeId->Ty->Bool
 | 0,_,_=>false
 | n+1,t,ty=>match P.underlying t,ty with
  | some (.int k),.int k'=>decide (k=k')
  | some .bool,.bool=>true
  | some (.slice e),.sl lg=>L1 P n e lg&&(P.cellsOf e == lg.cells&&decide (0<lg.cells))
  | some (.struct fs),ty=>go (L1 P n) fs.toList 0 ty&&P.cellsOf t == ty.cells
  | _,_=>false
where
 go (ok:TypeId->Ty->Bool):List Field->Nat->Ty->Bool
  | [],_,.nil=>true
  | f::fs,off,.cons a r=>(f.offset == off&&(ok f.type a&&P.cellsOf f.type == a.cells))&&go ok fs (off+a.cells) r
  | _,_,_=>false
section
variable {H:Type} {enc:TypeId × Value->H} {P:Program} {w:World} {base:Nat} {spare:Nat->Bool} {held:Bool} {R:Bool->Nat->Prop}
def HK (w:World) (R:Bool->Nat->Prop) (as:List AV) (cs:List Value):Prop:=as.length=cs.length /\ ∀ (j:Nat) (a:AV) (c:Value),as[j]? = some a->cs[j]? = some c->Rd w R a c
theorem HK.one {a:AV} {c:Value} (h:Rd w R a c):HK w R [a] [c]:=by
 refine ⟨rfl,λ j a' c' h1 h2 => ?_⟩;cases j with
 | zero=>simp at h1 h2;subst h1 h2;exact h
 | succ j=>simp at h1
theorem HK.append {as bs:List AV} {cs ds:List Value} (h1:HK w R as cs) (h2:HK w R bs ds):HK w R (as++bs) (cs++ds):=by
 refine ⟨by simp [h1.1,h2.1],λ j a c ha hc => ?_⟩;by_cases hj:j<as.length
 ·rw[List.getElem?_append_left hj]at ha
  rw[List.getElem?_append_left (by rw[<-h1.1];exact hj)]at hc;exact h1.2 j a c ha hc
 ·rw[List.getElem?_append_right (by omega)]at ha
  rw[List.getElem?_append_right (by rw[<-h1.1];omega),<-h1.1]at hc;exact h2.2 _ a c ha hc
theorem jK (a:Addr) (i:Nat) (h:a.spot=none):a.add i=⟨a.block,a.off+i,none⟩:=by
 obtain ⟨b,o,s⟩:=a;simp only at h;subst h;exact G7 b o i
theorem rG (hR : ∀ b,b<w.heap.size->R true b) (m:Nat) (ih : ∀ (ty:Ty) (t:TypeId) (cs:List Value) (fuel:Nat) (x:DataW H × List MemPlace),L1 P m t ty=true->DataW.trod enc P w base spare held fuel t cs=some x -> ∃ as,G6 ty as/\HK w R as cs)
  (n:Nat) (cs:List Value) : ∀ (fs:List Field) (off:Nat) (ty:Ty),L1.go P (L1 P m) fs off ty=true->(∀ f∈fs,∃ y,DataW.trod enc P w base spare held n f.type ((cs.drop f.offset).take (P.cellsOf f.type))=some y)->off+ty.cells=cs.length -> ∃ as,G6 ty as/\HK w R as (cs.drop off)
 | [],off,ty,g8,_,hl=>by
  cases ty<;>simp only[L1.go,Bool.false_eq_true]at g8;simp only[Ty.cells]at hl;exact ⟨[],rfl,by rw[List.drop_of_length_le (by omega)];exact ⟨rfl,λ j a c h=>by simp at h⟩⟩
 | f::fs,off,ty,g8,hf,hl=>by
  cases ty<;>simp only[L1.go,Bool.false_eq_true,Bool.and_eq_true,beq_iff_eq]at g8;rename_i a r;obtain ⟨⟨h1,h2,h3⟩,h4⟩:=g8;simp only[Ty.cells]at hl;obtain ⟨y,hy⟩:=hf f List.mem_cons_self;rw[h1,h3]at hy;obtain ⟨Nn,g1,g2⟩:=ih a f.type _ n y h2 hy;obtain ⟨Np,g3,g4⟩:=rG hR m ih n cs fs (off+a.cells) r h4 (λ f' h'=>hf f' (List.mem_cons_of_mem _ h')) (by omega);refine ⟨Nn++Np,⟨Nn,Np,rfl,g1,g3⟩,?_⟩;have:=g2.append g4
  rwa [show (cs.drop off).take a.cells++cs.drop (off+a.cells)=cs.drop off by rw[<-List.drop_drop,List.take_append_drop]]at this
theorem rE (hR : ∀ b,b<w.heap.size->R true b) : ∀ (m:Nat) (ty:Ty) (t:TypeId) (cs:List Value) (fuel:Nat) (x:DataW H × List MemPlace),L1 P m t ty=true->DataW.trod enc P w base spare held fuel t cs=some x -> ∃ as,G6 ty as/\HK w R as cs
 | 0,_,_,_,_,_,h,_=>by simp [L1]at h
 | m+1,ty,t,cs,fuel,x,g8,h=>by
  have ih:=rE hR m;simp only[L1]at g8;split at g8
  ·rename_i k k' hu
   obtain rfl:k=k':=by simpa using g8
   obtain ⟨n,rfl,_,hw⟩:=DataW.trod_int hu h;exact ⟨[.int k n],⟨n,rfl,hw⟩,HK.one (.int k n)⟩
  ·rename_i hu
   cases fuel with
   | zero=>simp [DataW.trod]at h
   | succ fuel =>
    unfold DataW.trod at h;rw[hu]at h;split at h<;>simp_all
    exact ⟨_,⟨_,rfl⟩,HK.one (.bool _)⟩
  ·rename_i e lg hu
   simp only[Bool.and_eq_true,beq_iff_eq,decide_eq_true_eq]at g8;obtain ⟨h1,h2,h3⟩:=g8;rcases DataW.trod_slice hu h with ⟨rfl,_⟩|⟨a,len,cap,elems,rest,n,_,rfl,_,hb,hl,hm,hlen,ag,_,_⟩
   ·exact ⟨[.sl true []],⟨[],rfl,by simp,by simp⟩,HK.one (.jc true none 0)⟩
   ·have each : ∀ i,i<len -> ∃ as dw,G6 lg as/\HK w R as dw/\dw.length=lg.cells /\ ∀ j,j<lg.cells->w.cell? ((a.add (i*lg.cells)).add j)=dw[j]? := by
     intro i hi;have:=ag i hi
     rw[h2,zE (by omega),Option.bind_eq_some_iff]at this;obtain ⟨dw,hc,ht⟩:=this;obtain ⟨as,g1,g2⟩:=ih lg e dw n _ h1 ht;obtain ⟨_,q1,q2⟩:=World.cells?_some hc;exact ⟨as,dw,g1,g2,q1,q2⟩
    by_cases h0:len=0
    ·subst h0
     exact ⟨[.sl true []],⟨[],rfl,by simp,by simp⟩,HK.one (.jc true (some a) cap)⟩
    ·have zl:a.spot=none:=by
      obtain ⟨as,dw,_,_,q1,q2⟩:=each 0 (by omega);have:=q2 0 h3
      rw[zE (by omega)]at this;simpa [Addr.add] using World.cell?_spot this
     have mb:a.block<w.heap.size:=by
      obtain ⟨as,dw,_,_,q1,q2⟩:=each 0 (by omega);have:=q2 0 h3
      rw[zE (by omega)]at this;simpa [Addr.add] using RD this
     have pick : ∃ f:Nat->List AV × List Value,∀ i,i<len->G6 lg (f i).1/\HK w R (f i).1 (f i).2/\(f i).2.length=lg.cells /\ ∀ j,j<lg.cells->w.cell? ((a.add (i*lg.cells)).add j)=(f i).2[j]? := by
      refine ⟨λ i=>if hi:i<len then (Classical.choose (each i hi),Classical.choose (Classical.choose_spec (each i hi))) else ([],[]),λ i hi => ?_⟩;simp only[hi,dif_pos];exact Classical.choose_spec (Classical.choose_spec (each i hi))
     obtain ⟨f,hf⟩:=pick;have l7 : ∀ i e',((List.range len).map λ i=>(f i).1)[i]? = some e'->i<len/\e'=(f i).1:=by
      intro i e' he;rw[List.getElem?_map]at he;by_cases hi:i<len
      ·rw[List.getElem?_range hi]at he
       simp at he;exact ⟨hi,he.symm⟩
      ·rw[List.getElem?_eq_none (by simpa using hi)]at he
       cases he
     refine ⟨[.sl true ((List.range len).map λ i=>(f i).1)],⟨_,rfl,by simp;omega,λ x hx => ?_⟩,HK.one ?_⟩
     ·obtain ⟨i,hi,rfl⟩:=List.mem_map.1 hx
      exact (hf i (List.mem_range.1 hi)).1
     ·obtain ⟨ab,ao,as⟩:=a
      simp only at zl;subst zl;have zf:((List.range len).map λ i=>(f i).1).length=len:=by simp
      have:=Rd.sl (w:=w) (R:=R) true ((List.range len).map λ i=>(f i).1) ab ao lg.cells cap (λ i j=>((f i).2[j]?).getD default) (by intro e;have:=congrArg List.length e;simp at this;omega) h3 (hR ab mb) (by rw[zf];exact hl)
       (λ e' he=>by
        obtain ⟨i,hi,rfl⟩:=List.mem_map.1 he;exact (hf i (List.mem_range.1 hi)).1.len)
       (λ i e' he j c hc=>by
        obtain ⟨hi,rfl⟩:=l7 i e' he;obtain ⟨g1,g2,g3,g4⟩:=hf i hi;have hj:j<lg.cells:=by
         have:=(zS hc).1
         rwa [g1.len]at this
        have h5:=g4 j hj;rw[jK ⟨ab,ao,none⟩ (i*lg.cells) rfl,jK _ _ rfl]at h5;simp only at h5;rw[show ao+(i*lg.cells+j)=ao+i*lg.cells+j by omega,h5,zE (by omega)];rfl)
       (λ i e' he j c hc=>by
        obtain ⟨hi,rfl⟩:=l7 i e' he;obtain ⟨g1,g2,g3,g4⟩:=hf i hi;have hj:j<lg.cells:=by
         have:=(zS hc).1
         rwa [g1.len]at this
        have h6:(f i).2[j]? = some ((f i).2[j]'(by omega)):=zE _;rw[h6];exact g2.2 j c _ hc h6)
      rwa [zf]at this
  ·rename_i fs hu
   simp only[Bool.and_eq_true,beq_iff_eq]at g8;obtain ⟨h1,h2⟩:=g8;obtain ⟨xs,n,_,_,hl,hlen,hf⟩:=DataW.trod_struct hu h;have:=rG hR m ih n cs fs.toList 0 _ h1 (λ f me=>by
    obtain ⟨i,hi,rfl⟩:=List.getElem_of_mem me;have h5:=hf i fs.toList[i] (by simp);rw[h5,zE (by simpa [hlen] using hi)];exact ⟨_,rfl⟩) (by rw[hl,h2];omega)
   simpa using this
  ·exact absurd g8 (by simp)
theorem rF {S:Nat->Prop} {ty:Ty} {t:TypeId} {v:Value} {d:DataW H} {ps:List MemPlace} {m:Nat} (g8:L1 P m t ty=true) (hv:v.cells.toList=[v]) (h:DataW.Trod enc P w base spare held t v d ps) :
  ∃ a,G6 ty [a]/\CA w.heap.size S ⟨λ_ _=>none,AH.emp,w⟩ a v:=by
 obtain ⟨fuel,hf⟩:=h;rw[hv]at hf;obtain ⟨as,h1,h2⟩:=rE (R:=safe w.heap.size S ⟨λ_ _=>none,AH.emp,w⟩) (λ b hb=>Or.inr (Or.inr ⟨rfl,hb⟩)) m ty t [v] fuel _ g8 hf;obtain ⟨a,rfl⟩ : ∃ a,as=[a]:=by
  have:=h2.1
  match as,this with
  | [a],_=>exact ⟨a,rfl⟩
 exact ⟨a,h1,.one (.rd (h2.2 0 a v rfl rfl))⟩
end
theorem zP {B:Nat} {S:Nat->Prop} {m:M} : ∀ (j:Nat) (c:AV) (v:Value),([]:List AV)[j]? = some c->([]:List Value)[j]? = some v->CA B S m c v:=λ j c v h=>by simp at h
theorem jO {B:Nat} {S:Nat->Prop} {m:M} {a:AV} {u:Value} {as:List AV} {us:List Value} (h:CA B S m a u) (hr : ∀ (j:Nat) (c:AV) (v:Value),as[j]? = some c->us[j]? = some v->CA B S m c v) :
  ∀ (j:Nat) (c:AV) (v:Value),(a::as)[j]? = some c->(u::us)[j]? = some v->CA B S m c v
 | 0,c,v,h1,h2=>by simp at h1 h2;subst h1 h2;exact h
 | j+1,c,v,h1,h2=>hr j c v (by simpa using h1) (by simpa using h2)
theorem AeN {P:Program} {num:Nat->Nat} {L:Lib} (hP:ProgOK P num L) {f:Nat} {vs:List AV} (h:Ev L f vs (.bool true)) {S:Nat->Prop} {w:World} {us:List Value} (hl:vs.length=us.length)
  (ha : ∀ (j:Nat) (c:AV) (v:Value),vs[j]? = some c->us[j]? = some v->CA w.heap.size S ⟨λ_ _=>none,AH.emp,w⟩ c v) :
  Calls P (num f) us.toArray w λ e w'=>e = .returned (.bool true)/\Below w.heap.size w w':=by
 obtain ⟨n,hn⟩:=h;refine ((Tg hP n).pure f vs _ hn S w us hl ha).mono ?_;rintro e w' ⟨u,rfl,hb,s8,_⟩
 refine ⟨?_,hb⟩;cases s8 with
 | ca lq=>cases lq with
  | one u6=>cases u6 with
   | rd lv=>cases lv;rfl
end Go.c5

namespace Go.c5
abbrev tI:Ty := .int .i64
theorem pZ {α:Type} {enc:α->List AV} {p:α->Prop} : ∀ {es:List (List AV)},(∀ x∈es,∃ y,x=enc y/\p y) -> ∃ l:List α,es=l.map enc /\ ∀ y∈l,p y
 | [],_=>⟨[],rfl,by simp⟩
 | e::es,h=>by
  obtain ⟨y,rfl,hy⟩:=h e List.mem_cons_self;obtain ⟨l,rfl,hl⟩:=pZ (enc:=enc) (p:=p) λ x hx=>h x (List.mem_cons_of_mem _ hx)
  exact ⟨y::l,rfl,by simpa using ⟨hy,hl⟩⟩
theorem Zh {α:Type} {enc:α->List AV} {p:α->Prop} {e:Ty} {cs:List AV} (he : ∀ x,G6 e x -> ∃ y,x=enc y/\p y) (h:G6 (.sl e) cs) : ∃ l:List α,cs=[.sl true (l.map enc)]/\l.length<9223372036854775808 /\ ∀ y∈l,p y:=by
 obtain ⟨es,rfl,hl,hx⟩:=h;obtain ⟨l,rfl,hp⟩:=pZ (enc:=enc) (p:=p) λ x hm=>he x (hx x hm)
 refine ⟨l,rfl,?_,hp⟩;have:maxLen=9223372036854775807:=rfl
 simp at hl;omega
theorem Ag3 {n:Int} (h:(Lit.int .i64 n).wf=true):I0 n:=by
 simp only[Lit.wf,Bool.and_eq_true,decide_eq_true_eq]at h;have h1:IntKind.i64.min = -9223372036854775808:=rfl;have h2:IntKind.i64.max=9223372036854775807:=rfl;rw[h1,h2]at h;unfold I0;constructor<;>omega
theorem pB {cs:List AV} (h:G6 tI cs) : ∃ n,cs=TC n/\I0 n:=by obtain ⟨n,rfl,hw⟩:=h;exact ⟨n,rfl,Ag3 hw⟩
theorem Zg {cs:List AV} (h:G6 (.sl tI) cs) : ∃ l:List Int,cs=[.sl true (l.map TC)]/\l.length<9223372036854775808 /\ ∀ v∈l,I0 v:=Zh (λ_=>pB) h
end Go.c5



namespace Go.c5
open F
attribute [local irreducible] AA AF AM AC CI AW AX A5 A6 B3 AQ BS B7 C5 BQ A2 BO B9 AB A9 AJ pw BN BG CH CM CT CP CE BU CK
variable {L:Lib}
set_option maxHeartbeats 8000000
abbrev eM (m:List (List Rat)):List (List AV):=m.map λ r=>[AV.sl false (r.map eQ)]
theorem aZ (m:List (List Rat)):F5 (eM m):=S5 (λ r=>by simp only[CW,A4,and_true,true_and];exact JY r) m
theorem kE (m:List (List Rat)):A4 (.sl false (eM m)):=by
 simp only[A4,true_and];exact aZ m
end Go.c5

namespace Go.c5
variable {L:Lib}
theorem vK {kk:List It} {tm:Tm} {M:Mem} {Q:Tm->Mem->Prop} {k s:Nat} {rows:List (Option (Nat × List (List AV)))} {w:List Nat} (o4:List (Option (Nat × List (List AV)))) (e:c6 M k=some (s,.vw w rows)) (hl:o4.length=w.length)
  (hw : ∀ (i t:Nat),w[i]? = some t -> ∃ r,rows[t]? = some r/\o4[i]? = some r) (hi : ∀ (i i' t:Nat),w[i]? = some t->w[i']? = some t->i=i') (au:I4 k tm=false) (mc:HX k M=false)
  (h:AA L kk tm ((k,s,.mx o4)::M) Q):AA L kk tm M Q:=by
 intro σ st hr;obtain ⟨σ',iz⟩:=hr.Cb e hl hw hi au mc;exact h σ' st iz
theorem iJ {kk:List It} {tm:Tm} {M:Mem} {Q:Tm->Mem->Prop} {k s i j:Nat} {rows:List (Option (Nat × List (List AV)))} {a b:Option (Nat × List (List AV))} (e:c6 M k=some (s,.vw (((List.range rows.length).set i j).set j i) rows)) (ha:rows[i]? = some a) (hb:rows[j]? = some b) (au:I4 k tm=false) (mc:HX k M=false)
  (h:AA L kk tm ((k,s,.mx ((rows.set i b).set j a))::M) Q):AA L kk tm M Q:=by
 have hi:=(zS ha).1;have hj:=(zS hb).1;have Mu : ∀ p,p<rows.length->(((List.range rows.length).set i j).set j i)[p]? = some (if p=j then i else if p=i then j else p):=λ p hp=>by
  rw[List.getElem?_set,List.getElem?_set,List.length_set,List.length_range];by_cases h1:j=p
  ·subst h1;simp [hp]
  ·rw[if_neg h1,if_neg (Ne.symm h1)]
   by_cases h2:i=p
   ·subst h2;simp [hp]
   ·rw[if_neg h2,if_neg (Ne.symm h2),List.getElem?_range hp]
 have Cy : ∀ p t,(((List.range rows.length).set i j).set j i)[p]? = some t->p<rows.length:=λ p t hp=>by
  have:=(zS hp).1
  simpa using this
 refine vK ((rows.set i b).set j a) e (by simp) (λ p t hp => ?_) (λ p p' t hp Fl => ?_) au mc h
 ·have ry:=Cy p t hp
  rw[Mu p ry]at hp;obtain rfl:=Option.some.inj hp;rw[List.getElem?_set,List.getElem?_set,List.length_set];by_cases h1:p=j
  ·subst h1
   exact ⟨a,by rw[if_pos rfl];exact ha,by rw[if_pos rfl,if_pos ry]⟩
  ·rw[if_neg h1,if_neg (Ne.symm h1)]
   by_cases h2:p=i
   ·subst h2
    exact ⟨b,by rw[if_pos rfl];exact hb,by rw[if_pos rfl,if_pos ry]⟩
   ·rw[if_neg h2,if_neg (Ne.symm h2)]
    exact ⟨_,zE ry,zE ry⟩
 ·have ry:=Cy p t hp
  have Lp:=Cy p' t Fl;rw[Mu p ry]at hp;rw[Mu p' Lp]at Fl;have:=Option.some.inj (hp.trans Fl.symm)
  split at this<;>split at this<;>(try split at this)<;>(try split at this)<;>omega
end Go.c5

namespace Go.c5
open F
attribute [local irreducible] AA AF AM AC CI AW AX A5 A6 B3 AQ BS B7 C5 BQ A2 BO B9 AB A9 AJ pw BN BG CH CM CT CP CE BU CK
variable {L:Lib}
set_option maxHeartbeats 16000000
abbrev CX (q:Bool) (m:List (List Rat)):List (List AV):=m.map λ r=>[AV.sl q (r.map eQ)]
theorem HY (m:List (List Rat)) (e:Int):A4 (.g7 [.sl false (eM m),.int .i64 e]):=by
 simp only[A4,CW,and_true,true_and];exact aZ m
theorem Zc (N:u4 L) (q q':Bool) (a:List (List Rat)) (n w:Nat) (hn:a.length=n) (hw : ∀ r∈a,r.length=w) (h1:1<=n/\n<=52) (h2:1<=w/\w<=52):Ev L 229 [.sl q (CX q' a)] (.bool true):=by
 obtain ⟨r0,o5⟩ : ∃ r,a[0]? = some r:=⟨_,zE (by omega)⟩;have Bl:a[(0:Int).toNat]? = some r0:=o5;have ka:=hw r0 (zM o5);refine Ev.x N.K2 rfl rfl ?_;(repeat' ((first|(apply AG<;>intro hc<;>try (exfalso;omega))|apply AR|(refine BC (by assumption) ?_ rfl ?_;omega)|apply AD)<;>conv=>whnf))
 refine BR (λ i=>n-i) (λ(i:Nat)=>i<=n) (λ i=>[(20,.int .i64 i)]) (λ_=>[]) [] [] 0 (by (conv=>whnf);exact ⟨rfl,rfl,rfl⟩) (by omega) ?_;intro i p1 ih;by_cases hi:i<n
 ·obtain ⟨r,hr⟩ : ∃ r,a[i]? = some r:=⟨_,zE (by omega)⟩
  have iz:a[(i:Int).toNat]? = some r:=hr;have hl:=hw r (zM hr);(repeat' ((first|(apply AG<;>intro hc<;>try (exfalso;omega))|(apply AU;omega)|apply AR|(refine BC (by assumption) ?_ rfl ?_;omega)|apply AD)<;>conv=>whnf))
  exact BF [] (ih (i+1) (by omega) (by omega))
 ·obtain rfl:i=n:=by omega
  clear ih;(repeat' ((first|(apply AG<;>intro hc<;>try (exfalso;omega))|apply AD)<;>conv=>whnf))
  exact IZ rfl
def mS (p:Bool × List Rat):List AV:=[.sl p.1 (p.2.map eQ)]
def GZ (P:List (Bool × List Rat)) (i:Nat):List Rat:=((P.take i).map Prod.snd).flatten
theorem oK {P:List (Bool × List Rat)} {i:Nat} {p:Bool × List Rat} (h:P[i]? = some p):GZ P (i+1)=GZ P i++p.2:=by
 simp only[GZ,List.take_add_one,h,Option.toList_some,List.map_append,List.map_cons,List.map_nil,List.flatten_append,List.flatten_cons,List.flatten_nil,List.append_nil]
theorem Yi (N:u4 L) (q:Bool) (P:List (Bool × List Rat)) (n:Nat) (hn:P.length=n) (Hn:n<=100) (hB : ∀ i,(GZ P i).length<=2000) (h0:0<(GZ P n).length):Ev L 228 [.sl q (P.map mS)] (.sl false ((GZ P n).map eQ)):=by
 refine Ev.x N.N1 rfl rfl ?_;(repeat' ((first|apply AR|apply AD)<;>conv=>whnf))
 refine BR (λ i=>n-i) (λ(i:Nat)=>i<=n) (λ i=>[(11,.int .i64 i),(3,.int .i64 (GZ P i).length)]) (λ_=>[]) [] [] 0 (by (conv=>whnf);exact ⟨rfl,rfl,rfl⟩) (by omega) ?_;intro i p1 ih;by_cases hi:i<n
 ·obtain ⟨p,hp⟩ : ∃ p,P[i]? = some p:=⟨_,zE (by omega)⟩
  have Fl:P[(i:Int).toNat]? = some p:=hp;have hs:=oK hp;have hb:=hB i;have og:=hB (i+1);have hl:(GZ P (i+1)).length=(GZ P i).length+p.2.length:=by rw[hs,List.length_append]
  (repeat' ((first|(apply AG<;>intro hc<;>try (exfalso;omega))|(apply AU;omega)|apply AR|(refine BC (by assumption) ?_ rfl ?_;omega)|apply AD)<;>conv=>whnf))
  rw[show ((GZ P i).length:Int)+(p.2.length:Int)=((GZ P (i+1)).length:Nat) by rw[hl];omega];exact BF [] (ih (i+1) (by omega) (by omega))
 ·obtain rfl:i=n:=by omega
  clear ih;have hb:=hB i;(repeat' ((first|(apply AG<;>intro hc<;>try (exfalso;omega))|apply AD)<;>conv=>whnf))
  refine GF 1000 N.N2 rfl rfl ?_;(repeat' ((first|(apply AG<;>intro hc<;>try (exfalso;omega))|(apply AY;omega)|(apply B6;omega)|apply AD)<;>conv=>whnf))
  refine AY ⟨by omega,by simp only[DP];omega,by omega⟩ ?_;(conv=>whnf)
  refine iM ⟨by omega,by omega⟩ ?_;(conv=>whnf)
  skip
  refine ⟨rfl,_,rfl,?_⟩;(conv=>whnf)
  (repeat' (apply AR<;>conv=>whnf))
  refine BR (λ j=>i-j) (λ(j:Nat)=>j<=i) (λ j=>[(27,.int .i64 j),(6,.row 227022 0 3 0 (GZ P j).length)]) (λ j=>[(227022,227022,.rw 3 ((GZ P j).map eQ))]) [] [] 0 (by (conv=>whnf);exact ⟨rfl,rfl,rfl⟩) (by omega) ?_;intro j p2 jh;by_cases hj:j<i
  ·obtain ⟨p,hp⟩ : ∃ p,P[j]? = some p:=⟨_,zE (by omega)⟩
   have Fl:P[(j:Int).toNat]? = some p:=hp;have hs:=oK hp;have hb:=hB j;have og:=hB (j+1);have hl:(GZ P (j+1)).length=(GZ P j).length+p.2.length:=by rw[hs,List.length_append]
   (repeat' ((first|(apply AG<;>intro hc<;>try (exfalso;omega))|(refine BC (by assumption) ?_ rfl ?_;omega)|apply AD)<;>conv=>whnf))
   refine WY rfl (λ_=>rfl) (by omega) (by omega) ?_;rw[<-hs];(conv=>whnf)
   (repeat' ((first|(apply AU;omega)|fail)<;>conv=>whnf))
   exact BF [(227022,33)] (jh (j+1) (by omega) (by omega))
  ·obtain rfl:j=i:=by omega
   clear jh;(repeat' ((first|(apply AG<;>intro hc<;>try (exfalso;omega))|(refine DL (λ_=>rfl) rfl ?_ ?_;(first|rfl|simp))|apply AD)<;>conv=>whnf))
   exact AZ rfl (by simp only[A4,true_and];exact JY _)
theorem Yh (N:u4 L) (q q1 q2:Bool) (a b:List Rat) (ha:a.length<=1000) (hb:b.length<=1000) (h0:0<a.length):Ev L 228 [.sl q [[.sl q1 (a.map eQ)],[.sl q2 (b.map eQ)]]] (.sl false ((a++b).map eQ)):=by
 have:=Yi N q [(q1,a),(q2,b)] 2 rfl (by omega) (λ i=>by
  rcases i with _|_|_|i<;>simp [GZ]<;>omega) (by simp [GZ];omega)
 simpa [GZ,mS] using this
end Go.c5

namespace Go.c5
theorem KO : ∀ a b:List Rat,A3 a b=A3 b a
 | [],[]=>rfl
 | [],_::_=>rfl
 | _::_,[]=>rfl
 | x::a,y::b=>by simp only[A3,KO a b,Rat.mul_comm]
theorem YE : ∀ (v:List Rat) (n:Nat),A3 (List.replicate n 0) v=0
 | [],n=>S9 _
 | y::v,0=>rfl
 | y::v,n+1=>by rw[List.replicate_succ];simp only[A3,YE v n];grind
theorem TB (v:List Rat) (n:Nat):A3 v (List.replicate n 0)=0:=by rw[KO,YE]
theorem mD (x:Rat) : ∀ a b:List Rat,A3 (a.map (x * ·)) b=x*A3 a b
 | [],_=>by simp [A3]
 | _::_,[]=>by simp [A3]
 | p::a,q::b=>by simp only[List.map_cons,A3,mD x a b];grind
theorem Aff {n:Nat} {b:List Rat} (hb:b.length=n):YY (dC n) b=b:=by
 have unit : ∀ (k n i:Nat) (b:List Rat),b.length=n->A3 ((List.range' k n).map λ a:Nat=>if (a:Int)=((k+i:Nat):Int) then 1 else 0) b=b.getD i 0:=by
  intro k n;induction n generalizing k with
  | zero=>intro i b hb;obtain rfl:=List.eq_nil_of_length_eq_zero hb;simp [A3]
  | succ n ih =>
   intro i b hb;cases b with
   | nil=>simp at hb
   | cons y b =>
    rw[List.range'_succ,List.map_cons,A3];cases i with
    | zero =>
     have hz:((List.range' (k+1) n).map λ a:Nat=>if (a:Int)=((k+0:Nat):Int) then (1:Rat) else 0)=List.replicate n 0:=by
      rw[List.eq_replicate_iff];refine ⟨by simp,λ x hx => ?_⟩;obtain ⟨a,ha,rfl⟩:=List.mem_map.1 hx;rw[if_neg];have:=(List.mem_range'_1.1 ha).1
      omega
     rw[hz,YE,if_pos (by simp)];simp [Rat.add_zero]
    | succ i =>
     have:=ih (k+1) i b (by simpa using hb)
     rw[show k+1+i=k+(i+1) by omega]at this;rw[this,if_neg (by omega),List.getD_cons_succ];grind
 refine List.ext_getElem? λ r => ?_
 simp only[YY,dC,List.getElem?_map];by_cases h:r<n
 ·rw[List.getElem?_range h]
  have:=unit 0 n r b hb
  rw[Nat.zero_add]at this;simp only[Option.map_some,FZ,List.range_eq_range']at this ⊢;rw[this,List.getD_eq_getElem?_getD,zE (by omega)];rfl
 ·rw[List.getElem?_eq_none (by simp;omega),List.getElem?_eq_none (by omega)]
  rfl
def wQ (S:HM):Nat->List Rat
 | 0=>S.b
 | j+1=>YY S.a (wQ S j)
def conv (A h:Nat->Rat) (K:Nat):Nat->Rat
 | 0=>0
 | a+1=>conv A h K a+A a*h (K-a)
def EQ (m:List (List Rat)) (X:List Rat):Prop := ∀ r∈m,A3 r X=0
def comb (p f l:Rat) (r t:List Rat):List Rat:=List.zipWith (λ x y=>(x*p-y*f)/l) r t
theorem kV {p f l:Rat} {r t:List Rat} (h:r.length=t.length):(comb p f l r t).length=r.length:=by simp [comb,h]
theorem kU (p f l:Rat) : ∀ (r t X:List Rat),r.length=t.length->A3 (comb p f l r t) X=(p*A3 r X-f*A3 t X)/l
 | [],[],X,_=>by
  show A3 [] X=_;simp only[A3,Rat.div_def];grind
 | x::r,y::t,[],_=>by
  simp only[comb,List.zipWith_cons_cons,A3,Rat.div_def];grind
 | x::r,y::t,z::X,h=>by
  have ih:=kU p f l r t X (by simpa using h);simp only[comb]at ih;simp only[comb,List.zipWith_cons_cons,A3,ih,Rat.div_def];grind
theorem Ug {p f l:Rat} {r t:List Rat} {j:Nat} {x y:Rat} (hx:r[j]? = some x) (hy:t[j]? = some y):(comb p f l r t)[j]? = some ((x*p-y*f)/l):=by
 simp [comb,List.getElem?_zipWith,hx,hy]
theorem OT {m:List (List Rat)} {i:Nat} {x r:List Rat} (h:r∈m.set i x):r=x \/ ∃ j,j≠i/\m[j]? = some r:=by
 obtain ⟨j,hj⟩:=List.getElem?_of_mem h;rw[List.getElem?_set]at hj;by_cases e:i=j
 ·subst e
  rw[if_pos rfl]at hj;split at hj
  ·exact Or.inl (Option.some.inj hj).symm
  ·cases hj
 ·rw[if_neg e]at hj
  exact Or.inr ⟨j,Ne.symm e,hj⟩
theorem AeL {m:List (List Rat)} {i k:Nat} {r t:List Rat} {p f l:Rat} (hi:m[i]? = some r) (hk:m[k]? = some t) (mg:k≠i) (hl:r.length=t.length) (hp:p≠0) (h0:l≠0) (X:List Rat):EQ (m.set i (comb p f l r t)) X↔EQ m X:=by
 have hc:=kU p f l r t X hl;have u7:=(zS hi).1;constructor
 ·intro h r' iz
  have ht:A3 t X=0:=h t (by
   refine zM (i:=k) ?_;rw[List.getElem?_set,if_neg (Ne.symm mg)];exact hk)
  have hn:A3 (comb p f l r t) X=0:=h _ (zM (i:=i) (by rw[List.getElem?_set,if_pos rfl,if_pos u7]));rw[hc,ht]at hn;have o5:A3 r X=0:=by
   have e1:=Rat.div_mul_cancel h0 (a:=p*A3 r X-f*0);rw[hn]at e1;have e2:p*A3 r X=0:=by grind
   rcases Rat.mul_eq_zero.1 e2 with h|h
   ·exact absurd h hp
   ·exact h
  obtain ⟨j,hj⟩:=List.getElem?_of_mem iz;by_cases e:j=i
  ·subst e
   obtain rfl:=Option.some.inj (hi.symm.trans hj);exact o5
  ·exact h r' (zM (i:=j) (by rw[List.getElem?_set,if_neg (Ne.symm e)];exact hj))
 ·intro h r' iz
  rcases OT iz with rfl|⟨j,_,hj⟩
  ·rw[hc,h r (zM hi),h t (zM hk),Rat.div_def];grind
  ·exact h r' (zM hj)
theorem AeK {m:List (List Rat)} {i k:Nat} {a b:List Rat} (hi:m[i]? = some a) (hk:m[k]? = some b) (X:List Rat):EQ ((m.set i b).set k a) X↔EQ m X:=by
 have u7:=(zS hi).1;have nj:=(zS hk).1;constructor
 ·intro h r hr
  obtain ⟨j,hj⟩:=List.getElem?_of_mem hr;by_cases e1:j=k
  ·subst e1
   obtain rfl:=Option.some.inj (hk.symm.trans hj);by_cases e2:i=j
   ·subst e2
    obtain rfl:=Option.some.inj (hi.symm.trans hk);exact h _ (zM (i:=i) (by rw[List.getElem?_set,if_pos rfl,List.length_set,if_pos u7]))
   ·exact h _ (zM (i:=i) (by rw[List.getElem?_set,if_neg (Ne.symm e2),List.getElem?_set,if_pos rfl,if_pos u7]))
  ·by_cases e2:j=i
   ·subst e2
    obtain rfl:=Option.some.inj (hi.symm.trans hj);exact h _ (zM (i:=k) (by rw[List.getElem?_set,if_pos rfl,List.length_set,if_pos nj]))
   ·exact h _ (zM (i:=j) (by rw[List.getElem?_set,if_neg (Ne.symm e1),List.getElem?_set,if_neg (Ne.symm e2)];exact hj))
 ·intro h r hr
  rcases OT hr with rfl|⟨j,_,hj⟩
  ·exact h _ (zM hi)
  ·rcases OT (zM hj) with rfl|⟨q,_,hq⟩
   ·exact h _ (zM hk)
   ·exact h _ (zM hq)
structure EC (m:List (List Rat)) (W c:Nat) (P:List Nat):Prop where
 lr : ∀ r∈m,r.length=W
 pl:P.length<=m.length
 inc : ∀ i j p q:Nat,i<j->P[i]? = some p->P[j]? = some q->p<q
 pb : ∀ p∈P,p<c
 nz : ∀ (i p:Nat) (r:List Rat),P[i]? = some p->m[i]? = some r->r.getD p 0≠0 /\ ∀ j,j<p->r.getD j 0=0
 zr : ∀ (i:Nat) (r:List Rat),P.length<=i->m[i]? = some r -> ∀ j,j<c->r.getD j 0=0
theorem EC.start {m:List (List Rat)} {W:Nat} (h : ∀ r∈m,r.length=W):EC m W 0 [] :=
 ⟨h,Nat.zero_le _,λ i j p q _ h=>by simp at h,(λ p h=>by cases h),(λ i p r h=>by simp at h),λ i r _ _ j hj=>absurd hj (by omega)⟩
theorem EC.skip {m:List (List Rat)} {W c:Nat} {P:List Nat} (h:EC m W c P) (hz : ∀ i r,P.length<=i->m[i]? = some r->r.getD c 0=0):EC m W (c+1) P :=
 ⟨h.lr,h.pl,h.inc,λ p hp=>Nat.lt_succ_of_lt (h.pb p hp),h.nz,λ i r hi hr j hj=>by
  by_cases e:j=c
  ·subst e;exact hz i r hi hr
  ·exact h.zr i r hi hr j (by omega)⟩
theorem EC.swap {m:List (List Rat)} {W c i k:Nat} {P:List Nat} {a b:List Rat} (h:EC m W c P) (hi:m[i]? = some a) (hk:m[k]? = some b) (h1:P.length<=i) (h2:P.length<=k):EC ((m.set i b).set k a) W c P:=by
 have hg : ∀ q,q<P.length->((m.set i b).set k a)[q]? = m[q]? := λ q hq=>by
  rw[List.getElem?_set,if_neg (by omega),List.getElem?_set,if_neg (by omega)]
 have hm : ∀ q r,P.length<=q->((m.set i b).set k a)[q]? = some r -> ∃ q',P.length<=q'/\m[q']? = some r:=λ q r hq hr=>by
  rw[List.getElem?_set]at hr;split at hr
  ·split at hr
   ·obtain rfl:=Option.some.inj hr;exact ⟨i,h1,hi⟩
   ·cases hr
  ·rw[List.getElem?_set]at hr
   split at hr
   ·split at hr
    ·obtain rfl:=Option.some.inj hr;exact ⟨k,h2,hk⟩
    ·cases hr
   ·exact ⟨q,hq,hr⟩
 refine ⟨λ r hr => ?_,by simpa using h.pl,h.inc,h.pb,λ q p r hp hr => ?_,λ q r hq hr j hj => ?_⟩
 ·rcases OT hr with rfl|⟨j,_,hj⟩
  ·exact h.lr _ (zM hi)
  ·rcases OT (zM hj) with rfl|⟨q,_,hq⟩
   ·exact h.lr _ (zM hk)
   ·exact h.lr _ (zM hq)
 ·rw[hg q (zS hp).1]at hr
  exact h.nz q p r hp hr
 ·obtain ⟨q',h3,h4⟩:=hm q r hq hr
  exact h.zr q' r h3 h4 j hj
theorem EC.Gp {m:List (List Rat)} {W c:Nat} {P:List Nat} {t:List Rat} (h:EC m W c P) (ht:m[P.length]? = some t) (hn:t.getD c 0≠0) (hz : ∀ i r,P.length<i->m[i]? = some r->r.getD c 0=0):EC m W (c+1) (P++[c]):=by
 have ry:=(zS ht).1;refine ⟨h.lr,by simp;omega,λ i j p q eg hp hq => ?_,λ p hp => ?_,λ i p r hp hr => ?_,λ i r hi hr j hj => ?_⟩
 ·have aj:=(zS hq).1
  rw[List.length_append,List.length_singleton]at aj;rw[List.getElem?_append_left (by omega)]at hp;by_cases e:j<P.length
  ·rw[List.getElem?_append_left e]at hq
   exact h.inc i j p q eg hp hq
  ·rw[List.getElem?_append_right (by omega),show j-P.length=0 by omega]at hq
   obtain rfl:=Option.some.inj hq;exact h.pb p (zM hp)
 ·rcases List.mem_append.1 hp with hp|hp
  ·exact Nat.lt_succ_of_lt (h.pb p hp)
  ·obtain rfl:=List.mem_singleton.1 hp;omega
 ·by_cases e:i<P.length
  ·rw[List.getElem?_append_left e]at hp
   exact h.nz i p r hp hr
  ·have u7:=(zS hp).1
   rw[List.length_append,List.length_singleton]at u7;rw[List.getElem?_append_right (by omega),show i-P.length=0 by omega]at hp;obtain rfl:=Option.some.inj hp;obtain rfl:i=P.length:=by omega
   obtain rfl:=Option.some.inj (ht.symm.trans hr);exact ⟨hn,λ j hj=>h.zr P.length _ (Nat.le_refl _) ht j hj⟩
 ·rw[List.length_append,List.length_singleton]at hi
  by_cases e:j=c
  ·subst e;exact hz i r (by omega) hr
  ·exact h.zr i r (by omega) hr j (by omega)
theorem EC.diag {m:List (List Rat)} {W c:Nat} {P:List Nat} (h:EC m W c P) (hP:P.length=c) : ∀ i p:Nat,P[i]? = some p->p=i:=by
 have up : ∀ d i p:Nat,P[i]? = some p->i+d<c->p+d<c:=by
  intro d;induction d with
  | zero=>intro i p hp _;exact h.pb p (zM hp)
  | succ d ih =>
   intro i p hp hi;obtain ⟨q,hq⟩ : ∃ q,P[i+1]? = some q:=⟨_,zE (by omega)⟩;have h1:=h.inc i (i+1) p q (by omega) hp hq;have h2:=ih (i+1) q hq (by omega);omega
 have dn : ∀ i p:Nat,P[i]? = some p->i<=p:=by
  intro i;induction i with
  | zero=>intro p _;omega
  | succ i ih =>
   intro p hp;have u7:=(zS hp).1;obtain ⟨q,hq⟩ : ∃ q,P[i]? = some q:=⟨_,zE (by omega)⟩;have h1:=h.inc i (i+1) q p (by omega) hq hp;have h2:=ih q hq;omega
 intro i p hp;have u7:=(zS hp).1;have h1:=dn i p hp;have h2:=up (c-1-i) i p hp (by omega);omega
end Go.c5
