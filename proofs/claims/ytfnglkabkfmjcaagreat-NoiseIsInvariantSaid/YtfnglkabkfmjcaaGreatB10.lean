/-
  Natural numbers (layer 1): greatest common divisors.
-/
import Derived.Test.YtfnglkabkfmjcaaGreatB9
import Derived.Test.YtfnglkabkfmjcaaGreatB8
import Derived.Test.YtfnglkabkfmjcaaGreatB7
import Derived.Test.YtfnglkabkfmjcaaGreatB3
import Derived.Test.YtfnglkabkfmjcaaGreatB4
import Derived.Test.YtfnglkabkfmjcaaGreatB1
import Derived.Test.YtfnglkabkfmjcaaGreatB5
import Derived.ProofKit
import Derived.OpenShut
import Derived.ChangeOld
import Derived.WalkKit
import Derived.WideShapes
import Derived.ChangeArms
set_option linter.unusedSimpArgs false
set_option linter.unusedVariables false
set_option linter.unnecessarySimpa false
namespace Go.e9
open F
attribute [local irreducible] AA AF AM AC CK AR AW BD A7 BW AQ BT CD DB BP A4 BO CE AB A8 AJ pw B4 BK CF CI CN CX CJ BS CM
set_option maxHeartbeats 4000000
variable {L:Lib}
theorem Xh {k':IntKind} {a:Int} {K:AV->Prop} (hk:K (.int .i64 (a/4294967296))):AC .shr .i64 a k' 32 K:=by
 refine Ahv (by omega) ?_;have:pw 32=4294967296:=by decide +kernel
 rw[this];exact hk
theorem Wt {t:Int} {K:Int->Prop} (hk:K (mC t:Int)):AR .u32 t K:=by
 unfold AR;rw[IntKind.wrap_u32,<-vJ];exact hk
section
variable {k':IntKind} {a b:Nat} {K:AV->Prop}
theorem Ahu {i:Nat} (hi:i<2) (ha:a<4294967296) (hk:K (.int .u64 ((a*4294967296^i:Nat):Int))):AC .shl .u64 (a:Int) k' (32*(i:Int)) K:=by
 rcases i with _|_|i
 ·exact cN (s:=0) (by omega) (by omega) hk
 ·exact cN (s:=32) (by omega) (by omega) hk
 ·omega
end
theorem Ad7 {x y M N:Int} (hx : -M<=x/\x<=M) (hy : -N<=y/\y<=N) : -(M*N)<=x*y/\x*y<=M*N:=by
 have h1:x.natAbs<=M.natAbs:=by omega
 have h2:y.natAbs<=N.natAbs:=by omega
 have h3:=Nat.mul_le_mul h1 h2;rw[<-Int.natAbs_mul,<-Int.natAbs_mul]at h3;have h4:0<=M*N:=Int.mul_nonneg (by omega) (by omega);omega
theorem wV (N:l9 L) (a b:List Nat) (q1 q2:Bool) (hA:A3 a) (hB:A3 b) (la:a.length<=549755813888) (lb:b.length<=549755813888) (h0:val b≠0) :
  Ev L 75 [.sl q1 (a.map AL),.sl q2 (b.map AL)] (.m9 [.sl false ((dg (val a/val b)).map AL),.sl false ((dg (val a%val b)).map AL),.int .i64 0]):=by
 have l1:=E2 hA;have l2:=E2 hB;have hp:=mI h0;refine Ev.x N.YL rfl rfl ?_;(repeat' ((first|(apply AG<;>intro hc<;>try (exfalso;omega))|apply AU|apply AE|refine TS (XB N a _ hA (by omega)) ?_|refine TS (XB N b _ hB (by omega)) ?_|refine AD (wX N _ _ _ _ h0 (by omega) (by omega)) ?_)<;>conv=>whnf))
 refine AY rfl ?_;simp only[A6,CW,and_true,true_and];exact ⟨CS _,CS _⟩
theorem Xy (N:l9 L) (V:Nat) (q:Bool) (hl:(dg V).length<=2):Ev L 76 [.sl q ((dg V).map AL)] (.int .u64 (V:Int)):=by
 have hV:=bS.1 hl;have hD:=EA V;have hv:=B5 V;refine Ev.x N.YV rfl rfl ?_;generalize dg V=l at *;(repeat' ((first|apply AU|apply AE)<;>conv=>whnf))
 refine G8 (λ i _=>l.length-i) (λ(i:Nat) (a:Nat)=>i<=l.length/\a=val (l.take i)) (λ i a=>[(3,.int .u64 (a:Int)),(8,.int .i64 i)]) (λ_ _=>[]) [] [] 0 0 (by (conv=>whnf);exact ⟨rfl,rfl,rfl⟩) ⟨by omega,rfl⟩ ?_;intro i a ⟨p1,p2⟩ ih;by_cases hi:i<l.length
 ·obtain ⟨d,hd⟩ : ∃ d,l[i]? = some d:=⟨_,zE hi⟩
  have gl:=hD.at hd;have h1:=EC hd;have h2:=FA (hD.take i);have h3:=FA (hD.take (i+1));rw[List.length_take,Nat.min_eq_left (by omega)]at h2 h3;have h4:4294967296^(i+1)<=4294967296^2:=Nat.pow_le_pow_right (by omega) (by omega);(repeat' ((first|(apply AG<;>intro hc<;>try (exfalso;omega))|(apply E0;omega)|(apply CP;omega)|(refine BH (by assumption) ?_ rfl ?_;omega)|apply AE)<;>conv=>whnf))
  refine Ahu (by omega) gl ?_;(conv=>whnf)
  rw[Nat.mul_comm d];refine pF (32*i) (by rw[Nat.pow_mul];exact Nat.mul_mod_right _ _) (by rw[Nat.pow_mul,p2];exact h2) (by omega) ?_;(conv=>whnf)
  (repeat' ((first|(apply AX;omega)|fail)<;>conv=>whnf))
  exact B3 [] (by (conv=>whnf);exact ⟨rfl,rfl,rfl⟩) (ih (i+1) _ (by omega) ⟨by omega,by rw[h1,p2]⟩)
 ·obtain rfl:i=l.length:=by omega
  clear ih;(repeat' ((first|(apply AG<;>intro hc<;>try (exfalso;omega))|apply AE)<;>conv=>whnf))
  rw[DG (Nat.le_refl _)]at p2;exact DC (by omega)
theorem uB {f:Nat} {vs:List AV} {tm:Tm} {M:Mem} {K:AV->Mem->Prop} {v:AV} (h:A8 L f vs tm M (λ r M'=>r=v/\M'=M)) (hk:K v M):A8 L f vs tm M K:=by
 unfold A8 at h ⊢;intro σ own hs;obtain ⟨r,w8,σ',M',h1,h2,h3,rfl,rfl⟩:=h σ own hs;exact ⟨_,w8,σ',_,h1,h2,h3,hk⟩
theorem Xx (N:l9 L) (a:List Nat) (q:Bool) (n s:Nat) (hD:A3 a) (hn:3<=n) (hl:a.length<=n) (Ls:n<=549755813888) (hs:s<=31) (v9:val a*2^s<4294967296^n) :
  Ev L 78 [.sl q (a.map AL),.int .i64 (n:Int),.int .u64 (s:Int)] (.int .i64 ((val a/kA n s:Nat):Int)):=by
 have b1:=eI hD (n-1);have b2:=eI hD (n-2);have b3:=eI hD (n-3);have yq:=Aef hD hn hl rfl rfl v9;have heq:=Aee (s:=s) hD hn hl hs rfl rfl rfl;obtain ⟨f1,f2,f3,f4⟩:=iN (s:=s) b3 (by omega);refine Ev.x N.YS rfl rfl ?_;(repeat' ((first|(apply A0;omega)|(apply CB;omega)|apply AE)<;>conv=>whnf))
 refine uB (v := .int .u64 ((a.getD (n-1) 0:Nat):Int)) ?_ ?_
 ·refine FY 1000 N.J6 rfl rfl ?_
  (repeat' ((first|(apply AG<;>intro hc<;>try (exfalso;omega))|(apply CP;omega)|apply AU|(refine dV (by assumption) ?_ (λ e he hb => ?_);omega)|apply AE)<;>conv=>whnf))
  ·refine ⟨rfl,_,rfl,?_,rfl⟩
   rw[show ((n:Int)-1).toNat=n-1 by omega]at he;rw[G2 he];rfl
  ·refine ⟨rfl,_,rfl,?_,rfl⟩
   rw[<-getD_none (show a.length<=n-1 by omega)];rfl
 (conv=>whnf)
 (repeat' ((first|(apply A0;omega)|(apply CB;omega)|(apply bJ;omega))<;>conv=>whnf))
 refine uB (v := .int .u64 ((a.getD (n-2) 0:Nat):Int)) ?_ ?_
 ·refine FY 1000 N.J6 rfl rfl ?_
  (repeat' ((first|(apply AG<;>intro hc<;>try (exfalso;omega))|(apply CP;omega)|apply AU|(refine dV (by assumption) ?_ (λ e he hb => ?_);omega)|apply AE)<;>conv=>whnf))
  ·refine ⟨rfl,_,rfl,?_,rfl⟩
   rw[show ((n:Int)-2).toNat=n-2 by omega]at he;rw[G2 he];rfl
  ·refine ⟨rfl,_,rfl,?_,rfl⟩
   rw[<-getD_none (show a.length<=n-2 by omega)];rfl
 (conv=>whnf)
 generalize a.getD (n-1) 0=d1 at *;generalize a.getD (n-2) 0=d2 at *;(repeat' ((first|(apply cL;omega)|fail)<;>conv=>whnf))
 refine cN (by omega) yq ?_;(conv=>whnf)
 generalize hT:(d1*4294967296+d2)*2^s=T at *;(repeat' ((first|(apply A0;omega)|(apply CB;omega))<;>conv=>whnf))
 refine uB (v := .int .u64 ((a.getD (n-3) 0:Nat):Int)) ?_ ?_
 ·refine FY 1000 N.J6 rfl rfl ?_
  (repeat' ((first|(apply AG<;>intro hc<;>try (exfalso;omega))|(apply CP;omega)|apply AU|(refine dV (by assumption) ?_ (λ e he hb => ?_);omega)|apply AE)<;>conv=>whnf))
  ·refine ⟨rfl,_,rfl,?_,rfl⟩
   rw[show ((n:Int)-3).toNat=n-3 by omega]at he;rw[G2 he];rfl
  ·refine ⟨rfl,_,rfl,?_,rfl⟩
   rw[<-getD_none (show a.length<=n-3 by omega)];rfl
 (conv=>whnf)
 generalize a.getD (n-3) 0=d3 at *;skip
 refine cN (by omega) f4 ?_;(conv=>whnf)
 (repeat' (apply FN<;>conv=>whnf))
 rw[iM]at f2;refine Xf s (by rw[<-hT];exact Nat.mul_mod_left _ _) f2 (by have:=rP (k:=d1*4294967296+d2) (show s<=64 by omega) (by omega);omega) ?_;(conv=>whnf)
 (repeat' ((first|apply Ahr|(apply fU;omega))<;>conv=>whnf))
 rw[heq];exact DC rfl
theorem AlW (N:l9 L) (P Q:Int) (hP:0<=P/\P<=4611686018427387904) (hQ:0<=Q/\Q<=4611686018427387904) : ∃ r,Ev L 79 [.int .i64 P,.int .i64 Q] r /\ ∃ a b c d:Int,(uD a b c d/\(-2147483647<=a/\a<=2147483647)/\(-2147483647<=b/\b<=2147483647)/\(-2147483647<=c/\c<=2147483647)/\(-2147483647<=d/\d<=2147483647))/\(b≠0->lK P Q a b c d)/\r = .m9 [.int .i64 a,.int .i64 b,.int .i64 c,.int .i64 d]:=by
 refine Ev.xE N.YP rfl rfl ?_;(repeat' (apply AE<;>conv=>whnf))
 refine AgK (λ_ _ _ _ _ q=>(q+2147483648).toNat) (λ(a b c d p q:Int)=>fY P Q a b c d p q/\((-2147483647<=a/\a<=2147483647)/\(-2147483647<=b/\b<=2147483647)/\(-2147483647<=c/\c<=2147483647)/\(-2147483647<=d/\d<=2147483647))/\(p<=4611686018427387904/\q<=4611686018427387904)/\jC P Q a b c d/\(b≠0->lK P Q a b c d)) (λ a b c d p q=>[(0,.int .i64 p),(1,.int .i64 q),(4,.int .i64 a),(5,.int .i64 b),(6,.int .i64 c),(7,.int .i64 d)]) (λ_ _ _ _ _ _=>[]) [] [] 1 0 0 1 P Q (by (conv=>whnf);exact ⟨rfl,rfl,rfl⟩) ⟨fY.start hP.1 hQ.1,by omega,by omega,jC.start P Q,λ h=>absurd rfl h⟩ ?_;intro a b c d p q ⟨p1,⟨⟨p2,p2'⟩,⟨p3,p3'⟩,⟨p4,p4'⟩,⟨p5,p5'⟩⟩,⟨p6,p7⟩,p8,p9⟩ ih;have g1:=p1.pa;have g2:=p1.pb;have g3:=p1.qc;have g4:=p1.qd;by_cases gx:q+c=0
 ·(repeat' ((first|(apply AG<;>intro hc<;>try (exfalso;omega))|(apply AX;omega)|apply AE)<;>conv=>whnf))
  refine ⟨.m9 [.int .i64 a,.int .i64 b,.int .i64 c,.int .i64 d],?_,a,b,c,d,⟨p1.sg,by omega⟩,p9,rfl⟩;(conv=>whnf)
  exact AY rfl (by simp [A6,CW])
 by_cases Bl:q+d=0
 ·(repeat' ((first|(apply AG<;>intro hc<;>try (exfalso;omega))|(apply AX;omega)|apply AE)<;>conv=>whnf))
  refine ⟨.m9 [.int .i64 a,.int .i64 b,.int .i64 c,.int .i64 d],?_,a,b,c,d,⟨p1.sg,by omega⟩,p9,rfl⟩;(conv=>whnf)
  exact AY rfl (by simp [A6,CW])
 by_cases ub:(p+a)/(q+c)=(p+b)/(q+d)
 ·obtain ⟨s1,s2,s3,s4⟩:=p1.step gx Bl rfl ub
  have s5:=s4 p8;have s6:=s5.half;have s7:=s1.qc;by_cases ik:2147483647<(p+a)/(q+c)
  ·(repeat' ((first|(apply AG<;>intro hc<;>try (exfalso;omega))|(apply AX;omega)|(refine dU ?_ ?_ (λ_ => ?_) (λ_ _ => ?_);omega;omega;all_goals try (exfalso;omega))|apply AE)<;>conv=>whnf))
   refine ⟨.m9 [.int .i64 a,.int .i64 b,.int .i64 c,.int .i64 d],?_,a,b,c,d,⟨p1.sg,by omega⟩,p9,rfl⟩;(conv=>whnf)
   exact AY rfl (by simp [A6,CW])
  ·have t1:=Ad7 (x:=(p+a)/(q+c)) (y:=c) (M:=2147483647) (N:=2147483647) (by omega) (by omega)
   have t2:=Ad7 (x:=(p+a)/(q+c)) (y:=d) (M:=2147483647) (N:=2147483647) (by omega) (by omega);(repeat' ((first|(apply AG<;>intro hc<;>try (exfalso;omega))|(apply AX;omega)|(apply CB;omega)|(apply E0;omega)|(refine dU ?_ ?_ (λ_ => ?_) (λ_ _ => ?_);omega;omega;all_goals try (exfalso;omega))|(apply CK.neg;omega)|apply AE)<;>conv=>whnf))
   all_goals first
    | exact B3 [] (by (conv=>whnf);exact ⟨rfl,rfl,rfl⟩) (ih _ _ _ _ _ _ (by omega) ⟨s1,by omega,by omega,s6,λ_=>s5⟩)
    |(refine ⟨.m9 [.int .i64 a,.int .i64 b,.int .i64 c,.int .i64 d],?_,a,b,c,d,⟨p1.sg,by omega⟩,p9,rfl⟩
      (conv=>whnf)
      exact AY rfl (by simp [A6,CW]))
 ·(repeat' ((first|(apply AG<;>intro hc<;>try (exfalso;omega))|(apply AX;omega)|(refine dU ?_ ?_ (λ_ => ?_) (λ_ _ => ?_);omega;omega;all_goals try (exfalso;omega))|apply AE)<;>conv=>whnf))
  refine ⟨.m9 [.int .i64 a,.int .i64 b,.int .i64 c,.int .i64 d],?_,a,b,c,d,⟨p1.sg,by omega⟩,p9,rfl⟩;(conv=>whnf)
  exact AY rfl (by simp [A6,CW])
theorem AlX (N:l9 L) (x y:List Nat) (q1 q2:Bool) (f g:Int) (hX:A3 x) (hY:A3 y) (hl:y.length<=x.length) (lx:x.length<=549755813888) (hs:dQ f g) (R:Nat) (hR:(R:Int)=f*val x+g*val y) (hR2:R<=val x) :
  Ev L 80 [.sl q1 (x.map AL),.sl q2 (y.map AL),.int .i64 f,.int .i64 g] (.sl false ((dg R).map AL)):=by
 refine Ev.x N.YQ rfl rfl ?_;(repeat' ((first|apply AU|apply AE)<;>conv=>whnf))
 refine EK (enc:=AL) 0 x.length rfl rfl (by omega) ?_;(conv=>whnf)
 (repeat' (apply AU<;>conv=>whnf))
 refine GT (λ i _ _=>x.length-i) (λ(i:Nat) (o:List Nat) (c:Int)=>i<=x.length/\o.length=x.length/\A3 o /\ -2147483648<=c/\c<=2147483648/\(val (o.take i):Int)+((4294967296^i:Nat):Int)*c=f*val (x.take i)+g*val (y.take i)) (λ i o c=>[(10,.int .i64 c),(19,.int .i64 i)]) (λ i o c=>[(16,16,.rw 1 (o.map AL))]) [] [] 0 (List.replicate x.length 0) 0 (by (conv=>whnf);exact ⟨rfl,rfl,rfl⟩) ⟨by omega,by simp,ON _,by omega,by omega,by simp [val]⟩ ?_;intro i o c ⟨p1,p2,p3,p4,p5,p6⟩ ih;by_cases hi:i<x.length
 ·obtain ⟨d,hd⟩ : ∃ d,x[i]? = some d:=⟨_,zE hi⟩
  have gl:=hX.at hd;have h1:=EC hd;by_cases hy:i<y.length
  ·obtain ⟨e,he⟩ : ∃ e,y[i]? = some e:=⟨_,zE hy⟩
   have Rg:=hY.at he;have h2:=EC he;obtain ⟨r1,r2,r3⟩:=hs.rng gl Rg;have o9:=Vg (d:=d) (e:=e) p6 rfl;(repeat' ((first|(apply AG<;>intro hc<;>try (exfalso;omega))|(apply AX;omega)|(apply E0;omega)|(apply fU;omega)|apply AU|(refine BH (by assumption) ?_ rfl ?_;omega)|apply AE)<;>conv=>whnf))
   generalize Lz:f * ↑d+c+g * ↑e=t at *;refine Wt ?_;(conv=>whnf)
   (repeat' ((first|(apply A0;omega)|fail)<;>conv=>whnf))
   refine FH (by omega) ?_;(conv=>whnf)
   refine Xh ?_;(conv=>whnf)
   (repeat' ((first|(apply AX;omega)|fail)<;>conv=>whnf))
   refine B3 [] (by (conv=>whnf);exact ⟨rfl,rfl,rfl⟩) (ih (i+1) _ _ (by omega) ⟨by omega,by simpa using p2,p3.set _ (Vf t),by omega,by omega,?_⟩);rw[GF (by omega),h1,h2,Nat.pow_succ];simp only[Int.natCast_add,Int.natCast_mul,vJ];exact o9
  ·have h2:=tV (y:=y) (i:=i) (by omega)
   obtain ⟨r1,r2,r3⟩:=hs.rng (e:=0) gl (by omega);have o9:=Vg (d:=d) (e:=0) p6 rfl;rw[Int.mul_zero,Int.add_zero]at o9;have r4 : -9223372030412324865<=f*(d:Int)/\f*(d:Int)<=9223372030412324865:=r1;(repeat' ((first|(apply AG<;>intro hc<;>try (exfalso;omega))|(apply AX;omega)|(apply E0;omega)|(apply fU;omega)|apply AU|(refine BH (by assumption) ?_ rfl ?_;omega)|apply AE)<;>conv=>whnf))
   generalize Lz:f * ↑d+c=t at *;refine Wt ?_;(conv=>whnf)
   (repeat' ((first|(apply A0;omega)|fail)<;>conv=>whnf))
   refine FH (by omega) ?_;(conv=>whnf)
   refine Xh ?_;(conv=>whnf)
   (repeat' ((first|(apply AX;omega)|fail)<;>conv=>whnf))
   refine B3 [] (by (conv=>whnf);exact ⟨rfl,rfl,rfl⟩) (ih (i+1) _ _ (by omega) ⟨by omega,by simpa using p2,p3.set _ (Vf t),by omega,by omega,?_⟩);rw[GF (by omega),h1,h2,Nat.pow_succ];simp only[Int.natCast_add,Int.natCast_mul,vJ];rw[Int.mul_zero,Int.add_zero]at o9;exact o9
 ·obtain rfl:i=x.length:=by omega
  clear ih;rw[DG (by omega),DG (Nat.le_refl _),DG (by omega)]at p6;have hov:=FA p3;have hxv:=FA hX;rw[p2]at hov;have hVR:val o=R:=by
   have:=Ai8 hov p6 (by omega) (by omega)
   omega
  have oo:=E2 p3;rw[<-p2,<-hVR];(repeat' ((first|(apply AG<;>intro hc<;>try (exfalso;omega))|apply AE|refine oS N (by assumption) (by omega) rfl (by first|rfl|omega|assumption) ?_)<;>conv=>whnf))
  refine IZ (enc:=AL) (λ_=>rfl) (by omega) ?_;(conv=>whnf)
  refine AY ?_ (by simp only[A6,true_and];exact CS _);rw[List.drop_zero,oI p3]
theorem Al0 (N:l9 L) (X Y:Nat) (yl:Y<=X) (hy:3<=(dg Y).length) (lx:(dg X).length<=549755813888) : ∃ r,Ev L 81 [.sl false ((dg X).map AL),.sl false ((dg Y).map AL)] r /\ ∃ A B:Nat,(B<Y/\B<=A/\A<=X/\Nat.gcd A B=Nat.gcd X Y)/\r = .m9 [.sl false ((dg A).map AL),.sl false ((dg B).map AL)]:=by
 have hY0:Y≠0:=λ h=>by rw[h,E8]at hy;simp at hy
 have Bf:X≠0:=by omega
 have hlen:=eC yl;have hdv:=λ q q'=>wX N X Y q q' hY0 lx (by omega)
 have d1:=EA X;have d2:=EA Y;have v1:=B5 X;have v2:=B5 Y;obtain ⟨xt,Uc,Ud⟩:=vW Bf;have Kg:=d1.at Uc;obtain ⟨b1,b2,b3,b4⟩:=zA Ud Kg;have Iz:=Yv N xt Kg;generalize hs:32-aw xt=s at *;have ix:s<=31:=by omega
 obtain ⟨n1,n2⟩:=yV d1 Uc (by omega) ix b3 b4;have og:=λ(f g:Int) (R:Nat) (hs:dQ f g) (h1:(R:Int)=f*val (dg X)+g*val (dg Y)) (h2:R<=val (dg X)) (q q':Bool)=>AlX N (dg X) (dg Y) q q' f g d1 d2 (by omega) lx hs R h1 h2
 have n3:val (dg Y)*2^s<4294967296^(dg X).length:=Nat.lt_of_le_of_lt (Nat.mul_le_mul_right _ (by omega)) n1;have oo:=λ q=>Xx N (dg X) q (dg X).length s d1 (by omega) (by omega) lx ix n1
 have ma:=λ q=>Xx N (dg Y) q (dg X).length s d2 (by omega) (by omega) lx ix n3
 have hK:=An9 (dg X).length s;obtain ⟨e1,x1,x2,x3⟩:=Aeh (V:=X) hK;obtain ⟨e2,y1,y2,y3⟩:=Aeh (V:=Y) hK;rw[v1]at oo;rw[v2]at ma;have Bv:=Aeg d1 (n:=(dg X).length) (by omega) (by omega) ix n1;have Ap:=Aeg d2 (n:=(dg X).length) (by omega) (by omega) ix n3;rw[v1]at Bv;rw[v2]at Ap;generalize kA (dg X).length s=K at *;generalize X/K=P at *;generalize Y/K=Q at *;rw[v1,v2]at og;obtain ⟨rc,Aq,a,b,c,d,⟨z1,z2,z3,z4,z5⟩,z6,rfl⟩:=AlW N (P:Int) (Q:Int) (by omega) (by omega);have e1:(((dg X).length:Int)-1).toNat=(dg X).length-1:=by omega
 rw[<-e1]at Uc;refine Ev.xE N.YU rfl rfl ?_;by_cases hb:b=0
 ·(repeat' ((first|(apply AG<;>intro hc<;>try (exfalso;omega))|(apply CB;omega)|(apply CP;omega)|apply AU|(refine BH (by assumption) ?_ rfl ?_;omega)|apply AE|refine AD (Iz) ?_|refine AD (oo _) ?_|refine AD (ma _) ?_|refine AD (Aq) ?_|refine AD (hdv _ _) ?_)<;>conv=>whnf))
  refine ⟨_,?_,Y,X%Y,⟨Nat.mod_lt _ (by omega),Nat.le_of_lt (Nat.mod_lt _ (by omega)),yl,mZ X Y⟩,rfl⟩;(conv=>whnf)
  exact AY rfl (mB _ _)
 ·obtain ⟨g1,g2,g3,g4⟩:=z6 hb (X:Int) (Y:Int) (K:Int) _ _ (by omega) x1 y1 x2 x3 y2 y3
  obtain ⟨A,hA⟩:=Int.eq_ofNat_of_zero_le (show 0<=a*X+b*Y by omega);obtain ⟨B,hB⟩:=Int.eq_ofNat_of_zero_le g1;have s1:dQ a b:=by rcases z1 with ⟨h1,h2,h3,h4⟩|⟨h1,h2,h3,h4⟩<;>unfold dQ<;>omega
  have s2:dQ c d:=by rcases z1 with ⟨h1,h2,h3,h4⟩|⟨h1,h2,h3,h4⟩<;>unfold dQ<;>omega
  (repeat' ((first|(apply AG<;>intro hc<;>try (exfalso;omega))|(apply CB;omega)|(apply CP;omega)|apply AU|(refine BH (by assumption) ?_ rfl ?_;omega)|apply AE|refine AD (Iz) ?_|refine AD (oo _) ?_|refine AD (ma _) ?_|refine AD (Aq) ?_|refine AD (og a b A s1 hA.symm (by omega) _ _) ?_|refine AD (og c d B s2 hB.symm (by omega) _ _) ?_)<;>conv=>whnf))
  rw[hA,hB]at g4;rw[hA,hB]at g2;refine ⟨_,?_,A,B,⟨by omega,by omega,by omega,by simpa using g4⟩,rfl⟩;(conv=>whnf)
  exact AY rfl (mB _ _)
theorem Ady (N:l9 L) (X Y:Nat) (yl:Y<=X) (lx:(dg X).length<=549755813888) :
 AA L [It.lp G3.l1,It.m5 0,
   It.code
    ((((BJ.ops G3.r6 false).dr [23,30,31] []).seq
       (BJ.cond 32 (((BJ.ops G3.r7 false).dr [5,6,32,33] []).seq BJ.ret) BJ.skip)).seq
     (((BJ.ops G3.r8 false).dr [5,7,32,34,35,36,37,38,39] []).seq
      (((BJ.ops G3.r9 false).dr [6,8,40,41,42,43] []).seq
       ((BJ.block 2 G3.l2.loop).seq
        (((BJ.ops G3.ct false).dr [9,10,45,50,51,52,53,54,55,56] []).seq BJ.ret)))))]
  [(6,AV.sl false (List.map AL (dg Y))),(5,AV.sl false (List.map AL (dg X)))] []
  (dW G3 (AV.sl false (List.map AL (dg (X.gcd Y))))):=by
 refine G8 (λ_ y=>y) (λ(x y:Nat)=>y<=x/\(dg x).length<=549755813888/\Nat.gcd x y=Nat.gcd X Y) (λ x y=>[(6,AV.sl false (List.map AL (dg y))),(5,AV.sl false (List.map AL (dg x)))]) (λ_ _=>[]) [] [] X Y (by (conv=>whnf);exact ⟨rfl,rfl,rfl⟩) ⟨yl,lx,rfl⟩ ?_;intro x y ⟨p1,p2,p3⟩ ih;rw[<-p3]at ih ⊢;generalize Nat.gcd X Y=G at *;clear yl lx;subst p3;have hlen:=eC p1;by_cases h3:3<=(dg y).length
 ·obtain ⟨r,hr,A,B,⟨k1,k2,k3,k4⟩,rfl⟩:=Al0 N x y p1 h3 p2
  have k5:=eC k3;(repeat' ((first|(apply AG<;>intro hc<;>try (exfalso;omega))|apply AU|apply AE|refine AD (hr) ?_)<;>conv=>whnf))
  exact BL [] (ih A B k1 ⟨k2,by omega,k4⟩)
 ·clear ih
  by_cases h0:y=0
  ·subst h0
   have ns:(dg 0).length=0:=by rw[E8];rfl
   (repeat' ((first|(apply AG<;>intro hc<;>try (exfalso;omega))|apply AU|apply AE)<;>conv=>whnf))
   rw[Nat.gcd_zero_right];exact AY rfl (by simp only[A6,true_and];exact CS _)
  ·have hp:=mI h0
   have hm:=eC (Nat.le_of_lt (Nat.mod_lt x (show y>0 by omega)));have hd:=λ q q'=>wX N x y q q' h0 p2 (by omega)
   have Gw:=λ q=>Xy N y q (by omega)
   have vu:=λ q=>Xy N (x%y) q (by omega)
   have hb:y<18446744073709551616:=bS.1 (show (dg y).length<=2 by omega);have lf:x%y<y:=Nat.mod_lt _ (by omega);rw[<-mZ x y];(repeat' ((first|(apply AG<;>intro hc<;>try (exfalso;omega))|apply AU|apply AE|refine AD (hd _ _) ?_|refine AD (Gw _) ?_|refine AD (vu _) ?_)<;>conv=>whnf))
   refine G8 (λ_ q=>q) (λ(p q:Nat)=>p<18446744073709551616/\q<18446744073709551616/\Nat.gcd p q=Nat.gcd y (x%y)) (λ p q=>[(9,.int .u64 (p:Int)),(10,.int .u64 (q:Int))]) (λ_ _=>[]) [] [] y (x%y) (by (conv=>whnf);exact ⟨rfl,rfl,rfl⟩) ⟨hb,by omega,rfl⟩ ?_;intro p q ⟨g1,g2,g3⟩ ih;rw[<-g3]at ih ⊢;by_cases hq:q=0
   ·subst hq
    clear ih;obtain ⟨v1,v2⟩:=vS g1;rw[Nat.gcd_zero_right];have oo:=E2 v2;have ht:=oI v2;rw[v1]at oo ht;(repeat' ((first|(apply AG<;>intro hc<;>try (exfalso;omega))|apply FN|(apply EJ;omega)|apply F9|apply AE)<;>conv=>whnf))
    generalize p%4294967296=lo at *;generalize p/4294967296=hi at *;refine oS N v2 (by simp) rfl rfl ?_;rw[v1];(conv=>whnf)
    skip
    refine IZ (enc:=AL) (l:=[lo,hi]) (λ_=>rfl) (by omega) ?_;(conv=>whnf)
    refine AY ?_ (by simp only[A6,true_and];exact CS _);rw[List.drop_zero,ht]
   ·have hpq:p%q<q:=Nat.mod_lt _ (by omega)
    (repeat' ((first|(apply AG<;>intro hc<;>try (exfalso;omega))|(apply lL;omega)|apply AE)<;>conv=>whnf))
    exact BL [] (ih q (p%q) hpq ⟨g2,by omega,mZ p q⟩)
theorem AlV (N:l9 L) (a b:List Nat) (q1 q2:Bool) (hA:A3 a) (hB:A3 b) (la:a.length<=549755813888) (lb:b.length<=549755813888) :
  Ev L 82 [.sl q1 (a.map AL),.sl q2 (b.map AL)] (.sl false ((dg (Nat.gcd (val a) (val b))).map AL)):=by
 have t1:=λ q=>mM N a q hA (by omega)
 have t2:=λ q=>mM N b q hB (by omega)
 have l1:=E2 hA;have l2:=E2 hB;have u6:=λ q q'=>cX N (dg (val a)) (dg (val b)) q q' (EA _) (EA _) (by omega) (by omega)
 rw[B5,B5]at u6;generalize val a=X at *;generalize val b=Y at *;refine Ev.x N.G3 rfl rfl ?_;by_cases v9:X<Y
 ·have hn:DD X Y = -1:=(JZ (by omega)).symm
  rw[hn]at u6;(repeat' ((first|(apply AG<;>intro hc<;>try (exfalso;omega))|apply AE|refine AD (t1 _) ?_|refine AD (t2 _) ?_|refine AD (u6 _ _) ?_)<;>conv=>whnf))
  rw[Nat.gcd_comm];exact B3 [] (by (conv=>whnf);exact ⟨rfl,rfl,rfl⟩) (Ady N Y X (by omega) (by omega))
 ·have qt:0<=DD X Y:=by unfold DD;split<;>(try split)<;>omega
  generalize DD X Y=cm at *;(repeat' ((first|(apply AG<;>intro hc<;>try (exfalso;omega))|apply AE|refine AD (t1 _) ?_|refine AD (t2 _) ?_|refine AD (u6 _ _) ?_)<;>conv=>whnf))
  exact B3 [] (by (conv=>whnf);exact ⟨rfl,rfl,rfl⟩) (Ady N X Y (by omega) (by omega))
end Go.e9
namespace Go.e9
def kQ (N:Nat):List O3->Bool
 | []=>true
 | .tmp t::r=>Nat.blt t N&&kQ N r
 | .cell t _ _::r=>Nat.blt t N&&kQ N r
theorem Oc {N:Nat} {s s':St} (ho:s.own=s'.own) (sj : ∀ j,j<N->m8 s'.tm j=m8 s.tm j) : ∀ {res:List O3},kQ N res=true->res.mapM (FG s)=res.mapM (FG s')
 | [],_=>rfl
 | .tmp t::r,h=>by
  simp only[kQ,Bool.and_eq_true]at h;have:=Oc ho sj h.2
  simp only[List.mapM_cons,FG,sj t (gG.1 h.1),this]
 | .cell t agg n::r,h=>by
  simp only[kQ,Bool.and_eq_true]at h;have:=Oc ho sj h.2
  simp only[List.mapM_cons,FG,sj t (gG.1 h.1),this,ho]
def AhB (N:Nat) (fn:AFn) (tm:Tm) (K:AV->Mem->Prop) (fp:Tm) (M':Mem):Prop:=gh N fp=tm/\sO fp M' fn.res (λ rs=>rsv rs λ v=>K v M')
theorem FC {L:Lib} {f:Nat} {fn:AFn} {vs:List AV} {tm:Tm} {M:Mem} {K:AV->Mem->Prop} (N:Nat) (hL:L f=some fn) (hp:Nat.beq vs.length fn.fo=true) (hN:(Nat.ble fn.fo N&&(JV N fn.body&&kQ N fn.res))=true)
  (h:AA L [.code fn.body] (C0 0 vs++GS N tm) M (AhB N fn tm K)):A8 L f vs tm M K:=by
 intro σ own hs;simp only[Bool.and_eq_true]at hN;obtain ⟨n1,n2,n3⟩:=hN;have n1:=Nat.le_of_ble_eq_true n1;have hp:vs.length=fn.fo:=Nat.eq_of_beq_eq_true hp;have Su:RX σ (C0 0 vs++GS N tm) M ⟨YE (BI σ) (C0 0 vs++GS N tm),own⟩:=⟨λ j=>Or.inr (by rw[S0];exact S3 (XC σ) j _),hs⟩;obtain ⟨n,c,s',hr,σ',fp,M',hR,hg,uc⟩:=h σ _ Su;have Rm:Gh N (YE (BI σ) (GS N tm)) (C0 0 (vs.map (BI σ))) (YE (BI σ) (C0 0 vs++GS N tm)):=by
  constructor
  ·intro j hj
   rw[yL,S3 (XC σ),S3 (XC σ)];rcases oL j (GS N tm) (C0 0 vs) with ⟨_,e⟩|⟨hn,e⟩
   ·rw[e]
   ·rw[e,Nj hj,Nh j 0 vs hn]
  ·intro j hj
   rw[S3 (XC σ),S3 (XC σ)];rcases oL j (GS N tm) (C0 0 vs) with ⟨hn,e⟩|⟨_,e⟩
   ·have:=yF j 0 vs hn
    omega
   ·rw[e]
 obtain ⟨s,r1,r2,r3⟩:=LB n (by simp [eL,n2]) Rm hr;obtain ⟨rs,i1,i2,i3⟩:=Ob hR uc;rw[<-Oc (s:=s) r2.symm r3.lo n3,i3]at i1;have key : ∃ r,I2 (rs.map (BR σ'))=BI σ' r/\K r M':=by
  match rs,i2,i3 with
  | [],h,_=>exact ⟨.m9 [],rfl,h⟩
  | [v],h,e =>
   simp only[List.map_cons,List.map_nil,List.cons.injEq,and_true]at e;exact ⟨v,by simp only[List.map_cons,List.map_nil,I2];exact e.symm,h⟩
  | a::b::l,h,_=>exact ⟨.m9 (a::b::l),rfl,h⟩
 obtain ⟨r,k1,k2⟩:=key;refine ⟨r,s.own,σ',M',GU.intro hL (by simpa using hp) ⟨n,c,s,r1,?_,rfl⟩,?_,?_,k2⟩
 ·rw[i1,Option.map_some,k1]
 ·rw[<-r2];exact hR.sat
 ·intro j
  have e1:tg tm j=tg fp (N+j):=by rw[S0,S0,<-hg,Nf]
  rcases hR.tm (N+j) with e|e
  ·rw[e1,e];rfl
  ·rw[e1,<-e,r3.hi (N+j) (by omega),S3 (XC σ),Ni,<-S0,e1]
end Go.e9

namespace Go.e9
open F
attribute [local irreducible] AA AF AM AC CK AR AW BD A7 BW AQ BT CD DB BP A4 BO CE AB A8 AJ pw B4 BK CF CI CN CX CJ BS CM
variable {L:Lib}
set_option maxHeartbeats 8000000
theorem Ahj {k:Nat} {K:Int->Prop} (h:0<k/\k<=9223372036854775808) (hk:K ((18446744073709551616-k:Nat):Int)):AR .u64 (-(k:Int)) K:=by
 unfold AR;have e:IntKind.u64.wrap (-(k:Int))=((18446744073709551616-k:Nat):Int):=by
  simp [IntKind.wrap,IntKind.bits,IntKind.signed];omega
 rw[e];exact hk
theorem CK.Km {k:Nat} {K:AV->Prop} (h:0<k/\k<=9223372036854775808) (hk:K (.int .u64 (k:Int))):CK .neg .u64 ((18446744073709551616-k:Nat):Int) K:=by
 refine CK.go (v := .int .u64 (IntKind.u64.wrap (0-((18446744073709551616-k:Nat):Int)))) rfl ?_;have e:IntKind.u64.wrap (0-((18446744073709551616-k:Nat):Int))=(k:Int):=by
  simp [IntKind.wrap,IntKind.bits,IntKind.signed];omega
 rw[e];exact hk
theorem AlJ (N:a5 L) (z:Int) (hz : -9223372036854775808<=z/\z<=9223372036854775807):Ev L 85 [.int .i64 z] (.agg (eZ z)):=by
 have two : ∀ k:Nat,k<18446744073709551616 -> ∀ q,Ev L 66 [.sl q [[.int .u32 ((k%4294967296:Nat):Int)],[.int .u32 ((k/4294967296:Nat):Int)]]] (.sl false ((dg k).map AL)):=λ k hk q=>by
  have:=mM N.tol9 [k%4294967296,k/4294967296] q (vS hk).2 (by simp)
  rw[Agy hk]at this;exact this
 refine Ev.x N.XW rfl rfl ?_;by_cases h0:0<=z
 ·obtain ⟨k,rfl⟩:=Int.eq_ofNat_of_zero_le h0
  have hT:=two k (by omega);have z1:=J0 k;(repeat' ((first|(apply AG<;>intro hc<;>try (exfalso;omega))|apply FN|(apply CP;omega)|(apply EJ;omega)|apply F9|refine jE rfl rfl ?_|apply AE)<;>conv=>whnf))
  generalize k%4294967296=lo at *;generalize k/4294967296=hi at *;(repeat' (refine AD (hT _) ?_<;>conv=>whnf))
  refine FC 1000 N.DJ rfl rfl ?_;(repeat' (apply AE<;>conv=>whnf))
  all_goals (refine ⟨rfl,?_⟩;(conv=>whnf);skip)
  exact AY (EW (by omega) (GR (by omega))) (DY _)
 ·obtain ⟨k,hk⟩:=Int.eq_ofNat_of_zero_le (show 0 <= -z by omega)
  obtain rfl:z = -(k:Int):=by omega
  have hT:=two k (by omega);have z1:=J0 k;(repeat' (apply AE<;>conv=>whnf))
  refine Ahj (by omega) ?_;(conv=>whnf)
  (repeat' ((first|(apply AG<;>intro hc<;>try (exfalso;omega))|fail)<;>conv=>whnf))
  refine CK.Km (by omega) ?_;(conv=>whnf)
  (repeat' ((first|(apply AG<;>intro hc<;>try (exfalso;omega))|apply FN|(apply EJ;omega)|apply F9|refine jE rfl rfl ?_)<;>conv=>whnf))
  generalize k%4294967296=lo at *;generalize k/4294967296=hi at *;(repeat' (refine AD (hT _) ?_<;>conv=>whnf))
  refine FC 1000 N.DJ rfl rfl ?_;(repeat' ((first|(apply AG<;>intro hc<;>try (exfalso;omega))|apply AU|apply AE)<;>conv=>whnf))
  all_goals (refine ⟨rfl,?_⟩;(conv=>whnf);skip)
  exact AY (EW (by omega) (aL (by omega))) (DY _)
theorem Xu (N:a5 L) (n q:Bool) (m:List Nat) (hm:Sm 549755813888 m):Ev L 84 [.agg (rZ q n m)] (.agg (eZ (zv n m))):=by
 have hT:=λ q=>mM N.tol9 m q hm.1 (by have:=hm.2;omega)
 have hz:=J0 (val m);have ha:=E5 n m;refine Ev.x N.XY rfl rfl ?_;cases n
 ·rw[F8]at *
  (repeat' ((first|apply AE|refine AD (hT _) ?_)<;>conv=>whnf))
  refine FC 1000 N.DJ rfl rfl ?_;(repeat' (apply AE<;>conv=>whnf))
  all_goals (refine ⟨rfl,?_⟩;(conv=>whnf);skip)
  exact AY (EW ha.symm (GR (by omega))) (DY _)
 ·rw[cG]at *
  (repeat' ((first|apply AE|refine AD (hT _) ?_)<;>conv=>whnf))
  refine FC 1000 N.DJ rfl rfl ?_;(repeat' ((first|(apply AG<;>intro hc<;>try (exfalso;omega))|apply AU|apply AE)<;>conv=>whnf))
  all_goals (refine ⟨rfl,?_⟩;(conv=>whnf);skip)
  ·exact AY (EW ha.symm (aL (by omega))) (DY _)
  ·exact AY (EW ha.symm (GR (by omega))) (DY _)
theorem qY (N:a5 L) (n q:Bool) (m:List Nat) (hm:Sm 549755813888 m):Ev L 86 [.agg (rZ q n m)] (.int .i64 (dp (zv n m))):=by
 have u6:=λ q q'=>cX N.tol9 m [] q q' hm.1 jP (by have:=hm.2;omega) (by simp)
 rw[OB]at u6;refine Ev.x N.XX rfl rfl ?_;by_cases h0:val m=0
 ·have hn:DD (val m) (0:Nat)=0:=(gJ (by omega)).symm
  rw[hn]at u6;(repeat' ((first|(apply AG<;>intro hc<;>try (exfalso;omega))|apply AE|refine AD (u6 _ _) ?_)<;>conv=>whnf))
  exact DC (tC (by have:=E5 n m;omega))
 ·have hn:DD (val m) (0:Nat)=1:=(bR (by omega)).symm
  rw[hn]at u6;cases n
  ·(repeat' ((first|(apply AG<;>intro hc<;>try (exfalso;omega))|apply AE|refine AD (u6 _ _) ?_)<;>conv=>whnf))
   exact DC (On (by rw[F8];omega))
  ·(repeat' ((first|(apply AG<;>intro hc<;>try (exfalso;omega))|apply AE|refine AD (u6 _ _) ?_)<;>conv=>whnf))
   exact DC (Om (by rw[cG];omega))
theorem Zc (N:a5 L) (n1 n2 q1 q2:Bool) (a b:List Nat) (ha:Sm 549755813888 a) (hb:Sm 549755813888 b):Ev L 87 [.agg (rZ q1 n1 a),.agg (rZ q2 n2 b)] (.agg (eZ (zv n1 a+zv n2 b))):=by
 have la:=ha.2;have lb:=hb.2;have h1:=λ q q'=>AlU N.tol9 a b q q' ha.1 hb.1 (by omega) (by omega)
 have h2:=λ q q'=>Xw N.tol9 a b q q' ha.1 hb.1 (by omega) (by omega)
 have h3:=λ q q'=>Xw N.tol9 b a q q' hb.1 ha.1 (by omega) (by omega)
 have u6:=λ q q'=>cX N.tol9 a b q q' ha.1 hb.1 (by omega) (by omega)
 have z1:=J0 (val a+val b);have z2:=J0 (val a-val b);have z3:=J0 (val b-val a);refine Ev.x N.XT rfl rfl ?_;by_cases v9:val a<val b
 ·have hn:DD (val a) (val b) = -1:=(JZ (by omega)).symm
  rw[hn]at u6;cases n1<;>cases n2<;>simp only[F8,cG]
  ·(repeat' ((first|apply AE|refine AD (h1 _ _) ?_)<;>conv=>whnf))
   refine FC 1000 N.DJ rfl rfl ?_;(repeat' (apply AE<;>conv=>whnf))
   all_goals (refine ⟨rfl,?_⟩;(conv=>whnf);skip)
   exact AY (EW (by omega) (GR (by omega))) (DY _)
  ·(repeat' ((first|(apply AG<;>intro hc<;>try (exfalso;omega))|apply AE|refine AD (h3 _ _) ?_|refine AD (u6 _ _) ?_)<;>conv=>whnf))
   refine FC 1000 N.DJ rfl rfl ?_;(repeat' ((first|(apply AG<;>intro hc<;>try (exfalso;omega))|apply AU|apply AE)<;>conv=>whnf))
   all_goals (refine ⟨rfl,?_⟩;(conv=>whnf);skip)
   ·exact AY (EW (by omega) (aL (by omega))) (DY _)
  ·(repeat' ((first|(apply AG<;>intro hc<;>try (exfalso;omega))|apply AE|refine AD (h3 _ _) ?_|refine AD (u6 _ _) ?_)<;>conv=>whnf))
   refine FC 1000 N.DJ rfl rfl ?_;(repeat' (apply AE<;>conv=>whnf))
   all_goals (refine ⟨rfl,?_⟩;(conv=>whnf);skip)
   ·exact AY (EW (by omega) (GR (by omega))) (DY _)
  ·(repeat' ((first|apply AE|refine AD (h1 _ _) ?_)<;>conv=>whnf))
   refine FC 1000 N.DJ rfl rfl ?_;(repeat' ((first|(apply AG<;>intro hc<;>try (exfalso;omega))|apply AU|apply AE)<;>conv=>whnf))
   all_goals (refine ⟨rfl,?_⟩;(conv=>whnf);skip)
   ·exact AY (EW (by omega) (aL (by omega))) (DY _)
 ·have hn:DD (val a) (val b) ≠ -1:=by unfold DD;split<;>(try split)<;>omega
  generalize DD (val a) (val b)=cm at *;cases n1<;>cases n2<;>simp only[F8,cG]
  ·(repeat' ((first|apply AE|refine AD (h1 _ _) ?_)<;>conv=>whnf))
   refine FC 1000 N.DJ rfl rfl ?_;(repeat' (apply AE<;>conv=>whnf))
   all_goals (refine ⟨rfl,?_⟩;(conv=>whnf);skip)
   exact AY (EW (by omega) (GR (by omega))) (DY _)
  ·(repeat' ((first|(apply AG<;>intro hc<;>try (exfalso;omega))|apply AE|refine AD (h2 _ _) ?_|refine AD (u6 _ _) ?_)<;>conv=>whnf))
   refine FC 1000 N.DJ rfl rfl ?_;(repeat' (apply AE<;>conv=>whnf))
   all_goals (refine ⟨rfl,?_⟩;(conv=>whnf);skip)
   exact AY (EW (by omega) (GR (by omega))) (DY _)
  ·(repeat' ((first|(apply AG<;>intro hc<;>try (exfalso;omega))|apply AE|refine AD (h2 _ _) ?_|refine AD (u6 _ _) ?_)<;>conv=>whnf))
   refine FC 1000 N.DJ rfl rfl ?_;(repeat' ((first|(apply AG<;>intro hc<;>try (exfalso;omega))|apply AU|apply AE)<;>conv=>whnf))
   all_goals (refine ⟨rfl,?_⟩;(conv=>whnf);skip)
   ·exact AY (EW (by omega) (aL (by omega))) (DY _)
   ·exact AY (EW (by omega) (GR (by omega))) (DY _)
  ·(repeat' ((first|apply AE|refine AD (h1 _ _) ?_)<;>conv=>whnf))
   refine FC 1000 N.DJ rfl rfl ?_;(repeat' ((first|(apply AG<;>intro hc<;>try (exfalso;omega))|apply AU|apply AE)<;>conv=>whnf))
   all_goals (refine ⟨rfl,?_⟩;(conv=>whnf);skip)
   ·exact AY (EW (by omega) (aL (by omega))) (DY _)
   ·exact AY (EW (by omega) (GR (by omega))) (DY _)
theorem gQ (N:a5 L) (n1 n2 q1 q2:Bool) (a b:List Nat) (ha:A3 a) (hb:A3 b) (hl:a.length+b.length<=1099511627776):Ev L 88 [.agg (rZ q1 n1 a),.agg (rZ q2 n2 b)] (.agg (eZ (zv n1 a*zv n2 b))):=by
 have h1:=λ q q'=>wW N.tol9 a b q q' ha hb hl
 have z1:=J0 (val a*val b);have Qn:(zv n1 a*zv n2 b).natAbs=val a*val b:=by rw[Int.natAbs_mul,E5,E5]
 refine Ev.x N.XV rfl rfl ?_;have e:zv n1 a*zv n2 b=bif n1 == n2 then ((val a*val b:Nat):Int) else -((val a*val b:Nat):Int):=by
  cases n1<;>cases n2<;>simp [F8,cG,Int.mul_neg,Int.neg_mul]
 rw[e]at Qn ⊢;generalize val a*val b=V at *;cases n1<;>cases n2<;>simp only[beq_self_eq_true,cond_true,show (false == true)=false from rfl,show (true == false)=false from rfl,cond_false]
 ·(repeat' ((first|apply AE|refine AD (h1 _ _) ?_)<;>conv=>whnf))
  refine FC 1000 N.DJ rfl rfl ?_;(repeat' (apply AE<;>conv=>whnf))
  all_goals (refine ⟨rfl,?_⟩;(conv=>whnf);skip)
  exact AY (EW (by omega) (GR (by omega))) (DY _)
 ·(repeat' ((first|apply AE|refine AD (h1 _ _) ?_)<;>conv=>whnf))
  refine FC 1000 N.DJ rfl rfl ?_;(repeat' ((first|(apply AG<;>intro hc<;>try (exfalso;omega))|apply AU|apply AE)<;>conv=>whnf))
  all_goals (refine ⟨rfl,?_⟩;(conv=>whnf);skip)
  ·exact AY (EW (by omega) (aL (by omega))) (DY _)
  ·exact AY (EW (by omega) (GR (by omega))) (DY _)
 ·(repeat' ((first|apply AE|refine AD (h1 _ _) ?_)<;>conv=>whnf))
  refine FC 1000 N.DJ rfl rfl ?_;(repeat' ((first|(apply AG<;>intro hc<;>try (exfalso;omega))|apply AU|apply AE)<;>conv=>whnf))
  all_goals (refine ⟨rfl,?_⟩;(conv=>whnf);skip)
  ·exact AY (EW (by omega) (aL (by omega))) (DY _)
  ·exact AY (EW (by omega) (GR (by omega))) (DY _)
 ·(repeat' ((first|apply AE|refine AD (h1 _ _) ?_)<;>conv=>whnf))
  refine FC 1000 N.DJ rfl rfl ?_;(repeat' (apply AE<;>conv=>whnf))
  all_goals (refine ⟨rfl,?_⟩;(conv=>whnf);skip)
  exact AY (EW (by omega) (GR (by omega))) (DY _)
theorem vU:dg 1=[1]:=by rw[OM (by omega)];simp [E8]
theorem AlM (N:a5 L) (V:Nat) (q:Bool):Ev L 90 [.sl q ((dg V).map AL)] (.bool (decide (V=1))):=by
 have hv:=B5 V;have hD:=EA V;have h1:V=1->dg V=[1]:=λ h=>by rw[h,vU]
 generalize dg V=l at *;refine Ev.x N.ZS rfl rfl ?_;by_cases hl:l.length=1
 ·obtain ⟨d,rfl⟩:=List.length_eq_one_iff.1 hl
  have e:V=d:=by rw[<-hv];simp [val]
  subst e;have hd:[V][(0:Int).toNat]? = some V:=rfl;(repeat' ((first|(apply AG<;>intro hc<;>try (exfalso;omega))|apply AU|(refine BH (by assumption) ?_ rfl ?_;omega)|apply AE)<;>conv=>whnf))
  ·exact Ahk (by omega)
  ·exact Ww (by omega)
 ·(repeat' ((first|(apply AG<;>intro hc<;>try (exfalso;omega))|apply AU|apply AE)<;>conv=>whnf))
  exact Ww (λ h=>by rw[h1 h]at hl;simp at hl)
theorem mO (N:a5 L) (n q1 q2:Bool) (m d:List Nat) (hm:Sm 549755813888 m) (hd:Sm 549755813888 d) (h0:val d≠0):Ev L 94 [.agg (rQ q1 q2 n m d)] (.agg (eQ (qv n m d))):=by
 have Gc:=λ q q'=>wV N.tol9 m d q q' hm.1 hd.1 hm.2 hd.2 h0
 have Md:=E5 n m;have sq:Sm 549755813888 (dg (val m/val d)):=hm.low (Nat.div_le_self _ _);have sr:Sm 549755813888 (dg (val m%val d)):=hd.low (Nat.le_of_lt (Nat.mod_lt _ (by omega)));have hT:=λ q=>Xu N n q _ sq
 have hG:=λ q q'=>AlV N.tol9 d (dg (val m%val d)) q q' hd.1 sr.1 hd.2 sr.2
 rw[B5,show Nat.gcd (val d) (val m%val d)=Nat.gcd (val d) (zv n m).natAbs by rw[Md,mZ,Nat.gcd_comm]]at hG;have Rn:=Adz (zv n m).natAbs h0;have Gn:=Nat.gcd_le_left (zv n m).natAbs (show 0<val d by omega);have hz:=J0 (val m%val d);obtain ⟨e1,e2,e3⟩:=zH (z:=zv n m) h0;unfold qv;generalize hGG:Nat.gcd (val d) (zv n m).natAbs=g at *;have h1:=λ q=>AlM N g q
 refine Ev.x N.ZU rfl rfl ?_;by_cases du:val m%val d=0
 ·(repeat' ((first|(apply AG<;>intro hc<;>try (exfalso;omega))|apply AU|apply AE|refine AD (Gc _ _) ?_|refine AD (hT _) ?_)<;>conv=>whnf))
  refine FC 1000 N.IM rfl rfl ?_;(repeat' (apply AE<;>conv=>whnf))
  refine ⟨rfl,?_⟩;(conv=>whnf)
  (repeat' (refine H6 rfl ?_<;>conv=>whnf))
  have qt:g=val d:=by
   rw[<-hGG,Md];exact Nat.gcd_eq_left (Nat.dvd_of_mod_eq_zero du)
  have hv:=B5 (val m/val d);refine AY ?_ ?_
  ·show _=AV.agg (rQ _ _ _ _ _)
   rw[e1,e2,e3,Md,qt,Nat.div_self (by omega),E5,hv,vU];have hs:decide (zv n (dg (val m/val d))<0)=decide (zv n m<0):=by
    cases n
    ·rw[F8,F8];simp;omega
    ·rw[cG,cG,hv]
     congr 1;rw[eq_iff_iff];have h5:=Nat.div_add_mod (val m) (val d);rw[du,Nat.add_zero]at h5;constructor
     ·intro h6
      have h7:val m/val d≠0:=by omega
      have:val m≠0:=λ h8=>h7 (by rw[h8,Nat.zero_div])
      omega
     ·intro h6
      have h7:val m/val d≠0:=λ h8=>by rw[h8,Nat.mul_zero]at h5;omega
      omega
   rw[hs];rfl
  ·exact EE _
 ·by_cases Fb:g=1
  ·have Hw:=λ q=>Xu N n q m hm
   have Ge:=λ q=>mM N.tol9 d q hd.1 (by have:=hd.2;omega)
   (repeat' ((first|(apply AG<;>intro hc<;>try (exfalso;omega))|apply AU|apply AE|refine AD (Gc _ _) ?_|refine AD (hG _ _) ?_|refine Wr (h1 _) (λ hf => ?_) (λ hf => ?_)|refine AD (Hw _) ?_|refine AD (Ge _) ?_)<;>conv=>whnf))
   ·refine AY ?_ (qC _ _ _)
    show _=AV.agg (rQ _ _ _ _ _);rw[e1,e2,e3,Fb,Nat.div_one,Nat.div_one]
   ·exact absurd Fb hf
  ·have sg:Sm 549755813888 (dg g):=hd.low Gn
   have tu:=λ q q'=>wV N.tol9 m (dg g) q q' hm.1 sg.1 hm.2 sg.2 (by rw[B5];omega)
   have tv:=λ q q'=>wV N.tol9 d (dg g) q q' hd.1 sg.1 hd.2 sg.2 (by rw[B5];omega)
   rw[B5]at tu tv;(repeat' ((first|(apply AG<;>intro hc<;>try (exfalso;omega))|apply AU|apply AE|refine AD (Gc _ _) ?_|refine AD (hG _ _) ?_|refine Wr (h1 _) (λ hf => ?_) (λ hf => ?_)|refine AD (tu _ _) ?_|refine AD (tv _ _) ?_)<;>conv=>whnf))
   ·exact absurd hf Fb
   ·refine AY ?_ (qC _ _ _)
    show _=AV.agg (rQ _ _ _ _ _);rw[e1,e2,e3,Md];have hs:n=decide (zv n m<0):=by
     have:val m≠0:=λ h=>du (by rw[h,Nat.zero_mod])
     cases n
     ·exact GR (by rw[F8];omega)
     ·exact aL (by rw[cG];omega)
    rw[<-hs]
theorem jS (N:a5 L) (m:List Nat):Ev L 91 [.sl false (m.map AL)] (.agg [.bool false,.sl false (m.map AL)]):=by
 refine Ev.x N.ZT rfl rfl ?_;(repeat' (apply AE<;>conv=>whnf))
 exact AY rfl (Ai0 _ _)
def Ahz (n:Bool) (m d:List Nat) (n':Bool) (m' d':List Nat) (w:Bool) (k:Nat):Prop:=Sm k m'/\Sm k d'/\val d'≠0/\(w=true->val d'=1)/\qv n m d=mkRat (zv n' m') (val d')
theorem bV (N:a5 L) (n:Bool) (m d:List Nat) (k:Nat) (hk:1<=k/\k<=549755813888) (hm:Sm k m) (hd:Sm k d) : ∃ n' m' d' w,Ev L 89 [.agg (rQ false false n m d)] (.agg [.bool n',.sl false (m'.map AL),.sl false (d'.map AL),.bool w])/\Ahz n m d n' m' d' w k:=by
 have u6:=λ q q'=>cX N.tol9 d [] q q' hd.1 jP (by have:=hd.2;omega) (by simp)
 rw[OB]at u6;by_cases h1:d=[1]
 ·subst h1
  refine ⟨n,m,[1],true,?_,hm,hd,by decide,λ_=>rfl,rfl⟩;refine Ev.x N.KF rfl rfl ?_;have hd:[1][(0:Int).toNat]? = some 1:=rfl;have Am:([1]:List Nat).length=1:=rfl;(repeat' ((first|(apply AG<;>intro hc<;>try (exfalso;omega))|apply AU|(refine BH (by assumption) ?_ rfl ?_;omega)|apply AE)<;>conv=>whnf))
  exact AY rfl (lZ _ _ _ _)
 have u7 : ∀ x,d[(0:Int).toNat]? = some x->(d.length:Int)=1->(x:Int)≠1:=λ x hx hl h=>by
  obtain ⟨y,rfl⟩:=List.length_eq_one_iff.1 (show d.length=1 by omega);simp at hx;apply h1;congr 1;omega
 by_cases h0:val d=0
 ·refine ⟨false,[],[1],true,?_,AfP _,Mo hk.1 (by omega),by decide,λ_=>rfl,by unfold qv;rw[h0,Rat.mkRat_zero,AgH,Rat.zero_mkRat]⟩
  have hn:DD (val d) (0:Nat)=0:=(gJ (by omega)).symm;rw[hn]at u6;refine Ev.x N.KF rfl rfl ?_;have hD:=hd.1;(repeat' ((first|(apply AG<;>intro hc<;>try (exfalso;omega))|apply AU|(refine dV (by assumption) ?_ (λ e he hb => ?_);omega)|refine H6 rfl ?_|apply AE|refine AD (u6 _ _) ?_)<;>conv=>whnf))
  all_goals first
   | exact AY rfl (lZ _ _ _ _)
   | exact AY rfl (lZ false true [] [1])
   | exact absurd (by assumption) (u7 _ he (by assumption))
 ·refine ⟨n,m,d,false,?_,hm,hd,h0,(λ h=>by cases h),rfl⟩
  have hn:DD (val d) (0:Nat)=1:=(bR (by omega)).symm;rw[hn]at u6;have hD:=hd.1;refine Ev.x N.KF rfl rfl ?_;(repeat' ((first|(apply AG<;>intro hc<;>try (exfalso;omega))|apply AU|(refine dV (by assumption) ?_ (λ e he hb => ?_);omega)|apply AE|refine AD (u6 _ _) ?_)<;>conv=>whnf))
  all_goals first
   | exact AY rfl (lZ _ _ _ _)
   | exact AY rfl (lZ false true [] [1])
   | exact absurd (by assumption) (u7 _ he (by assumption))
theorem xG (N:a5 L) (n q1 q2:Bool) (m d:List Nat) (hm:Sm 549755813888 m) (hd:Sm 549755813888 d):Ev L 95 [.agg (rQ q1 q2 n m d)] (.agg (eQ (qv n m d))):=by
 obtain ⟨n',m',d',w,hr,s1,s2,s3,s4,s5⟩:=bV N n m d 549755813888 (by omega) hm hd;have hl:=λ q1 q2=>mO N n' q1 q2 m' d' s1 s2 s3
 rw[s5];unfold qv at hl;refine Ev.x N.ZQ rfl rfl ?_;(repeat' ((first|apply HC|apply AE|refine AD (hr) ?_|refine AD (hl _ _) ?_)<;>conv=>whnf))
 exact AY rfl (EE _)
theorem Adf (N:a5 L) (n q1 q2:Bool) (m d:List Nat) (hm:Sm 549755813888 m) (hd:Sm 549755813888 d):Ev L 97 [.agg (rQ q1 q2 n m d)] (.int .i64 (dp (qv n m d).num)):=by
 obtain ⟨n',m',d',w,hr,s1,s2,s3,s4,s5⟩:=bV N n m d 549755813888 (by omega) hm hd;have hl:=λ q=>qY N n' q m' s1
 rw[s5,AeF s3];refine Ev.x N.ZO rfl rfl ?_;(repeat' ((first|apply HC|apply AE|refine AD (hr) ?_|refine AD (hl _) ?_)<;>conv=>whnf))
 exact DC rfl
theorem uN (z:Int):AV.agg [.bool (decide (z<0)),.sl false ((dg z.natAbs).map AL),.sl false [[.int .u32 1]]] = .agg (eQ (z:Rat)):=by
 show _=AV.agg (rQ _ _ _ _ _);rw[Rat.num_intCast,Rat.den_intCast,vU];rfl
theorem HL (N:a5 L) (z:Int) (hz : -9223372036854775808<=z/\z<=9223372036854775807):Ev L 96 [.int .i64 z] (.agg (eQ (z:Rat))):=by
 have h1:=AlJ N z hz;refine Ev.x N.ZN rfl rfl ?_;(repeat' ((first|apply AE|refine AD (h1) ?_)<;>conv=>whnf))
 refine FC 1000 N.IM rfl rfl ?_;(repeat' (apply AE<;>conv=>whnf))
 refine ⟨rfl,?_⟩;(conv=>whnf)
 (repeat' (refine H6 rfl ?_<;>conv=>whnf))
 exact AY (uN z) (EE _)
theorem iO {k l:Nat} {n1 n2:Bool} {a b:List Nat} (ha:Sm k a) (hb:Sm l b):Sm (k+l) (dg (zv n1 a*zv n2 b).natAbs):=ha.mul hb (by rw[Int.natAbs_mul,E5,E5])
theorem AfR {k:Nat} {x y:Int} (ha:Sm k (dg x.natAbs)) (hb:Sm k (dg y.natAbs)):Sm (k+1) (dg (x+y).natAbs):=ha.add hb (by rw[B5,B5];omega)
theorem Ade (N:a5 L) (k:Nat) (hk:1<=k/\k<=68719476736) (n1 n2 q1 q2 q3 q4:Bool) (m1 d1 m2 d2:List Nat) (pj:Sm k m1) (se:Sm k d1) (np:Sm k m2) (vj:Sm k d2) :
  Ev L 98 [.agg (rQ q1 q2 n1 m1 d1),.agg (rQ q3 q4 n2 m2 d2)] (.agg (eQ (qv n1 m1 d1+qv n2 m2 d2))):=by
 obtain ⟨a1,a2,a3,w1,gi,s1,s2,s3,s4,s5⟩:=bV N n1 m1 d1 k (by omega) pj se;obtain ⟨b1,b2,b3,w2,iu,t1,t2,t3,t4,t5⟩:=bV N n2 m2 d2 k (by omega) np vj;rw[s5,t5];have hA:=λ q q'=>Zc N a1 b1 q q' a2 b2 (s1.le (by omega)) (t1.le (by omega))
 have Tg:Sm (k+1) (dg (zv a1 a2+zv b1 b2).natAbs):=AfR (by rw[E5];exact s1.Au) (by rw[E5];exact t1.Au);by_cases hw:w1=true/\w2=true
 ·obtain ⟨rfl,rfl⟩:=hw
  rw[s4 rfl,t4 rfl,AeC (by omega),AeE];generalize zv a1 a2+zv b1 b2=z at *;refine Ev.x N.KE rfl rfl ?_;(repeat' ((first|apply HC|apply AE|refine AD (gi) ?_|refine AD (iu) ?_|refine AD (hA _ _) ?_)<;>conv=>whnf))
  refine FC 1000 N.IM rfl rfl ?_;(repeat' (apply AE<;>conv=>whnf))
  refine ⟨rfl,?_⟩;(conv=>whnf)
  (repeat' (refine H6 rfl ?_<;>conv=>whnf))
  exact AY (uN z) (EE _)
 ·have u6:=λ q q'=>cX N.tol9 a3 b3 q q' s2.1 t2.1 (by have:=s2.2;omega) (by have:=t2.2;omega)
  by_cases Bm:val a3=val b3
  ·have hn:DD (val a3) (val b3)=0:=(gJ (by omega)).symm
   rw[hn]at u6;rw[<-Bm,AeC s3];generalize zv a1 a2+zv b1 b2=z at *;have hl:=λ q1 q2=>mO N (decide (z<0)) q1 q2 (dg z.natAbs) a3 (Tg.le (by omega)) (s2.le (by omega)) s3
   unfold qv at hl;rw[GK]at hl;refine Ev.x N.KE rfl rfl ?_;cases w1<;>cases w2
   ·(repeat' ((first|(apply AG<;>intro hc<;>try (exfalso;omega))|apply HC|apply AE|refine AD (gi) ?_|refine AD (iu) ?_|refine AD (hA _ _) ?_|refine AD (u6 _ _) ?_|refine AD (hl _ _) ?_)<;>conv=>whnf))
    exact AY rfl (EE _)
   ·(repeat' ((first|(apply AG<;>intro hc<;>try (exfalso;omega))|apply HC|apply AE|refine AD (gi) ?_|refine AD (iu) ?_|refine AD (hA _ _) ?_|refine AD (u6 _ _) ?_|refine AD (hl _ _) ?_)<;>conv=>whnf))
    exact AY rfl (EE _)
   ·(repeat' ((first|(apply AG<;>intro hc<;>try (exfalso;omega))|apply HC|apply AE|refine AD (gi) ?_|refine AD (iu) ?_|refine AD (hA _ _) ?_|refine AD (u6 _ _) ?_|refine AD (hl _ _) ?_)<;>conv=>whnf))
    exact AY rfl (EE _)
   ·exact absurd ⟨rfl,rfl⟩ hw
  ·have hn:DD (val a3) (val b3)≠0:=by unfold DD;split<;>(try split)<;>omega
   generalize DD (val a3) (val b3)=cm at *;have fj:=λ q q'=>gQ N a1 false q q' a2 b3 s1.1 t2.1 (by have:=s1.2;have:=t2.2;omega)
   have jd:=λ q q'=>gQ N b1 false q q' b2 a3 t1.1 s2.1 (by have:=t1.2;have:=s2.2;omega)
   have Ag:=λ q q'=>wW N.tol9 a3 b3 q q' s2.1 t2.1 (by have:=s2.2;have:=t2.2;omega)
   have Bq:=jS N a3;have zh:=jS N b3;have g1:Sm (k+k) (dg (zv a1 a2*zv false b3).natAbs):=iO s1 t2;have g2:Sm (k+k) (dg (zv b1 b2*zv false a3).natAbs):=iO t1 s2;have g3:=AfR g1 g2;have g4:Sm (k+k) (dg (val a3*val b3)):=s2.mul t2 rfl;rw[zD s3 t3,<-F8 b3,<-F8 a3];have Et:val a3*val b3≠0:=Nat.mul_ne_zero s3 t3;generalize zv a1 a2*zv false b3=x at *;generalize zv b1 b2*zv false a3=y at *;generalize val a3*val b3=D at *;have yk:=λ q q'=>Zc N (decide (x<0)) (decide (y<0)) q q' (dg x.natAbs) (dg y.natAbs) (g1.le (by omega)) (g2.le (by omega))
   rw[GK,GK]at yk;generalize x+y=z at *;have hl:=λ q1 q2=>mO N (decide (z<0)) q1 q2 (dg z.natAbs) (dg D) (g3.le (by omega)) (g4.le (by omega)) (by rw[B5];exact Et)
   unfold qv at hl;rw[GK,B5]at hl;refine Ev.x N.KE rfl rfl ?_;cases w1<;>cases w2
   ·(repeat' ((first|(apply AG<;>intro hc<;>try (exfalso;omega))|apply HC|apply fW|apply AE|refine AD (gi) ?_|refine AD (iu) ?_|refine AD (u6 _ _) ?_|refine AD (Bq) ?_|refine AD (zh) ?_|refine AD (fj _ _) ?_|refine AD (jd _ _) ?_|refine AD (yk _ _) ?_|refine AD (Ag _ _) ?_|refine AD (hl _ _) ?_)<;>conv=>whnf))
    exact AY rfl (EE _)
   ·(repeat' ((first|(apply AG<;>intro hc<;>try (exfalso;omega))|apply HC|apply fW|apply AE|refine AD (gi) ?_|refine AD (iu) ?_|refine AD (u6 _ _) ?_|refine AD (Bq) ?_|refine AD (zh) ?_|refine AD (fj _ _) ?_|refine AD (jd _ _) ?_|refine AD (yk _ _) ?_|refine AD (Ag _ _) ?_|refine AD (hl _ _) ?_)<;>conv=>whnf))
    exact AY rfl (EE _)
   ·(repeat' ((first|(apply AG<;>intro hc<;>try (exfalso;omega))|apply HC|apply fW|apply AE|refine AD (gi) ?_|refine AD (iu) ?_|refine AD (u6 _ _) ?_|refine AD (Bq) ?_|refine AD (zh) ?_|refine AD (fj _ _) ?_|refine AD (jd _ _) ?_|refine AD (yk _ _) ?_|refine AD (Ag _ _) ?_|refine AD (hl _ _) ?_)<;>conv=>whnf))
    exact AY rfl (EE _)
   ·exact absurd ⟨rfl,rfl⟩ hw
theorem xF (N:a5 L) (k:Nat) (hk:1<=k/\k<=68719476736) (n1 n2 q1 q2 q3 q4:Bool) (m1 d1 m2 d2:List Nat) (pj:Sm k m1) (se:Sm k d1) (np:Sm k m2) (vj:Sm k d2) :
  Ev L 99 [.agg (rQ q1 q2 n1 m1 d1),.agg (rQ q3 q4 n2 m2 d2)] (.agg (eQ (qv n1 m1 d1*qv n2 m2 d2))):=by
 obtain ⟨a1,a2,a3,w1,gi,s1,s2,s3,s4,s5⟩:=bV N n1 m1 d1 k (by omega) pj se;obtain ⟨b1,b2,b3,w2,iu,t1,t2,t3,t4,t5⟩:=bV N n2 m2 d2 k (by omega) np vj;rw[s5,t5,zF];have fj:=λ q q'=>gQ N a1 b1 q q' a2 b2 s1.1 t1.1 (by have:=s1.2;have:=t1.2;omega)
 have Ag:=λ q q'=>wW N.tol9 a3 b3 q q' s2.1 t2.1 (by have:=s2.2;have:=t2.2;omega)
 have g1:Sm (k+k) (dg (zv a1 a2*zv b1 b2).natAbs):=iO s1 t1;have g4:Sm (k+k) (dg (val a3*val b3)):=s2.mul t2 rfl;have Et:val a3*val b3≠0:=Nat.mul_ne_zero s3 t3;generalize zv a1 a2*zv b1 b2=z at *;by_cases hw:w1=true/\w2=true
 ·obtain ⟨rfl,rfl⟩:=hw
  rw[s4 rfl,t4 rfl,Nat.one_mul,AeE];refine Ev.x N.R1 rfl rfl ?_;(repeat' ((first|apply HC|apply AE|refine AD (gi) ?_|refine AD (iu) ?_|refine AD (fj _ _) ?_)<;>conv=>whnf))
  refine FC 1000 N.IM rfl rfl ?_;(repeat' (apply AE<;>conv=>whnf))
  refine ⟨rfl,?_⟩;(conv=>whnf)
  (repeat' (refine H6 rfl ?_<;>conv=>whnf))
  exact AY (uN z) (EE _)
 ·generalize val a3*val b3=D at *
  have hl:=λ q1 q2=>mO N (decide (z<0)) q1 q2 (dg z.natAbs) (dg D) (g1.le (by omega)) (g4.le (by omega)) (by rw[B5];exact Et)
  unfold qv at hl;rw[GK,B5]at hl;refine Ev.x N.R1 rfl rfl ?_;cases w1<;>cases w2
  ·(repeat' ((first|apply HC|apply AE|refine AD (gi) ?_|refine AD (iu) ?_|refine AD (fj _ _) ?_|refine AD (Ag _ _) ?_|refine AD (hl _ _) ?_)<;>conv=>whnf))
   exact AY rfl (EE _)
  ·(repeat' ((first|apply HC|apply AE|refine AD (gi) ?_|refine AD (iu) ?_|refine AD (fj _ _) ?_|refine AD (Ag _ _) ?_|refine AD (hl _ _) ?_)<;>conv=>whnf))
   exact AY rfl (EE _)
  ·(repeat' ((first|apply HC|apply AE|refine AD (gi) ?_|refine AD (iu) ?_|refine AD (fj _ _) ?_|refine AD (Ag _ _) ?_|refine AD (hl _ _) ?_)<;>conv=>whnf))
   exact AY rfl (EE _)
  ·exact absurd ⟨rfl,rfl⟩ hw
theorem Ai1 (x:Rat) (e:Int):A6 (.m9 [.agg (eQ x),.int .i64 e]):=by
 simp only[A6,CW,and_true,true_and];exact ⟨CS _,CS _⟩
theorem Amy (N:a5 L) (k:Nat) (hk:1<=k/\k<=68719476736) (n1 n2 q1 q2 q3 q4:Bool) (m1 d1 m2 d2:List Nat) (pj:Sm k m1) (se:Sm k d1) (np:Sm k m2) (vj:Sm k d2) (h0:qv n2 m2 d2≠0) :
  Ev L 100 [.agg (rQ q1 q2 n1 m1 d1),.agg (rQ q3 q4 n2 m2 d2)] (.m9 [.agg (eQ (qv n1 m1 d1/qv n2 m2 d2)),.int .i64 0]):=by
 obtain ⟨a1,a2,a3,w1,gi,s1,s2,s3,s4,s5⟩:=bV N n1 m1 d1 k (by omega) pj se;obtain ⟨b1,b2,b3,w2,iu,t1,t2,t3,t4,t5⟩:=bV N n2 m2 d2 k (by omega) np vj;rw[t5]at h0;rw[s5,t5];have Gj:zv b1 b2≠0:=λ h=>h0 ((zG t3).2 h)
 rw[Aot s3 t3 Gj];have hS:=λ q=>qY N b1 q b2 (t1.le (by omega))
 have Fp:dp (zv b1 b2)≠0:=by unfold dp;split<;>(try split)<;>omega
 have fj:=λ q q'=>gQ N a1 false q q' a2 b3 s1.1 t2.1 (by have:=s1.2;have:=t2.2;omega)
 have jd:=λ q q'=>gQ N false b1 q q' a3 b2 s2.1 t1.1 (by have:=t1.2;have:=s2.2;omega)
 have Bq:=jS N a3;have zh:=jS N b3;have g1:Sm (k+k) (dg (zv a1 a2*zv false b3).natAbs):=iO s1 t2;have g2:Sm (k+k) (dg (zv false a3*zv b1 b2).natAbs):=iO s2 t1;have hd:(zv false a3*zv b1 b2).natAbs=val a3*(zv b1 b2).natAbs:=by rw[Int.natAbs_mul,E5]
 have Ew:(zv false a3*zv b1 b2).sign=(zv b1 b2).sign:=by
  rw[Int.sign_mul,F8,Int.sign_eq_one_of_pos (by omega),Int.one_mul]
 have ui:zv false a3*zv b1 b2≠0:=by
  intro h;rw[h]at Ew;exact Gj (by simpa using Ew.symm)
 rw[<-hd,<-Ew,<-F8 b3];generalize zv a1 a2*zv false b3=x at *;generalize zv false a3*zv b1 b2=y at *;generalize dp (zv b1 b2)=sg at *;have hl:=λ q1 q2=>mO N (decide (x<0) != decide (y<0)) q1 q2 (dg x.natAbs) (dg y.natAbs) (g1.le (by omega)) (g2.le (by omega)) (by rw[B5];omega)
 unfold qv at hl;rw[AqY ui,B5]at hl;refine Ev.x N.ZL rfl rfl ?_;(repeat' ((first|(apply AG<;>intro hc<;>try (exfalso;omega))|apply HC|apply fW|apply AE|refine AD (gi) ?_|refine AD (iu) ?_|refine AD (hS _) ?_|refine AD (Bq) ?_|refine AD (zh) ?_|refine AD (fj _ _) ?_|refine AD (jd _ _) ?_)<;>conv=>whnf))
 refine FC 1000 N.ZV rfl rfl ?_;(repeat' (apply AE<;>conv=>whnf))
 generalize decide (x<0)=p at *;generalize decide (y<0)=r at *;cases p<;>cases r;all_goals
  (conv=>whnf)
  refine ⟨rfl,?_⟩;(conv=>whnf)
  (repeat' (refine AD (hl _ _) ?_<;>conv=>whnf))
  exact AY rfl (Ai1 _ _)
theorem Bt.sm {k:Nat} {x:Rat} (h:Bt k x) (hk:k<2199023255552):Sm 68719476736 (dg x.num.natAbs)/\Sm 68719476736 (dg x.den):=h.dig (by omega)
theorem cW (N:a5 L) {x y:Rat} {k l:Nat} (hx:Bt k x) (hy:Bt l y) (hk:k<2199023255552) (hl:l<2199023255552):Ev L 98 [.agg (eQ x),.agg (eQ y)] (.agg (eQ (x+y))):=by
 have:=Ade N 68719476736 (by omega) (decide (x.num<0)) (decide (y.num<0)) false false false false _ _ _ _ (hx.sm hk).1 (hx.sm hk).2 (hy.sm hl).1 (hy.sm hl).2
 rw[FF,FF]at this;exact this
theorem FV (N:a5 L) {x y:Rat} {k l:Nat} (hx:Bt k x) (hy:Bt l y) (hk:k<2199023255552) (hl:l<2199023255552):Ev L 99 [.agg (eQ x),.agg (eQ y)] (.agg (eQ (x*y))):=by
 have:=xF N 68719476736 (by omega) (decide (x.num<0)) (decide (y.num<0)) false false false false _ _ _ _ (hx.sm hk).1 (hx.sm hk).2 (hy.sm hl).1 (hy.sm hl).2
 rw[FF,FF]at this;exact this
theorem mN (N:a5 L) {x y:Rat} {k l:Nat} (hx:Bt k x) (hy:Bt l y) (hk:k<2199023255552) (hl:l<2199023255552) (h0:y≠0):Ev L 100 [.agg (eQ x),.agg (eQ y)] (.m9 [.agg (eQ (x/y)),.int .i64 0]):=by
 have:=Amy N 68719476736 (by omega) (decide (x.num<0)) (decide (y.num<0)) false false false false _ _ _ _ (hx.sm hk).1 (hx.sm hk).2 (hy.sm hl).1 (hy.sm hl).2 (by rw[FF];exact h0)
 rw[FF,FF]at this;exact this
theorem gS (N:a5 L) {x:Rat} {k:Nat} (hx:Bt k x) (hk:k<2199023255552):Ev L 95 [.agg (eQ x)] (.agg (eQ x)):=by
 have:=xG N (decide (x.num<0)) false false _ _ ((hx.sm hk).1.le (by omega)) ((hx.sm hk).2.le (by omega))
 rw[FF]at this;exact this
theorem mQ (N:a5 L) {x:Rat} {k:Nat} (hx:Bt k x) (hk:k<2199023255552):Ev L 97 [.agg (eQ x)] (.int .i64 (dp x.num)):=by
 have:=Adf N (decide (x.num<0)) false false _ _ ((hx.sm hk).1.le (by omega)) ((hx.sm hk).2.le (by omega))
 rw[FF]at this;exact this
theorem fK {x:Rat}:dp x.num=0↔x=0:=by
 rw[<-Rat.num_eq_zero];unfold dp;split
 ·omega
 ·split<;>omega
theorem Afh (n:Bool) (m d:List Nat):qv (!n) m d = -(qv n m d):=by
 unfold qv;have h:zv (!n) m = -(zv n m):=by cases n<;>simp [zv]
 rw[h,Rat.neg_mkRat]
theorem Ai7 (n:Bool) (m d:List Nat):A6 (.agg (rQ false false n m d)):=by
 simp only[A6,CW,and_true,true_and];exact ⟨CS _,CS _⟩
theorem Za (N:cp L) (n:Bool) (m d:List Nat):Ev L 149 [.agg (rQ false false n m d)] (.agg (rQ false false (!n) m d)):=by
 refine Ev.x N.ZR rfl rfl ?_;cases n;all_goals
  (repeat' (apply AE<;>conv=>whnf))
  exact AY rfl (Ai7 _ _ _)
theorem rD (N:cp L) {x y:Rat} {k l:Nat} (hx:Bt k x) (hy:Bt l y) (hk:k<2199023255552) (hl:l<2199023255552):Ev L 150 [.agg (eQ x),.agg (eQ y)] (.agg (eQ (x-y))):=by
 have hF:=Za N (decide (y.num<0)) (dg y.num.natAbs) (dg y.den);have hA:=λ q3 q4=>Ade N.toa5 68719476736 (by omega) (decide (x.num<0)) (!decide (y.num<0)) false false q3 q4 _ _ _ _ (hx.sm hk).1 (hx.sm hk).2 (hy.sm hl).1 (hy.sm hl).2
 rw[Afh,FF,FF,<-Rat.sub_eq_add_neg]at hA;refine Ev.x N.ZP rfl rfl ?_;(repeat' ((first|apply Wx|apply AE|refine AD (hF) ?_|refine AD (hA _ _) ?_)<;>conv=>whnf))
 exact AY rfl (EE _)
theorem Adw {l:List Rat} {i:Nat} {x:Rat} (h:l[i]? = some x):l.getD i 0=x:=by rw[List.getD_eq_getElem?_getD,h];rfl
theorem AmO {l:List Rat} {i:Nat} (h:l.length<=i):l.getD i 0=0:=by rw[List.getD_eq_getElem?_getD,List.getElem?_eq_none h];rfl
theorem nA {l:List Rat} {k:Nat} (h:Bs k l) (i:Nat):Bt k (l.getD i 0):=by
 rw[List.getD_eq_getElem?_getD];cases e:l[i]? with
 | none=>exact Bt.zero k
 | some x=>exact h.at e
theorem Ol (z:Int):dp z = -1/\z<0\/dp z=0/\z=0\/dp z=1/\0<z:=by
 unfold dp;split
 ·exact Or.inl ⟨rfl,by omega⟩
 ·split
  ·exact Or.inr (Or.inr ⟨rfl,by omega⟩)
  ·exact Or.inr (Or.inl ⟨rfl,by omega⟩)
theorem Ajc {a b:Nat} {z:Int} (h:z=(a:Int)-b):DD a b=dp z:=by
 unfold DD dp;subst h;repeat' split
 all_goals omega
theorem Xt (N:al L) (n1 n2 q1 q2:Bool) (a b:List Nat) (ha:Sm 549755813888 a) (hb:Sm 549755813888 b):Ev L 197 [.agg (rZ q1 n1 a),.agg (rZ q2 n2 b)] (.int .i64 (dp (zv n1 a-zv n2 b))):=by
 have h1:=λ q=>qY N.toa5 n1 q a ha
 have h2:=λ q=>qY N.toa5 n2 q b hb
 have h3:=λ q q'=>cX N.tol9 a b q q' ha.1 hb.1 (by have:=ha.2;omega) (by have:=hb.2;omega)
 have h4:=λ q q'=>cX N.tol9 b a q q' hb.1 ha.1 (by have:=hb.2;omega) (by have:=ha.2;omega)
 have za:=E5 n1 a;have zb:=E5 n2 b;generalize zv n1 a=x at *;generalize zv n2 b=y at *;rcases Ol x with ⟨e1,g1⟩|⟨e1,g1⟩|⟨e1,g1⟩<;>rcases Ol y with ⟨e2,g2⟩|⟨e2,g2⟩|⟨e2,g2⟩
 all_goals
  rw[e1]at h1;rw[e2]at h2;refine Ev.x N.XU rfl rfl ?_;(repeat' ((first|(apply AG<;>intro hc<;>try (exfalso;omega))|apply AE|refine AD (h1 _) ?_|refine AD (h2 _) ?_|refine AD (h3 _ _) ?_|refine AD (h4 _ _) ?_)<;>conv=>whnf))
  first
   | exact DC (Om (by omega))
   | exact DC (On (by omega))
   | exact DC (Ajc (by omega))
theorem Amx (N:al L) (k:Nat) (hk:1<=k/\k<=68719476736) (n1 n2:Bool) (m1 d1 m2 d2:List Nat) (pj:Sm k m1) (se:Sm k d1) (np:Sm k m2) (vj:Sm k d2) :
  Ev L 198 [.agg (rQ false false n1 m1 d1),.agg (rQ false false n2 m2 d2)] (.int .i64 (dp (qv n1 m1 d1-qv n2 m2 d2).num)):=by
 obtain ⟨a1,a2,a3,w1,gi,s1,s2,s3,s4,s5⟩:=bV N.toa5 n1 m1 d1 k (by omega) pj se;obtain ⟨b1,b2,b3,w2,iu,t1,t2,t3,t4,t5⟩:=bV N.toa5 n2 m2 d2 k (by omega) np vj;rw[s5,t5,<-AeD s3 t3];by_cases hw:w1=true/\w2=true
 ·obtain ⟨rfl,rfl⟩:=hw
  have hC:=λ q q'=>Xt N a1 b1 q q' a2 b2 (s1.le (by omega)) (t1.le (by omega))
  rw[s4 rfl,t4 rfl];rw[show zv a1 a2*((1:Nat):Int)-zv b1 b2*((1:Nat):Int)=zv a1 a2-zv b1 b2 by omega];refine Ev.x N.QT rfl rfl ?_;(repeat' ((first|apply HC|apply AE|refine AD (gi) ?_|refine AD (iu) ?_|refine AD (hC _ _) ?_)<;>conv=>whnf))
  exact DC rfl
 ·have fj:=λ q q'=>gQ N.toa5 a1 false q q' a2 b3 s1.1 t2.1 (by have:=s1.2;have:=t2.2;omega)
  have jd:=λ q q'=>gQ N.toa5 b1 false q q' b2 a3 t1.1 s2.1 (by have:=t1.2;have:=s2.2;omega)
  have Bq:=jS N.toa5 a3;have zh:=jS N.toa5 b3;have g1:Sm (k+k) (dg (zv a1 a2*zv false b3).natAbs):=iO s1 t2;have g2:Sm (k+k) (dg (zv b1 b2*zv false a3).natAbs):=iO t1 s2;have hC:=λ q q'=>Xt N (decide (zv a1 a2*zv false b3<0)) (decide (zv b1 b2*zv false a3<0)) q q' _ _ (g1.le (by omega)) (g2.le (by omega))
  rw[GK,GK]at hC;rw[<-F8 b3,<-F8 a3];generalize zv a1 a2*zv false b3=x at *;generalize zv b1 b2*zv false a3=y at *;refine Ev.x N.QT rfl rfl ?_;cases w1<;>cases w2
  ·(repeat' ((first|apply HC|apply fW|apply AE|refine AD (gi) ?_|refine AD (iu) ?_|refine AD (Bq) ?_|refine AD (zh) ?_|refine AD (fj _ _) ?_|refine AD (jd _ _) ?_|refine AD (hC _ _) ?_)<;>conv=>whnf))
   exact DC rfl
  ·(repeat' ((first|apply HC|apply fW|apply AE|refine AD (gi) ?_|refine AD (iu) ?_|refine AD (Bq) ?_|refine AD (zh) ?_|refine AD (fj _ _) ?_|refine AD (jd _ _) ?_|refine AD (hC _ _) ?_)<;>conv=>whnf))
   exact DC rfl
  ·(repeat' ((first|apply HC|apply fW|apply AE|refine AD (gi) ?_|refine AD (iu) ?_|refine AD (Bq) ?_|refine AD (zh) ?_|refine AD (fj _ _) ?_|refine AD (jd _ _) ?_|refine AD (hC _ _) ?_)<;>conv=>whnf))
   exact DC rfl
  ·exact absurd ⟨rfl,rfl⟩ hw
theorem Yy (N:al L) {x y:Rat} {k l:Nat} (hx:Bt k x) (hy:Bt l y) (hk:k<2199023255552) (hl:l<2199023255552):Ev L 198 [.agg (eQ x),.agg (eQ y)] (.int .i64 (dp (x-y).num)):=by
 have:=Amx N 68719476736 (by omega) (decide (x.num<0)) (decide (y.num<0)) _ _ _ _ (hx.sm hk).1 (hx.sm hk).2 (hy.sm hl).1 (hy.sm hl).2
 rw[FF,FF]at this;exact this
theorem Xz (N:al L) {x:Rat} {k:Nat} (hx:Bt k x) (hk:k<2199023255552):Ev L 199 [.agg (eQ x)] (.agg (eQ (-x))):=by
 have hF:=Za N.tocp (decide (x.num<0)) (dg x.num.natAbs) (dg x.den);have hT:=λ q1 q2=>xG N.toa5 (!decide (x.num<0)) q1 q2 _ _ ((hx.sm hk).1.le (by omega)) ((hx.sm hk).2.le (by omega))
 rw[Afh,FF]at hT;refine Ev.x N.ZM rfl rfl ?_;(repeat' ((first|apply Wx|apply AE|refine AD (hF) ?_|refine AD (hT _ _) ?_)<;>conv=>whnf))
 exact AY rfl (EE _)
theorem Yb (N:al L) (q:Bool) (l:List Rat) (k:Nat) (hl:Bs k l) (hk:k<2199023255552) (hn:l.length<=1000000):Ev L 200 [.sl q (l.map eQ)] (.int .i64 ((I0 l l.length:Int)-1)):=by
 refine Ev.x N.ZI rfl rfl ?_;(repeat' (apply AE<;>conv=>whnf))
 refine FY 1000 N.ZJ rfl rfl ?_;(repeat' ((first|apply AU|apply AE)<;>conv=>whnf))
 refine B6 (λ n=>n) (λ(n:Nat)=>n<=l.length/\I0 l l.length=I0 l n) (λ n=>[(3,.int .i64 n)]) (λ_=>[]) [] [] l.length (by (conv=>whnf);exact ⟨rfl,rfl,rfl⟩) ⟨Nat.le_refl _,rfl⟩ ?_;intro n ⟨p1,p2⟩ ih;have done : ∀ {n:Nat},I0 l l.length=n->cE l=l.take n:=λ h=>by rw[cE,h]
 by_cases hz:n=0\/(∃ m x,n=m+1/\l[m]? = some x/\x≠0)
 ·have Ih:I0 l l.length=n:=by
   rw[p2];rcases hz with rfl|⟨m,x,rfl,h1,h2⟩
   ·rfl
   ·rw[I0,if_neg]
    rw[List.getD_eq_getElem?_getD,h1];exact h2
  have htq:=done Ih;have fm:(l.take n).length=n:=by rw[List.length_take];omega
  clear ih Ih p2 done;rcases hz with h0|⟨m,x,hnm,h1,h2⟩
  case' inl=>(repeat' ((first|(apply AG<;>intro hc<;>try (exfalso;omega))|apply AE)<;>conv=>whnf))
  case' inr =>
   have Bb:l[((n:Int)-1).toNat]? = some x:=by rw[show ((n:Int)-1).toNat=m by omega];exact h1
   have Ht:=mQ N.toa5 (hl.at h1) (by omega);have hs:=fK (x:=x);generalize dp x.num=s at *;have hS : ∀ v,l[((n:Int)-1).toNat]? = some v->Ev L 97 [.agg (eQ v)] (.int .i64 s):=λ v h=>by
    obtain rfl:=Option.some.inj (Bb.symm.trans h);exact Ht
   have sn:s≠0:=λ h=>h2 (hs.1 h)
   (repeat' ((first|(apply AG<;>intro hc<;>try (exfalso;omega))|(apply CB;omega)|(refine BH (by assumption) ?_ rfl ?_;omega)|apply AE|refine AD (Ht) ?_)<;>conv=>whnf))
  all_goals
   refine gB (enc:=eQ) (λ_=>rfl) p1 ?_;(conv=>whnf)
   skip
   refine ⟨rfl,_,rfl,?_⟩;(conv=>whnf)
   (repeat' ((first|(apply CB;omega)|apply AU)<;>conv=>whnf))
   have Ii:I0 l l.length=n:=by rw[<-Agt,htq,fm]
   rw[Ii];exact DC (by rw[fm])
 ·obtain ⟨m,rfl⟩ : ∃ m,n=m+1:=⟨n-1,by omega⟩
  obtain ⟨x,hx⟩ : ∃ x,l[m]? = some x:=⟨_,zE (by omega)⟩;have xj:x=0:=by
   rcases Classical.em (x=0) with h|h
   ·exact h
   ·exact (hz (Or.inr ⟨m,x,rfl,hx,h⟩)).elim
  have nq:l[((m+1:Nat)-1:Int).toNat]? = some x:=by rw[show ((m+1:Nat)-1:Int).toNat=m by omega];exact hx
  have Ht:=mQ N.toa5 (hl.at hx) (by omega);have hs:=fK (x:=x);generalize dp x.num=s at *;have hS : ∀ v,l[((m+1:Nat)-1:Int).toNat]? = some v->Ev L 97 [.agg (eQ v)] (.int .i64 s):=λ v h=>by
   obtain rfl:=Option.some.inj (nq.symm.trans h);exact Ht
  have sn:=hs.2 xj;(repeat' ((first|(apply AG<;>intro hc<;>try (exfalso;omega))|(apply CB;omega)|(refine BH (by assumption) ?_ rfl ?_;omega)|apply AE|refine AD (Ht) ?_)<;>conv=>whnf))
  rw[show ((m+1:Nat):Int)-1=(m:Int) by omega];exact BL [] (ih m (by omega) ⟨by omega,by rw[p2,I0,if_pos (by rw[List.getD_eq_getElem?_getD,hx];exact xj)]⟩)
end Go.e9

namespace Go.e9
open F
attribute [local irreducible] AA AF AM AC CK AR AW BD A7 BW AQ BT CD DB BP A4 BO CE AB A8 AJ pw B4 BK CF CI CN CX CJ BS CM
set_option maxHeartbeats 1000000
variable {L:Lib}
def GW (n:Int):Prop := -9223372036854775808<=n/\n<=9223372036854775807
structure Wd where
 b:Int
 f:Int
 r:Int
 o:Int
def WV (w:Wd):Prop:=4<=w.b/\w.b<=24/\0<=w.f/\w.f<w.b/\1<=w.r/\w.r<=3/\1<=w.o/\w.o<=2
instance (w : Wd) : Decidable (WV w) := by unfold WV; infer_instance
variable (w:Wd)
def Aof:Int:=if WV w then -pw (w.b-1) else 0
def Ann:Int:=if WV w then pw (w.b-1)-1 else 0
def FT (v:Int):Prop:=WV w/\Aof w<=v/\v<=Ann w
instance (v : Int) : Decidable (FT w v) := by unfold FT; infer_instance
end Go.e9

namespace Go.e9
open F
attribute [local irreducible] AA AF AM AC CK AR AW BD A7 BW AQ BT CD DB BP A4 BO CE AB A8 AJ pw B4 BK CF CI CN CX CJ BS CM
set_option maxHeartbeats 1000000
variable {L:Lib}
structure Nd where
 q:Bool
 ts:List (Int × Int)
structure Nt where
 d:Wd
 c:Wd
 s:Int
 qn:Bool
 nodes:List Nd
 qx:Bool
 next:List Int
 out:Int
variable (n:Nt)
end Go.e9

namespace Go.e9
open F
attribute [local irreducible] AA AF AM AC CK AR AW BD A7 BW AQ BT CD DB BP A4 BO CE AB A8 AJ pw B4 BK CF CI CN CX CJ BS CM
variable {L:Lib}
set_option maxHeartbeats 1000000
def ES (v m:Int):Int:=if m<1 then 0 else v%m
theorem xK (W:bh L) (v m:Int) (hv:GW v) (hm:m<=9223372036854775807):Ev L 34 [.int .i64 v,.int .i64 m] (.int .i64 (ES v m)):=by
 unfold GW at hv;refine Ev.x W.bF rfl rfl ?_;(repeat' ((first|(apply AG<;>intro hc<;>try (exfalso;omega))|(apply AX;omega)|(refine gA ?_ (λ_ _ _ => ?_) (λ_ _ _ _ => ?_);omega;all_goals try (exfalso;omega))|apply AE)<;>conv=>whnf))
 all_goals (refine DC ?_;unfold ES;first|rw[if_pos (by omega)]|rw[if_neg (by omega)])
 all_goals omega
def EY (l:List Int) (i:Int):Int:=if 0<=i/\i<l.length then l.getD i.toNat 0 else 0
theorem xJ (W:bh L) (l:List Int) (q:Bool) (i:Int):Ev L 35 [.sl q (l.map cU),.int .i64 i] (.int .i64 (EY l i)):=by
 refine Ev.x W.bD rfl rfl ?_;(repeat' ((first|(apply AG<;>intro hc<;>try (exfalso;omega))|apply AU|(refine uJ ?_ (λ_=>rfl) (λ e he => ?_);omega)|apply AE)<;>conv=>whnf))
 all_goals (refine DC ?_;unfold EY;first|rw[if_neg (by omega)]|(rw[if_pos (by omega),List.getD_eq_getElem?_getD,he];rfl))
theorem AqR {v m:Int} (h:1<=m):0<=ES v m/\ES v m<m:=by
 unfold ES;rw[if_neg (by omega)];exact ⟨Int.emod_nonneg _ (by omega),Int.emod_lt_of_pos _ (by omega)⟩
end Go.e9

namespace Go.e9
open F
attribute [local irreducible] AA AF AM AC CK AR AW BD A7 BW AQ BT CD DB BP A4 BO CE AB A8 AJ pw B4 BK CF CI CN CX CJ BS CM
variable {L:Lib} (n:Nt)
set_option maxHeartbeats 1000000
end Go.e9

namespace Go.e9
open F
attribute [local irreducible] AA AF AM AC CK AR AW BD A7 BW AQ BT CD DB BP A4 BO CE AB A8 AJ pw B4 BK CF CI CN CX CJ BS CM
variable {L:Lib}
set_option maxHeartbeats 4000000
theorem Yw (N:jt L) (S:E7) (n k:Nat) (h:S.Ok n k) (hn:n<=64):Ev L 130 [.agg (eS S)] (.bool true):=by
 have h1:=h.la;have h2:=h.lb;have h3:=h.lc;refine Ev.x N.YW rfl rfl ?_;(repeat' ((first|(apply AG<;>intro hc<;>try (exfalso;omega))|apply AU|apply AE)<;>conv=>whnf))
 refine B6 (λ i=>S.a.length-i) (λ(i:Nat)=>i<=S.a.length) (λ i=>[(28,.int .i64 i)]) (λ_=>[]) [] [] 0 (by (conv=>whnf);exact ⟨rfl,rfl,rfl⟩) (by omega) ?_;intro i p1 ih;by_cases hi:i<S.a.length
 ·obtain ⟨r,hr⟩ : ∃ r,S.a[i]? = some r:=⟨_,zE hi⟩
  have ov:S.a[(i:Int).toNat]? = some r:=hr;have gm:=h.lr r (zM hr);(repeat' ((first|(apply AG<;>intro hc<;>try (exfalso;omega))|(apply AX;omega)|apply AU|(refine BH (by assumption) ?_ rfl ?_;omega)|apply AE)<;>conv=>whnf))
  exact BL [] (ih (i+1) (by omega) (by omega))
 ·obtain rfl:i=S.a.length:=by omega
  clear ih;(repeat' ((first|(apply AG<;>intro hc<;>try (exfalso;omega))|apply AE)<;>conv=>whnf))
  exact JR rfl
end Go.e9

namespace Go.e9
theorem Bs.getD {k:Nat} {l:List Rat} (h:Bs k l) (i:Nat):Bt k (l.getD i 0):=by
 rw[List.getD_eq_getElem?_getD];cases e:l[i]? with
 | none=>exact Bt.zero k
 | some x=>exact h.at e
theorem Bt.ofInt {k:Nat} {z:Int} (h:z.natAbs<=2^k):Bt k ((z:Int):Rat):=⟨by rw[Rat.num_intCast];exact h,by rw[Rat.den_intCast];exact Nat.one_le_two_pow⟩
theorem AeO (σ:F5) (k:Nat) : ∀ (n i:Nat),B9 σ k i (List.replicate n none)=List.replicate n [.nil]
 | 0,_=>rfl
 | n+1,i=>by
  rw[List.replicate_succ,List.replicate_succ];show [AV.nil]::B9 σ k (i+1) (List.replicate n none)=_;rw[AeO σ k n (i+1)]
theorem AgM {L:Lib} {kk:List It} {tm:Tm} {M:Mem} {Q:Tm->Mem->Prop} (k s n:Nat) (e:l6 M k=some (s,.mx (List.replicate n none))) (h:AA L kk tm ((k,s,.rw 1 (List.replicate n [.nil]))::M) Q):AA L kk tm M Q:=by
 intro σ st hr;have hg : ∀ j t c,g8 ((k,s,.rw 1 (List.replicate n [.nil]))::M) j t=some c -> ∃ c0,g8 M j t=some c0/\c0.m5 σ j=c.m5 σ j:=by
  intro j t c g;by_cases hj:j=k
  ·subst hj
   cases t with
   | zero =>
    have h1:l6 ((j,s,A9.rw 1 (List.replicate n [.nil]))::M) j=some (s,.rw 1 (List.replicate n [.nil])):=by simp [l6]
    simp only[g8,h1,Option.some.injEq]at g;subst g;refine ⟨.mx (List.replicate n none),by simp only[g8,e],?_⟩;simp only[A9.m5,AeO]
   | succ i =>
    have h1:l6 ((j,s,A9.rw 1 (List.replicate n [.nil]))::M) j=some (s,.rw 1 (List.replicate n [.nil])):=by simp [l6]
    simp only[g8,h1]at g;cases g
  ·have h1:l6 ((k,s,A9.rw 1 (List.replicate n [.nil]))::M) j=l6 M j:=by
    have hb:Nat.beq j k=false:=by
     cases fw:Nat.beq j k with
     | false=>rfl
     | true=>exact absurd (Nat.eq_of_beq_eq_true fw) hj
    simp only[l6,hb,cond_false]
   refine ⟨c,?_,rfl⟩;simp only[g8,h1]at g ⊢;exact g
 refine h σ st ⟨hr.tm,⟨?_,?_,?_,?_,?_⟩⟩
 ·intro j s' c g
  by_cases hj:j=k
  ·subst hj
   have h1:l6 ((j,s,A9.rw 1 (List.replicate n [.nil]))::M) j=some (s,.rw 1 (List.replicate n [.nil])):=by simp [l6]
   rw[h1]at g;simp only[Option.some.injEq,Prod.mk.injEq]at g;obtain ⟨rfl,_⟩:=g;exact hr.sat.site _ _ _ e
  ·have h1:l6 ((k,s,A9.rw 1 (List.replicate n [.nil]))::M) j=l6 M j:=by
    have hb:Nat.beq j k=false:=by
     cases fw:Nat.beq j k with
     | false=>rfl
     | true=>exact absurd (Nat.eq_of_beq_eq_true fw) hj
    simp only[l6,hb,cond_false]
   rw[h1]at g;exact hr.sat.site _ _ _ g
 ·intro j t c g
  obtain ⟨c0,q1,q2⟩:=hg j t c g;rw[<-q2];exact hr.sat.m5 _ _ _ q1
 ·intro j t c g
  obtain ⟨c0,q1,_⟩:=hg j t c g;exact hr.sat.old _ _ _ q1
 ·intro j t j' t' c c' g g' hσ
  obtain ⟨c0,q1,_⟩:=hg j t c g;obtain ⟨c1,q2,_⟩:=hg j' t' c' g';exact hr.sat.inj _ _ _ _ _ _ q1 q2 hσ
 ·intro j t c g hw
  cases t with
  | zero =>
   by_cases hj:j=k
   ·subst hj;exact hr.sat.low _ _ _ (EM e) rfl
   ·rw[WO hj]at g;exact hr.sat.low _ _ _ g hw
  | succ t =>
   obtain ⟨c0,q1,_⟩:=hg _ _ _ g;exact hr.sat.low _ _ _ q1 (zJ q1)
end Go.e9



namespace Go.e9
open F
attribute [local irreducible] AA AF AM AC CK AR AW BD A7 BW AQ BT CD DB BP A4 BO CE AB A8 AJ pw B4 BK CF CI CN CX CJ BS CM
variable {L:Lib}
set_option maxHeartbeats 4000000
theorem oQ (m p:Nat):(List.replicate m (0:Rat)).set p 1=EZ m p:=by
 refine List.ext_getElem? λ j => ?_
 simp only[EZ,List.getElem?_set,List.getElem?_map,List.getElem?_replicate,List.length_replicate];by_cases h:j<m
 ·rw[List.getElem?_range h]
  by_cases e:p=j
  ·subst e;simp [h]
  ·simp [h,e];intro h3;omega
 ·rw[List.getElem?_eq_none (by simpa using h)]
  simp [h];intro e;omega
theorem AmK {α:Type} (a b:α) {t m:Nat} (_:t<=m) (h:t<m):(List.replicate t a++List.replicate (m-t) b).set t a=List.replicate (t+1) a++List.replicate (m-(t+1)) b:=by
 obtain ⟨k,hk⟩ : ∃ k,m-t=k+1:=⟨m-t-1,by omega⟩;rw[List.set_append_right _ _ (by simp),hk,List.length_replicate,Nat.sub_self,List.replicate_succ,List.set_cons_zero,show m-(t+1)=k by omega,List.replicate_succ',List.append_assoc];rfl
def fz {α:Type} (z:α) (l:List α) (m:Nat):List α:=l++List.replicate (m-l.length) z
theorem gW {α:Type} {z:α} {l:List α} {m:Nat} (h:l.length<=m):(fz z l m).length=m:=by simp [fz];omega
theorem gX {α:Type} {z x:α} {l:List α} {m:Nat} (h:l.length<m):(fz z l m).set l.length x=fz z (l++[x]) m:=by
 unfold fz;obtain ⟨k,hk⟩ : ∃ k,m-l.length=k+1:=⟨m-l.length-1,by omega⟩;rw[List.set_append_right _ _ (by simp),hk,Nat.sub_self,List.replicate_succ,List.set_cons_zero,List.length_append,List.length_singleton,show m-(l.length+1)=k by omega,List.append_assoc];rfl
theorem AmM {α:Type} {z:α} {l:List α} {m:Nat} (h:l.length<m):(fz z l m)[l.length]? = some z:=by
 unfold fz;rw[List.getElem?_append_right (by omega),Nat.sub_self,List.getElem?_replicate,if_pos (by omega)]
theorem gV {α:Type} {z:α} {l:List α} {m:Nat} (h:l.length=m):fz z l m=l:=by simp [fz,h]
theorem tP {α:Type} {l:List α} {i:Nat} {x:α} (h:l[i]? = some x):l.take (i+1)=l.take i++[x]:=by
 rw[List.take_add_one,h];rfl
end Go.e9

namespace Go.e9
def CO (m:List (List Rat)) (j:Nat):List Rat:=m.map λ r=>r.getD j 0
def EU (r:List Rat) (m:List (List Rat)) (n:Nat):List Rat:=(List.range n).map λ j=>AZ r (CO m j)
def C1 (a m:List (List Rat)) (n:Nat):List (List Rat):=a.map λ r=>EU r m n
def FL (n:Nat):List (List Rat):=(List.range n).map λ i:Nat=>EZ n i
def BX (m:List (List Rat)) (b:List Rat):List Rat:=m.map λ r=>AZ r b
theorem qH (m:List (List Rat)) (j:Nat):(CO m j).length=m.length:=by simp [CO]
theorem AeJ (r:List Rat) (m:List (List Rat)) (n:Nat):(EU r m n).length=n:=by simp [EU]
theorem Aoy (a m:List (List Rat)) (n:Nat):(C1 a m n).length=a.length:=by simp [C1]
theorem kG (m:List (List Rat)) (b:List Rat):(BX m b).length=m.length:=by simp [BX]
structure Sq (n:Nat) (m:List (List Rat)):Prop where
 l:m.length=n
 r : ∀ r∈m,r.length=n
theorem Sq.at {n:Nat} {m:List (List Rat)} (h:Sq n m) {i:Nat} {r:List Rat} (hr:m[i]? = some r):r.length=n:=h.r r (zM hr)
theorem Sq.mul {n:Nat} {a:List (List Rat)} (h:a.length=n) (m:List (List Rat)):Sq n (C1 a m n):=by
 refine ⟨by rw[Aoy,h],λ r hr => ?_⟩;obtain ⟨x,_,rfl⟩:=List.mem_map.1 hr;exact AeJ _ _ _
theorem Sq.id (n:Nat):Sq n (FL n):=by
 refine ⟨by simp [FL],λ r hr => ?_⟩;obtain ⟨i,_,rfl⟩:=List.mem_map.1 hr;exact oP _ _
def Ms (k:Nat) (m:List (List Rat)):Prop := ∀ r∈m,Bs k r
theorem Ms.at {k:Nat} {m:List (List Rat)} (h:Ms k m) {i:Nat} {r:List Rat} (hr:m[i]? = some r):Bs k r:=h r (zM hr)
theorem Ms.getD {k:Nat} {m:List (List Rat)} (h:Ms k m) (i j:Nat):Bt k ((m.getD i []).getD j 0):=by
 rw[List.getD_eq_getElem?_getD,List.getD_eq_getElem?_getD];cases e:m[i]? with
 | none=>exact Bt.zero k
 | some r =>
  simp only[Option.getD_some];cases e2:r[j]? with
  | none=>exact Bt.zero k
  | some x=>exact (h.at e).at e2
theorem Ms.le {k j:Nat} {m:List (List Rat)} (h:Ms k m) (hj:k<=j):Ms j m:=λ r hr=>(h r hr).le hj
theorem Ms.Ph {k:Nat} {m:List (List Rat)} (h:Ms k m) (j:Nat):Bs k (CO m j):=by
 intro x hx;obtain ⟨r,hr,rfl⟩:=List.mem_map.1 hx;rw[List.getD_eq_getElem?_getD];cases e:r[j]? with
 | none=>exact Bt.zero k
 | some x=>exact (h r hr).at e
theorem Ms.mul {n k s:Nat} {a m:List (List Rat)} (ha:Ms k a) (hs:Sq n a) (hm:Ms s m):Ms (n*(k+s+1)) (C1 a m n):=by
 intro r hr x hx;obtain ⟨r,h1,rfl⟩:=List.mem_map.1 hr;obtain ⟨j,_,rfl⟩:=List.mem_map.1 hx;have:=(ha r h1).dot (hm.Ph j)
 rw[hs.r r h1]at this;exact this
end Go.e9

namespace Go.e9
variable {L:Lib}
end Go.e9

namespace Go.e9
open F
attribute [local irreducible] AA AF AM AC CK AR AW BD A7 BW AQ BT CD DB BP A4 BO CE AB A8 AJ pw B4 BK CF CI CN CX CJ BS CM
variable {L:Lib}
set_option maxHeartbeats 16000000
def ot (P:List (List Rat)) (n j i:Nat):List (List (Option Rat)):=(List.range P.length).map λ r=>DH ((P.getD r []).take (if r<i then j+1 else j)) n
theorem nP (P:List (List Rat)) (n j i:Nat):(ot P n j i).length=P.length:=by simp [ot]
theorem AmQ {P:List (List Rat)} {i:Nat} {row:List Rat} (h:P[i]? = some row):P.getD i []=row:=by rw[List.getD_eq_getElem?_getD,h];rfl
theorem sH {P:List (List Rat)} {n j i r:Nat} {row:List Rat} (h:P[r]? = some row):(ot P n j i)[r]? = some (DH (row.take (if r<i then j+1 else j)) n):=by
 have h1:=(zS h).1;simp only[ot,List.getElem?_map,List.getElem?_range h1,Option.map_some,AmQ h]
theorem AoZ {P:List (List Rat)} {n j i:Nat} {row:List Rat} (h:P[i]? = some row):(ot P n j i).set i (DH (row.take (j+1)) n)=ot P n j (i+1):=by
 refine List.ext_getElem? λ r => ?_
 rw[List.getElem?_set,nP];cases e:P[r]? with
 | none =>
  have h1:=List.getElem?_eq_none_iff.1 e;have h2:=(zS h).1;rw[List.getElem?_eq_none (by rw[nP];exact h1),if_neg (by omega),List.getElem?_eq_none (by rw[nP];exact h1)]
 | some rw' =>
  rw[sH e,sH e];by_cases hi:i=r
  ·subst hi
   obtain rfl:=Option.some.inj (h.symm.trans e);have h2:=(zS h).1;rw[if_pos rfl,if_pos h2,if_pos (by omega)]
  ·rw[if_neg hi]
   by_cases h3:r<i
   ·rw[if_pos h3,if_pos (by omega)]
   ·rw[if_neg h3,if_neg (by omega)]
theorem AoY (P:List (List Rat)) (n j:Nat):ot P n j P.length=ot P n (j+1) 0:=by
 refine List.map_congr_left λ r hr => ?_
 rw[if_pos (List.mem_range.1 hr),if_neg (by omega)]
theorem Ao0 (P:List (List Rat)) (n:Nat):ot P n 0 0=List.replicate P.length (DH [] n):=by
 refine List.ext_getElem? λ r => ?_
 simp only[ot,List.getElem?_map,List.getElem?_replicate];by_cases h:r<P.length
 ·rw[List.getElem?_range h,if_pos h];simp
 ·rw[List.getElem?_eq_none (by simp;omega),if_neg h];rfl
theorem AoX {P:List (List Rat)} {n:Nat} (h : ∀ r∈P,r.length=n):B7 3 eO (ot P n n 0)=B7 3 eQ P:=by
 refine List.ext_getElem? λ r => ?_
 simp only[B7,List.getElem?_map];cases e:P[r]? with
 | none=>rw[List.getElem?_eq_none (by rw[nP];exact List.getElem?_eq_none_iff.1 e)];rfl
 | some row =>
  have hl:=h row (zM e);rw[sH e,if_neg (by omega),List.take_of_length_le (by omega)];simp only[Option.map_some,OO hl]
end Go.e9

namespace Go.e9
theorem dS {R:List (Option (Nat × List (List AV)))} {i e z:Nat} {es:List (List AV)} {K:Option (Nat × List (List AV))->Prop} (he:e=i) (hi:i<R.length) (h:K (some (z,es))):B4 (R.set i (some (z,es))) e K:=by
 subst he;exact ⟨_,by rw[List.getElem?_set,if_pos rfl,if_pos hi],h⟩
theorem cJ {R:List (Option (Nat × List (List AV)))} {i e z:Nat} {es:List (List AV)} {K:Nat->List (List AV)->Prop} (he:e=i) (hi:i<R.length) (h:K z es):BK (R.set i (some (z,es))) e K:=by
 subst he;exact ⟨z,es,by rw[List.getElem?_set,if_pos rfl,if_pos hi],h⟩
theorem jD {R:List (Option (Nat × List (List AV)))} {i e z:Nat} {es es':List (List AV)} {K:List (Option (Nat × List (List AV)))->Prop} (he:e=i) (hl:es'.length=es.length) (h:K (R.set i (some (z,es')))):CI (R.set i (some (z,es))) e z es es' K:=by
 subst he;exact ⟨hl,by rw[List.set_set];exact h⟩
theorem dX {R:List (Option (Nat × List (List AV)))} {i e z:Nat} {es:List (List AV)} {K:List (Option (Nat × List (List AV)))->Prop} (he:e=i) (hi:i<R.length) (h:K (R.set i (some (z,es)))):CF R e z es K:=by
 subst he;exact ⟨hi,h⟩
end Go.e9

namespace Go.e9
open F
attribute [local irreducible] AA AF AM AC CK AR AW BD A7 BW AQ BT CD DB BP A4 BO CE AB A8 AJ pw B4 BK CF CI CN CX CJ BS CM
variable {L:Lib}
set_option maxHeartbeats 16000000
def mz (Q:List (List Rat)) (n i:Nat):List (Option (Nat × List (List AV))):=fz none (B7 3 eQ (Q.take i)) n
theorem kK {Q:List (List Rat)} {n i:Nat} (hi:i<=n):(mz Q n i).length=n:=by
 refine gW ?_;simp only[B7,List.length_map,List.length_take];omega
theorem kN (Q:List (List Rat)) (n:Nat):mz Q n 0=List.replicate n none:=by simp [mz,fz]
theorem kL {Q:List (List Rat)} {n i:Nat} {row:List Rat} (h:Q[i]? = some row) (hi:i<n):(mz Q n i).set i (some (3,row.map eQ))=mz Q n (i+1):=by
 have h1:=(zS h).1;have hl:(B7 3 eQ (Q.take i)).length=i:=by simp only[B7,List.length_map,List.length_take];omega
 have:=gX (z:=none) (l:=B7 3 eQ (Q.take i)) (m:=n) (x:=some (3,row.map eQ)) (by omega)
 rw[hl]at this;rw[mz,this,mz,tP h];simp [B7]
theorem kJ {Q:List (List Rat)} {n:Nat} (h:Q.length=n):mz Q n n=B7 3 eQ Q:=by
 rw[mz,List.take_of_length_le (by omega)];exact gV (by simp [B7,h])
def cz (row:List Rat) (n j:Nat):List Rat:=fz 0 (row.take j) n
theorem Zi {row:List Rat} {n j:Nat} (hj:j<=n):(cz row n j).length=n:=by
 refine gW ?_;rw[List.length_take];omega
theorem Zj (row:List Rat) (n:Nat):cz row n 0=List.replicate n 0:=by simp [cz,fz]
theorem Acc {row:List Rat} {n j:Nat} {x:Rat} (h:row[j]? = some x) (hj:j<n):(cz row n j).set j x=cz row n (j+1):=by
 have h1:=(zS h).1;have hl:(row.take j).length=j:=by rw[List.length_take];omega
 have:=gX (z:=(0:Rat)) (l:=row.take j) (m:=n) (x:=x) (by omega)
 rw[hl]at this;rw[cz,this,cz,tP h]
theorem Zh {row:List Rat} {n:Nat} (h:row.length=n):cz row n n=row:=by
 rw[cz,List.take_of_length_le (by omega)];exact gV h
end Go.e9

namespace Go.e9
open Go.ChangeShapes Go.WideShapes Go.ChangeAt Go.RowKit
inductive Ty where
 | int (k:IntKind)
 | bool
 | sl (e:Ty)
 | nil
 | cons (a r:Ty)
def Ty.cells:Ty->Nat
 | .int _=>1 | .bool=>1 | .sl _=>1
 | .nil=>0
 | .cons a r=>a.cells+r.cells
def H0:Ty->List AV->Prop
 | .int k,cs => ∃ n,cs=[.int k n]/\(Lit.int k n).wf=true
 | .bool,cs => ∃ b,cs=[.bool b]
 | .sl e,cs => ∃ es,cs=[.sl true es]/\es.length<=maxLen /\ ∀ x∈es,H0 e x
 | .nil,cs=>cs=[]
 | .cons a r,cs => ∃ x y,cs=x++y/\H0 a x/\H0 r y
theorem H0.len : ∀ {ty:Ty} {cs:List AV},H0 ty cs->cs.length=ty.cells
 | .int _,cs,h=>by obtain ⟨n,rfl,_⟩:=h;rfl
 | .bool,cs,h=>by obtain ⟨n,rfl⟩:=h;rfl
 | .sl _,cs,h=>by obtain ⟨n,rfl,_⟩:=h;rfl
 | .nil,cs,h=>by rw[show cs=[] from h];rfl
 | .cons a r,cs,h=>by obtain ⟨x,y,rfl,h1,h2⟩:=h;simp [Ty.cells,H0.len h1,H0.len h2]
def Y8 (P:Program):Nat->TypeId->Ty->Bool
 | 0,_,_=>false
 | n+1,t,ty=>match P.underlying t,ty with
  | some (.int k),.int k'=>decide (k=k')
  | some .bool,.bool=>true
  | some (.slice e),.sl qa=>Y8 P n e qa&&(P.cellsOf e == qa.cells&&decide (0<qa.cells))
  | some (.struct fs),ty=>go (Y8 P n) fs.toList 0 ty&&P.cellsOf t == ty.cells
  | _,_=>false
where
 go (ok:TypeId->Ty->Bool):List Field->Nat->Ty->Bool
  | [],_,.nil=>true
  | f::fs,off,.cons a r=>(f.offset == off&&(ok f.type a&&P.cellsOf f.type == a.cells))&&go ok fs (off+a.cells) r
  | _,_,_=>false
section
variable {H:Type} {enc:TypeId × Value->H} {P:Program} {w:World} {base:Nat} {spare:Nat->Bool} {held:Bool} {R:Bool->Nat->Prop}
def IW (w:World) (R:Bool->Nat->Prop) (as:List AV) (cs:List Value):Prop:=as.length=cs.length /\ ∀ (j:Nat) (a:AV) (c:Value),as[j]? = some a->cs[j]? = some c->Rd w R a c
theorem IW.one {a:AV} {c:Value} (h:Rd w R a c):IW w R [a] [c]:=by
 refine ⟨rfl,λ j a' c' h1 h2 => ?_⟩;cases j with
 | zero=>simp at h1 h2;subst h1 h2;exact h
 | succ j=>simp at h1
theorem IW.append {as bs:List AV} {cs ds:List Value} (h1:IW w R as cs) (h2:IW w R bs ds):IW w R (as++bs) (cs++ds):=by
 refine ⟨by simp [h1.1,h2.1],λ j a c ha hc => ?_⟩;by_cases hj:j<as.length
 ·rw[List.getElem?_append_left hj]at ha
  rw[List.getElem?_append_left (by rw[<-h1.1];exact hj)]at hc;exact h1.2 j a c ha hc
 ·rw[List.getElem?_append_right (by omega)]at ha
  rw[List.getElem?_append_right (by rw[<-h1.1];omega),<-h1.1]at hc;exact h2.2 _ a c ha hc
theorem Xq (a:Addr) (i:Nat) (h:a.spot=none):a.add i=⟨a.block,a.off+i,none⟩:=by
 obtain ⟨b,o,s⟩:=a;simp only at h;subst h;exact H8 b o i
theorem Ae2 (hR : ∀ b,b<w.heap.size->R true b) (m:Nat) (ih : ∀ (ty:Ty) (t:TypeId) (cs:List Value) (fuel:Nat) (x:DataW H × List MemPlace),Y8 P m t ty=true->DataW.trod enc P w base spare held fuel t cs=some x -> ∃ as,H0 ty as/\IW w R as cs)
  (n:Nat) (cs:List Value) : ∀ (fs:List Field) (off:Nat) (ty:Ty),Y8.go P (Y8 P m) fs off ty=true->(∀ f∈fs,∃ y,DataW.trod enc P w base spare held n f.type ((cs.drop f.offset).take (P.cellsOf f.type))=some y)->off+ty.cells=cs.length -> ∃ as,H0 ty as/\IW w R as (cs.drop off)
 | [],off,ty,n7,_,hl=>by
  cases ty<;>simp only[Y8.go,Bool.false_eq_true]at n7;simp only[Ty.cells]at hl;exact ⟨[],rfl,by rw[List.drop_of_length_le (by omega)];exact ⟨rfl,λ j a c h=>by simp at h⟩⟩
 | f::fs,off,ty,n7,hf,hl=>by
  cases ty<;>simp only[Y8.go,Bool.false_eq_true,Bool.and_eq_true,beq_iff_eq]at n7;rename_i a r;obtain ⟨⟨h1,h2,h3⟩,h4⟩:=n7;simp only[Ty.cells]at hl;obtain ⟨y,hy⟩:=hf f List.mem_cons_self;rw[h1,h3]at hy;obtain ⟨as1,g1,g2⟩:=ih a f.type _ n y h2 hy;obtain ⟨as2,g3,g4⟩:=Ae2 hR m ih n cs fs (off+a.cells) r h4 (λ f' h'=>hf f' (List.mem_cons_of_mem _ h')) (by omega);refine ⟨as1++as2,⟨as1,as2,rfl,g1,g3⟩,?_⟩;have:=g2.append g4
  rwa [show (cs.drop off).take a.cells++cs.drop (off+a.cells)=cs.drop off by rw[<-List.drop_drop,List.take_append_drop]]at this
theorem Ae1 (hR : ∀ b,b<w.heap.size->R true b) : ∀ (m:Nat) (ty:Ty) (t:TypeId) (cs:List Value) (fuel:Nat) (x:DataW H × List MemPlace),Y8 P m t ty=true->DataW.trod enc P w base spare held fuel t cs=some x -> ∃ as,H0 ty as/\IW w R as cs
 | 0,_,_,_,_,_,h,_=>by simp [Y8]at h
 | m+1,ty,t,cs,fuel,x,n7,h=>by
  have ih:=Ae1 hR m;simp only[Y8]at n7;split at n7
  ·rename_i k k' hu
   obtain rfl:k=k':=by simpa using n7
   obtain ⟨n,rfl,_,hw⟩:=DataW.trod_int hu h;exact ⟨[.int k n],⟨n,rfl,hw⟩,IW.one (.int k n)⟩
  ·rename_i hu
   cases fuel with
   | zero=>simp [DataW.trod]at h
   | succ fuel =>
    unfold DataW.trod at h;rw[hu]at h;split at h<;>simp_all
    exact ⟨_,⟨_,rfl⟩,IW.one (.bool _)⟩
  ·rename_i e qa hu
   simp only[Bool.and_eq_true,beq_iff_eq,decide_eq_true_eq]at n7;obtain ⟨h1,h2,h3⟩:=n7;rcases DataW.trod_slice hu h with ⟨rfl,_⟩|⟨a,len,cap,elems,rest,n,_,rfl,_,hb,hl,hm,hlen,jr,_,_⟩
   ·exact ⟨[.sl true []],⟨[],rfl,by simp,by simp⟩,IW.one (.nm true none 0)⟩
   ·have each : ∀ i,i<len -> ∃ as jq,H0 qa as/\IW w R as jq/\jq.length=qa.cells /\ ∀ j,j<qa.cells->w.cell? ((a.add (i*qa.cells)).add j)=jq[j]? := by
     intro i hi;have:=jr i hi
     rw[h2,zE (by omega),Option.bind_eq_some_iff]at this;obtain ⟨jq,hc,ht⟩:=this;obtain ⟨as,g1,g2⟩:=ih qa e jq n _ h1 ht;obtain ⟨_,q1,q2⟩:=World.cells?_some hc;exact ⟨as,jq,g1,g2,q1,q2⟩
    by_cases h0:len=0
    ·subst h0
     exact ⟨[.sl true []],⟨[],rfl,by simp,by simp⟩,IW.one (.nm true (some a) cap)⟩
    ·have Dj:a.spot=none:=by
      obtain ⟨as,jq,_,_,q1,q2⟩:=each 0 (by omega);have:=q2 0 h3
      rw[zE (by omega)]at this;simpa [Addr.add] using World.cell?_spot this
     have qm:a.block<w.heap.size:=by
      obtain ⟨as,jq,_,_,q1,q2⟩:=each 0 (by omega);have:=q2 0 h3
      rw[zE (by omega)]at this;simpa [Addr.add] using gH this
     have pick : ∃ f:Nat->List AV × List Value,∀ i,i<len->H0 qa (f i).1/\IW w R (f i).1 (f i).2/\(f i).2.length=qa.cells /\ ∀ j,j<qa.cells->w.cell? ((a.add (i*qa.cells)).add j)=(f i).2[j]? := by
      refine ⟨λ i=>if hi:i<len then (Classical.choose (each i hi),Classical.choose (Classical.choose_spec (each i hi))) else ([],[]),λ i hi => ?_⟩;simp only[hi,dif_pos];exact Classical.choose_spec (Classical.choose_spec (each i hi))
     obtain ⟨f,hf⟩:=pick;have ak : ∀ i e',((List.range len).map λ i=>(f i).1)[i]? = some e'->i<len/\e'=(f i).1:=by
      intro i e' he;rw[List.getElem?_map]at he;by_cases hi:i<len
      ·rw[List.getElem?_range hi]at he
       simp at he;exact ⟨hi,he.symm⟩
      ·rw[List.getElem?_eq_none (by simpa using hi)]at he
       cases he
     refine ⟨[.sl true ((List.range len).map λ i=>(f i).1)],⟨_,rfl,by simp;omega,λ x hx => ?_⟩,IW.one ?_⟩
     ·obtain ⟨i,hi,rfl⟩:=List.mem_map.1 hx
      exact (hf i (List.mem_range.1 hi)).1
     ·obtain ⟨ab,ao,as⟩:=a
      simp only at Dj;subst Dj;have Da:((List.range len).map λ i=>(f i).1).length=len:=by simp
      have:=Rd.sl (w:=w) (R:=R) true ((List.range len).map λ i=>(f i).1) ab ao qa.cells cap (λ i j=>((f i).2[j]?).getD default) (by intro e;have:=congrArg List.length e;simp at this;omega) h3 (hR ab qm) (by rw[Da];exact hl)
       (λ e' he=>by
        obtain ⟨i,hi,rfl⟩:=List.mem_map.1 he;exact (hf i (List.mem_range.1 hi)).1.len)
       (λ i e' he j c hc=>by
        obtain ⟨hi,rfl⟩:=ak i e' he;obtain ⟨g1,g2,g3,g4⟩:=hf i hi;have hj:j<qa.cells:=by
         have:=(zS hc).1
         rwa [g1.len]at this
        have h5:=g4 j hj;rw[Xq ⟨ab,ao,none⟩ (i*qa.cells) rfl,Xq _ _ rfl]at h5;simp only at h5;rw[show ao+(i*qa.cells+j)=ao+i*qa.cells+j by omega,h5,zE (by omega)];rfl)
       (λ i e' he j c hc=>by
        obtain ⟨hi,rfl⟩:=ak i e' he;obtain ⟨g1,g2,g3,g4⟩:=hf i hi;have hj:j<qa.cells:=by
         have:=(zS hc).1
         rwa [g1.len]at this
        have h6:(f i).2[j]? = some ((f i).2[j]'(by omega)):=zE _;rw[h6];exact g2.2 j c _ hc h6)
      rwa [Da]at this
  ·rename_i fs hu
   simp only[Bool.and_eq_true,beq_iff_eq]at n7;obtain ⟨h1,h2⟩:=n7;obtain ⟨xs,n,_,_,hl,hlen,hf⟩:=DataW.trod_struct hu h;have:=Ae2 hR m ih n cs fs.toList 0 _ h1 (λ f qp=>by
    obtain ⟨i,hi,rfl⟩:=List.getElem_of_mem qp;have h5:=hf i fs.toList[i] (by simp);rw[h5,zE (by simpa [hlen] using hi)];exact ⟨_,rfl⟩) (by rw[hl,h2];omega)
   simpa using this
  ·exact absurd n7 (by simp)
theorem zX {S:Nat->Prop} {ty:Ty} {t:TypeId} {v:Value} {d:DataW H} {ps:List MemPlace} {m:Nat} (n7:Y8 P m t ty=true) (hv:v.cells.toList=[v]) (h:DataW.Trod enc P w base spare held t v d ps) :
  ∃ a,H0 ty [a]/\CA w.heap.size S ⟨λ_ _=>none,AH.emp,w⟩ a v:=by
 obtain ⟨fuel,hf⟩:=h;rw[hv]at hf;obtain ⟨as,h1,h2⟩:=Ae1 (R:=safe w.heap.size S ⟨λ_ _=>none,AH.emp,w⟩) (λ b hb=>Or.inr (Or.inr ⟨rfl,hb⟩)) m ty t [v] fuel _ n7 hf;obtain ⟨a,rfl⟩ : ∃ a,as=[a]:=by
  have:=h2.1
  match as,this with
  | [a],_=>exact ⟨a,rfl⟩
 exact ⟨a,h1,.one (.rd (h2.2 0 a v rfl rfl))⟩
end
theorem AiI {B:Nat} {S:Nat->Prop} {m:M} : ∀ (j:Nat) (c:AV) (v:Value),([]:List AV)[j]? = some c->([]:List Value)[j]? = some v->CA B S m c v:=λ j c v h=>by simp at h
theorem uR {B:Nat} {S:Nat->Prop} {m:M} {a:AV} {u:Value} {as:List AV} {us:List Value} (h:CA B S m a u) (hr : ∀ (j:Nat) (c:AV) (v:Value),as[j]? = some c->us[j]? = some v->CA B S m c v) :
  ∀ (j:Nat) (c:AV) (v:Value),(a::as)[j]? = some c->(u::us)[j]? = some v->CA B S m c v
 | 0,c,v,h1,h2=>by simp at h1 h2;subst h1 h2;exact h
 | j+1,c,v,h1,h2=>hr j c v (by simpa using h1) (by simpa using h2)
theorem An7 {P:Program} {num:Nat->Nat} {L:Lib} (hP:ProgOK P num L) {f:Nat} {vs:List AV} (h:Ev L f vs (.bool true)) {S:Nat->Prop} {w:World} {us:List Value} (hl:vs.length=us.length)
  (ha : ∀ (j:Nat) (c:AV) (v:Value),vs[j]? = some c->us[j]? = some v->CA w.heap.size S ⟨λ_ _=>none,AH.emp,w⟩ c v) :
  Calls P (num f) us.toArray w λ e w'=>e = .returned (.bool true)/\Below w.heap.size w w':=by
 obtain ⟨n,hn⟩:=h;refine ((AiT hP n).pure f vs _ hn S w us hl ha).mono ?_;rintro e w' ⟨u,rfl,hb,db,_⟩
 refine ⟨?_,hb⟩;cases db with
 | ca sd=>cases sd with
  | one bq=>cases bq with
   | rd qg=>cases qg;rfl
end Go.e9

namespace Go.e9
abbrev tI:Ty := .int .i64
theorem Aet {α:Type} {enc:α->List AV} {p:α->Prop} : ∀ {es:List (List AV)},(∀ x∈es,∃ y,x=enc y/\p y) -> ∃ l:List α,es=l.map enc /\ ∀ y∈l,p y
 | [],_=>⟨[],rfl,by simp⟩
 | e::es,h=>by
  obtain ⟨y,rfl,hy⟩:=h e List.mem_cons_self;obtain ⟨l,rfl,hl⟩:=Aet (enc:=enc) (p:=p) λ x hx=>h x (List.mem_cons_of_mem _ hx)
  exact ⟨y::l,rfl,by simpa using ⟨hy,hl⟩⟩
theorem Anl {α:Type} {enc:α->List AV} {p:α->Prop} {e:Ty} {cs:List AV} (he : ∀ x,H0 e x -> ∃ y,x=enc y/\p y) (h:H0 (.sl e) cs) : ∃ l:List α,cs=[.sl true (l.map enc)]/\l.length<9223372036854775808 /\ ∀ y∈l,p y:=by
 obtain ⟨es,rfl,hl,hx⟩:=h;obtain ⟨l,rfl,hp⟩:=Aet (enc:=enc) (p:=p) λ x hm=>he x (hx x hm)
 refine ⟨l,rfl,?_,hp⟩;have:maxLen=9223372036854775807:=rfl
 simp at hl;omega
theorem AqJ {n:Int} (h:(Lit.int .i64 n).wf=true):GW n:=by
 simp only[Lit.wf,Bool.and_eq_true,decide_eq_true_eq]at h;have h1:IntKind.i64.min = -9223372036854775808:=rfl;have h2:IntKind.i64.max=9223372036854775807:=rfl;rw[h1,h2]at h;unfold GW;constructor<;>omega
theorem Ad1 {cs:List AV} (h:H0 tI cs) : ∃ n,cs=cU n/\GW n:=by obtain ⟨n,rfl,hw⟩:=h;exact ⟨n,rfl,AqJ hw⟩
theorem Ad2 {cs:List AV} (h:H0 (.sl tI) cs) : ∃ l:List Int,cs=[.sl true (l.map cU)]/\l.length<9223372036854775808 /\ ∀ v∈l,GW v:=Anl (λ_=>Ad1) h
end Go.e9



namespace Go.e9
open F
attribute [local irreducible] AA AF AM AC CK AR AW BD A7 BW AQ BT CD DB BP A4 BO CE AB A8 AJ pw B4 BK CF CI CN CX CJ BS CM
variable {L:Lib}
set_option maxHeartbeats 8000000
abbrev eM (m:List (List Rat)):List (List AV):=m.map λ r=>[AV.sl false (r.map eQ)]
theorem vF (m:List (List Rat)):F2 (eM m):=jM (λ r=>by simp only[CW,A6,and_true,true_and];exact OK r) m
theorem vH (m:List (List Rat)):A6 (.sl false (eM m)):=by
 simp only[A6,true_and];exact vF m
end Go.e9

namespace Go.e9
variable {L:Lib}
theorem AgO {kk:List It} {tm:Tm} {M:Mem} {Q:Tm->Mem->Prop} {k s:Nat} {rows:List (Option (Nat × List (List AV)))} {w:List Nat} (bj:List (Option (Nat × List (List AV)))) (e:l6 M k=some (s,.vw w rows)) (hl:bj.length=w.length)
  (hw : ∀ (i t:Nat),w[i]? = some t -> ∃ r,rows[t]? = some r/\bj[i]? = some r) (hi : ∀ (i i' t:Nat),w[i]? = some t->w[i']? = some t->i=i') (gf:PL k tm=false) (pf:JY k M=false)
  (h:AA L kk tm ((k,s,.mx bj)::M) Q):AA L kk tm M Q:=by
 intro σ st hr;obtain ⟨σ',ov⟩:=hr.Fx e hl hw hi gf pf;exact h σ' st ov
theorem AgN {kk:List It} {tm:Tm} {M:Mem} {Q:Tm->Mem->Prop} {k s i j:Nat} {rows:List (Option (Nat × List (List AV)))} {a b:Option (Nat × List (List AV))} (e:l6 M k=some (s,.vw (((List.range rows.length).set i j).set j i) rows)) (ha:rows[i]? = some a) (hb:rows[j]? = some b) (gf:PL k tm=false) (pf:JY k M=false)
  (h:AA L kk tm ((k,s,.mx ((rows.set i b).set j a))::M) Q):AA L kk tm M Q:=by
 have hi:=(zS ha).1;have hj:=(zS hb).1;have Ub : ∀ p,p<rows.length->(((List.range rows.length).set i j).set j i)[p]? = some (if p=j then i else if p=i then j else p):=λ p hp=>by
  rw[List.getElem?_set,List.getElem?_set,List.length_set,List.length_range];by_cases h1:j=p
  ·subst h1;simp [hp]
  ·rw[if_neg h1,if_neg (Ne.symm h1)]
   by_cases h2:i=p
   ·subst h2;simp [hp]
   ·rw[if_neg h2,if_neg (Ne.symm h2),List.getElem?_range hp]
 have Fs : ∀ p t,(((List.range rows.length).set i j).set j i)[p]? = some t->p<rows.length:=λ p t hp=>by
  have:=(zS hp).1
  simpa using this
 refine AgO ((rows.set i b).set j a) e (by simp) (λ p t hp => ?_) (λ p p' t hp Jj => ?_) gf pf h
 ·have Bu:=Fs p t hp
  rw[Ub p Bu]at hp;obtain rfl:=Option.some.inj hp;rw[List.getElem?_set,List.getElem?_set,List.length_set];by_cases h1:p=j
  ·subst h1
   exact ⟨a,by rw[if_pos rfl];exact ha,by rw[if_pos rfl,if_pos Bu]⟩
  ·rw[if_neg h1,if_neg (Ne.symm h1)]
   by_cases h2:p=i
   ·subst h2
    exact ⟨b,by rw[if_pos rfl];exact hb,by rw[if_pos rfl,if_pos Bu]⟩
   ·rw[if_neg h2,if_neg (Ne.symm h2)]
    exact ⟨_,zE Bu,zE Bu⟩
 ·have Bu:=Fs p t hp
  have Sh:=Fs p' t Jj;rw[Ub p Bu]at hp;rw[Ub p' Sh]at Jj;have:=Option.some.inj (hp.trans Jj.symm)
  split at this<;>split at this<;>(try split at this)<;>(try split at this)<;>omega
end Go.e9

namespace Go.e9
open F
attribute [local irreducible] AA AF AM AC CK AR AW BD A7 BW AQ BT CD DB BP A4 BO CE AB A8 AJ pw B4 BK CF CI CN CX CJ BS CM
variable {L:Lib}
set_option maxHeartbeats 16000000
abbrev CZ (q:Bool) (m:List (List Rat)):List (List AV):=m.map λ r=>[AV.sl q (r.map eQ)]
theorem PM (m:List (List Rat)) (e:Int):A6 (.m9 [.sl false (eM m),.int .i64 e]):=by
 simp only[A6,CW,and_true,true_and];exact vF m
theorem rB (N:u5 L) (q q':Bool) (a:List (List Rat)) (n w:Nat) (hn:a.length=n) (hw : ∀ r∈a,r.length=w) (h1:1<=n/\n<=52) (h2:1<=w/\w<=52):Ev L 229 [.sl q (CZ q' a)] (.bool true):=by
 obtain ⟨r0,du⟩ : ∃ r,a[0]? = some r:=⟨_,zE (by omega)⟩;have Bw:a[(0:Int).toNat]? = some r0:=du;have ns:=hw r0 (zM du);refine Ev.x N.X7 rfl rfl ?_;(repeat' ((first|(apply AG<;>intro hc<;>try (exfalso;omega))|apply AU|(refine BH (by assumption) ?_ rfl ?_;omega)|apply AE)<;>conv=>whnf))
 refine B6 (λ i=>n-i) (λ(i:Nat)=>i<=n) (λ i=>[(20,.int .i64 i)]) (λ_=>[]) [] [] 0 (by (conv=>whnf);exact ⟨rfl,rfl,rfl⟩) (by omega) ?_;intro i p1 ih;by_cases hi:i<n
 ·obtain ⟨r,hr⟩ : ∃ r,a[i]? = some r:=⟨_,zE (by omega)⟩
  have ov:a[(i:Int).toNat]? = some r:=hr;have hl:=hw r (zM hr);(repeat' ((first|(apply AG<;>intro hc<;>try (exfalso;omega))|(apply AX;omega)|apply AU|(refine BH (by assumption) ?_ rfl ?_;omega)|apply AE)<;>conv=>whnf))
  exact BL [] (ih (i+1) (by omega) (by omega))
 ·obtain rfl:i=n:=by omega
  clear ih;(repeat' ((first|(apply AG<;>intro hc<;>try (exfalso;omega))|apply AE)<;>conv=>whnf))
  exact JR rfl
theorem AlP (N:u5 L) (n:Nat) (hn:1<=n/\n<=52):Ev L 230 [.int .i64 n] (.m9 [.sl false (eM (FL n)),.int .i64 0]):=by
 have hO:=HL N.toa5 0 (by omega);have hI:=HL N.toa5 1 (by omega);have ji : ∀ i,i<n->(FL n)[i]? = some (EZ n i):=λ i hi=>by simp [FL,hi]
 have fm:(FL n).length=n:=by simp [FL]
 generalize hT:FL n=T at *;refine Ev.x N.X3 rfl rfl ?_;(repeat' ((first|(apply AG<;>intro hc<;>try (exfalso;omega))|apply AE)<;>conv=>whnf))
 unfold CN;refine ⟨⟨by omega,by omega,by simp only[DX];omega,by omega⟩,?_⟩;rw[Int.toNat_natCast];(conv=>whnf)
 skip
 refine B6 (λ i=>n-i) (λ(i:Nat)=>i<=n) (λ i=>[(17,.int .i64 i)]) (λ i=>[(14,14,.mx (mz T n i))]) [] [] 0 (by first|exact (by (conv=>whnf);exact ⟨rfl,rfl,rfl⟩)|(rw[<-kN T];exact (by (conv=>whnf);exact ⟨rfl,rfl,rfl⟩))) (by omega) ?_;intro i p1 ih;have Kj:=kK (Q:=T) p1;by_cases hi:i<n
 ·have o9:=kL (ji i hi) hi
  generalize mz T n i=R0 at *;(repeat' ((first|(apply AG<;>intro hc<;>try (exfalso;omega))|apply AE)<;>conv=>whnf))
  refine EK (enc:=eO) none n rfl (by omega) (by omega) ?_;(conv=>whnf)
  (repeat' ((first|(apply A0;omega)|fail)<;>conv=>whnf))
  refine A0 (by simp) ?_;refine dX (i:=i) (by omega) (by omega) ?_;(conv=>whnf)
  (repeat' ((first|(apply A0;omega)|fail)<;>conv=>whnf))
  refine dS (by omega) (by omega) ?_;(conv=>whnf)
  skip
  rw[show (List.map eO (List.replicate n none)).length=n by simp];refine B6 (λ j=>n-j) (λ(j:Nat)=>j<=n) (λ j=>[(30,.int .i64 j)]) (λ j=>[(14,14,.mx (R0.set i (some (3,(DH (List.replicate j 0) n).map eO))))]) [] [] 0 (by first|exact (by (conv=>whnf);exact ⟨rfl,rfl,rfl⟩)|(rw[List.replicate_zero,<-OQ];exact (by (conv=>whnf);exact ⟨rfl,rfl,rfl⟩))) (by omega) ?_;intro j r2 jh;have Cc:(List.replicate j (0:Rat)).length=j:=by simp
  have Db:=J3 (l:=List.replicate j (0:Rat)) (m:=n) (by omega);by_cases hj:j<n
  ·have hs:=OR (l:=List.replicate j (0:Rat)) (m:=n) (x:=((0:Int):Rat)) (by omega)
   rw[Cc,show List.replicate j (0:Rat)++[((0:Int):Rat)]=List.replicate (j+1) 0 from List.replicate_succ'.symm]at hs;generalize DH (List.replicate j (0:Rat)) n=W at *;(repeat' ((first|(apply AG<;>intro hc<;>try (exfalso;omega))|(apply A0;omega)|apply AE)<;>conv=>whnf))
   refine dS (by omega) (by omega) ?_;(conv=>whnf)
   (repeat' (refine AD (hO) ?_<;>conv=>whnf))
   refine A0 (by rw[List.length_map];omega) ?_;(conv=>whnf)
   skip
   refine cJ (by omega) (by omega) ?_;(conv=>whnf)
   refine FP (enc:=eO) (some ((0:Int):Rat)) rfl (λ e=>by cases e<;>rfl) (by omega) ?_;(conv=>whnf)
   rw[hs];refine jD (by omega) (by rw[List.length_map,List.length_map,<-hs,List.length_set]) ?_;(conv=>whnf)
   (repeat' ((first|(apply AX;omega)|fail)<;>conv=>whnf))
   exact BL [] (jh (j+1) (by omega) (by omega))
  obtain rfl:j=n:=by omega
  clear jh;rw[OO (by omega)];(repeat' ((first|(apply AG<;>intro hc<;>try (exfalso;omega))|(apply A0;omega)|apply AE)<;>conv=>whnf))
  refine dS (by omega) (by omega) ?_;(conv=>whnf)
  (repeat' (refine AD (hI) ?_<;>conv=>whnf))
  refine A0 (by rw[List.length_map];omega) ?_;(conv=>whnf)
  skip
  refine cJ (by omega) (by omega) ?_;(conv=>whnf)
  refine FP (enc:=eQ) ((1:Int):Rat) rfl (λ_=>rfl) (by omega) ?_;rw[show (List.replicate j (0:Rat)).set i ((1:Int):Rat)=EZ j i from oQ j i];(conv=>whnf)
  refine jD (by omega) (by rw[List.length_map,List.length_map,oP,Cc]) ?_;rw[o9];(conv=>whnf)
  (repeat' ((first|(apply AX;omega)|fail)<;>conv=>whnf))
  exact BL [] (ih (i+1) (by omega) (by omega))
 ·obtain rfl:i=n:=by omega
  clear ih;rw[kJ (by omega)];(repeat' ((first|(apply AG<;>intro hc<;>try (exfalso;omega))|apply AE)<;>conv=>whnf))
  refine UN (λ_=>rfl) rfl (by omega) ?_;(conv=>whnf)
  exact AY rfl (PM T 0)
def Yq (p:Bool × List Rat):List AV:=[.sl p.1 (p.2.map eQ)]
def HM (P:List (Bool × List Rat)) (i:Nat):List Rat:=((P.take i).map Prod.snd).flatten
theorem Ads {P:List (Bool × List Rat)} {i:Nat} {p:Bool × List Rat} (h:P[i]? = some p):HM P (i+1)=HM P i++p.2:=by
 simp only[HM,List.take_add_one,h,Option.toList_some,List.map_append,List.map_cons,List.map_nil,List.flatten_append,List.flatten_cons,List.flatten_nil,List.append_nil]
theorem Alq (N:u5 L) (q:Bool) (P:List (Bool × List Rat)) (n:Nat) (hn:P.length=n) (Ls:n<=100) (hB : ∀ i,(HM P i).length<=2000) (h0:0<(HM P n).length):Ev L 228 [.sl q (P.map Yq)] (.sl false ((HM P n).map eQ)):=by
 refine Ev.x N.aN rfl rfl ?_;(repeat' ((first|apply AU|apply AE)<;>conv=>whnf))
 refine B6 (λ i=>n-i) (λ(i:Nat)=>i<=n) (λ i=>[(11,.int .i64 i),(3,.int .i64 (HM P i).length)]) (λ_=>[]) [] [] 0 (by (conv=>whnf);exact ⟨rfl,rfl,rfl⟩) (by omega) ?_;intro i p1 ih;by_cases hi:i<n
 ·obtain ⟨p,hp⟩ : ∃ p,P[i]? = some p:=⟨_,zE (by omega)⟩
  have Jj:P[(i:Int).toNat]? = some p:=hp;have hs:=Ads hp;have hb:=hB i;have xv:=hB (i+1);have hl:(HM P (i+1)).length=(HM P i).length+p.2.length:=by rw[hs,List.length_append]
  (repeat' ((first|(apply AG<;>intro hc<;>try (exfalso;omega))|(apply AX;omega)|apply AU|(refine BH (by assumption) ?_ rfl ?_;omega)|apply AE)<;>conv=>whnf))
  rw[show ((HM P i).length:Int)+(p.2.length:Int)=((HM P (i+1)).length:Nat) by rw[hl];omega];exact BL [] (ih (i+1) (by omega) (by omega))
 ·obtain rfl:i=n:=by omega
  clear ih;have hb:=hB i;(repeat' ((first|(apply AG<;>intro hc<;>try (exfalso;omega))|apply AE)<;>conv=>whnf))
  refine FY 1000 N.aO rfl rfl ?_;(repeat' ((first|(apply AG<;>intro hc<;>try (exfalso;omega))|(apply A0;omega)|(apply CB;omega)|apply AE)<;>conv=>whnf))
  refine A0 ⟨by omega,by simp only[DX];omega,by omega⟩ ?_;(conv=>whnf)
  refine Vd ⟨by omega,by omega⟩ ?_;(conv=>whnf)
  skip
  refine ⟨rfl,_,rfl,?_⟩;(conv=>whnf)
  (repeat' (apply AU<;>conv=>whnf))
  refine B6 (λ j=>i-j) (λ(j:Nat)=>j<=i) (λ j=>[(27,.int .i64 j),(6,.row 227022 0 3 0 (HM P j).length)]) (λ j=>[(227022,227022,.rw 3 ((HM P j).map eQ))]) [] [] 0 (by (conv=>whnf);exact ⟨rfl,rfl,rfl⟩) (by omega) ?_;intro j p2 jh;by_cases hj:j<i
  ·obtain ⟨p,hp⟩ : ∃ p,P[j]? = some p:=⟨_,zE (by omega)⟩
   have Jj:P[(j:Int).toNat]? = some p:=hp;have hs:=Ads hp;have hb:=hB j;have xv:=hB (j+1);have hl:(HM P (j+1)).length=(HM P j).length+p.2.length:=by rw[hs,List.length_append]
   (repeat' ((first|(apply AG<;>intro hc<;>try (exfalso;omega))|(refine BH (by assumption) ?_ rfl ?_;omega)|apply AE)<;>conv=>whnf))
   refine uA rfl (λ_=>rfl) (by omega) (by omega) ?_;rw[<-hs];(conv=>whnf)
   (repeat' ((first|(apply AX;omega)|fail)<;>conv=>whnf))
   exact BL [(227022,33)] (jh (j+1) (by omega) (by omega))
  ·obtain rfl:j=i:=by omega
   clear jh;(repeat' ((first|(apply AG<;>intro hc<;>try (exfalso;omega))|(refine DR (λ_=>rfl) rfl ?_ ?_;(first|rfl|simp))|apply AE)<;>conv=>whnf))
   exact AY rfl (by simp only[A6,true_and];exact OK _)
theorem Alp (N:u5 L) (q q1 q2:Bool) (a b:List Rat) (ha:a.length<=1000) (hb:b.length<=1000) (h0:0<a.length):Ev L 228 [.sl q [[.sl q1 (a.map eQ)],[.sl q2 (b.map eQ)]]] (.sl false ((a++b).map eQ)):=by
 have:=Alq N q [(q1,a),(q2,b)] 2 rfl (by omega) (λ i=>by
  rcases i with _|_|_|i<;>simp [HM]<;>omega) (by simp [HM];omega)
 simpa [HM,Yq] using this
end Go.e9

namespace Go.e9
theorem FU : ∀ a b:List Rat,AZ a b=AZ b a
 | [],[]=>rfl
 | [],_::_=>rfl
 | _::_,[]=>rfl
 | x::a,y::b=>by simp only[AZ,FU a b,Rat.mul_comm]
theorem mK : ∀ (v:List Rat) (n:Nat),AZ (List.replicate n 0) v=0
 | [],n=>eE _
 | y::v,0=>rfl
 | y::v,n+1=>by rw[List.replicate_succ];simp only[AZ,mK v n];grind
theorem Yd (v:List Rat) (n:Nat):AZ v (List.replicate n 0)=0:=by rw[FU,mK]
theorem jQ (x:Rat) : ∀ a b:List Rat,AZ (a.map (x * ·)) b=x*AZ a b
 | [],_=>by simp [AZ]
 | _::_,[]=>by simp [AZ]
 | p::a,q::b=>by simp only[List.map_cons,AZ,jQ x a b];grind
theorem AoA (u:List Rat) (n:Nat):EU u [] n=List.replicate n 0:=by
 refine List.ext_getElem? λ j => ?_
 simp only[EU,CO,List.map_nil,eE,List.getElem?_map,List.getElem?_replicate];by_cases h:j<n
 ·rw[List.getElem?_range h,if_pos h];rfl
 ·rw[List.getElem?_eq_none (by simp;omega),if_neg h];rfl
theorem AoB (m:List (List Rat)) (n:Nat):EU [] m n=List.replicate n 0:=by
 refine List.ext_getElem? λ j => ?_
 simp only[EU,AZ,List.getElem?_map,List.getElem?_replicate];by_cases h:j<n
 ·rw[List.getElem?_range h,if_pos h];rfl
 ·rw[List.getElem?_eq_none (by simp;omega),if_neg h];rfl
theorem Aoz (x:Rat) (u r:List Rat) (m:List (List Rat)) (n:Nat) (hr:r.length=n):EU (x::u) (r::m) n=dY (r.map (x * ·)) (EU u m n):=by
 refine List.ext_getElem? λ j => ?_
 simp only[EU,dY,List.getElem?_map,List.getElem?_zipWith];by_cases h:j<n
 ·rw[List.getElem?_range h]
  obtain ⟨y,hy⟩ : ∃ y,r[j]? = some y:=⟨_,zE (by omega)⟩;rw[hy];simp only[Option.map_some,CO,List.map_cons,AZ,List.getD_eq_getElem?_getD,hy,Option.getD_some]
 ·rw[List.getElem?_eq_none (by simp;omega),List.getElem?_eq_none (l:=r) (by omega)]
  rfl
theorem wE {n:Nat} {v:List Rat} : ∀ (m:List (List Rat)) (u:List Rat),(∀ r∈m,r.length=n)->AZ (EU u m n) v=AZ u (BX m v)
 | [],u,_=>by rw[AoA,mK,BX,List.map_nil,eE]
 | r::m,[],_=>by rw[AoB,mK];rfl
 | r::m,x::u,h=>by
  have hr:=h r (by simp);rw[Aoz x u r m n hr,FU,wD (by rw[List.length_map,AeJ];exact hr),FU v,FU v,jQ,wE m u λ r hr=>h r (by simp [hr])];rfl
theorem kH {n:Nat} (a m:List (List Rat)) (v:List Rat) (h : ∀ r∈m,r.length=n):BX (C1 a m n) v=BX a (BX m v):=by
 simp only[BX,C1,List.map_map];exact List.map_congr_left λ r _=>wE m r h
theorem nI {n:Nat} {b:List Rat} (hb:b.length=n):BX (FL n) b=b:=by
 have unit : ∀ (k n i:Nat) (b:List Rat),b.length=n->AZ ((List.range' k n).map λ a:Nat=>if (a:Int)=((k+i:Nat):Int) then 1 else 0) b=b.getD i 0:=by
  intro k n;induction n generalizing k with
  | zero=>intro i b hb;obtain rfl:=List.eq_nil_of_length_eq_zero hb;simp [AZ]
  | succ n ih =>
   intro i b hb;cases b with
   | nil=>simp at hb
   | cons y b =>
    rw[List.range'_succ,List.map_cons,AZ];cases i with
    | zero =>
     have hz:((List.range' (k+1) n).map λ a:Nat=>if (a:Int)=((k+0:Nat):Int) then (1:Rat) else 0)=List.replicate n 0:=by
      rw[List.eq_replicate_iff];refine ⟨by simp,λ x hx => ?_⟩;obtain ⟨a,ha,rfl⟩:=List.mem_map.1 hx;rw[if_neg];have:=(List.mem_range'_1.1 ha).1
      omega
     rw[hz,mK,if_pos (by simp)];simp [Rat.add_zero]
    | succ i =>
     have:=ih (k+1) i b (by simpa using hb)
     rw[show k+1+i=k+(i+1) by omega]at this;rw[this,if_neg (by omega),List.getD_cons_succ];grind
 refine List.ext_getElem? λ r => ?_
 simp only[BX,FL,List.getElem?_map];by_cases h:r<n
 ·rw[List.getElem?_range h]
  have:=unit 0 n r b hb
  rw[Nat.zero_add]at this;simp only[Option.map_some,EZ,List.range_eq_range']at this ⊢;rw[this,List.getD_eq_getElem?_getD,zE (by omega)];rfl
 ·rw[List.getElem?_eq_none (by simp;omega),List.getElem?_eq_none (by omega)]
  rfl
def wQ (S:E7):Nat->List Rat
 | 0=>S.b
 | j+1=>BX S.a (wQ S j)
def conv (A h:Nat->Rat) (K:Nat):Nat->Rat
 | 0=>0
 | a+1=>conv A h K a+A a*h (K-a)
def GM (m:List (List Rat)) (X:List Rat):Prop := ∀ r∈m,AZ r X=0
def comb (p f l:Rat) (r t:List Rat):List Rat:=List.zipWith (λ x y=>(x*p-y*f)/l) r t
theorem vL {p f l:Rat} {r t:List Rat} (h:r.length=t.length):(comb p f l r t).length=r.length:=by simp [comb,h]
theorem qI (p f l:Rat) : ∀ (r t X:List Rat),r.length=t.length->AZ (comb p f l r t) X=(p*AZ r X-f*AZ t X)/l
 | [],[],X,_=>by
  show AZ [] X=_;simp only[AZ,Rat.div_def];grind
 | x::r,y::t,[],_=>by
  simp only[comb,List.zipWith_cons_cons,AZ,Rat.div_def];grind
 | x::r,y::t,z::X,h=>by
  have ih:=qI p f l r t X (by simpa using h);simp only[comb]at ih;simp only[comb,List.zipWith_cons_cons,AZ,ih,Rat.div_def];grind
theorem Ajl {p f l:Rat} {r t:List Rat} {j:Nat} {x y:Rat} (hx:r[j]? = some x) (hy:t[j]? = some y):(comb p f l r t)[j]? = some ((x*p-y*f)/l):=by
 simp [comb,List.getElem?_zipWith,hx,hy]
theorem eN {m:List (List Rat)} {i:Nat} {x r:List Rat} (h:r∈m.set i x):r=x \/ ∃ j,j≠i/\m[j]? = some r:=by
 obtain ⟨j,hj⟩:=List.getElem?_of_mem h;rw[List.getElem?_set]at hj;by_cases e:i=j
 ·subst e
  rw[if_pos rfl]at hj;split at hj
  ·exact Or.inl (Option.some.inj hj).symm
  ·cases hj
 ·rw[if_neg e]at hj
  exact Or.inr ⟨j,Ne.symm e,hj⟩
theorem An4 {m:List (List Rat)} {i k:Nat} {r t:List Rat} {p f l:Rat} (hi:m[i]? = some r) (hk:m[k]? = some t) (Fc:k≠i) (hl:r.length=t.length) (hp:p≠0) (h0:l≠0) (X:List Rat):GM (m.set i (comb p f l r t)) X↔GM m X:=by
 have hc:=qI p f l r t X hl;have eb:=(zS hi).1;constructor
 ·intro h r' ov
  have ht:AZ t X=0:=h t (by
   refine zM (i:=k) ?_;rw[List.getElem?_set,if_neg (Ne.symm Fc)];exact hk)
  have hn:AZ (comb p f l r t) X=0:=h _ (zM (i:=i) (by rw[List.getElem?_set,if_pos rfl,if_pos eb]));rw[hc,ht]at hn;have du:AZ r X=0:=by
   have e1:=Rat.div_mul_cancel h0 (a:=p*AZ r X-f*0);rw[hn]at e1;have e2:p*AZ r X=0:=by grind
   rcases Rat.mul_eq_zero.1 e2 with h|h
   ·exact absurd h hp
   ·exact h
  obtain ⟨j,hj⟩:=List.getElem?_of_mem ov;by_cases e:j=i
  ·subst e
   obtain rfl:=Option.some.inj (hi.symm.trans hj);exact du
  ·exact h r' (zM (i:=j) (by rw[List.getElem?_set,if_neg (Ne.symm e)];exact hj))
 ·intro h r' ov
  rcases eN ov with rfl|⟨j,_,hj⟩
  ·rw[hc,h r (zM hi),h t (zM hk),Rat.div_def];grind
  ·exact h r' (zM hj)
theorem An3 {m:List (List Rat)} {i k:Nat} {a b:List Rat} (hi:m[i]? = some a) (hk:m[k]? = some b) (X:List Rat):GM ((m.set i b).set k a) X↔GM m X:=by
 have eb:=(zS hi).1;have Al:=(zS hk).1;constructor
 ·intro h r hr
  obtain ⟨j,hj⟩:=List.getElem?_of_mem hr;by_cases e1:j=k
  ·subst e1
   obtain rfl:=Option.some.inj (hk.symm.trans hj);by_cases e2:i=j
   ·subst e2
    obtain rfl:=Option.some.inj (hi.symm.trans hk);exact h _ (zM (i:=i) (by rw[List.getElem?_set,if_pos rfl,List.length_set,if_pos eb]))
   ·exact h _ (zM (i:=i) (by rw[List.getElem?_set,if_neg (Ne.symm e2),List.getElem?_set,if_pos rfl,if_pos eb]))
  ·by_cases e2:j=i
   ·subst e2
    obtain rfl:=Option.some.inj (hi.symm.trans hj);exact h _ (zM (i:=k) (by rw[List.getElem?_set,if_pos rfl,List.length_set,if_pos Al]))
   ·exact h _ (zM (i:=j) (by rw[List.getElem?_set,if_neg (Ne.symm e1),List.getElem?_set,if_neg (Ne.symm e2)];exact hj))
 ·intro h r hr
  rcases eN hr with rfl|⟨j,_,hj⟩
  ·exact h _ (zM hi)
  ·rcases eN (zM hj) with rfl|⟨q,_,hq⟩
   ·exact h _ (zM hk)
   ·exact h _ (zM hq)
structure EF (m:List (List Rat)) (W c:Nat) (P:List Nat):Prop where
 lr : ∀ r∈m,r.length=W
 pl:P.length<=m.length
 inc : ∀ i j p q:Nat,i<j->P[i]? = some p->P[j]? = some q->p<q
 pb : ∀ p∈P,p<c
 nz : ∀ (i p:Nat) (r:List Rat),P[i]? = some p->m[i]? = some r->r.getD p 0≠0 /\ ∀ j,j<p->r.getD j 0=0
 zr : ∀ (i:Nat) (r:List Rat),P.length<=i->m[i]? = some r -> ∀ j,j<c->r.getD j 0=0
theorem EF.start {m:List (List Rat)} {W:Nat} (h : ∀ r∈m,r.length=W):EF m W 0 [] :=
 ⟨h,Nat.zero_le _,λ i j p q _ h=>by simp at h,(λ p h=>by cases h),(λ i p r h=>by simp at h),λ i r _ _ j hj=>absurd hj (by omega)⟩
theorem EF.skip {m:List (List Rat)} {W c:Nat} {P:List Nat} (h:EF m W c P) (hz : ∀ i r,P.length<=i->m[i]? = some r->r.getD c 0=0):EF m W (c+1) P :=
 ⟨h.lr,h.pl,h.inc,λ p hp=>Nat.lt_succ_of_lt (h.pb p hp),h.nz,λ i r hi hr j hj=>by
  by_cases e:j=c
  ·subst e;exact hz i r hi hr
  ·exact h.zr i r hi hr j (by omega)⟩
theorem EF.swap {m:List (List Rat)} {W c i k:Nat} {P:List Nat} {a b:List Rat} (h:EF m W c P) (hi:m[i]? = some a) (hk:m[k]? = some b) (h1:P.length<=i) (h2:P.length<=k):EF ((m.set i b).set k a) W c P:=by
 have hg : ∀ q,q<P.length->((m.set i b).set k a)[q]? = m[q]? := λ q hq=>by
  rw[List.getElem?_set,if_neg (by omega),List.getElem?_set,if_neg (by omega)]
 have hm : ∀ q r,P.length<=q->((m.set i b).set k a)[q]? = some r -> ∃ q',P.length<=q'/\m[q']? = some r:=λ q r hq hr=>by
  rw[List.getElem?_set]at hr;split at hr
  ·split at hr
   ·obtain rfl:=Option.some.inj hr;exact ⟨i,h1,hi⟩
   ·cases hr
  ·rw[List.getElem?_set]at hr
   split at hr
   ·split at hr
    ·obtain rfl:=Option.some.inj hr;exact ⟨k,h2,hk⟩
    ·cases hr
   ·exact ⟨q,hq,hr⟩
 refine ⟨λ r hr => ?_,by simpa using h.pl,h.inc,h.pb,λ q p r hp hr => ?_,λ q r hq hr j hj => ?_⟩
 ·rcases eN hr with rfl|⟨j,_,hj⟩
  ·exact h.lr _ (zM hi)
  ·rcases eN (zM hj) with rfl|⟨q,_,hq⟩
   ·exact h.lr _ (zM hk)
   ·exact h.lr _ (zM hq)
 ·rw[hg q (zS hp).1]at hr
  exact h.nz q p r hp hr
 ·obtain ⟨q',h3,h4⟩:=hm q r hq hr
  exact h.zr q' r h3 h4 j hj
theorem EF.Kn {m:List (List Rat)} {W c:Nat} {P:List Nat} {t:List Rat} (h:EF m W c P) (ht:m[P.length]? = some t) (hn:t.getD c 0≠0) (hz : ∀ i r,P.length<i->m[i]? = some r->r.getD c 0=0):EF m W (c+1) (P++[c]):=by
 have Bu:=(zS ht).1;refine ⟨h.lr,by simp;omega,λ i j p q iw hp hq => ?_,λ p hp => ?_,λ i p r hp hr => ?_,λ i r hi hr j hj => ?_⟩
 ·have iq:=(zS hq).1
  rw[List.length_append,List.length_singleton]at iq;rw[List.getElem?_append_left (by omega)]at hp;by_cases e:j<P.length
  ·rw[List.getElem?_append_left e]at hq
   exact h.inc i j p q iw hp hq
  ·rw[List.getElem?_append_right (by omega),show j-P.length=0 by omega]at hq
   obtain rfl:=Option.some.inj hq;exact h.pb p (zM hp)
 ·rcases List.mem_append.1 hp with hp|hp
  ·exact Nat.lt_succ_of_lt (h.pb p hp)
  ·obtain rfl:=List.mem_singleton.1 hp;omega
 ·by_cases e:i<P.length
  ·rw[List.getElem?_append_left e]at hp
   exact h.nz i p r hp hr
  ·have eb:=(zS hp).1
   rw[List.length_append,List.length_singleton]at eb;rw[List.getElem?_append_right (by omega),show i-P.length=0 by omega]at hp;obtain rfl:=Option.some.inj hp;obtain rfl:i=P.length:=by omega
   obtain rfl:=Option.some.inj (ht.symm.trans hr);exact ⟨hn,λ j hj=>h.zr P.length _ (Nat.le_refl _) ht j hj⟩
 ·rw[List.length_append,List.length_singleton]at hi
  by_cases e:j=c
  ·subst e;exact hz i r (by omega) hr
  ·exact h.zr i r (by omega) hr j (by omega)
theorem EF.diag {m:List (List Rat)} {W c:Nat} {P:List Nat} (h:EF m W c P) (hP:P.length=c) : ∀ i p:Nat,P[i]? = some p->p=i:=by
 have up : ∀ d i p:Nat,P[i]? = some p->i+d<c->p+d<c:=by
  intro d;induction d with
  | zero=>intro i p hp _;exact h.pb p (zM hp)
  | succ d ih =>
   intro i p hp hi;obtain ⟨q,hq⟩ : ∃ q,P[i+1]? = some q:=⟨_,zE (by omega)⟩;have h1:=h.inc i (i+1) p q (by omega) hp hq;have h2:=ih (i+1) q hq (by omega);omega
 have dn : ∀ i p:Nat,P[i]? = some p->i<=p:=by
  intro i;induction i with
  | zero=>intro p _;omega
  | succ i ih =>
   intro p hp;have eb:=(zS hp).1;obtain ⟨q,hq⟩ : ∃ q,P[i]? = some q:=⟨_,zE (by omega)⟩;have h1:=h.inc i (i+1) q p (by omega) hq hp;have h2:=ih q hq;omega
 intro i p hp;have eb:=(zS hp).1;have h1:=dn i p hp;have h2:=up (c-1-i) i p hp (by omega);omega
end Go.e9
