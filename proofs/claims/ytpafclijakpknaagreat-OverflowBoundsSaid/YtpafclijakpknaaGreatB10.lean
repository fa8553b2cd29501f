/-
  Natural numbers (layer 1): greatest common divisors.
-/
import Derived.Test.YtpafclijakpknaaGreatB9
import Derived.Test.YtpafclijakpknaaGreatB7
import Derived.Test.YtpafclijakpknaaGreatB1
import Derived.Test.YtpafclijakpknaaGreatB8
import Derived.Test.YtpafclijakpknaaGreatB2
set_option linter.unusedSimpArgs false
set_option linter.unusedVariables false
set_option linter.unnecessarySimpa false
namespace Go.c9
open F
attribute [local irreducible] A0 B0 D8 BK IH DY FC E1 HI F9 IA LT GS EF HH H4 BD EU B9 pw IO H0 JM KX J9 GV IJ GT JW
set_option maxHeartbeats 4000000
variable {L:Lib}
theorem AhX {k':IntKind} {a:Int} {K:AV->Prop} (hk:K (.int .i64 (a/4294967296))):BK .shr .i64 a k' 32 K:=by
 refine ApM (by omega) ?_;have:pw 32=4294967296:=by decide +kernel
 rw[this];exact hk
theorem AhB {t:Int} {K:Int->Prop} (hk:K (Wg t:Int)):EI .u32 t K:=by
 refine ⟨?_⟩;rw[IntKind.wrap_u32,<-Ad4];exact hk
section
variable {k':IntKind} {a b:Nat} {K:AV->Prop}
theorem ApL {i:Nat} (hi:i<2) (ha:a<4294967296) (hk:K (.int .u64 ((a*4294967296^i:Nat):Int))):BK .shl .u64 (a:Int) k' (32*(i:Int)) K:=by
 rcases i with _|_|i
 ·exact pJ (s:=0) (by omega) (by omega) hk
 ·exact pJ (s:=32) (by omega) (by omega) hk
 ·omega
end
theorem Alj {x y M N:Int} (hx : -M<=x/\x<=M) (hy : -N<=y/\y<=N) : -(M*N)<=x*y/\x*y<=M*N:=by
 have h1:x.natAbs<=M.natAbs:=by omega
 have h2:y.natAbs<=N.natAbs:=by omega
 have h3:=Nat.mul_le_mul h1 h2;rw[<-Int.natAbs_mul,<-Int.natAbs_mul]at h3;have h4:0<=M*N:=Int.mul_nonneg (by omega) (by omega);omega
theorem AeO (N:e9 L) (a b:List Nat) (q1 q2:Bool) (hA:EK a) (hB:EK b) (la:a.length<=549755813888) (lb:b.length<=549755813888) (h0:val b≠0) :
  Ev L 75 [.sl q1 (a.map C3),.sl q2 (b.map C3)] (.j5 [.sl false ((dg (val a/val b)).map C3),.sl false ((dg (val a%val b)).map C3),.int .i64 0]):=by
 have l1:=MT hA;have l2:=MT hB;have hp:=Tw h0;refine Ev.x N.fR rfl rfl ?_;(repeat' ((first|(apply B6<;>intro hc<;>try omega)|apply C9|apply BL|refine bV (cX N a _ hA (by omega)) ?_|refine bV (cX N b _ hB (by omega)) ?_|refine BF (AeQ N _ _ _ _ h0 (by omega) (by omega)) ?_)<;>conv=>whnf))
 refine DH rfl ?_;simp only[EA,GK,and_true,true_and];exact ⟨I7 _,I7 _⟩
theorem AjT (N:e9 L) (V:Nat) (q:Bool) (hl:(dg V).length<=2):Ev L 76 [.sl q ((dg V).map C3)] (.int .u64 (V:Int)):=by
 have hV:=nV.1 hl;have hD:=K0 V;have hv:=GO V;refine Ev.x N.gG rfl rfl ?_;generalize dg V=l at *;(repeat' ((first|apply C9|apply BL)<;>conv=>whnf))
 refine MR (λ i _=>l.length-i) (λ(i:Nat) (a:Nat)=>i<=l.length/\a=val (l.take i)) (λ i a=>[(3,.int .u64 (a:Int)),(8,.int .i64 i)]) (λ_ _=>[]) 0 0 ⟨by omega,rfl⟩ ?_;intro i a ⟨p1,p2⟩ ih;by_cases hi:i<l.length
 ·obtain ⟨d,hd⟩ : ∃ d,l[i]? = some d:=⟨_,zE hi⟩
  have ft:=hD.at hd;have h1:=LR hd;have h2:=NH (hD.take i);have h3:=NH (hD.take (i+1));rw[List.length_take,Nat.min_eq_left (by omega)]at h2 h3;have h4:4294967296^(i+1)<=4294967296^2:=Nat.pow_le_pow_right (by omega) (by omega);(repeat' ((first|(apply B6<;>intro hc<;>try omega)|(apply NA;omega)|(apply HN;omega)|(refine E4 (by assumption) ?_ rfl ?_;omega)|apply BL)<;>conv=>whnf))
  refine ApL (by omega) ft ?_;(conv=>whnf)
  rw[Nat.mul_comm d];refine Abl (32*i) (by rw[Nat.pow_mul];exact Nat.mul_mod_right _ _) (by rw[Nat.pow_mul,p2];exact h2) (by omega) ?_;(conv=>whnf)
  (repeat' ((first|(apply DD;omega)|fail)<;>conv=>whnf))
  exact GF [] (by (conv=>whnf);exact ⟨rfl,rfl,rfl⟩) (ih (i+1) _ (by omega) ⟨by omega,by rw[h1,p2]⟩)
 ·obtain rfl:i=l.length:=by omega
  clear ih;(repeat' ((first|(apply B6<;>intro hc<;>try omega)|apply BL)<;>conv=>whnf))
  rw[JT (Nat.le_refl _)]at p2;exact IC (by omega)
theorem Adm {f:Nat} {vs:List AV} {tm:Tm} {M:Mem} {K:AV->Mem->Prop} {v:AV} (h:EU L f vs tm M (λ r M'=>r=v/\M'=M)) (hk:K v M):EU L f vs tm M K:=by
 unfold EU at h ⊢;intro σ own hs;obtain ⟨r,q8,σ',M',h1,h2,h3,rfl,rfl⟩:=h σ own hs;exact ⟨_,q8,σ',_,h1,h2,h3,hk⟩
theorem AjS (N:e9 L) (a:List Nat) (q:Bool) (n s:Nat) (hD:EK a) (hn:3<=n) (hl:a.length<=n) (hn2:n<=549755813888) (hs:s<=31) (o5:val a*2^s<4294967296^n) :
  Ev L 78 [.sl q (a.map C3),.int .i64 (n:Int),.int .u64 (s:Int)] (.int .i64 ((val a/xR n s:Nat):Int)):=by
 have b1:=rT hD (n-1);have b2:=rT hD (n-2);have b3:=rT hD (n-3);have xi:=Alr hD hn hl rfl rfl o5;have heq:=Alo (s:=s) hD hn hl hs rfl rfl rfl;obtain ⟨f1,f2,f3,f4⟩:=uZ (s:=s) b3 (by omega);refine Ev.x N.gA rfl rfl ?_;(repeat' ((first|(apply EL;omega)|(apply F8;omega)|apply BL)<;>conv=>whnf))
 refine Adm (v := .int .u64 ((a.getD (n-1) 0:Nat):Int)) ?_ ?_
 ·refine P8 1000 N.YW rfl rfl ?_
  (repeat' ((first|(apply B6<;>intro hc<;>try omega)|(apply HN;omega)|apply C9|(refine rB (by assumption) ?_ (λ e he hb => ?_);omega)|apply BL)<;>conv=>whnf))
  ·refine ⟨rfl,_,rfl,?_,rfl⟩
   rw[show ((n:Int)-1).toNat=n-1 by omega]at he;rw[QB he];rfl
  ·refine ⟨rfl,_,rfl,?_,rfl⟩
   rw[<-rU (show a.length<=n-1 by omega)];rfl
 (conv=>whnf)
 (repeat' ((first|(apply EL;omega)|(apply F8;omega)|(apply nJ;omega))<;>conv=>whnf))
 refine Adm (v := .int .u64 ((a.getD (n-2) 0:Nat):Int)) ?_ ?_
 ·refine P8 1000 N.YW rfl rfl ?_
  (repeat' ((first|(apply B6<;>intro hc<;>try omega)|(apply HN;omega)|apply C9|(refine rB (by assumption) ?_ (λ e he hb => ?_);omega)|apply BL)<;>conv=>whnf))
  ·refine ⟨rfl,_,rfl,?_,rfl⟩
   rw[show ((n:Int)-2).toNat=n-2 by omega]at he;rw[QB he];rfl
  ·refine ⟨rfl,_,rfl,?_,rfl⟩
   rw[<-rU (show a.length<=n-2 by omega)];rfl
 (conv=>whnf)
 generalize a.getD (n-1) 0=d1 at *;generalize a.getD (n-2) 0=d2 at *;(repeat' ((first|(apply pC;omega)|fail)<;>conv=>whnf))
 refine pJ (by omega) xi ?_;(conv=>whnf)
 generalize hT:(d1*4294967296+d2)*2^s=T at *;(repeat' ((first|(apply EL;omega)|(apply F8;omega))<;>conv=>whnf))
 refine Adm (v := .int .u64 ((a.getD (n-3) 0:Nat):Int)) ?_ ?_
 ·refine P8 1000 N.YW rfl rfl ?_
  (repeat' ((first|(apply B6<;>intro hc<;>try omega)|(apply HN;omega)|apply C9|(refine rB (by assumption) ?_ (λ e he hb => ?_);omega)|apply BL)<;>conv=>whnf))
  ·refine ⟨rfl,_,rfl,?_,rfl⟩
   rw[show ((n:Int)-3).toNat=n-3 by omega]at he;rw[QB he];rfl
  ·refine ⟨rfl,_,rfl,?_,rfl⟩
   rw[<-rU (show a.length<=n-3 by omega)];rfl
 (conv=>whnf)
 generalize a.getD (n-3) 0=d3 at *;skip
 refine pJ (by omega) f4 ?_;(conv=>whnf)
 (repeat' (apply N6<;>conv=>whnf))
 rw[uY]at f2;refine AhU s (by rw[<-hT];exact Nat.mul_mod_left _ _) f2 (by have:=Ach (k:=d1*4294967296+d2) (show s<=64 by omega) (by omega);omega) ?_;(conv=>whnf)
 (repeat' ((first|apply ApI|(apply sV;omega))<;>conv=>whnf))
 rw[heq];exact IC rfl
theorem Atl (N:e9 L) (P Q:Int) (hP:0<=P/\P<=4611686018427387904) (hQ:0<=Q/\Q<=4611686018427387904) : ∃ r,Ev L 79 [.int .i64 P,.int .i64 Q] r /\ ∃ a b c d:Int,(LSg a b c d/\(-2147483647<=a/\a<=2147483647)/\(-2147483647<=b/\b<=2147483647)/\(-2147483647<=c/\c<=2147483647)/\(-2147483647<=d/\d<=2147483647))/\(b≠0->zH P Q a b c d)/\r = .j5 [.int .i64 a,.int .i64 b,.int .i64 c,.int .i64 d]:=by
 refine Ev.xE N.fX rfl rfl ?_;(repeat' (apply BL<;>conv=>whnf))
 refine AoK (λ_ _ _ _ _ q=>(q+2147483648).toNat) (λ(a b c d p q:Int)=>tD P Q a b c d p q/\((-2147483647<=a/\a<=2147483647)/\(-2147483647<=b/\b<=2147483647)/\(-2147483647<=c/\c<=2147483647)/\(-2147483647<=d/\d<=2147483647))/\(p<=4611686018427387904/\q<=4611686018427387904)/\vV P Q a b c d/\(b≠0->zH P Q a b c d)) (λ a b c d p q=>[(0,.int .i64 p),(1,.int .i64 q),(4,.int .i64 a),(5,.int .i64 b),(6,.int .i64 c),(7,.int .i64 d)]) (λ_ _ _ _ _ _=>[]) [] [] 1 0 0 1 P Q (by (conv=>whnf);exact ⟨rfl,rfl,rfl⟩) ⟨tD.start hP.1 hQ.1,by omega,by omega,vV.start P Q,λ h=>absurd rfl h⟩ ?_;intro a b c d p q ⟨p1,⟨⟨p2,p2'⟩,⟨p3,p3'⟩,⟨p4,p4'⟩,⟨p5,p5'⟩⟩,⟨p6,p7⟩,p8,p9⟩ ih;have g1:=p1.pa;have g2:=p1.pb;have g3:=p1.qc;have g4:=p1.qd;by_cases qy:q+c=0
 ·(repeat' ((first|(apply B6<;>intro hc<;>try omega)|(apply DD;omega)|apply BL)<;>conv=>whnf))
  refine ⟨.j5 [.int .i64 a,.int .i64 b,.int .i64 c,.int .i64 d],?_,a,b,c,d,⟨p1.sg,by omega⟩,p9,rfl⟩;(conv=>whnf)
  exact DH rfl (by simp [EA,GK])
 by_cases Bg:q+d=0
 ·(repeat' ((first|(apply B6<;>intro hc<;>try omega)|(apply DD;omega)|apply BL)<;>conv=>whnf))
  refine ⟨.j5 [.int .i64 a,.int .i64 b,.int .i64 c,.int .i64 d],?_,a,b,c,d,⟨p1.sg,by omega⟩,p9,rfl⟩;(conv=>whnf)
  exact DH rfl (by simp [EA,GK])
 by_cases hff:(p+a)/(q+c)=(p+b)/(q+d)
 ·obtain ⟨s1,s2,s3,s4⟩:=p1.step qy Bg rfl hff
  have s5:=s4 p8;have s6:=s5.half;have s7:=s1.qc;by_cases qe:2147483647<(p+a)/(q+c)
  ·(repeat' ((first|(apply B6<;>intro hc<;>try omega)|(apply DD;omega)|(refine Z2 ?_ ?_ (λ_ => ?_) (λ_ _ => ?_);omega;omega;all_goals try omega)|apply BL)<;>conv=>whnf))
   refine ⟨.j5 [.int .i64 a,.int .i64 b,.int .i64 c,.int .i64 d],?_,a,b,c,d,⟨p1.sg,by omega⟩,p9,rfl⟩;(conv=>whnf)
   exact DH rfl (by simp [EA,GK])
  ·have t1:=Alj (x:=(p+a)/(q+c)) (y:=c) (M:=2147483647) (N:=2147483647) (by omega) (by omega)
   have t2:=Alj (x:=(p+a)/(q+c)) (y:=d) (M:=2147483647) (N:=2147483647) (by omega) (by omega);(repeat' ((first|(apply B6<;>intro hc<;>try omega)|(apply DD;omega)|(apply F8;omega)|(apply NA;omega)|(refine Z2 ?_ ?_ (λ_ => ?_) (λ_ _ => ?_);omega;omega;all_goals try omega)|(apply IH.neg;omega)|apply BL)<;>conv=>whnf))
   all_goals first
    | exact GF [] (by (conv=>whnf);exact ⟨rfl,rfl,rfl⟩) (ih _ _ _ _ _ _ (by omega) ⟨s1,by omega,by omega,s6,λ_=>s5⟩)
    |(refine ⟨.j5 [.int .i64 a,.int .i64 b,.int .i64 c,.int .i64 d],?_,a,b,c,d,⟨p1.sg,by omega⟩,p9,rfl⟩
      (conv=>whnf)
      exact DH rfl (by simp [EA,GK]))
 ·(repeat' ((first|(apply B6<;>intro hc<;>try omega)|(apply DD;omega)|(refine Z2 ?_ ?_ (λ_ => ?_) (λ_ _ => ?_);omega;omega;all_goals try omega)|apply BL)<;>conv=>whnf))
  refine ⟨.j5 [.int .i64 a,.int .i64 b,.int .i64 c,.int .i64 d],?_,a,b,c,d,⟨p1.sg,by omega⟩,p9,rfl⟩;(conv=>whnf)
  exact DH rfl (by simp [EA,GK])
theorem Atm (N:e9 L) (x y:List Nat) (q1 q2:Bool) (f g:Int) (hX:EK x) (hY:EK y) (hl:y.length<=x.length) (lx:x.length<=549755813888) (hs:qY f g) (R:Nat) (hR:(R:Int)=f*val x+g*val y) (hR2:R<=val x) :
  Ev L 80 [.sl q1 (x.map C3),.sl q2 (y.map C3),.int .i64 f,.int .i64 g] (.sl false ((dg R).map C3)):=by
 refine Ev.x N.fY rfl rfl ?_;(repeat' ((first|apply C9|apply BL)<;>conv=>whnf))
 refine K9 (enc:=C3) 0 x.length rfl rfl (by omega) ?_;(conv=>whnf)
 (repeat' (apply C9<;>conv=>whnf))
 refine P6 (λ i _ _=>x.length-i) (λ(i:Nat) (o:List Nat) (c:Int)=>i<=x.length/\o.length=x.length/\EK o /\ -2147483648<=c/\c<=2147483648/\(val (o.take i):Int)+((4294967296^i:Nat):Int)*c=f*val (x.take i)+g*val (y.take i)) (λ i o c=>[(10,.int .i64 c),(19,.int .i64 i)]) (λ i o c=>[(16,16,.rw 1 (o.map C3))]) 0 (List.replicate x.length 0) 0 ⟨by omega,by simp,Z9 _,by omega,by omega,by simp [val]⟩ ?_;intro i o c ⟨p1,p2,p3,p4,p5,p6⟩ ih;by_cases hi:i<x.length
 ·obtain ⟨d,hd⟩ : ∃ d,x[i]? = some d:=⟨_,zE hi⟩
  have ft:=hX.at hd;have h1:=LR hd;by_cases hy:i<y.length
  ·obtain ⟨e,he⟩ : ∃ e,y[i]? = some e:=⟨_,zE hy⟩
   have heb:=hY.at he;have h2:=LR he;obtain ⟨r1,r2,r3⟩:=hs.rng ft heb;have o4:=AiG (d:=d) (e:=e) p6 rfl;(repeat' ((first|(apply B6<;>intro hc<;>try omega)|(apply DD;omega)|(apply NA;omega)|(apply sV;omega)|apply C9|(refine E4 (by assumption) ?_ rfl ?_;omega)|apply BL)<;>conv=>whnf))
   generalize htt:f * ↑d+c+g * ↑e=t at *;refine AhB ?_;(conv=>whnf)
   (repeat' ((first|(apply EL;omega)|fail)<;>conv=>whnf))
   refine NT (by omega) ?_;(conv=>whnf)
   refine AhX ?_;(conv=>whnf)
   (repeat' ((first|(apply DD;omega)|fail)<;>conv=>whnf))
   refine GF [] (by (conv=>whnf);exact ⟨rfl,rfl,rfl⟩) (ih (i+1) _ _ (by omega) ⟨by omega,by simpa using p2,p3.set _ (AiF t),by omega,by omega,?_⟩);rw[PQ (by omega),h1,h2,Nat.pow_succ];simp only[Int.natCast_add,Int.natCast_mul,Ad4];exact o4
  ·have h2:=Ac7 (y:=y) (i:=i) (by omega)
   obtain ⟨r1,r2,r3⟩:=hs.rng (e:=0) ft (by omega);have o4:=AiG (d:=d) (e:=0) p6 rfl;rw[Int.mul_zero,Int.add_zero]at o4;have r4 : -9223372030412324865<=f*(d:Int)/\f*(d:Int)<=9223372030412324865:=r1;(repeat' ((first|(apply B6<;>intro hc<;>try omega)|(apply DD;omega)|(apply NA;omega)|(apply sV;omega)|apply C9|(refine E4 (by assumption) ?_ rfl ?_;omega)|apply BL)<;>conv=>whnf))
   generalize htt:f * ↑d+c=t at *;refine AhB ?_;(conv=>whnf)
   (repeat' ((first|(apply EL;omega)|fail)<;>conv=>whnf))
   refine NT (by omega) ?_;(conv=>whnf)
   refine AhX ?_;(conv=>whnf)
   (repeat' ((first|(apply DD;omega)|fail)<;>conv=>whnf))
   refine GF [] (by (conv=>whnf);exact ⟨rfl,rfl,rfl⟩) (ih (i+1) _ _ (by omega) ⟨by omega,by simpa using p2,p3.set _ (AiF t),by omega,by omega,?_⟩);rw[PQ (by omega),h1,h2,Nat.pow_succ];simp only[Int.natCast_add,Int.natCast_mul,Ad4];rw[Int.mul_zero,Int.add_zero]at o4;exact o4
 ·obtain rfl:i=x.length:=by omega
  clear ih;rw[JT (by omega),JT (Nat.le_refl _),JT (by omega)]at p6;have hov:=NH p3;have hxv:=NH hX;rw[p2]at hov;have hVR:val o=R:=by
   have:=Aq7 hov p6 (by omega) (by omega)
   omega
  have na:=MT p3;rw[<-p2,<-hVR];(repeat' ((first|(apply B6<;>intro hc<;>try omega)|apply BL|refine Abe N (by assumption) (by omega) rfl (by first|rfl|omega|assumption) ?_)<;>conv=>whnf))
  refine XL (enc:=C3) (λ_=>rfl) (by omega) ?_;(conv=>whnf)
  refine DH ?_ (by simp only[EA,true_and];exact I7 _);rw[List.drop_zero,Rg p3]
theorem Atp (N:e9 L) (X Y:Nat) (Eg:Y<=X) (hy:3<=(dg Y).length) (lx:(dg X).length<=549755813888) : ∃ r,Ev L 81 [.sl false ((dg X).map C3),.sl false ((dg Y).map C3)] r /\ ∃ A B:Nat,(B<Y/\B<=A/\A<=X/\Nat.gcd A B=Nat.gcd X Y)/\r = .j5 [.sl false ((dg A).map C3),.sl false ((dg B).map C3)]:=by
 have hY0:Y≠0:=λ h=>by rw[h,NE]at hy;simp at hy
 have Hz:X≠0:=by omega
 have hlen:=rK Eg;have Ic:=λ q q'=>AeQ N X Y q q' hY0 lx (by omega)
 have d1:=K0 X;have d2:=K0 Y;have v1:=GO X;have v2:=GO Y;obtain ⟨xt,hxt,AEW⟩:=Aer Hz;have Zk:=d1.at hxt;obtain ⟨b1,b2,b3,b4⟩:=Afz AEW Zk;have Yl:=AjD N xt Zk;generalize hs:32-ae xt=s at *;have jl:s<=31:=by omega
 obtain ⟨n1,n2⟩:=Aft d1 hxt (by omega) jl b3 b4;have wx:=λ(f g:Int) (R:Nat) (hs:qY f g) (h1:(R:Int)=f*val (dg X)+g*val (dg Y)) (h2:R<=val (dg X)) (q q':Bool)=>Atm N (dg X) (dg Y) q q' f g d1 d2 (by omega) lx hs R h1 h2
 have n3:val (dg Y)*2^s<4294967296^(dg X).length:=Nat.lt_of_le_of_lt (zR _ (by omega)) n1;have na:=λ q=>AjS N (dg X) q (dg X).length s d1 (by omega) (by omega) lx jl n1
 have pc:=λ q=>AjS N (dg Y) q (dg X).length s d2 (by omega) (by omega) lx jl n3
 have hK:=Avn (dg X).length s;obtain ⟨e1,x1,x2,x3⟩:=Alv (V:=X) hK;obtain ⟨e2,y1,y2,y3⟩:=Alv (V:=Y) hK;rw[v1]at na;rw[v2]at pc;have Lg:=Alu d1 (n:=(dg X).length) (by omega) (by omega) jl n1;have Qk:=Alu d2 (n:=(dg X).length) (by omega) (by omega) jl n3;rw[v1]at Lg;rw[v2]at Qk;generalize xR (dg X).length s=K at *;generalize X/K=P at *;generalize Y/K=Q at *;rw[v1,v2]at wx;obtain ⟨rc,hrc,a,b,c,d,⟨z1,z2,z3,z4,z5⟩,z6,rfl⟩:=Atl N (P:Int) (Q:Int) (by omega) (by omega);have e1:(((dg X).length:Int)-1).toNat=(dg X).length-1:=by omega
 rw[<-e1]at hxt;refine Ev.xE N.gD rfl rfl ?_;by_cases hb:b=0
 ·(repeat' ((first|(apply B6<;>intro hc<;>try omega)|(apply F8;omega)|(apply HN;omega)|apply C9|(refine E4 (by assumption) ?_ rfl ?_;omega)|apply BL|refine BF (Yl) ?_|refine BF (na _) ?_|refine BF (pc _) ?_|refine BF (hrc) ?_|refine BF (Ic _ _) ?_)<;>conv=>whnf))
  refine ⟨_,?_,Y,X%Y,⟨Nat.mod_lt _ (by omega),Nat.le_of_lt (Nat.mod_lt _ (by omega)),Eg,Ro X Y⟩,rfl⟩;(conv=>whnf)
  exact DH rfl (To _ _)
 ·obtain ⟨g1,g2,g3,g4⟩:=z6 hb (X:Int) (Y:Int) (K:Int) _ _ (by omega) x1 y1 x2 x3 y2 y3
  obtain ⟨A,hA⟩:=Int.eq_ofNat_of_zero_le (show 0<=a*X+b*Y by omega);obtain ⟨B,hB⟩:=Int.eq_ofNat_of_zero_le g1;have s1:qY a b:=by rcases z1 with ⟨h1,h2,h3,h4⟩|⟨h1,h2,h3,h4⟩<;>unfold qY<;>omega
  have s2:qY c d:=by rcases z1 with ⟨h1,h2,h3,h4⟩|⟨h1,h2,h3,h4⟩<;>unfold qY<;>omega
  (repeat' ((first|(apply B6<;>intro hc<;>try omega)|(apply F8;omega)|(apply HN;omega)|apply C9|(refine E4 (by assumption) ?_ rfl ?_;omega)|apply BL|refine BF (Yl) ?_|refine BF (na _) ?_|refine BF (pc _) ?_|refine BF (hrc) ?_|refine BF (wx a b A s1 hA.symm (by omega) _ _) ?_|refine BF (wx c d B s2 hB.symm (by omega) _ _) ?_)<;>conv=>whnf))
  rw[hA,hB]at g4;rw[hA,hB]at g2;refine ⟨_,?_,A,B,⟨by omega,by omega,by omega,by simpa using g4⟩,rfl⟩;(conv=>whnf)
  exact DH rfl (To _ _)
theorem AkY (N:e9 L) (X Y:Nat) (Eg:Y<=X) (lx:(dg X).length<=549755813888) :
 A0 L [It.lp QE.l1,It.k8 0,
   It.code
    ((((FX.ops QE.r6 false).dr [23,30,31] []).seq
       (FX.cond 32 (((FX.ops QE.r7 false).dr [5,6,32,33] []).seq FX.ret) FX.skip)).seq
     (((FX.ops QE.r8 false).dr [5,7,32,34,35,36,37,38,39] []).seq
      (((FX.ops QE.r9 false).dr [6,8,40,41,42,43] []).seq
       ((FX.block 2 QE.l2.loop).seq
        (((FX.ops QE.aj false).dr [9,10,45,50,51,52,53,54,55,56] []).seq FX.ret)))))]
  [(6,AV.sl false (List.map C3 (dg Y))),(5,AV.sl false (List.map C3 (dg X)))] []
  (pK QE (AV.sl false (List.map C3 (dg (X.gcd Y))))):=by
 refine MR (λ_ y=>y) (λ(x y:Nat)=>y<=x/\(dg x).length<=549755813888/\Nat.gcd x y=Nat.gcd X Y) (λ x y=>[(6,AV.sl false (List.map C3 (dg y))),(5,AV.sl false (List.map C3 (dg x)))]) (λ_ _=>[]) X Y ⟨Eg,lx,rfl⟩ ?_;intro x y ⟨p1,p2,p3⟩ ih;rw[<-p3]at ih ⊢;generalize Nat.gcd X Y=G at *;clear Eg lx;subst p3;have hlen:=rK p1;by_cases h3:3<=(dg y).length
 ·obtain ⟨r,hr,A,B,⟨k1,k2,k3,k4⟩,rfl⟩:=Atp N x y p1 h3 p2
  have k5:=rK k3;(repeat' ((first|(apply B6<;>intro hc<;>try omega)|apply C9|apply BL|refine BF (hr) ?_)<;>conv=>whnf))
  exact FV [] (ih A B k1 ⟨k2,by omega,k4⟩)
 ·clear ih
  by_cases h0:y=0
  ·subst h0
   have Ez:(dg 0).length=0:=by rw[NE];rfl
   (repeat' ((first|(apply B6<;>intro hc<;>try omega)|apply C9|apply BL)<;>conv=>whnf))
   rw[Nat.gcd_zero_right];exact DH rfl (by simp only[EA,true_and];exact I7 _)
  ·have hp:=Tw h0
   have hm:=rK (Nat.le_of_lt (Nat.mod_lt x (show y>0 by omega)));have hd:=λ q q'=>AeQ N x y q q' h0 p2 (by omega)
   have Hg:=λ q=>AjT N y q (by omega)
   have Jg:=λ q=>AjT N (x%y) q (by omega)
   have hb:y<18446744073709551616:=nV.1 (show (dg y).length<=2 by omega);have De:x%y<y:=Nat.mod_lt _ (by omega);rw[<-Ro x y];(repeat' ((first|(apply B6<;>intro hc<;>try omega)|apply C9|apply BL|refine BF (hd _ _) ?_|refine BF (Hg _) ?_|refine BF (Jg _) ?_)<;>conv=>whnf))
   refine zC (λ_ q=>q) (λ(p q:Nat)=>p<18446744073709551616/\q<18446744073709551616/\Nat.gcd p q=Nat.gcd y (x%y)) (λ p q=>[(9,.int .u64 (p:Int)),(10,.int .u64 (q:Int))]) (λ_ _=>[]) [] [] y (x%y) (by (conv=>whnf);exact ⟨rfl,rfl,rfl⟩) ⟨hb,by omega,rfl⟩ ?_;intro p q ⟨g1,g2,g3⟩ ih;rw[<-g3]at ih ⊢;by_cases hq:q=0
   ·subst hq
    clear ih;obtain ⟨v1,v2⟩:=dg2 g1;rw[Nat.gcd_zero_right];have na:=MT v2;have ht:=Rg v2;rw[v1]at na ht;(repeat' ((first|(apply B6<;>intro hc<;>try omega)|apply N6|(apply L5;omega)|apply O7|apply BL)<;>conv=>whnf))
    generalize p%4294967296=lo at *;generalize p/4294967296=hi at *;refine Abe N v2 (by simp) rfl rfl ?_;rw[v1];(conv=>whnf)
    skip
    refine XL (enc:=C3) (l:=[lo,hi]) (λ_=>rfl) (by omega) ?_;(conv=>whnf)
    refine DH ?_ (by simp only[EA,true_and];exact I7 _);rw[List.drop_zero,ht]
   ·have hpq:p%q<q:=Nat.mod_lt _ (by omega)
    (repeat' ((first|(apply B6<;>intro hc<;>try omega)|(apply zJ;omega)|apply BL)<;>conv=>whnf))
    exact FV [] (ih q (p%q) hpq ⟨g2,by omega,Ro p q⟩)
theorem Atk (N:e9 L) (a b:List Nat) (q1 q2:Bool) (hA:EK a) (hB:EK b) (la:a.length<=549755813888) (lb:b.length<=549755813888) :
  Ev L 82 [.sl q1 (a.map C3),.sl q2 (b.map C3)] (.sl false ((dg (Nat.gcd (val a) (val b))).map C3)):=by
 have t1:=λ q=>Ul N a q hA (by omega)
 have t2:=λ q=>Ul N b q hB (by omega)
 have l1:=MT hA;have l2:=MT hB;have q6:=λ q q'=>pZ N (dg (val a)) (dg (val b)) q q' (K0 _) (K0 _) (by omega) (by omega)
 rw[GO,GO]at q6;generalize val a=X at *;generalize val b=Y at *;refine Ev.x N.QE rfl rfl ?_;by_cases o5:X<Y
 ·have hn:JQ X Y = -1:=(YM (by omega)).symm
  rw[hn]at q6;(repeat' ((first|(apply B6<;>intro hc<;>try omega)|apply BL|refine BF (t1 _) ?_|refine BF (t2 _) ?_|refine BF (q6 _ _) ?_)<;>conv=>whnf))
  rw[Nat.gcd_comm];exact GF [] (by (conv=>whnf);exact ⟨rfl,rfl,rfl⟩) (AkY N Y X (by omega) (by omega))
 ·have zz:0<=JQ X Y:=by unfold JQ;split<;>(try split)<;>omega
  generalize JQ X Y=cm at *;(repeat' ((first|(apply B6<;>intro hc<;>try omega)|apply BL|refine BF (t1 _) ?_|refine BF (t2 _) ?_|refine BF (q6 _ _) ?_)<;>conv=>whnf))
  exact GF [] (by (conv=>whnf);exact ⟨rfl,rfl,rfl⟩) (AkY N X Y (by omega) (by omega))
end Go.c9
namespace Go.c9
open F
attribute [local irreducible] A0 B0 D8 BK IH DY FC E1 HI F9 IA LT GS EF HH H4 BD EU B9 pw IO H0 JM KX J9 GV IJ GT JW
variable {L:Lib}
set_option maxHeartbeats 4000000
theorem Apw {k:Nat} {K:Int->Prop} (h:0<k/\k<=9223372036854775808) (hk:K ((18446744073709551616-k:Nat):Int)):EI .u64 (-(k:Int)) K:=by
 refine ⟨?_⟩;have e:IntKind.u64.wrap (-(k:Int))=((18446744073709551616-k:Nat):Int):=by
  simp [IntKind.wrap,IntKind.bits,IntKind.signed];omega
 rw[e];exact hk
theorem IH.Zr {k:Nat} {K:AV->Prop} (h:0<k/\k<=9223372036854775808) (hk:K (.int .u64 (k:Int))):IH .neg .u64 ((18446744073709551616-k:Nat):Int) K:=by
 refine IH.go (v := .int .u64 (IntKind.u64.wrap (0-((18446744073709551616-k:Nat):Int)))) rfl ?_;have e:IntKind.u64.wrap (0-((18446744073709551616-k:Nat):Int))=(k:Int):=by
  simp [IntKind.wrap,IntKind.bits,IntKind.signed];omega
 rw[e];exact hk
theorem AeN (N:a7 L) (z:Int) (hz : -9223372036854775808<=z/\z<=9223372036854775807):Ev L 85 [.int .i64 z] (.agg (eZ z)):=by
 have two : ∀ k:Nat,k<18446744073709551616 -> ∀ q,Ev L 66 [.sl q [[.int .u32 ((k%4294967296:Nat):Int)],[.int .u32 ((k/4294967296:Nat):Int)]]] (.sl false ((dg k).map C3)):=λ k hk q=>by
  have:=Ul N.toe9 [k%4294967296,k/4294967296] q (dg2 hk).2 (by simp)
  rw[Aos hk]at this;exact this
 refine Ev.x N.eJ rfl rfl ?_;by_cases h0:0<=z
 ·obtain ⟨k,rfl⟩:=Int.eq_ofNat_of_zero_le h0
  have hT:=two k (by omega);have z1:=YP k;(repeat' ((first|(apply B6<;>intro hc<;>try omega)|apply N6|(apply HN;omega)|(apply L5;omega)|apply O7|refine Z3 rfl rfl ?_|apply BL)<;>conv=>whnf))
  generalize k%4294967296=lo at *;generalize k/4294967296=hi at *;(repeat' (refine BF (hT _) ?_<;>conv=>whnf))
  refine N1 1000 N.J3 rfl rfl ?_;(repeat' (apply BL<;>conv=>whnf))
  all_goals (refine ⟨rfl,?_⟩;(conv=>whnf);skip)
  exact DH (MM (by omega) (P4 (by omega))) (KI _)
 ·obtain ⟨k,hk⟩:=Int.eq_ofNat_of_zero_le (show 0 <= -z by omega)
  obtain rfl:z = -(k:Int):=by omega
  have hT:=two k (by omega);have z1:=YP k;(repeat' (apply BL<;>conv=>whnf))
  refine Apw (by omega) ?_;(conv=>whnf)
  (repeat' ((first|(apply B6<;>intro hc<;>try omega)|fail)<;>conv=>whnf))
  refine IH.Zr (by omega) ?_;(conv=>whnf)
  (repeat' ((first|(apply B6<;>intro hc<;>try omega)|apply N6|(apply L5;omega)|apply O7|refine Z3 rfl rfl ?_)<;>conv=>whnf))
  generalize k%4294967296=lo at *;generalize k/4294967296=hi at *;(repeat' (refine BF (hT _) ?_<;>conv=>whnf))
  refine N1 1000 N.J3 rfl rfl ?_;(repeat' ((first|(apply B6<;>intro hc<;>try omega)|apply C9|apply BL)<;>conv=>whnf))
  all_goals (refine ⟨rfl,?_⟩;(conv=>whnf);skip)
  exact DH (MM (by omega) (mN (by omega))) (KI _)
theorem AjL (N:a7 L) (n q:Bool) (m:List Nat) (hm:Sm 549755813888 m):Ev L 84 [.agg (rZ q n m)] (.agg (eZ (zv n m))):=by
 have hT:=λ q=>Ul N.toe9 m q hm.1 (by have:=hm.2;omega)
 have hz:=YP (val m);have ha:=M8 n m;refine Ev.x N.eL rfl rfl ?_;cases n
 ·rw[MF]at *
  (repeat' ((first|apply BL|refine BF (hT _) ?_)<;>conv=>whnf))
  refine N1 1000 N.J3 rfl rfl ?_;(repeat' (apply BL<;>conv=>whnf))
  all_goals (refine ⟨rfl,?_⟩;(conv=>whnf);skip)
  exact DH (MM ha.symm (P4 (by omega))) (KI _)
 ·rw[oY]at *
  (repeat' ((first|apply BL|refine BF (hT _) ?_)<;>conv=>whnf))
  refine N1 1000 N.J3 rfl rfl ?_;(repeat' ((first|(apply B6<;>intro hc<;>try omega)|apply C9|apply BL)<;>conv=>whnf))
  all_goals (refine ⟨rfl,?_⟩;(conv=>whnf);skip)
  ·exact DH (MM ha.symm (mN (by omega))) (KI _)
  ·exact DH (MM ha.symm (P4 (by omega))) (KI _)
theorem AbV (N:a7 L) (n q:Bool) (m:List Nat) (hm:Sm 549755813888 m):Ev L 86 [.agg (rZ q n m)] (.int .i64 (w3 (zv n m))):=by
 have q6:=λ q q'=>pZ N.toe9 m [] q q' hm.1 wW (by have:=hm.2;omega) (by simp)
 rw[ZT]at q6;refine Ev.x N.eK rfl rfl ?_;by_cases h0:val m=0
 ·have hn:JQ (val m) (0:Nat)=0:=(tO (by omega)).symm
  rw[hn]at q6;(repeat' ((first|(apply B6<;>intro hc<;>try omega)|apply BL|refine BF (q6 _ _) ?_)<;>conv=>whnf))
  exact IC (AcM (by have:=M8 n m;omega))
 ·have hn:JQ (val m) (0:Nat)=1:=(nT (by omega)).symm
  rw[hn]at q6;cases n
  ·(repeat' ((first|(apply B6<;>intro hc<;>try omega)|apply BL|refine BF (q6 _ _) ?_)<;>conv=>whnf))
   exact IC (AgE (by rw[MF];omega))
  ·(repeat' ((first|(apply B6<;>intro hc<;>try omega)|apply BL|refine BF (q6 _ _) ?_)<;>conv=>whnf))
   exact IC (AgD (by rw[oY];omega))
theorem AjH (N:a7 L) (n1 n2 q1 q2:Bool) (a b:List Nat) (ha:Sm 549755813888 a) (hb:Sm 549755813888 b):Ev L 87 [.agg (rZ q1 n1 a),.agg (rZ q2 n2 b)] (.agg (eZ (zv n1 a+zv n2 b))):=by
 have la:=ha.2;have lb:=hb.2;have h1:=λ q q'=>Atj N.toe9 a b q q' ha.1 hb.1 (by omega) (by omega)
 have h2:=λ q q'=>AjR N.toe9 a b q q' ha.1 hb.1 (by omega) (by omega)
 have h3:=λ q q'=>AjR N.toe9 b a q q' hb.1 ha.1 (by omega) (by omega)
 have q6:=λ q q'=>pZ N.toe9 a b q q' ha.1 hb.1 (by omega) (by omega)
 have z1:=YP (val a+val b);have z2:=YP (val a-val b);have z3:=YP (val b-val a);refine Ev.x N.eG rfl rfl ?_;by_cases o5:val a<val b
 ·have hn:JQ (val a) (val b) = -1:=(YM (by omega)).symm
  rw[hn]at q6;cases n1<;>cases n2<;>simp only[MF,oY]
  ·(repeat' ((first|apply BL|refine BF (h1 _ _) ?_)<;>conv=>whnf))
   refine N1 1000 N.J3 rfl rfl ?_;(repeat' (apply BL<;>conv=>whnf))
   all_goals (refine ⟨rfl,?_⟩;(conv=>whnf);skip)
   exact DH (MM (by omega) (P4 (by omega))) (KI _)
  ·(repeat' ((first|(apply B6<;>intro hc<;>try omega)|apply BL|refine BF (h3 _ _) ?_|refine BF (q6 _ _) ?_)<;>conv=>whnf))
   refine N1 1000 N.J3 rfl rfl ?_;(repeat' ((first|(apply B6<;>intro hc<;>try omega)|apply C9|apply BL)<;>conv=>whnf))
   all_goals (refine ⟨rfl,?_⟩;(conv=>whnf);skip)
   ·exact DH (MM (by omega) (mN (by omega))) (KI _)
  ·(repeat' ((first|(apply B6<;>intro hc<;>try omega)|apply BL|refine BF (h3 _ _) ?_|refine BF (q6 _ _) ?_)<;>conv=>whnf))
   refine N1 1000 N.J3 rfl rfl ?_;(repeat' (apply BL<;>conv=>whnf))
   all_goals (refine ⟨rfl,?_⟩;(conv=>whnf);skip)
   ·exact DH (MM (by omega) (P4 (by omega))) (KI _)
  ·(repeat' ((first|apply BL|refine BF (h1 _ _) ?_)<;>conv=>whnf))
   refine N1 1000 N.J3 rfl rfl ?_;(repeat' ((first|(apply B6<;>intro hc<;>try omega)|apply C9|apply BL)<;>conv=>whnf))
   all_goals (refine ⟨rfl,?_⟩;(conv=>whnf);skip)
   ·exact DH (MM (by omega) (mN (by omega))) (KI _)
 ·have hn:JQ (val a) (val b) ≠ -1:=by unfold JQ;split<;>(try split)<;>omega
  generalize JQ (val a) (val b)=cm at *;cases n1<;>cases n2<;>simp only[MF,oY]
  ·(repeat' ((first|apply BL|refine BF (h1 _ _) ?_)<;>conv=>whnf))
   refine N1 1000 N.J3 rfl rfl ?_;(repeat' (apply BL<;>conv=>whnf))
   all_goals (refine ⟨rfl,?_⟩;(conv=>whnf);skip)
   exact DH (MM (by omega) (P4 (by omega))) (KI _)
  ·(repeat' ((first|(apply B6<;>intro hc<;>try omega)|apply BL|refine BF (h2 _ _) ?_|refine BF (q6 _ _) ?_)<;>conv=>whnf))
   refine N1 1000 N.J3 rfl rfl ?_;(repeat' (apply BL<;>conv=>whnf))
   all_goals (refine ⟨rfl,?_⟩;(conv=>whnf);skip)
   exact DH (MM (by omega) (P4 (by omega))) (KI _)
  ·(repeat' ((first|(apply B6<;>intro hc<;>try omega)|apply BL|refine BF (h2 _ _) ?_|refine BF (q6 _ _) ?_)<;>conv=>whnf))
   refine N1 1000 N.J3 rfl rfl ?_;(repeat' ((first|(apply B6<;>intro hc<;>try omega)|apply C9|apply BL)<;>conv=>whnf))
   all_goals (refine ⟨rfl,?_⟩;(conv=>whnf);skip)
   ·exact DH (MM (by omega) (mN (by omega))) (KI _)
   ·exact DH (MM (by omega) (P4 (by omega))) (KI _)
  ·(repeat' ((first|apply BL|refine BF (h1 _ _) ?_)<;>conv=>whnf))
   refine N1 1000 N.J3 rfl rfl ?_;(repeat' ((first|(apply B6<;>intro hc<;>try omega)|apply C9|apply BL)<;>conv=>whnf))
   all_goals (refine ⟨rfl,?_⟩;(conv=>whnf);skip)
   ·exact DH (MM (by omega) (mN (by omega))) (KI _)
   ·exact DH (MM (by omega) (P4 (by omega))) (KI _)
theorem tW (N:a7 L) (n1 n2 q1 q2:Bool) (a b:List Nat) (ha:EK a) (hb:EK b) (hl:a.length+b.length<=1099511627776):Ev L 88 [.agg (rZ q1 n1 a),.agg (rZ q2 n2 b)] (.agg (eZ (zv n1 a*zv n2 b))):=by
 have h1:=λ q q'=>AeP N.toe9 a b q q' ha hb hl
 have z1:=YP (val a*val b);have ADW:(zv n1 a*zv n2 b).natAbs=val a*val b:=by rw[Int.natAbs_mul,M8,M8]
 refine Ev.x N.eI rfl rfl ?_;have e:zv n1 a*zv n2 b=bif n1 == n2 then ((val a*val b:Nat):Int) else -((val a*val b:Nat):Int):=by
  cases n1<;>cases n2<;>simp [MF,oY,Int.mul_neg,Int.neg_mul]
 rw[e]at ADW ⊢;generalize val a*val b=V at *;cases n1<;>cases n2<;>simp only[beq_self_eq_true,cond_true,show (false == true)=false from rfl,show (true == false)=false from rfl,cond_false]
 ·(repeat' ((first|apply BL|refine BF (h1 _ _) ?_)<;>conv=>whnf))
  refine N1 1000 N.J3 rfl rfl ?_;(repeat' (apply BL<;>conv=>whnf))
  all_goals (refine ⟨rfl,?_⟩;(conv=>whnf);skip)
  exact DH (MM (by omega) (P4 (by omega))) (KI _)
 ·(repeat' ((first|apply BL|refine BF (h1 _ _) ?_)<;>conv=>whnf))
  refine N1 1000 N.J3 rfl rfl ?_;(repeat' ((first|(apply B6<;>intro hc<;>try omega)|apply C9|apply BL)<;>conv=>whnf))
  all_goals (refine ⟨rfl,?_⟩;(conv=>whnf);skip)
  ·exact DH (MM (by omega) (mN (by omega))) (KI _)
  ·exact DH (MM (by omega) (P4 (by omega))) (KI _)
 ·(repeat' ((first|apply BL|refine BF (h1 _ _) ?_)<;>conv=>whnf))
  refine N1 1000 N.J3 rfl rfl ?_;(repeat' ((first|(apply B6<;>intro hc<;>try omega)|apply C9|apply BL)<;>conv=>whnf))
  all_goals (refine ⟨rfl,?_⟩;(conv=>whnf);skip)
  ·exact DH (MM (by omega) (mN (by omega))) (KI _)
  ·exact DH (MM (by omega) (P4 (by omega))) (KI _)
 ·(repeat' ((first|apply BL|refine BF (h1 _ _) ?_)<;>conv=>whnf))
  refine N1 1000 N.J3 rfl rfl ?_;(repeat' (apply BL<;>conv=>whnf))
  all_goals (refine ⟨rfl,?_⟩;(conv=>whnf);skip)
  exact DH (MM (by omega) (P4 (by omega))) (KI _)
theorem Aeq:dg 1=[1]:=by rw[Z6 (by omega)];simp [NE]
theorem Ate (N:a7 L) (V:Nat) (q:Bool):Ev L 90 [.sl q ((dg V).map C3)] (.bool (decide (V=1))):=by
 have hv:=GO V;have hD:=K0 V;have h1:V=1->dg V=[1]:=λ h=>by rw[h,Aeq]
 generalize dg V=l at *;refine Ev.x N.jJ rfl rfl ?_;by_cases hl:l.length=1
 ·obtain ⟨d,rfl⟩:=List.length_eq_one_iff.1 hl
  have e:V=d:=by rw[<-hv];simp [val]
  subst e;have hd:[V][(0:Int).toNat]? = some V:=rfl;(repeat' ((first|(apply B6<;>intro hc<;>try omega)|apply C9|(refine E4 (by assumption) ?_ rfl ?_;omega)|apply BL)<;>conv=>whnf))
  ·exact sZ (by omega)
  ·exact qZ (by omega)
 ·(repeat' ((first|(apply B6<;>intro hc<;>try omega)|apply C9|apply BL)<;>conv=>whnf))
  exact qZ (λ h=>by rw[h1 h]at hl;simp at hl)
theorem xC (N:a7 L) (n q1 q2:Bool) (m d:List Nat) (hm:Sm 549755813888 m) (hd:Sm 549755813888 d) (h0:val d≠0):Ev L 94 [.agg (rQ q1 q2 n m d)] (.agg (eQ (qv n m d))):=by
 have Pj:=λ q q'=>AeO N.toe9 m d q q' hm.1 hd.1 hm.2 hd.2 h0
 have hza:=M8 n m;have sq:Sm 549755813888 (dg (val m/val d)):=hm.low (Nat.div_le_self _ _);have sr:Sm 549755813888 (dg (val m%val d)):=hd.low (Nat.le_of_lt (Nat.mod_lt _ (by omega)));have hT:=λ q=>AjL N n q _ sq
 have hG:=λ q q'=>Atk N.toe9 d (dg (val m%val d)) q q' hd.1 sr.1 hd.2 sr.2
 rw[GO,show Nat.gcd (val d) (val m%val d)=Nat.gcd (val d) (zv n m).natAbs by rw[hza,Ro,Nat.gcd_comm]]at hG;have hgp:=AkZ (zv n m).natAbs h0;have Py:=Nat.gcd_le_left (zv n m).natAbs (show 0<val d by omega);have hz:=YP (val m%val d);obtain ⟨e1,e2,e3⟩:=AfG (z:=zv n m) h0;unfold qv;generalize hGG:Nat.gcd (val d) (zv n m).natAbs=g at *;have h1:=λ q=>Ate N g q
 refine Ev.x N.jM rfl rfl ?_;by_cases yo:val m%val d=0
 ·(repeat' ((first|(apply B6<;>intro hc<;>try omega)|apply C9|apply BL|refine BF (Pj _ _) ?_|refine BF (hT _) ?_)<;>conv=>whnf))
  refine N1 1000 N.W9 rfl rfl ?_;(repeat' (apply BL<;>conv=>whnf))
  refine ⟨rfl,?_⟩;(conv=>whnf)
  (repeat' (refine N9 rfl ?_<;>conv=>whnf))
  have zz:g=val d:=by
   rw[<-hGG,hza];exact Nat.gcd_eq_left (Nat.dvd_of_mod_eq_zero yo)
  have hv:=GO (val m/val d);refine DH ?_ ?_
  ·show _=AV.agg (rQ _ _ _ _ _)
   rw[e1,e2,e3,hza,zz,Nat.div_self (by omega),M8,hv,Aeq];have hs:decide (zv n (dg (val m/val d))<0)=decide (zv n m<0):=by
    cases n
    ·rw[MF,MF];simp;omega
    ·rw[oY,oY,hv]
     congr 1;rw[eq_iff_iff];have h5:=Nat.div_add_mod (val m) (val d);rw[yo,Nat.add_zero]at h5;constructor
     ·intro h6
      have h7:val m/val d≠0:=by omega
      have:val m≠0:=λ h8=>h7 (by rw[h8,Nat.zero_div])
      omega
     ·intro h6
      have h7:val m/val d≠0:=λ h8=>by rw[h8,Nat.mul_zero]at h5;omega
      omega
   rw[hs];rfl
  ·exact JB _
 ·by_cases Nc:g=1
  ·have hT1:=λ q=>AjL N n q m hm
   have hT2:=λ q=>Ul N.toe9 d q hd.1 (by have:=hd.2;omega)
   (repeat' ((first|(apply B6<;>intro hc<;>try omega)|apply C9|apply BL|refine BF (Pj _ _) ?_|refine BF (hG _ _) ?_|refine ML (h1 _) (λ hf => ?_) (λ hf => ?_)|refine BF (hT1 _) ?_|refine BF (hT2 _) ?_)<;>conv=>whnf))
   ·refine DH ?_ (AbD _ _ _)
    show _=AV.agg (rQ _ _ _ _ _);rw[e1,e2,e3,Nc,Nat.div_one,Nat.div_one]
   ·exact absurd Nc hf
  ·have sg:Sm 549755813888 (dg g):=hd.low Py
   have Ed:=λ q q'=>AeO N.toe9 m (dg g) q q' hm.1 sg.1 hm.2 sg.2 (by rw[GO];omega)
   have Ee:=λ q q'=>AeO N.toe9 d (dg g) q q' hd.1 sg.1 hd.2 sg.2 (by rw[GO];omega)
   rw[GO]at Ed Ee;(repeat' ((first|(apply B6<;>intro hc<;>try omega)|apply C9|apply BL|refine BF (Pj _ _) ?_|refine BF (hG _ _) ?_|refine ML (h1 _) (λ hf => ?_) (λ hf => ?_)|refine BF (Ed _ _) ?_|refine BF (Ee _ _) ?_)<;>conv=>whnf))
   ·exact absurd hf Nc
   ·refine DH ?_ (AbD _ _ _)
    show _=AV.agg (rQ _ _ _ _ _);rw[e1,e2,e3,hza];have hs:n=decide (zv n m<0):=by
     have:val m≠0:=λ h=>yo (by rw[h,Nat.zero_mod])
     cases n
     ·exact P4 (by rw[MF];omega)
     ·exact mN (by rw[oY];omega)
    rw[<-hs]
theorem xD (N:a7 L) (m:List Nat):Ev L 91 [.sl false (m.map C3)] (.agg [.bool false,.sl false (m.map C3)]):=by
 refine Ev.x N.jL rfl rfl ?_;(repeat' (apply BL<;>conv=>whnf))
 exact DH rfl (Aiv _ _)
def ApP (n:Bool) (m d:List Nat) (n':Bool) (m' d':List Nat) (w:Bool) (k:Nat):Prop:=Sm k m'/\Sm k d'/\val d'≠0/\(w=true->val d'=1)/\qv n m d=mkRat (zv n' m') (val d')
theorem oC (N:a7 L) (n:Bool) (m d:List Nat) (k:Nat) (hk:1<=k/\k<=549755813888) (hm:Sm k m) (hd:Sm k d) : ∃ n' m' d' w,Ev L 89 [.agg (rQ false false n m d)] (.agg [.bool n',.sl false (m'.map C3),.sl false (d'.map C3),.bool w])/\ApP n m d n' m' d' w k:=by
 have q6:=λ q q'=>pZ N.toe9 d [] q q' hd.1 wW (by have:=hd.2;omega) (by simp)
 rw[ZT]at q6;by_cases h1:d=[1]
 ·subst h1
  refine ⟨n,m,[1],true,?_,hm,hd,by decide,λ_=>rfl,rfl⟩;refine Ev.x N.Y7 rfl rfl ?_;have hd:[1][(0:Int).toNat]? = some 1:=rfl;have Ff:([1]:List Nat).length=1:=rfl;(repeat' ((first|(apply B6<;>intro hc<;>try omega)|apply C9|(refine E4 (by assumption) ?_ rfl ?_;omega)|apply BL)<;>conv=>whnf))
  exact DH rfl (Tl _ _ _ _)
 have u5 : ∀ x,d[(0:Int).toNat]? = some x->(d.length:Int)=1->(x:Int)≠1:=λ x hx hl h=>by
  obtain ⟨y,rfl⟩:=List.length_eq_one_iff.1 (show d.length=1 by omega);simp at hx;apply h1;congr 1;omega
 by_cases h0:val d=0
 ·refine ⟨false,[],[1],true,?_,yN _,AgH hk.1 (by omega),by decide,λ_=>rfl,by unfold qv;rw[h0,Rat.mkRat_zero,AoH,Rat.zero_mkRat]⟩
  have hn:JQ (val d) (0:Nat)=0:=(tO (by omega)).symm;rw[hn]at q6;refine Ev.x N.Y7 rfl rfl ?_;have hD:=hd.1;(repeat' ((first|(apply B6<;>intro hc<;>try omega)|apply C9|(refine rB (by assumption) ?_ (λ e he hb => ?_);omega)|refine N9 rfl ?_|apply BL|refine BF (q6 _ _) ?_)<;>conv=>whnf))
  all_goals first
   | exact DH rfl (Tl _ _ _ _)
   | exact DH rfl (Tl false true [] [1])
   | exact absurd (by assumption) (u5 _ he (by assumption))
 ·refine ⟨n,m,d,false,?_,hm,hd,h0,(λ h=>by cases h),rfl⟩
  have hn:JQ (val d) (0:Nat)=1:=(nT (by omega)).symm;rw[hn]at q6;have hD:=hd.1;refine Ev.x N.Y7 rfl rfl ?_;(repeat' ((first|(apply B6<;>intro hc<;>try omega)|apply C9|(refine rB (by assumption) ?_ (λ e he hb => ?_);omega)|apply BL|refine BF (q6 _ _) ?_)<;>conv=>whnf))
  all_goals first
   | exact DH rfl (Tl _ _ _ _)
   | exact DH rfl (Tl false true [] [1])
   | exact absurd (by assumption) (u5 _ he (by assumption))
theorem AeY (N:a7 L) (n q1 q2:Bool) (m d:List Nat) (hm:Sm 549755813888 m) (hd:Sm 549755813888 d):Ev L 95 [.agg (rQ q1 q2 n m d)] (.agg (eQ (qv n m d))):=by
 obtain ⟨n',m',d',w,hr,s1,s2,s3,s4,s5⟩:=oC N n m d 549755813888 (by omega) hm hd;have hl:=λ q1 q2=>xC N n' q1 q2 m' d' s1 s2 s3
 rw[s5];unfold qv at hl;refine Ev.x N.jH rfl rfl ?_;(repeat' ((first|apply Q9|apply BL|refine BF (hr) ?_|refine BF (hl _ _) ?_)<;>conv=>whnf))
 exact DH rfl (JB _)
theorem Akl (N:a7 L) (n q1 q2:Bool) (m d:List Nat) (hm:Sm 549755813888 m) (hd:Sm 549755813888 d):Ev L 97 [.agg (rQ q1 q2 n m d)] (.int .i64 (w3 (qv n m d).num)):=by
 obtain ⟨n',m',d',w,hr,s1,s2,s3,s4,s5⟩:=oC N n m d 549755813888 (by omega) hm hd;have hl:=λ q=>AbV N n' q m' s1
 rw[s5,AfH s3];refine Ev.x N.jE rfl rfl ?_;(repeat' ((first|apply Q9|apply BL|refine BF (hr) ?_|refine BF (hl _) ?_)<;>conv=>whnf))
 exact IC rfl
theorem AdE (z:Int):AV.agg [.bool (decide (z<0)),.sl false ((dg z.natAbs).map C3),.sl false [[.int .u32 1]]] = .agg (eQ (z:Rat)):=by
 show _=AV.agg (rQ _ _ _ _ _);rw[Rat.num_intCast,Rat.den_intCast,Aeq];rfl
theorem PW (N:a7 L) (z:Int) (hz : -9223372036854775808<=z/\z<=9223372036854775807):Ev L 96 [.int .i64 z] (.agg (eQ (z:Rat))):=by
 have h1:=AeN N z hz;refine Ev.x N.jD rfl rfl ?_;(repeat' ((first|apply BL|refine BF (h1) ?_)<;>conv=>whnf))
 refine N1 1000 N.W9 rfl rfl ?_;(repeat' (apply BL<;>conv=>whnf))
 refine ⟨rfl,?_⟩;(conv=>whnf)
 (repeat' (refine N9 rfl ?_<;>conv=>whnf))
 exact DH (AdE z) (JB _)
theorem vC {k l:Nat} {n1 n2:Bool} {a b:List Nat} (ha:Sm k a) (hb:Sm l b):Sm (k+l) (dg (zv n1 a*zv n2 b).natAbs):=ha.mul hb (by rw[Int.natAbs_mul,M8,M8])
theorem Anp {k:Nat} {x y:Int} (ha:Sm k (dg x.natAbs)) (hb:Sm k (dg y.natAbs)):Sm (k+1) (dg (x+y).natAbs):=ha.add hb (by rw[GO,GO];omega)
theorem Akj (N:a7 L) (k:Nat) (hk:1<=k/\k<=68719476736) (n1 n2 q1 q2 q3 q4:Bool) (m1 d1 m2 d2:List Nat) (oa:Sm k m1) (wz:Sm k d1) (od:Sm k m2) (Bh:Sm k d2) :
  Ev L 98 [.agg (rQ q1 q2 n1 m1 d1),.agg (rQ q3 q4 n2 m2 d2)] (.agg (eQ (qv n1 m1 d1+qv n2 m2 d2))):=by
 obtain ⟨a1,a2,a3,w1,ji,s1,s2,s3,s4,s5⟩:=oC N n1 m1 d1 k (by omega) oa wz;obtain ⟨b1,b2,b3,w2,gy,t1,t2,t3,t4,t5⟩:=oC N n2 m2 d2 k (by omega) od Bh;rw[s5,t5];have hA:=λ q q'=>AjH N a1 b1 q q' a2 b2 (s1.le (by omega)) (t1.le (by omega))
 have Ai:Sm (k+1) (dg (zv a1 a2+zv b1 b2).natAbs):=Anp (by rw[M8];exact s1.Hj) (by rw[M8];exact t1.Hj);by_cases hw:w1=true/\w2=true
 ·obtain ⟨rfl,rfl⟩:=hw
  rw[s4 rfl,t4 rfl,Al7 (by omega),Ama];generalize zv a1 a2+zv b1 b2=z at *;refine Ev.x N.Y5 rfl rfl ?_;(repeat' ((first|apply Q9|apply BL|refine BF (ji) ?_|refine BF (gy) ?_|refine BF (hA _ _) ?_)<;>conv=>whnf))
  refine N1 1000 N.W9 rfl rfl ?_;(repeat' (apply BL<;>conv=>whnf))
  refine ⟨rfl,?_⟩;(conv=>whnf)
  (repeat' (refine N9 rfl ?_<;>conv=>whnf))
  exact DH (AdE z) (JB _)
 ·have q6:=λ q q'=>pZ N.toe9 a3 b3 q q' s2.1 t2.1 (by have:=s2.2;omega) (by have:=t2.2;omega)
  by_cases hde:val a3=val b3
  ·have hn:JQ (val a3) (val b3)=0:=(tO (by omega)).symm
   rw[hn]at q6;rw[<-hde,Al7 s3];generalize zv a1 a2+zv b1 b2=z at *;have hl:=λ q1 q2=>xC N (decide (z<0)) q1 q2 (dg z.natAbs) a3 (Ai.le (by omega)) (s2.le (by omega)) s3
   unfold qv at hl;rw[NI]at hl;refine Ev.x N.Y5 rfl rfl ?_;cases w1<;>cases w2
   ·(repeat' ((first|(apply B6<;>intro hc<;>try omega)|apply Q9|apply BL|refine BF (ji) ?_|refine BF (gy) ?_|refine BF (hA _ _) ?_|refine BF (q6 _ _) ?_|refine BF (hl _ _) ?_)<;>conv=>whnf))
    exact DH rfl (JB _)
   ·(repeat' ((first|(apply B6<;>intro hc<;>try omega)|apply Q9|apply BL|refine BF (ji) ?_|refine BF (gy) ?_|refine BF (hA _ _) ?_|refine BF (q6 _ _) ?_|refine BF (hl _ _) ?_)<;>conv=>whnf))
    exact DH rfl (JB _)
   ·(repeat' ((first|(apply B6<;>intro hc<;>try omega)|apply Q9|apply BL|refine BF (ji) ?_|refine BF (gy) ?_|refine BF (hA _ _) ?_|refine BF (q6 _ _) ?_|refine BF (hl _ _) ?_)<;>conv=>whnf))
    exact DH rfl (JB _)
   ·exact absurd ⟨rfl,rfl⟩ hw
  ·have hn:JQ (val a3) (val b3)≠0:=by unfold JQ;split<;>(try split)<;>omega
   generalize JQ (val a3) (val b3)=cm at *;have nx:=λ q q'=>tW N a1 false q q' a2 b3 s1.1 t2.1 (by have:=s1.2;have:=t2.2;omega)
   have sf:=λ q q'=>tW N b1 false q q' b2 a3 t1.1 s2.1 (by have:=t1.2;have:=s2.2;omega)
   have Cb:=λ q q'=>AeP N.toe9 a3 b3 q q' s2.1 t2.1 (by have:=s2.2;have:=t2.2;omega)
   have Ik:=xD N a3;have Fi:=xD N b3;have g1:Sm (k+k) (dg (zv a1 a2*zv false b3).natAbs):=vC s1 t2;have g2:Sm (k+k) (dg (zv b1 b2*zv false a3).natAbs):=vC t1 s2;have g3:=Anp g1 g2;have g4:Sm (k+k) (dg (val a3*val b3)):=s2.mul t2 rfl;rw[Acf s3 t3,<-MF b3,<-MF a3];have Mx:val a3*val b3≠0:=Nat.mul_ne_zero s3 t3;generalize zv a1 a2*zv false b3=x at *;generalize zv b1 b2*zv false a3=y at *;generalize val a3*val b3=D at *;have hA2:=λ q q'=>AjH N (decide (x<0)) (decide (y<0)) q q' (dg x.natAbs) (dg y.natAbs) (g1.le (by omega)) (g2.le (by omega))
   rw[NI,NI]at hA2;generalize x+y=z at *;have hl:=λ q1 q2=>xC N (decide (z<0)) q1 q2 (dg z.natAbs) (dg D) (g3.le (by omega)) (g4.le (by omega)) (by rw[GO];exact Mx)
   unfold qv at hl;rw[NI,GO]at hl;refine Ev.x N.Y5 rfl rfl ?_;cases w1<;>cases w2
   ·(repeat' ((first|(apply B6<;>intro hc<;>try omega)|apply Q9|apply tC|apply BL|refine BF (ji) ?_|refine BF (gy) ?_|refine BF (q6 _ _) ?_|refine BF (Ik) ?_|refine BF (Fi) ?_|refine BF (nx _ _) ?_|refine BF (sf _ _) ?_|refine BF (hA2 _ _) ?_|refine BF (Cb _ _) ?_|refine BF (hl _ _) ?_)<;>conv=>whnf))
    exact DH rfl (JB _)
   ·(repeat' ((first|(apply B6<;>intro hc<;>try omega)|apply Q9|apply tC|apply BL|refine BF (ji) ?_|refine BF (gy) ?_|refine BF (q6 _ _) ?_|refine BF (Ik) ?_|refine BF (Fi) ?_|refine BF (nx _ _) ?_|refine BF (sf _ _) ?_|refine BF (hA2 _ _) ?_|refine BF (Cb _ _) ?_|refine BF (hl _ _) ?_)<;>conv=>whnf))
    exact DH rfl (JB _)
   ·(repeat' ((first|(apply B6<;>intro hc<;>try omega)|apply Q9|apply tC|apply BL|refine BF (ji) ?_|refine BF (gy) ?_|refine BF (q6 _ _) ?_|refine BF (Ik) ?_|refine BF (Fi) ?_|refine BF (nx _ _) ?_|refine BF (sf _ _) ?_|refine BF (hA2 _ _) ?_|refine BF (Cb _ _) ?_|refine BF (hl _ _) ?_)<;>conv=>whnf))
    exact DH rfl (JB _)
   ·exact absurd ⟨rfl,rfl⟩ hw
theorem Akk (N:a7 L) (k:Nat) (hk:1<=k/\k<=68719476736) (n1 n2 q1 q2 q3 q4:Bool) (m1 d1 m2 d2:List Nat) (oa:Sm k m1) (wz:Sm k d1) (od:Sm k m2) (Bh:Sm k d2) :
  Ev L 99 [.agg (rQ q1 q2 n1 m1 d1),.agg (rQ q3 q4 n2 m2 d2)] (.agg (eQ (qv n1 m1 d1*qv n2 m2 d2))):=by
 obtain ⟨a1,a2,a3,w1,ji,s1,s2,s3,s4,s5⟩:=oC N n1 m1 d1 k (by omega) oa wz;obtain ⟨b1,b2,b3,w2,gy,t1,t2,t3,t4,t5⟩:=oC N n2 m2 d2 k (by omega) od Bh;rw[s5,t5,AfC];have nx:=λ q q'=>tW N a1 b1 q q' a2 b2 s1.1 t1.1 (by have:=s1.2;have:=t1.2;omega)
 have Cb:=λ q q'=>AeP N.toe9 a3 b3 q q' s2.1 t2.1 (by have:=s2.2;have:=t2.2;omega)
 have g1:Sm (k+k) (dg (zv a1 a2*zv b1 b2).natAbs):=vC s1 t1;have g4:Sm (k+k) (dg (val a3*val b3)):=s2.mul t2 rfl;have Mx:val a3*val b3≠0:=Nat.mul_ne_zero s3 t3;generalize zv a1 a2*zv b1 b2=z at *;by_cases hw:w1=true/\w2=true
 ·obtain ⟨rfl,rfl⟩:=hw
  rw[s4 rfl,t4 rfl,Nat.one_mul,Ama];refine Ev.x N.bA rfl rfl ?_;(repeat' ((first|apply Q9|apply BL|refine BF (ji) ?_|refine BF (gy) ?_|refine BF (nx _ _) ?_)<;>conv=>whnf))
  refine N1 1000 N.W9 rfl rfl ?_;(repeat' (apply BL<;>conv=>whnf))
  refine ⟨rfl,?_⟩;(conv=>whnf)
  (repeat' (refine N9 rfl ?_<;>conv=>whnf))
  exact DH (AdE z) (JB _)
 ·generalize val a3*val b3=D at *
  have hl:=λ q1 q2=>xC N (decide (z<0)) q1 q2 (dg z.natAbs) (dg D) (g1.le (by omega)) (g4.le (by omega)) (by rw[GO];exact Mx)
  unfold qv at hl;rw[NI,GO]at hl;refine Ev.x N.bA rfl rfl ?_;cases w1<;>cases w2
  ·(repeat' ((first|apply Q9|apply BL|refine BF (ji) ?_|refine BF (gy) ?_|refine BF (nx _ _) ?_|refine BF (Cb _ _) ?_|refine BF (hl _ _) ?_)<;>conv=>whnf))
   exact DH rfl (JB _)
  ·(repeat' ((first|apply Q9|apply BL|refine BF (ji) ?_|refine BF (gy) ?_|refine BF (nx _ _) ?_|refine BF (Cb _ _) ?_|refine BF (hl _ _) ?_)<;>conv=>whnf))
   exact DH rfl (JB _)
  ·(repeat' ((first|apply Q9|apply BL|refine BF (ji) ?_|refine BF (gy) ?_|refine BF (nx _ _) ?_|refine BF (Cb _ _) ?_|refine BF (hl _ _) ?_)<;>conv=>whnf))
   exact DH rfl (JB _)
  ·exact absurd ⟨rfl,rfl⟩ hw
theorem tN (x:Rat) (e:Int):EA (.j5 [.agg (eQ x),.int .i64 e]):=by
 simp only[EA,GK,and_true,true_and];exact ⟨I7 _,I7 _⟩
theorem AtR (N:a7 L) (k:Nat) (hk:1<=k/\k<=68719476736) (n1 n2 q1 q2 q3 q4:Bool) (m1 d1 m2 d2:List Nat) (oa:Sm k m1) (wz:Sm k d1) (od:Sm k m2) (Bh:Sm k d2) (h0:qv n2 m2 d2≠0) :
  Ev L 100 [.agg (rQ q1 q2 n1 m1 d1),.agg (rQ q3 q4 n2 m2 d2)] (.j5 [.agg (eQ (qv n1 m1 d1/qv n2 m2 d2)),.int .i64 0]):=by
 obtain ⟨a1,a2,a3,w1,ji,s1,s2,s3,s4,s5⟩:=oC N n1 m1 d1 k (by omega) oa wz;obtain ⟨b1,b2,b3,w2,gy,t1,t2,t3,t4,t5⟩:=oC N n2 m2 d2 k (by omega) od Bh;rw[t5]at h0;rw[s5,t5];have td:zv b1 b2≠0:=λ h=>h0 ((AfF t3).2 h)
 rw[AvF s3 t3 td];have hS:=λ q=>AbV N b1 q b2 (t1.le (by omega))
 have yq:w3 (zv b1 b2)≠0:=by unfold w3;split<;>(try split)<;>omega
 have nx:=λ q q'=>tW N a1 false q q' a2 b3 s1.1 t2.1 (by have:=s1.2;have:=t2.2;omega)
 have sf:=λ q q'=>tW N false b1 q q' a3 b2 s2.1 t1.1 (by have:=t1.2;have:=s2.2;omega)
 have Ik:=xD N a3;have Fi:=xD N b3;have g1:Sm (k+k) (dg (zv a1 a2*zv false b3).natAbs):=vC s1 t2;have g2:Sm (k+k) (dg (zv false a3*zv b1 b2).natAbs):=vC s2 t1;have hd:(zv false a3*zv b1 b2).natAbs=val a3*(zv b1 b2).natAbs:=by rw[Int.natAbs_mul,M8]
 have My:(zv false a3*zv b1 b2).sign=(zv b1 b2).sign:=by
  rw[Int.sign_mul,MF,Int.sign_eq_one_of_pos (by omega),Int.one_mul]
 have An:zv false a3*zv b1 b2≠0:=by
  intro h;rw[h]at My;exact td (by simpa using My.symm)
 rw[<-hd,<-My,<-MF b3];generalize zv a1 a2*zv false b3=x at *;generalize zv false a3*zv b1 b2=y at *;generalize w3 (zv b1 b2)=sg at *;have hl:=λ q1 q2=>xC N (decide (x<0) != decide (y<0)) q1 q2 (dg x.natAbs) (dg y.natAbs) (g1.le (by omega)) (g2.le (by omega)) (by rw[GO];omega)
 unfold qv at hl;rw[AoI An,GO]at hl;refine Ev.x N.iZ rfl rfl ?_;(repeat' ((first|(apply B6<;>intro hc<;>try omega)|apply Q9|apply tC|apply BL|refine BF (ji) ?_|refine BF (gy) ?_|refine BF (hS _) ?_|refine BF (Ik) ?_|refine BF (Fi) ?_|refine BF (nx _ _) ?_|refine BF (sf _ _) ?_)<;>conv=>whnf))
 refine N1 1000 N.bB rfl rfl ?_;(repeat' (apply BL<;>conv=>whnf))
 generalize decide (x<0)=p at *;generalize decide (y<0)=r at *;cases p<;>cases r;all_goals
  (conv=>whnf)
  refine ⟨rfl,?_⟩;(conv=>whnf)
  (repeat' (refine BF (hl _ _) ?_<;>conv=>whnf))
  exact DH rfl (tN _ _)
end Go.c9

namespace Go.c9
open F
attribute [local irreducible] A0 B0 D8 BK IH DY FC E1 HI F9 IA LT GS EF HH H4 BD EU B9 pw IO H0 JM KX J9 GV IJ GT JW
set_option maxHeartbeats 1000000
variable {L:Lib}
def LU (n:Int):Prop := -9223372036854775808<=n/\n<=9223372036854775807
structure Wd where
 b:Int
 f:Int
 r:Int
 o:Int
abbrev OC (w:Wd):List AV:=[.int .i64 w.b,.int .i64 w.f,.int .i64 w.r,.int .i64 w.o]
theorem Ata (I:e8 L) (r:Int):Ev L 1 [.int .i64 r] (.bool (decide (1<=r/\r<=3))):=by
 refine Ev.x I.eB rfl rfl ?_;(repeat' ((first|(apply B6<;>intro hc<;>try omega)|apply BL)<;>conv=>whnf))
 all_goals (first|exact sZ (by omega)|exact qZ (by omega))
theorem cG (I:e8 L) (v a b:Int):Ev L 10 [.int .i64 v,.int .i64 a,.int .i64 b] (.bool (decide (a<=v/\v<=b))):=by
 refine Ev.x I.lJ rfl rfl ?_;(repeat' ((first|(apply B6<;>intro hc<;>try omega)|apply BL)<;>conv=>whnf))
 all_goals (first|exact sZ (by omega)|exact qZ (by omega))
def WV (w:Wd):Prop:=4<=w.b/\w.b<=24/\0<=w.f/\w.f<w.b/\1<=w.r/\w.r<=3/\1<=w.o/\w.o<=2
instance (w : Wd) : Decidable (WV w) := by unfold WV; infer_instance
variable (w:Wd)
theorem pY (I:e8 L):Ev L 2 [.agg (OC w)] (.bool (decide (WV w))):=by
 refine Ev.x I.eA rfl rfl ?_;(repeat' ((first|(apply B6<;>intro hc<;>try omega)|apply BL|refine ML (Ata I _) (λ hf => ?_) (λ hf => ?_))<;>conv=>whnf))
 all_goals (unfold WV;first|exact sZ (by omega)|exact qZ (by omega))
theorem AbY (I:e8 L):Ev L 11 [.agg (OC w)] (.bool (decide (WV w))):=by
 refine Ev.x I.lM rfl rfl ?_;(repeat' ((first|(apply F8;omega)|apply BL|refine ML (cG I _ _ _) (λ hf => ?_) (λ hf => ?_))<;>conv=>whnf))
 all_goals (unfold WV;first|exact sZ (by omega)|exact qZ (by omega))
def qH:Int:=if WV w then -pw (w.b-1) else 0
def I2:Int:=if WV w then pw (w.b-1)-1 else 0
theorem As9 (I:e8 L):Ev L 3 [.agg (OC w)] (.int .i64 (qH w)):=by
 refine Ev.x I.dZ rfl rfl ?_;by_cases hv:WV w;all_goals (
  have ql:=hv;unfold WV at ql;(repeat' ((first|(apply F8;omega)|(refine NS ?_ (λ_ _ => ?_);omega)|apply Abp|(apply IH.neg;omega)|apply BL|refine ML (pY _ I) (λ hf => ?_) (λ hf => ?_))<;>conv=>whnf))
  all_goals (first|contradiction|exact IC (by rw[qH,if_pos hv])|exact IC (by rw[qH,if_neg hv])))
theorem xB (I:e8 L):Ev L 4 [.agg (OC w)] (.int .i64 (I2 w)):=by
 refine Ev.x I.dY rfl rfl ?_;by_cases hv:WV w;all_goals (
  have ql:=hv;unfold WV at ql;(repeat' ((first|(apply F8;omega)|(refine NS ?_ (λ_ _ => ?_);omega)|apply Abp|apply BL|refine ML (pY _ I) (λ hf => ?_) (λ hf => ?_))<;>conv=>whnf))
  all_goals (first|contradiction|exact IC (by rw[I2,if_pos hv])|exact IC (by rw[I2,if_neg hv])))
theorem AtT (I:e8 L):Ev L 12 [.agg (OC w)] (.int .i64 (qH w)):=by
 refine Ev.x I.lL rfl rfl ?_;by_cases hv:WV w;all_goals (
  have ql:=hv;unfold WV at ql;(repeat' ((first|(apply F8;omega)|(refine NS ?_ (λ_ _ => ?_);omega)|apply Abp|(apply IH.neg;omega)|(apply HN;omega)|apply BL|refine ML (AbY _ I) (λ hf => ?_) (λ hf => ?_))<;>conv=>whnf))
  all_goals (first|contradiction|exact IC (by rw[qH,if_pos hv])|exact IC (by rw[qH,if_neg hv])))
theorem Vb (I:e8 L):Ev L 13 [.agg (OC w)] (.int .i64 (I2 w)):=by
 refine Ev.x I.lI rfl rfl ?_;by_cases hv:WV w;all_goals (
  have ql:=hv;unfold WV at ql;(repeat' ((first|(apply F8;omega)|(refine NS ?_ (λ_ _ => ?_);omega)|apply Abp|(apply HN;omega)|apply BL|refine ML (AbY _ I) (λ hf => ?_) (λ hf => ?_))<;>conv=>whnf))
  all_goals (first|contradiction|exact IC (by rw[I2,if_pos hv])|exact IC (by rw[I2,if_neg hv])))
def FT (v:Int):Prop:=WV w/\qH w<=v/\v<=I2 w
instance (v : Int) : Decidable (FT w v) := by unfold FT; infer_instance
theorem tV (I:e8 L) (v:Int):Ev L 5 [.agg (OC w),.int .i64 v] (.bool (decide (FT w v))):=by
 refine Ev.x I.dX rfl rfl ?_;(repeat' ((first|(apply B6<;>intro hc<;>try omega)|apply BL|refine ML (pY _ I) (λ hf => ?_) (λ hf => ?_)|refine BF (As9 _ I) ?_|refine BF (xB _ I) ?_)<;>conv=>whnf))
 all_goals (unfold FT;first|exact sZ ⟨by assumption,by assumption,by assumption⟩|exact qZ (by rintro ⟨h1,h2,h3⟩;first|contradiction|omega))
theorem AtS (I:e8 L) (v:Int):Ev L 14 [.agg (OC w),.int .i64 v] (.bool (decide (FT w v))):=by
 refine Ev.x I.lH rfl rfl ?_;(repeat' ((first|apply BL|refine ML (AbY _ I) (λ hf => ?_) (λ hf => ?_)|refine ML (cG I _ _ _) (λ hf => ?_) (λ hf => ?_)|refine BF (AtT _ I) ?_|refine BF (Vb _ I) ?_)<;>conv=>whnf))
 all_goals (unfold FT;first|exact sZ ⟨by assumption,by assumption⟩|exact qZ (by rintro ⟨h1,h2⟩;contradiction))
end Go.c9

namespace Go.c9
open F
attribute [local irreducible] A0 B0 D8 BK IH DY FC E1 HI F9 IA LT GS EF HH H4 BD EU B9 pw IO H0 JM KX J9 GV IJ GT JW
set_option maxHeartbeats 1000000
variable {L:Lib}
theorem cF {α:Type} {l:List α} {i:Nat} {e:α} (h:l[i]? = some e):l.drop i=e::l.drop (i+1):=by
 obtain ⟨h1,h2⟩:=zS h;rw[List.drop_eq_getElem_cons h1,h2]
theorem wX {α:Type} {l:List α} {i:Nat} (h:l.length<=i):l.drop i=[]:=List.drop_eq_nil_of_le h
structure Nd where
 q:Bool
 ts:List (Int × Int)
abbrev TS (t:Int × Int):List AV:=[.int .i64 t.1,.int .i64 t.2]
abbrev rN (n:Nd):List AV:=[.sl n.q (n.ts.map TS)]
structure Nt where
 d:Wd
 c:Wd
 s:Int
 qn:Bool
 nodes:List Nd
 qx:Bool
 next:List Int
 out:Int
abbrev HV (n:Nt):List AV:=[.int .i64 n.d.b,.int .i64 n.d.f,.int .i64 n.d.r,.int .i64 n.d.o,.int .i64 n.c.b,.int .i64 n.c.f,.int .i64 n.c.r,.int .i64 n.c.o,.int .i64 n.s,.sl n.qn (n.nodes.map rN),.sl n.qx (n.next.map IM),.int .i64 n.out]
def ON (c:Wd) (s:Int) (k:Nat) (t:Int × Int):Bool:=decide (0<=t.1/\t.1<=s+k/\(t.2=pw c.f\/FT c t.2))
def O0 (c:Wd) (s:Int):Nat->List Nd->Bool
 | _,[]=>true
 | k,n::l=>(decide (n.ts.length<=64)&&n.ts.all (ON c s k))&&O0 c s (k+1) l
def X2 (m:Int) (l:List Int):Bool:=l.all λ k=>decide (0<=k/\k<=m)
def NF (n:Nt):Bool:=decide (WV n.d)&&decide (WV n.c)&&decide (0<=n.s/\n.s<=64/\n.nodes.length<=64/\(n.next.length:Int)=n.s)&&O0 n.c n.s 0 n.nodes&&X2 (n.s+n.nodes.length) n.next&&decide (0<=n.out/\n.out<=n.s+n.nodes.length)
variable (n:Nt)
theorem J6:NF n=true↔WV n.d/\WV n.c/\(0<=n.s/\n.s<=64/\n.nodes.length<=64/\(n.next.length:Int)=n.s)/\O0 n.c n.s 0 n.nodes=true/\X2 (n.s+n.nodes.length) n.next=true/\0<=n.out/\n.out<=n.s+n.nodes.length:=by
 simp only[NF,Bool.and_eq_true,decide_eq_true_eq,and_assoc]
theorem nW {x:Bool} (h : ¬ x=true):false=x:=by simp at h;rw[h]
theorem eqT {x:Bool} (h:x=true):true=x:=by rw[h]
theorem AjV (I:e8 L) (J:ff L):Ev L 21 [.agg (HV n)] (.bool (NF n)):=by
 refine Ev.x J.gJ rfl rfl ?_;(repeat' ((first|(apply B6<;>intro hc<;>try omega)|apply C9|apply BL|refine ML (pY ⟨_,_,_,_⟩ I) (λ hf => ?_) (λ hf => ?_))<;>conv=>whnf))
 all_goals try (
  refine M9 (nW ?_);rw[J6];rintro ⟨x1,x2,x3,_⟩
  first|contradiction|omega)
 rename_i h1 h3 h4 h5;have h2:=hf;have h6:=hc;have h1:WV n.d:=h1;have h2:WV n.c:=h2;have hw:=h2;unfold WV at hw;refine K7 (λ i=>n.nodes.length-i) (λ(i:Nat)=>i<=n.nodes.length/\O0 n.c n.s i (n.nodes.drop i)=O0 n.c n.s 0 n.nodes) (λ i=>[(45,.int .i64 i)]) (λ_=>[]) 0 ⟨by omega,rfl⟩ ?_;intro i ⟨p1,p2⟩ ih;(repeat' ((first|(apply B6<;>intro hc<;>try omega)|(apply DD;omega)|apply C9|(refine bY ?_ (λ_=>rfl) (λ e he => ?_);omega)|apply BL)<;>conv=>whnf))
 ·rename Nd=>nd
  have hnd:=he;rw[cF hnd,O0,decide_eq_false (by omega)]at p2;refine M9 (nW ?_);rw[J6,<-p2];simp
 ·rename Nd=>nd
  have hnd:=he;rw[cF hnd,O0,decide_eq_true (by omega),Bool.true_and]at p2;refine K7 (λ j=>nd.ts.length-j) (λ(j:Nat)=>j<=nd.ts.length/\(nd.ts.drop j).all (ON n.c n.s i)=nd.ts.all (ON n.c n.s i)) (λ j=>[(57,.int .i64 j)]) (λ_=>[]) 0 ⟨by omega,rfl⟩ ?_;intro j ⟨r1,r2⟩ ue;(repeat' ((first|(apply B6<;>intro hc<;>try omega)|(apply DD;omega)|(refine NS ?_ (λ_ _ => ?_);omega)|(refine bY ?_ (λ_=>rfl) (λ e he => ?_);omega)|apply BL|refine ML (tV ⟨_,_,_,_⟩ I _) (λ hf => ?_) (λ hf => ?_))<;>conv=>whnf))
  all_goals try (
   have hb:ON n.c n.s i e=false:=by
    simp only[ON,decide_eq_false_iff_not];intro hh;first|omega|exact absurd hh.2.2 (λ hx=>hx.elim (λ hx=>by omega) (λ hx=>by contradiction))
   rw[cF he,List.all_cons,hb,Bool.false_and]at r2;rw[<-r2,Bool.false_and]at p2;refine M9 (nW ?_);rw[J6,<-p2];simp;done)
  all_goals try (
   have hb:ON n.c n.s i e=true:=by
    simp only[ON,decide_eq_true_eq];exact ⟨by omega,by omega,by first|exact Or.inr (by assumption)|exact Or.inl (by assumption)⟩
   rw[cF he,List.all_cons,hb,Bool.true_and]at r2;exact GF [] (by (conv=>whnf);exact ⟨rfl,rfl,rfl⟩) (ue (j+1) (by omega) ⟨by omega,r2⟩))
  rw[wX (by omega)]at r2;rw[<-r2,List.all_nil,Bool.true_and]at p2;exact FV [] (ih (i+1) (by omega) ⟨by omega,p2⟩)
 ·rw[wX (by omega),O0]at p2
  refine K7 (λ i=>n.next.length-i) (λ(i:Nat)=>i<=n.next.length/\X2 (n.s+n.nodes.length) (n.next.drop i)=X2 (n.s+n.nodes.length) n.next) (λ i=>[(99,.int .i64 i)]) (λ_=>[]) 0 ⟨by omega,rfl⟩ ?_;intro k ⟨r1,r2⟩ ih3;(repeat' ((first|(apply B6<;>intro hc<;>try omega)|(apply DD;omega)|(refine bY ?_ (λ_=>rfl) (λ e he => ?_);omega)|apply BL)<;>conv=>whnf))
  all_goals try (
   have hb:decide (0<=e/\e<=n.s+n.nodes.length)=false:=by (rw[decide_eq_false_iff_not];omega)
   rw[cF he,X2,List.all_cons,hb,Bool.false_and]at r2;refine M9 (nW ?_);rw[J6,<-r2];simp;done)
  all_goals try (
   have hb:decide (0<=e/\e<=n.s+n.nodes.length)=true:=by (rw[decide_eq_true_eq];omega)
   rw[cF he,X2,List.all_cons,hb,Bool.true_and]at r2;exact GF [] (by (conv=>whnf);exact ⟨rfl,rfl,rfl⟩) (ih3 (k+1) (by omega) ⟨by omega,r2⟩))
  all_goals (
   rw[wX (by omega)]at r2;first
    | (refine M9 (eqT ?_);rw[J6];exact ⟨h1,h2,by omega,p2.symm,r2.symm,by omega,by omega⟩)
    | (refine M9 (nW ?_);rw[J6];omega))
end Go.c9

namespace Go.c9
open F
attribute [local irreducible] A0 B0 D8 BK IH DY FC E1 HI F9 IA LT GS EF HH H4 BD EU B9 pw IO H0 JM KX J9 GV IJ GT JW
variable {L:Lib}
set_option maxHeartbeats 4000000
theorem Ax7 (n:Int):LU (IntKind.i64.wrap n):=by
 unfold LU;rw[IntKind.wrap_i64];omega
def J1 (v m:Int):Int:=if m<1 then 0 else v%m
theorem tZ (W:cj L) (v m:Int) (hv:LU v) (hm:m<=9223372036854775807):Ev L 34 [.int .i64 v,.int .i64 m] (.int .i64 (J1 v m)):=by
 unfold LU at hv;refine Ev.x W.nG rfl rfl ?_;(repeat' ((first|(apply B6<;>intro hc<;>try omega)|(apply DD;omega)|(refine nL ?_ (λ_ _ _ => ?_) (λ_ _ _ _ => ?_);omega;all_goals try omega)|apply BL)<;>conv=>whnf))
 all_goals (refine IC ?_;unfold J1;first|rw[if_pos (by omega)]|rw[if_neg (by omega)])
 all_goals omega
def MS (l:List Int) (i:Int):Int:=if 0<=i/\i<l.length then l.getD i.toNat 0 else 0
theorem Aks (W:cj L) (l:List Int) (q:Bool) (i:Int):Ev L 35 [.sl q (l.map IM),.int .i64 i] (.int .i64 (MS l i)):=by
 refine Ev.x W.mZ rfl rfl ?_;(repeat' ((first|(apply B6<;>intro hc<;>try omega)|apply C9|(refine Adw ?_ (λ_=>rfl) (λ e he => ?_);omega)|apply BL)<;>conv=>whnf))
 all_goals (refine IC ?_;unfold MS;first|rw[if_neg (by omega)]|(rw[if_pos (by omega),List.getD_eq_getElem?_getD,he];rfl))
theorem oX {v m:Int} (h:1<=m):0<=J1 v m/\J1 v m<m:=by
 unfold J1;rw[if_neg (by omega)];exact ⟨Int.emod_nonneg _ (by omega),Int.emod_lt_of_pos _ (by omega)⟩
def qU (k least most above:Int):Wd :=
 let K:=J1 k 1099511627776
 let b:=least+K%(most-least+1)
 let K1:=K/(most-least+1)
 ⟨b,max (b-1-above-K1%2) 0,1+K1/2%3,1+K1/2/3%2⟩
theorem Akt (W:cj L) (k least most above:Int) (hk:LU k) (h1:1<=least/\least<=most/\most<=1000/\0<=above/\above<=1000):Ev L 36 [.int .i64 k,.int .i64 least,.int .i64 most,.int .i64 above] (.agg (OC (qU k least most above))):=by
 refine Ev.x W.nI rfl rfl ?_;have hr:=oX (v:=k) (m:=1099511627776) (by omega);have h3:0<=J1 k 1099511627776/(most-least+1):=Int.ediv_nonneg hr.1 (by omega);have h4:J1 k 1099511627776/(most-least+1)<=J1 k 1099511627776:=Int.ediv_le_self _ hr.1;(repeat' ((first|(apply B6<;>intro hc<;>try omega)|(apply DD;omega)|(apply F8;omega)|(refine nL ?_ (λ_ _ _ => ?_) (λ_ _ _ _ => ?_);omega;all_goals try omega)|(refine Z2 ?_ ?_ (λ_ => ?_) (λ_ _ => ?_);omega;omega;all_goals try omega)|apply BL|refine BF (tZ W _ _ hk (by omega)) ?_)<;>conv=>whnf))
 all_goals (
  refine DH ?_ (by simp [EA,GK]);simp only[qU,AV.agg.injEq,List.cons.injEq,AV.int.injEq,true_and,and_true];omega)
def P0 (k:Int):Wd:=qU k 6 12 2
def HU (k:Int):Wd:=qU k 6 9 1
theorem Aoz {k least most above:Int} (h:4<=least/\least<=most/\most<=24/\0<=above):WV (qU k least most above)/\least<=(qU k least most above).b/\(qU k least most above).b<=most:=by
 have hr:=oX (v:=k) (m:=1099511627776) (by omega);have h1:0<=J1 k 1099511627776%(most-least+1):=Int.emod_nonneg _ (by omega);have h2:J1 k 1099511627776%(most-least+1)<most-least+1:=Int.emod_lt_of_pos _ (by omega);simp only[WV,qU];generalize J1 k 1099511627776/(most-least+1)=d;omega
theorem ArC (k:Int):WV (P0 k)/\6<=(P0 k).b/\(P0 k).b<=12:=Aoz (by omega)
theorem AiK (k:Int):WV (HU k)/\6<=(HU k).b/\(HU k).b<=9:=Aoz (by omega)
theorem AtZ (W:cj L) (k:Int) (hk:LU k):Ev L 37 [.int .i64 k] (.agg (OC (P0 k))):=by
 refine Ev.x W.nC rfl rfl ?_;(repeat' ((first|apply BL|refine BF (Akt W _ _ _ _ hk (by omega)) ?_)<;>conv=>whnf))
 exact DH rfl (by simp [EA,GK])
theorem AtY (W:cj L) (k:Int) (hk:LU k):Ev L 38 [.int .i64 k] (.agg (OC (HU k))):=by
 refine Ev.x W.nB rfl rfl ?_;(repeat' ((first|apply BL|refine BF (Akt W _ _ _ _ hk (by omega)) ?_)<;>conv=>whnf))
 exact DH rfl (by simp [EA,GK])
theorem At1 (W:cj L) (w:Wd) (h:WV w):Ev L 41 [.agg (OC w)] (.int .i64 (pw w.f)):=by
 unfold WV at h;refine Ev.x W.nE rfl rfl ?_;(repeat' ((first|(refine NS ?_ (λ_ _ => ?_);omega)|(apply HN;omega)|apply BL)<;>conv=>whnf))
 exact IC rfl
theorem sC {w:Wd} (h:WV w):qH w = -pw (w.b-1)/\I2 w=pw (w.b-1)-1/\1<=pw (w.b-1)/\pw (w.b-1)<=8388608:=by
 have h':=h;unfold WV at h';refine ⟨by rw[qH,if_pos h],by rw[I2,if_pos h],O2 _,?_⟩;have:=aV (n:=w.b-1) (m:=23) (by omega)
 have e:pw 23=8388608:=by unfold pw;rfl
 omega
theorem AmK {α:Type} (f:Nat->α) (n:Nat):(List.range (n+1)).map f=(List.range n).map f++[f n]:=by rw[List.range_succ,List.map_append];rfl
def dB (b v:Int):Int:=J1 (IntKind.i64.wrap (v+b)) (2*b+1)-b
def WD (b:Int) (l:List Int) (n:Nat):List Int:=(List.range n).map λ i:Nat=>dB b (MS l (i:Int))
theorem AbZ (W:cj L) (b:Int) (hb:0<=b/\b<=1000000000000) (l:List Int) (q:Bool) (n:Nat) (hn:n<=1000000):Ev L 40 [.int .i64 b,.sl q (l.map IM),.int .i64 n] (.sl false ((WD b l n).map IM)):=by
 refine Ev.x W.nA rfl rfl ?_;(repeat' (apply BL<;>conv=>whnf))
 refine MR (λ i _=>n-i) (λ(i:Nat) (o:List Int)=>i<=n/\o.length=i/\o=WD b l i) (λ i o=>[(7,.row 7 0 1 0 o.length),(8,.int .i64 i)]) (λ i o=>[(7,7,.rw 1 (o.map IM))]) 0 [] ⟨by omega,rfl,rfl⟩ ?_;intro i o ⟨p1,p2,p3⟩ ih;have hr:=oX (v:=IntKind.i64.wrap (MS l i+b)) (m:=2*b+1) (by omega);(repeat' ((first|(apply B6<;>intro hc<;>try omega)|(apply DD;omega)|(apply F8;omega)|(apply NA;omega)|apply AhY|(refine J2 (λ_=>rfl) rfl ?_ ?_;(first|rfl|simp))|apply KY|apply BL|refine BF (Aks W l _ _) ?_|refine BF (tZ W _ _ (Ax7 _) (by omega)) ?_)<;>conv=>whnf))
 ·refine NL (enc:=IM) _ rfl rfl rfl (by omega) (by omega) ?_
  (conv=>whnf)
  (repeat' ((first|(apply DD;omega)|fail)<;>conv=>whnf))
  refine GF [(7,27)] (by (conv=>whnf);exact ⟨rfl,rfl,rfl⟩) (ih (i+1) _ (by omega) ⟨by omega,by simp [p2],?_⟩);rw[WD,AmK,p3];rfl
 ·have:i=n:=by omega
  subst this;exact DH (by rw[p3]) (by simp [EA,Aiw])
theorem As2 (N:dn L) (S:NN) (n k:Nat) (h:S.Ok n k) (hn:n<=64):Ev L 136 [.agg (eS S)] (.bool true):=by
 have h1:=h.la;have h2:=h.lb;have h3:=h.lc;refine Ev.x N.lR rfl rfl ?_;(repeat' ((first|(apply B6<;>intro hc<;>try omega)|apply C9|apply BL)<;>conv=>whnf))
 refine K7 (λ i=>S.a.length-i) (λ(i:Nat)=>i<=S.a.length) (λ i=>[(4,.int .i64 i)]) (λ_=>[]) 0 (by omega) ?_;intro i p1 ih;by_cases hi:i<S.a.length
 ·obtain ⟨r,hr⟩ : ∃ r,S.a[i]? = some r:=⟨_,zE hi⟩
  have Ch:S.a[(i:Int).toNat]? = some r:=hr;have ng:=h.lr r (zM hr);(repeat' ((first|(apply B6<;>intro hc<;>try omega)|(apply DD;omega)|apply C9|(refine E4 (by assumption) ?_ rfl ?_;omega)|apply BL)<;>conv=>whnf))
  exact FV [] (ih (i+1) (by omega) (by omega))
 ·obtain rfl:i=S.a.length:=by omega
  clear ih;(repeat' ((first|(apply B6<;>intro hc<;>try omega)|apply BL)<;>conv=>whnf))
  exact M9 rfl
theorem Ajy (N:dn L) (a b:List Rat) (q1 q2:Bool) (k s:Nat) (hl:a.length=b.length) (ha:Bs k a) (hb:Bs s b) (hK:a.length*(k+s+1)+k+s<2199023255552) (oy:a.length<=1099511627776):Ev L 137 [.sl q1 (a.map eQ),.sl q2 (b.map eQ)] (.agg (eQ (GG a b))):=by
 have hO:=YU N.toa8 0 (by omega);refine Ev.x N.lO rfl rfl ?_;(repeat' ((first|apply BL|refine BF (hO) ?_)<;>conv=>whnf))
 refine MR (λ i _=>a.length-i) (λ(i:Nat) (acc:Rat)=>i<=a.length/\acc=GG (a.take i) (b.take i)) (λ i acc=>[(6,.int .i64 i)]) (λ i acc=>[(5,5,.bx (eQ acc))]) 0 ((0:Int):Rat) ⟨by omega,by simp [GG]⟩ ?_;intro i acc ⟨p1,p2⟩ ih;by_cases hi:i<a.length
 ·obtain ⟨x,hx⟩ : ∃ x,a[i]? = some x:=⟨_,zE hi⟩
  obtain ⟨y,hy⟩ : ∃ y,b[i]? = some y:=⟨_,zE (by omega)⟩;have yv:a[(i:Int).toNat]? = some x:=hx;have Lq:b[(i:Int).toNat]? = some y:=hy;have bx:=ha.at hx;have Pg:=hb.at hy
  have hM:=tX N.toa8 bx Pg (by omega) (by omega)
  have ADX:Bt (a.length*(k+s+1)) acc:=by
   rw[p2];have:=(ha.take i).dot (hb.take i)
   refine this.le (zR _ ?_);rw[List.length_take];omega
  have hA:=oA N.toa8 ADX (bx.mul Pg) (by omega) (by omega);have o4:=Tx hx hy;(repeat' ((first|(apply B6<;>intro hc<;>try omega)|(apply DD;omega)|apply C9|(refine E4 (by assumption) ?_ rfl ?_;omega)|apply BL|refine BF (hM) ?_|refine BF (hA) ?_)<;>conv=>whnf))
  refine GF [] (by (conv=>whnf);exact ⟨rfl,rfl,rfl⟩) (ih (i+1) (acc+x*y) (by omega) ⟨by omega,?_⟩);rw[o4,<-p2]
 ·obtain rfl:i=a.length:=by omega
  clear ih;rw[AbR rfl]at p2;rw[<-p2];(repeat' ((first|(apply B6<;>intro hc<;>try omega)|apply C9|apply BL)<;>conv=>whnf))
  exact DH rfl (JB _)
end Go.c9

namespace Go.c9
variable {L:Lib}
end Go.c9

namespace Go.c9
open F
variable {L:Lib}
theorem Bt.sm {k:Nat} {x:Rat} (h:Bt k x) (hk:k<2199023255552):Sm 68719476736 (dg x.num.natAbs)/\Sm 68719476736 (dg x.den):=h.dig (by omega)
theorem YT (N:a7 L) {x y:Rat} {k l:Nat} (hx:Bt k x) (hy:Bt l y) (hk:k<2199023255552) (hl:l<2199023255552):Ev L 98 [.agg (eQ x),.agg (eQ y)] (.agg (eQ (x+y))):=by
 have:=Akj N 68719476736 (by omega) (decide (x.num<0)) (decide (y.num<0)) false false false false _ _ _ _ (hx.sm hk).1 (hx.sm hk).2 (hy.sm hl).1 (hy.sm hl).2
 rw[MY,MY]at this;exact this
theorem XT (N:a7 L) {x y:Rat} {k l:Nat} (hx:Bt k x) (hy:Bt l y) (hk:k<2199023255552) (hl:l<2199023255552):Ev L 99 [.agg (eQ x),.agg (eQ y)] (.agg (eQ (x*y))):=by
 have:=Akk N 68719476736 (by omega) (decide (x.num<0)) (decide (y.num<0)) false false false false _ _ _ _ (hx.sm hk).1 (hx.sm hk).2 (hy.sm hl).1 (hy.sm hl).2
 rw[MY,MY]at this;exact this
theorem AbU (N:a7 L) {x y:Rat} {k l:Nat} (hx:Bt k x) (hy:Bt l y) (hk:k<2199023255552) (hl:l<2199023255552) (h0:y≠0):Ev L 100 [.agg (eQ x),.agg (eQ y)] (.j5 [.agg (eQ (x/y)),.int .i64 0]):=by
 have:=AtR N 68719476736 (by omega) (decide (x.num<0)) (decide (y.num<0)) false false false false _ _ _ _ (hx.sm hk).1 (hx.sm hk).2 (hy.sm hl).1 (hy.sm hl).2 (by rw[MY];exact h0)
 rw[MY,MY]at this;exact this
theorem Akr (N:a7 L) {x:Rat} {k:Nat} (hx:Bt k x) (hk:k<2199023255552):Ev L 95 [.agg (eQ x)] (.agg (eQ x)):=by
 have:=AeY N (decide (x.num<0)) false false _ _ ((hx.sm hk).1.le (by omega)) ((hx.sm hk).2.le (by omega))
 rw[MY]at this;exact this
theorem xF (N:a7 L) {x:Rat} {k:Nat} (hx:Bt k x) (hk:k<2199023255552):Ev L 97 [.agg (eQ x)] (.int .i64 (w3 x.num)):=by
 have:=Akl N (decide (x.num<0)) false false _ _ ((hx.sm hk).1.le (by omega)) ((hx.sm hk).2.le (by omega))
 rw[MY]at this;exact this
theorem sK {x:Rat}:w3 x.num=0↔x=0:=by
 rw[<-Rat.num_eq_zero];unfold w3;split
 ·omega
 ·split<;>omega
end Go.c9

namespace Go.c9
open F
attribute [local irreducible] A0 B0 D8 BK IH DY FC E1 HI F9 IA LT GS EF HH H4 BD EU B9 pw IO H0 JM KX J9 GV IJ GT JW
variable {L:Lib}
set_option maxHeartbeats 8000000
theorem AmI (n:Bool) (m d:List Nat):qv (!n) m d = -(qv n m d):=by
 unfold qv;have h:zv (!n) m = -(zv n m):=by cases n<;>simp [zv]
 rw[h,Rat.neg_mkRat]
theorem Aq6 (n:Bool) (m d:List Nat):EA (.agg (rQ false false n m d)):=by
 simp only[EA,GK,and_true,true_and];exact ⟨I7 _,I7 _⟩
theorem AjF (N:er L) (n:Bool) (m d:List Nat):Ev L 149 [.agg (rQ false false n m d)] (.agg (rQ false false (!n) m d)):=by
 refine Ev.x N.jI rfl rfl ?_;cases n;all_goals
  (repeat' (apply BL<;>conv=>whnf))
  exact DH rfl (Aq6 _ _ _)
theorem AtX (N:er L) {x y:Rat} {k l:Nat} (hx:Bt k x) (hy:Bt l y) (hk:k<2199023255552) (hl:l<2199023255552):Ev L 150 [.agg (eQ x),.agg (eQ y)] (.agg (eQ (x-y))):=by
 have hF:=AjF N (decide (y.num<0)) (dg y.num.natAbs) (dg y.den);have hA:=λ q3 q4=>Akj N.toa7 68719476736 (by omega) (decide (x.num<0)) (!decide (y.num<0)) false false q3 q4 _ _ _ _ (hx.sm hk).1 (hx.sm hk).2 (hy.sm hl).1 (hy.sm hl).2
 rw[AmI,MY,MY,<-Rat.sub_eq_add_neg]at hA;refine Ev.x N.jF rfl rfl ?_;(repeat' ((first|apply AhF|apply BL|refine BF (hF) ?_|refine BF (hA _ _) ?_)<;>conv=>whnf))
 exact DH rfl (JB _)
theorem AvH {x y:Int} (h:y≠0):mkRat (y.sign*x) y.natAbs=Rat.divInt x y:=by
 obtain ⟨d,hd|hd⟩:=Int.eq_nat_or_neg y
 ·subst hd
  rw[Int.sign_eq_one_of_pos (by omega),Int.one_mul,Int.natAbs_natCast,Rat.divInt_ofNat]
 ·subst hd
  rw[Int.sign_eq_neg_one_of_neg (by omega),Int.natAbs_neg,Int.natAbs_natCast,Rat.divInt_neg',Rat.divInt_ofNat,Int.neg_one_mul]
theorem Ajw (N:er L) (x y:Int) (hx : -9223372036854775808<=x/\x<=9223372036854775807) (hy : -9223372036854775808<=y/\y<=9223372036854775807) (h0:y≠0):Ev L 151 [.int .i64 x,.int .i64 y] (.agg (eQ (Rat.divInt x y))):=by
 have h1:=AeN N.toa7 x hx;have h2:=AeN N.toa7 y hy;have g1:Sm 2 (dg x.natAbs):=Sm.dg (by omega);have g2:Sm 2 (dg y.natAbs):=Sm.dg (by omega);have hl:=λ q1 q2=>xC N.toa7 (decide (x<0) != decide (y<0)) q1 q2 (dg x.natAbs) (dg y.natAbs) (g1.le (by omega)) (g2.le (by omega)) (by rw[GO];omega)
 unfold qv at hl;rw[AoI h0,GO,AvH h0]at hl;refine Ev.x N.jA rfl rfl ?_;(repeat' ((first|(apply B6<;>intro hc<;>try omega)|apply BL|refine BF (h1) ?_|refine BF (h2) ?_)<;>conv=>whnf))
 refine N1 1000 N.bB rfl rfl ?_;(repeat' (apply BL<;>conv=>whnf))
 generalize decide (x<0)=p at *;generalize decide (y<0)=r at *;cases p<;>cases r;all_goals
  (conv=>whnf)
  refine ⟨rfl,?_⟩;(conv=>whnf)
  (repeat' (refine BF (hl _ _) ?_<;>conv=>whnf))
  exact DH rfl (JB _)
theorem Rn {l:List Rat} {i:Nat} {x:Rat} (h:l[i]? = some x):l.getD i 0=x:=by rw[List.getD_eq_getElem?_getD,h];rfl
theorem At9 {l:List Rat} {i:Nat} (h:l.length<=i):l.getD i 0=0:=by rw[List.getD_eq_getElem?_getD,List.getElem?_eq_none h];rfl
theorem AgC (z:Int):w3 z = -1/\z<0\/w3 z=0/\z=0\/w3 z=1/\0<z:=by
 unfold w3;split
 ·exact Or.inl ⟨rfl,by omega⟩
 ·split
  ·exact Or.inr (Or.inr ⟨rfl,by omega⟩)
  ·exact Or.inr (Or.inl ⟨rfl,by omega⟩)
theorem Arb {a b:Nat} {z:Int} (h:z=(a:Int)-b):JQ a b=w3 z:=by
 unfold JQ w3;subst h;repeat' split
 all_goals omega
theorem AjI (N:ak L) (n1 n2 q1 q2:Bool) (a b:List Nat) (ha:Sm 549755813888 a) (hb:Sm 549755813888 b):Ev L 197 [.agg (rZ q1 n1 a),.agg (rZ q2 n2 b)] (.int .i64 (w3 (zv n1 a-zv n2 b))):=by
 have h1:=λ q=>AbV N.toa7 n1 q a ha
 have h2:=λ q=>AbV N.toa7 n2 q b hb
 have h3:=λ q q'=>pZ N.toe9 a b q q' ha.1 hb.1 (by have:=ha.2;omega) (by have:=hb.2;omega)
 have h4:=λ q q'=>pZ N.toe9 b a q q' hb.1 ha.1 (by have:=hb.2;omega) (by have:=ha.2;omega)
 have za:=M8 n1 a;have zb:=M8 n2 b;generalize zv n1 a=x at *;generalize zv n2 b=y at *;rcases AgC x with ⟨e1,g1⟩|⟨e1,g1⟩|⟨e1,g1⟩<;>rcases AgC y with ⟨e2,g2⟩|⟨e2,g2⟩|⟨e2,g2⟩
 all_goals
  rw[e1]at h1;rw[e2]at h2;refine Ev.x N.eH rfl rfl ?_;(repeat' ((first|(apply B6<;>intro hc<;>try omega)|apply BL|refine BF (h1 _) ?_|refine BF (h2 _) ?_|refine BF (h3 _ _) ?_|refine BF (h4 _ _) ?_)<;>conv=>whnf))
  first
   | exact IC (AgD (by omega))
   | exact IC (AgE (by omega))
   | exact IC (Arb (by omega))
theorem AtQ (N:ak L) (k:Nat) (hk:1<=k/\k<=68719476736) (n1 n2:Bool) (m1 d1 m2 d2:List Nat) (oa:Sm k m1) (wz:Sm k d1) (od:Sm k m2) (Bh:Sm k d2) :
  Ev L 198 [.agg (rQ false false n1 m1 d1),.agg (rQ false false n2 m2 d2)] (.int .i64 (w3 (qv n1 m1 d1-qv n2 m2 d2).num)):=by
 obtain ⟨a1,a2,a3,w1,ji,s1,s2,s3,s4,s5⟩:=oC N.toa7 n1 m1 d1 k (by omega) oa wz;obtain ⟨b1,b2,b3,w2,gy,t1,t2,t3,t4,t5⟩:=oC N.toa7 n2 m2 d2 k (by omega) od Bh;rw[s5,t5,<-Al8 s3 t3];by_cases hw:w1=true/\w2=true
 ·obtain ⟨rfl,rfl⟩:=hw
  have hC:=λ q q'=>AjI N a1 b1 q q' a2 b2 (s1.le (by omega)) (t1.le (by omega))
  rw[s4 rfl,t4 rfl];rw[show zv a1 a2*((1:Nat):Int)-zv b1 b2*((1:Nat):Int)=zv a1 a2-zv b1 b2 by omega];refine Ev.x N.aZ rfl rfl ?_;(repeat' ((first|apply Q9|apply BL|refine BF (ji) ?_|refine BF (gy) ?_|refine BF (hC _ _) ?_)<;>conv=>whnf))
  exact IC rfl
 ·have nx:=λ q q'=>tW N.toa7 a1 false q q' a2 b3 s1.1 t2.1 (by have:=s1.2;have:=t2.2;omega)
  have sf:=λ q q'=>tW N.toa7 b1 false q q' b2 a3 t1.1 s2.1 (by have:=t1.2;have:=s2.2;omega)
  have Ik:=xD N.toa7 a3;have Fi:=xD N.toa7 b3;have g1:Sm (k+k) (dg (zv a1 a2*zv false b3).natAbs):=vC s1 t2;have g2:Sm (k+k) (dg (zv b1 b2*zv false a3).natAbs):=vC t1 s2;have hC:=λ q q'=>AjI N (decide (zv a1 a2*zv false b3<0)) (decide (zv b1 b2*zv false a3<0)) q q' _ _ (g1.le (by omega)) (g2.le (by omega))
  rw[NI,NI]at hC;rw[<-MF b3,<-MF a3];generalize zv a1 a2*zv false b3=x at *;generalize zv b1 b2*zv false a3=y at *;refine Ev.x N.aZ rfl rfl ?_;cases w1<;>cases w2
  ·(repeat' ((first|apply Q9|apply tC|apply BL|refine BF (ji) ?_|refine BF (gy) ?_|refine BF (Ik) ?_|refine BF (Fi) ?_|refine BF (nx _ _) ?_|refine BF (sf _ _) ?_|refine BF (hC _ _) ?_)<;>conv=>whnf))
   exact IC rfl
  ·(repeat' ((first|apply Q9|apply tC|apply BL|refine BF (ji) ?_|refine BF (gy) ?_|refine BF (Ik) ?_|refine BF (Fi) ?_|refine BF (nx _ _) ?_|refine BF (sf _ _) ?_|refine BF (hC _ _) ?_)<;>conv=>whnf))
   exact IC rfl
  ·(repeat' ((first|apply Q9|apply tC|apply BL|refine BF (ji) ?_|refine BF (gy) ?_|refine BF (Ik) ?_|refine BF (Fi) ?_|refine BF (nx _ _) ?_|refine BF (sf _ _) ?_|refine BF (hC _ _) ?_)<;>conv=>whnf))
   exact IC rfl
  ·exact absurd ⟨rfl,rfl⟩ hw
theorem xA (N:ak L) {x y:Rat} {k l:Nat} (hx:Bt k x) (hy:Bt l y) (hk:k<2199023255552) (hl:l<2199023255552):Ev L 198 [.agg (eQ x),.agg (eQ y)] (.int .i64 (w3 (x-y).num)):=by
 have:=AtQ N 68719476736 (by omega) (decide (x.num<0)) (decide (y.num<0)) _ _ _ _ (hx.sm hk).1 (hx.sm hk).2 (hy.sm hl).1 (hy.sm hl).2
 rw[MY,MY]at this;exact this
theorem Atq (N:ak L) {x:Rat} {k:Nat} (hx:Bt k x) (hk:k<2199023255552):Ev L 199 [.agg (eQ x)] (.agg (eQ (-x))):=by
 have hF:=AjF N.toer (decide (x.num<0)) (dg x.num.natAbs) (dg x.den);have hT:=λ q1 q2=>AeY N.toa7 (!decide (x.num<0)) q1 q2 _ _ ((hx.sm hk).1.le (by omega)) ((hx.sm hk).2.le (by omega))
 rw[AmI,MY]at hT;refine Ev.x N.jC rfl rfl ?_;(repeat' ((first|apply AhF|apply BL|refine BF (hF) ?_|refine BF (hT _ _) ?_)<;>conv=>whnf))
 exact DH rfl (JB _)
theorem Aj5 (N:ak L) (q:Bool) (l:List Rat) (k:Nat) (hl:Bs k l) (hk:k<2199023255552) (hn:l.length<=1000000):Ev L 200 [.sl q (l.map eQ)] (.int .i64 ((XP l l.length:Int)-1)):=by
 refine Ev.x N.iW rfl rfl ?_;(repeat' (apply BL<;>conv=>whnf))
 refine P8 1000 N.iX rfl rfl ?_;(repeat' ((first|apply C9|apply BL)<;>conv=>whnf))
 refine K7 (λ n=>n) (λ(n:Nat)=>n<=l.length/\XP l l.length=XP l n) (λ n=>[(3,.int .i64 n)]) (λ_=>[]) l.length ⟨Nat.le_refl _,rfl⟩ ?_;intro n ⟨p1,p2⟩ ih;have done : ∀ {n:Nat},XP l l.length=n->sN l=l.take n:=λ h=>by rw[sN,h]
 by_cases hz:n=0\/(∃ m x,n=m+1/\l[m]? = some x/\x≠0)
 ·have Xw:XP l l.length=n:=by
   rw[p2];rcases hz with rfl|⟨m,x,rfl,h1,h2⟩
   ·rfl
   ·rw[XP,if_neg]
    rw[List.getD_eq_getElem?_getD,h1];exact h2
  have htq:=done Xw;have te:(l.take n).length=n:=by rw[List.length_take];omega
  clear ih Xw p2 done;rcases hz with h0|⟨m,x,hnm,h1,h2⟩
  case' inl=>(repeat' ((first|(apply B6<;>intro hc<;>try omega)|apply BL)<;>conv=>whnf))
  case' inr =>
   have Bv:l[((n:Int)-1).toNat]? = some x:=by rw[show ((n:Int)-1).toNat=m by omega];exact h1
   have wk:=xF N.toa7 (hl.at h1) (by omega);have hs:=sK (x:=x);generalize w3 x.num=s at *;have hS : ∀ v,l[((n:Int)-1).toNat]? = some v->Ev L 97 [.agg (eQ v)] (.int .i64 s):=λ v h=>by
    obtain rfl:=Option.some.inj (Bv.symm.trans h);exact wk
   have om:s≠0:=λ h=>h2 (hs.1 h)
   (repeat' ((first|(apply B6<;>intro hc<;>try omega)|(apply F8;omega)|(refine E4 (by assumption) ?_ rfl ?_;omega)|apply BL|refine BF (wk) ?_)<;>conv=>whnf))
  all_goals
   refine dD (enc:=eQ) (λ_=>rfl) p1 ?_;(conv=>whnf)
   skip
   refine ⟨rfl,_,rfl,?_⟩;(conv=>whnf)
   (repeat' ((first|(apply F8;omega)|apply C9)<;>conv=>whnf))
   have Xx:XP l l.length=n:=by rw[<-Aoo,htq,te]
   rw[Xx];exact IC (by rw[te])
 ·obtain ⟨m,rfl⟩ : ∃ m,n=m+1:=⟨n-1,by omega⟩
  obtain ⟨x,hx⟩ : ∃ x,l[m]? = some x:=⟨_,zE (by omega)⟩;have Am:x=0:=by
   rcases Classical.em (x=0) with h|h
   ·exact h
   ·exact (hz (Or.inr ⟨m,x,rfl,hx,h⟩)).elim
  have yv:l[((m+1:Nat)-1:Int).toNat]? = some x:=by rw[show ((m+1:Nat)-1:Int).toNat=m by omega];exact hx
  have wk:=xF N.toa7 (hl.at hx) (by omega);have hs:=sK (x:=x);generalize w3 x.num=s at *;have hS : ∀ v,l[((m+1:Nat)-1:Int).toNat]? = some v->Ev L 97 [.agg (eQ v)] (.int .i64 s):=λ v h=>by
   obtain rfl:=Option.some.inj (yv.symm.trans h);exact wk
  have om:=hs.2 Am;(repeat' ((first|(apply B6<;>intro hc<;>try omega)|(apply F8;omega)|(refine E4 (by assumption) ?_ rfl ?_;omega)|apply BL|refine BF (wk) ?_)<;>conv=>whnf))
  rw[show ((m+1:Nat):Int)-1=(m:Int) by omega];exact FV [] (ih m (by omega) ⟨by omega,by rw[p2,XP,if_pos (by rw[List.getD_eq_getElem?_getD,hx];exact Am)]⟩)
theorem As1 (N:dn L) (S:NN) (n k:Nat) (h:S.Ok n k) (hn:n<=64):Ev L 130 [.agg (eS S)] (.bool true):=by
 have h1:=h.la;have h2:=h.lb;have h3:=h.lc;refine Ev.x N.gI rfl rfl ?_;(repeat' ((first|(apply B6<;>intro hc<;>try omega)|apply C9|apply BL)<;>conv=>whnf))
 refine K7 (λ i=>S.a.length-i) (λ(i:Nat)=>i<=S.a.length) (λ i=>[(28,.int .i64 i)]) (λ_=>[]) 0 (by omega) ?_;intro i p1 ih;by_cases hi:i<S.a.length
 ·obtain ⟨r,hr⟩ : ∃ r,S.a[i]? = some r:=⟨_,zE hi⟩
  have Ch:S.a[(i:Int).toNat]? = some r:=hr;have ng:=h.lr r (zM hr);(repeat' ((first|(apply B6<;>intro hc<;>try omega)|(apply DD;omega)|apply C9|(refine E4 (by assumption) ?_ rfl ?_;omega)|apply BL)<;>conv=>whnf))
  exact FV [] (ih (i+1) (by omega) (by omega))
 ·obtain rfl:i=S.a.length:=by omega
  clear ih;(repeat' ((first|(apply B6<;>intro hc<;>try omega)|apply BL)<;>conv=>whnf))
  exact M9 rfl
end Go.c9

namespace Go.c9
open F
attribute [local irreducible] A0 B0 D8 BK IH DY FC E1 HI F9 IA LT GS EF HH H4 BD EU B9 pw IO H0 JM KX J9 GV IJ GT JW
variable {L:Lib} (n:Nt)
set_option maxHeartbeats 1000000
theorem Vf (I:e8 L) (J:ff L):Ev L 27 [.agg (HV n)] (.bool (NF n)):=by
 refine Ev.x J.lT rfl rfl ?_;(repeat' ((first|(apply B6<;>intro hc<;>try omega)|apply C9|apply BL|refine ML (AbY ⟨_,_,_,_⟩ I) (λ hf => ?_) (λ hf => ?_)|refine ML (cG I _ _ _) (λ hf => ?_) (λ hf => ?_))<;>conv=>whnf))
 all_goals try (
  refine M9 (nW ?_);rw[J6];rintro ⟨x1,x2,x3,_⟩
  first|contradiction|omega)
 rename_i h1 h2 h5;have h3:=hf;have h6:=hc;have h1:WV n.d:=h1;have h2:WV n.c:=h2;have hw:=h2;unfold WV at hw;refine K7 (λ i=>n.nodes.length-i) (λ(i:Nat)=>i<=n.nodes.length/\O0 n.c n.s i (n.nodes.drop i)=O0 n.c n.s 0 n.nodes) (λ i=>[(3,.int .i64 i)]) (λ_=>[]) 0 ⟨by omega,rfl⟩ ?_;intro i ⟨p1,p2⟩ ih;(repeat' ((first|(apply B6<;>intro hc<;>try omega)|(apply DD;omega)|apply C9|(refine bY ?_ (λ_=>rfl) (λ e he => ?_);omega)|apply BL)<;>conv=>whnf))
 ·rename Nd=>nd
  have hnd:=he;rw[cF hnd,O0,decide_eq_false (by omega)]at p2;refine M9 (nW ?_);rw[J6,<-p2];simp
 ·rename Nd=>nd
  have hnd:=he;rw[cF hnd,O0,decide_eq_true (by omega),Bool.true_and]at p2;refine K7 (λ j=>nd.ts.length-j) (λ(j:Nat)=>j<=nd.ts.length/\(nd.ts.drop j).all (ON n.c n.s i)=nd.ts.all (ON n.c n.s i)) (λ j=>[(4,.int .i64 j)]) (λ_=>[]) 0 ⟨by omega,rfl⟩ ?_;intro j ⟨r1,r2⟩ ue;(repeat' ((first|(apply B6<;>intro hc<;>try omega)|(apply DD;omega)|(refine NS ?_ (λ_ _ => ?_);omega)|(apply HN;omega)|apply C9|(refine E4 (by assumption) ?_ rfl ?_;omega)|(refine bY ?_ (λ_=>rfl) (λ e he => ?_);omega)|apply BL|refine ML (AtS ⟨_,_,_,_⟩ I _) (λ hf => ?_) (λ hf => ?_)|refine ML (cG I _ _ _) (λ hf => ?_) (λ hf => ?_))<;>conv=>whnf))
  all_goals try (
   have hb:ON n.c n.s i e=false:=by
    simp only[ON,decide_eq_false_iff_not];intro hh;first|omega|exact absurd hh.2.2 (λ hx=>hx.elim (λ hx=>by omega) (λ hx=>by contradiction))
   rw[cF he,List.all_cons,hb,Bool.false_and]at r2;rw[<-r2,Bool.false_and]at p2;refine M9 (nW ?_);rw[J6,<-p2];simp;done)
  all_goals try (
   have hb:ON n.c n.s i e=true:=by
    simp only[ON,decide_eq_true_eq];exact ⟨by omega,by omega,by first|exact Or.inr (by assumption)|exact Or.inl (by assumption)⟩
   rw[cF he,List.all_cons,hb,Bool.true_and]at r2;exact GF [] (by (conv=>whnf);exact ⟨rfl,rfl,rfl⟩) (ue (j+1) (by omega) ⟨by omega,r2⟩))
  rw[wX (by omega)]at r2;rw[<-r2,List.all_nil,Bool.true_and]at p2;exact FV [] (ih (i+1) (by omega) ⟨by omega,p2⟩)
 ·rw[wX (by omega),O0]at p2
  refine K7 (λ i=>n.next.length-i) (λ(i:Nat)=>i<=n.next.length/\X2 (n.s+n.nodes.length) (n.next.drop i)=X2 (n.s+n.nodes.length) n.next) (λ i=>[(7,.int .i64 i)]) (λ_=>[]) 0 ⟨by omega,rfl⟩ ?_;intro k ⟨r1,r2⟩ ih3;(repeat' ((first|(apply B6<;>intro hc<;>try omega)|(apply DD;omega)|(refine bY ?_ (λ_=>rfl) (λ e he => ?_);omega)|apply BL|refine ML (cG I _ _ _) (λ hf => ?_) (λ hf => ?_))<;>conv=>whnf))
  all_goals try (
   have hb:decide (0<=e/\e<=n.s+n.nodes.length)=false:=by (rw[decide_eq_false_iff_not];omega)
   rw[cF he,X2,List.all_cons,hb,Bool.false_and]at r2;refine M9 (nW ?_);rw[J6,<-r2];simp;done)
  all_goals try (
   have hb:decide (0<=e/\e<=n.s+n.nodes.length)=true:=by (rw[decide_eq_true_eq];omega)
   rw[cF he,X2,List.all_cons,hb,Bool.true_and]at r2;exact GF [] (by (conv=>whnf);exact ⟨rfl,rfl,rfl⟩) (ih3 (k+1) (by omega) ⟨by omega,r2⟩))
  all_goals (
   rw[wX (by omega)]at r2;first
    | (refine M9 (eqT ?_);rw[J6];exact ⟨h1,h2,by omega,p2.symm,r2.symm,by omega,by omega⟩)
    | (refine M9 (nW ?_);rw[J6];omega))
theorem rS {α:Type} {o F:List α} {i:Nat} {v:α} (hl:o.length=F.length) (h:o.take i=F.take i) (hv:F[i]? = some v):(o.set i v).length=F.length/\(o.set i v).take (i+1)=F.take (i+1):=by
 obtain ⟨hi,rfl⟩:=zS hv;refine ⟨by simp [hl],?_⟩;rw[List.take_add_one,List.take_add_one,<-h];congr 1
 ·rw[List.take_set_of_le (Nat.le_refl i)]
 ·rw[hv];simp [hl,hi]
theorem Ab2 {α:Type} {o F:List α} {i:Nat} (hl:o.length=F.length) (h:o.take i=F.take i) (hi:F.length<=i):o=F:=by
 rwa [zT (by omega),zT hi]at h
end Go.c9

namespace Go.c9
open F
attribute [local irreducible] A0 B0 D8 BK IH DY FC E1 HI F9 IA LT GS EF HH H4 BD EU B9 pw IO H0 JM KX J9 GV IJ GT JW
variable {L:Lib}
set_option maxHeartbeats 16000000
def II (n:Nt):List (List (Int × Int)):=n.nodes.map Nd.ts
def O3 (n:Nt) (src ex:Int):List Rat:=PA ((pw n.c.f:Int):Rat) ex 0 (JF (1+n.s).toNat src) (II n)
theorem AfP {c:Wd} {s:Int} : ∀ {l:List Nd} {k j:Nat} {nd:Nd},O0 c s k l=true->l[j]? = some nd->nd.ts.all (ON c s (k+j))=true
 | [],_,_,_,_,h=>by simp at h
 | e::l,k,0,nd,hb,h=>by
  simp only[List.getElem?_cons_zero,Option.some.injEq]at h;subst h;simp only[O0,Bool.and_eq_true]at hb;exact hb.1.2
 | e::l,k,j+1,nd,hb,h=>by
  simp only[List.getElem?_cons_succ]at h;simp only[O0,Bool.and_eq_true]at hb;rw[show k+(j+1)=k+1+j by omega];exact AfP hb.2 h
theorem AxT (m p:Nat):(List.replicate m (0:Rat)).set p 1=JF m p:=by
 refine List.ext_getElem? λ j => ?_
 simp only[JF,List.getElem?_set,List.getElem?_map,List.getElem?_replicate,List.length_replicate];by_cases h:j<m
 ·rw[List.getElem?_range h]
  by_cases e:p=j
  ·subst e;simp [h]
  ·simp [h,e];intro h3;omega
 ·rw[List.getElem?_eq_none (by simpa using h)]
  simp [h];intro e;omega
theorem Bs.unit (k m:Nat) (p:Int):Bs k (JF m p):=by
 intro x hx;simp only[JF,List.mem_map]at hx;obtain ⟨a,_,rfl⟩:=hx;split
 ·exact Bt.one k
 ·exact Bt.zero k
def L9 (n:Nt):NN where
 a:=n.next.map λ e=>(List.range n.s.toNat).map λ(j:Nat)=>(O3 n ((j:Int)+1) (-1)).getD e.toNat 0
 b:=n.next.map λ e=>(O3 n 0 (-1)).getD e.toNat 0
 c:=(List.range n.s.toNat).map λ(j:Nat)=>(O3 n ((j:Int)+1) (-1)).getD n.out.toNat 0
 d:=(O3 n 0 (-1)).getD n.out.toNat 0
abbrev eC:Option (List Rat)->List AV
 | none=>[.nil]
 | some l=>[.sl false (l.map eQ)]
def fz {α:Type} (z:α) (l:List α) (m:Nat):List α:=l++List.replicate (m-l.length) z
theorem AkN {α:Type} {z:α} {l:List α} {m:Nat} (h:l.length<=m):(fz z l m).length=m:=by simp [fz];omega
theorem AkO {α:Type} {z x:α} {l:List α} {m:Nat} (h:l.length<m):(fz z l m).set l.length x=fz z (l++[x]) m:=by
 unfold fz;obtain ⟨k,hk⟩ : ∃ k,m-l.length=k+1:=⟨m-l.length-1,by omega⟩;rw[List.set_append_right _ _ (by simp),hk,Nat.sub_self,List.replicate_succ,List.set_cons_zero,List.length_append,List.length_singleton,show m-(l.length+1)=k by omega,List.append_assoc];rfl
theorem AkL {α:Type} {z:α} {l:List α} {m:Nat} (h:l.length<m):(fz z l m)[l.length]? = some z:=by
 unfold fz;rw[List.getElem?_append_right (by omega),Nat.sub_self,List.getElem?_replicate,if_pos (by omega)]
theorem AkM {α:Type} {z:α} {l:List α} {m:Nat} (h:l.length=m):fz z l m=l:=by simp [fz,h]
theorem Ahk {α:Type} {l:List α} {i:Nat} {x:α} (h:l[i]? = some x):l.take (i+1)=l.take i++[x]:=by
 rw[List.take_add_one,h];rfl
def cf (l:List Rat) (prev:List (Option Rat)) (i:Nat):List (Option Rat):=(l.take i).map some++prev.drop i
theorem AeM (I:e8 L) (D:w4 L) (b a:List Int) (q1 q2:Bool) (d c:Wd) (hd:WV d) (hc:WV c) (l1:1<=b.length/\b.length<=49) (l2:a.length<=8) (hb : ∀ v∈b,FT c v) (ha : ∀ v∈a,FT c v/\FT c (-v)) :
  Ev L 46 [.sl q1 (b.map IM),.sl q2 (a.map IM),.agg (OC d),.agg (OC c)] (.int .i64 0):=by
 have hav : ∀ v∈a,-16777216<=v/\v<=16777216:=λ v hv=>by
  obtain ⟨_,e1,e2⟩:=(ha v hv).1;obtain ⟨h1,h2,h3,h4⟩:=sC hc;omega
 refine Ev.x D.dW rfl rfl ?_;(repeat' ((first|(apply B6<;>intro hc<;>try omega)|apply C9|apply BL|refine ML (pY ⟨_,_,_,_⟩ I) (λ hf => ?_) (λ hf => ?_))<;>conv=>whnf))
 all_goals try (exact absurd hd (by assumption))
 all_goals try (exact absurd hc (by assumption))
 refine K7 (λ i=>b.length-i) (λ(i:Nat)=>i<=b.length) (λ i=>[(36,.int .i64 i)]) (λ_=>[]) 0 (by omega) ?_;intro i p1 ih;(repeat' ((first|(apply B6<;>intro hc<;>try omega)|(apply DD;omega)|apply C9|(refine bY ?_ (λ_=>rfl) (λ e he => ?_);omega)|apply BL|refine ML (tV ⟨_,_,_,_⟩ I _) (λ hf => ?_) (λ hf => ?_))<;>conv=>whnf))
 ·exact FV [] (ih (i+1) (by omega) (by omega))
 ·exact absurd (hb _ (zM he)) hf
 refine K7 (λ i=>a.length-i) (λ(i:Nat)=>i<=a.length) (λ i=>[(47,.int .i64 i)]) (λ_=>[]) 0 (by omega) ?_;intro i p1 ih;(repeat' ((first|(apply B6<;>intro hc<;>try omega)|(refine bY ?_ (λ_=>rfl) (λ e he => ?_);omega)|apply BL|refine ML (tV ⟨_,_,_,_⟩ I _) (λ hf => ?_) (λ hf => ?_))<;>conv=>whnf))
 ·have hfe:=hav _ (zM he)
  (repeat' ((first|(apply DD;omega)|(apply IH.neg;omega)|refine ML (tV ⟨_,_,_,_⟩ I _) (λ hf => ?_) (λ hf => ?_))<;>conv=>whnf))
  ·exact FV [] (ih (i+1) (by omega) (by omega))
  ·exact absurd (ha _ (zM he)).2 hf
 ·exact absurd (ha _ (zM he)).1 hf
 ·exact IC rfl
theorem Ad1 (ts:List (Int × Int)):L3 (ts.map TS):=rH (λ_=>by simp [GK,EA]) ts
def K3 (l:List Int) (sg fr:Int):List (Int × Int):=(List.range l.length).map λ i:Nat=>(fr+i,sg*l.getD i 0)
theorem bJ (l:List Int) (sg fr:Int):(K3 l sg fr).length=l.length:=by simp [K3]
theorem AwA {l:List Int} {i:Nat} {v:Int} (sg fr:Int) (h:l[i]? = some v):(K3 l sg fr)[i]? = some (fr+i,sg*v):=by
 have hi:=(zS h).1;simp only[K3,List.getElem?_map,List.getElem?_range hi,Option.map_some,List.getD_eq_getElem?_getD,h,Option.getD_some]
theorem pX (D:w4 L) (l:List Int) (q:Bool) (sg fr:Int) (hl:l.length<=1000000) (hs:sg=1\/sg = -1) (hf:0<=fr/\fr<=1000000) (hv : ∀ v∈l,-1000000000000<=v/\v<=1000000000000):Ev L 47 [.sl q (l.map IM),.int .i64 sg,.int .i64 fr] (.sl false ((K3 l sg fr).map TS)):=by
 have hF:=bJ l sg fr;refine Ev.x D.dS rfl rfl ?_;(repeat' ((first|apply C9|apply BL)<;>conv=>whnf))
 refine K9 (enc:=TS) (0,0) l.length rfl rfl (by omega) ?_;(conv=>whnf)
 (repeat' (apply C9<;>conv=>whnf))
 refine zC (λ i _=>l.length-i) (λ(i:Nat) (o:List (Int × Int))=>i<=l.length/\o.length=(K3 l sg fr).length/\o.take i=(K3 l sg fr).take i) (λ i o=>[(7,.row 12 0 2 0 o.length),(15,.int .i64 i)]) (λ i o=>[(12,12,.rw 2 (o.map TS))]) [] [] 0 (List.replicate l.length (0,0)) (by rw[List.length_replicate];exact (by (conv=>whnf);exact ⟨rfl,rfl,rfl⟩)) ⟨by omega,by simp [hF],by simp⟩ ?_;intro i o ⟨p1,p2,p3⟩ ih;by_cases hi:i<l.length
 ·obtain ⟨v,Zh⟩ : ∃ v,l[i]? = some v:=⟨_,zE hi⟩
  have hvr:=hv v (zM Zh);have hmul : -1000000000000<=sg*v/\sg*v<=1000000000000:=by rcases hs with rfl|rfl<;>omega
  obtain ⟨f1,f2⟩:=rS p2 p3 (AwA sg fr Zh);(repeat' ((first|(apply B6<;>intro hc<;>try omega)|(apply EL;omega)|(apply DD;omega)|(apply NA;omega)|(refine E4 (by assumption) ?_ rfl ?_;omega)|apply BL)<;>conv=>whnf))
  refine bZ (enc:=TS) (fr+i,sg*v) rfl (λ_=>rfl) (by omega) ?_;(conv=>whnf)
  (repeat' ((first|(apply DD;omega)|fail)<;>conv=>whnf))
  exact GF [] (by rw[List.length_set];exact (by (conv=>whnf);exact ⟨rfl,rfl,rfl⟩)) (ih (i+1) (o.set i (fr+i,sg*v)) (by omega) ⟨by omega,f1,f2⟩)
 ·have ho:=Ab2 p2 p3 (by omega)
  (repeat' ((first|(apply B6<;>intro hc<;>try omega)|(refine J2 (λ_=>rfl) rfl ?_ ?_;(first|rfl|simp))|apply BL)<;>conv=>whnf))
  exact DH (by rw[ho]) (by simp [EA,Ad1])
def QC (l:List Nd):List (Int × Int):=l.flatMap λ n=>n.ts
theorem Up (D:w4 L) (l:List Nd) (q:Bool) (na:(QC l).length<=1000000) (hl:l.length<=1000000):Ev L 48 [.sl q (l.map rN)] (.sl false ((QC l).map TS)):=by
 refine Ev.x D.dQ rfl rfl ?_;(repeat' ((first|apply C9|apply BL)<;>conv=>whnf))
 refine MR (λ i _=>l.length-i) (λ(i:Nat) (o:List (Int × Int))=>i<=l.length/\o=QC (l.take i)) (λ i o=>[(3,.row 3 0 2 0 o.length),(8,.int .i64 i)]) (λ i o=>[(3,3,.rw 2 (o.map TS))]) 0 [] ⟨by omega,rfl⟩ ?_;intro i o ⟨p1,p2⟩ ih;(repeat' ((first|(apply B6<;>intro hc<;>try omega)|(refine bY ?_ (λ_=>rfl) (λ e he => ?_);omega)|(refine J2 (λ_=>rfl) rfl ?_ ?_;(first|rfl|simp))|apply BL)<;>conv=>whnf))
 ·have hj:QC (l.take (i+1))=o++e.ts:=by
   rw[List.take_add_one,he,p2];simp [QC]
  have hle:o.length+e.ts.length<=1000000:=by
   have:QC l=QC (l.take (i+1))++QC (l.drop (i+1)):=by
    unfold QC;rw[<-List.flatMap_append,List.take_append_drop]
   rw[this,hj]at na;simp at na;omega
  refine Adf (enc:=TS) rfl (λ_=>rfl) (by omega) (by omega) ?_;(conv=>whnf)
  (repeat' ((first|(apply DD;omega)|fail)<;>conv=>whnf))
  exact GF [(3,14)] (by (conv=>whnf);exact ⟨rfl,rfl,rfl⟩) (ih (i+1) _ (by omega) ⟨by omega,hj.symm⟩)
 ·rw[zT (by omega)]at p2
  exact DH (by rw[p2]) (by simp [EA,Ad1])
theorem Aiy : ∀ (l:List Nd),(∀ n∈l,n.q=false)->L3 (l.map rN)
 | [],_=>by simp [L3]
 | n::r,h=>by
  simp only[List.map_cons,L3,GK,EA,and_true];exact ⟨⟨h n (by simp),Ad1 _⟩,Aiy r λ m hm=>h m (List.mem_cons_of_mem _ hm)⟩
theorem Ajq (n:Nt) (h1:n.qn=false) (h2:n.qx=false) (h3 : ∀ m∈n.nodes,m.q=false):GK (HV n):=by
 simp only[GK,EA,true_and,and_true];exact ⟨⟨h1,Aiy _ h3⟩,h2,Aiw _⟩
theorem yB (n:Nt) (h1:n.qn=false) (h2:n.qx=false) (h3 : ∀ m∈n.nodes,m.q=false):EA (.j5 [.agg (HV n),.int .i64 0]):=by
 have h:=Ajq n h1 h2 h3;simp only[EA,GK,and_true,true_and]at h ⊢;exact h
def RU (n:Nat) (first source:Int):List Int:=(List.range n).map λ i:Nat=>if i=0 then source else first+i-1
theorem Aed {n i:Nat} {first source:Int} (h:i<n):(RU n first source)[i]? = some (if i=0 then source else first+i-1):=by
 simp only[RU,List.getElem?_map,List.getElem?_range h,Option.map_some]
theorem sY {c:Wd} (hc:WV c) {v:Int} (h:FT c v) : -1000000000000<=v/\v<=1000000000000:=by
 obtain ⟨_,e1,e2⟩:=h;obtain ⟨h1,h2,h3,h4⟩:=sC hc;omega
def OU (b a:List Int) (d c:Wd):Nt :=
 ⟨d,c,((b.length-1+a.length:Nat):Int),false,[⟨false,K3 b 1 0++K3 a (-1) b.length⟩],false,RU (b.length-1) 1 0++RU a.length b.length ((b.length+a.length:Nat):Int),((b.length+a.length:Nat):Int)⟩
theorem As5 (I:e8 L) (D:w4 L) (b a:List Int) (q1 q2:Bool) (d c:Wd) (hd:WV d) (hc:WV c) (l1:1<=b.length/\b.length<=49) (l2:a.length<=8) (hb : ∀ v∈b,FT c v) (ha : ∀ v∈a,FT c v/\FT c (-v)) :
  Ev L 50 [.sl q1 (b.map IM),.sl q2 (a.map IM),.agg (OC d),.agg (OC c)] (.j5 [.agg (HV (OU b a d c)),.int .i64 0]):=by
 have hw:=λ q q'=>AeM I D b a q q' d c hd hc l1 l2 hb ha
 have r1:=λ q=>pX D b q 1 0 (by omega) (Or.inl rfl) (by omega) (λ v hv=>sY hc (hb v hv))
 have r2:=λ q=>pX D a q (-1) ((b.length:Int)-1+1) (by omega) (Or.inr rfl) (by omega) (λ v hv=>sY hc (ha v hv).1)
 have r3:=λ q q' Zs=>Up D [⟨q,K3 b 1 0⟩,⟨q',K3 a (-1) ((b.length:Int)-1+1)⟩] Zs (by simp [QC,bJ];omega) (by simp)
 generalize hF:RU (b.length-1) 1 0++RU a.length b.length ((b.length+a.length:Nat):Int)=F;have Hu:F.length=b.length-1+a.length:=by rw[<-hF];simp [RU]
 have Mb : ∀ i:Nat,i<b.length-1->F[i]? = some (if i=0 then (0:Int) else 1+i-1):=λ i hi=>by
  rw[<-hF,List.getElem?_append_left (by simp [RU];omega)];exact Aed hi
 have hF2 : ∀ i:Nat,i<a.length->F[b.length-1+i]? = some (if i=0 then ((b.length+a.length:Nat):Int) else b.length+i-1):=λ i hi=>by
  rw[<-hF,List.getElem?_append_right (by simp [RU])];have:b.length-1+i-(RU (b.length-1) 1 0).length=i:=by simp [RU]
  rw[this];exact Aed hi
 refine Ev.x D.dK rfl rfl ?_;(repeat' ((first|(apply B6<;>intro hc<;>try omega)|(apply DD;omega)|(apply F8;omega)|apply C9|apply BL|refine BF (hw _ _) ?_)<;>conv=>whnf))
 refine K9 (enc:=IM) 0 (b.length-1+a.length) rfl (by omega) (by omega) ?_;(conv=>whnf)
 (repeat' ((first|(apply DD;omega)|refine Z3 rfl rfl ?_|refine BF (r1 _) ?_|refine BF (r2 _) ?_|refine BF (r3 _ _ _) ?_)<;>conv=>whnf))
 refine QX (b.length-1) (by omega) (by omega) ?_;(conv=>whnf)
 refine P8 1000 D.YQ rfl rfl ?_;(repeat' (apply BL<;>conv=>whnf))
 refine MR (λ i _=>b.length-1-i) (λ(i:Nat) (o:List Int)=>i<=b.length-1/\o.length=F.length/\o.take i=F.take i) (λ i o=>[(9,.int .i64 i)]) (λ i o=>[(34,34,.rw 1 (o.map IM))]) 0 (List.replicate (b.length-1+a.length) 0) ⟨by omega,by simp [Hu],by simp⟩ ?_;intro i o ⟨p1,p2,p3⟩ ih;(repeat' ((first|(apply B6<;>intro hc<;>try omega)|(apply EL;omega)|(apply DD;omega)|(apply F8;omega)|apply BL)<;>conv=>whnf))
 ·obtain ⟨f1,f2⟩:=rS p2 p3 (Mb i (by omega))
  refine Z4 i (if i=0 then (0:Int) else 1+i-1) (by omega) (by rw[if_pos (by omega)]) (λ_=>rfl) (by omega) ?_;(conv=>whnf)
  (repeat' ((first|(apply DD;omega)|fail)<;>conv=>whnf))
  exact GF [] (by (conv=>whnf);exact ⟨rfl,rfl,rfl⟩) (ih (i+1) _ (by omega) ⟨by omega,f1,f2⟩)
 ·obtain ⟨f1,f2⟩:=rS p2 p3 (Mb i (by omega))
  refine Z4 i (if i=0 then (0:Int) else 1+i-1) (by omega) (by rw[if_neg (by omega)]) (λ_=>rfl) (by omega) ?_;(conv=>whnf)
  (repeat' ((first|(apply DD;omega)|fail)<;>conv=>whnf))
  exact GF [] (by (conv=>whnf);exact ⟨rfl,rfl,rfl⟩) (ih (i+1) _ (by omega) ⟨by omega,f1,f2⟩)
 obtain rfl:i=b.length-1:=by omega
 refine ⟨rfl,_,rfl,?_⟩;(conv=>whnf)
 skip
 refine Api (b.length-1) (by omega) (by omega) ?_;(conv=>whnf)
 (repeat' ((first|(apply DD;omega)|fail)<;>conv=>whnf))
 refine P8 1000 D.YQ rfl rfl ?_;(repeat' (apply BL<;>conv=>whnf))
 refine MR (λ i _=>a.length-i) (λ(i:Nat) (o:List Int)=>i<=a.length/\o.length=F.length/\o.take (b.length-1+i)=F.take (b.length-1+i)) (λ i o=>[(9,.int .i64 i)]) (λ i o=>[(34,34,.rw 1 (o.map IM))]) 0 o ⟨by omega,p2,p3⟩ ?_;clear p1 p2 p3 ih;intro i o ⟨p1,p2,p3⟩ ih;(repeat' ((first|(apply B6<;>intro hc<;>try omega)|(apply EL;omega)|(apply DD;omega)|(apply F8;omega)|apply BL)<;>conv=>whnf))
 ·obtain ⟨f1,f2⟩:=rS p2 p3 (hF2 i (by omega))
  refine Z4 (b.length-1+i) (if i=0 then ((b.length+a.length:Nat):Int) else b.length+i-1) (by omega) (by rw[if_pos (by omega)];simp only[List.cons.injEq,AV.int.injEq,true_and,and_true];omega) (λ_=>rfl) (by omega) ?_;(conv=>whnf)
  (repeat' ((first|(apply DD;omega)|fail)<;>conv=>whnf))
  exact GF [] (by (conv=>whnf);exact ⟨rfl,rfl,rfl⟩) (ih (i+1) _ (by omega) ⟨by omega,f1,f2⟩)
 ·obtain ⟨f1,f2⟩:=rS p2 p3 (hF2 i (by omega))
  refine Z4 (b.length-1+i) (if i=0 then ((b.length+a.length:Nat):Int) else b.length+i-1) (by omega) (by rw[if_neg (by omega)];simp only[List.cons.injEq,AV.int.injEq,true_and,and_true];omega) (λ_=>rfl) (by omega) ?_;(conv=>whnf)
  (repeat' ((first|(apply DD;omega)|fail)<;>conv=>whnf))
  exact GF [] (by (conv=>whnf);exact ⟨rfl,rfl,rfl⟩) (ih (i+1) _ (by omega) ⟨by omega,f1,f2⟩)
 have ho:=Ab2 p2 p3 (by omega);subst ho;refine ⟨rfl,_,rfl,?_⟩;(conv=>whnf)
 (repeat' (refine N9 rfl ?_<;>conv=>whnf))
 refine J2 (enc:=IM) (λ_=>rfl) rfl Hu.symm ?_;(conv=>whnf)
 skip
 have e1:(b.length:Int)-1+1=b.length:=by omega
 have e2:(b.length:Int)-1+a.length=((b.length-1+a.length:Nat):Int):=by omega
 have e3:(b.length:Int)-1+a.length+1=((b.length+a.length:Nat):Int):=by omega
 refine DH ?_ ?_
 ·rw[e1,e3,e2]
  simp only[OU,hF,List.map_cons,List.map_nil,QC,List.flatMap_cons,List.flatMap_nil,List.append_nil];rfl
 ·exact yB (OU b a d c) rfl rfl (by simp [OU])
def HZ (b a:List Int):Nat:=max (b.length-1) a.length
def OX (b a:List Int) (d c:Wd):Nt :=
 ⟨d,c,(HZ b a:Int),false,[⟨false,K3 [pw c.f] 1 0++K3 a (-1) 1⟩,⟨false,K3 (b.take 1) 1 (HZ b a+1)++K3 (b.drop 1) 1 1⟩],false,RU (HZ b a) 1 (HZ b a+1),HZ b a+1+1⟩
theorem As6 (I:e8 L) (D:w4 L) (b a:List Int) (q1 q2:Bool) (d c:Wd) (hd:WV d) (hc:WV c) (l1:1<=b.length/\b.length<=49) (l2:a.length<=8) (hb : ∀ v∈b,FT c v) (ha : ∀ v∈a,FT c v/\FT c (-v)) :
  Ev L 51 [.sl q1 (b.map IM),.sl q2 (a.map IM),.agg (OC d),.agg (OC c)] (.j5 [.agg (HV (OX b a d c)),.int .i64 0]):=by
 have hw:=λ q q'=>AeM I D b a q q' d c hd hc l1 l2 hb ha
 have cz:=hc;unfold WV at cz;have hpl:=aV (n:=c.f) (m:=23) (by omega);have Fp:pw 23=8388608:=by unfold pw;rfl
 have Dg:=O2 c.f;have r1:=λ q=>pX D [pw c.f] q 1 0 (by simp) (Or.inl rfl) (by omega) (by simp;omega)
 have r2:=λ q=>pX D a q (-1) 1 (by omega) (Or.inr rfl) (by omega) (λ v hv=>sY hc (ha v hv).1)
 have r3:=λ q=>pX D (b.take 1) q 1 (HZ b a+1) (by simp;omega) (Or.inl rfl) (by unfold HZ;omega) (λ v hv=>sY hc (hb v (List.mem_of_mem_take hv)))
 have r4:=λ q=>pX D (b.drop 1) q 1 1 (by simp;omega) (Or.inl rfl) (by omega) (λ v hv=>sY hc (hb v (List.mem_of_mem_drop hv)))
 have j1:=λ q q' Zs=>Up D [⟨q,K3 [pw c.f] 1 0⟩,⟨q',K3 a (-1) 1⟩] Zs (by simp [QC,bJ];omega) (by simp)
 have j2:=λ q q' Zs=>Up D [⟨q,K3 (b.take 1) 1 (HZ b a+1)⟩,⟨q',K3 (b.drop 1) 1 1⟩] Zs (by simp [QC,bJ];omega) (by simp)
 generalize hF:RU (HZ b a) 1 ((HZ b a:Int)+1)=F;have Hu:F.length=HZ b a:=by rw[<-hF];simp [RU]
 have Mb : ∀ i:Nat,i<HZ b a->F[i]? = some (if i=0 then ((HZ b a:Int)+1) else 1+i-1):=λ i hi=>by
  rw[<-hF];exact Aed hi
 have rf:(HZ b a:Int)<=1000:=by unfold HZ;omega
 refine Ev.x D.dO rfl rfl ?_;(repeat' ((first|(apply B6<;>intro hc<;>try omega)|(apply DD;omega)|(apply F8;omega)|apply C9|apply BL|refine BF (hw _ _) ?_)<;>conv=>whnf))
 all_goals first|rw[show (a.length:Int)=(HZ b a:Int) by unfold HZ;omega]|rw[show (b.length:Int)-1=(HZ b a:Int) by unfold HZ;omega]
 all_goals (
  generalize hmm:HZ b a=mx at *;refine K9 (enc:=IM) 0 mx rfl rfl (by omega) ?_;(conv=>whnf)
  (repeat' ((first|(apply DD;omega)|(refine NS ?_ (λ_ _ => ?_);omega)|refine N9 rfl ?_|refine Z3 rfl rfl ?_|refine BF (r1 _) ?_|refine BF (r2 _) ?_|refine BF (j1 _ _ _) ?_)<;>conv=>whnf))
  refine dD (k:=1) (λ_=>rfl) (by omega) ?_;(conv=>whnf)
  (repeat' (refine BF (r3 _) ?_<;>conv=>whnf))
  refine Ah3 (k:=1) (λ_=>rfl) (by omega) ?_;(conv=>whnf)
  (repeat' ((first|refine Z3 rfl rfl ?_|refine BF (r4 _) ?_|refine BF (j2 _ _ _) ?_)<;>conv=>whnf))
  refine P8 1000 D.YQ rfl rfl ?_;(repeat' (apply BL<;>conv=>whnf))
  refine MR (λ i _=>mx-i) (λ(i:Nat) (o:List Int)=>i<=mx/\o.length=F.length/\o.take i=F.take i) (λ i o=>[(9,.int .i64 i)]) (λ i o=>[(36,36,.rw 1 (o.map IM))]) 0 (List.replicate mx 0) ⟨by omega,by simp [Hu],by simp⟩ ?_;intro i o ⟨p1,p2,p3⟩ ih;(repeat' ((first|(apply B6<;>intro hc<;>try omega)|(apply EL;omega)|(apply DD;omega)|(apply F8;omega)|apply BL)<;>conv=>whnf))
  ·obtain ⟨f1,f2⟩:=rS p2 p3 (Mb i (by omega))
   refine Z4 i (if i=0 then ((mx:Int)+1) else 1+i-1) (by omega) (by rw[if_pos (by omega)]) (λ_=>rfl) (by omega) ?_;(conv=>whnf)
   (repeat' ((first|(apply DD;omega)|fail)<;>conv=>whnf))
   exact GF [] (by (conv=>whnf);exact ⟨rfl,rfl,rfl⟩) (ih (i+1) _ (by omega) ⟨by omega,f1,f2⟩)
  ·obtain ⟨f1,f2⟩:=rS p2 p3 (Mb i (by omega))
   refine Z4 i (if i=0 then ((mx:Int)+1) else 1+i-1) (by omega) (by rw[if_neg (by omega)]) (λ_=>rfl) (by omega) ?_;(conv=>whnf)
   (repeat' ((first|(apply DD;omega)|fail)<;>conv=>whnf))
   exact GF [] (by (conv=>whnf);exact ⟨rfl,rfl,rfl⟩) (ih (i+1) _ (by omega) ⟨by omega,f1,f2⟩)
  have ho:=Ab2 p2 p3 (by omega);subst ho;refine ⟨rfl,_,rfl,?_⟩;(conv=>whnf)
  (repeat' (refine Z3 rfl rfl ?_<;>conv=>whnf))
  refine J2 (enc:=IM) (λ_=>rfl) rfl Hu.symm ?_;(conv=>whnf)
  refine DH ?_ ?_
  ·simp only[OX,hF,hmm,List.map_cons,List.map_nil,QC,List.flatMap_cons,List.flatMap_nil,List.append_nil]
   rfl
  ·exact yB (OX b a d c) rfl rfl (by simp [OX]))
theorem Alw {A B C:List (Int × Int)} (h:A.length<=100) (h2:B.length+C.length<=1000):(A++B).length+C.length<=1000000:=by rw[List.length_append];omega
theorem AjN (D:w4 L) (A B:List (Int × Int)) (q q1 q2:Bool) (h:A.length+B.length<=1000000):Ev L 48 [.sl q [[.sl q1 (A.map TS)],[.sl q2 (B.map TS)]]] (.sl false ((A++B).map TS)):=by
 have:=Up D [⟨q1,A⟩,⟨q2,B⟩] q (by simpa [QC] using h) (by simp)
 simpa [QC] using this
theorem AjM (D:w4 L) (B:List (Int × Int)) (q q1 q2:Bool) (h:B.length<=1000000):Ev L 48 [.sl q [[.sl q1 []],[.sl q2 (B.map TS)]]] (.sl false (B.map TS)):=by
 have:=Up D [⟨q1,[]⟩,⟨q2,B⟩] q (by simpa [QC] using h) (by simp)
 rw[show QC [⟨q1,[]⟩,⟨q2,B⟩]=B by simp [QC]]at this;exact this
def oW (b a:List Int) (c:Wd) (mx k:Nat):List (Int × Int) :=
 (if k<b.length then K3 ((b.take (k+1)).drop k) 1 0 else [])++(if 1<=k/\k<=a.length then K3 ((a.take k).drop (k-1)) (-1) (mx+1) else [])++(if k<mx then K3 [pw c.f] 1 (k+1) else [])
def YA (b a:List Int) (c:Wd) (mx k:Nat):List Nd:=(List.range k).map λ i=>⟨false,oW b a c mx i⟩
def O4 (b a:List Int) (d c:Wd):Nt :=
 ⟨d,c,(HZ b a:Int),false,YA b a c (HZ b a) (HZ b a+1),false,(List.range (HZ b a)).map λ i:Nat=>(HZ b a:Int)+1+(i+1:Nat),HZ b a+1⟩
theorem Aon (b a:List Int) (c:Wd) (mx k:Nat):YA b a c mx (k+1)=YA b a c mx k++[⟨false,oW b a c mx k⟩]:=AmK _ _
set_option maxHeartbeats 40000000 in
theorem As7 (I:e8 L) (D:w4 L) (b a:List Int) (q1 q2:Bool) (d c:Wd) (hd:WV d) (hc:WV c) (l1:1<=b.length/\b.length<=49) (l2:a.length<=8) (hb : ∀ v∈b,FT c v) (ha : ∀ v∈a,FT c v/\FT c (-v)) :
  Ev L 52 [.sl q1 (b.map IM),.sl q2 (a.map IM),.agg (OC d),.agg (OC c)] (.j5 [.agg (HV (O4 b a d c)),.int .i64 0]):=by
 have hw:=λ q q'=>AeM I D b a q q' d c hd hc l1 l2 hb ha
 have cz:=hc;unfold WV at cz;have hpl:=aV (n:=c.f) (m:=23) (by omega);have Fp:pw 23=8388608:=by unfold pw;rfl
 have Dg:=O2 c.f;have hx1:b.length<=HZ b a+1:=by unfold HZ;omega
 have hx2:a.length<=HZ b a:=by unfold HZ;omega
 have Zj : ∀ k,k<=HZ b a->k<b.length\/(1<=k/\k<=a.length):=by unfold HZ;omega
 have ru:=λ(q:Bool) (k:Nat) (hk:k<=1000)=>pX D [pw c.f] q 1 (k+1) (by simp) (Or.inl rfl) (by omega) (by simp;omega)
 have rb:=λ(q:Bool) (i j:Nat)=>pX D ((b.take j).drop i) q 1 0 (by simp;omega) (Or.inl rfl) (by omega) (λ v hv=>sY hc (hb v (List.mem_of_mem_take (List.mem_of_mem_drop hv))))
 have rf:(HZ b a:Int)<=1000:=by unfold HZ;omega
 have ra:=λ(q:Bool) (i j:Nat)=>pX D ((a.take j).drop i) q (-1) (HZ b a+1) (by simp;omega) (Or.inr rfl) (by omega) (λ v hv=>sY hc (ha v (List.mem_of_mem_take (List.mem_of_mem_drop hv))).1)
 have hS:O4 b a d c=⟨d,c,(HZ b a:Int),false,YA b a c (HZ b a) (HZ b a+1),false,(List.range (HZ b a)).map λ i:Nat=>(HZ b a:Int)+1+(i+1:Nat),HZ b a+1⟩:=rfl;have ag:=yB (O4 b a d c) rfl rfl (by simp [O4,YA]);refine Ev.x D.dP rfl rfl ?_;(repeat' ((first|(apply B6<;>intro hc<;>try omega)|(apply DD;omega)|(apply F8;omega)|apply C9|apply BL|refine BF (hw _ _) ?_)<;>conv=>whnf))
 all_goals first|rw[show (a.length:Int)=(HZ b a:Int) by unfold HZ;omega]|rw[show (b.length:Int)-1=(HZ b a:Int) by unfold HZ;omega]
 all_goals (
  generalize HZ b a=mx at *;generalize hF:((List.range mx).map λ i:Nat=>(mx:Int)+1+(i+1:Nat))=F at *;have Hu:F.length=mx:=by rw[<-hF];simp
  have Mb : ∀ i:Nat,i<mx->F[i]? = some ((mx:Int)+1+(i+1:Nat)):=λ i hi=>by
   rw[<-hF,List.getElem?_map,List.getElem?_range hi];rfl
  refine K9 (enc:=IM) 0 mx rfl rfl (by omega) ?_;(conv=>whnf)
  (repeat' ((first|(apply DD;omega)|(refine NS ?_ (λ_ _ => ?_);omega))<;>conv=>whnf))
  refine Ade (λ k _ _ _=>mx+1-k) (λ(k:Nat) (ns:List Nd) (o:List Int) (fl:Bool)=>k<=mx+1/\ns=YA b a c mx k/\fl=decide (k=0)/\o.length=F.length/\o.take (k-1)=F.take (k-1)) (λ k ns o fl=>[(47,.int .i64 k)]) (λ k ns o fl=>bif fl then [(38,38,.rw 1 (o.map IM))] else [(13,13,.bx [.int .i64 d.b,.int .i64 d.f,.int .i64 d.r,.int .i64 d.o,.int .i64 c.b,.int .i64 c.f,.int .i64 c.r,.int .i64 c.o,.int .i64 mx,.row 1000 0 1 0 ns.length,.row 38 0 1 0 mx,.int .i64 (mx+1)]),(1000,106,.rw 1 (ns.map rN)),(38,38,.rw 1 (o.map IM))]) [] [] 0 [] (List.replicate mx 0) true (by (conv=>whnf);exact ⟨rfl,rfl,rfl⟩) ⟨by omega,rfl,rfl,by simp [Hu],by simp⟩ ?_;intro k ns o fl ⟨p1,p2,p3,p4,p5⟩ ih;by_cases hk:k<=mx
  ·have yl:=Zj k hk
   have vy:oW b a c mx k=(if k<b.length then K3 ((b.take (k+1)).drop k) 1 0 else [])++(if 1<=k/\k<=a.length then K3 ((a.take k).drop (k-1)) (-1) (mx+1) else [])++(if k<mx then K3 [pw c.f] 1 (k+1) else []):=rfl;have rb1:=λ q=>rb q (k:Int).toNat ((k:Int)+1).toNat
   have ra1:=λ q=>ra q ((k:Int)-1).toNat (k:Int).toNat
   have ru1:=λ q=>ru q k (by omega)
   have e1:((k:Int)+1).toNat=k+1:=by omega
   have e2:(k:Int).toNat=k:=by omega
   have e3:((k:Int)-1).toNat=k-1:=by omega
   have Nm:(YA b a c mx k).length=k:=by simp [YA]
   have na:=bJ (List.drop (k:Int).toNat (List.take ((k:Int)+1).toNat b)) 1 0;have pc:=bJ (List.drop ((k:Int)-1).toNat (List.take (k:Int).toNat a)) (-1) (mx+1);have hl3:=bJ [pw c.f] 1 (k+1);simp only[List.length_drop,List.length_take,List.length_cons,List.length_nil]at na pc hl3;have mf:ns.length=k:=by rw[p2];exact Nm
   have hE : ∀ X,X=oW b a c mx k->[AV.sl false (X.map TS)]=rN ⟨false,oW b a c mx k⟩:=λ X h=>by rw[h]
   cases fl
   ·have hk1:1<=k:=by
     rcases k with _|k
     ·simp at p3
     ·omega
    (repeat' ((first|(apply B6<;>intro hc<;>try omega)|(apply EL;omega)|(apply DD;omega)|(apply F8;omega)|apply C9|(refine Abs (λ_=>rfl) (Adl ?_ ?_);omega)|refine N9 rfl ?_|refine Z3 rfl rfl ?_|refine Ah5 rfl ?_|apply BL|refine BF (rb1 _) ?_|refine BF (ra1 _) ?_|refine BF (ru1 _) ?_|refine BF (AjM D _ _ _ _ (by omega)) ?_|refine BF (AjN D _ _ _ _ _ (by first|omega|exact Alw (by omega) (by omega))) ?_)<;>conv=>whnf))
    all_goals (
     obtain ⟨f1,f2⟩:=rS (i:=k-1) p4 p5 (Mb (k-1) (by omega));refine Z4 (k-1) ((mx:Int)+1+((k-1+1:Nat):Int)) (by omega) (by rw[show k-1+1=k by omega]) (λ_=>rfl) (by omega) ?_;(conv=>whnf)
     (repeat' (apply KY<;>conv=>whnf))
     refine NL (enc:=rN) ⟨false,oW b a c mx k⟩ (hE _ ?_) rfl rfl (by omega) (by omega) ?_
     ·rw[vy]
      split<;>split<;>split<;>first|(exfalso;omega)|simp only[List.append_nil,List.nil_append,List.append_assoc,e1,e2,e3]
     ·(conv=>whnf)
      (repeat' ((first|(apply DD;omega)|fail)<;>conv=>whnf))
      exact GF [(1000,106)] (by (conv=>whnf);exact ⟨rfl,rfl,rfl⟩) (ih (k+1) _ _ false (by omega) ⟨by omega,by rw[Aon,p2],by simp,f1,by rw[show k+1-1=k-1+1 by omega];exact f2⟩))
   ·have hk0:k=0:=by simpa using p3
    (repeat' ((first|(apply B6<;>intro hc<;>try omega)|(apply DD;omega)|apply C9|(refine Abs (λ_=>rfl) (Adl ?_ ?_);omega)|apply KY|refine N9 rfl ?_|refine Z3 rfl rfl ?_|refine Ah5 rfl ?_|apply BL|refine BF (rb1 _) ?_|refine BF (ru1 _) ?_|refine BF (AjM D _ _ _ _ (by omega)) ?_|refine BF (AjN D _ _ _ _ _ (by first|omega|exact Alw (by omega) (by omega))) ?_)<;>conv=>whnf))
    all_goals (
     refine qX (enc:=rN) ⟨false,oW b a c mx k⟩ (hE _ ?_) rfl (by omega) ?_
     ·rw[vy]
      split<;>split<;>split<;>first|(exfalso;omega)|simp only[List.append_nil,List.nil_append,List.append_assoc,e1,e2,e3]
     ·(conv=>whnf)
      (repeat' ((first|(apply DD;omega)|fail)<;>conv=>whnf))
      exact FV [(1000,106)] (ih (k+1) [⟨false,oW b a c mx k⟩] o false (by omega) ⟨by omega,by rw[Aon,hk0];rfl,by simp,p4,by rw[hk0];rfl⟩))
  ·obtain rfl:k=mx+1:=by omega
   cases fl
   ·(repeat' ((first|(apply B6<;>intro hc<;>try omega)|(refine J2 (λ_=>rfl) rfl ?_ ?_;(first|rfl|simp))|apply BL)<;>conv=>whnf))
    have ho:=Ab2 p4 p5 (by omega);subst ho;refine J2 (enc:=IM) (λ_=>rfl) rfl Hu.symm ?_;(conv=>whnf)
    skip
    refine DH ?_ ag;rw[hS,p2]
   ·simp at p3)
end Go.c9

namespace Go.c9
open F
attribute [local irreducible] A0 B0 D8 BK IH DY FC E1 HI F9 IA LT GS EF HH H4 BD EU B9 pw IO H0 JM KX J9 GV IJ GT JW
variable {L:Lib}
variable (b a:List Int) (d c:Wd)
variable {b a d c}
set_option maxHeartbeats 4000000
end Go.c9

namespace Go.c9
open F
attribute [local irreducible] A0 B0 D8 BK IH DY FC E1 HI F9 IA LT GS EF HH H4 BD EU B9 pw IO H0 JM KX J9 GV IJ GT JW
variable {L:Lib}
set_option maxHeartbeats 8000000
end Go.c9

namespace Go.c9
open F
attribute [local irreducible] A0 B0 D8 BK IH DY FC E1 HI F9 IA LT GS EF HH H4 BD EU B9 pw IO H0 JM KX J9 GV IJ GT JW
set_option maxHeartbeats 4000000
variable {L:Lib}
section
variable (n:Nt)
end
end Go.c9

namespace Go.c9
open F
attribute [local irreducible] A0 B0 D8 BK IH DY FC E1 HI F9 IA LT GS EF HH H4 BD EU B9 pw IO H0 JM KX J9 GV IJ GT JW
variable {L:Lib}
set_option maxHeartbeats 4000000
end Go.c9
