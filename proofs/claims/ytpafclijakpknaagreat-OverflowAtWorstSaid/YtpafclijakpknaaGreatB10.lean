/-
  Natural numbers (layer 1): greatest common divisors.
-/
import Derived.Test.YtpafclijakpknaaGreatB9
import Derived.Test.YtpafclijakpknaaGreatB8
import Derived.Test.YtpafclijakpknaaGreatB7
import Derived.Test.YtpafclijakpknaaGreatB1
import Derived.Test.YtpafclijakpknaaGreatB2
set_option linter.unusedSimpArgs false
set_option linter.unusedVariables false
set_option linter.unnecessarySimpa false
namespace Go.b8
open F
attribute [local irreducible] AJ A3 BU AU FE BR C1 CK DS DE FA G7 DR B2 EH E5 AL CQ BC pw FM E2 F7 G8 GX EG FK EE FZ
set_option maxHeartbeats 4000000
variable {L:Lib}
theorem Yu {k':IntKind} {a:Int} {K:AV->Prop} (hk:K (.int .i64 (a/4294967296))):AU .shr .i64 a k' 32 K:=by
 refine Yt (by omega) ?_;have:pw 32=4294967296:=by decide +kernel
 rw[this];exact hk
theorem Yc {t:Int} {K:Int->Prop} (hk:K (jE t:Int)):B6 .u32 t K:=by
 refine ⟨?_⟩;rw[IntKind.wrap_u32,<-tO];exact hk
section
variable {k':IntKind} {a b:Nat} {K:AV->Prop}
theorem Aip {i:Nat} (hi:i<2) (ha:a<4294967296) (hk:K (.int .u64 ((a*4294967296^i:Nat):Int))):AU .shl .u64 (a:Int) k' (32*(i:Int)) K:=by
 rcases i with _|_|i
 ·exact YA (s:=0) (by omega) (by omega) hk
 ·exact YA (s:=32) (by omega) (by omega) hk
 ·omega
end
theorem Ad2 {x y M N:Int} (hx : -M<=x/\x<=M) (hy : -N<=y/\y<=N) : -(M*N)<=x*y/\x*y<=M*N:=by
 have h1:x.natAbs<=M.natAbs:=by omega
 have h2:y.natAbs<=N.natAbs:=by omega
 have h3:=Nat.mul_le_mul h1 h2;rw[<-Int.natAbs_mul,<-Int.natAbs_mul]at h3;have h4:0<=M*N:=Int.mul_nonneg (by omega) (by omega);omega
theorem uY (N:c7 L) (a b:List Nat) (q1 q2:Bool) (hA:B9 a) (hB:B9 b) (la:a.length<=549755813888) (lb:b.length<=549755813888) (h0:val b≠0) :
  Ev L 75 [.sl q1 (a.map BF),.sl q2 (b.map BF)] (.g8 [.sl false ((dg (val a/val b)).map BF),.sl false ((dg (val a%val b)).map BF),.int .i64 0]):=by
 have l1:=JB hA;have l2:=JB hB;have hp:=jM h0;refine Ev.x N.RZ rfl rfl ?_;(repeat' ((first|(apply A9<;>intro hc<;>try omega)|apply BT|apply A2|refine PQ (P8 N a _ hA (by omega)) ?_|refine PQ (P8 N b _ hB (by omega)) ?_|refine AP (vB N _ _ _ _ h0 (by omega) (by omega)) ?_)<;>conv=>whnf))
 refine BV rfl ?_;simp only[B3,EC,and_true,true_and];exact ⟨GC _,GC _⟩
theorem AcM (N:c7 L) (V:Nat) (q:Bool) (hl:(dg V).length<=2):Ev L 76 [.sl q ((dg V).map BF)] (.int .u64 (V:Int)):=by
 have hV:=W9.1 hl;have hD:=HW V;have hv:=EA V;refine Ev.x N.SG rfl rfl ?_;generalize dg V=l at *;(repeat' ((first|apply BT|apply A2)<;>conv=>whnf))
 refine IX (λ i _=>l.length-i) (λ(i:Nat) (a:Nat)=>i<=l.length/\a=val (l.take i)) (λ i a=>[(3,.int .u64 (a:Int)),(8,.int .i64 i)]) (λ_ _=>[]) 0 0 ⟨by omega,rfl⟩ ?_;intro i a ⟨p1,p2⟩ ih;by_cases hi:i<l.length
 ·obtain ⟨d,hd⟩ : ∃ d,l[i]? = some d:=⟨_,zE hi⟩
  have br:=hD.at hd;have h1:=H5 hd;have h2:=JM (hD.take i);have h3:=JM (hD.take (i+1));rw[List.length_take,Nat.min_eq_left (by omega)]at h2 h3;have h4:4294967296^(i+1)<=4294967296^2:=Nat.pow_le_pow_right (by omega) (by omega);(repeat' ((first|(apply A9<;>intro hc<;>try omega)|(apply I8;omega)|(apply EM;omega)|(refine CN (by assumption) ?_ rfl ?_;omega)|apply A2)<;>conv=>whnf))
  refine Aip (by omega) br ?_;(conv=>whnf)
  rw[Nat.mul_comm d];refine mR (32*i) (by rw[Nat.pow_mul];exact Nat.mul_mod_right _ _) (by rw[Nat.pow_mul,p2];exact h2) (by omega) ?_;(conv=>whnf)
  (repeat' ((first|(apply BG;omega)|fail)<;>conv=>whnf))
  exact DP [] (by (conv=>whnf);exact ⟨rfl,rfl,rfl⟩) (ih (i+1) _ (by omega) ⟨by omega,by rw[h1,p2]⟩)
 ·obtain rfl:i=l.length:=by omega
  clear ih;(repeat' ((first|(apply A9<;>intro hc<;>try omega)|apply A2)<;>conv=>whnf))
  rw[GV (Nat.le_refl _)]at p2;exact ET (by omega)
theorem rY {f:Nat} {vs:List AV} {tm:Tm} {M:Mem} {K:AV->Mem->Prop} {v:AV} (h:CQ L f vs tm M (λ r M'=>r=v/\M'=M)) (hk:K v M):CQ L f vs tm M K:=by
 unfold CQ at h ⊢;intro σ own hs;obtain ⟨r,n6,σ',M',h1,h2,h3,rfl,rfl⟩:=h σ own hs;exact ⟨_,n6,σ',_,h1,h2,h3,hk⟩
theorem AcL (N:c7 L) (a:List Nat) (q:Bool) (n s:Nat) (hD:B9 a) (hn:3<=n) (hl:a.length<=n) (Vl:n<=549755813888) (hs:s<=31) (l7:val a*2^s<4294967296^n) :
  Ev L 78 [.sl q (a.map BF),.int .i64 (n:Int),.int .u64 (s:Int)] (.int .i64 ((val a/fR n s:Nat):Int)):=by
 have b1:=Z4 hD (n-1);have b2:=Z4 hD (n-2);have b3:=Z4 hD (n-3);have Bz:=Ad9 hD hn hl rfl rfl l7;have heq:=Ad8 (s:=s) hD hn hl hs rfl rfl rfl;obtain ⟨f1,f2,f3,f4⟩:=cX (s:=s) b3 (by omega);refine Ev.x N.SC rfl rfl ?_;(repeat' ((first|(apply B5;omega)|(apply DQ;omega)|apply A2)<;>conv=>whnf))
 refine rY (v := .int .u64 ((a.getD (n-1) 0:Nat):Int)) ?_ ?_
 ·refine LE 1000 N.NY rfl rfl ?_
  (repeat' ((first|(apply A9<;>intro hc<;>try omega)|(apply EM;omega)|apply BT|(refine ZJ (by assumption) ?_ (λ e he hb => ?_);omega)|apply A2)<;>conv=>whnf))
  ·refine ⟨rfl,_,rfl,?_,rfl⟩
   rw[show ((n:Int)-1).toNat=n-1 by omega]at he;rw[LY he];rfl
  ·refine ⟨rfl,_,rfl,?_,rfl⟩
   rw[<-Z5 (show a.length<=n-1 by omega)];rfl
 (conv=>whnf)
 (repeat' ((first|(apply B5;omega)|(apply DQ;omega)|(apply WU;omega))<;>conv=>whnf))
 refine rY (v := .int .u64 ((a.getD (n-2) 0:Nat):Int)) ?_ ?_
 ·refine LE 1000 N.NY rfl rfl ?_
  (repeat' ((first|(apply A9<;>intro hc<;>try omega)|(apply EM;omega)|apply BT|(refine ZJ (by assumption) ?_ (λ e he hb => ?_);omega)|apply A2)<;>conv=>whnf))
  ·refine ⟨rfl,_,rfl,?_,rfl⟩
   rw[show ((n:Int)-2).toNat=n-2 by omega]at he;rw[LY he];rfl
  ·refine ⟨rfl,_,rfl,?_,rfl⟩
   rw[<-Z5 (show a.length<=n-2 by omega)];rfl
 (conv=>whnf)
 generalize a.getD (n-1) 0=d1 at *;generalize a.getD (n-2) 0=d2 at *;(repeat' ((first|(apply X7;omega)|fail)<;>conv=>whnf))
 refine YA (by omega) Bz ?_;(conv=>whnf)
 generalize hT:(d1*4294967296+d2)*2^s=T at *;(repeat' ((first|(apply B5;omega)|(apply DQ;omega))<;>conv=>whnf))
 refine rY (v := .int .u64 ((a.getD (n-3) 0:Nat):Int)) ?_ ?_
 ·refine LE 1000 N.NY rfl rfl ?_
  (repeat' ((first|(apply A9<;>intro hc<;>try omega)|(apply EM;omega)|apply BT|(refine ZJ (by assumption) ?_ (λ e he hb => ?_);omega)|apply A2)<;>conv=>whnf))
  ·refine ⟨rfl,_,rfl,?_,rfl⟩
   rw[show ((n:Int)-3).toNat=n-3 by omega]at he;rw[LY he];rfl
  ·refine ⟨rfl,_,rfl,?_,rfl⟩
   rw[<-Z5 (show a.length<=n-3 by omega)];rfl
 (conv=>whnf)
 generalize a.getD (n-3) 0=d3 at *;skip
 refine YA (by omega) f4 ?_;(conv=>whnf)
 (repeat' (apply J2<;>conv=>whnf))
 rw[cU]at f2;refine Yr s (by rw[<-hT];exact Nat.mul_mod_left _ _) f2 (by have:=pU (k:=d1*4294967296+d2) (show s<=64 by omega) (by omega);omega) ?_;(conv=>whnf)
 (repeat' ((first|apply Aim|(apply aM;omega))<;>conv=>whnf))
 rw[heq];exact ET rfl
theorem Amg (N:c7 L) (P Q:Int) (hP:0<=P/\P<=4611686018427387904) (hQ:0<=Q/\Q<=4611686018427387904) : ∃ r,Ev L 79 [.int .i64 P,.int .i64 Q] r /\ ∃ a b c d:Int,(sD a b c d/\(-2147483647<=a/\a<=2147483647)/\(-2147483647<=b/\b<=2147483647)/\(-2147483647<=c/\c<=2147483647)/\(-2147483647<=d/\d<=2147483647))/\(b≠0->iO P Q a b c d)/\r = .g8 [.int .i64 a,.int .i64 b,.int .i64 c,.int .i64 d]:=by
 refine Ev.xE N.R8 rfl rfl ?_;(repeat' (apply A2<;>conv=>whnf))
 refine Ahr (λ_ _ _ _ _ q=>(q+2147483648).toNat) (λ(a b c d p q:Int)=>aS P Q a b c d p q/\((-2147483647<=a/\a<=2147483647)/\(-2147483647<=b/\b<=2147483647)/\(-2147483647<=c/\c<=2147483647)/\(-2147483647<=d/\d<=2147483647))/\(p<=4611686018427387904/\q<=4611686018427387904)/\dS P Q a b c d/\(b≠0->iO P Q a b c d)) (λ a b c d p q=>[(0,.int .i64 p),(1,.int .i64 q),(4,.int .i64 a),(5,.int .i64 b),(6,.int .i64 c),(7,.int .i64 d)]) (λ_ _ _ _ _ _=>[]) [] [] 1 0 0 1 P Q (by (conv=>whnf);exact ⟨rfl,rfl,rfl⟩) ⟨aS.start hP.1 hQ.1,by omega,by omega,dS.start P Q,λ h=>absurd rfl h⟩ ?_;intro a b c d p q ⟨p1,⟨⟨p2,p2'⟩,⟨p3,p3'⟩,⟨p4,p4'⟩,⟨p5,p5'⟩⟩,⟨p6,p7⟩,p8,p9⟩ ih;have g1:=p1.pa;have g2:=p1.pb;have g3:=p1.qc;have g4:=p1.qd;by_cases jb:q+c=0
 ·(repeat' ((first|(apply A9<;>intro hc<;>try omega)|(apply BG;omega)|apply A2)<;>conv=>whnf))
  refine ⟨.g8 [.int .i64 a,.int .i64 b,.int .i64 c,.int .i64 d],?_,a,b,c,d,⟨p1.sg,by omega⟩,p9,rfl⟩;(conv=>whnf)
  exact BV rfl (by simp [B3,EC])
 by_cases uz:q+d=0
 ·(repeat' ((first|(apply A9<;>intro hc<;>try omega)|(apply BG;omega)|apply A2)<;>conv=>whnf))
  refine ⟨.g8 [.int .i64 a,.int .i64 b,.int .i64 c,.int .i64 d],?_,a,b,c,d,⟨p1.sg,by omega⟩,p9,rfl⟩;(conv=>whnf)
  exact BV rfl (by simp [B3,EC])
 by_cases hff:(p+a)/(q+c)=(p+b)/(q+d)
 ·obtain ⟨s1,s2,s3,s4⟩:=p1.step jb uz rfl hff
  have s5:=s4 p8;have s6:=s5.half;have s7:=s1.qc;by_cases jf:2147483647<(p+a)/(q+c)
  ·(repeat' ((first|(apply A9<;>intro hc<;>try omega)|(apply BG;omega)|(refine PT ?_ ?_ (λ_ => ?_) (λ_ _ => ?_);omega;omega;all_goals try omega)|apply A2)<;>conv=>whnf))
   refine ⟨.g8 [.int .i64 a,.int .i64 b,.int .i64 c,.int .i64 d],?_,a,b,c,d,⟨p1.sg,by omega⟩,p9,rfl⟩;(conv=>whnf)
   exact BV rfl (by simp [B3,EC])
  ·have t1:=Ad2 (x:=(p+a)/(q+c)) (y:=c) (M:=2147483647) (N:=2147483647) (by omega) (by omega)
   have t2:=Ad2 (x:=(p+a)/(q+c)) (y:=d) (M:=2147483647) (N:=2147483647) (by omega) (by omega);(repeat' ((first|(apply A9<;>intro hc<;>try omega)|(apply BG;omega)|(apply DQ;omega)|(apply I8;omega)|(refine PT ?_ ?_ (λ_ => ?_) (λ_ _ => ?_);omega;omega;all_goals try omega)|(apply FE.neg;omega)|apply A2)<;>conv=>whnf))
   all_goals first
    | exact DP [] (by (conv=>whnf);exact ⟨rfl,rfl,rfl⟩) (ih _ _ _ _ _ _ (by omega) ⟨s1,by omega,by omega,s6,λ_=>s5⟩)
    |(refine ⟨.g8 [.int .i64 a,.int .i64 b,.int .i64 c,.int .i64 d],?_,a,b,c,d,⟨p1.sg,by omega⟩,p9,rfl⟩
      (conv=>whnf)
      exact BV rfl (by simp [B3,EC]))
 ·(repeat' ((first|(apply A9<;>intro hc<;>try omega)|(apply BG;omega)|(refine PT ?_ ?_ (λ_ => ?_) (λ_ _ => ?_);omega;omega;all_goals try omega)|apply A2)<;>conv=>whnf))
  refine ⟨.g8 [.int .i64 a,.int .i64 b,.int .i64 c,.int .i64 d],?_,a,b,c,d,⟨p1.sg,by omega⟩,p9,rfl⟩;(conv=>whnf)
  exact BV rfl (by simp [B3,EC])
theorem Amh (N:c7 L) (x y:List Nat) (q1 q2:Bool) (f g:Int) (hX:B9 x) (hY:B9 y) (hl:y.length<=x.length) (lx:x.length<=549755813888) (hs:ZG f g) (R:Nat) (hR:(R:Int)=f*val x+g*val y) (hR2:R<=val x) :
  Ev L 80 [.sl q1 (x.map BF),.sl q2 (y.map BF),.int .i64 f,.int .i64 g] (.sl false ((dg R).map BF)):=by
 refine Ev.x N.SA rfl rfl ?_;(repeat' ((first|apply BT|apply A2)<;>conv=>whnf))
 refine GJ (enc:=BF) 0 x.length rfl rfl (by omega) ?_;(conv=>whnf)
 (repeat' (apply BT<;>conv=>whnf))
 refine LD (λ i _ _=>x.length-i) (λ(i:Nat) (o:List Nat) (c:Int)=>i<=x.length/\o.length=x.length/\B9 o /\ -2147483648<=c/\c<=2147483648/\(val (o.take i):Int)+((4294967296^i:Nat):Int)*c=f*val (x.take i)+g*val (y.take i)) (λ i o c=>[(10,.int .i64 c),(19,.int .i64 i)]) (λ i o c=>[(16,16,.rw 1 (o.map BF))]) 0 (List.replicate x.length 0) 0 ⟨by omega,by simp,OS _,by omega,by omega,by simp [val]⟩ ?_;intro i o c ⟨p1,p2,p3,p4,p5,p6⟩ ih;by_cases hi:i<x.length
 ·obtain ⟨d,hd⟩ : ∃ d,x[i]? = some d:=⟨_,zE hi⟩
  have br:=hX.at hd;have h1:=H5 hd;by_cases hy:i<y.length
  ·obtain ⟨e,he⟩ : ∃ e,y[i]? = some e:=⟨_,zE hy⟩
   have Tx:=hY.at he;have h2:=H5 he;obtain ⟨r1,r2,r3⟩:=hs.rng br Tx;have j8:=Abw (d:=d) (e:=e) p6 rfl;(repeat' ((first|(apply A9<;>intro hc<;>try omega)|(apply BG;omega)|(apply I8;omega)|(apply aM;omega)|apply BT|(refine CN (by assumption) ?_ rfl ?_;omega)|apply A2)<;>conv=>whnf))
   generalize htt:f * ↑d+c+g * ↑e=t at *;refine Yc ?_;(conv=>whnf)
   (repeat' ((first|(apply B5;omega)|fail)<;>conv=>whnf))
   refine JW (by omega) ?_;(conv=>whnf)
   refine Yu ?_;(conv=>whnf)
   (repeat' ((first|(apply BG;omega)|fail)<;>conv=>whnf))
   refine DP [] (by (conv=>whnf);exact ⟨rfl,rfl,rfl⟩) (ih (i+1) _ _ (by omega) ⟨by omega,by simpa using p2,p3.set _ (Abv t),by omega,by omega,?_⟩);rw[KY (by omega),h1,h2,Nat.pow_succ];simp only[Int.natCast_add,Int.natCast_mul,tO];exact j8
  ·have h2:=rS (y:=y) (i:=i) (by omega)
   obtain ⟨r1,r2,r3⟩:=hs.rng (e:=0) br (by omega);have j8:=Abw (d:=d) (e:=0) p6 rfl;rw[Int.mul_zero,Int.add_zero]at j8;have r4 : -9223372030412324865<=f*(d:Int)/\f*(d:Int)<=9223372030412324865:=r1;(repeat' ((first|(apply A9<;>intro hc<;>try omega)|(apply BG;omega)|(apply I8;omega)|(apply aM;omega)|apply BT|(refine CN (by assumption) ?_ rfl ?_;omega)|apply A2)<;>conv=>whnf))
   generalize htt:f * ↑d+c=t at *;refine Yc ?_;(conv=>whnf)
   (repeat' ((first|(apply B5;omega)|fail)<;>conv=>whnf))
   refine JW (by omega) ?_;(conv=>whnf)
   refine Yu ?_;(conv=>whnf)
   (repeat' ((first|(apply BG;omega)|fail)<;>conv=>whnf))
   refine DP [] (by (conv=>whnf);exact ⟨rfl,rfl,rfl⟩) (ih (i+1) _ _ (by omega) ⟨by omega,by simpa using p2,p3.set _ (Abv t),by omega,by omega,?_⟩);rw[KY (by omega),h1,h2,Nat.pow_succ];simp only[Int.natCast_add,Int.natCast_mul,tO];rw[Int.mul_zero,Int.add_zero]at j8;exact j8
 ·obtain rfl:i=x.length:=by omega
  clear ih;rw[GV (by omega),GV (Nat.le_refl _),GV (by omega)]at p6;have Ph:=JM p3;have hxv:=JM hX;rw[p2]at Ph;have hVR:val o=R:=by
   have:=AjO Ph p6 (by omega) (by omega)
   omega
  have iq:=JB p3;rw[<-p2,<-hVR];(repeat' ((first|(apply A9<;>intro hc<;>try omega)|apply A2|refine mL N (by assumption) (by omega) rfl (by first|rfl|omega|assumption) ?_)<;>conv=>whnf))
  refine M9 (enc:=BF) (λ_=>rfl) (by omega) ?_;(conv=>whnf)
  refine BV ?_ (by simp only[B3,true_and];exact GC _);rw[List.drop_zero,lX p3]
theorem Amk (N:c7 L) (X Y:Nat) (yj:Y<=X) (hy:3<=(dg Y).length) (lx:(dg X).length<=549755813888) : ∃ r,Ev L 81 [.sl false ((dg X).map BF),.sl false ((dg Y).map BF)] r /\ ∃ A B:Nat,(B<Y/\B<=A/\A<=X/\Nat.gcd A B=Nat.gcd X Y)/\r = .g8 [.sl false ((dg A).map BF),.sl false ((dg B).map BF)]:=by
 have hY0:Y≠0:=λ h=>by rw[h,JL]at hy;simp at hy
 have Bp:X≠0:=by omega
 have hlen:=ZU yj;have Bw:=λ q q'=>vB N X Y q q' hY0 lx (by omega)
 have d1:=HW X;have d2:=HW Y;have v1:=EA X;have v2:=EA Y;obtain ⟨xt,Xb,Xc⟩:=uD Bp;have Mu:=d1.at Xb;obtain ⟨b1,b2,b3,b4⟩:=xF Xc Mu;have Lr:=Acx N xt Mu;generalize hs:32-v5 xt=s at *;have fb:s<=31:=by omega
 obtain ⟨n1,n2⟩:=wX d1 Xb (by omega) fb b3 b4;have qf:=λ(f g:Int) (R:Nat) (hs:ZG f g) (h1:(R:Int)=f*val (dg X)+g*val (dg Y)) (h2:R<=val (dg X)) (q q':Bool)=>Amh N (dg X) (dg Y) q q' f g d1 d2 (by omega) lx hs R h1 h2
 have n3:val (dg Y)*2^s<4294967296^(dg X).length:=Nat.lt_of_le_of_lt (zR _ (by omega)) n1;have iq:=λ q=>AcL N (dg X) q (dg X).length s d1 (by omega) (by omega) lx fb n1
 have jg:=λ q=>AcL N (dg Y) q (dg X).length s d2 (by omega) (by omega) lx fb n3
 have hK:=AoC (dg X).length s;obtain ⟨e1,x1,x2,x3⟩:=Aed (V:=X) hK;obtain ⟨e2,y1,y2,y3⟩:=Aed (V:=Y) hK;rw[v1]at iq;rw[v2]at jg;have Ec:=Aec d1 (n:=(dg X).length) (by omega) (by omega) fb n1;have Io:=Aec d2 (n:=(dg X).length) (by omega) (by omega) fb n3;rw[v1]at Ec;rw[v2]at Io;generalize fR (dg X).length s=K at *;generalize X/K=P at *;generalize Y/K=Q at *;rw[v1,v2]at qf;obtain ⟨rc,hrc,a,b,c,d,⟨z1,z2,z3,z4,z5⟩,z6,rfl⟩:=Amg N (P:Int) (Q:Int) (by omega) (by omega);have e1:(((dg X).length:Int)-1).toNat=(dg X).length-1:=by omega
 rw[<-e1]at Xb;refine Ev.xE N.SF rfl rfl ?_;by_cases hb:b=0
 ·(repeat' ((first|(apply A9<;>intro hc<;>try omega)|(apply DQ;omega)|(apply EM;omega)|apply BT|(refine CN (by assumption) ?_ rfl ?_;omega)|apply A2|refine AP (Lr) ?_|refine AP (iq _) ?_|refine AP (jg _) ?_|refine AP (hrc) ?_|refine AP (Bw _ _) ?_)<;>conv=>whnf))
  refine ⟨_,?_,Y,X%Y,⟨Nat.mod_lt _ (by omega),Nat.le_of_lt (Nat.mod_lt _ (by omega)),yj,kJ X Y⟩,rfl⟩;(conv=>whnf)
  exact BV rfl (jD _ _)
 ·obtain ⟨g1,g2,g3,g4⟩:=z6 hb (X:Int) (Y:Int) (K:Int) _ _ (by omega) x1 y1 x2 x3 y2 y3
  obtain ⟨A,hA⟩:=Int.eq_ofNat_of_zero_le (show 0<=a*X+b*Y by omega);obtain ⟨B,hB⟩:=Int.eq_ofNat_of_zero_le g1;have s1:ZG a b:=by rcases z1 with ⟨h1,h2,h3,h4⟩|⟨h1,h2,h3,h4⟩<;>unfold ZG<;>omega
  have s2:ZG c d:=by rcases z1 with ⟨h1,h2,h3,h4⟩|⟨h1,h2,h3,h4⟩<;>unfold ZG<;>omega
  (repeat' ((first|(apply A9<;>intro hc<;>try omega)|(apply DQ;omega)|(apply EM;omega)|apply BT|(refine CN (by assumption) ?_ rfl ?_;omega)|apply A2|refine AP (Lr) ?_|refine AP (iq _) ?_|refine AP (jg _) ?_|refine AP (hrc) ?_|refine AP (qf a b A s1 hA.symm (by omega) _ _) ?_|refine AP (qf c d B s2 hB.symm (by omega) _ _) ?_)<;>conv=>whnf))
  rw[hA,hB]at g4;rw[hA,hB]at g2;refine ⟨_,?_,A,B,⟨by omega,by omega,by omega,by simpa using g4⟩,rfl⟩;(conv=>whnf)
  exact BV rfl (jD _ _)
theorem AdE (N:c7 L) (X Y:Nat) (yj:Y<=X) (lx:(dg X).length<=549755813888) :
 AJ L [It.lp L2.l1,It.c9 0,
   It.code
    ((((DD.ops L2.r6 false).dr [23,30,31] []).seq
       (DD.cond 32 (((DD.ops L2.r7 false).dr [5,6,32,33] []).seq DD.ret) DD.skip)).seq
     (((DD.ops L2.r8 false).dr [5,7,32,34,35,36,37,38,39] []).seq
      (((DD.ops L2.r9 false).dr [6,8,40,41,42,43] []).seq
       ((DD.block 2 L2.l2.loop).seq
        (((DD.ops L2.o9 false).dr [9,10,45,50,51,52,53,54,55,56] []).seq DD.ret)))))]
  [(6,AV.sl false (List.map BF (dg Y))),(5,AV.sl false (List.map BF (dg X)))] []
  (YB L2 (AV.sl false (List.map BF (dg (X.gcd Y))))):=by
 refine IX (λ_ y=>y) (λ(x y:Nat)=>y<=x/\(dg x).length<=549755813888/\Nat.gcd x y=Nat.gcd X Y) (λ x y=>[(6,AV.sl false (List.map BF (dg y))),(5,AV.sl false (List.map BF (dg x)))]) (λ_ _=>[]) X Y ⟨yj,lx,rfl⟩ ?_;intro x y ⟨p1,p2,p3⟩ ih;rw[<-p3]at ih ⊢;generalize Nat.gcd X Y=G at *;clear yj lx;subst p3;have hlen:=ZU p1;by_cases h3:3<=(dg y).length
 ·obtain ⟨r,hr,A,B,⟨k1,k2,k3,k4⟩,rfl⟩:=Amk N x y p1 h3 p2
  have k5:=ZU k3;(repeat' ((first|(apply A9<;>intro hc<;>try omega)|apply BT|apply A2|refine AP (hr) ?_)<;>conv=>whnf))
  exact CZ [] (ih A B k1 ⟨k2,by omega,k4⟩)
 ·clear ih
  by_cases h0:y=0
  ·subst h0
   have vf:(dg 0).length=0:=by rw[JL];rfl
   (repeat' ((first|(apply A9<;>intro hc<;>try omega)|apply BT|apply A2)<;>conv=>whnf))
   rw[Nat.gcd_zero_right];exact BV rfl (by simp only[B3,true_and];exact GC _)
  ·have hp:=jM h0
   have hm:=ZU (Nat.le_of_lt (Nat.mod_lt x (show y>0 by omega)));have hd:=λ q q'=>vB N x y q q' h0 p2 (by omega)
   have Ed:=λ q=>AcM N y q (by omega)
   have Cj:=λ q=>AcM N (x%y) q (by omega)
   have hb:y<18446744073709551616:=W9.1 (show (dg y).length<=2 by omega);have wy:x%y<y:=Nat.mod_lt _ (by omega);rw[<-kJ x y];(repeat' ((first|(apply A9<;>intro hc<;>try omega)|apply BT|apply A2|refine AP (hd _ _) ?_|refine AP (Ed _) ?_|refine AP (Cj _) ?_)<;>conv=>whnf))
   refine dO (λ_ q=>q) (λ(p q:Nat)=>p<18446744073709551616/\q<18446744073709551616/\Nat.gcd p q=Nat.gcd y (x%y)) (λ p q=>[(9,.int .u64 (p:Int)),(10,.int .u64 (q:Int))]) (λ_ _=>[]) [] [] y (x%y) (by (conv=>whnf);exact ⟨rfl,rfl,rfl⟩) ⟨hb,by omega,rfl⟩ ?_;intro p q ⟨g1,g2,g3⟩ ih;rw[<-g3]at ih ⊢;by_cases hq:q=0
   ·subst hq
    clear ih;obtain ⟨v1,v2⟩:=uA g1;rw[Nat.gcd_zero_right];have iq:=JB v2;have ht:=lX v2;rw[v1]at iq ht;(repeat' ((first|(apply A9<;>intro hc<;>try omega)|apply J2|(apply II;omega)|apply KQ|apply A2)<;>conv=>whnf))
    generalize p%4294967296=lo at *;generalize p/4294967296=hi at *;refine mL N v2 (by simp) rfl rfl ?_;rw[v1];(conv=>whnf)
    skip
    refine M9 (enc:=BF) (l:=[lo,hi]) (λ_=>rfl) (by omega) ?_;(conv=>whnf)
    refine BV ?_ (by simp only[B3,true_and];exact GC _);rw[List.drop_zero,ht]
   ·have hpq:p%q<q:=Nat.mod_lt _ (by omega)
    (repeat' ((first|(apply A9<;>intro hc<;>try omega)|(apply iQ;omega)|apply A2)<;>conv=>whnf))
    exact CZ [] (ih q (p%q) hpq ⟨g2,by omega,kJ p q⟩)
theorem Amf (N:c7 L) (a b:List Nat) (q1 q2:Bool) (hA:B9 a) (hB:B9 b) (la:a.length<=549755813888) (lb:b.length<=549755813888) :
  Ev L 82 [.sl q1 (a.map BF),.sl q2 (b.map BF)] (.sl false ((dg (Nat.gcd (val a) (val b))).map BF)):=by
 have t1:=λ q=>jT N a q hA (by omega)
 have t2:=λ q=>jT N b q hB (by omega)
 have l1:=JB hA;have l2:=JB hB;have n0:=λ q q'=>YN N (dg (val a)) (dg (val b)) q q' (HW _) (HW _) (by omega) (by omega)
 rw[EA,EA]at n0;generalize val a=X at *;generalize val b=Y at *;refine Ev.x N.L2 rfl rfl ?_;by_cases l7:X<Y
 ·have hn:GS X Y = -1:=(NT (by omega)).symm
  rw[hn]at n0;(repeat' ((first|(apply A9<;>intro hc<;>try omega)|apply A2|refine AP (t1 _) ?_|refine AP (t2 _) ?_|refine AP (n0 _ _) ?_)<;>conv=>whnf))
  rw[Nat.gcd_comm];exact DP [] (by (conv=>whnf);exact ⟨rfl,rfl,rfl⟩) (AdE N Y X (by omega) (by omega))
 ·have ud:0<=GS X Y:=by unfold GS;split<;>(try split)<;>omega
  generalize GS X Y=cm at *;(repeat' ((first|(apply A9<;>intro hc<;>try omega)|apply A2|refine AP (t1 _) ?_|refine AP (t2 _) ?_|refine AP (n0 _ _) ?_)<;>conv=>whnf))
  exact DP [] (by (conv=>whnf);exact ⟨rfl,rfl,rfl⟩) (AdE N X Y (by omega) (by omega))
end Go.b8
namespace Go.b8
open F
attribute [local irreducible] AJ A3 BU AU FE BR C1 CK DS DE FA G7 DR B2 EH E5 AL CQ BC pw FM E2 F7 G8 GX EG FK EE FZ
variable {L:Lib}
set_option maxHeartbeats 4000000
theorem Aib {k:Nat} {K:Int->Prop} (h:0<k/\k<=9223372036854775808) (hk:K ((18446744073709551616-k:Nat):Int)):B6 .u64 (-(k:Int)) K:=by
 refine ⟨?_⟩;have e:IntKind.u64.wrap (-(k:Int))=((18446744073709551616-k:Nat):Int):=by
  simp [IntKind.wrap,IntKind.bits,IntKind.signed];omega
 rw[e];exact hk
theorem FE.Nb {k:Nat} {K:AV->Prop} (h:0<k/\k<=9223372036854775808) (hk:K (.int .u64 (k:Int))):FE .neg .u64 ((18446744073709551616-k:Nat):Int) K:=by
 refine FE.go (v := .int .u64 (IntKind.u64.wrap (0-((18446744073709551616-k:Nat):Int)))) rfl ?_;have e:IntKind.u64.wrap (0-((18446744073709551616-k:Nat):Int))=(k:Int):=by
  simp [IntKind.wrap,IntKind.bits,IntKind.signed];omega
 rw[e];exact hk
theorem uX (N:a5 L) (z:Int) (hz : -9223372036854775808<=z/\z<=9223372036854775807):Ev L 85 [.int .i64 z] (.agg (eZ z)):=by
 have two : ∀ k:Nat,k<18446744073709551616 -> ∀ q,Ev L 66 [.sl q [[.int .u32 ((k%4294967296:Nat):Int)],[.int .u32 ((k/4294967296:Nat):Int)]]] (.sl false ((dg k).map BF)):=λ k hk q=>by
  have:=jT N.toc7 [k%4294967296,k/4294967296] q (uA hk).2 (by simp)
  rw[AgZ hk]at this;exact this
 refine Ev.x N.RE rfl rfl ?_;by_cases h0:0<=z
 ·obtain ⟨k,rfl⟩:=Int.eq_ofNat_of_zero_le h0
  have hT:=two k (by omega);have z1:=NV k;(repeat' ((first|(apply A9<;>intro hc<;>try omega)|apply J2|(apply EM;omega)|(apply II;omega)|apply KQ|refine ON rfl rfl ?_|apply A2)<;>conv=>whnf))
  generalize k%4294967296=lo at *;generalize k/4294967296=hi at *;(repeat' (refine AP (hT _) ?_<;>conv=>whnf))
  refine JV 1000 N.G9 rfl rfl ?_;(repeat' (apply A2<;>conv=>whnf))
  all_goals (refine ⟨rfl,?_⟩;(conv=>whnf);skip)
  exact BV (I0 (by omega) (LR (by omega))) (HH _)
 ·obtain ⟨k,hk⟩:=Int.eq_ofNat_of_zero_le (show 0 <= -z by omega)
  obtain rfl:z = -(k:Int):=by omega
  have hT:=two k (by omega);have z1:=NV k;(repeat' (apply A2<;>conv=>whnf))
  refine Aib (by omega) ?_;(conv=>whnf)
  (repeat' ((first|(apply A9<;>intro hc<;>try omega)|fail)<;>conv=>whnf))
  refine FE.Nb (by omega) ?_;(conv=>whnf)
  (repeat' ((first|(apply A9<;>intro hc<;>try omega)|apply J2|(apply II;omega)|apply KQ|refine ON rfl rfl ?_)<;>conv=>whnf))
  generalize k%4294967296=lo at *;generalize k/4294967296=hi at *;(repeat' (refine AP (hT _) ?_<;>conv=>whnf))
  refine JV 1000 N.G9 rfl rfl ?_;(repeat' ((first|(apply A9<;>intro hc<;>try omega)|apply BT|apply A2)<;>conv=>whnf))
  all_goals (refine ⟨rfl,?_⟩;(conv=>whnf);skip)
  exact BV (I0 (by omega) (V5 (by omega))) (HH _)
theorem AcF (N:a5 L) (n q:Bool) (m:List Nat) (hm:Sm 549755813888 m):Ev L 84 [.agg (rZ q n m)] (.agg (eZ (zv n m))):=by
 have hT:=λ q=>jT N.toc7 m q hm.1 (by have:=hm.2;omega)
 have hz:=NV (val m);have ha:=JG n m;refine Ev.x N.RI rfl rfl ?_;cases n
 ·rw[I7]at *
  (repeat' ((first|apply A2|refine AP (hT _) ?_)<;>conv=>whnf))
  refine JV 1000 N.G9 rfl rfl ?_;(repeat' (apply A2<;>conv=>whnf))
  all_goals (refine ⟨rfl,?_⟩;(conv=>whnf);skip)
  exact BV (I0 ha.symm (LR (by omega))) (HH _)
 ·rw[X5]at *
  (repeat' ((first|apply A2|refine AP (hT _) ?_)<;>conv=>whnf))
  refine JV 1000 N.G9 rfl rfl ?_;(repeat' ((first|(apply A9<;>intro hc<;>try omega)|apply BT|apply A2)<;>conv=>whnf))
  all_goals (refine ⟨rfl,?_⟩;(conv=>whnf);skip)
  ·exact BV (I0 ha.symm (V5 (by omega))) (HH _)
  ·exact BV (I0 ha.symm (LR (by omega))) (HH _)
theorem oN (N:a5 L) (n q:Bool) (m:List Nat) (hm:Sm 549755813888 m):Ev L 86 [.agg (rZ q n m)] (.int .i64 (v9 (zv n m))):=by
 have n0:=λ q q'=>YN N.toc7 m [] q q' hm.1 eH (by have:=hm.2;omega) (by simp)
 rw[OH]at n0;refine Ev.x N.RF rfl rfl ?_;by_cases h0:val m=0
 ·have hn:GS (val m) (0:Nat)=0:=(bF (by omega)).symm
  rw[hn]at n0;(repeat' ((first|(apply A9<;>intro hc<;>try omega)|apply A2|refine AP (n0 _ _) ?_)<;>conv=>whnf))
  exact ET (qV (by have:=JG n m;omega))
 ·have hn:GS (val m) (0:Nat)=1:=(W8 (by omega)).symm
  rw[hn]at n0;cases n
  ·(repeat' ((first|(apply A9<;>intro hc<;>try omega)|apply A2|refine AP (n0 _ _) ?_)<;>conv=>whnf))
   exact ET (zG (by rw[I7];omega))
  ·(repeat' ((first|(apply A9<;>intro hc<;>try omega)|apply A2|refine AP (n0 _ _) ?_)<;>conv=>whnf))
   exact ET (zF (by rw[X5];omega))
theorem AcD (N:a5 L) (n1 n2 q1 q2:Bool) (a b:List Nat) (ha:Sm 549755813888 a) (hb:Sm 549755813888 b):Ev L 87 [.agg (rZ q1 n1 a),.agg (rZ q2 n2 b)] (.agg (eZ (zv n1 a+zv n2 b))):=by
 have la:=ha.2;have lb:=hb.2;have h1:=λ q q'=>Ame N.toc7 a b q q' ha.1 hb.1 (by omega) (by omega)
 have h2:=λ q q'=>AcK N.toc7 a b q q' ha.1 hb.1 (by omega) (by omega)
 have h3:=λ q q'=>AcK N.toc7 b a q q' hb.1 ha.1 (by omega) (by omega)
 have n0:=λ q q'=>YN N.toc7 a b q q' ha.1 hb.1 (by omega) (by omega)
 have z1:=NV (val a+val b);have z2:=NV (val a-val b);have z3:=NV (val b-val a);refine Ev.x N.RA rfl rfl ?_;by_cases l7:val a<val b
 ·have hn:GS (val a) (val b) = -1:=(NT (by omega)).symm
  rw[hn]at n0;cases n1<;>cases n2<;>simp only[I7,X5]
  ·(repeat' ((first|apply A2|refine AP (h1 _ _) ?_)<;>conv=>whnf))
   refine JV 1000 N.G9 rfl rfl ?_;(repeat' (apply A2<;>conv=>whnf))
   all_goals (refine ⟨rfl,?_⟩;(conv=>whnf);skip)
   exact BV (I0 (by omega) (LR (by omega))) (HH _)
  ·(repeat' ((first|(apply A9<;>intro hc<;>try omega)|apply A2|refine AP (h3 _ _) ?_|refine AP (n0 _ _) ?_)<;>conv=>whnf))
   refine JV 1000 N.G9 rfl rfl ?_;(repeat' ((first|(apply A9<;>intro hc<;>try omega)|apply BT|apply A2)<;>conv=>whnf))
   all_goals (refine ⟨rfl,?_⟩;(conv=>whnf);skip)
   ·exact BV (I0 (by omega) (V5 (by omega))) (HH _)
  ·(repeat' ((first|(apply A9<;>intro hc<;>try omega)|apply A2|refine AP (h3 _ _) ?_|refine AP (n0 _ _) ?_)<;>conv=>whnf))
   refine JV 1000 N.G9 rfl rfl ?_;(repeat' (apply A2<;>conv=>whnf))
   all_goals (refine ⟨rfl,?_⟩;(conv=>whnf);skip)
   ·exact BV (I0 (by omega) (LR (by omega))) (HH _)
  ·(repeat' ((first|apply A2|refine AP (h1 _ _) ?_)<;>conv=>whnf))
   refine JV 1000 N.G9 rfl rfl ?_;(repeat' ((first|(apply A9<;>intro hc<;>try omega)|apply BT|apply A2)<;>conv=>whnf))
   all_goals (refine ⟨rfl,?_⟩;(conv=>whnf);skip)
   ·exact BV (I0 (by omega) (V5 (by omega))) (HH _)
 ·have hn:GS (val a) (val b) ≠ -1:=by unfold GS;split<;>(try split)<;>omega
  generalize GS (val a) (val b)=cm at *;cases n1<;>cases n2<;>simp only[I7,X5]
  ·(repeat' ((first|apply A2|refine AP (h1 _ _) ?_)<;>conv=>whnf))
   refine JV 1000 N.G9 rfl rfl ?_;(repeat' (apply A2<;>conv=>whnf))
   all_goals (refine ⟨rfl,?_⟩;(conv=>whnf);skip)
   exact BV (I0 (by omega) (LR (by omega))) (HH _)
  ·(repeat' ((first|(apply A9<;>intro hc<;>try omega)|apply A2|refine AP (h2 _ _) ?_|refine AP (n0 _ _) ?_)<;>conv=>whnf))
   refine JV 1000 N.G9 rfl rfl ?_;(repeat' (apply A2<;>conv=>whnf))
   all_goals (refine ⟨rfl,?_⟩;(conv=>whnf);skip)
   exact BV (I0 (by omega) (LR (by omega))) (HH _)
  ·(repeat' ((first|(apply A9<;>intro hc<;>try omega)|apply A2|refine AP (h2 _ _) ?_|refine AP (n0 _ _) ?_)<;>conv=>whnf))
   refine JV 1000 N.G9 rfl rfl ?_;(repeat' ((first|(apply A9<;>intro hc<;>try omega)|apply BT|apply A2)<;>conv=>whnf))
   all_goals (refine ⟨rfl,?_⟩;(conv=>whnf);skip)
   ·exact BV (I0 (by omega) (V5 (by omega))) (HH _)
   ·exact BV (I0 (by omega) (LR (by omega))) (HH _)
  ·(repeat' ((first|apply A2|refine AP (h1 _ _) ?_)<;>conv=>whnf))
   refine JV 1000 N.G9 rfl rfl ?_;(repeat' ((first|(apply A9<;>intro hc<;>try omega)|apply BT|apply A2)<;>conv=>whnf))
   all_goals (refine ⟨rfl,?_⟩;(conv=>whnf);skip)
   ·exact BV (I0 (by omega) (V5 (by omega))) (HH _)
   ·exact BV (I0 (by omega) (LR (by omega))) (HH _)
theorem bP (N:a5 L) (n1 n2 q1 q2:Bool) (a b:List Nat) (ha:B9 a) (hb:B9 b) (hl:a.length+b.length<=1099511627776):Ev L 88 [.agg (rZ q1 n1 a),.agg (rZ q2 n2 b)] (.agg (eZ (zv n1 a*zv n2 b))):=by
 have h1:=λ q q'=>uZ N.toc7 a b q q' ha hb hl
 have z1:=NV (val a*val b);have Tj:(zv n1 a*zv n2 b).natAbs=val a*val b:=by rw[Int.natAbs_mul,JG,JG]
 refine Ev.x N.RC rfl rfl ?_;have e:zv n1 a*zv n2 b=bif n1 == n2 then ((val a*val b:Nat):Int) else -((val a*val b:Nat):Int):=by
  cases n1<;>cases n2<;>simp [I7,X5,Int.mul_neg,Int.neg_mul]
 rw[e]at Tj ⊢;generalize val a*val b=V at *;cases n1<;>cases n2<;>simp only[beq_self_eq_true,cond_true,show (false == true)=false from rfl,show (true == false)=false from rfl,cond_false]
 ·(repeat' ((first|apply A2|refine AP (h1 _ _) ?_)<;>conv=>whnf))
  refine JV 1000 N.G9 rfl rfl ?_;(repeat' (apply A2<;>conv=>whnf))
  all_goals (refine ⟨rfl,?_⟩;(conv=>whnf);skip)
  exact BV (I0 (by omega) (LR (by omega))) (HH _)
 ·(repeat' ((first|apply A2|refine AP (h1 _ _) ?_)<;>conv=>whnf))
  refine JV 1000 N.G9 rfl rfl ?_;(repeat' ((first|(apply A9<;>intro hc<;>try omega)|apply BT|apply A2)<;>conv=>whnf))
  all_goals (refine ⟨rfl,?_⟩;(conv=>whnf);skip)
  ·exact BV (I0 (by omega) (V5 (by omega))) (HH _)
  ·exact BV (I0 (by omega) (LR (by omega))) (HH _)
 ·(repeat' ((first|apply A2|refine AP (h1 _ _) ?_)<;>conv=>whnf))
  refine JV 1000 N.G9 rfl rfl ?_;(repeat' ((first|(apply A9<;>intro hc<;>try omega)|apply BT|apply A2)<;>conv=>whnf))
  all_goals (refine ⟨rfl,?_⟩;(conv=>whnf);skip)
  ·exact BV (I0 (by omega) (V5 (by omega))) (HH _)
  ·exact BV (I0 (by omega) (LR (by omega))) (HH _)
 ·(repeat' ((first|apply A2|refine AP (h1 _ _) ?_)<;>conv=>whnf))
  refine JV 1000 N.G9 rfl rfl ?_;(repeat' (apply A2<;>conv=>whnf))
  all_goals (refine ⟨rfl,?_⟩;(conv=>whnf);skip)
  exact BV (I0 (by omega) (LR (by omega))) (HH _)
theorem uC:dg 1=[1]:=by rw[OR (by omega)];simp [JL]
theorem Al8 (N:a5 L) (V:Nat) (q:Bool):Ev L 90 [.sl q ((dg V).map BF)] (.bool (decide (V=1))):=by
 have hv:=EA V;have hD:=HW V;have h1:V=1->dg V=[1]:=λ h=>by rw[h,uC]
 generalize dg V=l at *;refine Ev.x N.UD rfl rfl ?_;by_cases hl:l.length=1
 ·obtain ⟨d,rfl⟩:=List.length_eq_one_iff.1 hl
  have e:V=d:=by rw[<-hv];simp [val]
  subst e;have hd:[V][(0:Int).toNat]? = some V:=rfl;(repeat' ((first|(apply A9<;>intro hc<;>try omega)|apply BT|(refine CN (by assumption) ?_ rfl ?_;omega)|apply A2)<;>conv=>whnf))
  ·exact aQ (by omega)
  ·exact ZH (by omega)
 ·(repeat' ((first|(apply A9<;>intro hc<;>try omega)|apply BT|apply A2)<;>conv=>whnf))
  exact ZH (λ h=>by rw[h1 h]at hl;simp at hl)
theorem eK (N:a5 L) (n q1 q2:Bool) (m d:List Nat) (hm:Sm 549755813888 m) (hd:Sm 549755813888 d) (h0:val d≠0):Ev L 94 [.agg (rQ q1 q2 n m d)] (.agg (eQ (qv n m d))):=by
 have Ho:=λ q q'=>uY N.toc7 m d q q' hm.1 hd.1 hm.2 hd.2 h0
 have Ps:=JG n m;have sq:Sm 549755813888 (dg (val m/val d)):=hm.low (Nat.div_le_self _ _);have sr:Sm 549755813888 (dg (val m%val d)):=hd.low (Nat.le_of_lt (Nat.mod_lt _ (by omega)));have hT:=λ q=>AcF N n q _ sq
 have hG:=λ q q'=>Amf N.toc7 d (dg (val m%val d)) q q' hd.1 sr.1 hd.2 sr.2
 rw[EA,show Nat.gcd (val d) (val m%val d)=Nat.gcd (val d) (zv n m).natAbs by rw[Ps,kJ,Nat.gcd_comm]]at hG;have Up:=AdF (zv n m).natAbs h0;have Ib:=Nat.gcd_le_left (zv n m).natAbs (show 0<val d by omega);have hz:=NV (val m%val d);obtain ⟨e1,e2,e3⟩:=xK (z:=zv n m) h0;unfold qv;generalize hGG:Nat.gcd (val d) (zv n m).natAbs=g at *;have h1:=λ q=>Al8 N g q
 refine Ev.x N.UF rfl rfl ?_;by_cases sj:val m%val d=0
 ·(repeat' ((first|(apply A9<;>intro hc<;>try omega)|apply BT|apply A2|refine AP (Ho _ _) ?_|refine AP (hT _) ?_)<;>conv=>whnf))
  refine JV 1000 N.MZ rfl rfl ?_;(repeat' (apply A2<;>conv=>whnf))
  refine ⟨rfl,?_⟩;(conv=>whnf)
  (repeat' (refine J4 rfl ?_<;>conv=>whnf))
  have ud:g=val d:=by
   rw[<-hGG,Ps];exact Nat.gcd_eq_left (Nat.dvd_of_mod_eq_zero sj)
  have hv:=EA (val m/val d);refine BV ?_ ?_
  ·show _=AV.agg (rQ _ _ _ _ _)
   rw[e1,e2,e3,Ps,ud,Nat.div_self (by omega),JG,hv,uC];have hs:decide (zv n (dg (val m/val d))<0)=decide (zv n m<0):=by
    cases n
    ·rw[I7,I7];simp;omega
    ·rw[X5,X5,hv]
     congr 1;rw[eq_iff_iff];have h5:=Nat.div_add_mod (val m) (val d);rw[sj,Nat.add_zero]at h5;constructor
     ·intro h6
      have h7:val m/val d≠0:=by omega
      have:val m≠0:=λ h8=>h7 (by rw[h8,Nat.zero_div])
      omega
     ·intro h6
      have h7:val m/val d≠0:=λ h8=>by rw[h8,Nat.mul_zero]at h5;omega
      omega
   rw[hs];rfl
  ·exact GD _
 ·by_cases Fw:g=1
  ·have hT1:=λ q=>AcF N n q m hm
   have Ny:=λ q=>jT N.toc7 d q hd.1 (by have:=hd.2;omega)
   (repeat' ((first|(apply A9<;>intro hc<;>try omega)|apply BT|apply A2|refine AP (Ho _ _) ?_|refine AP (hG _ _) ?_|refine HV (h1 _) (λ hf => ?_) (λ hf => ?_)|refine AP (hT1 _) ?_|refine AP (Ny _) ?_)<;>conv=>whnf))
   ·refine BV ?_ (nP _ _ _)
    show _=AV.agg (rQ _ _ _ _ _);rw[e1,e2,e3,Fw,Nat.div_one,Nat.div_one]
   ·exact absurd Fw hf
  ·have sg:Sm 549755813888 (dg g):=hd.low Ib
   have yh:=λ q q'=>uY N.toc7 m (dg g) q q' hm.1 sg.1 hm.2 sg.2 (by rw[EA];omega)
   have ny:=λ q q'=>uY N.toc7 d (dg g) q q' hd.1 sg.1 hd.2 sg.2 (by rw[EA];omega)
   rw[EA]at yh ny;(repeat' ((first|(apply A9<;>intro hc<;>try omega)|apply BT|apply A2|refine AP (Ho _ _) ?_|refine AP (hG _ _) ?_|refine HV (h1 _) (λ hf => ?_) (λ hf => ?_)|refine AP (yh _ _) ?_|refine AP (ny _ _) ?_)<;>conv=>whnf))
   ·exact absurd hf Fw
   ·refine BV ?_ (nP _ _ _)
    show _=AV.agg (rQ _ _ _ _ _);rw[e1,e2,e3,Ps];have hs:n=decide (zv n m<0):=by
     have:val m≠0:=λ h=>sj (by rw[h,Nat.zero_mod])
     cases n
     ·exact LR (by rw[I7];omega)
     ·exact V5 (by rw[X5];omega)
    rw[<-hs]
theorem eL (N:a5 L) (m:List Nat):Ev L 91 [.sl false (m.map BF)] (.agg [.bool false,.sl false (m.map BF)]):=by
 refine Ev.x N.UE rfl rfl ?_;(repeat' (apply A2<;>conv=>whnf))
 exact BV rfl (Abm _ _)
def Aiu (n:Bool) (m d:List Nat) (n':Bool) (m' d':List Nat) (w:Bool) (k:Nat):Prop:=Sm k m'/\Sm k d'/\val d'≠0/\(w=true->val d'=1)/\qv n m d=mkRat (zv n' m') (val d')
theorem XF (N:a5 L) (n:Bool) (m d:List Nat) (k:Nat) (hk:1<=k/\k<=549755813888) (hm:Sm k m) (hd:Sm k d) : ∃ n' m' d' w,Ev L 89 [.agg (rQ false false n m d)] (.agg [.bool n',.sl false (m'.map BF),.sl false (d'.map BF),.bool w])/\Aiu n m d n' m' d' w k:=by
 have n0:=λ q q'=>YN N.toc7 d [] q q' hd.1 eH (by have:=hd.2;omega) (by simp)
 rw[OH]at n0;by_cases h1:d=[1]
 ·subst h1
  refine ⟨n,m,[1],true,?_,hm,hd,by decide,λ_=>rfl,rfl⟩;refine Ev.x N.N3 rfl rfl ?_;have hd:[1][(0:Int).toNat]? = some 1:=rfl;have zl:([1]:List Nat).length=1:=rfl;(repeat' ((first|(apply A9<;>intro hc<;>try omega)|apply BT|(refine CN (by assumption) ?_ rfl ?_;omega)|apply A2)<;>conv=>whnf))
  exact BV rfl (jA _ _ _ _)
 have m7 : ∀ x,d[(0:Int).toNat]? = some x->(d.length:Int)=1->(x:Int)≠1:=λ x hx hl h=>by
  obtain ⟨y,rfl⟩:=List.length_eq_one_iff.1 (show d.length=1 by omega);simp at hx;apply h1;congr 1;omega
 by_cases h0:val d=0
 ·refine ⟨false,[],[1],true,?_,AfW _,zJ hk.1 (by omega),by decide,λ_=>rfl,by unfold qv;rw[h0,Rat.mkRat_zero,Aho,Rat.zero_mkRat]⟩
  have hn:GS (val d) (0:Nat)=0:=(bF (by omega)).symm;rw[hn]at n0;refine Ev.x N.N3 rfl rfl ?_;have hD:=hd.1;(repeat' ((first|(apply A9<;>intro hc<;>try omega)|apply BT|(refine ZJ (by assumption) ?_ (λ e he hb => ?_);omega)|refine J4 rfl ?_|apply A2|refine AP (n0 _ _) ?_)<;>conv=>whnf))
  all_goals first
   | exact BV rfl (jA _ _ _ _)
   | exact BV rfl (jA false true [] [1])
   | exact absurd (by assumption) (m7 _ he (by assumption))
 ·refine ⟨n,m,d,false,?_,hm,hd,h0,(λ h=>by cases h),rfl⟩
  have hn:GS (val d) (0:Nat)=1:=(W8 (by omega)).symm;rw[hn]at n0;have hD:=hd.1;refine Ev.x N.N3 rfl rfl ?_;(repeat' ((first|(apply A9<;>intro hc<;>try omega)|apply BT|(refine ZJ (by assumption) ?_ (λ e he hb => ?_);omega)|apply A2|refine AP (n0 _ _) ?_)<;>conv=>whnf))
  all_goals first
   | exact BV rfl (jA _ _ _ _)
   | exact BV rfl (jA false true [] [1])
   | exact absurd (by assumption) (m7 _ he (by assumption))
theorem vH (N:a5 L) (n q1 q2:Bool) (m d:List Nat) (hm:Sm 549755813888 m) (hd:Sm 549755813888 d):Ev L 95 [.agg (rQ q1 q2 n m d)] (.agg (eQ (qv n m d))):=by
 obtain ⟨n',m',d',w,hr,s1,s2,s3,s4,s5⟩:=XF N n m d 549755813888 (by omega) hm hd;have hl:=λ q1 q2=>eK N n' q1 q2 m' d' s1 s2 s3
 rw[s5];unfold qv at hl;refine Ev.x N.UB rfl rfl ?_;(repeat' ((first|apply L9|apply A2|refine AP (hr) ?_|refine AP (hl _ _) ?_)<;>conv=>whnf))
 exact BV rfl (GD _)
theorem Ac7 (N:a5 L) (n q1 q2:Bool) (m d:List Nat) (hm:Sm 549755813888 m) (hd:Sm 549755813888 d):Ev L 97 [.agg (rQ q1 q2 n m d)] (.int .i64 (v9 (qv n m d).num)):=by
 obtain ⟨n',m',d',w,hr,s1,s2,s3,s4,s5⟩:=XF N n m d 549755813888 (by omega) hm hd;have hl:=λ q=>oN N n' q m' s1
 rw[s5,AeM s3];refine Ev.x N.T7 rfl rfl ?_;(repeat' ((first|apply L9|apply A2|refine AP (hr) ?_|refine AP (hl _) ?_)<;>conv=>whnf))
 exact ET rfl
theorem sU (z:Int):AV.agg [.bool (decide (z<0)),.sl false ((dg z.natAbs).map BF),.sl false [[.int .u32 1]]] = .agg (eQ (z:Rat)):=by
 show _=AV.agg (rQ _ _ _ _ _);rw[Rat.num_intCast,Rat.den_intCast,uC];rfl
theorem IV (N:a5 L) (z:Int) (hz : -9223372036854775808<=z/\z<=9223372036854775807):Ev L 96 [.int .i64 z] (.agg (eQ (z:Rat))):=by
 have h1:=uX N z hz;refine Ev.x N.T6 rfl rfl ?_;(repeat' ((first|apply A2|refine AP (h1) ?_)<;>conv=>whnf))
 refine JV 1000 N.MZ rfl rfl ?_;(repeat' (apply A2<;>conv=>whnf))
 refine ⟨rfl,?_⟩;(conv=>whnf)
 (repeat' (refine J4 rfl ?_<;>conv=>whnf))
 exact BV (sU z) (GD _)
theorem cY {k l:Nat} {n1 n2:Bool} {a b:List Nat} (ha:Sm k a) (hb:Sm l b):Sm (k+l) (dg (zv n1 a*zv n2 b).natAbs):=ha.mul hb (by rw[Int.natAbs_mul,JG,JG])
theorem AfY {k:Nat} {x y:Int} (ha:Sm k (dg x.natAbs)) (hb:Sm k (dg y.natAbs)):Sm (k+1) (dg (x+y).natAbs):=ha.add hb (by rw[EA,EA];omega)
theorem Ac5 (N:a5 L) (k:Nat) (hk:1<=k/\k<=68719476736) (n1 n2 q1 q2 q3 q4:Bool) (m1 d1 m2 d2:List Nat) (ki:Sm k m1) (qi:Sm k d1) (er:Sm k m2) (va:Sm k d2) :
  Ev L 98 [.agg (rQ q1 q2 n1 m1 d1),.agg (rQ q3 q4 n2 m2 d2)] (.agg (eQ (qv n1 m1 d1+qv n2 m2 d2))):=by
 obtain ⟨a1,a2,a3,w1,gd,s1,s2,s3,s4,s5⟩:=XF N n1 m1 d1 k (by omega) ki qi;obtain ⟨b1,b2,b3,w2,ct,t1,t2,t3,t4,t5⟩:=XF N n2 m2 d2 k (by omega) er va;rw[s5,t5];have hA:=λ q q'=>AcD N a1 b1 q q' a2 b2 (s1.le (by omega)) (t1.le (by omega))
 have mi:Sm (k+1) (dg (zv a1 a2+zv b1 b2).natAbs):=AfY (by rw[JG];exact s1.Bc) (by rw[JG];exact t1.Bc);by_cases hw:w1=true/\w2=true
 ·obtain ⟨rfl,rfl⟩:=hw
  rw[s4 rfl,t4 rfl,AeJ (by omega),AeL];generalize zv a1 a2+zv b1 b2=z at *;refine Ev.x N.N2 rfl rfl ?_;(repeat' ((first|apply L9|apply A2|refine AP (gd) ?_|refine AP (ct) ?_|refine AP (hA _ _) ?_)<;>conv=>whnf))
  refine JV 1000 N.MZ rfl rfl ?_;(repeat' (apply A2<;>conv=>whnf))
  refine ⟨rfl,?_⟩;(conv=>whnf)
  (repeat' (refine J4 rfl ?_<;>conv=>whnf))
  exact BV (sU z) (GD _)
 ·have n0:=λ q q'=>YN N.toc7 a3 b3 q q' s2.1 t2.1 (by have:=s2.2;omega) (by have:=t2.2;omega)
  by_cases hde:val a3=val b3
  ·have hn:GS (val a3) (val b3)=0:=(bF (by omega)).symm
   rw[hn]at n0;rw[<-hde,AeJ s3];generalize zv a1 a2+zv b1 b2=z at *;have hl:=λ q1 q2=>eK N (decide (z<0)) q1 q2 (dg z.natAbs) a3 (mi.le (by omega)) (s2.le (by omega)) s3
   unfold qv at hl;rw[J1]at hl;refine Ev.x N.N2 rfl rfl ?_;cases w1<;>cases w2
   ·(repeat' ((first|(apply A9<;>intro hc<;>try omega)|apply L9|apply A2|refine AP (gd) ?_|refine AP (ct) ?_|refine AP (hA _ _) ?_|refine AP (n0 _ _) ?_|refine AP (hl _ _) ?_)<;>conv=>whnf))
    exact BV rfl (GD _)
   ·(repeat' ((first|(apply A9<;>intro hc<;>try omega)|apply L9|apply A2|refine AP (gd) ?_|refine AP (ct) ?_|refine AP (hA _ _) ?_|refine AP (n0 _ _) ?_|refine AP (hl _ _) ?_)<;>conv=>whnf))
    exact BV rfl (GD _)
   ·(repeat' ((first|(apply A9<;>intro hc<;>try omega)|apply L9|apply A2|refine AP (gd) ?_|refine AP (ct) ?_|refine AP (hA _ _) ?_|refine AP (n0 _ _) ?_|refine AP (hl _ _) ?_)<;>conv=>whnf))
    exact BV rfl (GD _)
   ·exact absurd ⟨rfl,rfl⟩ hw
  ·have hn:GS (val a3) (val b3)≠0:=by unfold GS;split<;>(try split)<;>omega
   generalize GS (val a3) (val b3)=cm at *;have ju:=λ q q'=>bP N a1 false q q' a2 b3 s1.1 t2.1 (by have:=s1.2;have:=t2.2;omega)
   have nb:=λ q q'=>bP N b1 false q q' b2 a3 t1.1 s2.1 (by have:=t1.2;have:=s2.2;omega)
   have vq:=λ q q'=>uZ N.toc7 a3 b3 q q' s2.1 t2.1 (by have:=s2.2;have:=t2.2;omega)
   have Ce:=eL N a3;have zo:=eL N b3;have g1:Sm (k+k) (dg (zv a1 a2*zv false b3).natAbs):=cY s1 t2;have g2:Sm (k+k) (dg (zv b1 b2*zv false a3).natAbs):=cY t1 s2;have g3:=AfY g1 g2;have g4:Sm (k+k) (dg (val a3*val b3)):=s2.mul t2 rfl;rw[pR s3 t3,<-I7 b3,<-I7 a3];have Fq:val a3*val b3≠0:=Nat.mul_ne_zero s3 t3;generalize zv a1 a2*zv false b3=x at *;generalize zv b1 b2*zv false a3=y at *;generalize val a3*val b3=D at *;have Hm:=λ q q'=>AcD N (decide (x<0)) (decide (y<0)) q q' (dg x.natAbs) (dg y.natAbs) (g1.le (by omega)) (g2.le (by omega))
   rw[J1,J1]at Hm;generalize x+y=z at *;have hl:=λ q1 q2=>eK N (decide (z<0)) q1 q2 (dg z.natAbs) (dg D) (g3.le (by omega)) (g4.le (by omega)) (by rw[EA];exact Fq)
   unfold qv at hl;rw[J1,EA]at hl;refine Ev.x N.N2 rfl rfl ?_;cases w1<;>cases w2
   ·(repeat' ((first|(apply A9<;>intro hc<;>try omega)|apply L9|apply aR|apply A2|refine AP (gd) ?_|refine AP (ct) ?_|refine AP (n0 _ _) ?_|refine AP (Ce) ?_|refine AP (zo) ?_|refine AP (ju _ _) ?_|refine AP (nb _ _) ?_|refine AP (Hm _ _) ?_|refine AP (vq _ _) ?_|refine AP (hl _ _) ?_)<;>conv=>whnf))
    exact BV rfl (GD _)
   ·(repeat' ((first|(apply A9<;>intro hc<;>try omega)|apply L9|apply aR|apply A2|refine AP (gd) ?_|refine AP (ct) ?_|refine AP (n0 _ _) ?_|refine AP (Ce) ?_|refine AP (zo) ?_|refine AP (ju _ _) ?_|refine AP (nb _ _) ?_|refine AP (Hm _ _) ?_|refine AP (vq _ _) ?_|refine AP (hl _ _) ?_)<;>conv=>whnf))
    exact BV rfl (GD _)
   ·(repeat' ((first|(apply A9<;>intro hc<;>try omega)|apply L9|apply aR|apply A2|refine AP (gd) ?_|refine AP (ct) ?_|refine AP (n0 _ _) ?_|refine AP (Ce) ?_|refine AP (zo) ?_|refine AP (ju _ _) ?_|refine AP (nb _ _) ?_|refine AP (Hm _ _) ?_|refine AP (vq _ _) ?_|refine AP (hl _ _) ?_)<;>conv=>whnf))
    exact BV rfl (GD _)
   ·exact absurd ⟨rfl,rfl⟩ hw
theorem Ac6 (N:a5 L) (k:Nat) (hk:1<=k/\k<=68719476736) (n1 n2 q1 q2 q3 q4:Bool) (m1 d1 m2 d2:List Nat) (ki:Sm k m1) (qi:Sm k d1) (er:Sm k m2) (va:Sm k d2) :
  Ev L 99 [.agg (rQ q1 q2 n1 m1 d1),.agg (rQ q3 q4 n2 m2 d2)] (.agg (eQ (qv n1 m1 d1*qv n2 m2 d2))):=by
 obtain ⟨a1,a2,a3,w1,gd,s1,s2,s3,s4,s5⟩:=XF N n1 m1 d1 k (by omega) ki qi;obtain ⟨b1,b2,b3,w2,ct,t1,t2,t3,t4,t5⟩:=XF N n2 m2 d2 k (by omega) er va;rw[s5,t5,xI];have ju:=λ q q'=>bP N a1 b1 q q' a2 b2 s1.1 t1.1 (by have:=s1.2;have:=t1.2;omega)
 have vq:=λ q q'=>uZ N.toc7 a3 b3 q q' s2.1 t2.1 (by have:=s2.2;have:=t2.2;omega)
 have g1:Sm (k+k) (dg (zv a1 a2*zv b1 b2).natAbs):=cY s1 t1;have g4:Sm (k+k) (dg (val a3*val b3)):=s2.mul t2 rfl;have Fq:val a3*val b3≠0:=Nat.mul_ne_zero s3 t3;generalize zv a1 a2*zv b1 b2=z at *;by_cases hw:w1=true/\w2=true
 ·obtain ⟨rfl,rfl⟩:=hw
  rw[s4 rfl,t4 rfl,Nat.one_mul,AeL];refine Ev.x N.PE rfl rfl ?_;(repeat' ((first|apply L9|apply A2|refine AP (gd) ?_|refine AP (ct) ?_|refine AP (ju _ _) ?_)<;>conv=>whnf))
  refine JV 1000 N.MZ rfl rfl ?_;(repeat' (apply A2<;>conv=>whnf))
  refine ⟨rfl,?_⟩;(conv=>whnf)
  (repeat' (refine J4 rfl ?_<;>conv=>whnf))
  exact BV (sU z) (GD _)
 ·generalize val a3*val b3=D at *
  have hl:=λ q1 q2=>eK N (decide (z<0)) q1 q2 (dg z.natAbs) (dg D) (g1.le (by omega)) (g4.le (by omega)) (by rw[EA];exact Fq)
  unfold qv at hl;rw[J1,EA]at hl;refine Ev.x N.PE rfl rfl ?_;cases w1<;>cases w2
  ·(repeat' ((first|apply L9|apply A2|refine AP (gd) ?_|refine AP (ct) ?_|refine AP (ju _ _) ?_|refine AP (vq _ _) ?_|refine AP (hl _ _) ?_)<;>conv=>whnf))
   exact BV rfl (GD _)
  ·(repeat' ((first|apply L9|apply A2|refine AP (gd) ?_|refine AP (ct) ?_|refine AP (ju _ _) ?_|refine AP (vq _ _) ?_|refine AP (hl _ _) ?_)<;>conv=>whnf))
   exact BV rfl (GD _)
  ·(repeat' ((first|apply L9|apply A2|refine AP (gd) ?_|refine AP (ct) ?_|refine AP (ju _ _) ?_|refine AP (vq _ _) ?_|refine AP (hl _ _) ?_)<;>conv=>whnf))
   exact BV rfl (GD _)
  ·exact absurd ⟨rfl,rfl⟩ hw
theorem jB (x:Rat) (e:Int):B3 (.g8 [.agg (eQ x),.int .i64 e]):=by
 simp only[B3,EC,and_true,true_and];exact ⟨GC _,GC _⟩
theorem AmV (N:a5 L) (k:Nat) (hk:1<=k/\k<=68719476736) (n1 n2 q1 q2 q3 q4:Bool) (m1 d1 m2 d2:List Nat) (ki:Sm k m1) (qi:Sm k d1) (er:Sm k m2) (va:Sm k d2) (h0:qv n2 m2 d2≠0) :
  Ev L 100 [.agg (rQ q1 q2 n1 m1 d1),.agg (rQ q3 q4 n2 m2 d2)] (.g8 [.agg (eQ (qv n1 m1 d1/qv n2 m2 d2)),.int .i64 0]):=by
 obtain ⟨a1,a2,a3,w1,gd,s1,s2,s3,s4,s5⟩:=XF N n1 m1 d1 k (by omega) ki qi;obtain ⟨b1,b2,b3,w2,ct,t1,t2,t3,t4,t5⟩:=XF N n2 m2 d2 k (by omega) er va;rw[t5]at h0;rw[s5,t5];have jx:zv b1 b2≠0:=λ h=>h0 ((xJ t3).2 h)
 rw[AoW s3 t3 jx];have hS:=λ q=>oN N b1 q b2 (t1.le (by omega))
 have xn:v9 (zv b1 b2)≠0:=by unfold v9;split<;>(try split)<;>omega
 have ju:=λ q q'=>bP N a1 false q q' a2 b3 s1.1 t2.1 (by have:=s1.2;have:=t2.2;omega)
 have nb:=λ q q'=>bP N false b1 q q' a3 b2 s2.1 t1.1 (by have:=t1.2;have:=s2.2;omega)
 have Ce:=eL N a3;have zo:=eL N b3;have g1:Sm (k+k) (dg (zv a1 a2*zv false b3).natAbs):=cY s1 t2;have g2:Sm (k+k) (dg (zv false a3*zv b1 b2).natAbs):=cY s2 t1;have hd:(zv false a3*zv b1 b2).natAbs=val a3*(zv b1 b2).natAbs:=by rw[Int.natAbs_mul,JG]
 have Fs:(zv false a3*zv b1 b2).sign=(zv b1 b2).sign:=by
  rw[Int.sign_mul,I7,Int.sign_eq_one_of_pos (by omega),Int.one_mul]
 have qz:zv false a3*zv b1 b2≠0:=by
  intro h;rw[h]at Fs;exact jx (by simpa using Fs.symm)
 rw[<-hd,<-Fs,<-I7 b3];generalize zv a1 a2*zv false b3=x at *;generalize zv false a3*zv b1 b2=y at *;generalize v9 (zv b1 b2)=sg at *;have hl:=λ q1 q2=>eK N (decide (x<0) != decide (y<0)) q1 q2 (dg x.natAbs) (dg y.natAbs) (g1.le (by omega)) (g2.le (by omega)) (by rw[EA];omega)
 unfold qv at hl;rw[Ahp qz,EA]at hl;refine Ev.x N.T3 rfl rfl ?_;(repeat' ((first|(apply A9<;>intro hc<;>try omega)|apply L9|apply aR|apply A2|refine AP (gd) ?_|refine AP (ct) ?_|refine AP (hS _) ?_|refine AP (Ce) ?_|refine AP (zo) ?_|refine AP (ju _ _) ?_|refine AP (nb _ _) ?_)<;>conv=>whnf))
 refine JV 1000 N.PF rfl rfl ?_;(repeat' (apply A2<;>conv=>whnf))
 generalize decide (x<0)=p at *;generalize decide (y<0)=r at *;cases p<;>cases r;all_goals
  (conv=>whnf)
  refine ⟨rfl,?_⟩;(conv=>whnf)
  (repeat' (refine AP (hl _ _) ?_<;>conv=>whnf))
  exact BV rfl (jB _ _)
end Go.b8

namespace Go.b8
open F
attribute [local irreducible] AJ A3 BU AU FE BR C1 CK DS DE FA G7 DR B2 EH E5 AL CQ BC pw FM E2 F7 G8 GX EG FK EE FZ
set_option maxHeartbeats 1000000
variable {L:Lib}
def GW (n:Int):Prop := -9223372036854775808<=n/\n<=9223372036854775807
structure Wd where
 b:Int
 f:Int
 r:Int
 o:Int
abbrev JP (w:Wd):List AV:=[.int .i64 w.b,.int .i64 w.f,.int .i64 w.r,.int .i64 w.o]
theorem oM (I:c5 L) (r:Int):Ev L 1 [.int .i64 r] (.bool (decide (1<=r/\r<=3))):=by
 refine Ev.x I.Q8 rfl rfl ?_;(repeat' ((first|(apply A9<;>intro hc<;>try omega)|apply A2)<;>conv=>whnf))
 all_goals (first|exact aQ (by omega)|exact ZH (by omega))
theorem ZZ (I:c5 L) (v a b:Int):Ev L 10 [.int .i64 v,.int .i64 a,.int .i64 b] (.bool (decide (a<=v/\v<=b))):=by
 refine Ev.x I.VD rfl rfl ?_;(repeat' ((first|(apply A9<;>intro hc<;>try omega)|apply A2)<;>conv=>whnf))
 all_goals (first|exact aQ (by omega)|exact ZH (by omega))
def WV (w:Wd):Prop:=4<=w.b/\w.b<=24/\0<=w.f/\w.f<w.b/\1<=w.r/\w.r<=3/\1<=w.o/\w.o<=2
instance (w : Wd) : Decidable (WV w) := by unfold WV; infer_instance
variable (w:Wd)
theorem XD (I:c5 L):Ev L 2 [.agg (JP w)] (.bool (decide (WV w))):=by
 refine Ev.x I.Q6 rfl rfl ?_;(repeat' ((first|(apply A9<;>intro hc<;>try omega)|apply A2|refine HV (oM I _) (λ hf => ?_) (λ hf => ?_))<;>conv=>whnf))
 all_goals (unfold WV;first|exact aQ (by omega)|exact ZH (by omega))
theorem oU (I:c5 L):Ev L 11 [.agg (JP w)] (.bool (decide (WV w))):=by
 refine Ev.x I.VF rfl rfl ?_;(repeat' ((first|(apply DQ;omega)|apply A2|refine HV (ZZ I _ _ _) (λ hf => ?_) (λ hf => ?_))<;>conv=>whnf))
 all_goals (unfold WV;first|exact aQ (by omega)|exact ZH (by omega))
def O8:Int:=if WV w then -pw (w.b-1) else 0
def H6:Int:=if WV w then pw (w.b-1)-1 else 0
theorem AcA (I:c5 L):Ev L 3 [.agg (JP w)] (.int .i64 (O8 w)):=by
 refine Ev.x I.Q1 rfl rfl ?_;by_cases hv:WV w;all_goals (
  have kj:=hv;unfold WV at kj;(repeat' ((first|(apply DQ;omega)|(refine IY ?_ (λ_ _ => ?_);omega)|apply mZ|(apply FE.neg;omega)|apply A2|refine HV (XD _ I) (λ hf => ?_) (λ hf => ?_))<;>conv=>whnf))
  all_goals (first|contradiction|exact ET (by rw[O8,if_pos hv])|exact ET (by rw[O8,if_neg hv])))
theorem uV (I:c5 L):Ev L 4 [.agg (JP w)] (.int .i64 (H6 w)):=by
 refine Ev.x I.Q0 rfl rfl ?_;by_cases hv:WV w;all_goals (
  have kj:=hv;unfold WV at kj;(repeat' ((first|(apply DQ;omega)|(refine IY ?_ (λ_ _ => ?_);omega)|apply mZ|apply A2|refine HV (XD _ I) (λ hf => ?_) (λ hf => ?_))<;>conv=>whnf))
  all_goals (first|contradiction|exact ET (by rw[H6,if_pos hv])|exact ET (by rw[H6,if_neg hv])))
theorem AmX (I:c5 L):Ev L 12 [.agg (JP w)] (.int .i64 (O8 w)):=by
 refine Ev.x I.VE rfl rfl ?_;by_cases hv:WV w;all_goals (
  have kj:=hv;unfold WV at kj;(repeat' ((first|(apply DQ;omega)|(refine IY ?_ (λ_ _ => ?_);omega)|apply mZ|(apply FE.neg;omega)|(apply EM;omega)|apply A2|refine HV (oU _ I) (λ hf => ?_) (λ hf => ?_))<;>conv=>whnf))
  all_goals (first|contradiction|exact ET (by rw[O8,if_pos hv])|exact ET (by rw[O8,if_neg hv])))
theorem Ac8 (I:c5 L):Ev L 13 [.agg (JP w)] (.int .i64 (H6 w)):=by
 refine Ev.x I.VC rfl rfl ?_;by_cases hv:WV w;all_goals (
  have kj:=hv;unfold WV at kj;(repeat' ((first|(apply DQ;omega)|(refine IY ?_ (λ_ _ => ?_);omega)|apply mZ|(apply EM;omega)|apply A2|refine HV (oU _ I) (λ hf => ?_) (λ hf => ?_))<;>conv=>whnf))
  all_goals (first|contradiction|exact ET (by rw[H6,if_pos hv])|exact ET (by rw[H6,if_neg hv])))
def FT (v:Int):Prop:=WV w/\O8 w<=v/\v<=H6 w
instance (v : Int) : Decidable (FT w v) := by unfold FT; infer_instance
theorem XC (I:c5 L) (v:Int):Ev L 5 [.agg (JP w),.int .i64 v] (.bool (decide (FT w v))):=by
 refine Ev.x I.QZ rfl rfl ?_;(repeat' ((first|(apply A9<;>intro hc<;>try omega)|apply A2|refine HV (XD _ I) (λ hf => ?_) (λ hf => ?_)|refine AP (AcA _ I) ?_|refine AP (uV _ I) ?_)<;>conv=>whnf))
 all_goals (unfold FT;first|exact aQ ⟨by assumption,by assumption,by assumption⟩|exact ZH (by rintro ⟨h1,h2,h3⟩;first|contradiction|omega))
theorem AmW (I:c5 L) (v:Int):Ev L 14 [.agg (JP w),.int .i64 v] (.bool (decide (FT w v))):=by
 refine Ev.x I.VB rfl rfl ?_;(repeat' ((first|apply A2|refine HV (oU _ I) (λ hf => ?_) (λ hf => ?_)|refine HV (ZZ I _ _ _) (λ hf => ?_) (λ hf => ?_)|refine AP (AmX _ I) ?_|refine AP (Ac8 _ I) ?_)<;>conv=>whnf))
 all_goals (unfold FT;first|exact aQ ⟨by assumption,by assumption⟩|exact ZH (by rintro ⟨h1,h2⟩;contradiction))
def mI (n v:Int):Int:=if 1<=n/\n<=62 then (if pw (n-1)<=v%pw n then v%pw n-pw n else v%pw n) else 0
theorem Al4 (I:c5 L) (n v:Int):Ev L 7 [.int .i64 n,.int .i64 v] (.int .i64 (mI n v)):=by
 refine Ev.x I.Q7 rfl rfl ?_;(repeat' ((first|(apply A9<;>intro hc<;>try omega)|(apply DQ;omega)|(refine IY ?_ (λ_ _ => ?_);omega)|(refine Yo ?_ (λ_ _ => ?_);omega)|apply A2)<;>conv=>whnf))
 all_goals (refine ET ?_;unfold mI;first|rw[if_neg (by omega)]|rw[if_pos (by omega),if_pos (by omega)]|rw[if_pos (by omega),if_neg (by omega)])
def lL (v:Int):Int:=min (max v (O8 w)) (H6 w)
theorem Al2 (I:c5 L) (v:Int):Ev L 8 [.agg (JP w),.int .i64 v] (.int .i64 (lL w v)):=by
 refine Ev.x I.Q4 rfl rfl ?_;(repeat' ((first|(apply A9<;>intro hc<;>try omega)|apply A2|refine AP (AcA _ I) ?_|refine AP (uV _ I) ?_)<;>conv=>whnf))
 all_goals (refine ET ?_;unfold lL;omega)
def cN (v:Int):Int:=if WV w then (if w.o=2 then mI w.b v else lL w v) else 0
theorem Al1 (I:c5 L) (v:Int):Ev L 9 [.agg (JP w),.int .i64 v] (.int .i64 (cN w v)):=by
 refine Ev.x I.Q2 rfl rfl ?_;(repeat' ((first|(apply A9<;>intro hc<;>try omega)|apply A2|refine HV (XD _ I) (λ hf => ?_) (λ hf => ?_)|refine AP (Al4 I _ _) ?_|refine AP (Al2 _ I _) ?_)<;>conv=>whnf))
 all_goals (refine ET ?_;unfold cN;first|rw[if_neg (by assumption)]|rw[if_pos (by assumption),if_pos (by assumption)]|rw[if_pos (by assumption),if_neg (by assumption)])
def OD (v n r:Int):Int :=
 if 0<=n/\n<=62/\1<=r/\r<=3 then
  (if n=0 then v
   else if (r=2/\pw (n-1)<=v%pw n)\/(r=3/\v<0/\v%pw n≠0) then v/pw n+1 else v/pw n)
 else 0
theorem Al3 (I:c5 L) (v n r:Int) (hv:GW v):Ev L 6 [.int .i64 v,.int .i64 n,.int .i64 r] (.int .i64 (OD v n r)):=by
 refine Ev.x I.Q5 rfl rfl ?_;unfold GW at hv;by_cases hn:1<=n/\n<=62
 ·have h2:=qI hn.1
  have h3:=HY (n-1);have h4:=Alu (m:=pw n) (by omega) hv;have h5:=AnH (v:=v) h3;rw[<-h2]at h5;by_cases hr:1<=r/\r<=3
  ·rcases (by omega:r=1\/r=2\/r=3) with rfl|rfl|rfl
   all_goals (
    (repeat' ((first|(apply A9<;>intro hc<;>try omega)|(apply B5;omega)|(apply BG;omega)|(apply DQ;omega)|(apply Yt;omega)|(refine IY ?_ (λ_ _ => ?_);omega)|(refine Yo ?_ (λ_ _ => ?_);omega)|apply Aii|apply A2|refine HV (oM I _) (λ hf => ?_) (λ hf => ?_))<;>conv=>whnf))
    all_goals (first|contradiction|(exfalso;omega)|skip))
   all_goals (
    refine ET ?_;unfold OD;rw[if_pos (by omega),if_neg (by omega)];first
     | (rw[if_pos (by omega)];done)
     | (rw[if_neg (by omega)];done)
     |(by_cases hc:pw (n-1)<=v%pw n
       ·rw[if_pos hc]at h5;rw[if_pos (by omega),h5]
       ·rw[if_neg hc]at h5;rw[if_neg (by omega),h5];omega))
  ·(repeat' ((first|(apply A9<;>intro hc<;>try omega)|apply A2|refine HV (oM I _) (λ hf => ?_) (λ hf => ?_))<;>conv=>whnf))
   all_goals (first|contradiction|(exfalso;omega)|skip)
   all_goals (refine ET ?_;unfold OD;rw[if_neg (by omega)])
 ·by_cases hz:n=0
  ·subst hz
   (repeat' ((first|(apply A9<;>intro hc<;>try omega)|apply A2|refine HV (oM I _) (λ hf => ?_) (λ hf => ?_))<;>conv=>whnf))
   all_goals (first|contradiction|(exfalso;omega)|skip)
   all_goals (refine ET ?_;unfold OD;first|rw[if_pos (by omega),if_pos rfl]|rw[if_neg (by omega)])
  ·(repeat' ((first|(apply A9<;>intro hc<;>try omega)|apply A2)<;>conv=>whnf))
   all_goals (first|contradiction|(exfalso;omega)|skip)
   all_goals (refine ET ?_;unfold OD;rw[if_neg (by omega)])
end Go.b8

namespace Go.b8
open F
attribute [local irreducible] AJ A3 BU AU FE BR C1 CK DS DE FA G7 DR B2 EH E5 AL CQ BC pw FM E2 F7 G8 GX EG FK EE FZ
set_option maxHeartbeats 1000000
variable {L:Lib}
theorem LX {α:Type} {l:List α} {i:Nat} {e:α} (h:l[i]? = some e):l.drop i=e::l.drop (i+1):=by
 obtain ⟨h1,h2⟩:=zS h;rw[List.drop_eq_getElem_cons h1,h2]
theorem QV {α:Type} {l:List α} {i:Nat} (h:l.length<=i):l.drop i=[]:=List.drop_eq_nil_of_le h
structure Nd where
 q:Bool
 ts:List (Int × Int)
abbrev MI (t:Int × Int):List AV:=[.int .i64 t.1,.int .i64 t.2]
abbrev ZX (n:Nd):List AV:=[.sl n.q (n.ts.map MI)]
structure Nt where
 d:Wd
 c:Wd
 s:Int
 qn:Bool
 nodes:List Nd
 qx:Bool
 next:List Int
 out:Int
abbrev FS (n:Nt):List AV:=[.int .i64 n.d.b,.int .i64 n.d.f,.int .i64 n.d.r,.int .i64 n.d.o,.int .i64 n.c.b,.int .i64 n.c.f,.int .i64 n.c.r,.int .i64 n.c.o,.int .i64 n.s,.sl n.qn (n.nodes.map ZX),.sl n.qx (n.next.map DT),.int .i64 n.out]
def I6 (c:Wd) (s:Int) (k:Nat) (t:Int × Int):Bool:=decide (0<=t.1/\t.1<=s+k/\(t.2=pw c.f\/FT c t.2))
def JZ (c:Wd) (s:Int):Nat->List Nd->Bool
 | _,[]=>true
 | k,n::l=>(decide (n.ts.length<=64)&&n.ts.all (I6 c s k))&&JZ c s (k+1) l
def MW (m:Int) (l:List Int):Bool:=l.all λ k=>decide (0<=k/\k<=m)
def HD (n:Nt):Bool:=decide (WV n.d)&&decide (WV n.c)&&decide (0<=n.s/\n.s<=64/\n.nodes.length<=64/\(n.next.length:Int)=n.s)&&JZ n.c n.s 0 n.nodes&&MW (n.s+n.nodes.length) n.next&&decide (0<=n.out/\n.out<=n.s+n.nodes.length)
variable (n:Nt)
theorem F5:HD n=true↔WV n.d/\WV n.c/\(0<=n.s/\n.s<=64/\n.nodes.length<=64/\(n.next.length:Int)=n.s)/\JZ n.c n.s 0 n.nodes=true/\MW (n.s+n.nodes.length) n.next=true/\0<=n.out/\n.out<=n.s+n.nodes.length:=by
 simp only[HD,Bool.and_eq_true,decide_eq_true_eq,and_assoc]
theorem XA {x:Bool} (h : ¬ x=true):false=x:=by simp at h;rw[h]
theorem eqT {x:Bool} (h:x=true):true=x:=by rw[h]
theorem vC (I:c5 L) (J:y6 L):Ev L 21 [.agg (FS n)] (.bool (HD n)):=by
 refine Ev.x J.SN rfl rfl ?_;(repeat' ((first|(apply A9<;>intro hc<;>try omega)|apply BT|apply A2|refine HV (XD ⟨_,_,_,_⟩ I) (λ hf => ?_) (λ hf => ?_))<;>conv=>whnf))
 all_goals try (
  refine JO (XA ?_);rw[F5];rintro ⟨x1,x2,x3,_⟩
  first|contradiction|omega)
 rename_i h1 h3 h4 h5;have h2:=hf;have h6:=hc;have h1:WV n.d:=h1;have h2:WV n.c:=h2;have hw:=h2;unfold WV at hw;refine G5 (λ i=>n.nodes.length-i) (λ(i:Nat)=>i<=n.nodes.length/\JZ n.c n.s i (n.nodes.drop i)=JZ n.c n.s 0 n.nodes) (λ i=>[(45,.int .i64 i)]) (λ_=>[]) 0 ⟨by omega,rfl⟩ ?_;intro i ⟨p1,p2⟩ ih;(repeat' ((first|(apply A9<;>intro hc<;>try omega)|(apply BG;omega)|apply BT|(refine MD ?_ (λ_=>rfl) (λ e he => ?_);omega)|apply A2)<;>conv=>whnf))
 ·rename Nd=>nd
  have hnd:=he;rw[LX hnd,JZ,decide_eq_false (by omega)]at p2;refine JO (XA ?_);rw[F5,<-p2];simp
 ·rename Nd=>nd
  have hnd:=he;rw[LX hnd,JZ,decide_eq_true (by omega),Bool.true_and]at p2;refine G5 (λ j=>nd.ts.length-j) (λ(j:Nat)=>j<=nd.ts.length/\(nd.ts.drop j).all (I6 n.c n.s i)=nd.ts.all (I6 n.c n.s i)) (λ j=>[(57,.int .i64 j)]) (λ_=>[]) 0 ⟨by omega,rfl⟩ ?_;intro j ⟨r1,r2⟩ lk;(repeat' ((first|(apply A9<;>intro hc<;>try omega)|(apply BG;omega)|(refine IY ?_ (λ_ _ => ?_);omega)|(refine MD ?_ (λ_=>rfl) (λ e he => ?_);omega)|apply A2|refine HV (XC ⟨_,_,_,_⟩ I _) (λ hf => ?_) (λ hf => ?_))<;>conv=>whnf))
  all_goals try (
   have hb:I6 n.c n.s i e=false:=by
    simp only[I6,decide_eq_false_iff_not];intro hh;first|omega|exact absurd hh.2.2 (λ hx=>hx.elim (λ hx=>by omega) (λ hx=>by contradiction))
   rw[LX he,List.all_cons,hb,Bool.false_and]at r2;rw[<-r2,Bool.false_and]at p2;refine JO (XA ?_);rw[F5,<-p2];simp;done)
  all_goals try (
   have hb:I6 n.c n.s i e=true:=by
    simp only[I6,decide_eq_true_eq];exact ⟨by omega,by omega,by first|exact Or.inr (by assumption)|exact Or.inl (by assumption)⟩
   rw[LX he,List.all_cons,hb,Bool.true_and]at r2;exact DP [] (by (conv=>whnf);exact ⟨rfl,rfl,rfl⟩) (lk (j+1) (by omega) ⟨by omega,r2⟩))
  rw[QV (by omega)]at r2;rw[<-r2,List.all_nil,Bool.true_and]at p2;exact CZ [] (ih (i+1) (by omega) ⟨by omega,p2⟩)
 ·rw[QV (by omega),JZ]at p2
  refine G5 (λ i=>n.next.length-i) (λ(i:Nat)=>i<=n.next.length/\MW (n.s+n.nodes.length) (n.next.drop i)=MW (n.s+n.nodes.length) n.next) (λ i=>[(99,.int .i64 i)]) (λ_=>[]) 0 ⟨by omega,rfl⟩ ?_;intro k ⟨r1,r2⟩ Xj;(repeat' ((first|(apply A9<;>intro hc<;>try omega)|(apply BG;omega)|(refine MD ?_ (λ_=>rfl) (λ e he => ?_);omega)|apply A2)<;>conv=>whnf))
  all_goals try (
   have hb:decide (0<=e/\e<=n.s+n.nodes.length)=false:=by (rw[decide_eq_false_iff_not];omega)
   rw[LX he,MW,List.all_cons,hb,Bool.false_and]at r2;refine JO (XA ?_);rw[F5,<-r2];simp;done)
  all_goals try (
   have hb:decide (0<=e/\e<=n.s+n.nodes.length)=true:=by (rw[decide_eq_true_eq];omega)
   rw[LX he,MW,List.all_cons,hb,Bool.true_and]at r2;exact DP [] (by (conv=>whnf);exact ⟨rfl,rfl,rfl⟩) (Xj (k+1) (by omega) ⟨by omega,r2⟩))
  all_goals (
   rw[QV (by omega)]at r2;first
    | (refine JO (eqT ?_);rw[F5];exact ⟨h1,h2,by omega,p2.symm,r2.symm,by omega,by omega⟩)
    | (refine JO (XA ?_);rw[F5];omega))
end Go.b8

namespace Go.b8
open F
attribute [local irreducible] AJ A3 BU AU FE BR C1 CK DS DE FA G7 DR B2 EH E5 AL CQ BC pw FM E2 F7 G8 GX EG FK EE FZ
variable {L:Lib}
set_option maxHeartbeats 4000000
theorem Ahj (n:Int):GW (IntKind.i64.wrap n):=by
 unfold GW;rw[IntKind.wrap_i64];omega
def G4 (v m:Int):Int:=if m<1 then 0 else v%m
theorem Z1 (W:x6 L) (v m:Int) (hv:GW v) (hm:m<=9223372036854775807):Ev L 34 [.int .i64 v,.int .i64 m] (.int .i64 (G4 v m)):=by
 unfold GW at hv;refine Ev.x W.WO rfl rfl ?_;(repeat' ((first|(apply A9<;>intro hc<;>try omega)|(apply BG;omega)|(refine WW ?_ (λ_ _ _ => ?_) (λ_ _ _ _ => ?_);omega;all_goals try omega)|apply A2)<;>conv=>whnf))
 all_goals (refine ET ?_;unfold G4;first|rw[if_pos (by omega)]|rw[if_neg (by omega)])
 all_goals omega
def I9 (l:List Int) (i:Int):Int:=if 0<=i/\i<l.length then l.getD i.toNat 0 else 0
theorem Add (W:x6 L) (l:List Int) (q:Bool) (i:Int):Ev L 35 [.sl q (l.map DT),.int .i64 i] (.int .i64 (I9 l i)):=by
 refine Ev.x W.WF rfl rfl ?_;(repeat' ((first|(apply A9<;>intro hc<;>try omega)|apply BT|(refine iR ?_ (λ_=>rfl) (λ e he => ?_);omega)|apply A2)<;>conv=>whnf))
 all_goals (refine ET ?_;unfold I9;first|rw[if_neg (by omega)]|(rw[if_pos (by omega),List.getD_eq_getElem?_getD,he];rfl))
theorem WE {v m:Int} (h:1<=m):0<=G4 v m/\G4 v m<m:=by
 unfold G4;rw[if_neg (by omega)];exact ⟨Int.emod_nonneg _ (by omega),Int.emod_lt_of_pos _ (by omega)⟩
def Y9 (k least most above:Int):Wd :=
 let K:=G4 k 1099511627776
 let b:=least+K%(most-least+1)
 let K1:=K/(most-least+1)
 ⟨b,max (b-1-above-K1%2) 0,1+K1/2%3,1+K1/2/3%2⟩
theorem Ade (W:x6 L) (k least most above:Int) (hk:GW k) (h1:1<=least/\least<=most/\most<=1000/\0<=above/\above<=1000):Ev L 36 [.int .i64 k,.int .i64 least,.int .i64 most,.int .i64 above] (.agg (JP (Y9 k least most above))):=by
 refine Ev.x W.WP rfl rfl ?_;have hr:=WE (v:=k) (m:=1099511627776) (by omega);have h3:0<=G4 k 1099511627776/(most-least+1):=Int.ediv_nonneg hr.1 (by omega);have h4:G4 k 1099511627776/(most-least+1)<=G4 k 1099511627776:=Int.ediv_le_self _ hr.1;(repeat' ((first|(apply A9<;>intro hc<;>try omega)|(apply BG;omega)|(apply DQ;omega)|(refine WW ?_ (λ_ _ _ => ?_) (λ_ _ _ _ => ?_);omega;all_goals try omega)|(refine PT ?_ ?_ (λ_ => ?_) (λ_ _ => ?_);omega;omega;all_goals try omega)|apply A2|refine AP (Z1 W _ _ hk (by omega)) ?_)<;>conv=>whnf))
 all_goals (
  refine BV ?_ (by simp [B3,EC]);simp only[Y9,AV.agg.injEq,List.cons.injEq,AV.int.injEq,true_and,and_true];omega)
def LI (k:Int):Wd:=Y9 k 6 12 2
def E1 (k:Int):Wd:=Y9 k 6 9 1
theorem Ahf {k least most above:Int} (h:4<=least/\least<=most/\most<=24/\0<=above):WV (Y9 k least most above)/\least<=(Y9 k least most above).b/\(Y9 k least most above).b<=most:=by
 have hr:=WE (v:=k) (m:=1099511627776) (by omega);have h1:0<=G4 k 1099511627776%(most-least+1):=Int.emod_nonneg _ (by omega);have h2:G4 k 1099511627776%(most-least+1)<most-least+1:=Int.emod_lt_of_pos _ (by omega);simp only[WV,Y9];generalize G4 k 1099511627776/(most-least+1)=d;omega
theorem Akm (k:Int):WV (LI k)/\6<=(LI k).b/\(LI k).b<=12:=Ahf (by omega)
theorem Zp (k:Int):WV (E1 k)/\6<=(E1 k).b/\(E1 k).b<=9:=Ahf (by omega)
theorem Am5 (W:x6 L) (k:Int) (hk:GW k):Ev L 37 [.int .i64 k] (.agg (JP (LI k))):=by
 refine Ev.x W.WI rfl rfl ?_;(repeat' ((first|apply A2|refine AP (Ade W _ _ _ _ hk (by omega)) ?_)<;>conv=>whnf))
 exact BV rfl (by simp [B3,EC])
theorem Am4 (W:x6 L) (k:Int) (hk:GW k):Ev L 38 [.int .i64 k] (.agg (JP (E1 k))):=by
 refine Ev.x W.WH rfl rfl ?_;(repeat' ((first|apply A2|refine AP (Ade W _ _ _ _ hk (by omega)) ?_)<;>conv=>whnf))
 exact BV rfl (by simp [B3,EC])
theorem Am7 (W:x6 L) (w:Wd) (h:WV w):Ev L 41 [.agg (JP w)] (.int .i64 (pw w.f)):=by
 unfold WV at h;refine Ev.x W.WN rfl rfl ?_;(repeat' ((first|(refine IY ?_ (λ_ _ => ?_);omega)|(apply EM;omega)|apply A2)<;>conv=>whnf))
 exact ET rfl
theorem RQ {w:Wd} (h:WV w):O8 w = -pw (w.b-1)/\H6 w=pw (w.b-1)-1/\1<=pw (w.b-1)/\pw (w.b-1)<=8388608:=by
 have h':=h;unfold WV at h';refine ⟨by rw[O8,if_pos h],by rw[H6,if_pos h],HY _,?_⟩;have:=PC (n:=w.b-1) (m:=23) (by omega)
 have e:pw 23=8388608:=by unfold pw;rfl
 omega
theorem Afq {α:Type} (f:Nat->α) (n:Nat):(List.range (n+1)).map f=(List.range n).map f++[f n]:=by rw[List.range_succ,List.map_append];rfl
def QC (b v:Int):Int:=G4 (IntKind.i64.wrap (v+b)) (2*b+1)-b
def MP (b:Int) (l:List Int) (n:Nat):List Int:=(List.range n).map λ i:Nat=>QC b (I9 l (i:Int))
theorem oW (W:x6 L) (b:Int) (hb:0<=b/\b<=1000000000000) (l:List Int) (q:Bool) (n:Nat) (hn:n<=1000000):Ev L 40 [.int .i64 b,.sl q (l.map DT),.int .i64 n] (.sl false ((MP b l n).map DT)):=by
 refine Ev.x W.WG rfl rfl ?_;(repeat' (apply A2<;>conv=>whnf))
 refine IX (λ i _=>n-i) (λ(i:Nat) (o:List Int)=>i<=n/\o.length=i/\o=MP b l i) (λ i o=>[(7,.row 7 0 1 0 o.length),(8,.int .i64 i)]) (λ i o=>[(7,7,.rw 1 (o.map DT))]) 0 [] ⟨by omega,rfl,rfl⟩ ?_;intro i o ⟨p1,p2,p3⟩ ih;have hr:=WE (v:=IntKind.i64.wrap (I9 l i+b)) (m:=2*b+1) (by omega);(repeat' ((first|(apply A9<;>intro hc<;>try omega)|(apply BG;omega)|(apply DQ;omega)|(apply I8;omega)|apply sK|(refine FO (λ_=>rfl) rfl ?_ ?_;(first|rfl|simp))|apply GY|apply A2|refine AP (Add W l _ _) ?_|refine AP (Z1 W _ _ (Ahj _) (by omega)) ?_)<;>conv=>whnf))
 ·refine H8 (enc:=DT) _ rfl rfl rfl (by omega) (by omega) ?_
  (conv=>whnf)
  (repeat' ((first|(apply BG;omega)|fail)<;>conv=>whnf))
  refine DP [(7,27)] (by (conv=>whnf);exact ⟨rfl,rfl,rfl⟩) (ih (i+1) _ (by omega) ⟨by omega,by simp [p2],?_⟩);rw[MP,Afq,p3];rfl
 ·have:i=n:=by omega
  subst this;exact BV (by rw[p3]) (by simp [B3,jC])
theorem AlU (N:n7 L) (S:FQ) (n k:Nat) (h:S.Ok n k) (hn:n<=64):Ev L 136 [.agg (eS S)] (.bool true):=by
 have h1:=h.la;have h2:=h.lb;have h3:=h.lc;refine Ev.x N.VJ rfl rfl ?_;(repeat' ((first|(apply A9<;>intro hc<;>try omega)|apply BT|apply A2)<;>conv=>whnf))
 refine G5 (λ i=>S.a.length-i) (λ(i:Nat)=>i<=S.a.length) (λ i=>[(4,.int .i64 i)]) (λ_=>[]) 0 (by omega) ?_;intro i p1 ih;by_cases hi:i<S.a.length
 ·obtain ⟨r,hr⟩ : ∃ r,S.a[i]? = some r:=⟨_,zE hi⟩
  have vg:S.a[(i:Int).toNat]? = some r:=hr;have gj:=h.lr r (zM hr);(repeat' ((first|(apply A9<;>intro hc<;>try omega)|(apply BG;omega)|apply BT|(refine CN (by assumption) ?_ rfl ?_;omega)|apply A2)<;>conv=>whnf))
  exact CZ [] (ih (i+1) (by omega) (by omega))
 ·obtain rfl:i=S.a.length:=by omega
  clear ih;(repeat' ((first|(apply A9<;>intro hc<;>try omega)|apply A2)<;>conv=>whnf))
  exact JO rfl
theorem Acw (N:n7 L) (a b:List Rat) (q1 q2:Bool) (k s:Nat) (hl:a.length=b.length) (ha:Bs k a) (hb:Bs s b) (hK:a.length*(k+s+1)+k+s<2199023255552) (gq:a.length<=1099511627776):Ev L 137 [.sl q1 (a.map eQ),.sl q2 (b.map eQ)] (.agg (eQ (CI a b))):=by
 have hO:=O6 N.toa6 0 (by omega);refine Ev.x N.VH rfl rfl ?_;(repeat' ((first|apply A2|refine AP (hO) ?_)<;>conv=>whnf))
 refine IX (λ i _=>a.length-i) (λ(i:Nat) (acc:Rat)=>i<=a.length/\acc=CI (a.take i) (b.take i)) (λ i acc=>[(6,.int .i64 i)]) (λ i acc=>[(5,5,.bx (eQ acc))]) 0 ((0:Int):Rat) ⟨by omega,by simp [CI]⟩ ?_;intro i acc ⟨p1,p2⟩ ih;by_cases hi:i<a.length
 ·obtain ⟨x,hx⟩ : ∃ x,a[i]? = some x:=⟨_,zE hi⟩
  obtain ⟨y,hy⟩ : ∃ y,b[i]? = some y:=⟨_,zE (by omega)⟩;have nr:a[(i:Int).toNat]? = some x:=hx;have Ai:b[(i:Int).toNat]? = some y:=hy;have bx:=ha.at hx;have Hl:=hb.at hy
  have hM:=bQ N.toa6 bx Hl (by omega) (by omega)
  have Fk:Bt (a.length*(k+s+1)) acc:=by
   rw[p2];have:=(ha.take i).dot (hb.take i)
   refine this.le (zR _ ?_);rw[List.length_take];omega
  have hA:=YK N.toa6 Fk (bx.mul Hl) (by omega) (by omega);have j8:=eI hx hy;(repeat' ((first|(apply A9<;>intro hc<;>try omega)|(apply BG;omega)|apply BT|(refine CN (by assumption) ?_ rfl ?_;omega)|apply A2|refine AP (hM) ?_|refine AP (hA) ?_)<;>conv=>whnf))
  refine DP [] (by (conv=>whnf);exact ⟨rfl,rfl,rfl⟩) (ih (i+1) (acc+x*y) (by omega) ⟨by omega,?_⟩);rw[j8,<-p2]
 ·obtain rfl:i=a.length:=by omega
  clear ih;rw[jN rfl]at p2;rw[<-p2];(repeat' ((first|(apply A9<;>intro hc<;>try omega)|apply BT|apply A2)<;>conv=>whnf))
  exact BV rfl (GD _)
end Go.b8

namespace Go.b8
variable {L:Lib}
end Go.b8

namespace Go.b8
open F
variable {L:Lib}
theorem Bt.sm {k:Nat} {x:Rat} (h:Bt k x) (hk:k<2199023255552):Sm 68719476736 (dg x.num.natAbs)/\Sm 68719476736 (dg x.den):=h.dig (by omega)
theorem LK (N:a5 L) {x y:Rat} {k l:Nat} (hx:Bt k x) (hy:Bt l y) (hk:k<2199023255552) (hl:l<2199023255552):Ev L 98 [.agg (eQ x),.agg (eQ y)] (.agg (eQ (x+y))):=by
 have:=Ac5 N 68719476736 (by omega) (decide (x.num<0)) (decide (y.num<0)) false false false false _ _ _ _ (hx.sm hk).1 (hx.sm hk).2 (hy.sm hl).1 (hy.sm hl).2
 rw[JS,JS]at this;exact this
theorem LL (N:a5 L) {x y:Rat} {k l:Nat} (hx:Bt k x) (hy:Bt l y) (hk:k<2199023255552) (hl:l<2199023255552):Ev L 99 [.agg (eQ x),.agg (eQ y)] (.agg (eQ (x*y))):=by
 have:=Ac6 N 68719476736 (by omega) (decide (x.num<0)) (decide (y.num<0)) false false false false _ _ _ _ (hx.sm hk).1 (hx.sm hk).2 (hy.sm hl).1 (hy.sm hl).2
 rw[JS,JS]at this;exact this
theorem jW (N:a5 L) {x y:Rat} {k l:Nat} (hx:Bt k x) (hy:Bt l y) (hk:k<2199023255552) (hl:l<2199023255552) (h0:y≠0):Ev L 100 [.agg (eQ x),.agg (eQ y)] (.g8 [.agg (eQ (x/y)),.int .i64 0]):=by
 have:=AmV N 68719476736 (by omega) (decide (x.num<0)) (decide (y.num<0)) false false false false _ _ _ _ (hx.sm hk).1 (hx.sm hk).2 (hy.sm hl).1 (hy.sm hl).2 (by rw[JS];exact h0)
 rw[JS,JS]at this;exact this
theorem bT (N:a5 L) {x:Rat} {k:Nat} (hx:Bt k x) (hk:k<2199023255552):Ev L 95 [.agg (eQ x)] (.agg (eQ x)):=by
 have:=vH N (decide (x.num<0)) false false _ _ ((hx.sm hk).1.le (by omega)) ((hx.sm hk).2.le (by omega))
 rw[JS]at this;exact this
theorem YO (N:a5 L) {x:Rat} {k:Nat} (hx:Bt k x) (hk:k<2199023255552):Ev L 97 [.agg (eQ x)] (.int .i64 (v9 x.num)):=by
 have:=Ac7 N (decide (x.num<0)) false false _ _ ((hx.sm hk).1.le (by omega)) ((hx.sm hk).2.le (by omega))
 rw[JS]at this;exact this
theorem V6 {x:Rat}:v9 x.num=0↔x=0:=by
 rw[<-Rat.num_eq_zero];unfold v9;split
 ·omega
 ·split<;>omega
end Go.b8

namespace Go.b8
open F
attribute [local irreducible] AJ A3 BU AU FE BR C1 CK DS DE FA G7 DR B2 EH E5 AL CQ BC pw FM E2 F7 G8 GX EG FK EE FZ
variable {L:Lib}
set_option maxHeartbeats 8000000
theorem Afo (n:Bool) (m d:List Nat):qv (!n) m d = -(qv n m d):=by
 unfold qv;have h:zv (!n) m = -(zv n m):=by cases n<;>simp [zv]
 rw[h,Rat.neg_mkRat]
theorem AjM (n:Bool) (m d:List Nat):B3 (.agg (rQ false false n m d)):=by
 simp only[B3,EC,and_true,true_and];exact ⟨GC _,GC _⟩
theorem AcB (N:ax L) (n:Bool) (m d:List Nat):Ev L 149 [.agg (rQ false false n m d)] (.agg (rQ false false (!n) m d)):=by
 refine Ev.x N.UC rfl rfl ?_;cases n;all_goals
  (repeat' (apply A2<;>conv=>whnf))
  exact BV rfl (AjM _ _ _)
theorem Am2 (N:ax L) {x y:Rat} {k l:Nat} (hx:Bt k x) (hy:Bt l y) (hk:k<2199023255552) (hl:l<2199023255552):Ev L 150 [.agg (eQ x),.agg (eQ y)] (.agg (eQ (x-y))):=by
 have hF:=AcB N (decide (y.num<0)) (dg y.num.natAbs) (dg y.den);have hA:=λ q3 q4=>Ac5 N.toa5 68719476736 (by omega) (decide (x.num<0)) (!decide (y.num<0)) false false q3 q4 _ _ _ _ (hx.sm hk).1 (hx.sm hk).2 (hy.sm hl).1 (hy.sm hl).2
 rw[Afo,JS,JS,<-Rat.sub_eq_add_neg]at hA;refine Ev.x N.UA rfl rfl ?_;(repeat' ((first|apply Yg|apply A2|refine AP (hF) ?_|refine AP (hA _ _) ?_)<;>conv=>whnf))
 exact BV rfl (GD _)
theorem AoX {x y:Int} (h:y≠0):mkRat (y.sign*x) y.natAbs=Rat.divInt x y:=by
 obtain ⟨d,hd|hd⟩:=Int.eq_nat_or_neg y
 ·subst hd
  rw[Int.sign_eq_one_of_pos (by omega),Int.one_mul,Int.natAbs_natCast,Rat.divInt_ofNat]
 ·subst hd
  rw[Int.sign_eq_neg_one_of_neg (by omega),Int.natAbs_neg,Int.natAbs_natCast,Rat.divInt_neg',Rat.divInt_ofNat,Int.neg_one_mul]
theorem Acv (N:ax L) (x y:Int) (hx : -9223372036854775808<=x/\x<=9223372036854775807) (hy : -9223372036854775808<=y/\y<=9223372036854775807) (h0:y≠0):Ev L 151 [.int .i64 x,.int .i64 y] (.agg (eQ (Rat.divInt x y))):=by
 have h1:=uX N.toa5 x hx;have h2:=uX N.toa5 y hy;have g1:Sm 2 (dg x.natAbs):=Sm.dg (by omega);have g2:Sm 2 (dg y.natAbs):=Sm.dg (by omega);have hl:=λ q1 q2=>eK N.toa5 (decide (x<0) != decide (y<0)) q1 q2 (dg x.natAbs) (dg y.natAbs) (g1.le (by omega)) (g2.le (by omega)) (by rw[EA];omega)
 unfold qv at hl;rw[Ahp h0,EA,AoX h0]at hl;refine Ev.x N.T4 rfl rfl ?_;(repeat' ((first|(apply A9<;>intro hc<;>try omega)|apply A2|refine AP (h1) ?_|refine AP (h2) ?_)<;>conv=>whnf))
 refine JV 1000 N.PF rfl rfl ?_;(repeat' (apply A2<;>conv=>whnf))
 generalize decide (x<0)=p at *;generalize decide (y<0)=r at *;cases p<;>cases r;all_goals
  (conv=>whnf)
  refine ⟨rfl,?_⟩;(conv=>whnf)
  (repeat' (refine AP (hl _ _) ?_<;>conv=>whnf))
  exact BV rfl (GD _)
theorem kI {l:List Rat} {i:Nat} {x:Rat} (h:l[i]? = some x):l.getD i 0=x:=by rw[List.getD_eq_getElem?_getD,h];rfl
theorem Anl {l:List Rat} {i:Nat} (h:l.length<=i):l.getD i 0=0:=by rw[List.getD_eq_getElem?_getD,List.getElem?_eq_none h];rfl
theorem zD (z:Int):v9 z = -1/\z<0\/v9 z=0/\z=0\/v9 z=1/\0<z:=by
 unfold v9;split
 ·exact Or.inl ⟨rfl,by omega⟩
 ·split
  ·exact Or.inr (Or.inr ⟨rfl,by omega⟩)
  ·exact Or.inr (Or.inl ⟨rfl,by omega⟩)
theorem AjS {a b:Nat} {z:Int} (h:z=(a:Int)-b):GS a b=v9 z:=by
 unfold GS v9;subst h;repeat' split
 all_goals omega
theorem AcE (N:w9 L) (n1 n2 q1 q2:Bool) (a b:List Nat) (ha:Sm 549755813888 a) (hb:Sm 549755813888 b):Ev L 197 [.agg (rZ q1 n1 a),.agg (rZ q2 n2 b)] (.int .i64 (v9 (zv n1 a-zv n2 b))):=by
 have h1:=λ q=>oN N.toa5 n1 q a ha
 have h2:=λ q=>oN N.toa5 n2 q b hb
 have h3:=λ q q'=>YN N.toc7 a b q q' ha.1 hb.1 (by have:=ha.2;omega) (by have:=hb.2;omega)
 have h4:=λ q q'=>YN N.toc7 b a q q' hb.1 ha.1 (by have:=hb.2;omega) (by have:=ha.2;omega)
 have za:=JG n1 a;have zb:=JG n2 b;generalize zv n1 a=x at *;generalize zv n2 b=y at *;rcases zD x with ⟨e1,g1⟩|⟨e1,g1⟩|⟨e1,g1⟩<;>rcases zD y with ⟨e2,g2⟩|⟨e2,g2⟩|⟨e2,g2⟩
 all_goals
  rw[e1]at h1;rw[e2]at h2;refine Ev.x N.RB rfl rfl ?_;(repeat' ((first|(apply A9<;>intro hc<;>try omega)|apply A2|refine AP (h1 _) ?_|refine AP (h2 _) ?_|refine AP (h3 _ _) ?_|refine AP (h4 _ _) ?_)<;>conv=>whnf))
  first
   | exact ET (zF (by omega))
   | exact ET (zG (by omega))
   | exact ET (AjS (by omega))
theorem AmU (N:w9 L) (k:Nat) (hk:1<=k/\k<=68719476736) (n1 n2:Bool) (m1 d1 m2 d2:List Nat) (ki:Sm k m1) (qi:Sm k d1) (er:Sm k m2) (va:Sm k d2) :
  Ev L 198 [.agg (rQ false false n1 m1 d1),.agg (rQ false false n2 m2 d2)] (.int .i64 (v9 (qv n1 m1 d1-qv n2 m2 d2).num)):=by
 obtain ⟨a1,a2,a3,w1,gd,s1,s2,s3,s4,s5⟩:=XF N.toa5 n1 m1 d1 k (by omega) ki qi;obtain ⟨b1,b2,b3,w2,ct,t1,t2,t3,t4,t5⟩:=XF N.toa5 n2 m2 d2 k (by omega) er va;rw[s5,t5,<-AeK s3 t3];by_cases hw:w1=true/\w2=true
 ·obtain ⟨rfl,rfl⟩:=hw
  have hC:=λ q q'=>AcE N a1 b1 q q' a2 b2 (s1.le (by omega)) (t1.le (by omega))
  rw[s4 rfl,t4 rfl];rw[show zv a1 a2*((1:Nat):Int)-zv b1 b2*((1:Nat):Int)=zv a1 a2-zv b1 b2 by omega];refine Ev.x N.PD rfl rfl ?_;(repeat' ((first|apply L9|apply A2|refine AP (gd) ?_|refine AP (ct) ?_|refine AP (hC _ _) ?_)<;>conv=>whnf))
  exact ET rfl
 ·have ju:=λ q q'=>bP N.toa5 a1 false q q' a2 b3 s1.1 t2.1 (by have:=s1.2;have:=t2.2;omega)
  have nb:=λ q q'=>bP N.toa5 b1 false q q' b2 a3 t1.1 s2.1 (by have:=t1.2;have:=s2.2;omega)
  have Ce:=eL N.toa5 a3;have zo:=eL N.toa5 b3;have g1:Sm (k+k) (dg (zv a1 a2*zv false b3).natAbs):=cY s1 t2;have g2:Sm (k+k) (dg (zv b1 b2*zv false a3).natAbs):=cY t1 s2;have hC:=λ q q'=>AcE N (decide (zv a1 a2*zv false b3<0)) (decide (zv b1 b2*zv false a3<0)) q q' _ _ (g1.le (by omega)) (g2.le (by omega))
  rw[J1,J1]at hC;rw[<-I7 b3,<-I7 a3];generalize zv a1 a2*zv false b3=x at *;generalize zv b1 b2*zv false a3=y at *;refine Ev.x N.PD rfl rfl ?_;cases w1<;>cases w2
  ·(repeat' ((first|apply L9|apply aR|apply A2|refine AP (gd) ?_|refine AP (ct) ?_|refine AP (Ce) ?_|refine AP (zo) ?_|refine AP (ju _ _) ?_|refine AP (nb _ _) ?_|refine AP (hC _ _) ?_)<;>conv=>whnf))
   exact ET rfl
  ·(repeat' ((first|apply L9|apply aR|apply A2|refine AP (gd) ?_|refine AP (ct) ?_|refine AP (Ce) ?_|refine AP (zo) ?_|refine AP (ju _ _) ?_|refine AP (nb _ _) ?_|refine AP (hC _ _) ?_)<;>conv=>whnf))
   exact ET rfl
  ·(repeat' ((first|apply L9|apply aR|apply A2|refine AP (gd) ?_|refine AP (ct) ?_|refine AP (Ce) ?_|refine AP (zo) ?_|refine AP (ju _ _) ?_|refine AP (nb _ _) ?_|refine AP (hC _ _) ?_)<;>conv=>whnf))
   exact ET rfl
  ·exact absurd ⟨rfl,rfl⟩ hw
theorem jU (N:w9 L) {x y:Rat} {k l:Nat} (hx:Bt k x) (hy:Bt l y) (hk:k<2199023255552) (hl:l<2199023255552):Ev L 198 [.agg (eQ x),.agg (eQ y)] (.int .i64 (v9 (x-y).num)):=by
 have:=AmU N 68719476736 (by omega) (decide (x.num<0)) (decide (y.num<0)) _ _ _ _ (hx.sm hk).1 (hx.sm hk).2 (hy.sm hl).1 (hy.sm hl).2
 rw[JS,JS]at this;exact this
theorem Amm (N:w9 L) {x:Rat} {k:Nat} (hx:Bt k x) (hk:k<2199023255552):Ev L 199 [.agg (eQ x)] (.agg (eQ (-x))):=by
 have hF:=AcB N.toax (decide (x.num<0)) (dg x.num.natAbs) (dg x.den);have hT:=λ q1 q2=>vH N.toa5 (!decide (x.num<0)) q1 q2 _ _ ((hx.sm hk).1.le (by omega)) ((hx.sm hk).2.le (by omega))
 rw[Afo,JS]at hT;refine Ev.x N.T5 rfl rfl ?_;(repeat' ((first|apply Yg|apply A2|refine AP (hF) ?_|refine AP (hT _ _) ?_)<;>conv=>whnf))
 exact BV rfl (GD _)
theorem AcV (N:w9 L) (q:Bool) (l:List Rat) (k:Nat) (hl:Bs k l) (hk:k<2199023255552) (hn:l.length<=1000000):Ev L 200 [.sl q (l.map eQ)] (.int .i64 ((NB l l.length:Int)-1)):=by
 refine Ev.x N.TQ rfl rfl ?_;(repeat' (apply A2<;>conv=>whnf))
 refine LE 1000 N.TR rfl rfl ?_;(repeat' ((first|apply BT|apply A2)<;>conv=>whnf))
 refine G5 (λ n=>n) (λ(n:Nat)=>n<=l.length/\NB l l.length=NB l n) (λ n=>[(3,.int .i64 n)]) (λ_=>[]) l.length ⟨Nat.le_refl _,rfl⟩ ?_;intro n ⟨p1,p2⟩ ih;have done : ∀ {n:Nat},NB l l.length=n->aI l=l.take n:=λ h=>by rw[aI,h]
 by_cases hz:n=0\/(∃ m x,n=m+1/\l[m]? = some x/\x≠0)
 ·have Kz:NB l l.length=n:=by
   rw[p2];rcases hz with rfl|⟨m,x,rfl,h1,h2⟩
   ·rfl
   ·rw[NB,if_neg]
    rw[List.getD_eq_getElem?_getD,h1];exact h2
  have htq:=done Kz;have kp:(l.take n).length=n:=by rw[List.length_take];omega
  clear ih Kz p2 done;rcases hz with h0|⟨m,x,hnm,h1,h2⟩
  case' inl=>(repeat' ((first|(apply A9<;>intro hc<;>try omega)|apply A2)<;>conv=>whnf))
  case' inr =>
   have um:l[((n:Int)-1).toNat]? = some x:=by rw[show ((n:Int)-1).toNat=m by omega];exact h1
   have qa:=YO N.toa5 (hl.at h1) (by omega);have hs:=V6 (x:=x);generalize v9 x.num=s at *;have hS : ∀ v,l[((n:Int)-1).toNat]? = some v->Ev L 97 [.agg (eQ v)] (.int .i64 s):=λ v h=>by
    obtain rfl:=Option.some.inj (um.symm.trans h);exact qa
   have jk:s≠0:=λ h=>h2 (hs.1 h)
   (repeat' ((first|(apply A9<;>intro hc<;>try omega)|(apply DQ;omega)|(refine CN (by assumption) ?_ rfl ?_;omega)|apply A2|refine AP (qa) ?_)<;>conv=>whnf))
  all_goals
   refine QE (enc:=eQ) (λ_=>rfl) p1 ?_;(conv=>whnf)
   skip
   refine ⟨rfl,_,rfl,?_⟩;(conv=>whnf)
   (repeat' ((first|(apply DQ;omega)|apply BT)<;>conv=>whnf))
   have La:NB l l.length=n:=by rw[<-AgK,htq,kp]
   rw[La];exact ET (by rw[kp])
 ·obtain ⟨m,rfl⟩ : ∃ m,n=m+1:=⟨n-1,by omega⟩
  obtain ⟨x,hx⟩ : ∃ x,l[m]? = some x:=⟨_,zE (by omega)⟩;have oi:x=0:=by
   rcases Classical.em (x=0) with h|h
   ·exact h
   ·exact (hz (Or.inr ⟨m,x,rfl,hx,h⟩)).elim
  have nr:l[((m+1:Nat)-1:Int).toNat]? = some x:=by rw[show ((m+1:Nat)-1:Int).toNat=m by omega];exact hx
  have qa:=YO N.toa5 (hl.at hx) (by omega);have hs:=V6 (x:=x);generalize v9 x.num=s at *;have hS : ∀ v,l[((m+1:Nat)-1:Int).toNat]? = some v->Ev L 97 [.agg (eQ v)] (.int .i64 s):=λ v h=>by
   obtain rfl:=Option.some.inj (nr.symm.trans h);exact qa
  have jk:=hs.2 oi;(repeat' ((first|(apply A9<;>intro hc<;>try omega)|(apply DQ;omega)|(refine CN (by assumption) ?_ rfl ?_;omega)|apply A2|refine AP (qa) ?_)<;>conv=>whnf))
  rw[show ((m+1:Nat):Int)-1=(m:Int) by omega];exact CZ [] (ih m (by omega) ⟨by omega,by rw[p2,NB,if_pos (by rw[List.getD_eq_getElem?_getD,hx];exact oi)]⟩)
theorem uT (N:n7 L) (S:FQ) (n k:Nat) (h:S.Ok n k) (hn:n<=64):Ev L 130 [.agg (eS S)] (.bool true):=by
 have h1:=h.la;have h2:=h.lb;have h3:=h.lc;refine Ev.x N.SM rfl rfl ?_;(repeat' ((first|(apply A9<;>intro hc<;>try omega)|apply BT|apply A2)<;>conv=>whnf))
 refine G5 (λ i=>S.a.length-i) (λ(i:Nat)=>i<=S.a.length) (λ i=>[(28,.int .i64 i)]) (λ_=>[]) 0 (by omega) ?_;intro i p1 ih;by_cases hi:i<S.a.length
 ·obtain ⟨r,hr⟩ : ∃ r,S.a[i]? = some r:=⟨_,zE hi⟩
  have vg:S.a[(i:Int).toNat]? = some r:=hr;have gj:=h.lr r (zM hr);(repeat' ((first|(apply A9<;>intro hc<;>try omega)|(apply BG;omega)|apply BT|(refine CN (by assumption) ?_ rfl ?_;omega)|apply A2)<;>conv=>whnf))
  exact CZ [] (ih (i+1) (by omega) (by omega))
 ·obtain rfl:i=S.a.length:=by omega
  clear ih;(repeat' ((first|(apply A9<;>intro hc<;>try omega)|apply A2)<;>conv=>whnf))
  exact JO rfl
theorem Am9 (N:n7 L) (n:Nat) (hn:n<=65536):Ev L 131 [.int .i64 (n:Int)] (.sl false ((List.replicate n (0:Rat)).map eQ)):=by
 have hO:=IV N.toa5 0 (by omega);refine Ev.x N.NZ rfl rfl ?_;(repeat' (apply A2<;>conv=>whnf))
 refine GJ (enc:=eO) none n rfl rfl (by omega) ?_;(conv=>whnf)
 skip
 refine G6 (λ i=>n-i) (λ(i:Nat)=>i<=n) (λ i=>[(9,.int .i64 i)]) (λ i=>[(131006,131006,.rw 3 ((GU (List.replicate i 0) n).map eO))]) [] [] 0 (by first|exact (by (conv=>whnf);exact ⟨rfl,rfl,rfl⟩)|(rw[<-QY];exact (by (conv=>whnf);exact ⟨rfl,rfl,rfl⟩))) (by omega) ?_;intro i p1 ih;by_cases hi:i<n
 ·have hl:=OU (l:=List.replicate i (0:Rat)) (m:=n) (by simp;omega)
  have hs:=PZ (l:=List.replicate i (0:Rat)) (m:=n) (x:=0) (by simp;omega);rw[List.length_replicate]at hs;(repeat' ((first|(apply A9<;>intro hc<;>try omega)|(apply B5;omega)|apply A2|refine AP (hO) ?_)<;>conv=>whnf))
  refine KS (enc:=eO) (some 0) rfl (λ e=>by cases e<;>rfl) (by omega) ?_;(conv=>whnf)
  (repeat' ((first|(apply BG;omega)|fail)<;>conv=>whnf))
  rw[hs];rw[show List.replicate i (0:Rat)++[0]=List.replicate (i+1) 0 by rw[List.replicate_succ']];exact CZ [] (ih (i+1) (by omega) (by omega))
 ·obtain rfl:i=n:=by omega
  clear ih;rw[QX (by simp)];(repeat' ((first|(apply A9<;>intro hc<;>try omega)|(refine FO (λ_=>rfl) rfl ?_ ?_;(first|rfl|simp))|apply A2)<;>conv=>whnf))
  exact BV rfl (by simp only[B3,true_and];exact LW _)
theorem AcW (N:n7 L) (a b:List Rat) (q1 q2:Bool) (k s:Nat) (hl:a.length=b.length) (ha:Bs k a) (hb:Bs s b) (hK:a.length*(k+s+1)+k+s<2199023255552) (gq:a.length<=1099511627776):Ev L 132 [.sl q1 (a.map eQ),.sl q2 (b.map eQ)] (.agg (eQ (CI a b))):=by
 have hO:=IV N.toa5 0 (by omega);refine Ev.x N.SU rfl rfl ?_;(repeat' ((first|apply BT|apply A2|refine AP (hO) ?_)<;>conv=>whnf))
 refine IX (λ i _=>a.length-i) (λ(i:Nat) (acc:Rat)=>i<=a.length/\acc=CI (a.take i) (b.take i)) (λ i acc=>[(11,.int .i64 i)]) (λ i acc=>[(5,5,.bx (eQ acc))]) 0 ((0:Int):Rat) ⟨by omega,by simp [CI]⟩ ?_;intro i acc ⟨p1,p2⟩ ih;by_cases hi:i<a.length
 ·obtain ⟨x,hx⟩ : ∃ x,a[i]? = some x:=⟨_,zE hi⟩
  obtain ⟨y,hy⟩ : ∃ y,b[i]? = some y:=⟨_,zE (by omega)⟩;have nr:a[(i:Int).toNat]? = some x:=hx;have Ai:b[(i:Int).toNat]? = some y:=hy;have bx:=ha.at hx;have Hl:=hb.at hy
  have ur:=YO N.toa5 bx (by omega);have Dr:=YO N.toa5 Hl (by omega)
  have hM:=LL N.toa5 bx Hl (by omega) (by omega)
  have Fk:Bt (a.length*(k+s+1)) acc:=by
   rw[p2];have:=(ha.take i).dot (hb.take i)
   refine this.le (zR _ ?_);rw[List.length_take];omega
  have hA:=LK N.toa5 Fk (bx.mul Hl) (by omega) (by omega);have j8:=eI hx hy;have z1:=V6 (x:=x);have z2:=V6 (x:=y);generalize v9 x.num=sx at *;generalize v9 y.num=sy at *;by_cases h1:sx=0
  ·have oi:=z1.1 h1
   (repeat' ((first|(apply A9<;>intro hc<;>try omega)|(apply BG;omega)|(refine CN (by assumption) ?_ rfl ?_;omega)|apply A2|refine AP (ur) ?_)<;>conv=>whnf))
   refine DP [] (by (conv=>whnf);exact ⟨rfl,rfl,rfl⟩) (ih (i+1) acc (by omega) ⟨by omega,?_⟩);rw[j8,oi,Rat.zero_mul,Rat.add_zero];exact p2
  ·by_cases h2:sy=0
   ·have qz:=z2.1 h2
    (repeat' ((first|(apply A9<;>intro hc<;>try omega)|(apply BG;omega)|(refine CN (by assumption) ?_ rfl ?_;omega)|apply A2|refine AP (ur) ?_|refine AP (Dr) ?_)<;>conv=>whnf))
    refine DP [] (by (conv=>whnf);exact ⟨rfl,rfl,rfl⟩) (ih (i+1) acc (by omega) ⟨by omega,?_⟩);rw[j8,qz,Rat.mul_zero,Rat.add_zero];exact p2
   ·(repeat' ((first|(apply A9<;>intro hc<;>try omega)|(apply BG;omega)|(refine CN (by assumption) ?_ rfl ?_;omega)|apply A2|refine AP (ur) ?_|refine AP (Dr) ?_|refine AP (hM) ?_|refine AP (hA) ?_)<;>conv=>whnf))
    refine DP [] (by (conv=>whnf);exact ⟨rfl,rfl,rfl⟩) (ih (i+1) (acc+x*y) (by omega) ⟨by omega,?_⟩);rw[j8,<-p2]
 ·obtain rfl:i=a.length:=by omega
  clear ih;rw[jN rfl]at p2;rw[<-p2];(repeat' ((first|(apply A9<;>intro hc<;>try omega)|apply A2)<;>conv=>whnf))
  exact BV rfl (GD _)
theorem AlT (N:n7 L) (S:FQ) (dm kz:Nat) (KK:Nat->Nat) (h:S.Ok dm kz) (hn:dm<=64) (st xs:List Rat) (q1 q2:Bool) (j8:st.length=dm) (bxs:Bs kz xs) (Bb:xs.length<=4096)
  (Hr : ∀ i,i<=xs.length->Bs (KK i) (S.state st (xs.take i))) (hK : ∀ i,i<xs.length->dm*(kz+KK i+1)+(kz+kz)+1<1099511627776) (hK1 : ∀ i,i<=xs.length->KK i<1099511627776) (Oy:kz<1099511627776) :
  Ev L 133 [.agg (eS S),.sl q1 (st.map eQ),.sl q2 (xs.map eQ)] (.g8 [.sl false ((S.outs st xs).map eQ),.sl false ((S.state st xs).map eQ),.int .i64 0]):=by
 have Ss:=uT N S dm kz h hn;have Ay:=h.la;have Ga:=h.lb;have ke:=h.lc;have bst:Bs (KK 0) st:=Hr 0 (by omega);have jk:=hK1 0 (by omega);refine Ev.x N.SJ rfl rfl ?_;(repeat' ((first|(apply A9<;>intro hc<;>try omega)|apply BT|apply A2|refine AP (Ss) ?_)<;>conv=>whnf))
 refine GJ (enc:=eO) none st.length rfl rfl (by omega) ?_;(conv=>whnf)
 (repeat' (apply BT<;>conv=>whnf))
 refine G6 (λ i=>st.length-i) (λ(i:Nat)=>i<=st.length) (λ i=>[(35,.int .i64 i)]) (λ i=>[(133032,133032,.rw 3 ((GU (st.take i) st.length).map eO))]) [] [] 0 (by first|exact (by (conv=>whnf);exact ⟨rfl,rfl,rfl⟩)|(rw[List.take_zero,<-QY];exact (by (conv=>whnf);exact ⟨rfl,rfl,rfl⟩))) (by omega) ?_;intro i p1 ih;by_cases hi:i<st.length
 ·obtain ⟨x,hx⟩ : ∃ x,st[i]? = some x:=⟨_,zE hi⟩
  have nr:st[(i:Int).toNat]? = some x:=hx;have hT:=bT N.toa5 (bst.at hx) (by omega);have hl:=OU (l:=st.take i) (m:=st.length) (by rw[List.length_take];omega);have hs:=PZ (l:=st.take i) (m:=st.length) (x:=x) (by rw[List.length_take];omega);rw[List.length_take,Nat.min_eq_left (by omega),<-lY hx]at hs;(repeat' ((first|(apply A9<;>intro hc<;>try omega)|(apply B5;omega)|(refine CN (by assumption) ?_ rfl ?_;omega)|apply A2|refine AP (hT) ?_)<;>conv=>whnf))
  refine KS (enc:=eO) (some x) rfl (λ e=>by cases e<;>rfl) (by omega) ?_;(conv=>whnf)
  (repeat' ((first|(apply BG;omega)|fail)<;>conv=>whnf))
  rw[hs];exact CZ [] (ih (i+1) (by omega) (by omega))
 obtain rfl:i=st.length:=by omega
 clear ih;rw[zT (Nat.le_refl _),QX rfl];(repeat' ((first|(apply A9<;>intro hc<;>try omega)|apply BT|apply A2)<;>conv=>whnf))
 refine GJ (enc:=eO) none 0 rfl rfl (by omega) ?_;(conv=>whnf)
 (repeat' (apply BT<;>conv=>whnf))
 refine iI (λ i _ _ _=>xs.length-i) (λ(i:Nat) (nw os:List Rat) (_:Nat)=>i<=xs.length/\nw=S.state st (xs.take i)/\os=S.outs st (xs.take i)) (λ i nw os _=>[(51,.int .i64 i),(12,.row 133048 0 3 0 os.length),(9,.row 133032 0 3 0 nw.length)]) (λ i nw os t=>[(133048,133048,.rw 3 (os.map eQ)),(133032,t,.rw 3 (nw.map eQ))]) [] [] 0 st [] 133032 (by (conv=>whnf);exact ⟨rfl,rfl,rfl⟩) ⟨by omega,rfl,rfl⟩ ?_;intro i nw os t ⟨p1,p2,p3⟩ ih;have eu:nw.length=dm:=by rw[p2];exact h.nv _ _ j8
 have Pg:os.length=i:=by rw[p3,yD,List.length_take];omega
 by_cases hi:i<xs.length
 ·obtain ⟨x,hx⟩ : ∃ x,xs[i]? = some x:=⟨_,zE hi⟩
  have nr:xs[(i:Int).toNat]? = some x:=hx;have bx:=bxs.at hx;have Nj:Bs (KK i) nw:=by rw[p2];exact Hr i (by omega)
  have AJr:=hK i (by omega);have hk1:=hK1 i (by omega);have Wp:S.state st (xs.take (i+1))=S.next nw x:=by rw[lY hx,Agh,<-p2]
  have Vp:S.outs st (xs.take (i+1))=os++[S.out nw x]:=by rw[lY hx,Afd,<-p2,<-p3]
  generalize KK i=kk at *;have hP:=λ q q'=>AcW N S.c nw q q' kz kk (by omega) h.bc Nj (by rw[ke];omega) (by omega)
  have ju:=LL N.toa5 h.bd bx (by omega) (by omega);have bd1:=h.bc.dot Nj;rw[ke]at bd1;have Dk:=LK N.toa5 bd1 (h.bd.mul bx) (by omega) (by omega);(repeat' ((first|(apply A9<;>intro hc<;>try omega)|(refine CN (by assumption) ?_ rfl ?_;omega)|(refine FO (λ_=>rfl) rfl ?_ ?_;(first|rfl|simp))|apply GY|apply A2|refine AP (hP _ _) ?_|refine AP (ju) ?_|refine AP (Dk) ?_)<;>conv=>whnf))
  refine H8 (enc:=eQ) (S.out nw x) rfl rfl rfl (by omega) (by omega) ?_;(conv=>whnf)
  skip
  refine GJ (enc:=eO) none nw.length rfl rfl (by omega) ?_;(conv=>whnf)
  (repeat' (apply BT<;>conv=>whnf))
  have zr:=h.mq nw x;generalize hNx:S.next nw x=nx at *
  refine G6 (λ j=>S.a.length-j) (λ(j:Nat)=>j<=S.a.length) (λ j=>[(73,.int .i64 j)]) (λ j=>[(133069,133069,.rw 3 ((GU (nx.take j) nw.length).map eO))]) [] [] 0 (by first|exact (by (conv=>whnf);exact ⟨rfl,rfl,rfl⟩)|(rw[List.take_zero,<-QY];exact (by (conv=>whnf);exact ⟨rfl,rfl,rfl⟩))) (by omega) ?_;intro j r1 jh;by_cases hj:j<S.a.length
  ·obtain ⟨r,hr⟩ : ∃ r,S.a[j]? = some r:=⟨_,zE hj⟩
   obtain ⟨b,jx⟩ : ∃ b,S.b[j]? = some b:=⟨_,zE (by omega)⟩;have vg:S.a[(j:Int).toNat]? = some r:=hr;have m4:S.b[(j:Int).toNat]? = some b:=jx;have gj:=h.lr r (zM hr);have bb:=h.bb.at jx;have Hs:=λ q q'=>AcW N r nw q q' kz kk (by omega) (h.ba r (zM hr)) Nj (by rw[gj];omega) (by omega)
   have nb:=LL N.toa5 bb bx (by omega) (by omega);have bd2:=(h.ba r (zM hr)).dot Nj;rw[gj]at bd2;have Hm:=LK N.toa5 bd2 (bb.mul bx) (by omega) (by omega);have hnj:nx[j]? = some (CI r nw+b*x):=by rw[<-hNx];exact xR nw x S.a S.b j r b hr jx
   have hl:=OU (l:=nx.take j) (m:=nw.length) (by rw[List.length_take];omega);have hs:=PZ (l:=nx.take j) (m:=nw.length) (x:=CI r nw+b*x) (by rw[List.length_take];omega);rw[List.length_take,Nat.min_eq_left (by omega),<-lY hnj]at hs;generalize CI r nw+b*x=y at *;(repeat' ((first|(apply A9<;>intro hc<;>try omega)|(apply B5;omega)|(refine CN (by assumption) ?_ rfl ?_;omega)|(refine FO (λ_=>rfl) rfl ?_ ?_;(first|rfl|simp))|apply A2|refine AP (Hs _ _) ?_|refine AP (nb) ?_|refine AP (Hm) ?_)<;>conv=>whnf))
   refine KS (enc:=eO) (some y) rfl (λ e=>by cases e<;>rfl) (by omega) ?_;(conv=>whnf)
   (repeat' ((first|(apply BG;omega)|fail)<;>conv=>whnf))
   rw[hs];exact CZ [] (jh (j+1) (by omega) (by omega))
  ·obtain rfl:j=S.a.length:=by omega
   clear jh;rw[zT (by omega),QX (by omega)];rw[show nw.length=nx.length by omega];(repeat' ((first|(apply A9<;>intro hc<;>try omega)|(apply BG;omega)|apply A2)<;>conv=>whnf))
   refine CZ [(133032,133069),(133048,133066)] (ih (i+1) nx (os++[S.out nw x]) 133069 (by omega) ⟨by omega,by rw[Wp],by rw[Vp]⟩)
 ·obtain rfl:i=xs.length:=by omega
  clear ih;rw[zT (Nat.le_refl _)]at p2 p3;rw[<-p2,<-p3];(repeat' ((first|(apply A9<;>intro hc<;>try omega)|(refine FO (λ_=>rfl) rfl ?_ ?_;(first|rfl|simp))|apply A2)<;>conv=>whnf))
  exact BV rfl (AjN _ _ _)
theorem AlK (N:n7 L) (S:FQ) (n k c:Nat) (h:S.Ok n k) (hn:n<=64) (jb:c<=4096) (hRc : ∀ q1 q2,Ev L 133 [.agg (eS S),.sl q1 ((List.replicate n (0:Rat)).map eQ),.sl q2 ((LM c).map eQ)] (.g8 [.sl false ((S.outs (List.replicate n 0) (LM c)).map eQ),.sl false ((S.state (List.replicate n 0) (LM c)).map eQ),.int .i64 0])) :
  Ev L 134 [.agg (eS S),.int .i64 (c:Int)] (.g8 [.sl false ((S.outs (List.replicate n 0) (LM c)).map eQ),.int .i64 0]):=by
 have Ss:=uT N S n k h hn;have Ay:=h.la;have hO:=IV N.toa5 0 (by omega);have hI:=IV N.toa5 1 (by omega);have hZ:=Am9 N n (by omega);rw[<-Ay]at hZ;have hR:=hRc;rw[<-Ay]at hR ⊢;refine Ev.x N.SH rfl rfl ?_;(repeat' ((first|(apply A9<;>intro hc<;>try omega)|apply A2|refine AP (Ss) ?_)<;>conv=>whnf))
 refine LE 1000 N.NZ rfl rfl ?_;(repeat' (apply A2<;>conv=>whnf))
 refine GJ (enc:=eO) none c rfl rfl (by omega) ?_;(conv=>whnf)
 skip
 refine G6 (λ i=>c-i) (λ(i:Nat)=>i<=c) (λ i=>[(9,.int .i64 i)]) (λ i=>[(131006,131006,.rw 3 ((GU (List.replicate i 0) c).map eO))]) [] [] 0 (by first|exact (by (conv=>whnf);exact ⟨rfl,rfl,rfl⟩)|(rw[<-QY];exact (by (conv=>whnf);exact ⟨rfl,rfl,rfl⟩))) (by omega) ?_;intro i p1 ih;by_cases hi:i<c
 ·have hl:=OU (l:=List.replicate i (0:Rat)) (m:=c) (by simp;omega)
  have hs:=PZ (l:=List.replicate i (0:Rat)) (m:=c) (x:=0) (by simp;omega);rw[List.length_replicate]at hs;(repeat' ((first|(apply A9<;>intro hc<;>try omega)|(apply B5;omega)|apply A2|refine AP (hO) ?_)<;>conv=>whnf))
  refine KS (enc:=eO) (some 0) rfl (λ e=>by cases e<;>rfl) (by omega) ?_;(conv=>whnf)
  (repeat' ((first|(apply BG;omega)|fail)<;>conv=>whnf))
  rw[hs];rw[show List.replicate i (0:Rat)++[0]=List.replicate (i+1) 0 by rw[List.replicate_succ']];exact CZ [] (ih (i+1) (by omega) (by omega))
 obtain rfl:i=c:=by omega
 clear ih;rw[QX (by simp)];by_cases Bu:i=0
 ·subst Bu
  (repeat' ((first|(apply A9<;>intro hc<;>try omega)|apply A2)<;>conv=>whnf))
  refine ⟨rfl,_,rfl,?_⟩;(conv=>whnf)
  (repeat' ((first|(apply A9<;>intro hc<;>try omega)|apply BT|(refine FO (λ_=>rfl) rfl ?_ ?_;(first|rfl|simp))|refine AP (hZ) ?_|refine AP (hR _ _) ?_)<;>conv=>whnf))
  exact BV rfl (Abq _ _)
 ·have himp:(List.replicate i (0:Rat)).set 0 1=LM i:=by
   rcases i with _|i
   ·exact absurd rfl Bu
   ·simp [LM,List.replicate_succ]
  (repeat' ((first|(apply A9<;>intro hc<;>try omega)|apply A2)<;>conv=>whnf))
  refine ⟨rfl,_,rfl,?_⟩;(conv=>whnf)
  (repeat' ((first|(apply A9<;>intro hc<;>try omega)|(apply B5;omega)|refine AP (hI) ?_)<;>conv=>whnf))
  refine NA (enc:=eQ) 0 1 rfl rfl (λ_=>rfl) (by simp;omega) ?_;(conv=>whnf)
  rw[himp];(repeat' ((first|apply BT|refine AP (hZ) ?_)<;>conv=>whnf))
  refine FO (enc:=eQ) (λ_=>rfl) rfl (Z7 i).symm ?_;(conv=>whnf)
  (repeat' (refine AP (hR _ _) ?_<;>conv=>whnf))
  exact BV rfl (Abq _ _)
end Go.b8

namespace Go.b8
open F
attribute [local irreducible] AJ A3 BU AU FE BR C1 CK DS DE FA G7 DR B2 EH E5 AL CQ BC pw FM E2 F7 G8 GX EG FK EE FZ
variable {L:Lib} (n:Nt)
set_option maxHeartbeats 1000000
theorem oV (I:c5 L) (J:y6 L):Ev L 27 [.agg (FS n)] (.bool (HD n)):=by
 refine Ev.x J.VO rfl rfl ?_;(repeat' ((first|(apply A9<;>intro hc<;>try omega)|apply BT|apply A2|refine HV (oU ⟨_,_,_,_⟩ I) (λ hf => ?_) (λ hf => ?_)|refine HV (ZZ I _ _ _) (λ hf => ?_) (λ hf => ?_))<;>conv=>whnf))
 all_goals try (
  refine JO (XA ?_);rw[F5];rintro ⟨x1,x2,x3,_⟩
  first|contradiction|omega)
 rename_i h1 h2 h5;have h3:=hf;have h6:=hc;have h1:WV n.d:=h1;have h2:WV n.c:=h2;have hw:=h2;unfold WV at hw;refine G5 (λ i=>n.nodes.length-i) (λ(i:Nat)=>i<=n.nodes.length/\JZ n.c n.s i (n.nodes.drop i)=JZ n.c n.s 0 n.nodes) (λ i=>[(3,.int .i64 i)]) (λ_=>[]) 0 ⟨by omega,rfl⟩ ?_;intro i ⟨p1,p2⟩ ih;(repeat' ((first|(apply A9<;>intro hc<;>try omega)|(apply BG;omega)|apply BT|(refine MD ?_ (λ_=>rfl) (λ e he => ?_);omega)|apply A2)<;>conv=>whnf))
 ·rename Nd=>nd
  have hnd:=he;rw[LX hnd,JZ,decide_eq_false (by omega)]at p2;refine JO (XA ?_);rw[F5,<-p2];simp
 ·rename Nd=>nd
  have hnd:=he;rw[LX hnd,JZ,decide_eq_true (by omega),Bool.true_and]at p2;refine G5 (λ j=>nd.ts.length-j) (λ(j:Nat)=>j<=nd.ts.length/\(nd.ts.drop j).all (I6 n.c n.s i)=nd.ts.all (I6 n.c n.s i)) (λ j=>[(4,.int .i64 j)]) (λ_=>[]) 0 ⟨by omega,rfl⟩ ?_;intro j ⟨r1,r2⟩ lk;(repeat' ((first|(apply A9<;>intro hc<;>try omega)|(apply BG;omega)|(refine IY ?_ (λ_ _ => ?_);omega)|(apply EM;omega)|apply BT|(refine CN (by assumption) ?_ rfl ?_;omega)|(refine MD ?_ (λ_=>rfl) (λ e he => ?_);omega)|apply A2|refine HV (AmW ⟨_,_,_,_⟩ I _) (λ hf => ?_) (λ hf => ?_)|refine HV (ZZ I _ _ _) (λ hf => ?_) (λ hf => ?_))<;>conv=>whnf))
  all_goals try (
   have hb:I6 n.c n.s i e=false:=by
    simp only[I6,decide_eq_false_iff_not];intro hh;first|omega|exact absurd hh.2.2 (λ hx=>hx.elim (λ hx=>by omega) (λ hx=>by contradiction))
   rw[LX he,List.all_cons,hb,Bool.false_and]at r2;rw[<-r2,Bool.false_and]at p2;refine JO (XA ?_);rw[F5,<-p2];simp;done)
  all_goals try (
   have hb:I6 n.c n.s i e=true:=by
    simp only[I6,decide_eq_true_eq];exact ⟨by omega,by omega,by first|exact Or.inr (by assumption)|exact Or.inl (by assumption)⟩
   rw[LX he,List.all_cons,hb,Bool.true_and]at r2;exact DP [] (by (conv=>whnf);exact ⟨rfl,rfl,rfl⟩) (lk (j+1) (by omega) ⟨by omega,r2⟩))
  rw[QV (by omega)]at r2;rw[<-r2,List.all_nil,Bool.true_and]at p2;exact CZ [] (ih (i+1) (by omega) ⟨by omega,p2⟩)
 ·rw[QV (by omega),JZ]at p2
  refine G5 (λ i=>n.next.length-i) (λ(i:Nat)=>i<=n.next.length/\MW (n.s+n.nodes.length) (n.next.drop i)=MW (n.s+n.nodes.length) n.next) (λ i=>[(7,.int .i64 i)]) (λ_=>[]) 0 ⟨by omega,rfl⟩ ?_;intro k ⟨r1,r2⟩ Xj;(repeat' ((first|(apply A9<;>intro hc<;>try omega)|(apply BG;omega)|(refine MD ?_ (λ_=>rfl) (λ e he => ?_);omega)|apply A2|refine HV (ZZ I _ _ _) (λ hf => ?_) (λ hf => ?_))<;>conv=>whnf))
  all_goals try (
   have hb:decide (0<=e/\e<=n.s+n.nodes.length)=false:=by (rw[decide_eq_false_iff_not];omega)
   rw[LX he,MW,List.all_cons,hb,Bool.false_and]at r2;refine JO (XA ?_);rw[F5,<-r2];simp;done)
  all_goals try (
   have hb:decide (0<=e/\e<=n.s+n.nodes.length)=true:=by (rw[decide_eq_true_eq];omega)
   rw[LX he,MW,List.all_cons,hb,Bool.true_and]at r2;exact DP [] (by (conv=>whnf);exact ⟨rfl,rfl,rfl⟩) (Xj (k+1) (by omega) ⟨by omega,r2⟩))
  all_goals (
   rw[QV (by omega)]at r2;first
    | (refine JO (eqT ?_);rw[F5];exact ⟨h1,h2,by omega,p2.symm,r2.symm,by omega,by omega⟩)
    | (refine JO (XA ?_);rw[F5];omega))
def IR (w:Wd) (l:List Int):Bool:=l.all λ v=>decide (FT w v)
def OI (st ins:List Int):Int:=if (st.length:Int)≠n.s then 1 else if IR n.d st&&IR n.d ins then 0 else 17
theorem Amq (I:c5 L) (J:y6 L) (st ins:List Int) (q1 q2:Bool) (hn:st.length<9223372036854775808) (hm:ins.length<9223372036854775808):Ev L 22 [.agg (FS n),.sl q1 (st.map DT),.sl q2 (ins.map DT)] (.int .i64 (OI n st ins)):=by
 refine Ev.x J.SX rfl rfl ?_;(repeat' ((first|(apply A9<;>intro hc<;>try omega)|apply BT|apply A2)<;>conv=>whnf))
 ·exact ET (by rw[OI,if_pos hc])
 have h0:=hc;refine G5 (λ i=>st.length-i) (λ(i:Nat)=>i<=st.length/\IR n.d (st.drop i)=IR n.d st) (λ i=>[(18,.int .i64 i)]) (λ_=>[]) 0 ⟨by omega,rfl⟩ ?_;intro i ⟨p1,p2⟩ ih;(repeat' ((first|(apply A9<;>intro hc<;>try omega)|(apply BG;omega)|apply BT|(refine MD ?_ (λ_=>rfl) (λ e he => ?_);omega)|apply A2|refine HV (XC ⟨_,_,_,_⟩ I _) (λ hf => ?_) (λ hf => ?_))<;>conv=>whnf))
 ·rw[LX he,IR,List.all_cons,decide_eq_true hf,Bool.true_and]at p2
  exact CZ [] (ih (i+1) (by omega) ⟨by omega,p2⟩)
 ·rw[LX he,IR,List.all_cons,decide_eq_false hf,Bool.false_and]at p2
  exact ET (by rw[OI,if_neg (by omega),<-p2];simp)
 ·rw[QV (by omega)]at p2
  refine G5 (λ i=>ins.length-i) (λ(i:Nat)=>i<=ins.length/\IR n.d (ins.drop i)=IR n.d ins) (λ i=>[(30,.int .i64 i)]) (λ_=>[]) 0 ⟨by omega,rfl⟩ ?_;intro j ⟨r1,r2⟩ lk;(repeat' ((first|(apply A9<;>intro hc<;>try omega)|(apply BG;omega)|(refine MD ?_ (λ_=>rfl) (λ e he => ?_);omega)|apply A2|refine HV (XC ⟨_,_,_,_⟩ I _) (λ hf => ?_) (λ hf => ?_))<;>conv=>whnf))
  ·rw[LX he,IR,List.all_cons,decide_eq_true hf,Bool.true_and]at r2
   exact DP [] (by (conv=>whnf);exact ⟨rfl,rfl,rfl⟩) (lk (j+1) (by omega) ⟨by omega,r2⟩)
  ·rw[LX he,IR,List.all_cons,decide_eq_false hf,Bool.false_and]at r2
   exact ET (by rw[OI,if_neg (by omega),<-r2];simp)
  ·rw[QV (by omega)]at r2
   exact ET (by rw[OI,if_neg (by omega),<-r2,<-p2];rfl)
def WC (vals:List Int):Int->List (Int × Int)->Int
 | acc,[]=>acc
 | acc,t::ts=>WC vals (IntKind.i64.wrap (acc+IntKind.i64.wrap (t.2*vals.getD t.1.toNat 0))) ts
theorem Agt (vals:List Int) : ∀ (ts:List (Int × Int)) (acc:Int),GW acc->GW (WC vals acc ts)
 | [],acc,h=>h
 | t::ts,acc,_=>Agt vals ts _ (Ahj _)
def XR (vals:List Int) (nd:Nd):Int:=OD (WC vals 0 nd.ts) n.c.f n.d.r
def JJ:List Int->Bool->List Nd->List Int × Bool
 | vals,ov,[]=>(vals,ov)
 | vals,ov,nd::l=>JJ (vals++[cN n.d (XR n vals nd)]) (ov || !decide (FT n.d (XR n vals nd))) l
theorem Api {vals:List Int} {i:Nat} {nd:Nd} (h:nd.ts.all (I6 n.c n.s i)=true) (hl:(vals.length:Int)=1+n.s+i) : ∀ t∈nd.ts,0<=t.1/\t.1<vals.length:=λ t ht=>by
 have:=List.all_eq_true.1 h t ht
 simp only[I6,decide_eq_true_eq]at this;omega
theorem Amo (I:c5 L) (J:y6 L) (st:List Int) (q1:Bool) (input:Int) (hv:HD n=true) (j8:(st.length:Int)=n.s):Ev L 23 [.agg (FS n),.sl q1 (st.map DT),.int .i64 input] (.g8 [.sl false ((JJ n (input::st) false n.nodes).1.map DT),.bool (JJ n (input::st) false n.nodes).2]):=by
 rw[F5]at hv;obtain ⟨h1,h2,h3,h4,h5,h6⟩:=hv;refine Ev.x J.SP rfl rfl ?_;(repeat' ((first|(apply BG;omega)|apply BT|apply A2)<;>conv=>whnf))
 refine GJ (enc:=DT) 0 0 rfl rfl (by omega) ?_;(conv=>whnf)
 (repeat' (apply GY<;>conv=>whnf))
 refine H8 (enc:=DT) (l:=[]) input rfl rfl rfl (by simp) (by simp) ?_;(conv=>whnf)
 refine mK (enc:=DT) rfl (λ_=>rfl) (by simp;omega) (by simp;omega) ?_;(conv=>whnf)
 (repeat' (apply BT<;>conv=>whnf))
 refine LD (λ i _ _=>n.nodes.length-i) (λ(i:Nat) (vals:List Int) (ov:Bool)=>i<=n.nodes.length/\(vals.length:Int)=1+n.s+i/\JZ n.c n.s i (n.nodes.drop i)=true/\JJ n vals ov (n.nodes.drop i)=JJ n (input::st) false n.nodes) (λ i vals ov=>[(8,.row 30 0 1 0 vals.length),(9,.bool ov),(34,.int .i64 i)]) (λ i vals ov=>[(30,23,.rw 1 (vals.map DT))]) 0 (input::st) false ⟨by simp,by simp;omega,h4,rfl⟩ ?_;intro i vals ov ⟨p1,p2,p3,p4⟩ ih;(repeat' ((first|(apply A9<;>intro hc<;>try omega)|apply BT|(refine MD ?_ (λ_=>rfl) (λ e he => ?_);omega)|(refine FO (λ_=>rfl) rfl ?_ ?_;(first|rfl|simp))|apply A2)<;>conv=>whnf))
 ·rename Nd=>nd
  have hnd:=he;rw[LX hnd]at p3 p4;simp only[JZ,Bool.and_eq_true,decide_eq_true_eq]at p3;obtain ⟨⟨hnt,fc⟩,Mq⟩:=p3;have hf:=Api n fc p2;have hI:GW (WC vals 0 nd.ts):=Agt vals _ _ (by unfold GW;omega);refine IX (λ j _=>nd.ts.length-j) (λ(j:Nat) (acc:Int)=>j<=nd.ts.length/\WC vals acc (nd.ts.drop j)=WC vals 0 nd.ts) (λ j acc=>[(12,.int .i64 acc),(41,.int .i64 j)]) (λ_ _=>[]) 0 0 ⟨by simp,rfl⟩ ?_;intro j acc ⟨r1,r2⟩ lk;(repeat' ((first|(apply A9<;>intro hc<;>try omega)|(refine MD ?_ (λ_=>rfl) (λ e he => ?_);omega)|apply A2)<;>conv=>whnf))
  ·have:=hf e (zM he)
   (repeat' ((first|(apply B5;omega)|(apply BG;omega)|apply sK|apply Air|(refine WS ?_ (λ_=>rfl) (λ v hv => ?_);omega))<;>conv=>whnf))
   rw[LX he,WC]at r2;refine DP [] (by (conv=>whnf);exact ⟨rfl,rfl,rfl⟩) (lk (j+1) _ (by omega) ⟨by omega,?_⟩);rw[<-r2,List.getD_eq_getElem?_getD,hv];rfl
  ·rw[QV (by omega),WC]at r2
   subst r2;cases ov;all_goals (repeat' ((first|apply GY|refine HV (XC ⟨_,_,_,_⟩ I _) (λ hf => ?_) (λ hf => ?_)|refine AP (Al3 I _ _ _ hI) ?_|refine AP (Al1 ⟨_,_,_,_⟩ I _) ?_)<;>conv=>whnf))
   all_goals (
    refine H8 (enc:=DT) _ rfl rfl rfl (by omega) (by omega) ?_;(conv=>whnf)
    (repeat' ((first|(apply BG;omega)|fail)<;>conv=>whnf))
    refine DP [(30,78)] (by (conv=>whnf);exact ⟨rfl,rfl,rfl⟩) (ih (i+1) _ _ (by omega) ⟨by omega,by simp;omega,Mq,?_⟩);rw[<-p4,JJ];first|rfl|(have hf:FT n.d (XR n vals nd):=hf;rw[decide_eq_true hf];rfl)|(have hf : ¬ FT n.d (XR n vals nd):=hf;rw[decide_eq_false hf];rfl))
 ·rw[QV (by omega),JJ]at p4
  rw[<-p4];exact BV rfl (by simp [B3,EC,jC])
theorem ArI {st ins:List Int} (h:OI n st ins=0):(st.length:Int)=n.s:=by
 unfold OI at h;split at h
 ·cases h
 ·omega
theorem YQ {α:Type} {o F:List α} {i:Nat} {v:α} (hl:o.length=F.length) (h:o.take i=F.take i) (hv:F[i]? = some v):(o.set i v).length=F.length/\(o.set i v).take (i+1)=F.take (i+1):=by
 obtain ⟨hi,rfl⟩:=zS hv;refine ⟨by simp [hl],?_⟩;rw[List.take_add_one,List.take_add_one,<-h];congr 1
 ·rw[List.take_set_of_le (Nat.le_refl i)]
 ·rw[hv];simp [hl,hi]
theorem kE {α:Type} {o F:List α} {i:Nat} (hl:o.length=F.length) (h:o.take i=F.take i) (hi:F.length<=i):o=F:=by
 rwa [zT (by omega),zT hi]at h
def MK (vals:List Int):List Int:=n.next.map λ k=>vals.getD k.toNat 0
theorem Amp (J:y6 L) (vals:List Int) (q:Bool) (hv:HD n=true) (hl:(vals.length:Int)=1+n.s+n.nodes.length):Ev L 25 [.agg (FS n),.sl q (vals.map DT)] (.sl false ((MK n vals).map DT)):=by
 rw[F5]at hv;obtain ⟨h1,h2,h3,h4,h5,h6⟩:=hv;refine Ev.x J.SR rfl rfl ?_;(repeat' (apply A2<;>conv=>whnf))
 refine Aih (enc:=DT) 0 rfl (by omega) (by omega) ?_;(conv=>whnf)
 (repeat' (apply BT<;>conv=>whnf))
 have hF:(MK n vals).length=n.next.length:=by simp [MK]
 refine dO (λ i _=>n.next.length-i) (λ(i:Nat) (o:List Int)=>i<=n.next.length/\o.length=(MK n vals).length/\o.take i=(MK n vals).take i) (λ i o=>[(5,.row 10 0 1 0 o.length),(14,.int .i64 i)]) (λ i o=>[(10,10,.rw 1 (o.map DT))]) [] [] 0 (List.replicate n.s.toNat 0) (by rw[List.length_replicate];exact (by (conv=>whnf);exact ⟨rfl,rfl,rfl⟩)) ⟨by simp,by simp [hF];omega,by simp⟩ ?_;intro i o ⟨p1,p2,p3⟩ ih;(repeat' ((first|(apply A9<;>intro hc<;>try omega)|(refine MD ?_ (λ_=>rfl) (λ e he => ?_);omega)|(refine FO (λ_=>rfl) rfl ?_ ?_;(first|rfl|simp))|apply A2)<;>conv=>whnf))
 ·have hb:=List.all_eq_true.1 h5 _ (zM he)
  simp only[decide_eq_true_eq]at hb;(repeat' ((first|(apply B5;omega)|(refine iR ?_ (λ_=>rfl) (λ e he => ?_);omega))<;>conv=>whnf))
  rename_i kk hk;have hF':(MK n vals)[i]? = some e:=by
   simp only[MK,List.getElem?_map,hk,Option.map_some,List.getD_eq_getElem?_getD,he,Option.getD_some]
  obtain ⟨f1,f2⟩:=YQ p2 p3 hF';refine KS (enc:=DT) e rfl (λ_=>rfl) (by omega) ?_;(conv=>whnf)
  (repeat' ((first|(apply BG;omega)|fail)<;>conv=>whnf))
  exact DP [] (by rw[List.length_set];exact (by (conv=>whnf);exact ⟨rfl,rfl,rfl⟩)) (ih (i+1) (o.set i e) (by omega) ⟨by omega,f1,f2⟩)
 ·exact BV (by rw[kE p2 p3 (by omega)]) (by simp [B3,jC])
theorem tR : ∀ (l:List Nd) (vals:List Int) (ov:Bool),(JJ n vals ov l).1.length=vals.length+l.length
 | [],vals,ov=>rfl
 | nd::l,vals,ov=>by rw[JJ,tR l];simp;omega
theorem AdG {l:List Int} {i:Nat} {e:Int} (h:l[i]? = some e):l.getD i 0=e:=by rw[List.getD_eq_getElem?_getD,h];rfl
def PL:List Int->List Int->Int->List Int->List Int × List Int × Int
 | outs,st,c,[]=>(outs,st,c)
 | outs,st,c,x::xs=>PL (outs++[(JJ n (x::st) false n.nodes).1.getD n.out.toNat 0]) (MK n (JJ n (x::st) false n.nodes).1) (if (JJ n (x::st) false n.nodes).2 then c+1 else c) xs
def P9 (st ins:List Int):List Int × List Int × Int × Int :=
 if HD n then (if ins.length>4096 then ([],[],0,4) else if OI n st ins=0 then ((PL n [] st 0 ins).1,(PL n [] st 0 ins).2.1,(PL n [] st 0 ins).2.2,0) else ([],[],0,OI n st ins)) else ([],[],0,2)
theorem Ap9 {st ins:List Int} (h:HD n=false):P9 n st ins=([],[],0,2):=by rw[P9,h];rfl
theorem Aqa {st ins:List Int} (h:HD n=true) (h2:ins.length>4096):P9 n st ins=([],[],0,4):=by rw[P9,if_pos h,if_pos h2]
theorem Aqb {st ins:List Int} (h:HD n=true) (h2 : ¬ ins.length>4096) (h3:OI n st ins≠0):P9 n st ins=([],[],0,OI n st ins):=by rw[P9,if_pos h,if_neg h2,if_neg h3]
theorem AfD {st ins:List Int} (h:HD n=true) (h2 : ¬ ins.length>4096) (h3:OI n st ins=0):P9 n st ins=((PL n [] st 0 ins).1,(PL n [] st 0 ins).2.1,(PL n [] st 0 ins).2.2,0):=by rw[P9,if_pos h,if_neg h2,if_pos h3]
theorem Amn (I:c5 L) (J:y6 L) (R:gv L) (st ins:List Int) (q1 q2:Bool) (hs:st.length<9223372036854775808) (hi:ins.length<9223372036854775808):Ev L 43 [.agg (FS n),.sl q1 (st.map DT),.sl q2 (ins.map DT)] (.g8 [.sl false ((P9 n st ins).1.map DT),.sl false ((P9 n st ins).2.1.map DT),.int .i64 (P9 n st ins).2.2.1,.int .i64 (P9 n st ins).2.2.2]):=by
 refine Ev.x R.SK rfl rfl ?_;(repeat' ((first|(apply A9<;>intro hc<;>try omega)|apply BT|apply A2|refine Ah9 (vC n I J) (λ hf => ?_) (λ hf => ?_)|refine AP (Amq n I J st ins _ _ hs hi) ?_)<;>conv=>whnf))
 ·rw[Aqa n hf (by omega)]
  exact BV rfl (by simp [B3,EC,IH])
 ·rw[Aqb n hf (by omega) hc]
  exact BV rfl (by simp [B3,EC,IH])
 ·rw[AfD n hf (by omega) hc]
  have j8:=ArI n hc;have hv:=(F5 n).1 hf;obtain ⟨g1,g2,g3,g4,g5,g6⟩:=hv;refine GJ (enc:=DT) 0 st.length rfl rfl (by omega) ?_;(conv=>whnf)
  refine Ye (enc:=DT) (by simp) (by simp) (λ_=>rfl) ?_;(conv=>whnf)
  (repeat' (apply BT<;>conv=>whnf))
  refine GJ (enc:=DT) 0 0 rfl rfl (by omega) ?_;(conv=>whnf)
  (repeat' (apply BT<;>conv=>whnf))
  refine iI (λ i _ _ _=>ins.length-i) (λ(i:Nat) (outs now:List Int) (c:Int)=>i<=ins.length/\outs.length=i/\(now.length:Int)=n.s/\0<=c/\c<=i/\PL n outs now c (ins.drop i)=PL n [] st 0 ins) (λ i outs now c=>[(11,.row 33 0 1 0 now.length),(12,.row 39 0 1 0 outs.length),(13,.int .i64 c),(42,.int .i64 i)]) (λ i outs now c=>[(39,39,.rw 1 (outs.map DT)),(33,33,.rw 1 (now.map DT))]) [] [] 0 [] st 0 (by (conv=>whnf);exact ⟨rfl,rfl,rfl⟩) ⟨by omega,rfl,j8,by omega,by omega,rfl⟩ ?_;intro i outs now c ⟨p1,p2,p3,p4,p5,p6⟩ ih;(repeat' ((first|(apply A9<;>intro hc<;>try omega)|(refine MD ?_ (λ_=>rfl) (λ e he => ?_);omega)|(refine FO (λ_=>rfl) rfl ?_ ?_;(first|rfl|simp))|apply A2)<;>conv=>whnf))
  ·have o6:((JJ n (e::now) false n.nodes).1.length:Int)=1+n.s+n.nodes.length:=by rw[tR];simp;omega
   rw[LX he,PL]at p6;(repeat' ((first|refine AP (Amo n I J now _ _ hf p3) ?_|refine AP (Amp n J _ _ hf o6) ?_)<;>conv=>whnf))
   refine Ye (enc:=DT) rfl (by simp [MK];omega) (λ_=>rfl) ?_;(conv=>whnf)
   (repeat' ((first|(refine iR ?_ (λ_=>rfl) (λ e he => ?_);omega)|apply GY)<;>conv=>whnf))
   rename_i x hx;refine H8 (enc:=DT) e rfl rfl rfl (by omega) (by omega) ?_;(conv=>whnf)
   skip
   rw[AdG he]at p6;cases Ph:(JJ n (x::now) false n.nodes).2;all_goals (
    rw[Ph]at p6;(conv=>whnf)
    (repeat' ((first|(apply BG;omega)|fail)<;>conv=>whnf))
    refine DP [(39,65)] (by rw[show now.length=(MK n (JJ n (x::now) false n.nodes).1).length by simp [MK];omega];exact (by (conv=>whnf);exact ⟨rfl,rfl,rfl⟩)) (ih (i+1) _ _ _ (by omega) ⟨by omega,by simp [p2],by simp [MK];omega,?_,?_,p6⟩);all_goals simp;omega)
  ·rw[QV (by omega),PL]at p6
   rw[<-p6];exact BV rfl (by simp [B3,EC,jC])
 ·rw[Ap9 n hf]
  exact BV rfl (by simp [B3,EC,IH])
theorem ApY {w:Wd} (h:WV w) (v:Int):FT w (cN w v):=by
 obtain ⟨h1,h2,h3,h4⟩:=RQ h;have hw:=h;unfold WV at hw;refine ⟨h,?_⟩;unfold cN;rw[if_pos h];split
 ·have e:=qI (n:=w.b) (by omega)
  have a1:0<=v%pw w.b:=Int.emod_nonneg _ (by omega);have a2:v%pw w.b<pw w.b:=Int.emod_lt_of_pos _ (by omega);unfold mI;rw[if_pos (by omega)];split<;>omega
 ·unfold lL;omega
theorem ArC {w:Wd} {l l':List Int} (h:IR w l=true) (h':IR w l'=true):IR w (l++l')=true:=by
 simp only[IR]at *;rw[List.all_append,h,h'];rfl
theorem Zv (hd:WV n.d) : ∀ (l:List Nd) (vals:List Int) (ov:Bool),IR n.d vals=true->IR n.d (JJ n vals ov l).1=true
 | [],vals,ov,h=>h
 | nd::l,vals,ov,h=>by
  rw[JJ];exact Zv hd l _ _ (ArC h (by simp [IR,ApY hd]))
theorem ArD {w:Wd} {l:List Int} (h:IR w l=true) {i:Nat} {e:Int} (he:l[i]? = some e):FT w e:=by
 have:=List.all_eq_true.1 h e (zM he)
 simpa using this
theorem Ani {vals:List Int} (h:IR n.d vals=true) (hx:MW (n.s+n.nodes.length) n.next=true) (hl:(vals.length:Int)=1+n.s+n.nodes.length):IR n.d (MK n vals)=true:=by
 unfold IR MK;rw[List.all_eq_true];intro v hv;obtain ⟨k,hk,rfl⟩:=List.mem_map.1 hv;have hb:=List.all_eq_true.1 hx k hk;simp only[decide_eq_true_eq]at hb;have l7:k.toNat<vals.length:=by omega
 have he:vals[k.toNat]? = some vals[k.toNat]:=zE l7;rw[AdG he];simpa using ArD h he
theorem ArJ {st ins:List Int}:OI n st ins=0↔(st.length:Int)=n.s/\IR n.d st=true/\IR n.d ins=true:=by
 unfold OI;by_cases h:(st.length:Int)≠n.s
 ·rw[if_pos h];constructor
  ·intro h;cases h
  ·intro h';exact absurd h'.1 h
 ·rw[if_neg h]
  simp only[ne_eq,Decidable.not_not]at h;split
  ·rename_i hh
   simp only[Bool.and_eq_true]at hh;exact ⟨λ_=>⟨h,hh⟩,λ_=>rfl⟩
  ·rename_i hh
   simp only[Bool.and_eq_true]at hh;exact ⟨λ h=>(by cases h),λ h=>absurd h.2 hh⟩
end Go.b8
