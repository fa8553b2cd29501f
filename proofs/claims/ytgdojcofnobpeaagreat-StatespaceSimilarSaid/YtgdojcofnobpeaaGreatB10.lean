/-
  Natural numbers (layer 1): greatest common divisors.
-/
import Derived.Test.YtgdojcofnobpeaaGreatB9
import Derived.Test.YtgdojcofnobpeaaGreatB7
import Derived.Test.YtgdojcofnobpeaaGreatB3
import Derived.Test.YtgdojcofnobpeaaGreatB8
import Derived.Test.YtgdojcofnobpeaaGreatB4
import Derived.Test.YtgdojcofnobpeaaGreatB1
set_option linter.unusedSimpArgs false
set_option linter.unusedVariables false
set_option linter.unnecessarySimpa false
namespace Go.Eng
open F
attribute [local irreducible] AH BJ B1 BD EZ CF CG CR CU DW B5 DT EG F7 DM CQ DR EE AR CW BW pw DC C9 EI ET E1 E7 EW D4 E8
set_option maxHeartbeats 4000000
variable {L:Lib}
theorem tE {k':IntKind} {a:Int} {K:AV->Prop} (hk:K (.int .i64 (a/4294967296))):BD .shr .i64 a k' 32 K:=by
 refine Vh (by omega) ?_;have:pw 32=4294967296:=by decide +kernel
 rw[this];exact hk
theorem sO {t:Int} {K:Int->Prop} (hk:K (bY t:Int)):CF .u32 t K:=by
 unfold CF;rw[IntKind.wrap_u32,<-lS];exact hk
section
variable {k':IntKind} {a b:Nat} {K:AV->Prop}
theorem Vg {i:Nat} (hi:i<2) (ha:a<4294967296) (hk:K (.int .u64 ((a*4294967296^i:Nat):Int))):BD .shl .u64 (a:Int) k' (32*(i:Int)) K:=by
 rcases i with _|_|i
 ·exact UR (s:=0) (by omega) (by omega) hk
 ·exact UR (s:=32) (by omega) (by omega) hk
 ·omega
end
theorem Ke {x y M N:Int} (hx : -M<=x/\x<=M) (hy : -N<=y/\y<=N) : -(M*N)<=x*y/\x*y<=M*N:=by
 have h1:x.natAbs<=M.natAbs:=by omega
 have h2:y.natAbs<=N.natAbs:=by omega
 have h3:=Nat.mul_le_mul h1 h2;rw[<-Int.natAbs_mul,<-Int.natAbs_mul]at h3;have h4:0<=M*N:=Int.mul_nonneg (by omega) (by omega);omega
theorem nD (N:d4 L) (a b:List Nat) (q1 q2:Bool) (hA:CP a) (hB:CP b) (la:a.length<=549755813888) (lb:b.length<=549755813888) (h0:val b≠0) :
  Ev L 75 [.sl q1 (a.map BZ),.sl q2 (b.map BZ)] (.tup [.sl false ((dg (val a/val b)).map BZ),.sl false ((dg (val a%val b)).map BZ),.int .i64 0]):=by
 have l1:=HL hA;have l2:=HL hB;have hp:=cC h0;refine Ev.x N.PV rfl rfl ?_;(repeat' ((first|(apply BR<;>intro hc<;>try (exfalso;omega))|apply CB|apply BA|refine NU (OM N a _ hA (by omega)) ?_|refine NU (OM N b _ hB (by omega)) ?_|refine BH (nF N _ _ _ _ h0 (by omega) (by omega)) ?_)<;>conv=>whnf));refine CK rfl ?_;simp only[CT,FG,and_true,true_and];exact ⟨E5 _,E5 _⟩
theorem yG (N:d4 L) (V:Nat) (q:Bool) (hl:(dg V).length<=2):Ev L 76 [.sl q ((dg V).map BZ)] (.int .u64 (V:Int)):=by
 have hV:=T7.1 hl;have hD:=GR V;have hv:=DP V;refine Ev.x N.P6 rfl rfl ?_;generalize dg V=l at *;(repeat' ((first|apply CB|apply BA)<;>conv=>whnf));refine I4 (λ i _=>l.length-i) (λ(i:Nat) (a:Nat)=>i<=l.length/\a=val (l.take i)) (λ i a=>[(3,.int .u64 (a:Int)),(8,.int .i64 i)]) (λ_ _=>[]) [] [] 0 0 (by (conv=>whnf);exact ⟨rfl,rfl,rfl⟩) ⟨by omega,rfl⟩ ?_;intro i a ⟨p1,p2⟩ ih;by_cases hi:i<l.length
 ·obtain ⟨d,hd⟩ : ∃ d,l[i]? = some d:=⟨_,zE hi⟩
  have hdb:=hD.at hd;have h1:=GT hd;have h2:=HT (hD.take i);have h3:=HT (hD.take (i+1));rw[List.length_take,Nat.min_eq_left (by omega)]at h2 h3;have h4:4294967296^(i+1)<=4294967296^2:=Nat.pow_le_pow_right (by omega) (by omega);(repeat' ((first|(apply BR<;>intro hc<;>try (exfalso;omega))|(apply NW;omega)|(apply EJ;omega)|(refine CY (by assumption) ?_ rfl ?_;omega)|apply BA)<;>conv=>whnf));refine Vg (by omega) hdb ?_;(conv=>whnf);rw[Nat.mul_comm d];refine eV (32*i) (by rw[Nat.pow_mul];exact Nat.mul_mod_right _ _) (by rw[Nat.pow_mul,p2];exact h2) (by omega) ?_;(conv=>whnf);(repeat' ((first|(apply CJ;omega)|fail)<;>conv=>whnf));exact DE [] (by (conv=>whnf);exact ⟨rfl,rfl,rfl⟩) (ih (i+1) _ (by omega) ⟨by omega,by rw[h1,p2]⟩)
 ·obtain rfl:i=l.length:=by omega
  clear ih;(repeat' ((first|(apply BR<;>intro hc<;>try (exfalso;omega))|apply BA)<;>conv=>whnf));rw[FL (Nat.le_refl _)]at p2;exact FF (by omega)
theorem kQ {f:Nat} {vs:List AV} {tm:Tm} {M:Mem} {K:AV->Mem->Prop} {v:AV} (h:CW L f vs tm M (λ r M'=>r=v/\M'=M)) (hk:K v M):CW L f vs tm M K:=by
 unfold CW at h ⊢;intro σ own hs;obtain ⟨r,g7,σ',M',h1,h2,h3,rfl,rfl⟩:=h σ own hs;exact ⟨_,g7,σ',_,h1,h2,h3,hk⟩
theorem yF (N:d4 L) (a:List Nat) (q:Bool) (n s:Nat) (hD:CP a) (hn:3<=n) (hl:a.length<=n) (Al:n<=549755813888) (hs:s<=31) (e9:val a*2^s<4294967296^n) :
  Ev L 78 [.sl q (a.map BZ),.int .i64 (n:Int),.int .u64 (s:Int)] (.int .i64 ((val a/Z4 n s:Nat):Int)):=by
 have b1:=WE hD (n-1);have b2:=WE hD (n-2);have b3:=WE hD (n-3);have kn:=Ik hD hn hl rfl rfl e9;have heq:=Ij (s:=s) hD hn hl hs rfl rfl rfl;obtain ⟨f1,f2,f3,f4⟩:=YS (s:=s) b3 (by omega);refine Ev.x N.P2 rfl rfl ?_;(repeat' ((first|(apply CE;omega)|(apply D5;omega)|apply BA)<;>conv=>whnf));refine kQ (v := .int .u64 ((a.getD (n-1) 0:Nat):Int)) ?_ ?_
 ·refine HI 1000 N.LO rfl rfl ?_
  (repeat' ((first|(apply BR<;>intro hc<;>try (exfalso;omega))|(apply EJ;omega)|apply CB|(refine V2 (by assumption) ?_ (λ e he hb => ?_);omega)|apply BA)<;>conv=>whnf))
  ·refine ⟨rfl,_,rfl,?_,rfl⟩
   rw[show ((n:Int)-1).toNat=n-1 by omega]at he;rw[JP he];rfl
  ·refine ⟨rfl,_,rfl,?_,rfl⟩
   rw[<-getD_none (show a.length<=n-1 by omega)];rfl
 (conv=>whnf)
 (repeat' ((first|(apply CE;omega)|(apply D5;omega)|(apply TS;omega))<;>conv=>whnf))
 refine kQ (v := .int .u64 ((a.getD (n-2) 0:Nat):Int)) ?_ ?_
 ·refine HI 1000 N.LO rfl rfl ?_
  (repeat' ((first|(apply BR<;>intro hc<;>try (exfalso;omega))|(apply EJ;omega)|apply CB|(refine V2 (by assumption) ?_ (λ e he hb => ?_);omega)|apply BA)<;>conv=>whnf))
  ·refine ⟨rfl,_,rfl,?_,rfl⟩
   rw[show ((n:Int)-2).toNat=n-2 by omega]at he;rw[JP he];rfl
  ·refine ⟨rfl,_,rfl,?_,rfl⟩
   rw[<-getD_none (show a.length<=n-2 by omega)];rfl
 (conv=>whnf)
 generalize a.getD (n-1) 0=d1 at *;generalize a.getD (n-2) 0=d2 at *;(repeat' ((first|(apply UP;omega)|fail)<;>conv=>whnf));refine UR (by omega) kn ?_;(conv=>whnf);generalize hT:(d1*4294967296+d2)*2^s=T at *;(repeat' ((first|(apply CE;omega)|(apply D5;omega))<;>conv=>whnf));refine kQ (v := .int .u64 ((a.getD (n-3) 0:Nat):Int)) ?_ ?_
 ·refine HI 1000 N.LO rfl rfl ?_
  (repeat' ((first|(apply BR<;>intro hc<;>try (exfalso;omega))|(apply EJ;omega)|apply CB|(refine V2 (by assumption) ?_ (λ e he hb => ?_);omega)|apply BA)<;>conv=>whnf))
  ·refine ⟨rfl,_,rfl,?_,rfl⟩
   rw[show ((n:Int)-3).toNat=n-3 by omega]at he;rw[JP he];rfl
  ·refine ⟨rfl,_,rfl,?_,rfl⟩
   rw[<-getD_none (show a.length<=n-3 by omega)];rfl
 (conv=>whnf)
 generalize a.getD (n-3) 0=d3 at *;skip;refine UR (by omega) f4 ?_;(conv=>whnf);(repeat' (apply IE<;>conv=>whnf));rw[WT]at f2;refine tC s (by rw[<-hT];exact Nat.mul_mod_left _ _) f2 (by have:=iT (k:=d1*4294967296+d2) (show s<=64 by omega) (by omega);omega) ?_;(conv=>whnf);(repeat' ((first|apply Vd|(apply W5;omega))<;>conv=>whnf));rw[heq];exact FF rfl
theorem AhV (N:d4 L) (P Q:Int) (hP:0<=P/\P<=4611686018427387904) (hQ:0<=Q/\Q<=4611686018427387904) : ∃ r,Ev L 79 [.int .i64 P,.int .i64 Q] r /\ ∃ a b c d:Int,(kS a b c d/\(-2147483647<=a/\a<=2147483647)/\(-2147483647<=b/\b<=2147483647)/\(-2147483647<=c/\c<=2147483647)/\(-2147483647<=d/\d<=2147483647))/\(b≠0->aY P Q a b c d)/\r = .tup [.int .i64 a,.int .i64 b,.int .i64 c,.int .i64 d]:=by
 refine Ev.xE N.PZ rfl rfl ?_;(repeat' (apply BA<;>conv=>whnf));refine Ti (λ_ _ _ _ _ q=>(q+2147483648).toNat) (λ(a b c d p q:Int)=>W7 P Q a b c d p q/\((-2147483647<=a/\a<=2147483647)/\(-2147483647<=b/\b<=2147483647)/\(-2147483647<=c/\c<=2147483647)/\(-2147483647<=d/\d<=2147483647))/\(p<=4611686018427387904/\q<=4611686018427387904)/\ZF P Q a b c d/\(b≠0->aY P Q a b c d)) (λ a b c d p q=>[(0,.int .i64 p),(1,.int .i64 q),(4,.int .i64 a),(5,.int .i64 b),(6,.int .i64 c),(7,.int .i64 d)]) (λ_ _ _ _ _ _=>[]) [] [] 1 0 0 1 P Q (by (conv=>whnf);exact ⟨rfl,rfl,rfl⟩) ⟨W7.start hP.1 hQ.1,by omega,by omega,ZF.start P Q,λ h=>absurd rfl h⟩ ?_;intro a b c d p q ⟨p1,⟨⟨p2,p2'⟩,⟨p3,p3'⟩,⟨p4,p4'⟩,⟨p5,p5'⟩⟩,⟨p6,p7⟩,p8,p9⟩ ih;have g1:=p1.pa;have g2:=p1.pb;have g3:=p1.qc;have g4:=p1.qd;by_cases hc0:q+c=0
 ·(repeat' ((first|(apply BR<;>intro hc<;>try (exfalso;omega))|(apply CJ;omega)|apply BA)<;>conv=>whnf))
  refine ⟨.tup [.int .i64 a,.int .i64 b,.int .i64 c,.int .i64 d],?_,a,b,c,d,⟨p1.sg,by omega⟩,p9,rfl⟩;(conv=>whnf);exact CK rfl (by simp [CT,FG])
 by_cases nb:q+d=0
 ·(repeat' ((first|(apply BR<;>intro hc<;>try (exfalso;omega))|(apply CJ;omega)|apply BA)<;>conv=>whnf))
  refine ⟨.tup [.int .i64 a,.int .i64 b,.int .i64 c,.int .i64 d],?_,a,b,c,d,⟨p1.sg,by omega⟩,p9,rfl⟩;(conv=>whnf);exact CK rfl (by simp [CT,FG])
 by_cases og:(p+a)/(q+c)=(p+b)/(q+d)
 ·obtain ⟨s1,s2,s3,s4⟩:=p1.step hc0 nb rfl og
  have s5:=s4 p8;have s6:=s5.half;have s7:=s1.qc;by_cases hfl:2147483647<(p+a)/(q+c)
  ·(repeat' ((first|(apply BR<;>intro hc<;>try (exfalso;omega))|(apply CJ;omega)|(refine XA ?_ ?_ (λ_ => ?_) (λ_ _ => ?_);omega;omega;all_goals try (exfalso;omega))|apply BA)<;>conv=>whnf))
   refine ⟨.tup [.int .i64 a,.int .i64 b,.int .i64 c,.int .i64 d],?_,a,b,c,d,⟨p1.sg,by omega⟩,p9,rfl⟩;(conv=>whnf);exact CK rfl (by simp [CT,FG])
  ·have t1:=Ke (x:=(p+a)/(q+c)) (y:=c) (M:=2147483647) (N:=2147483647) (by omega) (by omega)
   have t2:=Ke (x:=(p+a)/(q+c)) (y:=d) (M:=2147483647) (N:=2147483647) (by omega) (by omega);(repeat' ((first|(apply BR<;>intro hc<;>try (exfalso;omega))|(apply CJ;omega)|(apply D5;omega)|(apply NW;omega)|(refine XA ?_ ?_ (λ_ => ?_) (λ_ _ => ?_);omega;omega;all_goals try (exfalso;omega))|(apply EZ.neg;omega)|apply BA)<;>conv=>whnf));all_goals first
    | exact DE [] (by (conv=>whnf);exact ⟨rfl,rfl,rfl⟩) (ih _ _ _ _ _ _ (by omega) ⟨s1,by omega,by omega,s6,λ_=>s5⟩)
    |(refine ⟨.tup [.int .i64 a,.int .i64 b,.int .i64 c,.int .i64 d],?_,a,b,c,d,⟨p1.sg,by omega⟩,p9,rfl⟩
      (conv=>whnf)
      exact CK rfl (by simp [CT,FG]))
 ·(repeat' ((first|(apply BR<;>intro hc<;>try (exfalso;omega))|(apply CJ;omega)|(refine XA ?_ ?_ (λ_ => ?_) (λ_ _ => ?_);omega;omega;all_goals try (exfalso;omega))|apply BA)<;>conv=>whnf))
  refine ⟨.tup [.int .i64 a,.int .i64 b,.int .i64 c,.int .i64 d],?_,a,b,c,d,⟨p1.sg,by omega⟩,p9,rfl⟩;(conv=>whnf);exact CK rfl (by simp [CT,FG])
theorem AhW (N:d4 L) (x y:List Nat) (q1 q2:Bool) (f g:Int) (hX:CP x) (hY:CP y) (hl:y.length<=x.length) (lx:x.length<=549755813888) (hs:VX f g) (R:Nat) (hR:(R:Int)=f*val x+g*val y) (hR2:R<=val x) :
  Ev L 80 [.sl q1 (x.map BZ),.sl q2 (y.map BZ),.int .i64 f,.int .i64 g] (.sl false ((dg R).map BZ)):=by
 refine Ev.x N.P0 rfl rfl ?_;(repeat' ((first|apply CB|apply BA)<;>conv=>whnf));refine GU (enc:=BZ) 0 x.length rfl rfl (by omega) ?_;(conv=>whnf);(repeat' (apply CB<;>conv=>whnf));refine JL (λ i _ _=>x.length-i) (λ(i:Nat) (o:List Nat) (c:Int)=>i<=x.length/\o.length=x.length/\CP o /\ -2147483648<=c/\c<=2147483648/\(val (o.take i):Int)+((4294967296^i:Nat):Int)*c=f*val (x.take i)+g*val (y.take i)) (λ i o c=>[(10,.int .i64 c),(19,.int .i64 i)]) (λ i o c=>[(16,16,.rw 1 (o.map BZ))]) [] [] 0 (List.replicate x.length 0) 0 (by (conv=>whnf);exact ⟨rfl,rfl,rfl⟩) ⟨by omega,by simp,MF _,by omega,by omega,by simp [val]⟩ ?_;intro i o c ⟨p1,p2,p3,p4,p5,p6⟩ ih;by_cases hi:i<x.length
 ·obtain ⟨d,hd⟩ : ∃ d,x[i]? = some d:=⟨_,zE hi⟩
  have hdb:=hX.at hd;have h1:=GT hd;by_cases hy:i<y.length
  ·obtain ⟨e,he⟩ : ∃ e,y[i]? = some e:=⟨_,zE hy⟩
   have Fw:=hY.at he;have h2:=GT he;obtain ⟨r1,r2,r3⟩:=hs.Rq hdb Fw;have hst:=vB (d:=d) (e:=e) p6 rfl;(repeat' ((first|(apply BR<;>intro hc<;>try (exfalso;omega))|(apply CJ;omega)|(apply NW;omega)|(apply W5;omega)|apply CB|(refine CY (by assumption) ?_ rfl ?_;omega)|apply BA)<;>conv=>whnf));generalize htt:f * ↑d+c+g * ↑e=t at *;refine sO ?_;(conv=>whnf);(repeat' ((first|(apply CE;omega)|fail)<;>conv=>whnf));refine IA (by omega) ?_;(conv=>whnf);refine tE ?_;(conv=>whnf);(repeat' ((first|(apply CJ;omega)|fail)<;>conv=>whnf));refine DE [] (by (conv=>whnf);exact ⟨rfl,rfl,rfl⟩) (ih (i+1) _ _ (by omega) ⟨by omega,by simpa using p2,p3.set _ (uZ t),by omega,by omega,?_⟩);rw[I3 (by omega),h1,h2,Nat.pow_succ];simp only[Int.natCast_add,Int.natCast_mul,lS];exact hst
  ·have h2:=kK (y:=y) (i:=i) (by omega)
   obtain ⟨r1,r2,r3⟩:=hs.Rq (e:=0) hdb (by omega);have hst:=vB (d:=d) (e:=0) p6 rfl;rw[Int.mul_zero,Int.add_zero]at hst;have r4 : -9223372030412324865<=f*(d:Int)/\f*(d:Int)<=9223372030412324865:=r1;(repeat' ((first|(apply BR<;>intro hc<;>try (exfalso;omega))|(apply CJ;omega)|(apply NW;omega)|(apply W5;omega)|apply CB|(refine CY (by assumption) ?_ rfl ?_;omega)|apply BA)<;>conv=>whnf));generalize htt:f * ↑d+c=t at *;refine sO ?_;(conv=>whnf);(repeat' ((first|(apply CE;omega)|fail)<;>conv=>whnf));refine IA (by omega) ?_;(conv=>whnf);refine tE ?_;(conv=>whnf);(repeat' ((first|(apply CJ;omega)|fail)<;>conv=>whnf));refine DE [] (by (conv=>whnf);exact ⟨rfl,rfl,rfl⟩) (ih (i+1) _ _ (by omega) ⟨by omega,by simpa using p2,p3.set _ (uZ t),by omega,by omega,?_⟩);rw[I3 (by omega),h1,h2,Nat.pow_succ];simp only[Int.natCast_add,Int.natCast_mul,lS];rw[Int.mul_zero,Int.add_zero]at hst;exact hst
 ·obtain rfl:i=x.length:=by omega
  clear ih;rw[FL (by omega),FL (Nat.le_refl _),FL (by omega)]at p6;have Qj:=HT p3;have hxv:=HT hX;rw[p2]at Qj;have hVR:val o=R:=by
   have:=Wj Qj p6 (by omega) (by omega)
   omega
  have hl1:=HL p3;rw[<-p2,<-hVR];(repeat' ((first|(apply BR<;>intro hc<;>try (exfalso;omega))|apply BA|refine eI N (by assumption) (by omega) rfl (by first|rfl|omega|assumption) ?_)<;>conv=>whnf));refine J5 (enc:=BZ) (λ_=>rfl) (by omega) ?_;(conv=>whnf);refine CK ?_ (by simp only[CT,true_and];exact E5 _);rw[List.drop_zero,eB p3]
theorem Ah0 (N:d4 L) (X Y:Nat) (kg:Y<=X) (hy:3<=(dg Y).length) (lx:(dg X).length<=549755813888) : ∃ r,Ev L 81 [.sl false ((dg X).map BZ),.sl false ((dg Y).map BZ)] r /\ ∃ A B:Nat,(B<Y/\B<=A/\A<=X/\Nat.gcd A B=Nat.gcd X Y)/\r = .tup [.sl false ((dg A).map BZ),.sl false ((dg B).map BZ)]:=by
 have hY0:Y≠0:=λ h=>by rw[h,HS]at hy;simp at hy
 have my:X≠0:=by omega
 have hlen:=V9 kg;have hdv:=λ q q'=>nF N X Y q q' hY0 lx (by omega)
 have d1:=GR X;have d2:=GR Y;have v1:=DP X;have v2:=DP Y;obtain ⟨xt,Hm,Hn⟩:=mG my;have wk:=d1.at Hm;obtain ⟨b1,b2,b3,b4⟩:=oQ Hn wk;have va:=xS N xt wk;generalize hs:32-l7 xt=s at *;have x8:s<=31:=by omega
 obtain ⟨n1,n2⟩:=oN d1 Hm (by omega) x8 b3 b4;have hcb:=λ(f g:Int) (R:Nat) (hs:VX f g) (h1:(R:Int)=f*val (dg X)+g*val (dg Y)) (h2:R<=val (dg X)) (q q':Bool)=>AhW N (dg X) (dg Y) q q' f g d1 d2 (by omega) lx hs R h1 h2
 have n3:val (dg Y)*2^s<4294967296^(dg X).length:=Nat.lt_of_le_of_lt (Nat.mul_le_mul_right _ (by omega)) n1;have hl1:=λ q=>yF N (dg X) q (dg X).length s d1 (by omega) (by omega) lx x8 n1
 have hl2:=λ q=>yF N (dg Y) q (dg X).length s d2 (by omega) (by omega) lx x8 n3
 have hK:=AjZ (dg X).length s;obtain ⟨e1,x1,x2,x3⟩:=Im (V:=X) hK;obtain ⟨e2,y1,y2,y3⟩:=Im (V:=Y) hK;rw[v1]at hl1;rw[v2]at hl2;have nk:=Il d1 (n:=(dg X).length) (by omega) (by omega) x8 n1;have te:=Il d2 (n:=(dg X).length) (by omega) (by omega) x8 n3;rw[v1]at nk;rw[v2]at te;generalize Z4 (dg X).length s=K at *;generalize X/K=P at *;generalize Y/K=Q at *;rw[v1,v2]at hcb;obtain ⟨rc,tf,a,b,c,d,⟨z1,z2,z3,z4,z5⟩,z6,rfl⟩:=AhV N (P:Int) (Q:Int) (by omega) (by omega);have e1:(((dg X).length:Int)-1).toNat=(dg X).length-1:=by omega
 rw[<-e1]at Hm;refine Ev.xE N.P5 rfl rfl ?_;by_cases hb:b=0
 ·(repeat' ((first|(apply BR<;>intro hc<;>try (exfalso;omega))|(apply D5;omega)|(apply EJ;omega)|apply CB|(refine CY (by assumption) ?_ rfl ?_;omega)|apply BA|refine BH (va) ?_|refine BH (hl1 _) ?_|refine BH (hl2 _) ?_|refine BH (tf) ?_|refine BH (hdv _ _) ?_)<;>conv=>whnf))
  refine ⟨_,?_,Y,X%Y,⟨Nat.mod_lt _ (by omega),Nat.le_of_lt (Nat.mod_lt _ (by omega)),kg,cY X Y⟩,rfl⟩;(conv=>whnf);exact CK rfl (bT _ _)
 ·obtain ⟨g1,g2,g3,g4⟩:=z6 hb (X:Int) (Y:Int) (K:Int) _ _ (by omega) x1 y1 x2 x3 y2 y3
  obtain ⟨A,hA⟩:=Int.eq_ofNat_of_zero_le (show 0<=a*X+b*Y by omega);obtain ⟨B,hB⟩:=Int.eq_ofNat_of_zero_le g1;have s1:VX a b:=by rcases z1 with ⟨h1,h2,h3,h4⟩|⟨h1,h2,h3,h4⟩<;>unfold VX<;>omega
  have s2:VX c d:=by rcases z1 with ⟨h1,h2,h3,h4⟩|⟨h1,h2,h3,h4⟩<;>unfold VX<;>omega
  (repeat' ((first|(apply BR<;>intro hc<;>try (exfalso;omega))|(apply D5;omega)|(apply EJ;omega)|apply CB|(refine CY (by assumption) ?_ rfl ?_;omega)|apply BA|refine BH (va) ?_|refine BH (hl1 _) ?_|refine BH (hl2 _) ?_|refine BH (tf) ?_|refine BH (hcb a b A s1 hA.symm (by omega) _ _) ?_|refine BH (hcb c d B s2 hB.symm (by omega) _ _) ?_)<;>conv=>whnf))
  rw[hA,hB]at g4;rw[hA,hB]at g2;refine ⟨_,?_,A,B,⟨by omega,by omega,by omega,by simpa using g4⟩,rfl⟩;(conv=>whnf);exact CK rfl (bT _ _)
theorem zV (N:d4 L) (X Y:Nat) (kg:Y<=X) (lx:(dg X).length<=549755813888) :
 AH L [It.lp JQ.l1,It.blk 0,
   It.code
    ((((C4.ops JQ.r6 false).dr [23,30,31] []).seq
       (C4.cond 32 (((C4.ops JQ.r7 false).dr [5,6,32,33] []).seq C4.ret) C4.skip)).seq
     (((C4.ops JQ.r8 false).dr [5,7,32,34,35,36,37,38,39] []).seq
      (((C4.ops JQ.r9 false).dr [6,8,40,41,42,43] []).seq
       ((C4.block 2 JQ.l2.loop).seq
        (((C4.ops JQ.n9 false).dr [9,10,45,50,51,52,53,54,55,56] []).seq C4.ret)))))]
  [(6,AV.sl false (List.map BZ (dg Y))),(5,AV.sl false (List.map BZ (dg X)))] []
  (V3 JQ (AV.sl false (List.map BZ (dg (X.gcd Y))))):=by
 refine I4 (λ_ y=>y) (λ(x y:Nat)=>y<=x/\(dg x).length<=549755813888/\Nat.gcd x y=Nat.gcd X Y) (λ x y=>[(6,AV.sl false (List.map BZ (dg y))),(5,AV.sl false (List.map BZ (dg x)))]) (λ_ _=>[]) [] [] X Y (by (conv=>whnf);exact ⟨rfl,rfl,rfl⟩) ⟨kg,lx,rfl⟩ ?_;intro x y ⟨p1,p2,p3⟩ ih;rw[<-p3]at ih ⊢;generalize Nat.gcd X Y=G at *;clear kg lx;subst p3;have hlen:=V9 p1;by_cases h3:3<=(dg y).length
 ·obtain ⟨r,hr,A,B,⟨k1,k2,k3,k4⟩,rfl⟩:=Ah0 N x y p1 h3 p2
  have k5:=V9 k3;(repeat' ((first|(apply BR<;>intro hc<;>try (exfalso;omega))|apply CB|apply BA|refine BH (hr) ?_)<;>conv=>whnf));exact C7 [] (ih A B k1 ⟨k2,by omega,k4⟩)
 ·clear ih
  by_cases h0:y=0
  ·subst h0
   have hl0:(dg 0).length=0:=by rw[HS];rfl
   (repeat' ((first|(apply BR<;>intro hc<;>try (exfalso;omega))|apply CB|apply BA)<;>conv=>whnf))
   rw[Nat.gcd_zero_right];exact CK rfl (by simp only[CT,true_and];exact E5 _)
  ·have hp:=cC h0
   have hm:=V9 (Nat.le_of_lt (Nat.mod_lt x (show y>0 by omega)));have hd:=λ q q'=>nF N x y q q' h0 p2 (by omega)
   have Ap:=λ q=>yG N y q (by omega)
   have lh:=λ q=>yG N (x%y) q (by omega)
   have hb:y<18446744073709551616:=T7.1 (show (dg y).length<=2 by omega);have hml:x%y<y:=Nat.mod_lt _ (by omega);rw[<-cY x y];(repeat' ((first|(apply BR<;>intro hc<;>try (exfalso;omega))|apply CB|apply BA|refine BH (hd _ _) ?_|refine BH (Ap _) ?_|refine BH (lh _) ?_)<;>conv=>whnf));refine I4 (λ_ q=>q) (λ(p q:Nat)=>p<18446744073709551616/\q<18446744073709551616/\Nat.gcd p q=Nat.gcd y (x%y)) (λ p q=>[(9,.int .u64 (p:Int)),(10,.int .u64 (q:Int))]) (λ_ _=>[]) [] [] y (x%y) (by (conv=>whnf);exact ⟨rfl,rfl,rfl⟩) ⟨hb,by omega,rfl⟩ ?_;intro p q ⟨g1,g2,g3⟩ ih;rw[<-g3]at ih ⊢;by_cases hq:q=0
   ·subst hq
    clear ih;obtain ⟨v1,v2⟩:=mD g1;rw[Nat.gcd_zero_right];have hl1:=HL v2;have ht:=eB v2;rw[v1]at hl1 ht;(repeat' ((first|(apply BR<;>intro hc<;>try (exfalso;omega))|apply IE|(apply GZ;omega)|apply IU|apply BA)<;>conv=>whnf));generalize p%4294967296=lo at *;generalize p/4294967296=hi at *;refine eI N v2 (by simp) rfl rfl ?_;rw[v1];(conv=>whnf);skip;refine J5 (enc:=BZ) (l:=[lo,hi]) (λ_=>rfl) (by omega) ?_;(conv=>whnf);refine CK ?_ (by simp only[CT,true_and];exact E5 _);rw[List.drop_zero,ht]
   ·have hpq:p%q<q:=Nat.mod_lt _ (by omega)
    (repeat' ((first|(apply BR<;>intro hc<;>try (exfalso;omega))|(apply bC;omega)|apply BA)<;>conv=>whnf))
    exact C7 [] (ih q (p%q) hpq ⟨g2,by omega,cY p q⟩)
theorem AhU (N:d4 L) (a b:List Nat) (q1 q2:Bool) (hA:CP a) (hB:CP b) (la:a.length<=549755813888) (lb:b.length<=549755813888) :
  Ev L 82 [.sl q1 (a.map BZ),.sl q2 (b.map BZ)] (.sl false ((dg (Nat.gcd (val a) (val b))).map BZ)):=by
 have t1:=λ q=>cK N a q hA (by omega)
 have t2:=λ q=>cK N b q hB (by omega)
 have l1:=HL hA;have l2:=HL hB;have e8:=λ q q'=>U6 N (dg (val a)) (dg (val b)) q q' (GR _) (GR _) (by omega) (by omega)
 rw[DP,DP]at e8;generalize val a=X at *;generalize val b=Y at *;refine Ev.x N.JQ rfl rfl ?_;by_cases e9:X<Y
 ·have hn:FI X Y = -1:=(LL (by omega)).symm
  rw[hn]at e8;(repeat' ((first|(apply BR<;>intro hc<;>try (exfalso;omega))|apply BA|refine BH (t1 _) ?_|refine BH (t2 _) ?_|refine BH (e8 _ _) ?_)<;>conv=>whnf));rw[Nat.gcd_comm];exact DE [] (by (conv=>whnf);exact ⟨rfl,rfl,rfl⟩) (zV N Y X (by omega) (by omega))
 ·have fp:0<=FI X Y:=by unfold FI;split<;>(try split)<;>omega
  generalize FI X Y=cm at *;(repeat' ((first|(apply BR<;>intro hc<;>try (exfalso;omega))|apply BA|refine BH (t1 _) ?_|refine BH (t2 _) ?_|refine BH (e8 _ _) ?_)<;>conv=>whnf));exact DE [] (by (conv=>whnf);exact ⟨rfl,rfl,rfl⟩) (zV N X Y (by omega) (by omega))
end Go.Eng
namespace Go.Eng
def aG (N:Nat):List MV->Bool
 | []=>true
 | .tmp t::r=>Nat.blt t N&&aG N r
 | .cell t _ _::r=>Nat.blt t N&&aG N r
theorem pX {N:Nat} {s s':St} (ho:s.own=s'.own) (gm : ∀ j,j<N->c7 s'.tm j=c7 s.tm j) : ∀ {res:List MV},aG N res=true->res.mapM (G5 s)=res.mapM (G5 s')
 | [],_=>rfl
 | .tmp t::r,h=>by
  simp only[aG,Bool.and_eq_true]at h;have:=pX ho gm h.2;simp only[List.mapM_cons,G5,gm t (XH.1 h.1),this]
 | .cell t agg n::r,h=>by
  simp only[aG,Bool.and_eq_true]at h;have:=pX ho gm h.2;simp only[List.mapM_cons,G5,gm t (XH.1 h.1),this,ho]
def Vo (N:Nat) (fn:AFn) (tm:Tm) (K:AV->Mem->Prop) (t9:Tm) (M':Mem):Prop:=gh N t9=tm/\jH t9 M' fn.res (λ rs=>Rr rs λ v=>K v M')
theorem H7 {L:Lib} {f:Nat} {fn:AFn} {vs:List AV} {tm:Tm} {M:Mem} {K:AV->Mem->Prop} (N:Nat) (hL:L f=some fn) (hp:Nat.beq vs.length fn.s8=true) (hN:(Nat.ble fn.s8 N&&(LI N fn.body&&aG N fn.res))=true)
  (h:AH L [.code fn.body] (EU 0 vs++JJ N tm) M (Vo N fn tm K)):CW L f vs tm M K:=by
 intro σ own hs;simp only[Bool.and_eq_true]at hN;obtain ⟨n1,n2,n3⟩:=hN;have n1:=Nat.le_of_ble_eq_true n1;have hp:vs.length=fn.s8:=Nat.eq_of_beq_eq_true hp;have Gz:RX σ (EU 0 vs++JJ N tm) M ⟨PM (DB σ) (EU 0 vs++JJ N tm),own⟩:=⟨λ j=>Or.inr (by rw[NM];exact NN (OR σ) j _),hs⟩;obtain ⟨n,c,s',hr,σ',t9,M',hR,hg,il⟩:=h σ _ Gz;have Fz:Gh N (PM (DB σ) (JJ N tm)) (EU 0 (vs.map (DB σ))) (PM (DB σ) (EU 0 vs++JJ N tm)):=by
  constructor
  ·intro j hj
   rw[oF,NN (OR σ),NN (OR σ)];rcases eE j (JJ N tm) (EU 0 vs) with ⟨_,e⟩|⟨hn,e⟩
   ·rw[e]
   ·rw[e,rS hj,rO j 0 vs hn]
  ·intro j hj
   rw[NN (OR σ),NN (OR σ)];rcases eE j (JJ N tm) (EU 0 vs) with ⟨hn,e⟩|⟨_,e⟩
   ·have:=oE j 0 vs hn
    omega
   ·rw[e]
 obtain ⟨s,r1,r2,r3⟩:=LY n (by simp [WG,n2]) Fz hr;obtain ⟨rs,i1,i2,i3⟩:=pW hR il;rw[<-pX (s:=s) r2.symm r3.lo n3,i3]at i1;have key : ∃ r,KE (rs.map (DQ σ'))=DB σ' r/\K r M':=by
  match rs,i2,i3 with
  | [],h,_=>exact ⟨.tup [],rfl,h⟩
  | [v],h,e =>
   simp only[List.map_cons,List.map_nil,List.cons.injEq,and_true]at e;exact ⟨v,by simp only[List.map_cons,List.map_nil,KE];exact e.symm,h⟩
  | a::b::l,h,_=>exact ⟨.tup (a::b::l),rfl,h⟩
 obtain ⟨r,k1,k2⟩:=key;refine ⟨r,s.own,σ',M',JN.intro hL (by simpa using hp) ⟨n,c,s,r1,?_,rfl⟩,?_,?_,k2⟩
 ·rw[i1,Option.map_some,k1]
 ·rw[<-r2];exact hR.sat
 ·intro j
  have e1:tg tm j=tg t9 (N+j):=by rw[NM,NM,<-hg,rN]
  rcases hR.tm (N+j) with e|e
  ·rw[e1,e];rfl
  ·rw[e1,<-e,r3.hi (N+j) (by omega),NN (OR σ),rP,<-NM,e1]
end Go.Eng

namespace Go.Eng
open F
attribute [local irreducible] AH BJ B1 BD EZ CF CG CR CU DW B5 DT EG F7 DM CQ DR EE AR CW BW pw DC C9 EI ET E1 E7 EW D4 E8
variable {L:Lib}
set_option maxHeartbeats 8000000
theorem Sc {k:Nat} {K:Int->Prop} (h:0<k/\k<=9223372036854775808) (hk:K ((18446744073709551616-k:Nat):Int)):CF .u64 (-(k:Int)) K:=by
 unfold CF;have e:IntKind.u64.wrap (-(k:Int))=((18446744073709551616-k:Nat):Int):=by
  simp [IntKind.wrap,IntKind.bits,IntKind.signed];omega
 rw[e];exact hk
theorem EZ.xa {k:Nat} {K:AV->Prop} (h:0<k/\k<=9223372036854775808) (hk:K (.int .u64 (k:Int))):EZ .neg .u64 ((18446744073709551616-k:Nat):Int) K:=by
 refine EZ.go (v := .int .u64 (IntKind.u64.wrap (0-((18446744073709551616-k:Nat):Int)))) rfl ?_;have e:IntKind.u64.wrap (0-((18446744073709551616-k:Nat):Int))=(k:Int):=by
  simp [IntKind.wrap,IntKind.bits,IntKind.signed];omega
 rw[e];exact hk
theorem mZ (N:d9 L) (z:Int) (hz : -9223372036854775808<=z/\z<=9223372036854775807):Ev L 85 [.int .i64 z] (.agg (eZ z)):=by
 have two : ∀ k:Nat,k<18446744073709551616 -> ∀ q,Ev L 66 [.sl q [[.int .u32 ((k%4294967296:Nat):Int)],[.int .u32 ((k/4294967296:Nat):Int)]]] (.sl false ((dg k).map BZ)):=λ k hk q=>by
  have:=cK N.d7 [k%4294967296,k/4294967296] q (mD hk).2 (by simp)
  rw[Ou hk]at this;exact this
 refine Ev.x N.O7 rfl rfl ?_;by_cases h0:0<=z
 ·obtain ⟨k,rfl⟩:=Int.eq_ofNat_of_zero_le h0
  have hT:=two k (by omega);have z1:=LM k;(repeat' ((first|(apply BR<;>intro hc<;>try (exfalso;omega))|apply IE|(apply EJ;omega)|(apply GZ;omega)|apply IU|refine ZI rfl rfl ?_|apply BA)<;>conv=>whnf));generalize k%4294967296=lo at *;generalize k/4294967296=hi at *;(repeat' (refine BH (hT _) ?_<;>conv=>whnf));refine H7 1000 N.FX rfl rfl ?_;(repeat' (apply BA<;>conv=>whnf));all_goals (refine ⟨rfl,?_⟩;(conv=>whnf);skip);exact CK (HF (by omega) (JI (by omega))) (GC _)
 ·obtain ⟨k,hk⟩:=Int.eq_ofNat_of_zero_le (show 0 <= -z by omega)
  obtain rfl:z = -(k:Int):=by omega
  have hT:=two k (by omega);have z1:=LM k;(repeat' (apply BA<;>conv=>whnf));refine Sc (by omega) ?_;(conv=>whnf);(repeat' ((first|(apply BR<;>intro hc<;>try (exfalso;omega))|fail)<;>conv=>whnf));refine EZ.xa (by omega) ?_;(conv=>whnf);(repeat' ((first|(apply BR<;>intro hc<;>try (exfalso;omega))|apply IE|(apply GZ;omega)|apply IU|refine ZI rfl rfl ?_)<;>conv=>whnf));generalize k%4294967296=lo at *;generalize k/4294967296=hi at *;(repeat' (refine BH (hT _) ?_<;>conv=>whnf));refine H7 1000 N.FX rfl rfl ?_;(repeat' ((first|(apply BR<;>intro hc<;>try (exfalso;omega))|apply CB|apply BA)<;>conv=>whnf));all_goals (refine ⟨rfl,?_⟩;(conv=>whnf);skip);exact CK (HF (by omega) (SZ (by omega))) (GC _)
theorem yC (N:d9 L) (n q:Bool) (m:List Nat) (hm:Sm 549755813888 m):Ev L 84 [.agg (rZ q n m)] (.agg (eZ (zv n m))):=by
 have hT:=λ q=>cK N.d7 m q hm.1 (by have:=hm.2;omega)
 have hz:=LM (val m);have ha:=HO n m;refine Ev.x N.O9 rfl rfl ?_;cases n
 ·rw[HD]at *
  (repeat' ((first|apply BA|refine BH (hT _) ?_)<;>conv=>whnf))
  refine H7 1000 N.FX rfl rfl ?_;(repeat' (apply BA<;>conv=>whnf));all_goals (refine ⟨rfl,?_⟩;(conv=>whnf);skip);exact CK (HF ha.symm (JI (by omega))) (GC _)
 ·rw[UJ]at *
  (repeat' ((first|apply BA|refine BH (hT _) ?_)<;>conv=>whnf))
  refine H7 1000 N.FX rfl rfl ?_;(repeat' ((first|(apply BR<;>intro hc<;>try (exfalso;omega))|apply CB|apply BA)<;>conv=>whnf));all_goals (refine ⟨rfl,?_⟩;(conv=>whnf);skip)
  ·exact CK (HF ha.symm (SZ (by omega))) (GC _)
  ·exact CK (HF ha.symm (JI (by omega))) (GC _)
theorem hH (N:d9 L) (n q:Bool) (m:List Nat) (hm:Sm 549755813888 m):Ev L 86 [.agg (rZ q n m)] (.int .i64 (sgn (zv n m))):=by
 have e8:=λ q q'=>U6 N.d7 m [] q q' hm.1 T8 (by have:=hm.2;omega) (by simp)
 rw[L2]at e8;refine Ev.x N.O8 rfl rfl ?_;by_cases h0:val m=0
 ·have hn:FI (val m) (0:Nat)=0:=(XM (by omega)).symm
  rw[hn]at e8;(repeat' ((first|(apply BR<;>intro hc<;>try (exfalso;omega))|apply BA|refine BH (e8 _ _) ?_)<;>conv=>whnf));exact FF (jS (by have:=HO n m;omega))
 ·have hn:FI (val m) (0:Nat)=1:=(T5 (by omega)).symm
  rw[hn]at e8;cases n
  ·(repeat' ((first|(apply BR<;>intro hc<;>try (exfalso;omega))|apply BA|refine BH (e8 _ _) ?_)<;>conv=>whnf))
   exact FF (qK (by rw[HD];omega))
  ·(repeat' ((first|(apply BR<;>intro hc<;>try (exfalso;omega))|apply BA|refine BH (e8 _ _) ?_)<;>conv=>whnf))
   exact FF (qJ (by rw[UJ];omega))
theorem yA (N:d9 L) (n1 n2 q1 q2:Bool) (a b:List Nat) (ha:Sm 549755813888 a) (hb:Sm 549755813888 b):Ev L 87 [.agg (rZ q1 n1 a),.agg (rZ q2 n2 b)] (.agg (eZ (zv n1 a+zv n2 b))):=by
 have la:=ha.2;have lb:=hb.2;have h1:=λ q q'=>AhT N.d7 a b q q' ha.1 hb.1 (by omega) (by omega)
 have h2:=λ q q'=>yE N.d7 a b q q' ha.1 hb.1 (by omega) (by omega)
 have h3:=λ q q'=>yE N.d7 b a q q' hb.1 ha.1 (by omega) (by omega)
 have e8:=λ q q'=>U6 N.d7 a b q q' ha.1 hb.1 (by omega) (by omega)
 have z1:=LM (val a+val b);have z2:=LM (val a-val b);have z3:=LM (val b-val a);refine Ev.x N.O4 rfl rfl ?_;by_cases e9:val a<val b
 ·have hn:FI (val a) (val b) = -1:=(LL (by omega)).symm
  rw[hn]at e8;cases n1<;>cases n2<;>simp only[HD,UJ]
  ·(repeat' ((first|apply BA|refine BH (h1 _ _) ?_)<;>conv=>whnf))
   refine H7 1000 N.FX rfl rfl ?_;(repeat' (apply BA<;>conv=>whnf));all_goals (refine ⟨rfl,?_⟩;(conv=>whnf);skip);exact CK (HF (by omega) (JI (by omega))) (GC _)
  ·(repeat' ((first|(apply BR<;>intro hc<;>try (exfalso;omega))|apply BA|refine BH (h3 _ _) ?_|refine BH (e8 _ _) ?_)<;>conv=>whnf))
   refine H7 1000 N.FX rfl rfl ?_;(repeat' ((first|(apply BR<;>intro hc<;>try (exfalso;omega))|apply CB|apply BA)<;>conv=>whnf));all_goals (refine ⟨rfl,?_⟩;(conv=>whnf);skip)
   ·exact CK (HF (by omega) (SZ (by omega))) (GC _)
  ·(repeat' ((first|(apply BR<;>intro hc<;>try (exfalso;omega))|apply BA|refine BH (h3 _ _) ?_|refine BH (e8 _ _) ?_)<;>conv=>whnf))
   refine H7 1000 N.FX rfl rfl ?_;(repeat' (apply BA<;>conv=>whnf));all_goals (refine ⟨rfl,?_⟩;(conv=>whnf);skip)
   ·exact CK (HF (by omega) (JI (by omega))) (GC _)
  ·(repeat' ((first|apply BA|refine BH (h1 _ _) ?_)<;>conv=>whnf))
   refine H7 1000 N.FX rfl rfl ?_;(repeat' ((first|(apply BR<;>intro hc<;>try (exfalso;omega))|apply CB|apply BA)<;>conv=>whnf));all_goals (refine ⟨rfl,?_⟩;(conv=>whnf);skip)
   ·exact CK (HF (by omega) (SZ (by omega))) (GC _)
 ·have hn:FI (val a) (val b) ≠ -1:=by unfold FI;split<;>(try split)<;>omega
  generalize FI (val a) (val b)=cm at *;cases n1<;>cases n2<;>simp only[HD,UJ]
  ·(repeat' ((first|apply BA|refine BH (h1 _ _) ?_)<;>conv=>whnf))
   refine H7 1000 N.FX rfl rfl ?_;(repeat' (apply BA<;>conv=>whnf));all_goals (refine ⟨rfl,?_⟩;(conv=>whnf);skip);exact CK (HF (by omega) (JI (by omega))) (GC _)
  ·(repeat' ((first|(apply BR<;>intro hc<;>try (exfalso;omega))|apply BA|refine BH (h2 _ _) ?_|refine BH (e8 _ _) ?_)<;>conv=>whnf))
   refine H7 1000 N.FX rfl rfl ?_;(repeat' (apply BA<;>conv=>whnf));all_goals (refine ⟨rfl,?_⟩;(conv=>whnf);skip);exact CK (HF (by omega) (JI (by omega))) (GC _)
  ·(repeat' ((first|(apply BR<;>intro hc<;>try (exfalso;omega))|apply BA|refine BH (h2 _ _) ?_|refine BH (e8 _ _) ?_)<;>conv=>whnf))
   refine H7 1000 N.FX rfl rfl ?_;(repeat' ((first|(apply BR<;>intro hc<;>try (exfalso;omega))|apply CB|apply BA)<;>conv=>whnf));all_goals (refine ⟨rfl,?_⟩;(conv=>whnf);skip)
   ·exact CK (HF (by omega) (SZ (by omega))) (GC _)
   ·exact CK (HF (by omega) (JI (by omega))) (GC _)
  ·(repeat' ((first|apply BA|refine BH (h1 _ _) ?_)<;>conv=>whnf))
   refine H7 1000 N.FX rfl rfl ?_;(repeat' ((first|(apply BR<;>intro hc<;>try (exfalso;omega))|apply CB|apply BA)<;>conv=>whnf));all_goals (refine ⟨rfl,?_⟩;(conv=>whnf);skip)
   ·exact CK (HF (by omega) (SZ (by omega))) (GC _)
   ·exact CK (HF (by omega) (JI (by omega))) (GC _)
theorem XV (N:d9 L) (n1 n2 q1 q2:Bool) (a b:List Nat) (ha:CP a) (hb:CP b) (hl:a.length+b.length<=1099511627776):Ev L 88 [.agg (rZ q1 n1 a),.agg (rZ q2 n2 b)] (.agg (eZ (zv n1 a*zv n2 b))):=by
 have h1:=λ q q'=>nE N.d7 a b q q' ha hb hl
 have z1:=LM (val a*val b);have Fl:(zv n1 a*zv n2 b).natAbs=val a*val b:=by rw[Int.natAbs_mul,HO,HO]
 refine Ev.x N.O6 rfl rfl ?_;have e:zv n1 a*zv n2 b=bif n1 == n2 then ((val a*val b:Nat):Int) else -((val a*val b:Nat):Int):=by
  cases n1<;>cases n2<;>simp [HD,UJ,Int.mul_neg,Int.neg_mul]
 rw[e]at Fl ⊢;generalize val a*val b=V at *;cases n1<;>cases n2<;>simp only[beq_self_eq_true,cond_true,show (false == true)=false from rfl,show (true == false)=false from rfl,cond_false]
 ·(repeat' ((first|apply BA|refine BH (h1 _ _) ?_)<;>conv=>whnf))
  refine H7 1000 N.FX rfl rfl ?_;(repeat' (apply BA<;>conv=>whnf));all_goals (refine ⟨rfl,?_⟩;(conv=>whnf);skip);exact CK (HF (by omega) (JI (by omega))) (GC _)
 ·(repeat' ((first|apply BA|refine BH (h1 _ _) ?_)<;>conv=>whnf))
  refine H7 1000 N.FX rfl rfl ?_;(repeat' ((first|(apply BR<;>intro hc<;>try (exfalso;omega))|apply CB|apply BA)<;>conv=>whnf));all_goals (refine ⟨rfl,?_⟩;(conv=>whnf);skip)
  ·exact CK (HF (by omega) (SZ (by omega))) (GC _)
  ·exact CK (HF (by omega) (JI (by omega))) (GC _)
 ·(repeat' ((first|apply BA|refine BH (h1 _ _) ?_)<;>conv=>whnf))
  refine H7 1000 N.FX rfl rfl ?_;(repeat' ((first|(apply BR<;>intro hc<;>try (exfalso;omega))|apply CB|apply BA)<;>conv=>whnf));all_goals (refine ⟨rfl,?_⟩;(conv=>whnf);skip)
  ·exact CK (HF (by omega) (SZ (by omega))) (GC _)
  ·exact CK (HF (by omega) (JI (by omega))) (GC _)
 ·(repeat' ((first|apply BA|refine BH (h1 _ _) ?_)<;>conv=>whnf))
  refine H7 1000 N.FX rfl rfl ?_;(repeat' (apply BA<;>conv=>whnf));all_goals (refine ⟨rfl,?_⟩;(conv=>whnf);skip);exact CK (HF (by omega) (JI (by omega))) (GC _)
theorem mF:dg 1=[1]:=by rw[ME (by omega)];simp [HS]
theorem AhO (N:d9 L) (V:Nat) (q:Bool):Ev L 90 [.sl q ((dg V).map BZ)] (.bool (decide (V=1))):=by
 have hv:=DP V;have hD:=GR V;have h1:V=1->dg V=[1]:=λ h=>by rw[h,mF]
 generalize dg V=l at *;refine Ev.x N.QY rfl rfl ?_;by_cases hl:l.length=1
 ·obtain ⟨d,rfl⟩:=List.length_eq_one_iff.1 hl
  have e:V=d:=by rw[<-hv];simp [val]
  subst e;have hd:[V][(0:Int).toNat]? = some V:=rfl;(repeat' ((first|(apply BR<;>intro hc<;>try (exfalso;omega))|apply CB|(refine CY (by assumption) ?_ rfl ?_;omega)|apply BA)<;>conv=>whnf))
  ·exact sR (by omega)
  ·exact eK (by omega)
 ·(repeat' ((first|(apply BR<;>intro hc<;>try (exfalso;omega))|apply CB|apply BA)<;>conv=>whnf))
  exact eK (λ h=>by rw[h1 h]at hl;simp at hl)
theorem ZX (N:d9 L) (n q1 q2:Bool) (m d:List Nat) (hm:Sm 549755813888 m) (hd:Sm 549755813888 d) (h0:val d≠0):Ev L 94 [.agg (rQ q1 q2 n m d)] (.agg (eQ (qv n m d))):=by
 have si:=λ q q'=>nD N.d7 m d q q' hm.1 hd.1 hm.2 hd.2 h0
 have Av:=HO n m;have sq:Sm 549755813888 (dg (val m/val d)):=hm.low (Nat.div_le_self _ _);have sr:Sm 549755813888 (dg (val m%val d)):=hd.low (Nat.le_of_lt (Nat.mod_lt _ (by omega)));have hT:=λ q=>yC N n q _ sq
 have hG:=λ q q'=>AhU N.d7 d (dg (val m%val d)) q q' hd.1 sr.1 hd.2 sr.2
 rw[DP,show Nat.gcd (val d) (val m%val d)=Nat.gcd (val d) (zv n m).natAbs by rw[Av,cY,Nat.gcd_comm]]at hG;have Ga:=zW (zv n m).natAbs h0;have sn:=Nat.gcd_le_left (zv n m).natAbs (show 0<val d by omega);have hz:=LM (val m%val d);obtain ⟨e1,e2,e3⟩:=oZ (z:=zv n m) h0;unfold qv;generalize hGG:Nat.gcd (val d) (zv n m).natAbs=g at *;have h1:=λ q=>AhO N g q
 refine Ev.x N.Q1 rfl rfl ?_;by_cases hr0:val m%val d=0
 ·(repeat' ((first|(apply BR<;>intro hc<;>try (exfalso;omega))|apply CB|apply BA|refine BH (si _ _) ?_|refine BH (hT _) ?_)<;>conv=>whnf))
  refine H7 1000 N.KY rfl rfl ?_;(repeat' (apply BA<;>conv=>whnf));refine ⟨rfl,?_⟩;(conv=>whnf);(repeat' (refine KM rfl ?_<;>conv=>whnf));have fp:g=val d:=by
   rw[<-hGG,Av];exact Nat.gcd_eq_left (Nat.dvd_of_mod_eq_zero hr0)
  have hv:=DP (val m/val d);refine CK ?_ ?_
  ·show _=AV.agg (rQ _ _ _ _ _)
   rw[e1,e2,e3,Av,fp,Nat.div_self (by omega),HO,hv,mF];have hs:decide (zv n (dg (val m/val d))<0)=decide (zv n m<0):=by
    cases n
    ·rw[HD,HD];simp;omega
    ·rw[UJ,UJ,hv]
     congr 1;rw[eq_iff_iff];have h5:=Nat.div_add_mod (val m) (val d);rw[hr0,Nat.add_zero]at h5;constructor
     ·intro h6
      have h7:val m/val d≠0:=by omega
      have:val m≠0:=λ h8=>h7 (by rw[h8,Nat.zero_div])
      omega
     ·intro h6
      have h7:val m/val d≠0:=λ h8=>by rw[h8,Nat.mul_zero]at h5;omega
      omega
   rw[hs];rfl
  ·exact G3 _
 ·by_cases qz:g=1
  ·have hT1:=λ q=>yC N n q m hm
   have hT2:=λ q=>cK N.d7 d q hd.1 (by have:=hd.2;omega)
   (repeat' ((first|(apply BR<;>intro hc<;>try (exfalso;omega))|apply CB|apply BA|refine BH (si _ _) ?_|refine BH (hG _ _) ?_|refine sM (h1 _) (λ hf => ?_) (λ hf => ?_)|refine BH (hT1 _) ?_|refine BH (hT2 _) ?_)<;>conv=>whnf))
   ·refine CK ?_ (gI _ _ _)
    show _=AV.agg (rQ _ _ _ _ _);rw[e1,e2,e3,qz,Nat.div_one,Nat.div_one]
   ·exact absurd qz hf
  ·have sg:Sm 549755813888 (dg g):=hd.low sn
   have ke:=λ q q'=>nD N.d7 m (dg g) q q' hm.1 sg.1 hm.2 sg.2 (by rw[DP];omega)
   have kf:=λ q q'=>nD N.d7 d (dg g) q q' hd.1 sg.1 hd.2 sg.2 (by rw[DP];omega)
   rw[DP]at ke kf;(repeat' ((first|(apply BR<;>intro hc<;>try (exfalso;omega))|apply CB|apply BA|refine BH (si _ _) ?_|refine BH (hG _ _) ?_|refine sM (h1 _) (λ hf => ?_) (λ hf => ?_)|refine BH (ke _ _) ?_|refine BH (kf _ _) ?_)<;>conv=>whnf))
   ·exact absurd hf qz
   ·refine CK ?_ (gI _ _ _)
    show _=AV.agg (rQ _ _ _ _ _);rw[e1,e2,e3,Av];have hs:n=decide (zv n m<0):=by
     have:val m≠0:=λ h=>hr0 (by rw[h,Nat.zero_mod])
     cases n
     ·exact JI (by rw[HD];omega)
     ·exact SZ (by rw[UJ];omega)
    rw[<-hs]
theorem ZY (N:d9 L) (m:List Nat):Ev L 91 [.sl false (m.map BZ)] (.agg [.bool false,.sl false (m.map BZ)]):=by
 refine Ev.x N.QZ rfl rfl ?_;(repeat' (apply BA<;>conv=>whnf));exact CK rfl (We _ _)
def Vm (n:Bool) (m d:List Nat) (n':Bool) (m' d':List Nat) (w:Bool) (k:Nat):Prop:=Sm k m'/\Sm k d'/\val d'≠0/\(w=true->val d'=1)/\qv n m d=mkRat (zv n' m') (val d')
theorem UB (N:d9 L) (n:Bool) (m d:List Nat) (k:Nat) (hk:1<=k/\k<=549755813888) (hm:Sm k m) (hd:Sm k d) : ∃ n' m' d' w,Ev L 89 [.agg (rQ false false n m d)] (.agg [.bool n',.sl false (m'.map BZ),.sl false (d'.map BZ),.bool w])/\Vm n m d n' m' d' w k:=by
 have e8:=λ q q'=>U6 N.d7 d [] q q' hd.1 T8 (by have:=hd.2;omega) (by simp)
 rw[L2]at e8;by_cases h1:d=[1]
 ·subst h1
  refine ⟨n,m,[1],true,?_,hm,hd,by decide,λ_=>rfl,rfl⟩;refine Ev.x N.LT rfl rfl ?_;have hd:[1][(0:Int).toNat]? = some 1:=rfl;have nf:([1]:List Nat).length=1:=rfl;(repeat' ((first|(apply BR<;>intro hc<;>try (exfalso;omega))|apply CB|(refine CY (by assumption) ?_ rfl ?_;omega)|apply BA)<;>conv=>whnf));exact CK rfl (bR _ _ _ _)
 have hne : ∀ x,d[(0:Int).toNat]? = some x->(d.length:Int)=1->(x:Int)≠1:=λ x hx hl h=>by
  obtain ⟨y,rfl⟩:=List.length_eq_one_iff.1 (show d.length=1 by omega);simp at hx;apply h1;congr 1;omega
 by_cases h0:val d=0
 ·refine ⟨false,[],[1],true,?_,Ny _,qO hk.1 (by omega),by decide,λ_=>rfl,by unfold qv;rw[h0,Rat.mkRat_zero,Oz,Rat.zero_mkRat]⟩
  have hn:FI (val d) (0:Nat)=0:=(XM (by omega)).symm;rw[hn]at e8;refine Ev.x N.LT rfl rfl ?_;have hD:=hd.1;(repeat' ((first|(apply BR<;>intro hc<;>try (exfalso;omega))|apply CB|(refine V2 (by assumption) ?_ (λ e he hb => ?_);omega)|refine KM rfl ?_|apply BA|refine BH (e8 _ _) ?_)<;>conv=>whnf));all_goals first
   | exact CK rfl (bR _ _ _ _)
   | exact CK rfl (bR false true [] [1])
   | exact absurd (by assumption) (hne _ he (by assumption))
 ·refine ⟨n,m,d,false,?_,hm,hd,h0,(λ h=>by cases h),rfl⟩
  have hn:FI (val d) (0:Nat)=1:=(T5 (by omega)).symm;rw[hn]at e8;have hD:=hd.1;refine Ev.x N.LT rfl rfl ?_;(repeat' ((first|(apply BR<;>intro hc<;>try (exfalso;omega))|apply CB|(refine V2 (by assumption) ?_ (λ e he hb => ?_);omega)|apply BA|refine BH (e8 _ _) ?_)<;>conv=>whnf));all_goals first
   | exact CK rfl (bR _ _ _ _)
   | exact CK rfl (bR false true [] [1])
   | exact absurd (by assumption) (hne _ he (by assumption))
theorem yU (N:d9 L) (n q1 q2:Bool) (m d:List Nat) (hm:Sm 549755813888 m) (hd:Sm 549755813888 d):Ev L 95 [.agg (rQ q1 q2 n m d)] (.agg (eQ (qv n m d))):=by
 obtain ⟨n',m',d',w,hr,s1,s2,s3,s4,s5⟩:=UB N n m d 549755813888 (by omega) hm hd;have hl:=λ q1 q2=>ZX N n' q1 q2 m' d' s1 s2 s3
 rw[s5];unfold qv at hl;refine Ev.x N.QW rfl rfl ?_;(repeat' ((first|apply J4|apply BA|refine BH (hr) ?_|refine BH (hl _ _) ?_)<;>conv=>whnf));exact CK rfl (G3 _)
theorem Aix (N:d9 L) (n q1 q2:Bool) (m d:List Nat) (hm:Sm 549755813888 m) (hd:Sm 549755813888 d):Ev L 97 [.agg (rQ q1 q2 n m d)] (.int .i64 (sgn (qv n m d).num)):=by
 obtain ⟨n',m',d',w,hr,s1,s2,s3,s4,s5⟩:=UB N n m d 549755813888 (by omega) hm hd;have hl:=λ q=>hH N n' q m' s1
 rw[s5,Jf s3];refine Ev.x N.QU rfl rfl ?_;(repeat' ((first|apply J4|apply BA|refine BH (hr) ?_|refine BH (hl _) ?_)<;>conv=>whnf));exact FF rfl
theorem lD (z:Int):AV.agg [.bool (decide (z<0)),.sl false ((dg z.natAbs).map BZ),.sl false [[.int .u32 1]]] = .agg (eQ (z:Rat)):=by
 show _=AV.agg (rQ _ _ _ _ _);rw[Rat.num_intCast,Rat.den_intCast,mF];rfl
theorem LN (N:d9 L) (z:Int) (hz : -9223372036854775808<=z/\z<=9223372036854775807):Ev L 96 [.int .i64 z] (.agg (eQ (z:Rat))):=by
 have h1:=mZ N z hz;refine Ev.x N.QT rfl rfl ?_;(repeat' ((first|apply BA|refine BH (h1) ?_)<;>conv=>whnf));refine H7 1000 N.KY rfl rfl ?_;(repeat' (apply BA<;>conv=>whnf));refine ⟨rfl,?_⟩;(conv=>whnf);(repeat' (refine KM rfl ?_<;>conv=>whnf));exact CK (lD z) (G3 _)
theorem YT {k l:Nat} {n1 n2:Bool} {a b:List Nat} (ha:Sm k a) (hb:Sm l b):Sm (k+l) (dg (zv n1 a*zv n2 b).natAbs):=ha.mul hb (by rw[Int.natAbs_mul,HO,HO])
theorem Oa {k:Nat} {x y:Int} (ha:Sm k (dg x.natAbs)) (hb:Sm k (dg y.natAbs)):Sm (k+1) (dg (x+y).natAbs):=ha.add hb (by rw[DP,DP];omega)
theorem yS (N:d9 L) (k:Nat) (hk:1<=k/\k<=68719476736) (n1 n2 q1 q2 q3 q4:Bool) (m1 d1 m2 d2:List Nat) (cu:Sm k m1) (hd1:Sm k d1) (hm2:Sm k m2) (gk:Sm k d2) :
  Ev L 98 [.agg (rQ q1 q2 n1 m1 d1),.agg (rQ q3 q4 n2 m2 d2)] (.agg (eQ (qv n1 m1 d1+qv n2 m2 d2))):=by
 obtain ⟨a1,a2,a3,w1,v3,s1,s2,s3,s4,s5⟩:=UB N n1 m1 d1 k (by omega) cu hd1;obtain ⟨b1,b2,b3,w2,v7,t1,t2,t3,t4,t5⟩:=UB N n2 m2 d2 k (by omega) hm2 gk;rw[s5,t5];have hA:=λ q q'=>yA N a1 b1 q q' a2 b2 (s1.le (by omega)) (t1.le (by omega))
 have Hd:Sm (k+1) (dg (zv a1 a2+zv b1 b2).natAbs):=Oa (by rw[HO];exact s1.mo) (by rw[HO];exact t1.mo);by_cases hw:w1=true/\w2=true
 ·obtain ⟨rfl,rfl⟩:=hw
  rw[s4 rfl,t4 rfl,Jc (by omega),Je];generalize zv a1 a2+zv b1 b2=z at *;refine Ev.x N.LS rfl rfl ?_;(repeat' ((first|apply J4|apply BA|refine BH (v3) ?_|refine BH (v7) ?_|refine BH (hA _ _) ?_)<;>conv=>whnf));refine H7 1000 N.KY rfl rfl ?_;(repeat' (apply BA<;>conv=>whnf));refine ⟨rfl,?_⟩;(conv=>whnf);(repeat' (refine KM rfl ?_<;>conv=>whnf));exact CK (lD z) (G3 _)
 ·have e8:=λ q q'=>U6 N.d7 a3 b3 q q' s2.1 t2.1 (by have:=s2.2;omega) (by have:=t2.2;omega)
  by_cases hde:val a3=val b3
  ·have hn:FI (val a3) (val b3)=0:=(XM (by omega)).symm
   rw[hn]at e8;rw[<-hde,Jc s3];generalize zv a1 a2+zv b1 b2=z at *;have hl:=λ q1 q2=>ZX N (decide (z<0)) q1 q2 (dg z.natAbs) a3 (Hd.le (by omega)) (s2.le (by omega)) s3
   unfold qv at hl;rw[HW]at hl;refine Ev.x N.LS rfl rfl ?_;cases w1<;>cases w2
   ·(repeat' ((first|(apply BR<;>intro hc<;>try (exfalso;omega))|apply J4|apply BA|refine BH (v3) ?_|refine BH (v7) ?_|refine BH (hA _ _) ?_|refine BH (e8 _ _) ?_|refine BH (hl _ _) ?_)<;>conv=>whnf))
    exact CK rfl (G3 _)
   ·(repeat' ((first|(apply BR<;>intro hc<;>try (exfalso;omega))|apply J4|apply BA|refine BH (v3) ?_|refine BH (v7) ?_|refine BH (hA _ _) ?_|refine BH (e8 _ _) ?_|refine BH (hl _ _) ?_)<;>conv=>whnf))
    exact CK rfl (G3 _)
   ·(repeat' ((first|(apply BR<;>intro hc<;>try (exfalso;omega))|apply J4|apply BA|refine BH (v3) ?_|refine BH (v7) ?_|refine BH (hA _ _) ?_|refine BH (e8 _ _) ?_|refine BH (hl _ _) ?_)<;>conv=>whnf))
    exact CK rfl (G3 _)
   ·exact absurd ⟨rfl,rfl⟩ hw
  ·have hn:FI (val a3) (val b3)≠0:=by unfold FI;split<;>(try split)<;>omega
   generalize FI (val a3) (val b3)=cm at *;have hM1:=λ q q'=>XV N a1 false q q' a2 b3 s1.1 t2.1 (by have:=s1.2;have:=t2.2;omega)
   have hM2:=λ q q'=>XV N b1 false q q' b2 a3 t1.1 s2.1 (by have:=t1.2;have:=s2.2;omega)
   have jg:=λ q q'=>nE N.d7 a3 b3 q q' s2.1 t2.1 (by have:=s2.2;have:=t2.2;omega)
   have ni:=ZY N a3;have lf:=ZY N b3;have g1:Sm (k+k) (dg (zv a1 a2*zv false b3).natAbs):=YT s1 t2;have g2:Sm (k+k) (dg (zv b1 b2*zv false a3).natAbs):=YT t1 s2;have g3:=Oa g1 g2;have g4:Sm (k+k) (dg (val a3*val b3)):=s2.mul t2 rfl;rw[iP s3 t3,<-HD b3,<-HD a3];have qp:val a3*val b3≠0:=Nat.mul_ne_zero s3 t3;generalize zv a1 a2*zv false b3=x at *;generalize zv b1 b2*zv false a3=y at *;generalize val a3*val b3=D at *;have zy:=λ q q'=>yA N (decide (x<0)) (decide (y<0)) q q' (dg x.natAbs) (dg y.natAbs) (g1.le (by omega)) (g2.le (by omega))
   rw[HW,HW]at zy;generalize x+y=z at *;have hl:=λ q1 q2=>ZX N (decide (z<0)) q1 q2 (dg z.natAbs) (dg D) (g3.le (by omega)) (g4.le (by omega)) (by rw[DP];exact qp)
   unfold qv at hl;rw[HW,DP]at hl;refine Ev.x N.LS rfl rfl ?_;cases w1<;>cases w2
   ·(repeat' ((first|(apply BR<;>intro hc<;>try (exfalso;omega))|apply J4|apply W6|apply BA|refine BH (v3) ?_|refine BH (v7) ?_|refine BH (e8 _ _) ?_|refine BH (ni) ?_|refine BH (lf) ?_|refine BH (hM1 _ _) ?_|refine BH (hM2 _ _) ?_|refine BH (zy _ _) ?_|refine BH (jg _ _) ?_|refine BH (hl _ _) ?_)<;>conv=>whnf))
    exact CK rfl (G3 _)
   ·(repeat' ((first|(apply BR<;>intro hc<;>try (exfalso;omega))|apply J4|apply W6|apply BA|refine BH (v3) ?_|refine BH (v7) ?_|refine BH (e8 _ _) ?_|refine BH (ni) ?_|refine BH (lf) ?_|refine BH (hM1 _ _) ?_|refine BH (hM2 _ _) ?_|refine BH (zy _ _) ?_|refine BH (jg _ _) ?_|refine BH (hl _ _) ?_)<;>conv=>whnf))
    exact CK rfl (G3 _)
   ·(repeat' ((first|(apply BR<;>intro hc<;>try (exfalso;omega))|apply J4|apply W6|apply BA|refine BH (v3) ?_|refine BH (v7) ?_|refine BH (e8 _ _) ?_|refine BH (ni) ?_|refine BH (lf) ?_|refine BH (hM1 _ _) ?_|refine BH (hM2 _ _) ?_|refine BH (zy _ _) ?_|refine BH (jg _ _) ?_|refine BH (hl _ _) ?_)<;>conv=>whnf))
    exact CK rfl (G3 _)
   ·exact absurd ⟨rfl,rfl⟩ hw
theorem yT (N:d9 L) (k:Nat) (hk:1<=k/\k<=68719476736) (n1 n2 q1 q2 q3 q4:Bool) (m1 d1 m2 d2:List Nat) (cu:Sm k m1) (hd1:Sm k d1) (hm2:Sm k m2) (gk:Sm k d2) :
  Ev L 99 [.agg (rQ q1 q2 n1 m1 d1),.agg (rQ q3 q4 n2 m2 d2)] (.agg (eQ (qv n1 m1 d1*qv n2 m2 d2))):=by
 obtain ⟨a1,a2,a3,w1,v3,s1,s2,s3,s4,s5⟩:=UB N n1 m1 d1 k (by omega) cu hd1;obtain ⟨b1,b2,b3,w2,v7,t1,t2,t3,t4,t5⟩:=UB N n2 m2 d2 k (by omega) hm2 gk;rw[s5,t5,oX];have hM1:=λ q q'=>XV N a1 b1 q q' a2 b2 s1.1 t1.1 (by have:=s1.2;have:=t1.2;omega)
 have jg:=λ q q'=>nE N.d7 a3 b3 q q' s2.1 t2.1 (by have:=s2.2;have:=t2.2;omega)
 have g1:Sm (k+k) (dg (zv a1 a2*zv b1 b2).natAbs):=YT s1 t1;have g4:Sm (k+k) (dg (val a3*val b3)):=s2.mul t2 rfl;have qp:val a3*val b3≠0:=Nat.mul_ne_zero s3 t3;generalize zv a1 a2*zv b1 b2=z at *;by_cases hw:w1=true/\w2=true
 ·obtain ⟨rfl,rfl⟩:=hw
  rw[s4 rfl,t4 rfl,Nat.one_mul,Je];refine Ev.x N.NA rfl rfl ?_;(repeat' ((first|apply J4|apply BA|refine BH (v3) ?_|refine BH (v7) ?_|refine BH (hM1 _ _) ?_)<;>conv=>whnf));refine H7 1000 N.KY rfl rfl ?_;(repeat' (apply BA<;>conv=>whnf));refine ⟨rfl,?_⟩;(conv=>whnf);(repeat' (refine KM rfl ?_<;>conv=>whnf));exact CK (lD z) (G3 _)
 ·generalize val a3*val b3=D at *
  have hl:=λ q1 q2=>ZX N (decide (z<0)) q1 q2 (dg z.natAbs) (dg D) (g1.le (by omega)) (g4.le (by omega)) (by rw[DP];exact qp)
  unfold qv at hl;rw[HW,DP]at hl;refine Ev.x N.NA rfl rfl ?_;cases w1<;>cases w2
  ·(repeat' ((first|apply J4|apply BA|refine BH (v3) ?_|refine BH (v7) ?_|refine BH (hM1 _ _) ?_|refine BH (jg _ _) ?_|refine BH (hl _ _) ?_)<;>conv=>whnf))
   exact CK rfl (G3 _)
  ·(repeat' ((first|apply J4|apply BA|refine BH (v3) ?_|refine BH (v7) ?_|refine BH (hM1 _ _) ?_|refine BH (jg _ _) ?_|refine BH (hl _ _) ?_)<;>conv=>whnf))
   exact CK rfl (G3 _)
  ·(repeat' ((first|apply J4|apply BA|refine BH (v3) ?_|refine BH (v7) ?_|refine BH (hM1 _ _) ?_|refine BH (jg _ _) ?_|refine BH (hl _ _) ?_)<;>conv=>whnf))
   exact CK rfl (G3 _)
  ·exact absurd ⟨rfl,rfl⟩ hw
theorem Wf (x:Rat) (e:Int):CT (.tup [.agg (eQ x),.int .i64 e]):=by
 simp only[CT,FG,and_true,true_and];exact ⟨E5 _,E5 _⟩
theorem Aiw (N:d9 L) (k:Nat) (hk:1<=k/\k<=68719476736) (n1 n2 q1 q2 q3 q4:Bool) (m1 d1 m2 d2:List Nat) (cu:Sm k m1) (hd1:Sm k d1) (hm2:Sm k m2) (gk:Sm k d2) (h0:qv n2 m2 d2≠0) :
  Ev L 100 [.agg (rQ q1 q2 n1 m1 d1),.agg (rQ q3 q4 n2 m2 d2)] (.tup [.agg (eQ (qv n1 m1 d1/qv n2 m2 d2)),.int .i64 0]):=by
 obtain ⟨a1,a2,a3,w1,v3,s1,s2,s3,s4,s5⟩:=UB N n1 m1 d1 k (by omega) cu hd1;obtain ⟨b1,b2,b3,w2,v7,t1,t2,t3,t4,t5⟩:=UB N n2 m2 d2 k (by omega) hm2 gk;rw[t5]at h0;rw[s5,t5];have oc:zv b1 b2≠0:=λ h=>h0 ((oY t3).2 h)
 rw[Akf s3 t3 oc];have hS:=λ q=>hH N b1 q b2 (t1.le (by omega))
 have hsg:sgn (zv b1 b2)≠0:=by unfold sgn;split<;>(try split)<;>omega
 have hM1:=λ q q'=>XV N a1 false q q' a2 b3 s1.1 t2.1 (by have:=s1.2;have:=t2.2;omega)
 have hM2:=λ q q'=>XV N false b1 q q' a3 b2 s2.1 t1.1 (by have:=t1.2;have:=s2.2;omega)
 have ni:=ZY N a3;have lf:=ZY N b3;have g1:Sm (k+k) (dg (zv a1 a2*zv false b3).natAbs):=YT s1 t2;have g2:Sm (k+k) (dg (zv false a3*zv b1 b2).natAbs):=YT s2 t1;have hd:(zv false a3*zv b1 b2).natAbs=val a3*(zv b1 b2).natAbs:=by rw[Int.natAbs_mul,HO]
 have qt:(zv false a3*zv b1 b2).sign=(zv b1 b2).sign:=by
  rw[Int.sign_mul,HD,Int.sign_eq_one_of_pos (by omega),Int.one_mul]
 have fx:zv false a3*zv b1 b2≠0:=by
  intro h;rw[h]at qt;exact oc (by simpa using qt.symm)
 rw[<-hd,<-qt,<-HD b3];generalize zv a1 a2*zv false b3=x at *;generalize zv false a3*zv b1 b2=y at *;generalize sgn (zv b1 b2)=sg at *;have hl:=λ q1 q2=>ZX N (decide (x<0) != decide (y<0)) q1 q2 (dg x.natAbs) (dg y.natAbs) (g1.le (by omega)) (g2.le (by omega)) (by rw[DP];omega)
 unfold qv at hl;rw[Pa fx,DP]at hl;refine Ev.x N.QQ rfl rfl ?_;(repeat' ((first|(apply BR<;>intro hc<;>try (exfalso;omega))|apply J4|apply W6|apply BA|refine BH (v3) ?_|refine BH (v7) ?_|refine BH (hS _) ?_|refine BH (ni) ?_|refine BH (lf) ?_|refine BH (hM1 _ _) ?_|refine BH (hM2 _ _) ?_)<;>conv=>whnf));refine H7 1000 N.NB rfl rfl ?_;(repeat' (apply BA<;>conv=>whnf));generalize decide (x<0)=p at *;generalize decide (y<0)=r at *;cases p<;>cases r;all_goals
  (conv=>whnf)
  refine ⟨rfl,?_⟩;(conv=>whnf);(repeat' (refine BH (hl _ _) ?_<;>conv=>whnf));exact CK rfl (Wf _ _)
theorem Bt.sm {k:Nat} {x:Rat} (h:Bt k x) (hk:k<2199023255552):Sm 68719476736 (dg x.num.natAbs)/\Sm 68719476736 (dg x.den):=h.Pj (by omega)
theorem cL (N:d9 L) {x y:Rat} {k l:Nat} (hx:Bt k x) (hy:Bt l y) (hk:k<2199023255552) (hl:l<2199023255552):Ev L 98 [.agg (eQ x),.agg (eQ y)] (.agg (eQ (x+y))):=by
 have:=yS N 68719476736 (by omega) (decide (x.num<0)) (decide (y.num<0)) false false false false _ _ _ _ (hx.sm hk).1 (hx.sm hk).2 (hy.sm hl).1 (hy.sm hl).2
 rw[IB,IB]at this;exact this
theorem K8 (N:d9 L) {x y:Rat} {k l:Nat} (hx:Bt k x) (hy:Bt l y) (hk:k<2199023255552) (hl:l<2199023255552):Ev L 99 [.agg (eQ x),.agg (eQ y)] (.agg (eQ (x*y))):=by
 have:=yT N 68719476736 (by omega) (decide (x.num<0)) (decide (y.num<0)) false false false false _ _ _ _ (hx.sm hk).1 (hx.sm hk).2 (hy.sm hl).1 (hy.sm hl).2
 rw[IB,IB]at this;exact this
theorem gZ (N:d9 L) {x y:Rat} {k l:Nat} (hx:Bt k x) (hy:Bt l y) (hk:k<2199023255552) (hl:l<2199023255552) (h0:y≠0):Ev L 100 [.agg (eQ x),.agg (eQ y)] (.tup [.agg (eQ (x/y)),.int .i64 0]):=by
 have:=Aiw N 68719476736 (by omega) (decide (x.num<0)) (decide (y.num<0)) false false false false _ _ _ _ (hx.sm hk).1 (hx.sm hk).2 (hy.sm hl).1 (hy.sm hl).2 (by rw[IB];exact h0)
 rw[IB,IB]at this;exact this
theorem XW (N:d9 L) {x:Rat} {k:Nat} (hx:Bt k x) (hk:k<2199023255552):Ev L 95 [.agg (eQ x)] (.agg (eQ x)):=by
 have:=yU N (decide (x.num<0)) false false _ _ ((hx.sm hk).1.le (by omega)) ((hx.sm hk).2.le (by omega))
 rw[IB]at this;exact this
theorem N6 (N:d9 L) {x:Rat} {k:Nat} (hx:Bt k x) (hk:k<2199023255552):Ev L 97 [.agg (eQ x)] (.int .i64 (sgn x.num)):=by
 have:=Aix N (decide (x.num<0)) false false _ _ ((hx.sm hk).1.le (by omega)) ((hx.sm hk).2.le (by omega))
 rw[IB]at this;exact this
theorem OO {x:Rat}:sgn x.num=0↔x=0:=by
 rw[<-Rat.num_eq_zero];unfold sgn;split
 ·omega
 ·split<;>omega
theorem Ky (n:Bool) (m d:List Nat):qv (!n) m d = -(qv n m d):=by
 unfold qv;have h:zv (!n) m = -(zv n m):=by cases n<;>simp [zv]
 rw[h,Rat.neg_mkRat]
theorem Wi (n:Bool) (m d:List Nat):CT (.agg (rQ false false n m d)):=by
 simp only[CT,FG,and_true,true_and];exact ⟨E5 _,E5 _⟩
theorem xZ (N:s9 L) (n:Bool) (m d:List Nat):Ev L 149 [.agg (rQ false false n m d)] (.agg (rQ false false (!n) m d)):=by
 refine Ev.x N.QX rfl rfl ?_;cases n;all_goals
  (repeat' (apply BA<;>conv=>whnf))
  exact CK rfl (Wi _ _ _)
theorem nO (N:s9 L) {x y:Rat} {k l:Nat} (hx:Bt k x) (hy:Bt l y) (hk:k<2199023255552) (hl:l<2199023255552):Ev L 150 [.agg (eQ x),.agg (eQ y)] (.agg (eQ (x-y))):=by
 have hF:=xZ N (decide (y.num<0)) (dg y.num.natAbs) (dg y.den);have hA:=λ q3 q4=>yS N.toRatGLib 68719476736 (by omega) (decide (x.num<0)) (!decide (y.num<0)) false false q3 q4 _ _ _ _ (hx.sm hk).1 (hx.sm hk).2 (hy.sm hl).1 (hy.sm hl).2
 rw[Ky,IB,IB,<-Rat.sub_eq_add_neg]at hA;refine Ev.x N.QV rfl rfl ?_;(repeat' ((first|apply sS|apply BA|refine BH (hF) ?_|refine BH (hA _ _) ?_)<;>conv=>whnf));exact CK rfl (G3 _)
theorem Akh {x y:Int} (h:y≠0):mkRat (y.sign*x) y.natAbs=Rat.divInt x y:=by
 obtain ⟨d,hd|hd⟩:=Int.eq_nat_or_neg y
 ·subst hd
  rw[Int.sign_eq_one_of_pos (by omega),Int.one_mul,Int.natAbs_natCast,Rat.divInt_ofNat]
 ·subst hd
  rw[Int.sign_eq_neg_one_of_neg (by omega),Int.natAbs_neg,Int.natAbs_natCast,Rat.divInt_neg',Rat.divInt_ofNat,Int.neg_one_mul]
theorem Aho (N:s9 L) (x y:Int) (hx : -9223372036854775808<=x/\x<=9223372036854775807) (hy : -9223372036854775808<=y/\y<=9223372036854775807) (h0:y≠0):Ev L 151 [.int .i64 x,.int .i64 y] (.agg (eQ (Rat.divInt x y))):=by
 have h1:=mZ N.toRatGLib x hx;have h2:=mZ N.toRatGLib y hy;have g1:Sm 2 (dg x.natAbs):=Sm.dg (by omega);have g2:Sm 2 (dg y.natAbs):=Sm.dg (by omega);have hl:=λ q1 q2=>ZX N.toRatGLib (decide (x<0) != decide (y<0)) q1 q2 (dg x.natAbs) (dg y.natAbs) (g1.le (by omega)) (g2.le (by omega)) (by rw[DP];omega)
 unfold qv at hl;rw[Pa h0,DP,Akh h0]at hl;refine Ev.x N.QR rfl rfl ?_;(repeat' ((first|(apply BR<;>intro hc<;>try (exfalso;omega))|apply BA|refine BH (h1) ?_|refine BH (h2) ?_)<;>conv=>whnf));refine H7 1000 N.NB rfl rfl ?_;(repeat' (apply BA<;>conv=>whnf));generalize decide (x<0)=p at *;generalize decide (y<0)=r at *;cases p<;>cases r;all_goals
  (conv=>whnf)
  refine ⟨rfl,?_⟩;(conv=>whnf);(repeat' (refine BH (hl _ _) ?_<;>conv=>whnf));exact CK rfl (G3 _)
def K5 (p r:List Rat):List Rat:=(List.range p.length).map λ i=>p.getD i 0+r.getD i 0
theorem lC (p r:List Rat):(K5 p r).length=p.length:=by simp [K5]
theorem kZ {p r:List Rat} {i:Nat} (h:i<p.length):(K5 p r)[i]? = some (p.getD i 0+r.getD i 0):=by
 simp only[K5,List.getElem?_map,List.getElem?_range h,Option.map_some]
theorem UD {l:List Rat} {i:Nat} {x:Rat} (h:l[i]? = some x):l.getD i 0=x:=by rw[List.getD_eq_getElem?_getD,h];rfl
theorem cX {l:List Rat} {i:Nat} (h:l.length<=i):l.getD i 0=0:=by rw[List.getD_eq_getElem?_getD,List.getElem?_eq_none h];rfl
theorem Aib (N:aj L) (q:Bool) (l:List Rat) (k:Nat) (hl:Bs k l) (hk:k<2199023255552) (hn:l.length<=1000000):Ev L 170 [.sl q (l.map eQ)] (.sl false ((F3 l).map eQ)):=by
 refine Ev.x N.QN rfl rfl ?_;(repeat' (apply BA<;>conv=>whnf));refine HI 1000 N.KX rfl rfl ?_;(repeat' ((first|apply CB|apply BA)<;>conv=>whnf));refine DG (λ n=>n) (λ(n:Nat)=>n<=l.length/\FM l l.length=FM l n) (λ n=>[(3,.int .i64 n)]) (λ_=>[]) [] [] l.length (by (conv=>whnf);exact ⟨rfl,rfl,rfl⟩) ⟨Nat.le_refl _,rfl⟩ ?_;intro n ⟨p1,p2⟩ ih;have done : ∀ {n:Nat},FM l l.length=n->F3 l=l.take n:=λ h=>by rw[F3,h]
 by_cases hz:n=0\/(∃ m x,n=m+1/\l[m]? = some x/\x≠0)
 ·have au:FM l l.length=n:=by
   rw[p2];rcases hz with rfl|⟨m,x,rfl,h1,h2⟩
   ·rfl
   ·rw[FM,if_neg]
    rw[List.getD_eq_getElem?_getD,h1];exact h2
  have oz:=done au;have htl:(l.take n).length=n:=by rw[List.length_take];omega
  clear ih au p2 done;rcases hz with h0|⟨m,x,Am,h1,h2⟩
  case' inl=>(repeat' ((first|(apply BR<;>intro hc<;>try (exfalso;omega))|apply BA)<;>conv=>whnf))
  case' inr =>
   have h1':l[((n:Int)-1).toNat]? = some x:=by rw[show ((n:Int)-1).toNat=m by omega];exact h1
   have eg:=N6 N.toRatGLib (hl.at h1) (by omega);have hs:=OO (x:=x);generalize sgn x.num=s at *;have hS : ∀ v,l[((n:Int)-1).toNat]? = some v->Ev L 97 [.agg (eQ v)] (.int .i64 s):=λ v h=>by
    obtain rfl:=Option.some.inj (h1'.symm.trans h);exact eg
   have hs0:s≠0:=λ h=>h2 (hs.1 h)
   (repeat' ((first|(apply BR<;>intro hc<;>try (exfalso;omega))|(apply D5;omega)|(refine CY (by assumption) ?_ rfl ?_;omega)|apply BA|refine BH (eg) ?_)<;>conv=>whnf))
  all_goals
   refine US (enc:=eQ) (λ_=>rfl) p1 ?_;(conv=>whnf);skip;refine ⟨rfl,_,rfl,?_⟩;(conv=>whnf);(repeat' (apply CB<;>conv=>whnf));refine GU (enc:=eO) none n rfl (by rw[htl]) (by omega) ?_;(conv=>whnf);skip;refine DG (λ i=>n-i) (λ(i:Nat)=>i<=n) (λ i=>[(11,.int .i64 i)]) (λ i=>[(170008,170008,.rw 3 ((FU (l.take i) n).map eO))]) [] [] 0 (by first|exact (by (conv=>whnf);exact ⟨rfl,rfl,rfl⟩)|(rw[List.take_zero,<-KS];exact (by (conv=>whnf);exact ⟨rfl,rfl,rfl⟩))) (by omega) ?_;intro i g1 ih;by_cases hi:i<n
   ·all_goals try (exfalso;omega)
    all_goals
     obtain ⟨y,hy⟩ : ∃ y,l[i]? = some y:=⟨_,zE (by omega)⟩;have hy':l[(i:Int).toNat]? = some y:=hy;have hti:(l.take i).length=i:=by rw[List.length_take];omega
     have hlf:=JO (l:=l.take i) (m:=n) (by omega);have hst:=KU (l:=l.take i) (m:=n) (x:=y) (by omega);rw[hti,<-kG hy]at hst;have Ps:=XW N.toRatGLib (hl.at hy) (by omega);have hT : ∀ v,l[(i:Int).toNat]? = some v->Ev L 95 [.agg (eQ v)] (.agg (eQ y)):=λ v h=>by
      obtain rfl:=Option.some.inj (hy'.symm.trans h);exact Ps
     (repeat' ((first|(apply BR<;>intro hc<;>try (exfalso;omega))|(apply CE;omega)|(refine CY (by assumption) ?_ rfl ?_;omega)|apply BA|refine BH (Ps) ?_)<;>conv=>whnf))
     refine G8 (enc:=eO) (some y) rfl (λ e=>by cases e<;>rfl) (by omega) ?_;(conv=>whnf);(repeat' ((first|(apply CJ;omega)|fail)<;>conv=>whnf));rw[hst];exact C7 [] (ih (i+1) (by omega) (by omega))
   ·obtain rfl:i=n:=by omega
    clear ih;rw[K9 htl,<-oz]at *;rw[<-oz]at htl;(repeat' ((first|(apply BR<;>intro hc<;>try (exfalso;omega))|apply BA)<;>conv=>whnf));refine GK (enc:=eQ) (λ_=>rfl) rfl htl.symm ?_;(conv=>whnf);exact CK rfl (by simp only[CT,true_and];exact KP _)
 ·obtain ⟨m,rfl⟩ : ∃ m,n=m+1:=⟨n-1,by omega⟩
  obtain ⟨x,hx⟩ : ∃ x,l[m]? = some x:=⟨_,zE (by omega)⟩;have hx0:x=0:=by
   rcases Classical.em (x=0) with h|h
   ·exact h
   ·exact (hz (Or.inr ⟨m,x,rfl,hx,h⟩)).elim
  have hx':l[((m+1:Nat)-1:Int).toNat]? = some x:=by rw[show ((m+1:Nat)-1:Int).toNat=m by omega];exact hx
  have eg:=N6 N.toRatGLib (hl.at hx) (by omega);have hs:=OO (x:=x);generalize sgn x.num=s at *;have hS : ∀ v,l[((m+1:Nat)-1:Int).toNat]? = some v->Ev L 97 [.agg (eQ v)] (.int .i64 s):=λ v h=>by
   obtain rfl:=Option.some.inj (hx'.symm.trans h);exact eg
  have hs0:=hs.2 hx0;(repeat' ((first|(apply BR<;>intro hc<;>try (exfalso;omega))|(apply D5;omega)|(refine CY (by assumption) ?_ rfl ?_;omega)|apply BA|refine BH (eg) ?_)<;>conv=>whnf));rw[show ((m+1:Nat):Int)-1=(m:Int) by omega];exact C7 [] (ih m (by omega) ⟨by omega,by rw[p2,FM,if_pos (by rw[List.getD_eq_getElem?_getD,hx];exact hx0)]⟩)
theorem Ah9 (N:TrGLib L) (q:Bool) (l:List Rat) (d:Rat) (k j:Nat) (hl:Bs k l) (hd:Bt j d) (hk:k+j<2199023255552) (hn:l.length<=1000000):Ev L 190 [.sl q (l.map eQ),.agg (eQ d)] (.sl false ((F3 (l.map (· * d))).map eQ)):=by
 refine Ev.x N.QM rfl rfl ?_;(repeat' ((first|apply CB|apply BA)<;>conv=>whnf));refine GU (enc:=eO) none l.length rfl rfl (by omega) ?_;(conv=>whnf);skip;refine DG (λ i=>l.length-i) (λ(i:Nat)=>i<=l.length) (λ i=>[(12,.int .i64 i)]) (λ i=>[(9,9,.rw 3 ((FU ((l.map (· * d)).take i) l.length).map eO))]) [] [] 0 (by first|exact (by (conv=>whnf);exact ⟨rfl,rfl,rfl⟩)|(rw[List.take_zero,<-KS];exact (by (conv=>whnf);exact ⟨rfl,rfl,rfl⟩))) (by omega) ?_;intro i g1 ih;by_cases hi:i<l.length
 ·obtain ⟨x,hx⟩ : ∃ x,l[i]? = some x:=⟨_,zE hi⟩
  have hx':l[(i:Int).toNat]? = some x:=hx;have hM:=K8 N.toRatGLib (hl.at hx) hd (by omega) (by omega);have hy:(l.map (· * d))[i]? = some (x*d):=by rw[List.getElem?_map,hx];rfl
  have hti:((l.map (· * d)).take i).length=i:=by rw[List.length_take,List.length_map];omega
  have hlf:=JO (l:=(l.map (· * d)).take i) (m:=l.length) (by omega);have hst:=KU (l:=(l.map (· * d)).take i) (m:=l.length) (x:=x*d) (by omega);rw[hti,<-kG hy]at hst;(repeat' ((first|(apply BR<;>intro hc<;>try (exfalso;omega))|(apply CE;omega)|(refine CY (by assumption) ?_ rfl ?_;omega)|apply BA|refine BH (hM) ?_)<;>conv=>whnf));refine G8 (enc:=eO) (some (x*d)) rfl (λ e=>by cases e<;>rfl) (by omega) ?_;(conv=>whnf);(repeat' ((first|(apply CJ;omega)|fail)<;>conv=>whnf));rw[hst];exact C7 [] (ih (i+1) (by omega) (by omega))
 ·obtain rfl:i=l.length:=by omega
  clear ih;have vb:Bs (k+j) (l.map (· * d)):=by
   intro y hy;obtain ⟨x,hx,rfl⟩:=List.mem_map.1 hy;exact (hl x hx).mul hd
  have hml:(l.map (· * d)).length=l.length:=List.length_map ..;rw[List.take_of_length_le (Nat.le_of_eq hml),K9 hml,<-hml];generalize l.map (· * d)=p at *;(repeat' ((first|(apply BR<;>intro hc<;>try (exfalso;omega))|apply BA)<;>conv=>whnf));refine HI 1000 N.KX rfl rfl ?_;(repeat' (apply BA<;>conv=>whnf));refine DG (λ n=>n) (λ(n:Nat)=>n<=p.length/\FM p p.length=FM p n) (λ n=>[(3,.int .i64 n)]) (λ_=>[(9,9,.rw 3 (p.map eQ))]) [] [] p.length (by (conv=>whnf);exact ⟨rfl,rfl,rfl⟩) ⟨Nat.le_refl _,rfl⟩ ?_;intro n ⟨p1,p2⟩ ih;have done : ∀ {n:Nat},FM p p.length=n->F3 p=p.take n:=λ h=>by rw[F3,h]
  by_cases hz:n=0\/(∃ m x,n=m+1/\p[m]? = some x/\x≠0)
  ·have au:FM p p.length=n:=by
    rw[p2];rcases hz with rfl|⟨m,x,rfl,h1,h2⟩
    ·rfl
    ·rw[FM,if_neg]
     rw[List.getD_eq_getElem?_getD,h1];exact h2
   have oz:=done au;have htl:(p.take n).length=n:=by rw[List.length_take];omega
   clear ih au p2 done;rcases hz with h0|⟨m,x,Am,h1,h2⟩
   case' inl=>(repeat' ((first|(apply BR<;>intro hc<;>try (exfalso;omega))|apply BA)<;>conv=>whnf))
   case' inr =>
    have h1':p[((n:Int)-1).toNat]? = some x:=by rw[show ((n:Int)-1).toNat=m by omega];exact h1
    have eg:=N6 N.toRatGLib (vb.at h1) (by omega);have hs:=OO (x:=x);generalize sgn x.num=s at *;have hS : ∀ v,p[((n:Int)-1).toNat]? = some v->Ev L 97 [.agg (eQ v)] (.int .i64 s):=λ v h=>by
     obtain rfl:=Option.some.inj (h1'.symm.trans h);exact eg
    have hs0:s≠0:=λ h=>h2 (hs.1 h)
    (repeat' ((first|(apply BR<;>intro hc<;>try (exfalso;omega))|(apply CE;omega)|(apply D5;omega)|(refine aZ ?_ (λ_=>rfl) (λ v hv => ?_);omega)|apply BA|refine BH (hS _ hv) ?_)<;>conv=>whnf))
   all_goals
    refine JM n (by omega) (by omega) ?_;(conv=>whnf);skip;refine ⟨rfl,_,rfl,?_⟩;(conv=>whnf);(refine J5 (enc:=eQ) (λ_=>rfl) (by omega) ?_;rw[List.drop_zero,Nat.sub_zero,<-oz];exact CK rfl (by simp only[CT,true_and];exact KP _))
  ·obtain ⟨m,rfl⟩ : ∃ m,n=m+1:=⟨n-1,by omega⟩
   obtain ⟨x,hx⟩ : ∃ x,p[m]? = some x:=⟨_,zE (by omega)⟩;have hx0:x=0:=by
    rcases Classical.em (x=0) with h|h
    ·exact h
    ·exact (hz (Or.inr ⟨m,x,rfl,hx,h⟩)).elim
   have hx':p[((m+1:Nat)-1:Int).toNat]? = some x:=by rw[show ((m+1:Nat)-1:Int).toNat=m by omega];exact hx
   have eg:=N6 N.toRatGLib (vb.at hx) (by omega);have hs:=OO (x:=x);generalize sgn x.num=s at *;have hS : ∀ v,p[((m+1:Nat)-1:Int).toNat]? = some v->Ev L 97 [.agg (eQ v)] (.int .i64 s):=λ v h=>by
    obtain rfl:=Option.some.inj (hx'.symm.trans h);exact eg
   have hs0:=hs.2 hx0;(repeat' ((first|(apply BR<;>intro hc<;>try (exfalso;omega))|(apply CE;omega)|(apply D5;omega)|(refine aZ ?_ (λ_=>rfl) (λ v hv => ?_);omega)|apply BA|refine BH (hS _ hv) ?_)<;>conv=>whnf));rw[show ((m+1:Nat):Int)-1=(m:Int) by omega];exact C7 [] (ih m (by omega) ⟨by omega,by rw[p2,FM,if_pos (by rw[List.getD_eq_getElem?_getD,hx];exact hx0)]⟩)
theorem Ah6 (N:TrGLib L) (q1 q2:Bool) (p r:List Rat) (k j:Nat) (hp:Bs k p) (hr:Bs j r) (hk:k+j+1<2199023255552) (hn:p.length<=1000000) (hm:r.length<=p.length):Ev L 191 [.sl q1 (p.map eQ),.sl q2 (r.map eQ)] (.sl false ((F3 (K5 p r)).map eQ)):=by
 refine Ev.x N.QJ rfl rfl ?_;(repeat' ((first|(apply BR<;>intro hc<;>try (exfalso;omega))|apply CB|apply BA)<;>conv=>whnf));refine GU (enc:=eO) none p.length rfl rfl (by omega) ?_;(conv=>whnf);skip;have hml:=lC p r;refine DG (λ i=>p.length-i) (λ(i:Nat)=>i<=p.length) (λ i=>[(19,.int .i64 i)]) (λ i=>[(16,16,.rw 3 ((FU ((K5 p r).take i) p.length).map eO))]) [] [] 0 (by first|exact (by (conv=>whnf);exact ⟨rfl,rfl,rfl⟩)|(rw[List.take_zero,<-KS];exact (by (conv=>whnf);exact ⟨rfl,rfl,rfl⟩))) (by omega) ?_;intro i g1 ih;by_cases hi:i<p.length
 ·obtain ⟨x,hx⟩ : ∃ x,p[i]? = some x:=⟨_,zE hi⟩
  have hx':p[(i:Int).toNat]? = some x:=hx;have hy:=kZ (r:=r) hi;rw[UD hx]at hy;have hti:((K5 p r).take i).length=i:=by rw[List.length_take];omega
  have hlf:=JO (l:=(K5 p r).take i) (m:=p.length) (by omega);have hst:=KU (l:=(K5 p r).take i) (m:=p.length) (x:=x+r.getD i 0) (by omega);rw[hti,<-kG hy]at hst;by_cases h2:i<r.length
  ·obtain ⟨y,tj⟩ : ∃ y,r[i]? = some y:=⟨_,zE h2⟩
   have As5:r[(i:Int).toNat]? = some y:=tj;rw[UD tj]at hst;have hA:=cL N.toRatGLib (hp.at hx) (hr.at tj) (by omega) (by omega);(repeat' ((first|(apply BR<;>intro hc<;>try (exfalso;omega))|(apply CE;omega)|apply CB|(refine CY (by assumption) ?_ rfl ?_;omega)|apply BA|refine BH (hA) ?_)<;>conv=>whnf));refine G8 (enc:=eO) (some (x+y)) rfl (λ e=>by cases e<;>rfl) (by omega) ?_;(conv=>whnf);(repeat' ((first|(apply CJ;omega)|fail)<;>conv=>whnf));rw[hst];exact C7 [] (ih (i+1) (by omega) (by omega))
  ·rw[cX (l:=r) (by omega),Rat.add_zero]at hst
   have hT:=XW N.toRatGLib (hp.at hx) (by omega);(repeat' ((first|(apply BR<;>intro hc<;>try (exfalso;omega))|(apply CE;omega)|apply CB|(refine CY (by assumption) ?_ rfl ?_;omega)|apply BA|refine BH (hT) ?_)<;>conv=>whnf));refine G8 (enc:=eO) (some x) rfl (λ e=>by cases e<;>rfl) (by omega) ?_;(conv=>whnf);(repeat' ((first|(apply CJ;omega)|fail)<;>conv=>whnf));rw[hst];exact C7 [] (ih (i+1) (by omega) (by omega))
 ·obtain rfl:i=p.length:=by omega
  clear ih;have vb:Bs (k+j+1) (K5 p r):=by
   intro z hz;obtain ⟨i,hi⟩:=List.getElem?_of_mem hz;have h1:=(zS hi).1;rw[hml]at h1;rw[kZ h1]at hi;obtain rfl:=Option.some.inj hi;obtain ⟨x,hx⟩ : ∃ x,p[i]? = some x:=⟨_,zE h1⟩;rw[UD hx];by_cases h2:i<r.length
   ·obtain ⟨y,tj⟩ : ∃ y,r[i]? = some y:=⟨_,zE h2⟩
    rw[UD tj];exact (hp.at hx).add (hr.at tj)
   ·rw[cX (l:=r) (by omega),Rat.add_zero]
    exact (hp.at hx).le (by omega)
  rw[List.take_of_length_le (Nat.le_of_eq hml),K9 hml,<-hml];generalize K5 p r=u at *;(repeat' ((first|(apply BR<;>intro hc<;>try (exfalso;omega))|apply BA)<;>conv=>whnf));refine HI 1000 N.KX rfl rfl ?_;(repeat' (apply BA<;>conv=>whnf));refine DG (λ n=>n) (λ(n:Nat)=>n<=u.length/\FM u u.length=FM u n) (λ n=>[(3,.int .i64 n)]) (λ_=>[(16,16,.rw 3 (u.map eQ))]) [] [] u.length (by (conv=>whnf);exact ⟨rfl,rfl,rfl⟩) ⟨Nat.le_refl _,rfl⟩ ?_;intro n ⟨p1,p2⟩ ih;have done : ∀ {n:Nat},FM u u.length=n->F3 u=u.take n:=λ h=>by rw[F3,h]
  by_cases hz:n=0\/(∃ m x,n=m+1/\u[m]? = some x/\x≠0)
  ·have au:FM u u.length=n:=by
    rw[p2];rcases hz with rfl|⟨m,x,rfl,h1,h2⟩
    ·rfl
    ·rw[FM,if_neg]
     rw[List.getD_eq_getElem?_getD,h1];exact h2
   have oz:=done au;have htl:(u.take n).length=n:=by rw[List.length_take];omega
   clear ih au p2 done;rcases hz with h0|⟨m,x,Am,h1,h2⟩
   case' inl=>(repeat' ((first|(apply BR<;>intro hc<;>try (exfalso;omega))|apply BA)<;>conv=>whnf))
   case' inr =>
    have h1':u[((n:Int)-1).toNat]? = some x:=by rw[show ((n:Int)-1).toNat=m by omega];exact h1
    have eg:=N6 N.toRatGLib (vb.at h1) (by omega);have hs:=OO (x:=x);generalize sgn x.num=s at *;have hS : ∀ v,u[((n:Int)-1).toNat]? = some v->Ev L 97 [.agg (eQ v)] (.int .i64 s):=λ v h=>by
     obtain rfl:=Option.some.inj (h1'.symm.trans h);exact eg
    have hs0:s≠0:=λ h=>h2 (hs.1 h)
    (repeat' ((first|(apply BR<;>intro hc<;>try (exfalso;omega))|(apply CE;omega)|(apply D5;omega)|(refine aZ ?_ (λ_=>rfl) (λ v hv => ?_);omega)|apply BA|refine BH (hS _ hv) ?_)<;>conv=>whnf))
   all_goals
    refine JM n (by omega) (by omega) ?_;(conv=>whnf);skip;refine ⟨rfl,_,rfl,?_⟩;(conv=>whnf);(refine J5 (enc:=eQ) (λ_=>rfl) (by omega) ?_;rw[List.drop_zero,Nat.sub_zero,<-oz];exact CK rfl (by simp only[CT,true_and];exact KP _))
  ·obtain ⟨m,rfl⟩ : ∃ m,n=m+1:=⟨n-1,by omega⟩
   obtain ⟨x,hx⟩ : ∃ x,u[m]? = some x:=⟨_,zE (by omega)⟩;have hx0:x=0:=by
    rcases Classical.em (x=0) with h|h
    ·exact h
    ·exact (hz (Or.inr ⟨m,x,rfl,hx,h⟩)).elim
   have hx':u[((m+1:Nat)-1:Int).toNat]? = some x:=by rw[show ((m+1:Nat)-1:Int).toNat=m by omega];exact hx
   have eg:=N6 N.toRatGLib (vb.at hx) (by omega);have hs:=OO (x:=x);generalize sgn x.num=s at *;have hS : ∀ v,u[((m+1:Nat)-1:Int).toNat]? = some v->Ev L 97 [.agg (eQ v)] (.int .i64 s):=λ v h=>by
    obtain rfl:=Option.some.inj (hx'.symm.trans h);exact eg
   have hs0:=hs.2 hx0;(repeat' ((first|(apply BR<;>intro hc<;>try (exfalso;omega))|(apply CE;omega)|(apply D5;omega)|(refine aZ ?_ (λ_=>rfl) (λ v hv => ?_);omega)|apply BA|refine BH (hS _ hv) ?_)<;>conv=>whnf));rw[show ((m+1:Nat):Int)-1=(m:Int) by omega];exact C7 [] (ih m (by omega) ⟨by omega,by rw[p2,FM,if_pos (by rw[List.getD_eq_getElem?_getD,hx];exact hx0)]⟩)
end Go.Eng

namespace Go.Eng
open F
attribute [local irreducible] AH BJ B1 BD EZ CF CG CR CU DW B5 DT EG F7 DM CQ DR EE AR CW BW pw DC C9 EI ET E1 E7 EW D4 E8
set_option maxHeartbeats 1000000
variable {L:Lib}
def LF (n:Int):Prop := -9223372036854775808<=n/\n<=9223372036854775807
structure Wd where
 b:Int
 f:Int
 r:Int
 o:Int
def WV (w:Wd):Prop:=4<=w.b/\w.b<=24/\0<=w.f/\w.f<w.b/\1<=w.r/\w.r<=3/\1<=w.o/\w.o<=2
instance (w : Wd) : Decidable (WV w) := by unfold WV; infer_instance
variable (w:Wd)
def Aj3:Int:=if WV w then -pw (w.b-1) else 0
def Ajb:Int:=if WV w then pw (w.b-1)-1 else 0
def FT (v:Int):Prop:=WV w/\Aj3 w<=v/\v<=Ajb w
instance (v : Int) : Decidable (FT w v) := by unfold FT; infer_instance
end Go.Eng

namespace Go.Eng
open F
attribute [local irreducible] AH BJ B1 BD EZ CF CG CR CU DW B5 DT EG F7 DM CQ DR EE AR CW BW pw DC C9 EI ET E1 E7 EW D4 E8
set_option maxHeartbeats 1000000
variable {L:Lib}
structure Nd where
 q:Bool
 ts:List (Int × Int)
structure Nt where
 d:Wd
 c:Wd
 s:Int
 qn:Bool
 nodes:List Nd
 qx:Bool
 next:List Int
 out:Int
variable (n:Nt)
end Go.Eng

namespace Go.Eng
open F
attribute [local irreducible] AH BJ B1 BD EZ CF CG CR CU DW B5 DT EG F7 DM CQ DR EE AR CW BW pw DC C9 EI ET E1 E7 EW D4 E8
variable {L:Lib}
set_option maxHeartbeats 1000000
def J0 (v m:Int):Int:=if m<1 then 0 else v%m
theorem yY (W:WorldLib L) (v m:Int) (hv:LF v) (hm:m<=9223372036854775807):Ev L 34 [.int .i64 v,.int .i64 m] (.int .i64 (J0 v m)):=by
 unfold LF at hv;refine Ev.x W.TQ rfl rfl ?_;(repeat' ((first|(apply BR<;>intro hc<;>try (exfalso;omega))|(apply CJ;omega)|(refine ZG ?_ (λ_ _ _ => ?_) (λ_ _ _ _ => ?_);omega;all_goals try (exfalso;omega))|apply BA)<;>conv=>whnf));all_goals (refine FF ?_;unfold J0;first|rw[if_pos (by omega)]|rw[if_neg (by omega)]);all_goals omega
def K6 (l:List Int) (i:Int):Int:=if 0<=i/\i<l.length then l.getD i.toNat 0 else 0
theorem yX (W:WorldLib L) (l:List Int) (q:Bool) (i:Int):Ev L 35 [.sl q (l.map WC),.int .i64 i] (.int .i64 (K6 l i)):=by
 refine Ev.x W.TL rfl rfl ?_;(repeat' ((first|(apply BR<;>intro hc<;>try (exfalso;omega))|apply CB|(refine kX ?_ (λ_=>rfl) (λ e he => ?_);omega)|apply BA)<;>conv=>whnf));all_goals (refine FF ?_;unfold K6;first|rw[if_neg (by omega)]|(rw[if_pos (by omega),List.getD_eq_getElem?_getD,he];rfl))
theorem AlW {v m:Int} (h:1<=m):0<=J0 v m/\J0 v m<m:=by
 unfold J0;rw[if_neg (by omega)];exact ⟨Int.emod_nonneg _ (by omega),Int.emod_lt_of_pos _ (by omega)⟩
end Go.Eng

namespace Go.Eng
open F
attribute [local irreducible] AH BJ B1 BD EZ CF CG CR CU DW B5 DT EG F7 DM CQ DR EE AR CW BW pw DC C9 EI ET E1 E7 EW D4 E8
variable {L:Lib} (n:Nt)
set_option maxHeartbeats 1000000
end Go.Eng

namespace Go.Eng
open F
attribute [local irreducible] AH BJ B1 BD EZ CF CG CR CU DW B5 DT EG F7 DM CQ DR EE AR CW BW pw DC C9 EI ET E1 E7 EW D4 E8
variable {L:Lib}
set_option maxHeartbeats 4000000
theorem xV (N:t7 L) (S:GA) (n k:Nat) (h:S.Ok n k) (hn:n<=64):Ev L 130 [.agg (eS S)] (.bool true):=by
 have h1:=h.la;have h2:=h.lb;have h3:=h.lc;refine Ev.x N.P8 rfl rfl ?_;(repeat' ((first|(apply BR<;>intro hc<;>try (exfalso;omega))|apply CB|apply BA)<;>conv=>whnf));refine DG (λ i=>S.a.length-i) (λ(i:Nat)=>i<=S.a.length) (λ i=>[(28,.int .i64 i)]) (λ_=>[]) [] [] 0 (by (conv=>whnf);exact ⟨rfl,rfl,rfl⟩) (by omega) ?_;intro i p1 ih;by_cases hi:i<S.a.length
 ·obtain ⟨r,hr⟩ : ∃ r,S.a[i]? = some r:=⟨_,zE hi⟩
  have hr':S.a[(i:Int).toNat]? = some r:=hr;have hrl:=h.lr r (zM hr);(repeat' ((first|(apply BR<;>intro hc<;>try (exfalso;omega))|(apply CJ;omega)|apply CB|(refine CY (by assumption) ?_ rfl ?_;omega)|apply BA)<;>conv=>whnf));exact C7 [] (ih (i+1) (by omega) (by omega))
 ·obtain rfl:i=S.a.length:=by omega
  clear ih;(repeat' ((first|(apply BR<;>intro hc<;>try (exfalso;omega))|apply BA)<;>conv=>whnf));exact I5 rfl
theorem nH (N:t7 L) (a b:List Rat) (q1 q2:Bool) (k s:Nat) (hl:a.length=b.length) (ha:Bs k a) (hb:Bs s b) (hK:a.length*(k+s+1)+k+s<2199023255552) (hal:a.length<=1099511627776):Ev L 132 [.sl q1 (a.map eQ),.sl q2 (b.map eQ)] (.agg (eQ (CI a b))):=by
 have hO:=LN N.toRatGLib 0 (by omega);refine Ev.x N.QB rfl rfl ?_;(repeat' ((first|apply CB|apply BA|refine BH (hO) ?_)<;>conv=>whnf));refine I4 (λ i _=>a.length-i) (λ(i:Nat) (acc:Rat)=>i<=a.length/\acc=CI (a.take i) (b.take i)) (λ i acc=>[(11,.int .i64 i)]) (λ i acc=>[(5,5,.bx (eQ acc))]) [] [] 0 ((0:Int):Rat) (by (conv=>whnf);exact ⟨rfl,rfl,rfl⟩) ⟨by omega,by simp [CI]⟩ ?_;intro i acc ⟨p1,p2⟩ ih;by_cases hi:i<a.length
 ·obtain ⟨x,hx⟩ : ∃ x,a[i]? = some x:=⟨_,zE hi⟩
  obtain ⟨y,hy⟩ : ∃ y,b[i]? = some y:=⟨_,zE (by omega)⟩;have hx':a[(i:Int).toNat]? = some x:=hx;have hy':b[(i:Int).toNat]? = some y:=hy;have bx:=ha.at hx;have by':=hb.at hy
  have hS1:=N6 N.toRatGLib bx (by omega);have hS2:=N6 N.toRatGLib by' (by omega)
  have hM:=K8 N.toRatGLib bx by' (by omega) (by omega)
  have qg:Bt (a.length*(k+s+1)) acc:=by
   rw[p2];have:=(ha.take i).dot (hb.take i);refine this.le (Nat.mul_le_mul_right _ ?_);rw[List.length_take];omega
  have hA:=cL N.toRatGLib qg (bx.mul by') (by omega) (by omega);have hst:=cE hx hy;have z1:=OO (x:=x);have z2:=OO (x:=y);generalize sgn x.num=sx at *;generalize sgn y.num=sy at *;by_cases h1:sx=0
  ·have hx0:=z1.1 h1
   (repeat' ((first|(apply BR<;>intro hc<;>try (exfalso;omega))|(apply CJ;omega)|(refine CY (by assumption) ?_ rfl ?_;omega)|apply BA|refine BH (hS1) ?_)<;>conv=>whnf))
   refine DE [] (by (conv=>whnf);exact ⟨rfl,rfl,rfl⟩) (ih (i+1) acc (by omega) ⟨by omega,?_⟩);rw[hst,hx0,Rat.zero_mul,Rat.add_zero];exact p2
  ·by_cases h2:sy=0
   ·have fx:=z2.1 h2
    (repeat' ((first|(apply BR<;>intro hc<;>try (exfalso;omega))|(apply CJ;omega)|(refine CY (by assumption) ?_ rfl ?_;omega)|apply BA|refine BH (hS1) ?_|refine BH (hS2) ?_)<;>conv=>whnf))
    refine DE [] (by (conv=>whnf);exact ⟨rfl,rfl,rfl⟩) (ih (i+1) acc (by omega) ⟨by omega,?_⟩);rw[hst,fx,Rat.mul_zero,Rat.add_zero];exact p2
   ·(repeat' ((first|(apply BR<;>intro hc<;>try (exfalso;omega))|(apply CJ;omega)|(refine CY (by assumption) ?_ rfl ?_;omega)|apply BA|refine BH (hS1) ?_|refine BH (hS2) ?_|refine BH (hM) ?_|refine BH (hA) ?_)<;>conv=>whnf))
    refine DE [] (by (conv=>whnf);exact ⟨rfl,rfl,rfl⟩) (ih (i+1) (acc+x*y) (by omega) ⟨by omega,?_⟩);rw[hst,<-p2]
 ·obtain rfl:i=a.length:=by omega
  clear ih;rw[XQ rfl]at p2;rw[<-p2];(repeat' ((first|(apply BR<;>intro hc<;>try (exfalso;omega))|apply BA)<;>conv=>whnf));exact CK rfl (G3 _)
end Go.Eng

namespace Go.Eng
def MS (o0:List Rat):List (Int × Int)->Rat
 | []=>0
 | t::ts=>(t.2:Rat)*o0.getD t.1.toNat 0+MS o0 ts
def XX (u:Rat) (ex:Int):Nat->List Rat->List (List (Int × Int))->List Rat
 | _,o0,[]=>o0
 | k,o0,ts::r=>XX u ex (k+1) (o0++[MS o0 ts/u+(if (k:Int)=ex then 1 else 0)]) r
theorem Bs.getD {k:Nat} {l:List Rat} (h:Bs k l) (i:Nat):Bt k (l.getD i 0):=by
 rw[List.getD_eq_getElem?_getD];cases e:l[i]? with
 | none=>exact Bt.zero k
 | some x=>exact h.at e
theorem Bs.sum {k j:Nat} {o0:List Rat} (hv:Bs k o0) : ∀ (ts:List (Int × Int)),(∀ t∈ts,Bt j ((t.2:Int):Rat))->Bt (ts.length*(j+k+1)) (MS o0 ts)
 | [],_=>Bt.zero _
 | t::ts,h=>by
  have h1:=(h t (by simp)).mul (hv.getD t.1.toNat);have h2:=Bs.sum hv ts (λ u hu=>h u (by simp [hu]));refine (h1.add h2).le ?_;rw[List.length_cons,Nat.succ_mul];omega
def V0 (C:List (List Rat)) (z o0:List Rat):Prop := ∀ m,m<o0.length->o0.getD m 0=CI (C.map λ c=>c.getD m 0) z
theorem mM (x:Rat) : ∀ (a z:List Rat),CI (a.map λ c=>x*c) z=x*CI a z
 | [],z=>by cases z<;>simp [CI]
 | p::a,[]=>by simp [CI]
 | p::a,q::z=>by
  simp only[List.map_cons,CI];rw[mM x a z];grind
theorem wU {α:Type} (f g:α->Rat) : ∀ (a:List α) (z:List Rat),CI (a.map λ c=>f c+g c) z=CI (a.map f) z+CI (a.map g) z
 | [],z=>by cases z<;>(simp only[List.map_nil,CI];grind)
 | p::a,[]=>by simp only[List.map_cons,CI];grind
 | p::a,q::z=>by
  simp only[List.map_cons,CI];rw[wU f g a z];grind
theorem wX {α:Type} : ∀ (a:List α) (z:List Rat),CI (a.map λ_=>(0:Rat)) z=0
 | [],z=>by cases z<;>rfl
 | p::a,[]=>rfl
 | p::a,q::z=>by
  simp only[List.map_cons,CI];rw[wX a z];grind
theorem V0.sum {C:List (List Rat)} {z o0:List Rat} (h:V0 C z o0) : ∀ (ts:List (Int × Int)),(∀ t∈ts,t.1.toNat<o0.length)->MS o0 ts=CI (C.map λ c=>MS c ts) z
 | [],_=>(wX C z).symm
 | t::ts,ht=>by
  simp only[MS];rw[wU (λ c=>(t.2:Rat)*c.getD t.1.toNat 0) (λ c=>MS c ts),<-V0.sum h ts (λ u hu=>ht u (by simp [hu])),h _ (ht t (by simp))];have:=mM (t.2:Rat) (C.map λ c=>c.getD t.1.toNat 0) z;rw[List.map_map]at this;rw[<-this];rfl
theorem Jm {l:List Rat} {x:Rat} {m:Nat} (h:m<l.length):(l++[x]).getD m 0=l.getD m 0:=by
 rw[List.getD_eq_getElem?_getD,List.getD_eq_getElem?_getD,List.getElem?_append_left h]
theorem Jl {l:List Rat} {x:Rat} {m:Nat} (h:m=l.length):(l++[x]).getD m 0=x:=by
 subst h;rw[List.getD_eq_getElem?_getD,List.getElem?_append_right (Nat.le_refl _)];simp
theorem V0.all {u:Rat} (hu:u≠0) {z:List Rat} : ∀ (l:List (List (Int × Int))) (k:Nat) (C:List (List Rat)) (o0:List Rat),V0 C z o0->(∀ c∈C,c.length=o0.length)->(∀ i ts,l[i]? = some ts -> ∀ t∈ts,t.1.toNat<o0.length+i) ->
  V0 (C.map λ c=>XX u (-1) k c l) z (XX u (-1) k o0 l)
 | [],_,C,o0,h,_,_=>by
  have e:(C.map λ c=>XX u (-1) 0 c [])=C:=by
   simp [XX]
  simpa [XX] using h
 | ts::l,k,C,o0,h,hc,ht=>by
  have hts:=ht 0 ts rfl;have e0 : ¬ (k:Int) = -1:=by omega
  simp only[XX,if_neg e0,Rat.add_zero];have hs:=h.sum ts (λ t h1=>by have:=hts t h1;omega);have ln:V0 (C.map λ c=>c++[MS c ts/u]) z (o0++[MS o0 ts/u]):=by
   intro m hm;simp only[List.length_append,List.length_cons,List.length_nil]at hm;rw[List.map_map];by_cases hm2:m<o0.length
   ·rw[Jm hm2,h m hm2]
    congr 1;refine List.map_congr_left λ c hcm => ?_
    simp only[Function.comp];rw[Jm (by rw[hc c hcm];exact hm2)]
   ·rw[Jl (by omega)]
    have e1:(C.map ((λ c=>c.getD m 0) ∘ λ c=>c++[MS c ts/u]))=C.map λ c=>u⁻¹*MS c ts:=by
     refine List.map_congr_left λ c hcm => ?_
     simp only[Function.comp];rw[Jl (by rw[hc c hcm];omega),Rat.div_def,Rat.mul_comm]
    rw[e1,hs,Rat.div_def,Rat.mul_comm];have:=mM u⁻¹ (C.map λ c=>MS c ts) z;rw[List.map_map]at this;rw[<-this];rfl
  have ih:=V0.all hu l (k+1) (C.map λ c=>c++[MS c ts/u]) (o0++[MS o0 ts/u]) ln (λ c hcm=>by
   obtain ⟨c0,h0,rfl⟩:=List.mem_map.1 hcm;simp [hc c0 h0]) (λ i ts2 h2 t h3=>by
   have:=ht (i+1) ts2 h2 t h3
   simp;omega)
  rw[List.map_map]at ih;exact ih
theorem Bt.ofInt {k:Nat} {z:Int} (h:z.natAbs<=2^k):Bt k ((z:Int):Rat):=⟨by rw[Rat.num_intCast];exact h,by rw[Rat.den_intCast];exact Nat.one_le_two_pow⟩
theorem Ic (σ:IJ) (k:Nat) : ∀ (n i:Nat),DZ σ k i (List.replicate n none)=List.replicate n [.nil]
 | 0,_=>rfl
 | n+1,i=>by
  rw[List.replicate_succ,List.replicate_succ];show [AV.nil]::DZ σ k (i+1) (List.replicate n none)=_;rw[Ic σ k n (i+1)]
theorem Tk {L:Lib} {kk:List It} {tm:Tm} {M:Mem} {Q:Tm->Mem->Prop} (k s n:Nat) (e:b9 M k=some (s,.mx (List.replicate n none))) (h:AH L kk tm ((k,s,.rw 1 (List.replicate n [.nil]))::M) Q):AH L kk tm M Q:=by
 intro σ st hr;have hg : ∀ j t c,a8 ((k,s,.rw 1 (List.replicate n [.nil]))::M) j t=some c -> ∃ c0,a8 M j t=some c0/\c0.blk σ j=c.blk σ j:=by
  intro j t c g;by_cases hj:j=k
  ·subst hj
   cases t with
   | zero =>
    have h1:b9 ((j,s,CS.rw 1 (List.replicate n [.nil]))::M) j=some (s,.rw 1 (List.replicate n [.nil])):=by simp [b9]
    simp only[a8,h1,Option.some.injEq]at g;subst g;refine ⟨.mx (List.replicate n none),by simp only[a8,e],?_⟩;simp only[CS.blk,Ic]
   | succ i =>
    have h1:b9 ((j,s,CS.rw 1 (List.replicate n [.nil]))::M) j=some (s,.rw 1 (List.replicate n [.nil])):=by simp [b9]
    simp only[a8,h1]at g;cases g
  ·have h1:b9 ((k,s,CS.rw 1 (List.replicate n [.nil]))::M) j=b9 M j:=by
    have hb:Nat.beq j k=false:=by
     cases hbb:Nat.beq j k with
     | false=>rfl
     | true=>exact absurd (Nat.eq_of_beq_eq_true hbb) hj
    simp only[b9,hb,cond_false]
   refine ⟨c,?_,rfl⟩;simp only[a8,h1]at g ⊢;exact g
 refine h σ st ⟨hr.tm,⟨?_,?_,?_,?_,?_⟩⟩
 ·intro j s' c g
  by_cases hj:j=k
  ·subst hj
   have h1:b9 ((j,s,CS.rw 1 (List.replicate n [.nil]))::M) j=some (s,.rw 1 (List.replicate n [.nil])):=by simp [b9]
   rw[h1]at g;simp only[Option.some.injEq,Prod.mk.injEq]at g;obtain ⟨rfl,_⟩:=g;exact hr.sat.site _ _ _ e
  ·have h1:b9 ((k,s,CS.rw 1 (List.replicate n [.nil]))::M) j=b9 M j:=by
    have hb:Nat.beq j k=false:=by
     cases hbb:Nat.beq j k with
     | false=>rfl
     | true=>exact absurd (Nat.eq_of_beq_eq_true hbb) hj
    simp only[b9,hb,cond_false]
   rw[h1]at g;exact hr.sat.site _ _ _ g
 ·intro j t c g
  obtain ⟨c0,q1,q2⟩:=hg j t c g;rw[<-q2];exact hr.sat.blk _ _ _ q1
 ·intro j t c g
  obtain ⟨c0,q1,_⟩:=hg j t c g;exact hr.sat.old _ _ _ q1
 ·intro j t j' t' c c' g g' hσ
  obtain ⟨c0,q1,_⟩:=hg j t c g;obtain ⟨c1,q2,_⟩:=hg j' t' c' g';exact hr.sat.inj _ _ _ _ _ _ q1 q2 hσ
 ·intro j t c g hw
  cases t with
  | zero =>
   by_cases hj:j=k
   ·subst hj;exact hr.sat.low _ _ _ (GN e) rfl
   ·rw[OG hj]at g;exact hr.sat.low _ _ _ g hw
  | succ t =>
   obtain ⟨c0,q1,_⟩:=hg _ _ _ g;exact hr.sat.low _ _ _ q1 (iR q1)
end Go.Eng

namespace Go.Eng
variable {L:Lib}
def tG (fn:AFn) (z:Nat) (es:List (List AV)) (tm:Tm) (M:Mem):Prop:=match fn.res with
 | [.tmp t]=>match tg tm t with
  | .row k 0 z' 0 n=>match b9 M k with
   | some (_,.rw v5 es')=>z'=z/\v5=z/\n=es.length/\es'=es/\IR es
   | _=>False
  | _=>False
 | _=>False
theorem UM.x {f:Nat} {fn:AFn} {vs:List AV} {z:Nat} {es:List (List AV)} (hL:L f=some fn) (hp:Nat.beq vs.length fn.s8=true) (hd:N5 vs=true) (h:AH L [.code fn.body] (EU 0 vs) [] (tG fn z es)):UM L f vs z es:=by
 obtain ⟨n,c,e5,hr,σ,tm,M,hR,hq⟩:=h (λ_ _=>(0,0)) ⟨EU 0 vs,BT.emp⟩ ⟨λ j=>Or.inr (by rw[NM];exact cA hd j),⟨(λ_ _ _ e=>by cases e),(λ_ _ _ e=>by simp [a8,b9]at e),(λ_ _ _ e=>by simp [a8,b9]at e),(λ_ _ _ _ _ _ e=>by simp [a8,b9]at e),(λ_ _ _ e=>by simp [a8,b9]at e)⟩⟩;unfold tG at hq;split at hq
 ·rename_i t il
  split at hq
  ·rename_i k z' m Qp
   split at hq
   ·rename_i s v5 es' hM
    obtain ⟨rfl,rfl,rfl,rfl,hcl⟩:=hq;have hv:c7 e5.tm t = .row (σ k 0).1 (σ k 0).2 v5 0 es'.length:=by
     rcases hR.tm t with e|e
     ·rw[Qp]at e;cases e
     ·rw[e,Qp];rfl
    have hb:=hR.sat.blk k 0 (.rw v5 es') (by simp only[a8,hM]);obtain ⟨q,hq⟩:=JN.intro (r := .row (σ k 0).1 (σ k 0).2 v5 0 es'.length) (o':=e5.own) hL (DI.1 hp) ⟨n,c,e5,hr,by simp [il,G5,hv,MK,KE],rfl⟩;refine ⟨q,?_⟩;simp only[hq,TU,BT.get,hb];rw[if_pos (show (CS.blk σ k (.rw v5 es')).es.length=es'.length/\IR (CS.blk σ k (.rw v5 es')).es from ⟨rfl,hcl⟩)];rfl
   ·exact hq.elim
  ·exact hq.elim
 ·exact hq.elim
theorem Tn {Q:Tm->Mem->Prop} {c:C4} {k:List It} {tm:Tm} {M:Mem} (n:Nat) (h:fT (me 0 tm) λ tm=>fM (ga M) λ M=>XK L Q n (.code c::k) tm M):AH L (.code c::k) tm M Q:=by
 rw[Z2,N8]at h;exact sF (fP h)
theorem Al4 {n:Nat} {cs:List AV} {K:Bool->Prop} (a:List Int) (h:KV cs=some a) (hn:a.length=n) (hk:K true):kP n cs cs K:=⟨a,a,h,h,hn,hn,by rw[decide_eq_true rfl];exact hk⟩
theorem UK {α:Type} {enc:α->List AV} {l:List α} {f z:Nat} {vs:List AV} {K:Nat->List (List AV)->Nat->Prop} (n:Nat) (h:UM L f vs z (l.map enc)) (hn:n=l.length) (hk:K z (l.map enc) n):E8 L f vs K:=⟨z,_,n,h,by simpa using hn,hk⟩
end Go.Eng



namespace Go.Eng
open F
attribute [local irreducible] AH BJ B1 BD EZ CF CG CR CU DW B5 DT EG F7 DM CQ DR EE AR CW BW pw DC C9 EI ET E1 E7 EW D4 E8
variable {L:Lib}
set_option maxHeartbeats 4000000
theorem Y1 (m p:Nat):(List.replicate m (0:Rat)).set p 1=FP m p:=by
 refine List.ext_getElem? λ j => ?_
 simp only[FP,List.getElem?_set,List.getElem?_map,List.getElem?_replicate,List.length_replicate];by_cases h:j<m
 ·rw[List.getElem?_range h]
  by_cases e:p=j
  ·subst e;simp [h]
  ·simp [h,e];intro h3;omega
 ·rw[List.getElem?_eq_none (by simpa using h)]
  simp [h];intro e;omega
theorem Bs.unit (k m:Nat) (p:Int):Bs k (FP m p):=by
 intro x hx;simp only[FP,List.mem_map]at hx;obtain ⟨a,_,rfl⟩:=hx;split
 ·exact Bt.one k
 ·exact Bt.zero k
theorem AiF (N:t7 L) (m:Nat) (hm:m<=65536):UM L 131 [.int .i64 (m:Int)] 3 ((List.replicate m (0:Rat)).map eQ):=by
 have hO:=LN N.toRatGLib 0 (by omega);refine UM.x N.QE rfl rfl ?_;(repeat' (apply BA<;>conv=>whnf));refine GU (enc:=eO) none m rfl rfl (by omega) ?_;(conv=>whnf);skip;refine DG (λ i=>m-i) (λ(i:Nat)=>i<=m) (λ i=>[(9,.int .i64 i)]) (λ i=>[(131006,131006,.rw 3 ((FU (List.replicate i 0) m).map eO))]) [] [] 0 (by first|exact (by (conv=>whnf);exact ⟨rfl,rfl,rfl⟩)|(rw[<-KS];exact (by (conv=>whnf);exact ⟨rfl,rfl,rfl⟩))) (by omega) ?_;intro i p1 ih;by_cases hi:i<m
 ·have hl:=JO (l:=List.replicate i (0:Rat)) (m:=m) (by simp;omega)
  have hs:=KU (l:=List.replicate i (0:Rat)) (m:=m) (x:=0) (by simp;omega);rw[List.length_replicate]at hs;(repeat' ((first|(apply BR<;>intro hc<;>try (exfalso;omega))|(apply CE;omega)|apply BA|refine BH (hO) ?_)<;>conv=>whnf));refine G8 (enc:=eO) (some 0) rfl (λ e=>by cases e<;>rfl) (by omega) ?_;(conv=>whnf);(repeat' ((first|(apply CJ;omega)|fail)<;>conv=>whnf));rw[hs];rw[show List.replicate i (0:Rat)++[0]=List.replicate (i+1) 0 by rw[List.replicate_succ']];exact C7 [] (ih (i+1) (by omega) (by omega))
 obtain rfl:i=m:=by omega
 clear ih;rw[K9 (by simp)];(repeat' ((first|(apply BR<;>intro hc<;>try (exfalso;omega))|apply BA)<;>conv=>whnf));exact ⟨rfl,rfl,by simp,rfl,KP _⟩
theorem nP {α:Type} (a b:α) {t m:Nat} (_:t<=m) (h:t<m):(List.replicate t a++List.replicate (m-t) b).set t a=List.replicate (t+1) a++List.replicate (m-(t+1)) b:=by
 obtain ⟨k,hk⟩ : ∃ k,m-t=k+1:=⟨m-t-1,by omega⟩;rw[List.set_append_right _ _ (by simp),hk,List.length_replicate,Nat.sub_self,List.replicate_succ,List.set_cons_zero,show m-(t+1)=k by omega,List.replicate_succ',List.append_assoc];rfl
def fz {α:Type} (z:α) (l:List α) (m:Nat):List α:=l++List.replicate (m-l.length) z
theorem iG {α:Type} {z:α} {l:List α} {m:Nat} (h:l.length<=m):(fz z l m).length=m:=by simp [fz];omega
theorem iH {α:Type} {z x:α} {l:List α} {m:Nat} (h:l.length<m):(fz z l m).set l.length x=fz z (l++[x]) m:=by
 unfold fz;obtain ⟨k,hk⟩ : ∃ k,m-l.length=k+1:=⟨m-l.length-1,by omega⟩;rw[List.set_append_right _ _ (by simp),hk,Nat.sub_self,List.replicate_succ,List.set_cons_zero,List.length_append,List.length_singleton,show m-(l.length+1)=k by omega,List.append_assoc];rfl
theorem zU {α:Type} {z:α} {l:List α} {m:Nat} (h:l.length<m):(fz z l m)[l.length]? = some z:=by
 unfold fz;rw[List.getElem?_append_right (by omega),Nat.sub_self,List.getElem?_replicate,if_pos (by omega)]
theorem iF {α:Type} {z:α} {l:List α} {m:Nat} (h:l.length=m):fz z l m=l:=by simp [fz,h]
theorem TI {α:Type} {l:List α} {i:Nat} {x:α} (h:l[i]? = some x):l.take (i+1)=l.take i++[x]:=by
 rw[List.take_add_one,h];rfl
end Go.Eng

namespace Go.Eng
variable {L:Lib}
def Iy:List Nat->Mem->Mem
 | [],M=>M
 | j::r,M=>Iy r (i9 j M)
theorem Tg {kk:List It} {tm:Tm} {M:Mem} {Q:Tm->Mem->Prop} (j:Nat) (h:AH L kk tm (i9 j M) Q):AH L kk tm M Q:=by
 intro σ st hr;exact h σ st ⟨hr.tm,⟨λ k s c e=>hr.sat.site k s c (OC e).2,λ k t c e=>hr.sat.blk k t c (JC e).2,λ k t c e=>hr.sat.old k t c (JC e).2,λ k t k' t' c c' e e'=>hr.sat.inj k t k' t' c c' (JC e).2 (JC e').2,λ k t c e hw=>hr.sat.low k t c (JC e).2 hw⟩⟩
theorem sG {kk:List It} {tm:Tm} {Q:Tm->Mem->Prop} : ∀ (ks:List Nat) {M:Mem},AH L kk tm (Iy ks M) Q->AH L kk tm M Q
 | [],_,h=>h
 | j::r,_,h=>Tg j (sG r h)
end Go.Eng

namespace Go.Eng
open F
attribute [local irreducible] AH BJ B1 BD EZ CF CG CR CU DW B5 DT EG F7 DM CQ DR EE AR CW BW pw DC C9 EI ET E1 E7 EW D4 E8
variable {L:Lib}
set_option maxHeartbeats 16000000
def OS (S:GA) (n:Nat):List Rat:=F3 (GG S.a n n)
def OU (S:GA) (n:Nat):List Rat:=F3 (K5 (IK S n n) (F3 ((GG S.a n n).map (· * S.d))))
def M6 (n i:Nat):List (List Rat):=(List.range n).map λ r:Nat=>if r<i then FP n r else List.replicate n 0
theorem Ka (n i:Nat):(M6 n i).length=n:=by simp [M6]
theorem Ajf (n:Nat):M6 n 0=List.replicate n (List.replicate n 0):=by
 refine List.ext_getElem? λ r => ?_
 simp only[M6,List.getElem?_map,List.getElem?_replicate];by_cases h:r<n
 ·rw[List.getElem?_range h,if_pos h];simp
 ·rw[List.getElem?_eq_none (by simp;omega),if_neg h];rfl
theorem Ajd (n:Nat):M6 n n=FJ n:=by
 refine List.map_congr_left λ r hr => ?_
 rw[if_pos (List.mem_range.1 hr)]
theorem Ajc {n i:Nat} (h:i<n):(M6 n i)[i]? = some (List.replicate n 0):=by
 simp only[M6,List.getElem?_map,List.getElem?_range h,Option.map_some,Nat.lt_irrefl,if_false]
theorem Aje {n i:Nat} (h:i<n):(M6 n i).set i ((List.replicate n 0).set i 1)=M6 n (i+1):=by
 refine List.ext_getElem? λ r => ?_
 rw[List.getElem?_set,Ka,Y1];simp only[M6,List.getElem?_map];by_cases hr:r<n
 ·rw[List.getElem?_range hr]
  by_cases e:i=r
  ·subst e;simp [h]
  ·simp only[e,if_false,Option.map_some]
   by_cases h3:r<i
   ·rw[if_pos h3,if_pos (by omega)]
   ·rw[if_neg h3,if_neg (by omega)]
 ·rw[List.getElem?_eq_none (by simp;omega)]
  simp;omega
def cf (l:List Rat) (prev:List (Option Rat)) (i:Nat):List (Option Rat):=(l.take i).map some++prev.drop i
theorem Yb {l:List Rat} {prev:List (Option Rat)} {i n:Nat} (hl:l.length=n) (hp:prev.length=n) (hi:i<=n):(cf l prev i).length=n:=by
 simp [cf];omega
theorem Yd (l:List Rat) (prev:List (Option Rat)):cf l prev 0=prev:=by simp [cf]
theorem Ya {l:List Rat} {prev:List (Option Rat)} {n:Nat} (hl:l.length=n) (hp:prev.length=n):cf l prev n=l.map some:=by
 rw[cf,List.take_of_length_le (by omega),List.drop_of_length_le (by omega),List.append_nil]
theorem Yc {l:List Rat} {prev:List (Option Rat)} {i n:Nat} {x:Rat} (hp:prev.length=n) (hx:l[i]? = some x) (hi:i<n):(cf l prev i).set i (some x)=cf l prev (i+1):=by
 have Qi:=(zS hx).1;have htl:((l.take i).map some).length=i:=by rw[List.length_map,List.length_take];omega
 obtain ⟨y,hy⟩ : ∃ y,prev[i]? = some y:=⟨_,zE (by omega)⟩;obtain ⟨hi2,he2⟩:=zS hy;rw[cf,List.set_append_right _ _ (by omega),htl,Nat.sub_self,List.drop_eq_getElem_cons hi2,List.set_cons_zero,cf,LE hx,List.map_append];simp
theorem Ix (l:List Rat):(l.map some).map eO=l.map eQ:=by simp [Function.comp_def]
def ot (P:List (List Rat)) (n j i:Nat):List (List (Option Rat)):=(List.range P.length).map λ r=>FU ((P.getD r []).take (if r<i then j+1 else j)) n
theorem aC (P:List (List Rat)) (n j i:Nat):(ot P n j i).length=P.length:=by simp [ot]
theorem zZ {P:List (List Rat)} {i:Nat} {row:List Rat} (h:P[i]? = some row):P.getD i []=row:=by rw[List.getD_eq_getElem?_getD,h];rfl
theorem dL {P:List (List Rat)} {n j i r:Nat} {row:List Rat} (h:P[r]? = some row):(ot P n j i)[r]? = some (FU (row.take (if r<i then j+1 else j)) n):=by
 have h1:=(zS h).1;simp only[ot,List.getElem?_map,List.getElem?_range h1,Option.map_some,zZ h]
theorem Lv {P:List (List Rat)} {n j i:Nat} {row:List Rat} (h:P[i]? = some row):(ot P n j i).set i (FU (row.take (j+1)) n)=ot P n j (i+1):=by
 refine List.ext_getElem? λ r => ?_
 rw[List.getElem?_set,aC];cases e:P[r]? with
 | none =>
  have h1:=List.getElem?_eq_none_iff.1 e;have h2:=(zS h).1;rw[List.getElem?_eq_none (by rw[aC];exact h1),if_neg (by omega),List.getElem?_eq_none (by rw[aC];exact h1)]
 | some rw' =>
  rw[dL e,dL e];by_cases hi:i=r
  ·subst hi
   obtain rfl:=Option.some.inj (h.symm.trans e);have h2:=(zS h).1;rw[if_pos rfl,if_pos h2,if_pos (by omega)]
  ·rw[if_neg hi]
   by_cases h3:r<i
   ·rw[if_pos h3,if_pos (by omega)]
   ·rw[if_neg h3,if_neg (by omega)]
theorem Lu (P:List (List Rat)) (n j:Nat):ot P n j P.length=ot P n (j+1) 0:=by
 refine List.map_congr_left λ r hr => ?_
 rw[if_pos (List.mem_range.1 hr),if_neg (by omega)]
theorem Lw (P:List (List Rat)) (n:Nat):ot P n 0 0=List.replicate P.length (FU [] n):=by
 refine List.ext_getElem? λ r => ?_
 simp only[ot,List.getElem?_map,List.getElem?_replicate];by_cases h:r<P.length
 ·rw[List.getElem?_range h,if_pos h];simp
 ·rw[List.getElem?_eq_none (by simp;omega),if_neg h];rfl
theorem Lt {P:List (List Rat)} {n:Nat} (h : ∀ r∈P,r.length=n):C1 3 eO (ot P n n 0)=C1 3 eQ P:=by
 refine List.ext_getElem? λ r => ?_
 simp only[C1,List.getElem?_map];cases e:P[r]? with
 | none=>rw[List.getElem?_eq_none (by rw[aC];exact List.getElem?_eq_none_iff.1 e)];rfl
 | some row =>
  have hl:=h row (zM e);rw[dL e,if_neg (by omega),List.take_of_length_le (by omega)];simp only[Option.map_some,K9 hl]
theorem xX (N:TrGLib L) (S:GA) (n:Nat) (h:S.Ok n 400) (hn:n<=4):Ev L 189 [.agg (eS S)] (.tup [.agg [.sl false ((OU S n).map eQ),.sl false ((OS S n).map eQ)],.int .i64 0]):=by
 have ue:=xV N.toSysGLib S n 400 h (by omega);have hO:=LN N.toRatGLib 0 (by omega);have hI:=LN N.toRatGLib 1 (by omega);have hla:=h.la;subst hla;refine Ev.x N.P9 rfl rfl ?_;(repeat' ((first|(apply BR<;>intro hc<;>try (exfalso;omega))|apply CB|apply BA|refine BH (ue) ?_|refine BH (hO) ?_|refine BH (hI) ?_)<;>conv=>whnf));refine H7 1000 N.QD rfl rfl ?_;(repeat' (apply BA<;>conv=>whnf));unfold E1;refine ⟨⟨by omega,by omega,by simp only[FR];omega,by omega⟩,?_⟩;rw[Int.toNat_natCast];(conv=>whnf);have hZ:=AiF N.toSysGLib S.a.length (by omega);refine UK (enc:=eQ) S.a.length hZ (by simp) ?_;(conv=>whnf);refine UK (enc:=eQ) S.a.length hZ (by simp) ?_;(conv=>whnf);(repeat' (refine BH (hO) ?_<;>conv=>whnf));generalize hm:S.a.length=m at *;refine DG (λ t=>m-t) (λ(t:Nat)=>t<=m) (λ t=>[(16,.int .i64 t)]) (λ t=>[(145006,145006,.mx (List.replicate t (some (3,(List.replicate m (0:Rat)).map eQ))++List.replicate (m-t) none))]) [] [] 0 (by (conv=>whnf);exact ⟨rfl,rfl,rfl⟩) (by omega) ?_;intro t p4 th;by_cases ht:t<m
 ·(repeat' ((first|(apply BR<;>intro hc<;>try (exfalso;omega))|apply BA)<;>conv=>whnf))
  refine UK (enc:=eQ) m hZ (by simp) ?_;(conv=>whnf);(repeat' ((first|(apply CE;omega)|fail)<;>conv=>whnf));unfold B1 EI;refine ⟨by simp,by simp;omega,?_⟩;(conv=>whnf);rw[show 0+((t:Int)).toNat=t by omega,nP _ _ p4 ht];(repeat' ((first|(apply CJ;omega)|fail)<;>conv=>whnf));exact C7 [] (th (t+1) (by omega) (by omega))
 obtain rfl:t=m:=by omega
 clear th;rw[show List.replicate t (some (3,List.map eQ (List.replicate t 0)))++List.replicate (t-t) none=C1 3 eQ (M6 t 0) by rw[Ajf];simp [C1]];(repeat' ((first|(apply BR<;>intro hc<;>try (exfalso;omega))|apply BA)<;>conv=>whnf));refine ⟨rfl,?_⟩;(conv=>whnf);skip;refine DG (λ i=>t-i) (λ(i:Nat)=>i<=t) (λ i=>[(34,.int .i64 i)]) (λ i=>[(145006,145006,.mx (C1 3 eQ (M6 t i)))]) [] [] 0 (by (conv=>whnf);exact ⟨rfl,rfl,rfl⟩) (by omega) ?_;intro i p1 ih;by_cases hi:i<t
 ·have hat:=Ajc hi
  have hst:=Aje hi;have hil:=Ka t i;generalize M6 t i=I0 at *;(repeat' ((first|(apply BR<;>intro hc<;>try (exfalso;omega))|(apply CE;omega)|(refine HJ ?_ (λ r hr => ?_);omega)|apply BA|refine BH (hI) ?_)<;>conv=>whnf));cases hat.symm.trans hr;refine CE (by rw[List.length_map,List.length_replicate];omega) ?_;(conv=>whnf);(repeat' ((first|refine H8 (by assumption) ?_|fail)<;>conv=>whnf));refine G8 (enc:=eQ) 1 rfl (λ_=>rfl) (by rw[List.length_replicate];omega) ?_;(conv=>whnf);refine fG (by rw[List.length_set]) ?_;rw[hst];(conv=>whnf);(repeat' ((first|(apply CJ;omega)|fail)<;>conv=>whnf));exact C7 [] (ih (i+1) (by omega) (by omega))
 obtain rfl:i=t:=by omega
 clear ih;rw[Ajd];rw[show ([[AV.bool (decide (((1:Int):Rat).num<0)),AV.sl false ((dg ((1:Int):Rat).num.natAbs).map BZ),AV.sl false ((dg ((1:Int):Rat).den).map BZ)]]:List (List AV))=(GG S.a i 0).map eQ from rfl,
  show ([[AV.bool (decide (((0:Int):Rat).num<0)),AV.sl false ((dg ((0:Int):Rat).num.natAbs).map BZ),AV.sl false ((dg ((0:Int):Rat).den).map BZ)]]:List (List AV))=(IK S i 0).map eQ from rfl]
 (repeat' ((first|(apply BR<;>intro hc<;>try (exfalso;omega))|apply BA)<;>conv=>whnf))
 have nq:Sq i S.a:=⟨hm,h.lr⟩;refine sG [145002,145003] ?_;refine I4 (λ k _=>i-k) (λ(k _:Nat)=>k<=i) (λ k _=>[(9,.int .i64 ((k+1:Nat):Int)),(5,.row 27 0 3 0 (k+1)),(6,.row 29 0 3 0 (k+1)),(7,.row 145006 0 1 0 i)]) (λ k t=>[(27,27,.rw 3 ((GG S.a i k).map eQ)),(29,29,.rw 3 ((IK S i k).map eQ)),(145006,t,.mx (C1 3 eQ (FV S.a i k)))]) [] [] 0 145006 (by (conv=>whnf);exact ⟨rfl,rfl,rfl⟩) (by omega) ?_;intro k t p2 kh;by_cases hk:k<i
 ·obtain ⟨b1,b2,b3⟩:=Ms.xe nq h.ba hn k (by omega)
  have hKk:=nT k (by omega);have zz:=Sq.fl (a:=S.a) hm k;have hMl:=zz.l;have hfl:FV S.a i (k+1)=u9 (EA S.a (FV S.a i k) i) (MB S.a i k) i:=rfl;have oe:MB S.a i k=L1 (EA S.a (FV S.a i k) i) i*Rat.divInt (-1) ((k+1:Nat):Int):=rfl;have hab:=Tx S i k;have hbe:=Xr S.a i k;have hal:=fQ S i k;have hbl:=fS S.a i k;have Aa:=Sq.mul hm (FV S.a i k);generalize FV S.a i k=Mk at *;generalize MB S.a i k=ck at *;generalize IK S i k=ab at *;generalize GG S.a i k=be at *;generalize J9 400 k=fk at *;(repeat' ((first|(apply BR<;>intro hc<;>try (exfalso;omega))|apply BA)<;>conv=>whnf));refine GU (enc:=eO) none i rfl rfl (by omega) ?_;(conv=>whnf);skip;have Ast:=LA Mk S.b;have Gc : ∀ (j:Nat) row,Mk[j]? = some row->(CO Mk S.b)[j]? = some (CI row S.b):=λ j row hr=>by rw[CO,List.getElem?_map,hr];rfl
  have kv:Bs (4*(fk+401)) (CO Mk S.b):=by
   intro x hx;obtain ⟨r,hr,rfl⟩:=List.mem_map.1 hx;refine ((b1 r hr).dot h.bb).le ?_;rw[zz.r r hr];exact Nat.mul_le_mul hn (by omega)
  refine DG (λ j=>i-j) (λ(j:Nat)=>j<=i) (λ j=>[(53,.int .i64 j)]) (λ j=>[(51,51,.rw 3 ((FU ((CO Mk S.b).take j) i).map eO))]) [] [] 0 (by first|exact (by (conv=>whnf);exact ⟨rfl,rfl,rfl⟩)|(rw[List.take_zero,<-KS];exact (by (conv=>whnf);exact ⟨rfl,rfl,rfl⟩))) (by omega) ?_;intro j q1 jh;by_cases hj:j<i
  ·obtain ⟨row,n7⟩ : ∃ row,Mk[j]? = some row:=⟨_,zE (by omega)⟩
   have hrl:=zz.at n7;have hy:=Gc j row n7;have hP:=λ q q'=>nH N.toSysGLib row S.b q q' fk 400 (by rw[hrl,h.lb]) (b1.at n7) h.bb (by rw[hrl];have:=Nat.mul_le_mul_right (fk+400+1) hn;omega) (by omega)
   have hlf:=JO (l:=(CO Mk S.b).take j) (m:=i) (by rw[List.length_take];omega);have hst:=KU (l:=(CO Mk S.b).take j) (m:=i) (x:=CI row S.b) (by rw[List.length_take];omega);rw[List.length_take,Nat.min_eq_left (by omega),<-LE hy]at hst;(repeat' ((first|(apply BR<;>intro hc<;>try (exfalso;omega))|(apply CE;omega)|(refine GK (λ_=>rfl) rfl ?_ ?_;(first|rfl|simp))|(refine HJ ?_ (λ r hr => ?_);omega)|refine H8 (by assumption) ?_|apply BA)<;>conv=>whnf));cases n7.symm.trans hr;(repeat' ((first|(apply CE;omega)|refine BH (hP _ _) ?_)<;>conv=>whnf));refine G8 (enc:=eO) (some (CI row S.b)) rfl (λ e=>by cases e<;>rfl) (by omega) ?_;(conv=>whnf);(repeat' ((first|(apply CJ;omega)|fail)<;>conv=>whnf));rw[hst];exact C7 [] (jh (j+1) (by omega) (by omega))
  obtain rfl:j=i:=by omega
  clear jh;rw[List.take_of_length_le (by omega),K9 (by omega)];have hP:=λ q q'=>nH N.toSysGLib S.c (CO Mk S.b) q q' 400 (4*(fk+401)) (by rw[h.lc];omega) h.bc kv (by rw[h.lc];have:=Nat.mul_le_mul_right (400+4*(fk+401)+1) hn;omega) (by rw[h.lc];omega)
  generalize CO Mk S.b=img at *;generalize CI S.c img=av at *;(repeat' ((first|(apply BR<;>intro hc<;>try (exfalso;omega))|apply BA)<;>conv=>whnf));refine GK (enc:=eQ) (λ_=>rfl) rfl (by omega) ?_;(conv=>whnf);(repeat' ((first|apply G0|refine BH (hP _ _) ?_)<;>conv=>whnf));refine HP (enc:=eQ) av rfl hal.symm rfl (by omega) (by omega) ?_;rw[<-hab,fQ];(conv=>whnf);skip;refine HI 1000 N.QC rfl rfl ?_;(repeat' ((first|apply CB|apply BA)<;>conv=>whnf));unfold E1;refine ⟨⟨by omega,by omega,by simp only[FR];omega,by omega⟩,?_⟩;rw[Int.toNat_natCast];(conv=>whnf);(repeat' (apply CB<;>conv=>whnf));rw[hm];refine GU (enc:=eO) none j rfl rfl (by omega) ?_;(conv=>whnf);(repeat' (apply CB<;>conv=>whnf));rw[hm];refine DG (λ u=>j-u) (λ(u:Nat)=>u<=j) (λ u=>[(19,.int .i64 u)]) (λ u=>[(188013,188013,.mx (List.replicate u (some (3,(FU [] j).map eO))++List.replicate (j-u) none))]) [] [] 0 (by (conv=>whnf);exact ⟨rfl,rfl,rfl⟩) (by omega) ?_;intro u r1 uh;by_cases hu:u<j
  ·(repeat' ((first|(apply BR<;>intro hc<;>try (exfalso;omega))|apply CB|apply BA)<;>conv=>whnf))
   rw[hm];refine GU (enc:=eO) none j rfl rfl (by omega) ?_;(conv=>whnf);(repeat' ((first|(apply CE;omega)|fail)<;>conv=>whnf));unfold B1 EI;refine ⟨by simp,by simp;omega,?_⟩;(conv=>whnf);rw[show 0+((u:Int)).toNat=u by omega,<-KS,nP _ _ r1 hu];(repeat' ((first|(apply CJ;omega)|fail)<;>conv=>whnf));exact C7 [] (uh (u+1) (by omega) (by omega))
  obtain rfl:u=j:=by omega
  clear uh;have Fg : ∀ (e:Nat) row,S.a[e]? = some row->(EA S.a Mk u)[e]? = some (H1 row Mk u):=λ e row hr=>by rw[EA,List.getElem?_map,hr];rfl
  have hPl:=Aa.l;rw[show List.replicate u (some (3,List.map eO (FU [] u)))++List.replicate (u-u) none=C1 3 eO (ot (EA S.a Mk u) u 0 0) by rw[Lw,hPl];simp [C1]];generalize hPg:EA S.a Mk u=P at *;(repeat' ((first|(apply BR<;>intro hc<;>try (exfalso;omega))|apply CB|apply BA)<;>conv=>whnf));rw[hm];refine I4 (λ c _=>u-c) (λ(c:Nat) (pv:List (Option Rat))=>c<=u/\pv.length=u) (λ c _=>[(31,.int .i64 c)]) (λ c pv=>[(188013,188013,.mx (C1 3 eO (ot P u c 0))),(188016,188016,.rw 3 (pv.map eO))]) [] [] 0 (List.replicate u none) (by (conv=>whnf);exact ⟨rfl,rfl,rfl⟩) ⟨by omega,by simp⟩ ?_;intro c pv ⟨r2,r3⟩ ch;by_cases hc2:c<u
  ·have Pw:=bZ Mk c
   (repeat' ((first|(apply BR<;>intro hc<;>try (exfalso;omega))|apply CB|apply BA)<;>conv=>whnf))
   rw[hm];refine DG (λ e=>u-e) (λ(e:Nat)=>e<=u) (λ e=>[(36,.int .i64 e)]) (λ e=>[(188016,188016,.rw 3 ((cf (ED Mk c) pv e).map eO))]) [] [] 0 (by first|exact (by (conv=>whnf);exact ⟨rfl,rfl,rfl⟩)|(rw[Yd];exact (by (conv=>whnf);exact ⟨rfl,rfl,rfl⟩))) (by omega) ?_;intro e r4 eh;by_cases he2:e<u
   ·obtain ⟨row,n7⟩ : ∃ row,Mk[e]? = some row:=⟨_,zE (by omega)⟩
    have hrl:=zz.at n7;obtain ⟨x,hx⟩ : ∃ x,row[c]? = some x:=⟨_,zE (by omega)⟩;have hcx:(ED Mk c)[e]? = some x:=by rw[ED,List.getElem?_map,n7,Option.map_some,UD hx]
    have hcl:=Yb (l:=ED Mk c) (by omega) r3 r4;have hst:=Yc r3 hcx he2;(repeat' ((first|(apply BR<;>intro hc<;>try (exfalso;omega))|(apply CE;omega)|(refine HJ ?_ (λ r hr => ?_);omega)|apply BA)<;>conv=>whnf));cases n7.symm.trans hr;refine CE (by rw[List.length_map];omega) ?_;(conv=>whnf);(repeat' ((first|(apply CE;omega)|(refine HZ ?_ (λ_=>rfl) (λ v hv => ?_);omega)|refine H8 (by assumption) ?_)<;>conv=>whnf));cases hx.symm.trans hv;refine G8 (enc:=eO) (some x) rfl (λ e=>by cases e<;>rfl) (by omega) ?_;(conv=>whnf);(repeat' ((first|(apply CJ;omega)|fail)<;>conv=>whnf));rw[hst];exact C7 [] (eh (e+1) (by omega) (by omega))
   obtain rfl:e=u:=by omega
   clear eh;rw[Ya (by omega) r3,Ix];(repeat' ((first|(apply BR<;>intro hc<;>try (exfalso;omega))|apply CB|apply BA)<;>conv=>whnf));rw[hm];refine DG (λ f=>e-f) (λ(f:Nat)=>f<=e) (λ f=>[(52,.int .i64 f)]) (λ f=>[(188013,188013,.mx (C1 3 eO (ot P e c f)))]) [] [] 0 (by (conv=>whnf);exact ⟨rfl,rfl,rfl⟩) (by omega) ?_;intro f r5 fh;by_cases hf2:f<e
   ·obtain ⟨row,n7⟩ : ∃ row,S.a[f]? = some row:=⟨_,zE (by omega)⟩
    have Qk:S.a[(f:Int).toNat]? = some row:=n7;have hrl:=nq.at n7;have hPr:=Fg f row n7;have hDt:=λ q q'=>nH N.toSysGLib row (ED Mk c) q q' 400 fk (by omega) (h.ba row (zM n7)) (b1.Bi c) (by rw[hrl];have:=Nat.mul_le_mul_right (400+fk+1) hn;omega) (by omega)
    have hoa:=dL (n:=e) (j:=c) (i:=f) hPr;rw[if_neg (by omega)]at hoa;have hos:=Lv (n:=e) (j:=c) hPr;have hol:=aC P e c f;have hmc:(H1 row Mk e)[c]? = some (CI row (ED Mk c)):=by rw[H1,List.getElem?_map,List.getElem?_range hc2];rfl
    have hml:=iS row Mk e;have hlf:=JO (l:=(H1 row Mk e).take c) (m:=e) (by rw[List.length_take];omega);have hst:=KU (l:=(H1 row Mk e).take c) (m:=e) (x:=CI row (ED Mk c)) (by rw[List.length_take];omega);rw[List.length_take,Nat.min_eq_left (by omega),<-LE hmc]at hst;generalize ot P e c f=O at *;(repeat' ((first|(apply BR<;>intro hc<;>try (exfalso;omega))|(apply CE;omega)|(refine CY (by assumption) ?_ rfl ?_;omega)|(refine HJ ?_ (λ r hr => ?_);omega)|apply BA)<;>conv=>whnf));cases hoa.symm.trans hr;refine GK (enc:=eQ) (λ_=>rfl) rfl (by omega) ?_;(conv=>whnf);(repeat' (refine BH (hDt _ _) ?_<;>conv=>whnf));have hlf2:=JO (l:=(H1 row Mk e).take (c+1)) (m:=e) (by rw[List.length_take];omega);refine CE (by rw[List.length_map];omega) ?_;(conv=>whnf);(repeat' ((first|refine H8 (by assumption) ?_|fail)<;>conv=>whnf));refine G8 (enc:=eO) (some (CI row (ED Mk c))) rfl (λ e=>by cases e<;>rfl) (by omega) ?_;(conv=>whnf);rw[hst];refine fG (by omega) ?_;rw[hos];(conv=>whnf);(repeat' ((first|(apply CJ;omega)|fail)<;>conv=>whnf));exact C7 [] (fh (f+1) (by omega) (by omega))
   obtain rfl:f=e:=by omega
   clear fh;have hnx:=Lu P f c;rw[hPl]at hnx;rw[hnx,<-Ix (ED Mk c)];(repeat' ((first|(apply BR<;>intro hc<;>try (exfalso;omega))|(apply CJ;omega)|apply BA)<;>conv=>whnf));exact C7 [] (ch (c+1) ((ED Mk c).map some) (by omega) ⟨by omega,by rw[List.length_map];omega⟩)
  obtain rfl:c=u:=by omega
  clear ch;rw[Lt Aa.r];(repeat' ((first|(apply BR<;>intro hc<;>try (exfalso;omega))|apply BA)<;>conv=>whnf));refine ⟨rfl,_,rfl,?_⟩;(conv=>whnf);(repeat' (refine BH (hO) ?_<;>conv=>whnf));have Hi:((0:Int):Rat)=L1 P 0:=rfl;rw[Hi];refine DG (λ e=>c-e) (λ(e:Nat)=>e<=c) (λ e=>[(80,.int .i64 e)]) (λ e=>[(12,12,.bx (eQ (L1 P e)))]) [] [] 0 (by (conv=>whnf);exact ⟨rfl,rfl,rfl⟩) (by omega) ?_;intro e r4 eh;by_cases he2:e<c
  ·obtain ⟨row,n7⟩ : ∃ row,P[e]? = some row:=⟨_,zE (by omega)⟩
   have hrl:=Aa.at n7;obtain ⟨x,hx⟩ : ∃ x,row[e]? = some x:=⟨_,zE (by omega)⟩;have Aq:L1 P (e+1)=L1 P e+x:=by rw[L1,zZ n7,UD hx]
   have Bd:=Ms.tr b2 e;have hkb:e*(4*(fk+(400+1))+1)<=4*(4*(fk+(400+1))+1):=Nat.mul_le_mul_right _ (by omega);have hA:=cL N.toRatGLib Bd ((b2.at n7).at hx) (by omega) (by omega);rw[<-Aq]at hA;(repeat' ((first|(apply BR<;>intro hc<;>try (exfalso;omega))|(apply CE;omega)|(refine HJ ?_ (λ r hr => ?_);omega)|apply BA)<;>conv=>whnf));cases n7.symm.trans hr;refine CE (by rw[List.length_map];omega) ?_;(conv=>whnf);(repeat' ((first|(refine HZ ?_ (λ_=>rfl) (λ v hv => ?_);omega)|refine H8 (by assumption) ?_)<;>conv=>whnf));cases hx.symm.trans hv;(repeat' ((first|(apply CJ;omega)|refine BH (hA) ?_)<;>conv=>whnf));exact C7 [] (eh (e+1) (by omega) (by omega))
  obtain rfl:e=c:=by omega
  clear eh;have Bd:=Ms.tr b2 e;have hkb:e*(4*(fk+(400+1))+1)<=4*(4*(fk+(400+1))+1):=Nat.mul_le_mul_right _ (by omega);have hF:=Aho N.toRatHLib (-1) ((k+1:Nat):Int) (by omega) (by omega) (by omega);have hM:=K8 N.toRatGLib Bd (uD (k:=k+1) (by omega)) (by omega) (by omega);rw[<-oe]at hM;(repeat' ((first|(apply BR<;>intro hc<;>try (exfalso;omega))|apply BA|refine BH (hF) ?_|refine BH (hM) ?_)<;>conv=>whnf));have w4:=Xh P ck;refine DG (λ f=>e-f) (λ(f:Nat)=>f<=e) (λ f=>[(98,.int .i64 f)]) (λ f=>[(188013,188013,.mx (C1 3 eQ (u9 P ck f)))]) [] [] 0 (by first|exact (by (conv=>whnf);exact ⟨rfl,rfl,rfl⟩)|(rw[w4];exact (by (conv=>whnf);exact ⟨rfl,rfl,rfl⟩))) (by omega) ?_;intro f r5 fh;by_cases hf2:f<e
  ·obtain ⟨row,n7⟩ : ∃ row,P[f]? = some row:=⟨_,zE (by omega)⟩
   have hrl:=Aa.at n7;obtain ⟨x,hx⟩ : ∃ x,row[f]? = some x:=⟨_,zE (by omega)⟩;have hA:=cL N.toRatGLib ((b2.at n7).at hx) b3 (by omega) (by omega);have hnx:=Xf (c:=ck) n7;have Qn:=Xg (c:=ck) n7;rw[UD hx]at Qn;have hdl:=UT P ck f;generalize u9 P ck f=D0 at *;(repeat' ((first|(apply BR<;>intro hc<;>try (exfalso;omega))|(apply CE;omega)|(refine HJ ?_ (λ r hr => ?_);omega)|apply BA)<;>conv=>whnf));cases hnx.symm.trans hr;cases hnx.symm.trans ‹D0[f]? = some r›;refine CE (by rw[List.length_map];omega) ?_;(conv=>whnf);(repeat' ((first|(refine HZ ?_ (λ_=>rfl) (λ v hv => ?_);omega)|refine H8 (by assumption) ?_)<;>conv=>whnf));cases hx.symm.trans hv;(repeat' (refine BH (hA) ?_<;>conv=>whnf));refine CE (by rw[List.length_map];omega) ?_;(conv=>whnf);(repeat' ((first|refine H8 (by assumption) ?_|fail)<;>conv=>whnf));refine G8 (enc:=eQ) (x+ck) rfl (λ_=>rfl) (by omega) ?_;(conv=>whnf);refine fG (by rw[List.length_set]) ?_;rw[<-Qn];(conv=>whnf);(repeat' ((first|(apply CJ;omega)|fail)<;>conv=>whnf));exact C7 [] (fh (f+1) (by omega) (by omega))
  obtain rfl:f=e:=by omega
  clear fh;rw[<-hfl];(repeat' ((first|(apply BR<;>intro hc<;>try (exfalso;omega))|apply G0|apply BA)<;>conv=>whnf));refine HP (enc:=eQ) ck rfl hbl.symm rfl (by omega) (by omega) ?_;rw[<-hbe,fS];(conv=>whnf);(repeat' ((first|(apply CJ;omega)|fail)<;>conv=>whnf));exact C7 [(145006,188013),(27,120),(29,73)] (kh (k+1) 188013 (by omega) (by omega))
 obtain rfl:k=i:=by omega
 clear kh;have jj:Bs 1150000000 (GG S.a k k):=by
  intro x hx;simp only[GG,List.mem_cons,List.mem_map,List.mem_range]at hx;rcases hx with rfl|⟨j,hj,rfl⟩
  ·exact Bt.one _
  ·have Ff:=nT j (by omega)
   exact (Ms.xe nq h.ba hn j (by omega)).2.2.le (by omega)
 have qf:Bs 1150000000 (IK S k k):=by
  intro x hx;simp only[IK,List.mem_cons,List.mem_map,List.mem_range]at hx;rcases hx with rfl|⟨j,hj,rfl⟩
  ·exact Bt.zero _
  ·have Ff:=nT j (by omega)
   have kv:Bs (4*(J9 400 j+401)) (CO (FV S.a k j) S.b):=by
    intro x hx;obtain ⟨r,hr,rfl⟩:=List.mem_map.1 hx;refine (((Ms.xe nq h.ba hn j (by omega)).1 r hr).dot h.bb).le ?_;rw[(Sq.fl hm j).r r hr];exact Nat.mul_le_mul hn (by omega)
   refine (h.bc.dot kv).le ?_;rw[h.lc];have:=Nat.mul_le_mul_right (400+4*(J9 400 j+401)+1) hn;generalize hX:400+4*(J9 400 j+401)+1=X at this ⊢;omega
 have hbl:=fS S.a k k;have hal:=fQ S k k;have Gi:Bs 1150000400 ((GG S.a k k).map (· * S.d)):=by
  intro y hy;obtain ⟨x,hx,rfl⟩:=List.mem_map.1 hy;exact ((jj x hx).mul h.bd).le (by omega)
 have hml:((GG S.a k k).map (· * S.d)).length=k+1:=by rw[List.length_map];exact hbl
 have htl:=Y0 ((GG S.a k k).map (· * S.d));have u5:=T6 ((GG S.a k k).map (· * S.d)) ((GG S.a k k).map (· * S.d)).length;have hSc:=λ q=>Ah9 N q (GG S.a k k) S.d 1150000000 400 jj h.bd (by omega) (by omega)
 have hAd:=λ q q'=>Ah6 N q q' (IK S k k) (F3 ((GG S.a k k).map (· * S.d))) 1150000000 1150000400 qf Gi.trim (by omega) (by omega) (by omega)
 have hTr:=λ q=>Aib N.sd q (GG S.a k k) 1150000000 jj (by omega) (by omega)
 have hfin:CT (.tup [.agg [.sl false ((OU S k).map eQ),.sl false ((OS S k).map eQ)],.int .i64 0]):=by
  simp only[CT,FG,true_and,and_true];exact ⟨KP _,KP _⟩
 unfold OU OS at *;generalize F3 (K5 (IK S k k) (F3 ((GG S.a k k).map (· * S.d))))=rB at *;generalize F3 ((GG S.a k k).map (· * S.d))=sc at *;generalize F3 (GG S.a k k)=rA at *;(repeat' ((first|(apply BR<;>intro hc<;>try (exfalso;omega))|apply BA)<;>conv=>whnf));refine GK (enc:=eQ) (λ_=>rfl) rfl hbl.symm ?_;(conv=>whnf);(repeat' (refine BH (hSc _) ?_<;>conv=>whnf));refine GK (enc:=eQ) (λ_=>rfl) rfl hal.symm ?_;(conv=>whnf);(repeat' (refine BH (hAd _ _) ?_<;>conv=>whnf));refine GK (enc:=eQ) (λ_=>rfl) rfl hbl.symm ?_;(conv=>whnf);(repeat' (refine BH (hTr _) ?_<;>conv=>whnf));exact CK rfl hfin
end Go.Eng

namespace Go.Eng
def hQ (S:GA):Nat->Rat
 | 0=>S.d
 | j+1=>CI S.c (wQ S j)
theorem vP {l:List Rat} : ∀ {n i:Nat},FM l n<=i->i<n->l.getD i 0=0
 | 0,i,_,h=>by omega
 | n+1,i,h,hi=>by
  rw[FM]at h;split at h
  ·rename_i h0
   by_cases e:i=n
   ·subst e;exact h0
   ·exact vP h (by omega)
  ·omega
theorem AlM (l:List Rat) (i:Nat):(F3 l).getD i 0=l.getD i 0:=by
 by_cases h:i<FM l l.length
 ·have:=T6 l l.length
  rw[F3,List.getD_eq_getElem?_getD,List.getElem?_take_of_lt h,List.getD_eq_getElem?_getD]
 ·rw[cX (by rw[Y0];omega)]
  by_cases h2:i<l.length
  ·exact (vP (by omega) h2).symm
  ·exact (cX (by omega)).symm
end Go.Eng

namespace Go.Eng
open F
attribute [local irreducible] AH BJ B1 BD EZ CF CG CR CU DW B5 DT EG F7 DM CQ DR EE AR CW BW pw DC C9 EI ET E1 E7 EW D4 E8
variable {L:Lib}
set_option maxHeartbeats 8000000
theorem N9 {l:List Rat} {k:Nat} (h:Bs k l) (i:Nat):Bt k (l.getD i 0):=by
 rw[List.getD_eq_getElem?_getD];cases e:l[i]? with
 | none=>exact Bt.zero k
 | some x=>exact h.at e
end Go.Eng
