/-
  Natural numbers (layer 1): greatest common divisors.
-/
import Derived.Test.YtpefogchdoedbaaGreatB9
import Derived.Test.YtpefogchdoedbaaGreatB7
import Derived.Test.YtpefogchdoedbaaGreatB4
import Derived.Test.YtpefogchdoedbaaGreatB8
import Derived.Test.YtpefogchdoedbaaGreatB3
import Derived.Test.YtpefogchdoedbaaGreatB5
import Derived.Test.YtpefogchdoedbaaGreatB1
set_option linter.unusedSimpArgs false
set_option linter.unusedVariables false
set_option linter.unnecessarySimpa false
namespace Go.Eng
open F
attribute [local irreducible] AA AF AR AD B0 AU AX A8 A6 BN AP BK BV CN BI AZ BG BQ AB A7 AJ pw BH BF B9 B8 CI B7 CB BM B3
set_option maxHeartbeats 4000000
variable {L:Lib}
theorem eR {k':IntKind} {a:Int} {K:AV->Prop} (hk:K (.int .i64 (a/4294967296))):AD .shr .i64 a k' 32 K:=by
 refine uO (by omega) ?_
 have:pw 32=4294967296:=by decide +kernel
 rw[this];exact hk
theorem eF {t:Int} {K:Int->Prop} (hk:K (TM t:Int)):AU .u32 t K:=by
 unfold AU
 rw[IntKind.wrap_u32,<-Y6];exact hk
section
variable {k':IntKind} {a b:Nat} {K:AV->Prop}
theorem uN {i:Nat} (hi:i<2) (ha:a<4294967296) (hk:K (.int .u64 ((a*4294967296^i:Nat):Int))):AD .shl .u64 (a:Int) k' (32*(i:Int)) K:=by
 rcases i with _|_|i
 ·exact OA (s:=0) (by omega) (by omega) hk
 ·exact OA (s:=32) (by omega) (by omega) hk
 ·omega
end
theorem mQ {x y M N:Int} (hx : -M<=x/\x<=M) (hy : -N<=y/\y<=N) : -(M*N)<=x*y/\x*y<=M*N:=by
 have h1:x.natAbs<=M.natAbs:=by omega
 have h2:y.natAbs<=N.natAbs:=by omega
 have h3:=Nat.mul_le_mul h1 h2
 rw[<-Int.natAbs_mul,<-Int.natAbs_mul]at h3
 have h4:0<=M*N:=Int.mul_nonneg (by omega) (by omega)
 omega
theorem ZZ (N:NatGLib L) (a b:List Nat) (q1 q2:Bool) (hA:A5 a) (hB:A5 b) (la:a.length<=549755813888) (lb:b.length<=549755813888) (h0:val b≠0) :
  Ev L 75 [.sl q1 (a.map AM),.sl q2 (b.map AM)] (.tup [.sl false ((dg (val a/val b)).map AM),.sl false ((dg (val a%val b)).map AM),.int .i64 0]):=by
 have l1:=EN hA
 have l2:=EN hB
 have hp:=TQ h0
 refine Ev.x N.JR rfl rfl ?_
 (repeat' (first|(refine AG (fun hc => ?_) (fun hc => ?_)<;>first|(exfalso;omega)|(conv=>whnf))|(refine AW ?_;conv=>whnf)|(refine AE ?_;conv=>whnf)|(refine MH (MV N a _ hA (by omega)) ?_;conv=>whnf)|(refine MH (MV N b _ hB (by omega)) ?_;conv=>whnf)|(refine AC (Z1 N _ _ _ _ h0 (by omega) (by omega)) ?_;conv=>whnf)))
 refine AY rfl ?_
 simp only[A9,CY,and_true,true_and]
 exact ⟨CU _,CU _⟩
theorem kL (N:NatGLib L) (V:Nat) (q:Bool) (hl:(dg V).length<=2):Ev L 76 [.sl q ((dg V).map AM)] (.int .u64 (V:Int)):=by
 have hV:=NY.1 hl
 have hD:=DT V
 have hv:=BU V
 refine Ev.x N.J1 rfl rfl ?_
 generalize dg V=l at *
 (repeat' (first|(refine AW ?_;conv=>whnf)|(refine AE ?_;conv=>whnf)))
 refine HG (fun i _=>l.length-i) (fun (i:Nat) (a:Nat)=>i<=l.length/\a=val (l.take i)) (fun i a=>[(3,.int .u64 (a:Int)),(8,.int .i64 i)]) (fun _ _=>[]) [] [] 0 0 (by (conv=>whnf);exact ⟨rfl,rfl,rfl⟩) ⟨by omega,rfl⟩ ?_
 intro i a ⟨p1,p2⟩ ih
 by_cases hi:i<l.length
 ·obtain ⟨d,hd⟩ : ∃ d,l[i]? = some d:=⟨_,zE hi⟩
  have hdb:=hD.at hd
  have h1:=DW hd
  have h2:=EV (hD.take i)
  have h3:=EV (hD.take (i+1))
  rw[List.length_take,Nat.min_eq_left (by omega)]at h2 h3
  have h4:4294967296^(i+1)<=4294967296^2:=Nat.pow_le_pow_right (by omega) (by omega)
  (repeat' (first|(refine AG (fun hc => ?_) (fun hc => ?_)<;>first|(exfalso;omega)|(conv=>whnf))|(refine MI ?_ ?_;omega;conv=>whnf)|(refine CR ?_ ?_;omega;conv=>whnf)|(refine BL (by assumption) ?_ rfl ?_;omega;conv=>whnf)|(refine AE ?_;conv=>whnf)))
  refine uN (by omega) hdb ?_
  (conv=>whnf)
  rw[Nat.mul_comm d]
  refine VQ (32*i) (by rw[Nat.pow_mul];exact Nat.mul_mod_right _ _) (by rw[Nat.pow_mul,p2];exact h2) (by omega) ?_
  (conv=>whnf)
  (repeat' (refine A0 ?_ ?_;omega;conv=>whnf))
  exact A4 [] (by (conv=>whnf);exact ⟨rfl,rfl,rfl⟩) (ih (i+1) _ (by omega) ⟨by omega,by rw[h1,p2]⟩)
 ·obtain rfl:i=l.length:=by omega
  clear ih
  (repeat' (first|(refine AG (fun hc => ?_) (fun hc => ?_)<;>first|(exfalso;omega)|(conv=>whnf))|(refine AE ?_;conv=>whnf)))
  rw[C7 (Nat.le_refl _)]at p2
  exact C4 (by omega)
theorem YG {f:Nat} {vs:List AV} {tm:Tm} {M:Mem} {K:AV->Mem->Prop} {v:AV} (h:A7 L f vs tm M (fun r M'=>r=v/\M'=M)) (hk:K v M):A7 L f vs tm M K:=by
 unfold A7 at h ⊢
 intro σ own hs
 obtain ⟨r,own',σ',M',h1,h2,h3,rfl,rfl⟩:=h σ own hs
 exact ⟨_,own',σ',_,h1,h2,h3,hk⟩
theorem kK (N:NatGLib L) (a:List Nat) (q:Bool) (n s:Nat) (hD:A5 a) (hn:3<=n) (hl:a.length<=n) (hn2:n<=549755813888) (hs:s<=31) (hlt:val a*2^s<4294967296^n) :
  Ev L 78 [.sl q (a.map AM),.int .i64 (n:Int),.int .u64 (s:Int)] (.int .i64 ((val a/SA n s:Nat):Int)):=by
 have b1:=PD hD (n-1)
 have b2:=PD hD (n-2)
 have b3:=PD hD (n-3)
 have hfit:=mX hD hn hl rfl rfl hlt
 have heq:=mW (s:=s) hD hn hl hs rfl rfl rfl
 obtain ⟨f1,f2,f3,f4⟩:=Q5 (s:=s) b3 (by omega)
 refine Ev.x N.JY rfl rfl ?_
 (repeat' (first|(refine A3 ?_ ?_;omega;conv=>whnf)|(refine CF ?_ ?_;omega;conv=>whnf)|(refine AE ?_;conv=>whnf)))
 refine YG (v := .int .u64 ((a.getD (n-1) 0:Nat):Int)) ?_ ?_
 ·refine E6 1000 N.G9 rfl rfl ?_
  (repeat' (first|(refine AG (fun hc => ?_) (fun hc => ?_)<;>first|(exfalso;omega)|(conv=>whnf))|(refine CR ?_ ?_;omega;conv=>whnf)|(refine AW ?_;conv=>whnf)|(refine O4 (by assumption) ?_ (fun e he hb => ?_);omega;conv=>whnf)|(refine AE ?_;conv=>whnf)))
  ·refine ⟨rfl,_,rfl,?_,rfl⟩
   rw[show ((n:Int)-1).toNat=n-1 by omega]at he
   rw[GG he];rfl
  ·refine ⟨rfl,_,rfl,?_,rfl⟩
   rw[<-PE (show a.length<=n-1 by omega)];rfl
 (conv=>whnf)
 (repeat' (first|(refine A3 ?_ ?_;omega;conv=>whnf)|(refine CF ?_ ?_;omega;conv=>whnf)|(refine NN ?_ ?_;omega;conv=>whnf)))
 refine YG (v := .int .u64 ((a.getD (n-2) 0:Nat):Int)) ?_ ?_
 ·refine E6 1000 N.G9 rfl rfl ?_
  (repeat' (first|(refine AG (fun hc => ?_) (fun hc => ?_)<;>first|(exfalso;omega)|(conv=>whnf))|(refine CR ?_ ?_;omega;conv=>whnf)|(refine AW ?_;conv=>whnf)|(refine O4 (by assumption) ?_ (fun e he hb => ?_);omega;conv=>whnf)|(refine AE ?_;conv=>whnf)))
  ·refine ⟨rfl,_,rfl,?_,rfl⟩
   rw[show ((n:Int)-2).toNat=n-2 by omega]at he
   rw[GG he];rfl
  ·refine ⟨rfl,_,rfl,?_,rfl⟩
   rw[<-PE (show a.length<=n-2 by omega)];rfl
 (conv=>whnf)
 generalize a.getD (n-1) 0=d1 at *
 generalize a.getD (n-2) 0=d2 at *
 (repeat' (refine N8 ?_ ?_;omega;conv=>whnf))
 refine OA (by omega) hfit ?_
 (conv=>whnf)
 generalize hT:(d1*4294967296+d2)*2^s=T at *
 (repeat' (first|(refine A3 ?_ ?_;omega;conv=>whnf)|(refine CF ?_ ?_;omega;conv=>whnf)))
 refine YG (v := .int .u64 ((a.getD (n-3) 0:Nat):Int)) ?_ ?_
 ·refine E6 1000 N.G9 rfl rfl ?_
  (repeat' (first|(refine AG (fun hc => ?_) (fun hc => ?_)<;>first|(exfalso;omega)|(conv=>whnf))|(refine CR ?_ ?_;omega;conv=>whnf)|(refine AW ?_;conv=>whnf)|(refine O4 (by assumption) ?_ (fun e he hb => ?_);omega;conv=>whnf)|(refine AE ?_;conv=>whnf)))
  ·refine ⟨rfl,_,rfl,?_,rfl⟩
   rw[show ((n:Int)-3).toNat=n-3 by omega]at he
   rw[GG he];rfl
  ·refine ⟨rfl,_,rfl,?_,rfl⟩
   rw[<-PE (show a.length<=n-3 by omega)];rfl
 (conv=>whnf)
 generalize a.getD (n-3) 0=d3 at *
 skip
 refine OA (by omega) f4 ?_
 (conv=>whnf)
 (repeat' (refine E8 ?_;conv=>whnf))
 rw[Q4]at f2
 refine eN s (by rw[<-hT];exact Nat.mul_mod_left _ _) f2 (by have:=W8 (k:=d1*4294967296+d2) (show s<=64 by omega) (by omega);omega) ?_
 (conv=>whnf)
 (repeat' (first|(refine uK ?_;conv=>whnf)|(refine PW ?_ ?_;omega;conv=>whnf)))
 rw[heq]
 exact C4 rfl
theorem Aa9 (N:NatGLib L) (P Q:Int) (hP:0<=P/\P<=4611686018427387904) (hQ:0<=Q/\Q<=4611686018427387904) : ∃ r,Ev L 79 [.int .i64 P,.int .i64 Q] r /\ ∃ a b c d:Int,(YI a b c d/\(-2147483647<=a/\a<=2147483647)/\(-2147483647<=b/\b<=2147483647)/\(-2147483647<=c/\c<=2147483647)/\(-2147483647<=d/\d<=2147483647))/\(b≠0->S7 P Q a b c d)/\r = .tup [.int .i64 a,.int .i64 b,.int .i64 c,.int .i64 d]:=by
 refine Ev.xE N.JV rfl rfl ?_
 (repeat' (refine AE ?_;conv=>whnf))
 refine sO (fun _ _ _ _ _ q=>(q+2147483648).toNat) (fun (a b c d p q:Int)=>PY P Q a b c d p q/\((-2147483647<=a/\a<=2147483647)/\(-2147483647<=b/\b<=2147483647)/\(-2147483647<=c/\c<=2147483647)/\(-2147483647<=d/\d<=2147483647))/\(p<=4611686018427387904/\q<=4611686018427387904)/\RI P Q a b c d/\(b≠0->S7 P Q a b c d)) (fun a b c d p q=>[(0,.int .i64 p),(1,.int .i64 q),(4,.int .i64 a),(5,.int .i64 b),(6,.int .i64 c),(7,.int .i64 d)]) (fun _ _ _ _ _ _=>[]) [] [] 1 0 0 1 P Q (by (conv=>whnf);exact ⟨rfl,rfl,rfl⟩) ⟨PY.start hP.1 hQ.1,by omega,by omega,RI.start P Q,fun h=>absurd rfl h⟩ ?_
 intro a b c d p q ⟨p1,⟨⟨p2,p2'⟩,⟨p3,p3'⟩,⟨p4,p4'⟩,⟨p5,p5'⟩⟩,⟨p6,p7⟩,p8,p9⟩ ih
 have g1:=p1.pa
 have g2:=p1.pb
 have g3:=p1.qc
 have g4:=p1.qd
 by_cases hc0:q+c=0
 ·(repeat' (first|(refine AG (fun hc => ?_) (fun hc => ?_)<;>first|(exfalso;omega)|(conv=>whnf))|(refine A0 ?_ ?_;omega;conv=>whnf)|(refine AE ?_;conv=>whnf)))
  refine ⟨.tup [.int .i64 a,.int .i64 b,.int .i64 c,.int .i64 d],?_,a,b,c,d,⟨p1.sg,by omega⟩,p9,rfl⟩
  (conv=>whnf)
  exact AY rfl (by simp [A9,CY])
 by_cases hd0:q+d=0
 ·(repeat' (first|(refine AG (fun hc => ?_) (fun hc => ?_)<;>first|(exfalso;omega)|(conv=>whnf))|(refine A0 ?_ ?_;omega;conv=>whnf)|(refine AE ?_;conv=>whnf)))
  refine ⟨.tup [.int .i64 a,.int .i64 b,.int .i64 c,.int .i64 d],?_,a,b,c,d,⟨p1.sg,by omega⟩,p9,rfl⟩
  (conv=>whnf)
  exact AY rfl (by simp [A9,CY])
 by_cases hff:(p+a)/(q+c)=(p+b)/(q+d)
 ·obtain ⟨s1,s2,s3,s4⟩:=p1.step hc0 hd0 rfl hff
  have s5:=s4 p8
  have s6:=s5.half
  have s7:=s1.qc
  by_cases hfl:2147483647<(p+a)/(q+c)
  ·(repeat' (first|(refine AG (fun hc => ?_) (fun hc => ?_)<;>first|(exfalso;omega)|(conv=>whnf))|(refine A0 ?_ ?_;omega;conv=>whnf)|(refine P0 ?_ ?_ (fun _ => ?_) (fun _ _ => ?_);omega;omega;all_goals first|(exfalso;omega)|(conv=>whnf))|(refine AE ?_;conv=>whnf)))
   refine ⟨.tup [.int .i64 a,.int .i64 b,.int .i64 c,.int .i64 d],?_,a,b,c,d,⟨p1.sg,by omega⟩,p9,rfl⟩
   (conv=>whnf)
   exact AY rfl (by simp [A9,CY])
  ·have t1:=mQ (x:=(p+a)/(q+c)) (y:=c) (M:=2147483647) (N:=2147483647) (by omega) (by omega)
   have t2:=mQ (x:=(p+a)/(q+c)) (y:=d) (M:=2147483647) (N:=2147483647) (by omega) (by omega)
   (repeat' (first|(refine AG (fun hc => ?_) (fun hc => ?_)<;>first|(exfalso;omega)|(conv=>whnf))|(refine A0 ?_ ?_;omega;conv=>whnf)|(refine CF ?_ ?_;omega;conv=>whnf)|(refine MI ?_ ?_;omega;conv=>whnf)|(refine P0 ?_ ?_ (fun _ => ?_) (fun _ _ => ?_);omega;omega;all_goals first|(exfalso;omega)|(conv=>whnf))|(refine B0.neg ?_ ?_;omega;conv=>whnf)|(refine AE ?_;conv=>whnf)))
   all_goals first
    | exact A4 [] (by (conv=>whnf);exact ⟨rfl,rfl,rfl⟩) (ih _ _ _ _ _ _ (by omega) ⟨s1,by omega,by omega,s6,fun _=>s5⟩)
    |(refine ⟨.tup [.int .i64 a,.int .i64 b,.int .i64 c,.int .i64 d],?_,a,b,c,d,⟨p1.sg,by omega⟩,p9,rfl⟩
      (conv=>whnf)
      exact AY rfl (by simp [A9,CY]))
 ·(repeat' (first|(refine AG (fun hc => ?_) (fun hc => ?_)<;>first|(exfalso;omega)|(conv=>whnf))|(refine A0 ?_ ?_;omega;conv=>whnf)|(refine P0 ?_ ?_ (fun _ => ?_) (fun _ _ => ?_);omega;omega;all_goals first|(exfalso;omega)|(conv=>whnf))|(refine AE ?_;conv=>whnf)))
  refine ⟨.tup [.int .i64 a,.int .i64 b,.int .i64 c,.int .i64 d],?_,a,b,c,d,⟨p1.sg,by omega⟩,p9,rfl⟩
  (conv=>whnf)
  exact AY rfl (by simp [A9,CY])
theorem Aba (N:NatGLib L) (x y:List Nat) (q1 q2:Bool) (f g:Int) (hX:A5 x) (hY:A5 y) (hl:y.length<=x.length) (lx:x.length<=549755813888) (hs:O1 f g) (R:Nat) (hR:(R:Int)=f*val x+g*val y) (hR2:R<=val x) :
  Ev L 80 [.sl q1 (x.map AM),.sl q2 (y.map AM),.int .i64 f,.int .i64 g] (.sl false ((dg R).map AM)):=by
 refine Ev.x N.JW rfl rfl ?_
 (repeat' (first|(refine AW ?_;conv=>whnf)|(refine AE ?_;conv=>whnf)))
 refine EB (enc:=AM) 0 x.length rfl rfl (by omega) ?_
 (conv=>whnf)
 (repeat' (refine AW ?_;conv=>whnf))
 refine F9 (fun i _ _=>x.length-i) (fun (i:Nat) (o:List Nat) (c:Int)=>i<=x.length/\o.length=x.length/\A5 o /\ -2147483648<=c/\c<=2147483648/\(val (o.take i):Int)+((4294967296^i:Nat):Int)*c=f*val (x.take i)+g*val (y.take i)) (fun i o c=>[(10,.int .i64 c),(19,.int .i64 i)]) (fun i o c=>[(16,16,.rw 1 (o.map AM))]) [] [] 0 (List.replicate x.length 0) 0 (by (conv=>whnf);exact ⟨rfl,rfl,rfl⟩) ⟨by omega,by simp,IQ _,by omega,by omega,by simp [val]⟩ ?_
 intro i o c ⟨p1,p2,p3,p4,p5,p6⟩ ih
 by_cases hi:i<x.length
 ·obtain ⟨d,hd⟩ : ∃ d,x[i]? = some d:=⟨_,zE hi⟩
  have hdb:=hX.at hd
  have h1:=DW hd
  by_cases hy:i<y.length
  ·obtain ⟨e,he⟩ : ∃ e,y[i]? = some e:=⟨_,zE hy⟩
   have heb:=hY.at he
   have h2:=DW he
   obtain ⟨r1,r2,r3⟩:=hs.rng hdb heb
   have hst:=gR (d:=d) (e:=e) p6 rfl
   (repeat' (first|(refine AG (fun hc => ?_) (fun hc => ?_)<;>first|(exfalso;omega)|(conv=>whnf))|(refine A0 ?_ ?_;omega;conv=>whnf)|(refine MI ?_ ?_;omega;conv=>whnf)|(refine PW ?_ ?_;omega;conv=>whnf)|(refine AW ?_;conv=>whnf)|(refine BL (by assumption) ?_ rfl ?_;omega;conv=>whnf)|(refine AE ?_;conv=>whnf)))
   generalize htt:f * ↑d+c+g * ↑e=t at *
   refine eF ?_
   (conv=>whnf)
   (repeat' (first|(refine A3 ?_ ?_;omega;conv=>whnf)|fail))
   refine E3 (by omega) ?_
   (conv=>whnf)
   refine eR ?_
   (conv=>whnf)
   (repeat' (refine A0 ?_ ?_;omega;conv=>whnf))
   refine A4 [] (by (conv=>whnf);exact ⟨rfl,rfl,rfl⟩) (ih (i+1) _ _ (by omega) ⟨by omega,by simpa using p2,p3.set _ (gQ t),by omega,by omega,?_⟩)
   rw[FO (by omega),h1,h2,Nat.pow_succ]
   simp only[Int.natCast_add,Int.natCast_mul,Y6]
   exact hst
  ·have h2:=YA (y:=y) (i:=i) (by omega)
   obtain ⟨r1,r2,r3⟩:=hs.rng (e:=0) hdb (by omega)
   have hst:=gR (d:=d) (e:=0) p6 rfl
   rw[Int.mul_zero,Int.add_zero]at hst
   have r4 : -9223372030412324865<=f*(d:Int)/\f*(d:Int)<=9223372030412324865:=r1
   (repeat' (first|(refine AG (fun hc => ?_) (fun hc => ?_)<;>first|(exfalso;omega)|(conv=>whnf))|(refine A0 ?_ ?_;omega;conv=>whnf)|(refine MI ?_ ?_;omega;conv=>whnf)|(refine PW ?_ ?_;omega;conv=>whnf)|(refine AW ?_;conv=>whnf)|(refine BL (by assumption) ?_ rfl ?_;omega;conv=>whnf)|(refine AE ?_;conv=>whnf)))
   generalize htt:f * ↑d+c=t at *
   refine eF ?_
   (conv=>whnf)
   (repeat' (first|(refine A3 ?_ ?_;omega;conv=>whnf)|fail))
   refine E3 (by omega) ?_
   (conv=>whnf)
   refine eR ?_
   (conv=>whnf)
   (repeat' (refine A0 ?_ ?_;omega;conv=>whnf))
   refine A4 [] (by (conv=>whnf);exact ⟨rfl,rfl,rfl⟩) (ih (i+1) _ _ (by omega) ⟨by omega,by simpa using p2,p3.set _ (gQ t),by omega,by omega,?_⟩)
   rw[FO (by omega),h1,h2,Nat.pow_succ]
   simp only[Int.natCast_add,Int.natCast_mul,Y6]
   rw[Int.mul_zero,Int.add_zero]at hst
   exact hst
 ·obtain rfl:i=x.length:=by omega
  clear ih
  rw[C7 (by omega),C7 (Nat.le_refl _),C7 (by omega)]at p6
  have hov:=EV p3
  have hxv:=EV hX
  rw[p2]at hov
  have hVR:val o=R:=by
   have:=xT hov p6 (by omega) (by omega)
   omega
  have hl1:=EN p3
  rw[<-p2,<-hVR]
  (repeat' (first|(refine AG (fun hc => ?_) (fun hc => ?_)<;>first|(exfalso;omega)|(conv=>whnf))|(refine AE ?_;conv=>whnf)|(refine VK N (by assumption) (by omega) rfl (by first|rfl|omega|assumption) ?_;conv=>whnf)))
  refine GP (enc:=AM) (fun _=>rfl) (by omega) ?_
  (conv=>whnf)
  refine AY ?_ (by simp only[A9,true_and];exact CU _)
  rw[List.drop_zero,U8 p3]
theorem Abd (N:NatGLib L) (X Y:Nat) (hXY:Y<=X) (hy:3<=(dg Y).length) (lx:(dg X).length<=549755813888) : ∃ r,Ev L 81 [.sl false ((dg X).map AM),.sl false ((dg Y).map AM)] r /\ ∃ A B:Nat,(B<Y/\B<=A/\A<=X/\Nat.gcd A B=Nat.gcd X Y)/\r = .tup [.sl false ((dg A).map AM),.sl false ((dg B).map AM)]:=by
 have hY0:Y≠0:=fun h=>by rw[h,ET]at hy;simp at hy
 have hX0:X≠0:=by omega
 have hlen:=PA hXY
 have hdv:=fun q q'=>Z1 N X Y q q' hY0 lx (by omega)
 have d1:=DT X
 have d2:=DT Y
 have v1:=BU X
 have v2:=BU Y
 obtain ⟨xt,hxt,hxt0⟩:=ZF hX0
 have hxtb:=d1.at hxt
 obtain ⟨b1,b2,b3,b4⟩:=bJ hxt0 hxtb
 have hlz:=jY N xt hxtb
 generalize hs:32-blen xt=s at *
 have hs31:s<=31:=by omega
 obtain ⟨n1,n2⟩:=bG d1 hxt (by omega) hs31 b3 b4
 have hcb:=fun (f g:Int) (R:Nat) (hs:O1 f g) (h1:(R:Int)=f*val (dg X)+g*val (dg Y)) (h2:R<=val (dg X)) (q q':Bool)=>Aba N (dg X) (dg Y) q q' f g d1 d2 (by omega) lx hs R h1 h2
 have n3:val (dg Y)*2^s<4294967296^(dg X).length:=Nat.lt_of_le_of_lt (Nat.mul_le_mul_right _ (by omega)) n1
 have hl1:=fun q=>kK N (dg X) q (dg X).length s d1 (by omega) (by omega) lx hs31 n1
 have hl2:=fun q=>kK N (dg Y) q (dg X).length s d2 (by omega) (by omega) lx hs31 n3
 have hK:=Ac4 (dg X).length s
 obtain ⟨e1,x1,x2,x3⟩:=mZ (V:=X) hK
 obtain ⟨e2,y1,y2,y3⟩:=mZ (V:=Y) hK
 rw[v1]at hl1
 rw[v2]at hl2
 have hq1:=mY d1 (n:=(dg X).length) (by omega) (by omega) hs31 n1
 have hq2:=mY d2 (n:=(dg X).length) (by omega) (by omega) hs31 n3
 rw[v1]at hq1
 rw[v2]at hq2
 generalize SA (dg X).length s=K at *
 generalize X/K=P at *
 generalize Y/K=Q at *
 rw[v1,v2]at hcb
 obtain ⟨rc,hrc,a,b,c,d,⟨z1,z2,z3,z4,z5⟩,z6,rfl⟩:=Aa9 N (P:Int) (Q:Int) (by omega) (by omega)
 have e1:(((dg X).length:Int)-1).toNat=(dg X).length-1:=by omega
 rw[<-e1]at hxt
 refine Ev.xE N.J0 rfl rfl ?_
 by_cases hb:b=0
 ·(repeat' (first|(refine AG (fun hc => ?_) (fun hc => ?_)<;>first|(exfalso;omega)|(conv=>whnf))|(refine CF ?_ ?_;omega;conv=>whnf)|(refine CR ?_ ?_;omega;conv=>whnf)|(refine AW ?_;conv=>whnf)|(refine BL (by assumption) ?_ rfl ?_;omega;conv=>whnf)|(refine AE ?_;conv=>whnf)|(refine AC (hlz) ?_;conv=>whnf)|(refine AC (hl1 _) ?_;conv=>whnf)|(refine AC (hl2 _) ?_;conv=>whnf)|(refine AC (hrc) ?_;conv=>whnf)|(refine AC (hdv _ _) ?_;conv=>whnf)))
  refine ⟨_,?_,Y,X%Y,⟨Nat.mod_lt _ (by omega),Nat.le_of_lt (Nat.mod_lt _ (by omega)),hXY,UD X Y⟩,rfl⟩
  (conv=>whnf)
  exact AY rfl (TK _ _)
 ·obtain ⟨g1,g2,g3,g4⟩:=z6 hb (X:Int) (Y:Int) (K:Int) _ _ (by omega) x1 y1 x2 x3 y2 y3
  obtain ⟨A,hA⟩:=Int.eq_ofNat_of_zero_le (show 0<=a*X+b*Y by omega)
  obtain ⟨B,hB⟩:=Int.eq_ofNat_of_zero_le g1
  have s1:O1 a b:=by rcases z1 with ⟨h1,h2,h3,h4⟩|⟨h1,h2,h3,h4⟩<;>unfold O1<;>omega
  have s2:O1 c d:=by rcases z1 with ⟨h1,h2,h3,h4⟩|⟨h1,h2,h3,h4⟩<;>unfold O1<;>omega
  (repeat' (first|(refine AG (fun hc => ?_) (fun hc => ?_)<;>first|(exfalso;omega)|(conv=>whnf))|(refine CF ?_ ?_;omega;conv=>whnf)|(refine CR ?_ ?_;omega;conv=>whnf)|(refine AW ?_;conv=>whnf)|(refine BL (by assumption) ?_ rfl ?_;omega;conv=>whnf)|(refine AE ?_;conv=>whnf)|(refine AC (hlz) ?_;conv=>whnf)|(refine AC (hl1 _) ?_;conv=>whnf)|(refine AC (hl2 _) ?_;conv=>whnf)|(refine AC (hrc) ?_;conv=>whnf)|(refine AC (hcb a b A s1 hA.symm (by omega) _ _) ?_;conv=>whnf)|(refine AC (hcb c d B s2 hB.symm (by omega) _ _) ?_;conv=>whnf)))
  rw[hA,hB]at g4
  rw[hA,hB]at g2
  refine ⟨_,?_,A,B,⟨by omega,by omega,by omega,by simpa using g4⟩,rfl⟩
  (conv=>whnf)
  exact AY rfl (TK _ _)
theorem lX (N:NatGLib L) (X Y:Nat) (hXY:Y<=X) (lx:(dg X).length<=549755813888) :
 AA L [It.lp FV.l1,It.blk 0,
   It.code
    ((((AL.ops FV.r6 false).dr [23,30,31] []).seq
       (AL.cond 32 (((AL.ops FV.r7 false).dr [5,6,32,33] []).seq AL.ret) AL.skip)).seq
     (((AL.ops FV.r8 false).dr [5,7,32,34,35,36,37,38,39] []).seq
      (((AL.ops FV.r9 false).dr [6,8,40,41,42,43] []).seq
       ((AL.block 2 FV.l2.loop).seq
        (((AL.ops FV.r12 false).dr [9,10,45,50,51,52,53,54,55,56] []).seq AL.ret)))))]
  [(6,AV.sl false (List.map AM (dg Y))),(5,AV.sl false (List.map AM (dg X)))] []
  (O5 FV (AV.sl false (List.map AM (dg (X.gcd Y))))):=by
 refine HG (fun _ y=>y) (fun (x y:Nat)=>y<=x/\(dg x).length<=549755813888/\Nat.gcd x y=Nat.gcd X Y) (fun x y=>[(6,AV.sl false (List.map AM (dg y))),(5,AV.sl false (List.map AM (dg x)))]) (fun _ _=>[]) [] [] X Y (by (conv=>whnf);exact ⟨rfl,rfl,rfl⟩) ⟨hXY,lx,rfl⟩ ?_
 intro x y ⟨p1,p2,p3⟩ ih
 rw[<-p3]at ih ⊢
 generalize Nat.gcd X Y=G at *
 clear hXY lx
 subst p3
 have hlen:=PA p1
 by_cases h3:3<=(dg y).length
 ·obtain ⟨r,hr,A,B,⟨k1,k2,k3,k4⟩,rfl⟩:=Abd N x y p1 h3 p2
  have k5:=PA k3
  (repeat' (first|(refine AG (fun hc => ?_) (fun hc => ?_)<;>first|(exfalso;omega)|(conv=>whnf))|(refine AW ?_;conv=>whnf)|(refine AE ?_;conv=>whnf)|(refine AC (hr) ?_;conv=>whnf)))
  exact A4 [] (by (conv=>whnf);exact ⟨rfl,rfl,rfl⟩) (ih A B k1 ⟨k2,by omega,k4⟩)
 ·clear ih
  by_cases h0:y=0
  ·subst h0
   have hl0:(dg 0).length=0:=by rw[ET];rfl
   (repeat' (first|(refine AG (fun hc => ?_) (fun hc => ?_)<;>first|(exfalso;omega)|(conv=>whnf))|(refine AW ?_;conv=>whnf)|(refine AE ?_;conv=>whnf)))
   rw[Nat.gcd_zero_right]
   exact AY rfl (by simp only[A9,true_and];exact CU _)
  ·have hp:=TQ h0
   have hm:=PA (Nat.le_of_lt (Nat.mod_lt x (show y>0 by omega)))
   have hd:=fun q q'=>Z1 N x y q q' h0 p2 (by omega)
   have hs1:=fun q=>kL N y q (by omega)
   have hs2:=fun q=>kL N (x%y) q (by omega)
   have hb:y<18446744073709551616:=NY.1 (show (dg y).length<=2 by omega)
   have hml:x%y<y:=Nat.mod_lt _ (by omega)
   rw[<-UD x y]
   (repeat' (first|(refine AG (fun hc => ?_) (fun hc => ?_)<;>first|(exfalso;omega)|(conv=>whnf))|(refine AW ?_;conv=>whnf)|(refine AE ?_;conv=>whnf)|(refine AC (hd _ _) ?_;conv=>whnf)|(refine AC (hs1 _) ?_;conv=>whnf)|(refine AC (hs2 _) ?_;conv=>whnf)))
   refine HG (fun _ q=>q) (fun (p q:Nat)=>p<18446744073709551616/\q<18446744073709551616/\Nat.gcd p q=Nat.gcd y (x%y)) (fun p q=>[(9,.int .u64 (p:Int)),(10,.int .u64 (q:Int))]) (fun _ _=>[]) [] [] y (x%y) (by (conv=>whnf);exact ⟨rfl,rfl,rfl⟩) ⟨hb,by omega,rfl⟩ ?_
   intro p q ⟨g1,g2,g3⟩ ih
   rw[<-g3]at ih ⊢
   by_cases hq:q=0
   ·subst hq
    clear ih
    obtain ⟨v1,v2⟩:=ZC g1
    rw[Nat.gcd_zero_right]
    have hl1:=EN v2
    have ht:=U8 v2
    rw[v1]at hl1 ht
    (repeat' (first|(refine AG (fun hc => ?_) (fun hc => ?_)<;>first|(exfalso;omega)|(conv=>whnf))|(refine E8 ?_;conv=>whnf)|(refine D8 ?_ ?_;omega;conv=>whnf)|(refine FH ?_;conv=>whnf)|(refine AE ?_;conv=>whnf)))
    generalize p%4294967296=lo at *
    generalize p/4294967296=hi at *
    refine VK N v2 (by simp) rfl rfl ?_
    rw[v1]
    (conv=>whnf)
    skip
    refine GP (enc:=AM) (l:=[lo,hi]) (fun _=>rfl) (by omega) ?_
    (conv=>whnf)
    refine AY ?_ (by simp only[A9,true_and];exact CU _)
    rw[List.drop_zero,ht]
   ·have hpq:p%q<q:=Nat.mod_lt _ (by omega)
    (repeat' (first|(refine AG (fun hc => ?_) (fun hc => ?_)<;>first|(exfalso;omega)|(conv=>whnf))|(refine TA ?_ ?_;omega;conv=>whnf)|(refine AE ?_;conv=>whnf)))
    exact A4 [] (by (conv=>whnf);exact ⟨rfl,rfl,rfl⟩) (ih q (p%q) hpq ⟨g2,by omega,UD p q⟩)
theorem Aa8 (N:NatGLib L) (a b:List Nat) (q1 q2:Bool) (hA:A5 a) (hB:A5 b) (la:a.length<=549755813888) (lb:b.length<=549755813888) :
  Ev L 82 [.sl q1 (a.map AM),.sl q2 (b.map AM)] (.sl false ((dg (Nat.gcd (val a) (val b))).map AM)):=by
 have t1:=fun q=>TW N a q hA (by omega)
 have t2:=fun q=>TW N b q hB (by omega)
 have l1:=EN hA
 have l2:=EN hB
 have hcmp:=fun q q'=>OJ N (dg (val a)) (dg (val b)) q q' (DT _) (DT _) (by omega) (by omega)
 rw[BU,BU]at hcmp
 generalize val a=X at *
 generalize val b=Y at *
 refine Ev.x N.FV rfl rfl ?_
 by_cases hlt:X<Y
 ·have hn:C6 X Y = -1:=(HX (by omega)).symm
  rw[hn]at hcmp
  (repeat' (first|(refine AG (fun hc => ?_) (fun hc => ?_)<;>first|(exfalso;omega)|(conv=>whnf))|(refine AE ?_;conv=>whnf)|(refine AC (t1 _) ?_;conv=>whnf)|(refine AC (t2 _) ?_;conv=>whnf)|(refine AC (hcmp _ _) ?_;conv=>whnf)))
  rw[Nat.gcd_comm]
  exact A4 [] (by (conv=>whnf);exact ⟨rfl,rfl,rfl⟩) (lX N Y X (by omega) (by omega))
 ·have hge:0<=C6 X Y:=by unfold C6;split<;>(try split)<;>omega
  generalize C6 X Y=cm at *
  (repeat' (first|(refine AG (fun hc => ?_) (fun hc => ?_)<;>first|(exfalso;omega)|(conv=>whnf))|(refine AE ?_;conv=>whnf)|(refine AC (t1 _) ?_;conv=>whnf)|(refine AC (t2 _) ?_;conv=>whnf)|(refine AC (hcmp _ _) ?_;conv=>whnf)))
  exact A4 [] (by (conv=>whnf);exact ⟨rfl,rfl,rfl⟩) (lX N X Y (by omega) (by omega))
end Go.Eng
namespace Go.Eng
def SM (N:Nat):List I4->Bool
 | []=>true
 | .tmp t::r=>Nat.blt t N&&SM N r
 | .cell t _ _::r=>Nat.blt t N&&SM N r
theorem cS {N:Nat} {s s':St} (ho:s.own=s'.own) (hlo : ∀ j,j<N->tget s'.tm j=tget s.tm j) : ∀ {res:List I4},SM N res=true->res.mapM (E0 s)=res.mapM (E0 s')
 | [],_=>rfl
 | .tmp t::r,h=>by
  simp only[SM,Bool.and_eq_true]at h
  have:=cS ho hlo h.2
  simp only[List.mapM_cons,E0,hlo t (P8.1 h.1),this]
 | .cell t agg n::r,h=>by
  simp only[SM,Bool.and_eq_true]at h
  have:=cS ho hlo h.2
  simp only[List.mapM_cons,E0,hlo t (P8.1 h.1),this,ho]
def uU (N:Nat) (fn:AFn) (tm:Tm) (K:AV->Mem->Prop) (tm':Tm) (M':Mem):Prop:=gh N tm'=tm/\XL tm' M' fn.res (fun rs=>rsv rs fun v=>K v M')
theorem E7 {L:Lib} {f:Nat} {fn:AFn} {vs:List AV} {tm:Tm} {M:Mem} {K:AV->Mem->Prop} (N:Nat) (hL:L f=some fn) (hp:Nat.beq vs.length fn.pars=true) (hN:(Nat.ble fn.pars N&&(HU N fn.body&&SM N fn.res))=true)
  (h:AA L [.code fn.body] (CZ 0 vs++F6 N tm) M (uU N fn tm K)):A7 L f vs tm M K:=by
 intro σ own hs
 simp only[Bool.and_eq_true]at hN
 obtain ⟨n1,n2,n3⟩:=hN
 have n1:=Nat.le_of_ble_eq_true n1
 have hp:vs.length=fn.pars:=Nat.eq_of_beq_eq_true hp
 have hrx:RX σ (CZ 0 vs++F6 N tm) M ⟨M6 (BJ σ) (CZ 0 vs++F6 N tm),own⟩:=⟨fun j=>Or.inr (by rw[L7];exact L8 (MY σ) j _),hs⟩
 obtain ⟨n,c,s',hr,σ',tm',M',hR,hg,hres⟩:=h σ _ hrx
 have hgh:Gh N (M6 (BJ σ) (F6 N tm)) (CZ 0 (vs.map (BJ σ))) (M6 (BJ σ) (CZ 0 vs++F6 N tm)):=by
  constructor
  ·intro j hj
   rw[aV,L8 (MY σ),L8 (MY σ)]
   rcases VE j (F6 N tm) (CZ 0 vs) with ⟨_,e⟩|⟨hn,e⟩
   ·rw[e]
   ·rw[e,dU hj,dS j 0 vs hn]
  ·intro j hj
   rw[L8 (MY σ),L8 (MY σ)]
   rcases VE j (F6 N tm) (CZ 0 vs) with ⟨hn,e⟩|⟨_,e⟩
   ·have:=aU j 0 vs hn
    omega
   ·rw[e]
 obtain ⟨s,r1,r2,r3⟩:=IC n (by simp [PF,n2]) hgh hr
 obtain ⟨rs,i1,i2,i3⟩:=cR hR hres
 rw[<-cS (s:=s) r2.symm r3.lo n3,i3]at i1
 have key : ∃ r,HP (rs.map (BW σ'))=BJ σ' r/\K r M':=by
  match rs,i2,i3 with
  | [],h,_=>exact ⟨.tup [],rfl,h⟩
  | [v],h,e =>
   simp only[List.map_cons,List.map_nil,List.cons.injEq,and_true]at e
   exact ⟨v,by simp only[List.map_cons,List.map_nil,HP];exact e.symm,h⟩
  | a::b::l,h,_=>exact ⟨.tup (a::b::l),rfl,h⟩
 obtain ⟨r,k1,k2⟩:=key
 refine ⟨r,s.own,σ',M',GC.intro hL (by simpa using hp) ⟨n,c,s,r1,?_,rfl⟩,?_,?_,k2⟩
 ·rw[i1,Option.map_some,k1]
 ·rw[<-r2];exact hR.sat
 ·intro j
  have e1:tg tm j=tg tm' (N+j):=by rw[L7,L7,<-hg,dR]
  rcases hR.tm (N+j) with e|e
  ·rw[e1,e];rfl
  ·rw[e1,<-e,r3.hi (N+j) (by omega),L8 (MY σ),dT,<-L7,e1]
end Go.Eng

namespace Go.Eng
open F
attribute [local irreducible] AA AF AR AD B0 AU AX A8 A6 BN AP BK BV CN BI AZ BG BQ AB A7 AJ pw BH BF B9 B8 CI B7 CB BM B3
set_option maxHeartbeats 4000000
variable {L:Lib}
theorem uB {k:Nat} {K:Int->Prop} (h:0<k/\k<=9223372036854775808) (hk:K ((18446744073709551616-k:Nat):Int)):AU .u64 (-(k:Int)) K:=by
 unfold AU
 have e:IntKind.u64.wrap (-(k:Int))=((18446744073709551616-k:Nat):Int):=by
  simp [IntKind.wrap,IntKind.bits,IntKind.signed];omega
 rw[e];exact hk
theorem B0.neg64 {k:Nat} {K:AV->Prop} (h:0<k/\k<=9223372036854775808) (hk:K (.int .u64 (k:Int))):B0 .neg .u64 ((18446744073709551616-k:Nat):Int) K:=by
 refine B0.go (v := .int .u64 (IntKind.u64.wrap (0-((18446744073709551616-k:Nat):Int)))) rfl ?_
 have e:IntKind.u64.wrap (0-((18446744073709551616-k:Nat):Int))=(k:Int):=by
  simp [IntKind.wrap,IntKind.bits,IntKind.signed];omega
 rw[e];exact hk
theorem ZY (N:RatGLib L) (z:Int) (hz : -9223372036854775808<=z/\z<=9223372036854775807):Ev L 85 [.int .i64 z] (.agg (eZ z)):=by
 have two : ∀ k:Nat,k<18446744073709551616 -> ∀ q,Ev L 66 [.sl q [[.int .u32 ((k%4294967296:Nat):Int)],[.int .u32 ((k/4294967296:Nat):Int)]]] (.sl false ((dg k).map AM)):=fun k hk q=>by
  have:=TW N.toNatGLib [k%4294967296,k/4294967296] q (ZC hk).2 (by simp)
  rw[sF hk]at this
  exact this
 refine Ev.x N.JJ rfl rfl ?_
 by_cases h0:0<=z
 ·obtain ⟨k,rfl⟩:=Int.eq_ofNat_of_zero_le h0
  have hT:=two k (by omega)
  have z1:=HY k
  (repeat' (first|(refine AG (fun hc => ?_) (fun hc => ?_)<;>first|(exfalso;omega)|(conv=>whnf))|(refine E8 ?_;conv=>whnf)|(refine CR ?_ ?_;omega;conv=>whnf)|(refine D8 ?_ ?_;omega;conv=>whnf)|(refine FH ?_;conv=>whnf)|(refine TD rfl rfl ?_;conv=>whnf)|(refine AE ?_;conv=>whnf)))
  generalize k%4294967296=lo at *
  generalize k/4294967296=hi at *
  (repeat' (refine AC (hT _) ?_;conv=>whnf))
  refine E7 1000 N.C8 rfl rfl ?_
  (repeat' (refine AE ?_;conv=>whnf))
  all_goals (refine ⟨rfl,?_⟩;(conv=>whnf);skip)
  exact AY (EL (by omega) (F5 (by omega))) (DJ _)
 ·obtain ⟨k,hk⟩:=Int.eq_ofNat_of_zero_le (show 0 <= -z by omega)
  obtain rfl:z = -(k:Int):=by omega
  have hT:=two k (by omega)
  have z1:=HY k
  (repeat' (refine AE ?_;conv=>whnf))
  refine uB (by omega) ?_
  (conv=>whnf)
  (repeat' (refine AG (fun hc => ?_) (fun hc => ?_)<;>first|(exfalso;omega)|(conv=>whnf)))
  refine B0.neg64 (by omega) ?_
  (conv=>whnf)
  (repeat' (first|(refine AG (fun hc => ?_) (fun hc => ?_)<;>first|(exfalso;omega)|(conv=>whnf))|(refine E8 ?_;conv=>whnf)|(refine D8 ?_ ?_;omega;conv=>whnf)|(refine FH ?_;conv=>whnf)|(refine TD rfl rfl ?_;conv=>whnf)))
  generalize k%4294967296=lo at *
  generalize k/4294967296=hi at *
  (repeat' (refine AC (hT _) ?_;conv=>whnf))
  refine E7 1000 N.C8 rfl rfl ?_
  (repeat' (first|(refine AG (fun hc => ?_) (fun hc => ?_)<;>first|(exfalso;omega)|(conv=>whnf))|(refine AW ?_;conv=>whnf)|(refine AE ?_;conv=>whnf)))
  all_goals (refine ⟨rfl,?_⟩;(conv=>whnf);skip)
  exact AY (EL (by omega) (NI (by omega))) (DJ _)
theorem kH (N:RatGLib L) (n q:Bool) (m:List Nat) (hm:Sm 549755813888 m):Ev L 84 [.agg (rZ q n m)] (.agg (eZ (zv n m))):=by
 have hT:=fun q=>TW N.toNatGLib m q hm.1 (by have:=hm.2;omega)
 have hz:=HY (val m)
 have ha:=ER n m
 refine Ev.x N.JL rfl rfl ?_
 cases n
 ·rw[EG]at *
  (repeat' (first|(refine AE ?_;conv=>whnf)|(refine AC (hT _) ?_;conv=>whnf)))
  refine E7 1000 N.C8 rfl rfl ?_
  (repeat' (refine AE ?_;conv=>whnf))
  all_goals (refine ⟨rfl,?_⟩;(conv=>whnf);skip)
  exact AY (EL ha.symm (F5 (by omega))) (DJ _)
 ·rw[N5]at *
  (repeat' (first|(refine AE ?_;conv=>whnf)|(refine AC (hT _) ?_;conv=>whnf)))
  refine E7 1000 N.C8 rfl rfl ?_
  (repeat' (first|(refine AG (fun hc => ?_) (fun hc => ?_)<;>first|(exfalso;omega)|(conv=>whnf))|(refine AW ?_;conv=>whnf)|(refine AE ?_;conv=>whnf)))
  all_goals (refine ⟨rfl,?_⟩;(conv=>whnf);skip)
  ·exact AY (EL ha.symm (NI (by omega))) (DJ _)
  ·exact AY (EL ha.symm (F5 (by omega))) (DJ _)
theorem TY (N:RatGLib L) (n q:Bool) (m:List Nat) (hm:Sm 549755813888 m):Ev L 86 [.agg (rZ q n m)] (.int .i64 (sgn (zv n m))):=by
 have hcmp:=fun q q'=>OJ N.toNatGLib m [] q q' hm.1 RV (by have:=hm.2;omega) (by simp)
 rw[IJ]at hcmp
 refine Ev.x N.JK rfl rfl ?_
 by_cases h0:val m=0
 ·have hn:C6 (val m) (0:Nat)=0:=(QB (by omega)).symm
  rw[hn]at hcmp
  (repeat' (first|(refine AG (fun hc => ?_) (fun hc => ?_)<;>first|(exfalso;omega)|(conv=>whnf))|(refine AE ?_;conv=>whnf)|(refine AC (hcmp _ _) ?_;conv=>whnf)))
  exact C4 (U3 (by have:=ER n m;omega))
 ·have hn:C6 (val m) (0:Nat)=1:=(NV (by omega)).symm
  rw[hn]at hcmp
  cases n
  ·(repeat' (first|(refine AG (fun hc => ?_) (fun hc => ?_)<;>first|(exfalso;omega)|(conv=>whnf))|(refine AE ?_;conv=>whnf)|(refine AC (hcmp _ _) ?_;conv=>whnf)))
   exact C4 (dA (by rw[EG];omega))
  ·(repeat' (first|(refine AG (fun hc => ?_) (fun hc => ?_)<;>first|(exfalso;omega)|(conv=>whnf))|(refine AE ?_;conv=>whnf)|(refine AC (hcmp _ _) ?_;conv=>whnf)))
   exact C4 (cZ (by rw[N5];omega))
theorem kF (N:RatGLib L) (n1 n2 q1 q2:Bool) (a b:List Nat) (ha:Sm 549755813888 a) (hb:Sm 549755813888 b):Ev L 87 [.agg (rZ q1 n1 a),.agg (rZ q2 n2 b)] (.agg (eZ (zv n1 a+zv n2 b))):=by
 have la:=ha.2
 have lb:=hb.2
 have h1:=fun q q'=>Aa7 N.toNatGLib a b q q' ha.1 hb.1 (by omega) (by omega)
 have h2:=fun q q'=>kJ N.toNatGLib a b q q' ha.1 hb.1 (by omega) (by omega)
 have h3:=fun q q'=>kJ N.toNatGLib b a q q' hb.1 ha.1 (by omega) (by omega)
 have hcmp:=fun q q'=>OJ N.toNatGLib a b q q' ha.1 hb.1 (by omega) (by omega)
 have z1:=HY (val a+val b)
 have z2:=HY (val a-val b)
 have z3:=HY (val b-val a)
 refine Ev.x N.JG rfl rfl ?_
 by_cases hlt:val a<val b
 ·have hn:C6 (val a) (val b) = -1:=(HX (by omega)).symm
  rw[hn]at hcmp
  cases n1<;>cases n2<;>simp only[EG,N5]
  ·(repeat' (first|(refine AE ?_;conv=>whnf)|(refine AC (h1 _ _) ?_;conv=>whnf)))
   refine E7 1000 N.C8 rfl rfl ?_
   (repeat' (refine AE ?_;conv=>whnf))
   all_goals (refine ⟨rfl,?_⟩;(conv=>whnf);skip)
   exact AY (EL (by omega) (F5 (by omega))) (DJ _)
  ·(repeat' (first|(refine AG (fun hc => ?_) (fun hc => ?_)<;>first|(exfalso;omega)|(conv=>whnf))|(refine AE ?_;conv=>whnf)|(refine AC (h3 _ _) ?_;conv=>whnf)|(refine AC (hcmp _ _) ?_;conv=>whnf)))
   refine E7 1000 N.C8 rfl rfl ?_
   (repeat' (first|(refine AG (fun hc => ?_) (fun hc => ?_)<;>first|(exfalso;omega)|(conv=>whnf))|(refine AW ?_;conv=>whnf)|(refine AE ?_;conv=>whnf)))
   all_goals (refine ⟨rfl,?_⟩;(conv=>whnf);skip)
   ·exact AY (EL (by omega) (NI (by omega))) (DJ _)
  ·(repeat' (first|(refine AG (fun hc => ?_) (fun hc => ?_)<;>first|(exfalso;omega)|(conv=>whnf))|(refine AE ?_;conv=>whnf)|(refine AC (h3 _ _) ?_;conv=>whnf)|(refine AC (hcmp _ _) ?_;conv=>whnf)))
   refine E7 1000 N.C8 rfl rfl ?_
   (repeat' (refine AE ?_;conv=>whnf))
   all_goals (refine ⟨rfl,?_⟩;(conv=>whnf);skip)
   ·exact AY (EL (by omega) (F5 (by omega))) (DJ _)
  ·(repeat' (first|(refine AE ?_;conv=>whnf)|(refine AC (h1 _ _) ?_;conv=>whnf)))
   refine E7 1000 N.C8 rfl rfl ?_
   (repeat' (first|(refine AG (fun hc => ?_) (fun hc => ?_)<;>first|(exfalso;omega)|(conv=>whnf))|(refine AW ?_;conv=>whnf)|(refine AE ?_;conv=>whnf)))
   all_goals (refine ⟨rfl,?_⟩;(conv=>whnf);skip)
   ·exact AY (EL (by omega) (NI (by omega))) (DJ _)
 ·have hn:C6 (val a) (val b) ≠ -1:=by unfold C6;split<;>(try split)<;>omega
  generalize C6 (val a) (val b)=cm at *
  cases n1<;>cases n2<;>simp only[EG,N5]
  ·(repeat' (first|(refine AE ?_;conv=>whnf)|(refine AC (h1 _ _) ?_;conv=>whnf)))
   refine E7 1000 N.C8 rfl rfl ?_
   (repeat' (refine AE ?_;conv=>whnf))
   all_goals (refine ⟨rfl,?_⟩;(conv=>whnf);skip)
   exact AY (EL (by omega) (F5 (by omega))) (DJ _)
  ·(repeat' (first|(refine AG (fun hc => ?_) (fun hc => ?_)<;>first|(exfalso;omega)|(conv=>whnf))|(refine AE ?_;conv=>whnf)|(refine AC (h2 _ _) ?_;conv=>whnf)|(refine AC (hcmp _ _) ?_;conv=>whnf)))
   refine E7 1000 N.C8 rfl rfl ?_
   (repeat' (refine AE ?_;conv=>whnf))
   all_goals (refine ⟨rfl,?_⟩;(conv=>whnf);skip)
   exact AY (EL (by omega) (F5 (by omega))) (DJ _)
  ·(repeat' (first|(refine AG (fun hc => ?_) (fun hc => ?_)<;>first|(exfalso;omega)|(conv=>whnf))|(refine AE ?_;conv=>whnf)|(refine AC (h2 _ _) ?_;conv=>whnf)|(refine AC (hcmp _ _) ?_;conv=>whnf)))
   refine E7 1000 N.C8 rfl rfl ?_
   (repeat' (first|(refine AG (fun hc => ?_) (fun hc => ?_)<;>first|(exfalso;omega)|(conv=>whnf))|(refine AW ?_;conv=>whnf)|(refine AE ?_;conv=>whnf)))
   all_goals (refine ⟨rfl,?_⟩;(conv=>whnf);skip)
   ·exact AY (EL (by omega) (NI (by omega))) (DJ _)
   ·exact AY (EL (by omega) (F5 (by omega))) (DJ _)
  ·(repeat' (first|(refine AE ?_;conv=>whnf)|(refine AC (h1 _ _) ?_;conv=>whnf)))
   refine E7 1000 N.C8 rfl rfl ?_
   (repeat' (first|(refine AG (fun hc => ?_) (fun hc => ?_)<;>first|(exfalso;omega)|(conv=>whnf))|(refine AW ?_;conv=>whnf)|(refine AE ?_;conv=>whnf)))
   all_goals (refine ⟨rfl,?_⟩;(conv=>whnf);skip)
   ·exact AY (EL (by omega) (NI (by omega))) (DJ _)
   ·exact AY (EL (by omega) (F5 (by omega))) (DJ _)
theorem QK (N:RatGLib L) (n1 n2 q1 q2:Bool) (a b:List Nat) (ha:A5 a) (hb:A5 b) (hl:a.length+b.length<=1099511627776):Ev L 88 [.agg (rZ q1 n1 a),.agg (rZ q2 n2 b)] (.agg (eZ (zv n1 a*zv n2 b))):=by
 have h1:=fun q q'=>Z0 N.toNatGLib a b q q' ha hb hl
 have z1:=HY (val a*val b)
 have habs:(zv n1 a*zv n2 b).natAbs=val a*val b:=by rw[Int.natAbs_mul,ER,ER]
 refine Ev.x N.JI rfl rfl ?_
 have e:zv n1 a*zv n2 b=bif n1 == n2 then ((val a*val b:Nat):Int) else -((val a*val b:Nat):Int):=by
  cases n1<;>cases n2<;>simp [EG,N5,Int.mul_neg,Int.neg_mul]
 rw[e]at habs ⊢
 generalize val a*val b=V at *
 cases n1<;>cases n2<;>simp only[beq_self_eq_true,cond_true,show (false == true)=false from rfl,show (true == false)=false from rfl,cond_false]
 ·(repeat' (first|(refine AE ?_;conv=>whnf)|(refine AC (h1 _ _) ?_;conv=>whnf)))
  refine E7 1000 N.C8 rfl rfl ?_
  (repeat' (refine AE ?_;conv=>whnf))
  all_goals (refine ⟨rfl,?_⟩;(conv=>whnf);skip)
  exact AY (EL (by omega) (F5 (by omega))) (DJ _)
 ·(repeat' (first|(refine AE ?_;conv=>whnf)|(refine AC (h1 _ _) ?_;conv=>whnf)))
  refine E7 1000 N.C8 rfl rfl ?_
  (repeat' (first|(refine AG (fun hc => ?_) (fun hc => ?_)<;>first|(exfalso;omega)|(conv=>whnf))|(refine AW ?_;conv=>whnf)|(refine AE ?_;conv=>whnf)))
  all_goals (refine ⟨rfl,?_⟩;(conv=>whnf);skip)
  ·exact AY (EL (by omega) (NI (by omega))) (DJ _)
  ·exact AY (EL (by omega) (F5 (by omega))) (DJ _)
 ·(repeat' (first|(refine AE ?_;conv=>whnf)|(refine AC (h1 _ _) ?_;conv=>whnf)))
  refine E7 1000 N.C8 rfl rfl ?_
  (repeat' (first|(refine AG (fun hc => ?_) (fun hc => ?_)<;>first|(exfalso;omega)|(conv=>whnf))|(refine AW ?_;conv=>whnf)|(refine AE ?_;conv=>whnf)))
  all_goals (refine ⟨rfl,?_⟩;(conv=>whnf);skip)
  ·exact AY (EL (by omega) (NI (by omega))) (DJ _)
  ·exact AY (EL (by omega) (F5 (by omega))) (DJ _)
 ·(repeat' (first|(refine AE ?_;conv=>whnf)|(refine AC (h1 _ _) ?_;conv=>whnf)))
  refine E7 1000 N.C8 rfl rfl ?_
  (repeat' (refine AE ?_;conv=>whnf))
  all_goals (refine ⟨rfl,?_⟩;(conv=>whnf);skip)
  exact AY (EL (by omega) (F5 (by omega))) (DJ _)
end Go.Eng

namespace Go.Eng
open F
attribute [local irreducible] AA AF AR AD B0 AU AX A8 A6 BN AP BK BV CN BI AZ BG BQ AB A7 AJ pw BH BF B9 B8 CI B7 CB BM B3
set_option maxHeartbeats 4000000
variable {L:Lib}
theorem ZE:dg 1=[1]:=by rw[IP (by omega)];simp [ET]
theorem Aa4 (N:RatGLib L) (V:Nat) (q:Bool):Ev L 90 [.sl q ((dg V).map AM)] (.bool (decide (V=1))):=by
 have hv:=BU V
 have hD:=DT V
 have h1:V=1->dg V=[1]:=fun h=>by rw[h,ZE]
 generalize dg V=l at *
 refine Ev.x N.KS rfl rfl ?_
 by_cases hl:l.length=1
 ·obtain ⟨d,rfl⟩:=List.length_eq_one_iff.1 hl
  have e:V=d:=by rw[<-hv];simp [val]
  subst e
  have hd:[V][(0:Int).toNat]? = some V:=rfl
  (repeat' (first|(refine AG (fun hc => ?_) (fun hc => ?_)<;>first|(exfalso;omega)|(conv=>whnf))|(refine AW ?_;conv=>whnf)|(refine BL (by assumption) ?_ rfl ?_;omega;conv=>whnf)|(refine AE ?_;conv=>whnf)))
  ·exact YH (by omega)
  ·exact RG (by omega)
 ·(repeat' (first|(refine AG (fun hc => ?_) (fun hc => ?_)<;>first|(exfalso;omega)|(conv=>whnf))|(refine AW ?_;conv=>whnf)|(refine AE ?_;conv=>whnf)))
  exact RG (fun h=>by rw[h1 h]at hl;simp at hl)
theorem RZ (N:RatGLib L) (n q1 q2:Bool) (m d:List Nat) (hm:Sm 549755813888 m) (hd:Sm 549755813888 d) (h0:val d≠0):Ev L 94 [.agg (rQ q1 q2 n m d)] (.agg (eQ (qv n m d))):=by
 have hDM:=fun q q'=>ZZ N.toNatGLib m d q q' hm.1 hd.1 hm.2 hd.2 h0
 have hza:=ER n m
 have sq:Sm 549755813888 (dg (val m/val d)):=hm.low (Nat.div_le_self _ _)
 have sr:Sm 549755813888 (dg (val m%val d)):=hd.low (Nat.le_of_lt (Nat.mod_lt _ (by omega)))
 have hT:=fun q=>kH N n q _ sq
 have hG:=fun q q'=>Aa8 N.toNatGLib d (dg (val m%val d)) q q' hd.1 sr.1 hd.2 sr.2
 rw[BU,show Nat.gcd (val d) (val m%val d)=Nat.gcd (val d) (zv n m).natAbs by rw[hza,UD,Nat.gcd_comm]]at hG
 have hgp:=lY (zv n m).natAbs h0
 have hgd:=Nat.gcd_le_left (zv n m).natAbs (show 0<val d by omega)
 have hz:=HY (val m%val d)
 obtain ⟨e1,e2,e3⟩:=bS (z:=zv n m) h0
 unfold qv
 generalize hGG:Nat.gcd (val d) (zv n m).natAbs=g at *
 have h1:=fun q=>Aa4 N g q
 refine Ev.x N.KU rfl rfl ?_
 by_cases hr0:val m%val d=0
 ·(repeat' (first|(refine AG (fun hc => ?_) (fun hc => ?_)<;>first|(exfalso;omega)|(conv=>whnf))|(refine AW ?_;conv=>whnf)|(refine AE ?_;conv=>whnf)|(refine AC (hDM _ _) ?_;conv=>whnf)|(refine AC (hT _) ?_;conv=>whnf)))
  refine E7 1000 N.GI rfl rfl ?_
  (repeat' (refine AE ?_;conv=>whnf))
  refine ⟨rfl,?_⟩
  (conv=>whnf)
  (repeat' (refine IM rfl ?_;conv=>whnf))
  have hge:g=val d:=by
   rw[<-hGG,hza]
   exact Nat.gcd_eq_left (Nat.dvd_of_mod_eq_zero hr0)
  have hv:=BU (val m/val d)
  refine AY ?_ ?_
  ·show _=AV.agg (rQ _ _ _ _ _)
   rw[e1,e2,e3,hza,hge,Nat.div_self (by omega),ER,hv,ZE]
   have hs:decide (zv n (dg (val m/val d))<0)=decide (zv n m<0):=by
    cases n
    ·rw[EG,EG];simp;omega
    ·rw[N5,N5,hv]
     congr 1
     rw[eq_iff_iff]
     have h5:=Nat.div_add_mod (val m) (val d)
     rw[hr0,Nat.add_zero]at h5
     constructor
     ·intro h6
      have h7:val m/val d≠0:=by omega
      have:val m≠0:=fun h8=>h7 (by rw[h8,Nat.zero_div])
      omega
     ·intro h6
      have h7:val m/val d≠0:=fun h8=>by rw[h8,Nat.mul_zero]at h5;omega
      omega
   rw[hs]
   rfl
  ·exact DS _
 ·by_cases hg1:g=1
  ·have hT1:=fun q=>kH N n q m hm
   have hT2:=fun q=>TW N.toNatGLib d q hd.1 (by have:=hd.2;omega)
   (repeat' (first|(refine AG (fun hc => ?_) (fun hc => ?_)<;>first|(exfalso;omega)|(conv=>whnf))|(refine AW ?_;conv=>whnf)|(refine AE ?_;conv=>whnf)|(refine AC (hDM _ _) ?_;conv=>whnf)|(refine AC (hG _ _) ?_;conv=>whnf)|(refine eD (h1 _) (fun hf => ?_) (fun hf => ?_)<;>(conv=>whnf))|(refine AC (hT1 _) ?_;conv=>whnf)|(refine AC (hT2 _) ?_;conv=>whnf)))
   ·refine AY ?_ (WB _ _ _)
    show _=AV.agg (rQ _ _ _ _ _)
    rw[e1,e2,e3,hg1,Nat.div_one,Nat.div_one]
   ·exact absurd hg1 hf
  ·have sg:Sm 549755813888 (dg g):=hd.low hgd
   have hD1:=fun q q'=>ZZ N.toNatGLib m (dg g) q q' hm.1 sg.1 hm.2 sg.2 (by rw[BU];omega)
   have hD2:=fun q q'=>ZZ N.toNatGLib d (dg g) q q' hd.1 sg.1 hd.2 sg.2 (by rw[BU];omega)
   rw[BU]at hD1 hD2
   (repeat' (first|(refine AG (fun hc => ?_) (fun hc => ?_)<;>first|(exfalso;omega)|(conv=>whnf))|(refine AW ?_;conv=>whnf)|(refine AE ?_;conv=>whnf)|(refine AC (hDM _ _) ?_;conv=>whnf)|(refine AC (hG _ _) ?_;conv=>whnf)|(refine eD (h1 _) (fun hf => ?_) (fun hf => ?_)<;>(conv=>whnf))|(refine AC (hD1 _ _) ?_;conv=>whnf)|(refine AC (hD2 _ _) ?_;conv=>whnf)))
   ·exact absurd hf hg1
   ·refine AY ?_ (WB _ _ _)
    show _=AV.agg (rQ _ _ _ _ _)
    rw[e1,e2,e3,hza]
    have hs:n=decide (zv n m<0):=by
     have:val m≠0:=fun h=>hr0 (by rw[h,Nat.zero_mod])
     cases n
     ·exact F5 (by rw[EG];omega)
     ·exact NI (by rw[N5];omega)
    rw[<-hs]
theorem R3 (N:RatGLib L) (m:List Nat):Ev L 91 [.sl false (m.map AM)] (.agg [.bool false,.sl false (m.map AM)]):=by
 refine Ev.x N.KT rfl rfl ?_
 (repeat' (refine AE ?_;conv=>whnf))
 exact AY rfl (xN _ _)
def uS (n:Bool) (m d:List Nat) (n':Bool) (m' d':List Nat) (w:Bool) (k:Nat):Prop:=Sm k m'/\Sm k d'/\val d'≠0/\(w=true->val d'=1)/\qv n m d=mkRat (zv n' m') (val d')
theorem MN (N:RatGLib L) (n:Bool) (m d:List Nat) (k:Nat) (hk:1<=k/\k<=549755813888) (hm:Sm k m) (hd:Sm k d) : ∃ n' m' d' w,Ev L 89 [.agg (rQ false false n m d)] (.agg [.bool n',.sl false (m'.map AM),.sl false (d'.map AM),.bool w])/\uS n m d n' m' d' w k:=by
 have hcmp:=fun q q'=>OJ N.toNatGLib d [] q q' hd.1 RV (by have:=hd.2;omega) (by simp)
 rw[IJ]at hcmp
 by_cases h1:d=[1]
 ·subst h1
  refine ⟨n,m,[1],true,?_,hm,hd,by decide,fun _=>rfl,rfl⟩
  refine Ev.x N.HC rfl rfl ?_
  have hd:[1][(0:Int).toNat]? = some 1:=rfl
  have hll:([1]:List Nat).length=1:=rfl
  (repeat' (first|(refine AG (fun hc => ?_) (fun hc => ?_)<;>first|(exfalso;omega)|(conv=>whnf))|(refine AW ?_;conv=>whnf)|(refine BL (by assumption) ?_ rfl ?_;omega;conv=>whnf)|(refine AE ?_;conv=>whnf)))
  exact AY rfl (TJ _ _ _ _)
 have hne : ∀ x,d[(0:Int).toNat]? = some x->(d.length:Int)=1->(x:Int)≠1:=fun x hx hl h=>by
  obtain ⟨y,rfl⟩:=List.length_eq_one_iff.1 (show d.length=1 by omega)
  simp at hx
  apply h1
  congr 1
  omega
 by_cases h0:val d=0
 ·refine ⟨false,[],[1],true,?_,qL _,dC hk.1 (by omega),by decide,fun _=>rfl,by unfold qv;rw[h0,Rat.mkRat_zero,sL,Rat.zero_mkRat]⟩
  have hn:C6 (val d) (0:Nat)=0:=(QB (by omega)).symm
  rw[hn]at hcmp
  refine Ev.x N.HC rfl rfl ?_
  have hD:=hd.1
  (repeat' (first|(refine AG (fun hc => ?_) (fun hc => ?_)<;>first|(exfalso;omega)|(conv=>whnf))|(refine AW ?_;conv=>whnf)|(refine O4 (by assumption) ?_ (fun e he hb => ?_);omega;conv=>whnf)|(refine IM rfl ?_;conv=>whnf)|(refine AE ?_;conv=>whnf)|(refine AC (hcmp _ _) ?_;conv=>whnf)))
  all_goals first
   | exact AY rfl (TJ _ _ _ _)
   | exact AY rfl (TJ false true [] [1])
   | exact absurd (by assumption) (hne _ he (by assumption))
 ·refine ⟨n,m,d,false,?_,hm,hd,h0,(fun h=>by cases h),rfl⟩
  have hn:C6 (val d) (0:Nat)=1:=(NV (by omega)).symm
  rw[hn]at hcmp
  have hD:=hd.1
  refine Ev.x N.HC rfl rfl ?_
  (repeat' (first|(refine AG (fun hc => ?_) (fun hc => ?_)<;>first|(exfalso;omega)|(conv=>whnf))|(refine AW ?_;conv=>whnf)|(refine O4 (by assumption) ?_ (fun e he hb => ?_);omega;conv=>whnf)|(refine AE ?_;conv=>whnf)|(refine AC (hcmp _ _) ?_;conv=>whnf)))
  all_goals first
   | exact AY rfl (TJ _ _ _ _)
   | exact AY rfl (TJ false true [] [1])
   | exact absurd (by assumption) (hne _ he (by assumption))
theorem Z9 (N:RatGLib L) (n q1 q2:Bool) (m d:List Nat) (hm:Sm 549755813888 m) (hd:Sm 549755813888 d):Ev L 95 [.agg (rQ q1 q2 n m d)] (.agg (eQ (qv n m d))):=by
 obtain ⟨n',m',d',w,hr,s1,s2,s3,s4,s5⟩:=MN N n m d 549755813888 (by omega) hm hd
 have hl:=fun q1 q2=>RZ N n' q1 q2 m' d' s1 s2 s3
 rw[s5]
 unfold qv at hl
 refine Ev.x N.KQ rfl rfl ?_
 (repeat' (first|(refine GD ?_;conv=>whnf)|(refine AE ?_;conv=>whnf)|(refine AC (hr) ?_;conv=>whnf)|(refine AC (hl _ _) ?_;conv=>whnf)))
 exact AY rfl (DS _)
theorem AbD (N:RatGLib L) (n q1 q2:Bool) (m d:List Nat) (hm:Sm 549755813888 m) (hd:Sm 549755813888 d):Ev L 97 [.agg (rQ q1 q2 n m d)] (.int .i64 (sgn (qv n m d).num)):=by
 obtain ⟨n',m',d',w,hr,s1,s2,s3,s4,s5⟩:=MN N n m d 549755813888 (by omega) hm hd
 have hl:=fun q=>TY N n' q m' s1
 rw[s5,nU s3]
 refine Ev.x N.KO rfl rfl ?_
 (repeat' (first|(refine GD ?_;conv=>whnf)|(refine AE ?_;conv=>whnf)|(refine AC (hr) ?_;conv=>whnf)|(refine AC (hl _) ?_;conv=>whnf)))
 exact C4 rfl
theorem YT (z:Int):AV.agg [.bool (decide (z<0)),.sl false ((dg z.natAbs).map AM),.sl false [[.int .u32 1]]] = .agg (eQ (z:Rat)):=by
 show _=AV.agg (rQ _ _ _ _ _)
 rw[Rat.num_intCast,Rat.den_intCast,ZE];rfl
theorem JE (N:RatGLib L) (z:Int) (hz : -9223372036854775808<=z/\z<=9223372036854775807):Ev L 96 [.int .i64 z] (.agg (eQ (z:Rat))):=by
 have h1:=ZY N z hz
 refine Ev.x N.KN rfl rfl ?_
 (repeat' (first|(refine AE ?_;conv=>whnf)|(refine AC (h1) ?_;conv=>whnf)))
 refine E7 1000 N.GI rfl rfl ?_
 (repeat' (refine AE ?_;conv=>whnf))
 refine ⟨rfl,?_⟩
 (conv=>whnf)
 (repeat' (refine IM rfl ?_;conv=>whnf))
 exact AY (YT z) (DS _)
theorem Q6 {k l:Nat} {n1 n2:Bool} {a b:List Nat} (ha:Sm k a) (hb:Sm l b):Sm (k+l) (dg (zv n1 a*zv n2 b).natAbs):=ha.mul hb (by rw[Int.natAbs_mul,ER,ER])
theorem qN {k:Nat} {x y:Int} (ha:Sm k (dg x.natAbs)) (hb:Sm k (dg y.natAbs)):Sm (k+1) (dg (x+y).natAbs):=ha.add hb (by rw[BU,BU];omega)
theorem kX (N:RatGLib L) (k:Nat) (hk:1<=k/\k<=68719476736) (n1 n2 q1 q2 q3 q4:Bool) (m1 d1 m2 d2:List Nat) (hm1:Sm k m1) (hd1:Sm k d1) (hm2:Sm k m2) (hd2:Sm k d2) :
  Ev L 98 [.agg (rQ q1 q2 n1 m1 d1),.agg (rQ q3 q4 n2 m2 d2)] (.agg (eQ (qv n1 m1 d1+qv n2 m2 d2))):=by
 obtain ⟨a1,a2,a3,w1,hr1,s1,s2,s3,s4,s5⟩:=MN N n1 m1 d1 k (by omega) hm1 hd1
 obtain ⟨b1,b2,b3,w2,hr2,t1,t2,t3,t4,t5⟩:=MN N n2 m2 d2 k (by omega) hm2 hd2
 rw[s5,t5]
 have hA:=fun q q'=>kF N a1 b1 q q' a2 b2 (s1.le (by omega)) (t1.le (by omega))
 have hsum:Sm (k+1) (dg (zv a1 a2+zv b1 b2).natAbs):=qN (by rw[ER];exact s1.nrm) (by rw[ER];exact t1.nrm)
 by_cases hw:w1=true/\w2=true
 ·obtain ⟨rfl,rfl⟩:=hw
  rw[s4 rfl,t4 rfl,nR (by omega),nT]
  generalize zv a1 a2+zv b1 b2=z at *
  refine Ev.x N.HB rfl rfl ?_
  (repeat' (first|(refine GD ?_;conv=>whnf)|(refine AE ?_;conv=>whnf)|(refine AC (hr1) ?_;conv=>whnf)|(refine AC (hr2) ?_;conv=>whnf)|(refine AC (hA _ _) ?_;conv=>whnf)))
  refine E7 1000 N.GI rfl rfl ?_
  (repeat' (refine AE ?_;conv=>whnf))
  refine ⟨rfl,?_⟩
  (conv=>whnf)
  (repeat' (refine IM rfl ?_;conv=>whnf))
  exact AY (YT z) (DS _)
 ·have hcmp:=fun q q'=>OJ N.toNatGLib a3 b3 q q' s2.1 t2.1 (by have:=s2.2;omega) (by have:=t2.2;omega)
  by_cases hde:val a3=val b3
  ·have hn:C6 (val a3) (val b3)=0:=(QB (by omega)).symm
   rw[hn]at hcmp
   rw[<-hde,nR s3]
   generalize zv a1 a2+zv b1 b2=z at *
   have hl:=fun q1 q2=>RZ N (decide (z<0)) q1 q2 (dg z.natAbs) a3 (hsum.le (by omega)) (s2.le (by omega)) s3
   unfold qv at hl
   rw[EW]at hl
   refine Ev.x N.HB rfl rfl ?_
   cases w1<;>cases w2
   ·(repeat' (first|(refine AG (fun hc => ?_) (fun hc => ?_)<;>first|(exfalso;omega)|(conv=>whnf))|(refine GD ?_;conv=>whnf)|(refine AE ?_;conv=>whnf)|(refine AC (hr1) ?_;conv=>whnf)|(refine AC (hr2) ?_;conv=>whnf)|(refine AC (hA _ _) ?_;conv=>whnf)|(refine AC (hcmp _ _) ?_;conv=>whnf)|(refine AC (hl _ _) ?_;conv=>whnf)))
    exact AY rfl (DS _)
   ·(repeat' (first|(refine AG (fun hc => ?_) (fun hc => ?_)<;>first|(exfalso;omega)|(conv=>whnf))|(refine GD ?_;conv=>whnf)|(refine AE ?_;conv=>whnf)|(refine AC (hr1) ?_;conv=>whnf)|(refine AC (hr2) ?_;conv=>whnf)|(refine AC (hA _ _) ?_;conv=>whnf)|(refine AC (hcmp _ _) ?_;conv=>whnf)|(refine AC (hl _ _) ?_;conv=>whnf)))
    exact AY rfl (DS _)
   ·(repeat' (first|(refine AG (fun hc => ?_) (fun hc => ?_)<;>first|(exfalso;omega)|(conv=>whnf))|(refine GD ?_;conv=>whnf)|(refine AE ?_;conv=>whnf)|(refine AC (hr1) ?_;conv=>whnf)|(refine AC (hr2) ?_;conv=>whnf)|(refine AC (hA _ _) ?_;conv=>whnf)|(refine AC (hcmp _ _) ?_;conv=>whnf)|(refine AC (hl _ _) ?_;conv=>whnf)))
    exact AY rfl (DS _)
   ·exact absurd ⟨rfl,rfl⟩ hw
  ·have hn:C6 (val a3) (val b3)≠0:=by unfold C6;split<;>(try split)<;>omega
   generalize C6 (val a3) (val b3)=cm at *
   have hM1:=fun q q'=>QK N a1 false q q' a2 b3 s1.1 t2.1 (by have:=s1.2;have:=t2.2;omega)
   have hM2:=fun q q'=>QK N b1 false q q' b2 a3 t1.1 s2.1 (by have:=t1.2;have:=s2.2;omega)
   have hM3:=fun q q'=>Z0 N.toNatGLib a3 b3 q q' s2.1 t2.1 (by have:=s2.2;have:=t2.2;omega)
   have hna:=R3 N a3
   have hnb:=R3 N b3
   have g1:Sm (k+k) (dg (zv a1 a2*zv false b3).natAbs):=Q6 s1 t2
   have g2:Sm (k+k) (dg (zv b1 b2*zv false a3).natAbs):=Q6 t1 s2
   have g3:=qN g1 g2
   have g4:Sm (k+k) (dg (val a3*val b3)):=s2.mul t2 rfl
   rw[W4 s3 t3,<-EG b3,<-EG a3]
   have hden:val a3*val b3≠0:=Nat.mul_ne_zero s3 t3
   generalize zv a1 a2*zv false b3=x at *
   generalize zv b1 b2*zv false a3=y at *
   generalize val a3*val b3=D at *
   have hA2:=fun q q'=>kF N (decide (x<0)) (decide (y<0)) q q' (dg x.natAbs) (dg y.natAbs) (g1.le (by omega)) (g2.le (by omega))
   rw[EW,EW]at hA2
   generalize x+y=z at *
   have hl:=fun q1 q2=>RZ N (decide (z<0)) q1 q2 (dg z.natAbs) (dg D) (g3.le (by omega)) (g4.le (by omega)) (by rw[BU];exact hden)
   unfold qv at hl
   rw[EW,BU]at hl
   refine Ev.x N.HB rfl rfl ?_
   cases w1<;>cases w2
   ·(repeat' (first|(refine AG (fun hc => ?_) (fun hc => ?_)<;>first|(exfalso;omega)|(conv=>whnf))|(refine GD ?_;conv=>whnf)|(refine PX ?_;conv=>whnf)|(refine AE ?_;conv=>whnf)|(refine AC (hr1) ?_;conv=>whnf)|(refine AC (hr2) ?_;conv=>whnf)|(refine AC (hcmp _ _) ?_;conv=>whnf)|(refine AC (hna) ?_;conv=>whnf)|(refine AC (hnb) ?_;conv=>whnf)|(refine AC (hM1 _ _) ?_;conv=>whnf)|(refine AC (hM2 _ _) ?_;conv=>whnf)|(refine AC (hA2 _ _) ?_;conv=>whnf)|(refine AC (hM3 _ _) ?_;conv=>whnf)|(refine AC (hl _ _) ?_;conv=>whnf)))
    exact AY rfl (DS _)
   ·(repeat' (first|(refine AG (fun hc => ?_) (fun hc => ?_)<;>first|(exfalso;omega)|(conv=>whnf))|(refine GD ?_;conv=>whnf)|(refine PX ?_;conv=>whnf)|(refine AE ?_;conv=>whnf)|(refine AC (hr1) ?_;conv=>whnf)|(refine AC (hr2) ?_;conv=>whnf)|(refine AC (hcmp _ _) ?_;conv=>whnf)|(refine AC (hna) ?_;conv=>whnf)|(refine AC (hnb) ?_;conv=>whnf)|(refine AC (hM1 _ _) ?_;conv=>whnf)|(refine AC (hM2 _ _) ?_;conv=>whnf)|(refine AC (hA2 _ _) ?_;conv=>whnf)|(refine AC (hM3 _ _) ?_;conv=>whnf)|(refine AC (hl _ _) ?_;conv=>whnf)))
    exact AY rfl (DS _)
   ·(repeat' (first|(refine AG (fun hc => ?_) (fun hc => ?_)<;>first|(exfalso;omega)|(conv=>whnf))|(refine GD ?_;conv=>whnf)|(refine PX ?_;conv=>whnf)|(refine AE ?_;conv=>whnf)|(refine AC (hr1) ?_;conv=>whnf)|(refine AC (hr2) ?_;conv=>whnf)|(refine AC (hcmp _ _) ?_;conv=>whnf)|(refine AC (hna) ?_;conv=>whnf)|(refine AC (hnb) ?_;conv=>whnf)|(refine AC (hM1 _ _) ?_;conv=>whnf)|(refine AC (hM2 _ _) ?_;conv=>whnf)|(refine AC (hA2 _ _) ?_;conv=>whnf)|(refine AC (hM3 _ _) ?_;conv=>whnf)|(refine AC (hl _ _) ?_;conv=>whnf)))
    exact AY rfl (DS _)
   ·exact absurd ⟨rfl,rfl⟩ hw
theorem AbC (N:RatGLib L) (k:Nat) (hk:1<=k/\k<=68719476736) (n1 n2 q1 q2 q3 q4:Bool) (m1 d1 m2 d2:List Nat) (hm1:Sm k m1) (hd1:Sm k d1) (hm2:Sm k m2) (hd2:Sm k d2) :
  Ev L 99 [.agg (rQ q1 q2 n1 m1 d1),.agg (rQ q3 q4 n2 m2 d2)] (.agg (eQ (qv n1 m1 d1*qv n2 m2 d2))):=by
 obtain ⟨a1,a2,a3,w1,hr1,s1,s2,s3,s4,s5⟩:=MN N n1 m1 d1 k (by omega) hm1 hd1
 obtain ⟨b1,b2,b3,w2,hr2,t1,t2,t3,t4,t5⟩:=MN N n2 m2 d2 k (by omega) hm2 hd2
 rw[s5,t5,bQ]
 have hM1:=fun q q'=>QK N a1 b1 q q' a2 b2 s1.1 t1.1 (by have:=s1.2;have:=t1.2;omega)
 have hM3:=fun q q'=>Z0 N.toNatGLib a3 b3 q q' s2.1 t2.1 (by have:=s2.2;have:=t2.2;omega)
 have g1:Sm (k+k) (dg (zv a1 a2*zv b1 b2).natAbs):=Q6 s1 t1
 have g4:Sm (k+k) (dg (val a3*val b3)):=s2.mul t2 rfl
 have hden:val a3*val b3≠0:=Nat.mul_ne_zero s3 t3
 generalize zv a1 a2*zv b1 b2=z at *
 by_cases hw:w1=true/\w2=true
 ·obtain ⟨rfl,rfl⟩:=hw
  rw[s4 rfl,t4 rfl,Nat.one_mul,nT]
  refine Ev.x N.H7 rfl rfl ?_
  (repeat' (first|(refine GD ?_;conv=>whnf)|(refine AE ?_;conv=>whnf)|(refine AC (hr1) ?_;conv=>whnf)|(refine AC (hr2) ?_;conv=>whnf)|(refine AC (hM1 _ _) ?_;conv=>whnf)))
  refine E7 1000 N.GI rfl rfl ?_
  (repeat' (refine AE ?_;conv=>whnf))
  refine ⟨rfl,?_⟩
  (conv=>whnf)
  (repeat' (refine IM rfl ?_;conv=>whnf))
  exact AY (YT z) (DS _)
 ·generalize val a3*val b3=D at *
  have hl:=fun q1 q2=>RZ N (decide (z<0)) q1 q2 (dg z.natAbs) (dg D) (g1.le (by omega)) (g4.le (by omega)) (by rw[BU];exact hden)
  unfold qv at hl
  rw[EW,BU]at hl
  refine Ev.x N.H7 rfl rfl ?_
  cases w1<;>cases w2
  ·(repeat' (first|(refine GD ?_;conv=>whnf)|(refine AE ?_;conv=>whnf)|(refine AC (hr1) ?_;conv=>whnf)|(refine AC (hr2) ?_;conv=>whnf)|(refine AC (hM1 _ _) ?_;conv=>whnf)|(refine AC (hM3 _ _) ?_;conv=>whnf)|(refine AC (hl _ _) ?_;conv=>whnf)))
   exact AY rfl (DS _)
  ·(repeat' (first|(refine GD ?_;conv=>whnf)|(refine AE ?_;conv=>whnf)|(refine AC (hr1) ?_;conv=>whnf)|(refine AC (hr2) ?_;conv=>whnf)|(refine AC (hM1 _ _) ?_;conv=>whnf)|(refine AC (hM3 _ _) ?_;conv=>whnf)|(refine AC (hl _ _) ?_;conv=>whnf)))
   exact AY rfl (DS _)
  ·(repeat' (first|(refine GD ?_;conv=>whnf)|(refine AE ?_;conv=>whnf)|(refine AC (hr1) ?_;conv=>whnf)|(refine AC (hr2) ?_;conv=>whnf)|(refine AC (hM1 _ _) ?_;conv=>whnf)|(refine AC (hM3 _ _) ?_;conv=>whnf)|(refine AC (hl _ _) ?_;conv=>whnf)))
   exact AY rfl (DS _)
  ·exact absurd ⟨rfl,rfl⟩ hw
theorem xP (x:Rat) (e:Int):A9 (.tup [.agg (eQ x),.int .i64 e]):=by
 simp only[A9,CY,and_true,true_and]
 exact ⟨CU _,CU _⟩
theorem AbA (N:RatGLib L) (k:Nat) (hk:1<=k/\k<=68719476736) (n1 n2 q1 q2 q3 q4:Bool) (m1 d1 m2 d2:List Nat) (hm1:Sm k m1) (hd1:Sm k d1) (hm2:Sm k m2) (hd2:Sm k d2) (h0:qv n2 m2 d2≠0) :
  Ev L 100 [.agg (rQ q1 q2 n1 m1 d1),.agg (rQ q3 q4 n2 m2 d2)] (.tup [.agg (eQ (qv n1 m1 d1/qv n2 m2 d2)),.int .i64 0]):=by
 obtain ⟨a1,a2,a3,w1,hr1,s1,s2,s3,s4,s5⟩:=MN N n1 m1 d1 k (by omega) hm1 hd1
 obtain ⟨b1,b2,b3,w2,hr2,t1,t2,t3,t4,t5⟩:=MN N n2 m2 d2 k (by omega) hm2 hd2
 rw[t5]at h0
 rw[s5,t5]
 have hb0:zv b1 b2≠0:=fun h=>h0 ((W5 t3).2 h)
 rw[Adi s3 t3 hb0]
 have hS:=fun q=>TY N b1 q b2 (t1.le (by omega))
 have hsg:sgn (zv b1 b2)≠0:=by unfold sgn;split<;>(try split)<;>omega
 have hM1:=fun q q'=>QK N a1 false q q' a2 b3 s1.1 t2.1 (by have:=s1.2;have:=t2.2;omega)
 have hM2:=fun q q'=>QK N false b1 q q' a3 b2 s2.1 t1.1 (by have:=t1.2;have:=s2.2;omega)
 have hna:=R3 N a3
 have hnb:=R3 N b3
 have g1:Sm (k+k) (dg (zv a1 a2*zv false b3).natAbs):=Q6 s1 t2
 have g2:Sm (k+k) (dg (zv false a3*zv b1 b2).natAbs):=Q6 s2 t1
 have hd:(zv false a3*zv b1 b2).natAbs=val a3*(zv b1 b2).natAbs:=by rw[Int.natAbs_mul,ER]
 have hds:(zv false a3*zv b1 b2).sign=(zv b1 b2).sign:=by
  rw[Int.sign_mul,EG,Int.sign_eq_one_of_pos (by omega),Int.one_mul]
 have hy0:zv false a3*zv b1 b2≠0:=by
  intro h
  rw[h]at hds
  exact hb0 (by simpa using hds.symm)
 rw[<-hd,<-hds,<-EG b3]
 generalize zv a1 a2*zv false b3=x at *
 generalize zv false a3*zv b1 b2=y at *
 generalize sgn (zv b1 b2)=sg at *
 have hl:=fun q1 q2=>RZ N (decide (x<0) != decide (y<0)) q1 q2 (dg x.natAbs) (dg y.natAbs) (g1.le (by omega)) (g2.le (by omega)) (by rw[BU];omega)
 unfold qv at hl
 rw[sM hy0,BU]at hl
 refine Ev.x N.H6 rfl rfl ?_
 (repeat' (first|(refine AG (fun hc => ?_) (fun hc => ?_)<;>first|(exfalso;omega)|(conv=>whnf))|(refine GD ?_;conv=>whnf)|(refine PX ?_;conv=>whnf)|(refine AE ?_;conv=>whnf)|(refine AC (hr1) ?_;conv=>whnf)|(refine AC (hr2) ?_;conv=>whnf)|(refine AC (hS _) ?_;conv=>whnf)|(refine AC (hna) ?_;conv=>whnf)|(refine AC (hnb) ?_;conv=>whnf)|(refine AC (hM1 _ _) ?_;conv=>whnf)|(refine AC (hM2 _ _) ?_;conv=>whnf)))
 refine E7 1000 N.H8 rfl rfl ?_
 (repeat' (refine AE ?_;conv=>whnf))
 generalize decide (x<0)=p at *
 generalize decide (y<0)=r at *
 cases p<;>cases r
 all_goals
  (conv=>whnf)
  refine ⟨rfl,?_⟩
  (conv=>whnf)
  (repeat' (refine AC (hl _ _) ?_;conv=>whnf))
  exact AY rfl (xP _ _)
theorem AbB (N:RatGLib L) (k:Nat) (hk:1<=k/\k<=68719476736) (n1 n2 q1 q2 q3 q4:Bool) (m1 d1 m2 d2:List Nat) (hm1:Sm k m1) (hd1:Sm k d1) (hm2:Sm k m2) (hd2:Sm k d2) (h0:qv n2 m2 d2=0) :
  Ev L 100 [.agg (rQ q1 q2 n1 m1 d1),.agg (rQ q3 q4 n2 m2 d2)] (.tup [.agg (rQ false false false [] []),.int .i64 3]):=by
 obtain ⟨a1,a2,a3,w1,hr1,s1,s2,s3,s4,s5⟩:=MN N n1 m1 d1 k (by omega) hm1 hd1
 obtain ⟨b1,b2,b3,w2,hr2,t1,t2,t3,t4,t5⟩:=MN N n2 m2 d2 k (by omega) hm2 hd2
 rw[t5,W5 t3]at h0
 have hS:=fun q=>TY N b1 q b2 (t1.le (by omega))
 rw[h0,<-U3 rfl]at hS
 refine Ev.x N.H6 rfl rfl ?_
 (repeat' (first|(refine AG (fun hc => ?_) (fun hc => ?_)<;>first|(exfalso;omega)|(conv=>whnf))|(refine GD ?_;conv=>whnf)|(refine AE ?_;conv=>whnf)|(refine AC (hr1) ?_;conv=>whnf)|(refine AC (hr2) ?_;conv=>whnf)|(refine AC (hS _) ?_;conv=>whnf)))
 refine AY rfl ?_
 simp only[A9,CY,and_true,true_and]
 exact ⟨CU [],CU []⟩
end Go.Eng

namespace Go.Eng
open F
variable {L:Lib}
theorem Bt.sm {k:Nat} {x:Rat} (h:Bt k x) (hk:k<2199023255552):Sm 68719476736 (dg x.num.natAbs)/\Sm 68719476736 (dg x.den):=h.dig (by omega)
theorem QJ (N:RatGLib L) {x y:Rat} {k l:Nat} (hx:Bt k x) (hy:Bt l y) (hk:k<2199023255552) (hl:l<2199023255552):Ev L 98 [.agg (eQ x),.agg (eQ y)] (.agg (eQ (x+y))):=by
 have:=kX N 68719476736 (by omega) (decide (x.num<0)) (decide (y.num<0)) false false false false _ _ _ _ (hx.sm hk).1 (hx.sm hk).2 (hy.sm hl).1 (hy.sm hl).2
 rw[EZ,EZ]at this
 exact this
theorem PB (N:RatGLib L) {x y:Rat} {k l:Nat} (hx:Bt k x) (hy:Bt l y) (hk:k<2199023255552) (hl:l<2199023255552):Ev L 99 [.agg (eQ x),.agg (eQ y)] (.agg (eQ (x*y))):=by
 have:=AbC N 68719476736 (by omega) (decide (x.num<0)) (decide (y.num<0)) false false false false _ _ _ _ (hx.sm hk).1 (hx.sm hk).2 (hy.sm hl).1 (hy.sm hl).2
 rw[EZ,EZ]at this
 exact this
theorem ZX (N:RatGLib L) {x y:Rat} {k l:Nat} (hx:Bt k x) (hy:Bt l y) (hk:k<2199023255552) (hl:l<2199023255552) (h0:y≠0):Ev L 100 [.agg (eQ x),.agg (eQ y)] (.tup [.agg (eQ (x/y)),.int .i64 0]):=by
 have:=AbA N 68719476736 (by omega) (decide (x.num<0)) (decide (y.num<0)) false false false false _ _ _ _ (hx.sm hk).1 (hx.sm hk).2 (hy.sm hl).1 (hy.sm hl).2 (by rw[EZ];exact h0)
 rw[EZ,EZ]at this
 exact this
theorem WT (N:RatGLib L) {x:Rat} {k:Nat} (hx:Bt k x) (hk:k<2199023255552):Ev L 95 [.agg (eQ x)] (.agg (eQ x)):=by
 have:=Z9 N (decide (x.num<0)) false false _ _ ((hx.sm hk).1.le (by omega)) ((hx.sm hk).2.le (by omega))
 rw[EZ]at this
 exact this
theorem HZ (N:RatGLib L) {x:Rat} {k:Nat} (hx:Bt k x) (hk:k<2199023255552):Ev L 97 [.agg (eQ x)] (.int .i64 (sgn x.num)):=by
 have:=AbD N (decide (x.num<0)) false false _ _ ((hx.sm hk).1.le (by omega)) ((hx.sm hk).2.le (by omega))
 rw[EZ]at this
 exact this
theorem IG {x:Rat}:sgn x.num=0↔x=0:=by
 rw[<-Rat.num_eq_zero]
 unfold sgn
 split
 ·omega
 ·split<;>omega
end Go.Eng

namespace Go.Eng
open F
attribute [local irreducible] AA AF AR AD B0 AU AX A8 A6 BN AP BK BV CN BI AZ BG BQ AB A7 AJ pw BH BF B9 B8 CI B7 CB BM B3
set_option maxHeartbeats 4000000
variable {L:Lib}
theorem pH (n:Bool) (m d:List Nat):qv (!n) m d = -(qv n m d):=by
 unfold qv
 have h:zv (!n) m = -(zv n m):=by cases n<;>simp [zv]
 rw[h,Rat.neg_mkRat]
theorem xR (n:Bool) (m d:List Nat):A9 (.agg (rQ false false n m d)):=by
 simp only[A9,CY,and_true,true_and]
 exact ⟨CU _,CU _⟩
theorem kE (N:RatHLib L) (n:Bool) (m d:List Nat):Ev L 149 [.agg (rQ false false n m d)] (.agg (rQ false false (!n) m d)):=by
 refine Ev.x N.KR rfl rfl ?_
 cases n
 all_goals
  (repeat' (refine AE ?_;conv=>whnf))
  exact AY rfl (xR _ _ _)
theorem AbH (N:RatHLib L) {x y:Rat} {k l:Nat} (hx:Bt k x) (hy:Bt l y) (hk:k<2199023255552) (hl:l<2199023255552):Ev L 150 [.agg (eQ x),.agg (eQ y)] (.agg (eQ (x-y))):=by
 have hF:=kE N (decide (y.num<0)) (dg y.num.natAbs) (dg y.den)
 have hA:=fun q3 q4=>kX N.toRatGLib 68719476736 (by omega) (decide (x.num<0)) (!decide (y.num<0)) false false q3 q4 _ _ _ _ (hx.sm hk).1 (hx.sm hk).2 (hy.sm hl).1 (hy.sm hl).2
 rw[pH,EZ,EZ,<-Rat.sub_eq_add_neg]at hA
 refine Ev.x N.KP rfl rfl ?_
 (repeat' (first|(refine eI ?_;conv=>whnf)|(refine AE ?_;conv=>whnf)|(refine AC (hF) ?_;conv=>whnf)|(refine AC (hA _ _) ?_;conv=>whnf)))
 exact AY rfl (DS _)
theorem Adk {x y:Int} (h:y≠0):mkRat (y.sign*x) y.natAbs=Rat.divInt x y:=by
 obtain ⟨d,hd|hd⟩:=Int.eq_nat_or_neg y
 ·subst hd
  rw[Int.sign_eq_one_of_pos (by omega),Int.one_mul,Int.natAbs_natCast,Rat.divInt_ofNat]
 ·subst hd
  rw[Int.sign_eq_neg_one_of_neg (by omega),Int.natAbs_neg,Int.natAbs_natCast,Rat.divInt_neg',Rat.divInt_ofNat,Int.neg_one_mul]
theorem AaQ (N:RatHLib L) (x y:Int) (hx : -9223372036854775808<=x/\x<=9223372036854775807) (hy : -9223372036854775808<=y/\y<=9223372036854775807) (h0:y≠0):Ev L 151 [.int .i64 x,.int .i64 y] (.agg (eQ (Rat.divInt x y))):=by
 have h1:=ZY N.toRatGLib x hx
 have h2:=ZY N.toRatGLib y hy
 have g1:Sm 2 (dg x.natAbs):=Sm.dg (by omega)
 have g2:Sm 2 (dg y.natAbs):=Sm.dg (by omega)
 have hl:=fun q1 q2=>RZ N.toRatGLib (decide (x<0) != decide (y<0)) q1 q2 (dg x.natAbs) (dg y.natAbs) (g1.le (by omega)) (g2.le (by omega)) (by rw[BU];omega)
 unfold qv at hl
 rw[sM h0,BU,Adk h0]at hl
 refine Ev.x N.KL rfl rfl ?_
 (repeat' (first|(refine AG (fun hc => ?_) (fun hc => ?_)<;>first|(exfalso;omega)|(conv=>whnf))|(refine AE ?_;conv=>whnf)|(refine AC (h1) ?_;conv=>whnf)|(refine AC (h2) ?_;conv=>whnf)))
 refine E7 1000 N.H8 rfl rfl ?_
 (repeat' (refine AE ?_;conv=>whnf))
 generalize decide (x<0)=p at *
 generalize decide (y<0)=r at *
 cases p<;>cases r
 all_goals
  (conv=>whnf)
  refine ⟨rfl,?_⟩
  (conv=>whnf)
  (repeat' (refine AC (hl _ _) ?_;conv=>whnf))
  exact AY rfl (DS _)
end Go.Eng

namespace Go.Eng
open F
attribute [local irreducible] AA AF AR AD B0 AU AX A8 A6 BN AP BK BV CN BI AZ BG BQ AB A7 AJ pw BH BF B9 B8 CI B7 CB BM B3
set_option maxHeartbeats 8000000
variable {L:Lib}
def G3 (p r:List Rat):List Rat:=(List.range p.length).map fun i=>p.getD i 0+r.getD i 0
theorem V1 (p r:List Rat):(G3 p r).length=p.length:=by simp [G3]
theorem V0 {p r:List Rat} {i:Nat} (h:i<p.length):(G3 p r)[i]? = some (p.getD i 0+r.getD i 0):=by
 simp only[G3,List.getElem?_map,List.getElem?_range h,Option.map_some]
theorem IW {l:List Rat} {i:Nat} {x:Rat} (h:l[i]? = some x):l.getD i 0=x:=by rw[List.getD_eq_getElem?_getD,h];rfl
theorem F3 {l:List Rat} {i:Nat} (h:l.length<=i):l.getD i 0=0:=by rw[List.getD_eq_getElem?_getD,List.getElem?_eq_none h];rfl
theorem Abi (N:PolyGLib L) (q:Bool) (l:List Rat) (k:Nat) (hl:Bs k l) (hk:k<2199023255552) (hn:l.length<=1000000):Ev L 170 [.sl q (l.map eQ)] (.sl false ((B5 l).map eQ)):=by
 refine Ev.x N.KD rfl rfl ?_
 (repeat' (refine AE ?_;conv=>whnf))
 refine E6 1000 N.E5 rfl rfl ?_
 (repeat' (first|(refine AW ?_;conv=>whnf)|(refine AE ?_;conv=>whnf)))
 refine CE (fun n=>n) (fun (n:Nat)=>n<=l.length/\C3 l l.length=C3 l n) (fun n=>[(3,.int .i64 n)]) (fun _=>[]) [] [] l.length (by (conv=>whnf);exact ⟨rfl,rfl,rfl⟩) ⟨Nat.le_refl _,rfl⟩ ?_
 intro n ⟨p1,p2⟩ ih
 have done : ∀ {n:Nat},C3 l l.length=n->B5 l=l.take n:=fun h=>by rw[B5,h]
 by_cases hz:n=0\/(∃ m x,n=m+1/\l[m]? = some x/\x≠0)
 ·have hcut:C3 l l.length=n:=by
   rw[p2]
   rcases hz with rfl|⟨m,x,rfl,h1,h2⟩
   ·rfl
   ·rw[C3,if_neg]
    rw[List.getD_eq_getElem?_getD,h1];exact h2
  have htq:=done hcut
  have htl:(l.take n).length=n:=by rw[List.length_take];omega
  clear ih hcut p2 done
  rcases hz with h0|⟨m,x,hnm,h1,h2⟩
  case' inl=>(repeat' (first|(refine AG (fun hc => ?_) (fun hc => ?_)<;>first|(exfalso;omega)|(conv=>whnf))|(refine AE ?_;conv=>whnf)))
  case' inr =>
   have h1':l[((n:Int)-1).toNat]? = some x:=by rw[show ((n:Int)-1).toNat=m by omega];exact h1
   have hS':=HZ N.toRatGLib (hl.at h1) (by omega)
   have hs:=IG (x:=x)
   generalize sgn x.num=s at *
   have hS : ∀ v,l[((n:Int)-1).toNat]? = some v->Ev L 97 [.agg (eQ v)] (.int .i64 s):=fun v h=>by
    obtain rfl:=Option.some.inj (h1'.symm.trans h)
    exact hS'
   have hs0:s≠0:=fun h=>h2 (hs.1 h)
   (repeat' (first|(refine AG (fun hc => ?_) (fun hc => ?_)<;>first|(exfalso;omega)|(conv=>whnf))|(refine CF ?_ ?_;omega;conv=>whnf)|(refine BL (by assumption) ?_ rfl ?_;omega;conv=>whnf)|(refine AE ?_;conv=>whnf)|(refine AC (hS') ?_;conv=>whnf)))
  all_goals
   refine M3 (enc:=eQ) (fun _=>rfl) p1 ?_
   (conv=>whnf)
   skip
   refine ⟨rfl,_,rfl,?_⟩
   (conv=>whnf)
   (repeat' (refine AW ?_;conv=>whnf))
   refine EB (enc:=eO) none n rfl (by rw[htl]) (by omega) ?_
   (conv=>whnf)
   skip
   refine CE (fun i=>n-i) (fun (i:Nat)=>i<=n) (fun i=>[(11,.int .i64 i)]) (fun i=>[(170008,170008,.rw 3 ((EH (l.take i) n).map eO))]) [] [] 0 (by first|exact (by (conv=>whnf);exact ⟨rfl,rfl,rfl⟩)|(rw[List.take_zero,<-IU];exact (by (conv=>whnf);exact ⟨rfl,rfl,rfl⟩))) (by omega) ?_
   intro i g1 ih
   by_cases hi:i<n
   ·all_goals try (exfalso;omega)
    all_goals
     obtain ⟨y,hy⟩ : ∃ y,l[i]? = some y:=⟨_,zE (by omega)⟩
     have hy':l[(i:Int).toNat]? = some y:=hy
     have hti:(l.take i).length=i:=by rw[List.length_take];omega
     have hlf:=H0 (l:=l.take i) (m:=n) (by omega)
     have hst:=IV (l:=l.take i) (m:=n) (x:=y) (by omega)
     rw[hti,<-U9 hy]at hst
     have hT':=WT N.toRatGLib (hl.at hy) (by omega)
     have hT : ∀ v,l[(i:Int).toNat]? = some v->Ev L 95 [.agg (eQ v)] (.agg (eQ y)):=fun v h=>by
      obtain rfl:=Option.some.inj (hy'.symm.trans h)
      exact hT'
     (repeat' (first|(refine AG (fun hc => ?_) (fun hc => ?_)<;>first|(exfalso;omega)|(conv=>whnf))|(refine A3 ?_ ?_;omega;conv=>whnf)|(refine BL (by assumption) ?_ rfl ?_;omega;conv=>whnf)|(refine AE ?_;conv=>whnf)|(refine AC (hT') ?_;conv=>whnf)))
     refine E9 (enc:=eO) (some y) rfl (fun e=>by cases e<;>rfl) (by omega) ?_
     (conv=>whnf)
     (repeat' (refine A0 ?_ ?_;omega;conv=>whnf))
     rw[hst]
     exact A4 [] (by (conv=>whnf);exact ⟨rfl,rfl,rfl⟩) (ih (i+1) (by omega) (by omega))
   ·obtain rfl:i=n:=by omega
    clear ih
    rw[IR htl,<-htq]at *
    rw[<-htq]at htl
    (repeat' (first|(refine AG (fun hc => ?_) (fun hc => ?_)<;>first|(exfalso;omega)|(conv=>whnf))|(refine AE ?_;conv=>whnf)))
    refine DE (enc:=eQ) (fun _=>rfl) rfl htl.symm ?_
    (conv=>whnf)
    exact AY rfl (by simp only[A9,true_and];exact FR _)
 ·obtain ⟨m,rfl⟩ : ∃ m,n=m+1:=⟨n-1,by omega⟩
  obtain ⟨x,hx⟩ : ∃ x,l[m]? = some x:=⟨_,zE (by omega)⟩
  have hx0:x=0:=by
   rcases Classical.em (x=0) with h|h
   ·exact h
   ·exact (hz (Or.inr ⟨m,x,rfl,hx,h⟩)).elim
  have hx':l[((m+1:Nat)-1:Int).toNat]? = some x:=by rw[show ((m+1:Nat)-1:Int).toNat=m by omega];exact hx
  have hS':=HZ N.toRatGLib (hl.at hx) (by omega)
  have hs:=IG (x:=x)
  generalize sgn x.num=s at *
  have hS : ∀ v,l[((m+1:Nat)-1:Int).toNat]? = some v->Ev L 97 [.agg (eQ v)] (.int .i64 s):=fun v h=>by
   obtain rfl:=Option.some.inj (hx'.symm.trans h)
   exact hS'
  have hs0:=hs.2 hx0
  (repeat' (first|(refine AG (fun hc => ?_) (fun hc => ?_)<;>first|(exfalso;omega)|(conv=>whnf))|(refine CF ?_ ?_;omega;conv=>whnf)|(refine BL (by assumption) ?_ rfl ?_;omega;conv=>whnf)|(refine AE ?_;conv=>whnf)|(refine AC (hS') ?_;conv=>whnf)))
  rw[show ((m+1:Nat):Int)-1=(m:Int) by omega]
  exact A4 [] (by (conv=>whnf);exact ⟨rfl,rfl,rfl⟩) (ih m (by omega) ⟨by omega,by rw[p2,C3,if_pos (by rw[List.getD_eq_getElem?_getD,hx];exact hx0)]⟩)
theorem kO (N:TrGLib L) (q:Bool) (l:List Rat) (d:Rat) (k j:Nat) (hl:Bs k l) (hd:Bt j d) (hk:k+j<2199023255552) (hn:l.length<=1000000):Ev L 190 [.sl q (l.map eQ),.agg (eQ d)] (.sl false ((B5 (l.map (· * d))).map eQ)):=by
 refine Ev.x N.KC rfl rfl ?_
 (repeat' (first|(refine AW ?_;conv=>whnf)|(refine AE ?_;conv=>whnf)))
 refine EB (enc:=eO) none l.length rfl rfl (by omega) ?_
 (conv=>whnf)
 skip
 refine CE (fun i=>l.length-i) (fun (i:Nat)=>i<=l.length) (fun i=>[(12,.int .i64 i)]) (fun i=>[(9,9,.rw 3 ((EH ((l.map (· * d)).take i) l.length).map eO))]) [] [] 0 (by first|exact (by (conv=>whnf);exact ⟨rfl,rfl,rfl⟩)|(rw[List.take_zero,<-IU];exact (by (conv=>whnf);exact ⟨rfl,rfl,rfl⟩))) (by omega) ?_
 intro i g1 ih
 by_cases hi:i<l.length
 ·obtain ⟨x,hx⟩ : ∃ x,l[i]? = some x:=⟨_,zE hi⟩
  have hx':l[(i:Int).toNat]? = some x:=hx
  have hM:=PB N.toRatGLib (hl.at hx) hd (by omega) (by omega)
  have hy:(l.map (· * d))[i]? = some (x*d):=by rw[List.getElem?_map,hx];rfl
  have hti:((l.map (· * d)).take i).length=i:=by rw[List.length_take,List.length_map];omega
  have hlf:=H0 (l:=(l.map (· * d)).take i) (m:=l.length) (by omega)
  have hst:=IV (l:=(l.map (· * d)).take i) (m:=l.length) (x:=x*d) (by omega)
  rw[hti,<-U9 hy]at hst
  (repeat' (first|(refine AG (fun hc => ?_) (fun hc => ?_)<;>first|(exfalso;omega)|(conv=>whnf))|(refine A3 ?_ ?_;omega;conv=>whnf)|(refine BL (by assumption) ?_ rfl ?_;omega;conv=>whnf)|(refine AE ?_;conv=>whnf)|(refine AC (hM) ?_;conv=>whnf)))
  refine E9 (enc:=eO) (some (x*d)) rfl (fun e=>by cases e<;>rfl) (by omega) ?_
  (conv=>whnf)
  (repeat' (refine A0 ?_ ?_;omega;conv=>whnf))
  rw[hst]
  exact A4 [] (by (conv=>whnf);exact ⟨rfl,rfl,rfl⟩) (ih (i+1) (by omega) (by omega))
 ·obtain rfl:i=l.length:=by omega
  clear ih
  have hmb:Bs (k+j) (l.map (· * d)):=by
   intro y hy
   obtain ⟨x,hx,rfl⟩:=List.mem_map.1 hy
   exact (hl x hx).mul hd
  have hml:(l.map (· * d)).length=l.length:=List.length_map ..
  rw[List.take_of_length_le (Nat.le_of_eq hml),IR hml,<-hml]
  generalize l.map (· * d)=p at *
  (repeat' (first|(refine AG (fun hc => ?_) (fun hc => ?_)<;>first|(exfalso;omega)|(conv=>whnf))|(refine AE ?_;conv=>whnf)))
  refine E6 1000 N.E5 rfl rfl ?_
  (repeat' (refine AE ?_;conv=>whnf))
  refine CE (fun n=>n) (fun (n:Nat)=>n<=p.length/\C3 p p.length=C3 p n) (fun n=>[(3,.int .i64 n)]) (fun _=>[(9,9,.rw 3 (p.map eQ))]) [] [] p.length (by (conv=>whnf);exact ⟨rfl,rfl,rfl⟩) ⟨Nat.le_refl _,rfl⟩ ?_
  intro n ⟨p1,p2⟩ ih
  have done : ∀ {n:Nat},C3 p p.length=n->B5 p=p.take n:=fun h=>by rw[B5,h]
  by_cases hz:n=0\/(∃ m x,n=m+1/\p[m]? = some x/\x≠0)
  ·have hcut:C3 p p.length=n:=by
    rw[p2]
    rcases hz with rfl|⟨m,x,rfl,h1,h2⟩
    ·rfl
    ·rw[C3,if_neg]
     rw[List.getD_eq_getElem?_getD,h1];exact h2
   have htq:=done hcut
   have htl:(p.take n).length=n:=by rw[List.length_take];omega
   clear ih hcut p2 done
   rcases hz with h0|⟨m,x,hnm,h1,h2⟩
   case' inl=>(repeat' (first|(refine AG (fun hc => ?_) (fun hc => ?_)<;>first|(exfalso;omega)|(conv=>whnf))|(refine AE ?_;conv=>whnf)))
   case' inr =>
    have h1':p[((n:Int)-1).toNat]? = some x:=by rw[show ((n:Int)-1).toNat=m by omega];exact h1
    have hS':=HZ N.toRatGLib (hmb.at h1) (by omega)
    have hs:=IG (x:=x)
    generalize sgn x.num=s at *
    have hS : ∀ v,p[((n:Int)-1).toNat]? = some v->Ev L 97 [.agg (eQ v)] (.int .i64 s):=fun v h=>by
     obtain rfl:=Option.some.inj (h1'.symm.trans h)
     exact hS'
    have hs0:s≠0:=fun h=>h2 (hs.1 h)
    (repeat' (first|(refine AG (fun hc => ?_) (fun hc => ?_)<;>first|(exfalso;omega)|(conv=>whnf))|(refine A3 ?_ ?_;omega;conv=>whnf)|(refine CF ?_ ?_;omega;conv=>whnf)|(refine S9 ?_ (fun _=>rfl) (fun v hv => ?_);omega;conv=>whnf)|(refine AE ?_;conv=>whnf)|(refine AC (hS _ hv) ?_;conv=>whnf)))
   all_goals
    refine GA n (by omega) (by omega) ?_
    (conv=>whnf)
    skip
    refine ⟨rfl,_,rfl,?_⟩
    (conv=>whnf)
    (refine GP (enc:=eQ) (fun _=>rfl) (by omega) ?_;rw[List.drop_zero,Nat.sub_zero,<-htq];exact AY rfl (by simp only[A9,true_and];exact FR _))
  ·obtain ⟨m,rfl⟩ : ∃ m,n=m+1:=⟨n-1,by omega⟩
   obtain ⟨x,hx⟩ : ∃ x,p[m]? = some x:=⟨_,zE (by omega)⟩
   have hx0:x=0:=by
    rcases Classical.em (x=0) with h|h
    ·exact h
    ·exact (hz (Or.inr ⟨m,x,rfl,hx,h⟩)).elim
   have hx':p[((m+1:Nat)-1:Int).toNat]? = some x:=by rw[show ((m+1:Nat)-1:Int).toNat=m by omega];exact hx
   have hS':=HZ N.toRatGLib (hmb.at hx) (by omega)
   have hs:=IG (x:=x)
   generalize sgn x.num=s at *
   have hS : ∀ v,p[((m+1:Nat)-1:Int).toNat]? = some v->Ev L 97 [.agg (eQ v)] (.int .i64 s):=fun v h=>by
    obtain rfl:=Option.some.inj (hx'.symm.trans h)
    exact hS'
   have hs0:=hs.2 hx0
   (repeat' (first|(refine AG (fun hc => ?_) (fun hc => ?_)<;>first|(exfalso;omega)|(conv=>whnf))|(refine A3 ?_ ?_;omega;conv=>whnf)|(refine CF ?_ ?_;omega;conv=>whnf)|(refine S9 ?_ (fun _=>rfl) (fun v hv => ?_);omega;conv=>whnf)|(refine AE ?_;conv=>whnf)|(refine AC (hS _ hv) ?_;conv=>whnf)))
   rw[show ((m+1:Nat):Int)-1=(m:Int) by omega]
   exact A4 [] (by (conv=>whnf);exact ⟨rfl,rfl,rfl⟩) (ih m (by omega) ⟨by omega,by rw[p2,C3,if_pos (by rw[List.getD_eq_getElem?_getD,hx];exact hx0)]⟩)
theorem Abg (N:TrGLib L) (q1 q2:Bool) (p r:List Rat) (k j:Nat) (hp:Bs k p) (hr:Bs j r) (hk:k+j+1<2199023255552) (hn:p.length<=1000000) (hm:r.length<=p.length):Ev L 191 [.sl q1 (p.map eQ),.sl q2 (r.map eQ)] (.sl false ((B5 (G3 p r)).map eQ)):=by
 refine Ev.x N.J9 rfl rfl ?_
 (repeat' (first|(refine AG (fun hc => ?_) (fun hc => ?_)<;>first|(exfalso;omega)|(conv=>whnf))|(refine AW ?_;conv=>whnf)|(refine AE ?_;conv=>whnf)))
 refine EB (enc:=eO) none p.length rfl rfl (by omega) ?_
 (conv=>whnf)
 skip
 have hml:=V1 p r
 refine CE (fun i=>p.length-i) (fun (i:Nat)=>i<=p.length) (fun i=>[(19,.int .i64 i)]) (fun i=>[(16,16,.rw 3 ((EH ((G3 p r).take i) p.length).map eO))]) [] [] 0 (by first|exact (by (conv=>whnf);exact ⟨rfl,rfl,rfl⟩)|(rw[List.take_zero,<-IU];exact (by (conv=>whnf);exact ⟨rfl,rfl,rfl⟩))) (by omega) ?_
 intro i g1 ih
 by_cases hi:i<p.length
 ·obtain ⟨x,hx⟩ : ∃ x,p[i]? = some x:=⟨_,zE hi⟩
  have hx':p[(i:Int).toNat]? = some x:=hx
  have hy:=V0 (r:=r) hi
  rw[IW hx]at hy
  have hti:((G3 p r).take i).length=i:=by rw[List.length_take];omega
  have hlf:=H0 (l:=(G3 p r).take i) (m:=p.length) (by omega)
  have hst:=IV (l:=(G3 p r).take i) (m:=p.length) (x:=x+r.getD i 0) (by omega)
  rw[hti,<-U9 hy]at hst
  by_cases h2:i<r.length
  ·obtain ⟨y,hy2⟩ : ∃ y,r[i]? = some y:=⟨_,zE h2⟩
   have hy2':r[(i:Int).toNat]? = some y:=hy2
   rw[IW hy2]at hst
   have hA:=QJ N.toRatGLib (hp.at hx) (hr.at hy2) (by omega) (by omega)
   (repeat' (first|(refine AG (fun hc => ?_) (fun hc => ?_)<;>first|(exfalso;omega)|(conv=>whnf))|(refine A3 ?_ ?_;omega;conv=>whnf)|(refine AW ?_;conv=>whnf)|(refine BL (by assumption) ?_ rfl ?_;omega;conv=>whnf)|(refine AE ?_;conv=>whnf)|(refine AC (hA) ?_;conv=>whnf)))
   refine E9 (enc:=eO) (some (x+y)) rfl (fun e=>by cases e<;>rfl) (by omega) ?_
   (conv=>whnf)
   (repeat' (refine A0 ?_ ?_;omega;conv=>whnf))
   rw[hst]
   exact A4 [] (by (conv=>whnf);exact ⟨rfl,rfl,rfl⟩) (ih (i+1) (by omega) (by omega))
  ·rw[F3 (l:=r) (by omega),Rat.add_zero]at hst
   have hT:=WT N.toRatGLib (hp.at hx) (by omega)
   (repeat' (first|(refine AG (fun hc => ?_) (fun hc => ?_)<;>first|(exfalso;omega)|(conv=>whnf))|(refine A3 ?_ ?_;omega;conv=>whnf)|(refine AW ?_;conv=>whnf)|(refine BL (by assumption) ?_ rfl ?_;omega;conv=>whnf)|(refine AE ?_;conv=>whnf)|(refine AC (hT) ?_;conv=>whnf)))
   refine E9 (enc:=eO) (some x) rfl (fun e=>by cases e<;>rfl) (by omega) ?_
   (conv=>whnf)
   (repeat' (refine A0 ?_ ?_;omega;conv=>whnf))
   rw[hst]
   exact A4 [] (by (conv=>whnf);exact ⟨rfl,rfl,rfl⟩) (ih (i+1) (by omega) (by omega))
 ·obtain rfl:i=p.length:=by omega
  clear ih
  have hmb:Bs (k+j+1) (G3 p r):=by
   intro z hz
   obtain ⟨i,hi⟩:=List.getElem?_of_mem hz
   have h1:=(zS hi).1
   rw[hml]at h1
   rw[V0 h1]at hi
   obtain rfl:=Option.some.inj hi
   obtain ⟨x,hx⟩ : ∃ x,p[i]? = some x:=⟨_,zE h1⟩
   rw[IW hx]
   by_cases h2:i<r.length
   ·obtain ⟨y,hy2⟩ : ∃ y,r[i]? = some y:=⟨_,zE h2⟩
    rw[IW hy2]
    exact (hp.at hx).add (hr.at hy2)
   ·rw[F3 (l:=r) (by omega),Rat.add_zero]
    exact (hp.at hx).le (by omega)
  rw[List.take_of_length_le (Nat.le_of_eq hml),IR hml,<-hml]
  generalize G3 p r=u at *
  (repeat' (first|(refine AG (fun hc => ?_) (fun hc => ?_)<;>first|(exfalso;omega)|(conv=>whnf))|(refine AE ?_;conv=>whnf)))
  refine E6 1000 N.E5 rfl rfl ?_
  (repeat' (refine AE ?_;conv=>whnf))
  refine CE (fun n=>n) (fun (n:Nat)=>n<=u.length/\C3 u u.length=C3 u n) (fun n=>[(3,.int .i64 n)]) (fun _=>[(16,16,.rw 3 (u.map eQ))]) [] [] u.length (by (conv=>whnf);exact ⟨rfl,rfl,rfl⟩) ⟨Nat.le_refl _,rfl⟩ ?_
  intro n ⟨p1,p2⟩ ih
  have done : ∀ {n:Nat},C3 u u.length=n->B5 u=u.take n:=fun h=>by rw[B5,h]
  by_cases hz:n=0\/(∃ m x,n=m+1/\u[m]? = some x/\x≠0)
  ·have hcut:C3 u u.length=n:=by
    rw[p2]
    rcases hz with rfl|⟨m,x,rfl,h1,h2⟩
    ·rfl
    ·rw[C3,if_neg]
     rw[List.getD_eq_getElem?_getD,h1];exact h2
   have htq:=done hcut
   have htl:(u.take n).length=n:=by rw[List.length_take];omega
   clear ih hcut p2 done
   rcases hz with h0|⟨m,x,hnm,h1,h2⟩
   case' inl=>(repeat' (first|(refine AG (fun hc => ?_) (fun hc => ?_)<;>first|(exfalso;omega)|(conv=>whnf))|(refine AE ?_;conv=>whnf)))
   case' inr =>
    have h1':u[((n:Int)-1).toNat]? = some x:=by rw[show ((n:Int)-1).toNat=m by omega];exact h1
    have hS':=HZ N.toRatGLib (hmb.at h1) (by omega)
    have hs:=IG (x:=x)
    generalize sgn x.num=s at *
    have hS : ∀ v,u[((n:Int)-1).toNat]? = some v->Ev L 97 [.agg (eQ v)] (.int .i64 s):=fun v h=>by
     obtain rfl:=Option.some.inj (h1'.symm.trans h)
     exact hS'
    have hs0:s≠0:=fun h=>h2 (hs.1 h)
    (repeat' (first|(refine AG (fun hc => ?_) (fun hc => ?_)<;>first|(exfalso;omega)|(conv=>whnf))|(refine A3 ?_ ?_;omega;conv=>whnf)|(refine CF ?_ ?_;omega;conv=>whnf)|(refine S9 ?_ (fun _=>rfl) (fun v hv => ?_);omega;conv=>whnf)|(refine AE ?_;conv=>whnf)|(refine AC (hS _ hv) ?_;conv=>whnf)))
   all_goals
    refine GA n (by omega) (by omega) ?_
    (conv=>whnf)
    skip
    refine ⟨rfl,_,rfl,?_⟩
    (conv=>whnf)
    (refine GP (enc:=eQ) (fun _=>rfl) (by omega) ?_;rw[List.drop_zero,Nat.sub_zero,<-htq];exact AY rfl (by simp only[A9,true_and];exact FR _))
  ·obtain ⟨m,rfl⟩ : ∃ m,n=m+1:=⟨n-1,by omega⟩
   obtain ⟨x,hx⟩ : ∃ x,u[m]? = some x:=⟨_,zE (by omega)⟩
   have hx0:x=0:=by
    rcases Classical.em (x=0) with h|h
    ·exact h
    ·exact (hz (Or.inr ⟨m,x,rfl,hx,h⟩)).elim
   have hx':u[((m+1:Nat)-1:Int).toNat]? = some x:=by rw[show ((m+1:Nat)-1:Int).toNat=m by omega];exact hx
   have hS':=HZ N.toRatGLib (hmb.at hx) (by omega)
   have hs:=IG (x:=x)
   generalize sgn x.num=s at *
   have hS : ∀ v,u[((m+1:Nat)-1:Int).toNat]? = some v->Ev L 97 [.agg (eQ v)] (.int .i64 s):=fun v h=>by
    obtain rfl:=Option.some.inj (hx'.symm.trans h)
    exact hS'
   have hs0:=hs.2 hx0
   (repeat' (first|(refine AG (fun hc => ?_) (fun hc => ?_)<;>first|(exfalso;omega)|(conv=>whnf))|(refine A3 ?_ ?_;omega;conv=>whnf)|(refine CF ?_ ?_;omega;conv=>whnf)|(refine S9 ?_ (fun _=>rfl) (fun v hv => ?_);omega;conv=>whnf)|(refine AE ?_;conv=>whnf)|(refine AC (hS _ hv) ?_;conv=>whnf)))
   rw[show ((m+1:Nat):Int)-1=(m:Int) by omega]
   exact A4 [] (by (conv=>whnf);exact ⟨rfl,rfl,rfl⟩) (ih m (by omega) ⟨by omega,by rw[p2,C3,if_pos (by rw[List.getD_eq_getElem?_getD,hx];exact hx0)]⟩)
end Go.Eng

namespace Go.Eng
open F
attribute [local irreducible] AA AF AR AD B0 AU AX A8 A6 BN AP BK BV CN BI AZ BG BQ AB A7 AJ pw BH BF B9 B8 CI B7 CB BM B3
set_option maxHeartbeats 8000000
variable {L:Lib}
theorem MP {l:List Rat} {k:Nat} (h:Bs k l) (i:Nat):Bt k (l.getD i 0):=by
 rw[List.getD_eq_getElem?_getD]
 cases e:l[i]? with
 | none=>exact Bt.zero k
 | some x=>exact h.at e
end Go.Eng

namespace Go.Eng
open F
attribute [local irreducible] AA AF AR AD B0 AU AX A8 A6 BN AP BK BV CN BI AZ BG BQ AB A7 AJ pw BH BF B9 B8 CI B7 CB BM B3
set_option maxHeartbeats 8000000
variable {L:Lib}
theorem qG (z:Int):sgn z = -1/\z<0\/sgn z=0/\z=0\/sgn z=1/\0<z:=by
 unfold sgn
 split
 ·exact Or.inl ⟨rfl,by omega⟩
 ·split
  ·exact Or.inr (Or.inr ⟨rfl,by omega⟩)
  ·exact Or.inr (Or.inl ⟨rfl,by omega⟩)
theorem xX {a b:Nat} {z:Int} (h:z=(a:Int)-b):C6 a b=sgn z:=by
 unfold C6 sgn
 subst h
 repeat' split
 all_goals omega
theorem kG (N:StGLib L) (n1 n2 q1 q2:Bool) (a b:List Nat) (ha:Sm 549755813888 a) (hb:Sm 549755813888 b):Ev L 197 [.agg (rZ q1 n1 a),.agg (rZ q2 n2 b)] (.int .i64 (sgn (zv n1 a-zv n2 b))):=by
 have h1:=fun q=>TY N.toRatGLib n1 q a ha
 have h2:=fun q=>TY N.toRatGLib n2 q b hb
 have h3:=fun q q'=>OJ N.toNatGLib a b q q' ha.1 hb.1 (by have:=ha.2;omega) (by have:=hb.2;omega)
 have h4:=fun q q'=>OJ N.toNatGLib b a q q' hb.1 ha.1 (by have:=hb.2;omega) (by have:=ha.2;omega)
 have za:=ER n1 a
 have zb:=ER n2 b
 generalize zv n1 a=x at *
 generalize zv n2 b=y at *
 rcases qG x with ⟨e1,g1⟩|⟨e1,g1⟩|⟨e1,g1⟩<;>rcases qG y with ⟨e2,g2⟩|⟨e2,g2⟩|⟨e2,g2⟩
 all_goals
  rw[e1]at h1
  rw[e2]at h2
  refine Ev.x N.JH rfl rfl ?_
  (repeat' (first|(refine AG (fun hc => ?_) (fun hc => ?_)<;>first|(exfalso;omega)|(conv=>whnf))|(refine AE ?_;conv=>whnf)|(refine AC (h1 _) ?_;conv=>whnf)|(refine AC (h2 _) ?_;conv=>whnf)|(refine AC (h3 _ _) ?_;conv=>whnf)|(refine AC (h4 _ _) ?_;conv=>whnf)))
  first
   | exact C4 (cZ (by omega))
   | exact C4 (dA (by omega))
   | exact C4 (xX (by omega))
theorem Abz (N:StGLib L) (k:Nat) (hk:1<=k/\k<=68719476736) (n1 n2:Bool) (m1 d1 m2 d2:List Nat) (hm1:Sm k m1) (hd1:Sm k d1) (hm2:Sm k m2) (hd2:Sm k d2) :
  Ev L 198 [.agg (rQ false false n1 m1 d1),.agg (rQ false false n2 m2 d2)] (.int .i64 (sgn (qv n1 m1 d1-qv n2 m2 d2).num)):=by
 obtain ⟨a1,a2,a3,w1,hr1,s1,s2,s3,s4,s5⟩:=MN N.toRatGLib n1 m1 d1 k (by omega) hm1 hd1
 obtain ⟨b1,b2,b3,w2,hr2,t1,t2,t3,t4,t5⟩:=MN N.toRatGLib n2 m2 d2 k (by omega) hm2 hd2
 rw[s5,t5,<-nS s3 t3]
 by_cases hw:w1=true/\w2=true
 ·obtain ⟨rfl,rfl⟩:=hw
  have hC:=fun q q'=>kG N a1 b1 q q' a2 b2 (s1.le (by omega)) (t1.le (by omega))
  rw[s4 rfl,t4 rfl]
  rw[show zv a1 a2*((1:Nat):Int)-zv b1 b2*((1:Nat):Int)=zv a1 a2-zv b1 b2 by omega]
  refine Ev.x N.H5 rfl rfl ?_
  (repeat' (first|(refine GD ?_;conv=>whnf)|(refine AE ?_;conv=>whnf)|(refine AC (hr1) ?_;conv=>whnf)|(refine AC (hr2) ?_;conv=>whnf)|(refine AC (hC _ _) ?_;conv=>whnf)))
  exact C4 rfl
 ·have hM1:=fun q q'=>QK N.toRatGLib a1 false q q' a2 b3 s1.1 t2.1 (by have:=s1.2;have:=t2.2;omega)
  have hM2:=fun q q'=>QK N.toRatGLib b1 false q q' b2 a3 t1.1 s2.1 (by have:=t1.2;have:=s2.2;omega)
  have hna:=R3 N.toRatGLib a3
  have hnb:=R3 N.toRatGLib b3
  have g1:Sm (k+k) (dg (zv a1 a2*zv false b3).natAbs):=Q6 s1 t2
  have g2:Sm (k+k) (dg (zv b1 b2*zv false a3).natAbs):=Q6 t1 s2
  have hC:=fun q q'=>kG N (decide (zv a1 a2*zv false b3<0)) (decide (zv b1 b2*zv false a3<0)) q q' _ _ (g1.le (by omega)) (g2.le (by omega))
  rw[EW,EW]at hC
  rw[<-EG b3,<-EG a3]
  generalize zv a1 a2*zv false b3=x at *
  generalize zv b1 b2*zv false a3=y at *
  refine Ev.x N.H5 rfl rfl ?_
  cases w1<;>cases w2
  ·(repeat' (first|(refine GD ?_;conv=>whnf)|(refine PX ?_;conv=>whnf)|(refine AE ?_;conv=>whnf)|(refine AC (hr1) ?_;conv=>whnf)|(refine AC (hr2) ?_;conv=>whnf)|(refine AC (hna) ?_;conv=>whnf)|(refine AC (hnb) ?_;conv=>whnf)|(refine AC (hM1 _ _) ?_;conv=>whnf)|(refine AC (hM2 _ _) ?_;conv=>whnf)|(refine AC (hC _ _) ?_;conv=>whnf)))
   exact C4 rfl
  ·(repeat' (first|(refine GD ?_;conv=>whnf)|(refine PX ?_;conv=>whnf)|(refine AE ?_;conv=>whnf)|(refine AC (hr1) ?_;conv=>whnf)|(refine AC (hr2) ?_;conv=>whnf)|(refine AC (hna) ?_;conv=>whnf)|(refine AC (hnb) ?_;conv=>whnf)|(refine AC (hM1 _ _) ?_;conv=>whnf)|(refine AC (hM2 _ _) ?_;conv=>whnf)|(refine AC (hC _ _) ?_;conv=>whnf)))
   exact C4 rfl
  ·(repeat' (first|(refine GD ?_;conv=>whnf)|(refine PX ?_;conv=>whnf)|(refine AE ?_;conv=>whnf)|(refine AC (hr1) ?_;conv=>whnf)|(refine AC (hr2) ?_;conv=>whnf)|(refine AC (hna) ?_;conv=>whnf)|(refine AC (hnb) ?_;conv=>whnf)|(refine AC (hM1 _ _) ?_;conv=>whnf)|(refine AC (hM2 _ _) ?_;conv=>whnf)|(refine AC (hC _ _) ?_;conv=>whnf)))
   exact C4 rfl
  ·exact absurd ⟨rfl,rfl⟩ hw
theorem ZW (N:StGLib L) {x y:Rat} {k l:Nat} (hx:Bt k x) (hy:Bt l y) (hk:k<2199023255552) (hl:l<2199023255552):Ev L 198 [.agg (eQ x),.agg (eQ y)] (.int .i64 (sgn (x-y).num)):=by
 have:=Abz N 68719476736 (by omega) (decide (x.num<0)) (decide (y.num<0)) _ _ _ _ (hx.sm hk).1 (hx.sm hk).2 (hy.sm hl).1 (hy.sm hl).2
 rw[EZ,EZ]at this
 exact this
theorem Abe (N:StGLib L) {x:Rat} {k:Nat} (hx:Bt k x) (hk:k<2199023255552):Ev L 199 [.agg (eQ x)] (.agg (eQ (-x))):=by
 have hF:=kE N.toRatHLib (decide (x.num<0)) (dg x.num.natAbs) (dg x.den)
 have hT:=fun q1 q2=>Z9 N.toRatGLib (!decide (x.num<0)) q1 q2 _ _ ((hx.sm hk).1.le (by omega)) ((hx.sm hk).2.le (by omega))
 rw[pH,EZ]at hT
 refine Ev.x N.KM rfl rfl ?_
 (repeat' (first|(refine eI ?_;conv=>whnf)|(refine AE ?_;conv=>whnf)|(refine AC (hF) ?_;conv=>whnf)|(refine AC (hT _ _) ?_;conv=>whnf)))
 exact AY rfl (DS _)
theorem kM (N:StGLib L) (q:Bool) (l:List Rat) (k:Nat) (hl:Bs k l) (hk:k<2199023255552) (hn:l.length<=1000000):Ev L 200 [.sl q (l.map eQ)] (.int .i64 ((C3 l l.length:Int)-1)):=by
 refine Ev.x N.KA rfl rfl ?_
 (repeat' (refine AE ?_;conv=>whnf))
 refine E6 1000 N.E5 rfl rfl ?_
 (repeat' (first|(refine AW ?_;conv=>whnf)|(refine AE ?_;conv=>whnf)))
 refine CE (fun n=>n) (fun (n:Nat)=>n<=l.length/\C3 l l.length=C3 l n) (fun n=>[(3,.int .i64 n)]) (fun _=>[]) [] [] l.length (by (conv=>whnf);exact ⟨rfl,rfl,rfl⟩) ⟨Nat.le_refl _,rfl⟩ ?_
 intro n ⟨p1,p2⟩ ih
 have done : ∀ {n:Nat},C3 l l.length=n->B5 l=l.take n:=fun h=>by rw[B5,h]
 by_cases hz:n=0\/(∃ m x,n=m+1/\l[m]? = some x/\x≠0)
 ·have hcut:C3 l l.length=n:=by
   rw[p2]
   rcases hz with rfl|⟨m,x,rfl,h1,h2⟩
   ·rfl
   ·rw[C3,if_neg]
    rw[List.getD_eq_getElem?_getD,h1];exact h2
  have htq:=done hcut
  have htl:(l.take n).length=n:=by rw[List.length_take];omega
  clear ih hcut p2 done
  rcases hz with h0|⟨m,x,hnm,h1,h2⟩
  case' inl=>(repeat' (first|(refine AG (fun hc => ?_) (fun hc => ?_)<;>first|(exfalso;omega)|(conv=>whnf))|(refine AE ?_;conv=>whnf)))
  case' inr =>
   have h1':l[((n:Int)-1).toNat]? = some x:=by rw[show ((n:Int)-1).toNat=m by omega];exact h1
   have hS':=HZ N.toRatGLib (hl.at h1) (by omega)
   have hs:=IG (x:=x)
   generalize sgn x.num=s at *
   have hS : ∀ v,l[((n:Int)-1).toNat]? = some v->Ev L 97 [.agg (eQ v)] (.int .i64 s):=fun v h=>by
    obtain rfl:=Option.some.inj (h1'.symm.trans h)
    exact hS'
   have hs0:s≠0:=fun h=>h2 (hs.1 h)
   (repeat' (first|(refine AG (fun hc => ?_) (fun hc => ?_)<;>first|(exfalso;omega)|(conv=>whnf))|(refine CF ?_ ?_;omega;conv=>whnf)|(refine BL (by assumption) ?_ rfl ?_;omega;conv=>whnf)|(refine AE ?_;conv=>whnf)|(refine AC (hS') ?_;conv=>whnf)))
  all_goals
   refine M3 (enc:=eQ) (fun _=>rfl) p1 ?_
   (conv=>whnf)
   skip
   refine ⟨rfl,_,rfl,?_⟩
   (conv=>whnf)
   (repeat' (first|(refine CF ?_ ?_;omega;conv=>whnf)|(refine AW ?_;conv=>whnf)))
   have hcut':C3 l l.length=n:=by rw[<-NK,htq,htl]
   rw[hcut']
   exact C4 (by rw[htl])
 ·obtain ⟨m,rfl⟩ : ∃ m,n=m+1:=⟨n-1,by omega⟩
  obtain ⟨x,hx⟩ : ∃ x,l[m]? = some x:=⟨_,zE (by omega)⟩
  have hx0:x=0:=by
   rcases Classical.em (x=0) with h|h
   ·exact h
   ·exact (hz (Or.inr ⟨m,x,rfl,hx,h⟩)).elim
  have hx':l[((m+1:Nat)-1:Int).toNat]? = some x:=by rw[show ((m+1:Nat)-1:Int).toNat=m by omega];exact hx
  have hS':=HZ N.toRatGLib (hl.at hx) (by omega)
  have hs:=IG (x:=x)
  generalize sgn x.num=s at *
  have hS : ∀ v,l[((m+1:Nat)-1:Int).toNat]? = some v->Ev L 97 [.agg (eQ v)] (.int .i64 s):=fun v h=>by
   obtain rfl:=Option.some.inj (hx'.symm.trans h)
   exact hS'
  have hs0:=hs.2 hx0
  (repeat' (first|(refine AG (fun hc => ?_) (fun hc => ?_)<;>first|(exfalso;omega)|(conv=>whnf))|(refine CF ?_ ?_;omega;conv=>whnf)|(refine BL (by assumption) ?_ rfl ?_;omega;conv=>whnf)|(refine AE ?_;conv=>whnf)|(refine AC (hS') ?_;conv=>whnf)))
  rw[show ((m+1:Nat):Int)-1=(m:Int) by omega]
  exact A4 [] (by (conv=>whnf);exact ⟨rfl,rfl,rfl⟩) (ih m (by omega) ⟨by omega,by rw[p2,C3,if_pos (by rw[List.getD_eq_getElem?_getD,hx];exact hx0)]⟩)
end Go.Eng

namespace Go.Eng
open F
attribute [local irreducible] AA AF AR AD B0 AU AX A8 A6 BN AP BK BV CN BI AZ BG BQ AB A7 AJ pw BH BF B9 B8 CI B7 CB BM B3
set_option maxHeartbeats 1000000
variable {L:Lib}
def G1 (n:Int):Prop := -9223372036854775808<=n/\n<=9223372036854775807
structure Wd where
 b:Int
 f:Int
 r:Int
 o:Int
def WV (w:Wd):Prop:=4<=w.b/\w.b<=24/\0<=w.f/\w.f<w.b/\1<=w.r/\w.r<=3/\1<=w.o/\w.o<=2
instance (w : Wd) : Decidable (WV w) := by unfold WV; infer_instance
variable (w:Wd)
def Ac8:Int:=if WV w then -pw (w.b-1) else 0
def Acg:Int:=if WV w then pw (w.b-1)-1 else 0
def FT (v:Int):Prop:=WV w/\Ac8 w<=v/\v<=Acg w
instance (v : Int) : Decidable (FT w v) := by unfold FT; infer_instance
end Go.Eng

namespace Go.Eng
open F
attribute [local irreducible] AA AF AR AD B0 AU AX A8 A6 BN AP BK BV CN BI AZ BG BQ AB A7 AJ pw BH BF B9 B8 CI B7 CB BM B3
set_option maxHeartbeats 1000000
variable {L:Lib}
structure Nd where
 q:Bool
 ts:List (Int × Int)
structure Nt where
 d:Wd
 c:Wd
 s:Int
 qn:Bool
 nodes:List Nd
 qx:Bool
 next:List Int
 out:Int
variable (n:Nt)
end Go.Eng

namespace Go.Eng
open F
attribute [local irreducible] AA AF AR AD B0 AU AX A8 A6 BN AP BK BV CN BI AZ BG BQ AB A7 AJ pw BH BF B9 B8 CI B7 CB BM B3
set_option maxHeartbeats 1000000
variable {L:Lib}
def F8 (v m:Int):Int:=if m<1 then 0 else v%m
theorem aB (W:WorldLib L) (v m:Int) (hv:G1 v) (hm:m<=9223372036854775807):Ev L 34 [.int .i64 v,.int .i64 m] (.int .i64 (F8 v m)):=by
 unfold G1 at hv
 refine Ev.x W.ME rfl rfl ?_
 (repeat' (first|(refine AG (fun hc => ?_) (fun hc => ?_)<;>first|(exfalso;omega)|(conv=>whnf))|(refine A0 ?_ ?_;omega;conv=>whnf)|(refine RJ ?_ (fun _ _ _ => ?_) (fun _ _ _ _ => ?_);omega;all_goals first|(exfalso;omega)|(conv=>whnf))|(refine AE ?_;conv=>whnf)))
 all_goals (refine C4 ?_;unfold F8;first|rw[if_pos (by omega)]|rw[if_neg (by omega)])
 all_goals omega
def HK (l:List Int) (i:Int):Int:=if 0<=i/\i<l.length then l.getD i.toNat 0 else 0
theorem lG (W:WorldLib L) (l:List Int) (q:Bool) (i:Int):Ev L 35 [.sl q (l.map NZ),.int .i64 i] (.int .i64 (HK l i)):=by
 refine Ev.x W.MA rfl rfl ?_
 (repeat' (first|(refine AG (fun hc => ?_) (fun hc => ?_)<;>first|(exfalso;omega)|(conv=>whnf))|(refine AW ?_;conv=>whnf)|(refine YO ?_ (fun _=>rfl) (fun e he => ?_);omega;conv=>whnf)|(refine AE ?_;conv=>whnf)))
 all_goals (refine C4 ?_;unfold HK;first|rw[if_neg (by omega)]|(rw[if_pos (by omega),List.getD_eq_getElem?_getD,he];rfl))
theorem sI {v m:Int} (h:1<=m):0<=F8 v m/\F8 v m<m:=by
 unfold F8
 rw[if_neg (by omega)]
 exact ⟨Int.emod_nonneg _ (by omega),Int.emod_lt_of_pos _ (by omega)⟩
end Go.Eng

namespace Go.Eng
open F
attribute [local irreducible] AA AF AR AD B0 AU AX A8 A6 BN AP BK BV CN BI AZ BG BQ AB A7 AJ pw BH BF B9 B8 CI B7 CB BM B3
set_option maxHeartbeats 1000000
variable {L:Lib} (n:Nt)
end Go.Eng

namespace Go.Eng
open F
attribute [local irreducible] AA AF AR AD B0 AU AX A8 A6 BN AP BK BV CN BI AZ BG BQ AB A7 AJ pw BH BF B9 B8 CI B7 CB BM B3
set_option maxHeartbeats 4000000
variable {L:Lib}
theorem WR (N:SysGLib L) (S:B4) (n k:Nat) (h:S.Ok n k) (hn:n<=64):Ev L 130 [.agg (eS S)] (.bool true):=by
 have h1:=h.la
 have h2:=h.lb
 have h3:=h.lc
 refine Ev.x N.J4 rfl rfl ?_
 (repeat' (first|(refine AG (fun hc => ?_) (fun hc => ?_)<;>first|(exfalso;omega)|(conv=>whnf))|(refine AW ?_;conv=>whnf)|(refine AE ?_;conv=>whnf)))
 refine CE (fun i=>S.a.length-i) (fun (i:Nat)=>i<=S.a.length) (fun i=>[(28,.int .i64 i)]) (fun _=>[]) [] [] 0 (by (conv=>whnf);exact ⟨rfl,rfl,rfl⟩) (by omega) ?_
 intro i p1 ih
 by_cases hi:i<S.a.length
 ·obtain ⟨r,hr⟩ : ∃ r,S.a[i]? = some r:=⟨_,zE hi⟩
  have hr':S.a[(i:Int).toNat]? = some r:=hr
  have hrl:=h.lr r (zM hr)
  (repeat' (first|(refine AG (fun hc => ?_) (fun hc => ?_)<;>first|(exfalso;omega)|(conv=>whnf))|(refine A0 ?_ ?_;omega;conv=>whnf)|(refine AW ?_;conv=>whnf)|(refine BL (by assumption) ?_ rfl ?_;omega;conv=>whnf)|(refine AE ?_;conv=>whnf)))
  exact A4 [] (by (conv=>whnf);exact ⟨rfl,rfl,rfl⟩) (ih (i+1) (by omega) (by omega))
 ·obtain rfl:i=S.a.length:=by omega
  clear ih
  (repeat' (first|(refine AG (fun hc => ?_) (fun hc => ?_)<;>first|(exfalso;omega)|(conv=>whnf))|(refine AE ?_;conv=>whnf)))
  exact IK rfl
theorem AbJ (N:SysGLib L) (n:Nat) (hn:n<=65536):Ev L 131 [.int .i64 (n:Int)] (.sl false ((List.replicate n (0:Rat)).map eQ)):=by
 have hO:=JE N.toRatGLib 0 (by omega)
 refine Ev.x N.HA rfl rfl ?_
 (repeat' (refine AE ?_;conv=>whnf))
 refine EB (enc:=eO) none n rfl rfl (by omega) ?_
 (conv=>whnf)
 skip
 refine CE (fun i=>n-i) (fun (i:Nat)=>i<=n) (fun i=>[(9,.int .i64 i)]) (fun i=>[(131006,131006,.rw 3 ((EH (List.replicate i 0) n).map eO))]) [] [] 0 (by first|exact (by (conv=>whnf);exact ⟨rfl,rfl,rfl⟩)|(rw[<-IU];exact (by (conv=>whnf);exact ⟨rfl,rfl,rfl⟩))) (by omega) ?_
 intro i p1 ih
 by_cases hi:i<n
 ·have hl:=H0 (l:=List.replicate i (0:Rat)) (m:=n) (by simp;omega)
  have hs:=IV (l:=List.replicate i (0:Rat)) (m:=n) (x:=0) (by simp;omega)
  rw[List.length_replicate]at hs
  (repeat' (first|(refine AG (fun hc => ?_) (fun hc => ?_)<;>first|(exfalso;omega)|(conv=>whnf))|(refine A3 ?_ ?_;omega;conv=>whnf)|(refine AE ?_;conv=>whnf)|(refine AC (hO) ?_;conv=>whnf)))
  refine E9 (enc:=eO) (some 0) rfl (fun e=>by cases e<;>rfl) (by omega) ?_
  (conv=>whnf)
  (repeat' (refine A0 ?_ ?_;omega;conv=>whnf))
  rw[hs]
  rw[show List.replicate i (0:Rat)++[0]=List.replicate (i+1) 0 by rw[List.replicate_succ']]
  exact A4 [] (by (conv=>whnf);exact ⟨rfl,rfl,rfl⟩) (ih (i+1) (by omega) (by omega))
 ·obtain rfl:i=n:=by omega
  clear ih
  rw[IR (by simp)]
  (repeat' (first|(refine AG (fun hc => ?_) (fun hc => ?_)<;>first|(exfalso;omega)|(conv=>whnf))|(refine DE (fun _=>rfl) rfl ?_ ?_;(first|rfl|simp);conv=>whnf)|(refine AE ?_;conv=>whnf)))
  exact AY rfl (by simp only[A9,true_and];exact FR _)
theorem T3 (N:SysGLib L) (a b:List Rat) (q1 q2:Bool) (k s:Nat) (hl:a.length=b.length) (ha:Bs k a) (hb:Bs s b) (hK:a.length*(k+s+1)+k+s<2199023255552) (hal:a.length<=1099511627776):Ev L 132 [.sl q1 (a.map eQ),.sl q2 (b.map eQ)] (.agg (eQ (BC a b))):=by
 have hO:=JE N.toRatGLib 0 (by omega)
 refine Ev.x N.J6 rfl rfl ?_
 (repeat' (first|(refine AW ?_;conv=>whnf)|(refine AE ?_;conv=>whnf)|(refine AC (hO) ?_;conv=>whnf)))
 refine HG (fun i _=>a.length-i) (fun (i:Nat) (acc:Rat)=>i<=a.length/\acc=BC (a.take i) (b.take i)) (fun i acc=>[(11,.int .i64 i)]) (fun i acc=>[(5,5,.bx (eQ acc))]) [] [] 0 ((0:Int):Rat) (by (conv=>whnf);exact ⟨rfl,rfl,rfl⟩) ⟨by omega,by simp [BC]⟩ ?_
 intro i acc ⟨p1,p2⟩ ih
 by_cases hi:i<a.length
 ·obtain ⟨x,hx⟩ : ∃ x,a[i]? = some x:=⟨_,zE hi⟩
  obtain ⟨y,hy⟩ : ∃ y,b[i]? = some y:=⟨_,zE (by omega)⟩
  have hx':a[(i:Int).toNat]? = some x:=hx
  have hy':b[(i:Int).toNat]? = some y:=hy
  have bx:=ha.at hx
  have by':=hb.at hy
  have hS1:=HZ N.toRatGLib bx (by omega)
  have hS2:=HZ N.toRatGLib by' (by omega)
  have hM:=PB N.toRatGLib bx by' (by omega) (by omega)
  have hacc:Bt (a.length*(k+s+1)) acc:=by
   rw[p2]
   have:=(ha.take i).dot (hb.take i)
   refine this.le (Nat.mul_le_mul_right _ ?_)
   rw[List.length_take];omega
  have hA:=QJ N.toRatGLib hacc (bx.mul by') (by omega) (by omega)
  have hst:=ZN hx hy
  have z1:=IG (x:=x)
  have z2:=IG (x:=y)
  generalize sgn x.num=sx at *
  generalize sgn y.num=sy at *
  by_cases h1:sx=0
  ·have hx0:=z1.1 h1
   (repeat' (first|(refine AG (fun hc => ?_) (fun hc => ?_)<;>first|(exfalso;omega)|(conv=>whnf))|(refine A0 ?_ ?_;omega;conv=>whnf)|(refine BL (by assumption) ?_ rfl ?_;omega;conv=>whnf)|(refine AE ?_;conv=>whnf)|(refine AC (hS1) ?_;conv=>whnf)))
   refine A4 [] (by (conv=>whnf);exact ⟨rfl,rfl,rfl⟩) (ih (i+1) acc (by omega) ⟨by omega,?_⟩)
   rw[hst,hx0,Rat.zero_mul,Rat.add_zero];exact p2
  ·by_cases h2:sy=0
   ·have hy0:=z2.1 h2
    (repeat' (first|(refine AG (fun hc => ?_) (fun hc => ?_)<;>first|(exfalso;omega)|(conv=>whnf))|(refine A0 ?_ ?_;omega;conv=>whnf)|(refine BL (by assumption) ?_ rfl ?_;omega;conv=>whnf)|(refine AE ?_;conv=>whnf)|(refine AC (hS1) ?_;conv=>whnf)|(refine AC (hS2) ?_;conv=>whnf)))
    refine A4 [] (by (conv=>whnf);exact ⟨rfl,rfl,rfl⟩) (ih (i+1) acc (by omega) ⟨by omega,?_⟩)
    rw[hst,hy0,Rat.mul_zero,Rat.add_zero];exact p2
   ·(repeat' (first|(refine AG (fun hc => ?_) (fun hc => ?_)<;>first|(exfalso;omega)|(conv=>whnf))|(refine A0 ?_ ?_;omega;conv=>whnf)|(refine BL (by assumption) ?_ rfl ?_;omega;conv=>whnf)|(refine AE ?_;conv=>whnf)|(refine AC (hS1) ?_;conv=>whnf)|(refine AC (hS2) ?_;conv=>whnf)|(refine AC (hM) ?_;conv=>whnf)|(refine AC (hA) ?_;conv=>whnf)))
    refine A4 [] (by (conv=>whnf);exact ⟨rfl,rfl,rfl⟩) (ih (i+1) (acc+x*y) (by omega) ⟨by omega,?_⟩)
    rw[hst,<-p2]
 ·obtain rfl:i=a.length:=by omega
  clear ih
  rw[ZK rfl]at p2
  rw[<-p2]
  (repeat' (first|(refine AG (fun hc => ?_) (fun hc => ?_)<;>first|(exfalso;omega)|(conv=>whnf))|(refine AE ?_;conv=>whnf)))
  exact AY rfl (DS _)
theorem AaV (N:SysGLib L) (S:B4) (dm kz sz:Nat) (h:S.Ok dm kz) (hn:dm<=64) (st xs:List Rat) (q1 q2:Bool) (hst:st.length=dm) (bst:Bs sz st) (bxs:Bs kz xs) (hxl:xs.length<=4096)
  (hK : ∀ i,i<=xs.length->MU dm kz sz i<1099511627776) (hs0:sz<1099511627776) (hk0:kz<1099511627776) :
  Ev L 133 [.agg (eS S),.sl q1 (st.map eQ),.sl q2 (xs.map eQ)] (.tup [.sl false ((S.outs st xs).map eQ),.sl false ((S.state st xs).map eQ),.int .i64 0]):=by
 have hSd:=WR N S dm kz h hn
 have hla:=h.la
 have hlb:=h.lb
 have hlc:=h.lc
 refine Ev.x N.J3 rfl rfl ?_
 (repeat' (first|(refine AG (fun hc => ?_) (fun hc => ?_)<;>first|(exfalso;omega)|(conv=>whnf))|(refine AW ?_;conv=>whnf)|(refine AE ?_;conv=>whnf)|(refine AC (hSd) ?_;conv=>whnf)))
 refine EB (enc:=eO) none st.length rfl rfl (by omega) ?_
 (conv=>whnf)
 (repeat' (refine AW ?_;conv=>whnf))
 refine CE (fun i=>st.length-i) (fun (i:Nat)=>i<=st.length) (fun i=>[(35,.int .i64 i)]) (fun i=>[(133032,133032,.rw 3 ((EH (st.take i) st.length).map eO))]) [] [] 0 (by first|exact (by (conv=>whnf);exact ⟨rfl,rfl,rfl⟩)|(rw[List.take_zero,<-IU];exact (by (conv=>whnf);exact ⟨rfl,rfl,rfl⟩))) (by omega) ?_
 intro i p1 ih
 by_cases hi:i<st.length
 ·obtain ⟨x,hx⟩ : ∃ x,st[i]? = some x:=⟨_,zE hi⟩
  have hx':st[(i:Int).toNat]? = some x:=hx
  have hT:=WT N.toRatGLib (bst.at hx) (by omega)
  have hl:=H0 (l:=st.take i) (m:=st.length) (by rw[List.length_take];omega)
  have hs:=IV (l:=st.take i) (m:=st.length) (x:=x) (by rw[List.length_take];omega)
  rw[List.length_take,Nat.min_eq_left (by omega),<-OX hx]at hs
  (repeat' (first|(refine AG (fun hc => ?_) (fun hc => ?_)<;>first|(exfalso;omega)|(conv=>whnf))|(refine A3 ?_ ?_;omega;conv=>whnf)|(refine BL (by assumption) ?_ rfl ?_;omega;conv=>whnf)|(refine AE ?_;conv=>whnf)|(refine AC (hT) ?_;conv=>whnf)))
  refine E9 (enc:=eO) (some x) rfl (fun e=>by cases e<;>rfl) (by omega) ?_
  (conv=>whnf)
  (repeat' (refine A0 ?_ ?_;omega;conv=>whnf))
  rw[hs]
  exact A4 [] (by (conv=>whnf);exact ⟨rfl,rfl,rfl⟩) (ih (i+1) (by omega) (by omega))
 obtain rfl:i=st.length:=by omega
 clear ih
 rw[List.take_of_length_le (Nat.le_refl _),IR rfl]
 (repeat' (first|(refine AG (fun hc => ?_) (fun hc => ?_)<;>first|(exfalso;omega)|(conv=>whnf))|(refine AW ?_;conv=>whnf)|(refine AE ?_;conv=>whnf)))
 refine EB (enc:=eO) none 0 rfl rfl (by omega) ?_
 (conv=>whnf)
 (repeat' (refine AW ?_;conv=>whnf))
 refine VH (fun i _ _ _=>xs.length-i) (fun (i:Nat) (nw os:List Rat) (_:Nat)=>i<=xs.length/\nw=S.state st (xs.take i)/\os=S.outs st (xs.take i)) (fun i nw os _=>[(51,.int .i64 i),(12,.row 133048 0 3 0 os.length),(9,.row 133032 0 3 0 nw.length)]) (fun i nw os t=>[(133048,133048,.rw 3 (os.map eQ)),(133032,t,.rw 3 (nw.map eQ))]) [] [] 0 st [] 133032 (by (conv=>whnf);exact ⟨rfl,rfl,rfl⟩) ⟨by omega,rfl,rfl⟩ ?_
 intro i nw os t ⟨p1,p2,p3⟩ ih
 have hnl:nw.length=dm:=by rw[p2];exact h.state_len _ _ hst
 have hol:os.length=i:=by rw[p3,XG,List.length_take];omega
 by_cases hi:i<xs.length
 ·obtain ⟨x,hx⟩ : ∃ x,xs[i]? = some x:=⟨_,zE hi⟩
  have hx':xs[(i:Int).toNat]? = some x:=hx
  have bx:=bxs.at hx
  have bnw:Bs (MU dm kz sz i) nw:=by
   have:=h.state_bs (xs.take i) st sz hst bst (bxs.take i)
   rw[List.length_take,Nat.min_eq_left (by omega)]at this
   rw[p2];exact this
  have hk1:=hK i (by omega)
  have hk2:=hK (i+1) (by omega)
  rw[pP]at hk2
  obtain ⟨bn,bo⟩:=h.next_bs hnl bnw bx
  have hst2:S.state st (xs.take (i+1))=S.next nw x:=by rw[OX hx,rF,<-p2]
  have hos2:S.outs st (xs.take (i+1))=os++[S.out nw x]:=by rw[OX hx,pA,<-p2,<-p3]
  generalize hkk:MU dm kz sz i=kk at *
  have hkk2:dm*(kz+kk+1)+(kz+kz)+1<1099511627776:=by unfold N4 at hk2;exact hk2
  have hP:=fun q q'=>T3 N S.c nw q q' kz kk (by omega) h.bc bnw (by rw[hlc];omega) (by omega)
  have hM1:=PB N.toRatGLib h.bd bx (by omega) (by omega)
  have bd1:=h.bc.dot bnw
  rw[hlc]at bd1
  have hA1:=QJ N.toRatGLib bd1 (h.bd.mul bx) (by omega) (by omega)
  (repeat' (first|(refine AG (fun hc => ?_) (fun hc => ?_)<;>first|(exfalso;omega)|(conv=>whnf))|(refine BL (by assumption) ?_ rfl ?_;omega;conv=>whnf)|(refine DE (fun _=>rfl) rfl ?_ ?_;(first|rfl|simp);conv=>whnf)|(refine EK ?_;conv=>whnf)|(refine AE ?_;conv=>whnf)|(refine AC (hP _ _) ?_;conv=>whnf)|(refine AC (hM1) ?_;conv=>whnf)|(refine AC (hA1) ?_;conv=>whnf)))
  refine E2 (enc:=eQ) (S.out nw x) rfl rfl rfl (by omega) (by omega) ?_
  (conv=>whnf)
  skip
  refine EB (enc:=eO) none nw.length rfl rfl (by omega) ?_
  (conv=>whnf)
  (repeat' (refine AW ?_;conv=>whnf))
  have hnl2:=h.next_len nw x
  generalize hNx:S.next nw x=nx at *
  refine CE (fun j=>S.a.length-j) (fun (j:Nat)=>j<=S.a.length) (fun j=>[(73,.int .i64 j)]) (fun j=>[(133069,133069,.rw 3 ((EH (nx.take j) nw.length).map eO))]) [] [] 0 (by first|exact (by (conv=>whnf);exact ⟨rfl,rfl,rfl⟩)|(rw[List.take_zero,<-IU];exact (by (conv=>whnf);exact ⟨rfl,rfl,rfl⟩))) (by omega) ?_
  intro j r1 jh
  by_cases hj:j<S.a.length
  ·obtain ⟨r,hr⟩ : ∃ r,S.a[j]? = some r:=⟨_,zE hj⟩
   obtain ⟨b,hb0⟩ : ∃ b,S.b[j]? = some b:=⟨_,zE (by omega)⟩
   have hr':S.a[(j:Int).toNat]? = some r:=hr
   have hb':S.b[(j:Int).toNat]? = some b:=hb0
   have hrl:=h.lr r (zM hr)
   have bb:=h.bb.at hb0
   have hP2:=fun q q'=>T3 N r nw q q' kz kk (by omega) (h.ba r (zM hr)) bnw (by rw[hrl];omega) (by omega)
   have hM2:=PB N.toRatGLib bb bx (by omega) (by omega)
   have bd2:=(h.ba r (zM hr)).dot bnw
   rw[hrl]at bd2
   have hA2:=QJ N.toRatGLib bd2 (bb.mul bx) (by omega) (by omega)
   have hnj:nx[j]? = some (BC r nw+b*x):=by rw[<-hNx];exact oF nw x S.a S.b j r b hr hb0
   have hl:=H0 (l:=nx.take j) (m:=nw.length) (by rw[List.length_take];omega)
   have hs:=IV (l:=nx.take j) (m:=nw.length) (x:=BC r nw+b*x) (by rw[List.length_take];omega)
   rw[List.length_take,Nat.min_eq_left (by omega),<-OX hnj]at hs
   generalize BC r nw+b*x=y at *
   (repeat' (first|(refine AG (fun hc => ?_) (fun hc => ?_)<;>first|(exfalso;omega)|(conv=>whnf))|(refine A3 ?_ ?_;omega;conv=>whnf)|(refine BL (by assumption) ?_ rfl ?_;omega;conv=>whnf)|(refine DE (fun _=>rfl) rfl ?_ ?_;(first|rfl|simp);conv=>whnf)|(refine AE ?_;conv=>whnf)|(refine AC (hP2 _ _) ?_;conv=>whnf)|(refine AC (hM2) ?_;conv=>whnf)|(refine AC (hA2) ?_;conv=>whnf)))
   refine E9 (enc:=eO) (some y) rfl (fun e=>by cases e<;>rfl) (by omega) ?_
   (conv=>whnf)
   (repeat' (refine A0 ?_ ?_;omega;conv=>whnf))
   rw[hs]
   exact A4 [] (by (conv=>whnf);exact ⟨rfl,rfl,rfl⟩) (jh (j+1) (by omega) (by omega))
  ·obtain rfl:j=S.a.length:=by omega
   clear jh
   rw[List.take_of_length_le (by omega),IR (by omega)]
   rw[show nw.length=nx.length by omega]
   (repeat' (first|(refine AG (fun hc => ?_) (fun hc => ?_)<;>first|(exfalso;omega)|(conv=>whnf))|(refine A0 ?_ ?_;omega;conv=>whnf)|(refine AE ?_;conv=>whnf)))
   refine A4 [(133032,133069),(133048,133066)] (by (conv=>whnf);exact ⟨rfl,rfl,rfl⟩) (ih (i+1) nx (os++[S.out nw x]) 133069 (by omega) ⟨by omega,by rw[hst2],by rw[hos2]⟩)
 ·obtain rfl:i=xs.length:=by omega
  clear ih
  rw[List.take_of_length_le (Nat.le_refl _)]at p2 p3
  rw[<-p2,<-p3]
  (repeat' (first|(refine AG (fun hc => ?_) (fun hc => ?_)<;>first|(exfalso;omega)|(conv=>whnf))|(refine DE (fun _=>rfl) rfl ?_ ?_;(first|rfl|simp);conv=>whnf)|(refine AE ?_;conv=>whnf)))
  exact AY rfl (xS _ _ _)
theorem Bs.zeros (k n:Nat):Bs k (List.replicate n 0):=fun x hx=>by rw[(List.mem_replicate.1 hx).2];exact Bt.zero k
theorem jX (N:SysGLib L) (S:B4) (n k c:Nat) (h:S.Ok n k) (hn:n<=64) (hc0:c<=4096) (hK : ∀ i,i<=c->MU n k 0 i<1099511627776) (hk0:k<1099511627776) :
  Ev L 134 [.agg (eS S),.int .i64 (c:Int)] (.tup [.sl false ((S.outs (List.replicate n 0) (GU c)).map eQ),.int .i64 0]):=by
 have hSd:=WR N S n k h hn
 have hla:=h.la
 have hO:=JE N.toRatGLib 0 (by omega)
 have hI:=JE N.toRatGLib 1 (by omega)
 have hZ:=AbJ N n (by omega)
 rw[<-hla]at hZ
 have hR:=fun q1 q2=>AaV N S n k 0 h hn (List.replicate S.a.length 0) (GU c) q1 q2 (by simp [hla]) (Bs.zeros _ _) (aT k c) (by rw[R9];omega) (by rw[R9];exact hK) (by omega) hk0
 rw[<-hla]
 refine Ev.x N.J2 rfl rfl ?_
 (repeat' (first|(refine AG (fun hc => ?_) (fun hc => ?_)<;>first|(exfalso;omega)|(conv=>whnf))|(refine AE ?_;conv=>whnf)|(refine AC (hSd) ?_;conv=>whnf)))
 refine E6 1000 N.HA rfl rfl ?_
 (repeat' (refine AE ?_;conv=>whnf))
 refine EB (enc:=eO) none c rfl rfl (by omega) ?_
 (conv=>whnf)
 skip
 refine CE (fun i=>c-i) (fun (i:Nat)=>i<=c) (fun i=>[(9,.int .i64 i)]) (fun i=>[(131006,131006,.rw 3 ((EH (List.replicate i 0) c).map eO))]) [] [] 0 (by first|exact (by (conv=>whnf);exact ⟨rfl,rfl,rfl⟩)|(rw[<-IU];exact (by (conv=>whnf);exact ⟨rfl,rfl,rfl⟩))) (by omega) ?_
 intro i p1 ih
 by_cases hi:i<c
 ·have hl:=H0 (l:=List.replicate i (0:Rat)) (m:=c) (by simp;omega)
  have hs:=IV (l:=List.replicate i (0:Rat)) (m:=c) (x:=0) (by simp;omega)
  rw[List.length_replicate]at hs
  (repeat' (first|(refine AG (fun hc => ?_) (fun hc => ?_)<;>first|(exfalso;omega)|(conv=>whnf))|(refine A3 ?_ ?_;omega;conv=>whnf)|(refine AE ?_;conv=>whnf)|(refine AC (hO) ?_;conv=>whnf)))
  refine E9 (enc:=eO) (some 0) rfl (fun e=>by cases e<;>rfl) (by omega) ?_
  (conv=>whnf)
  (repeat' (refine A0 ?_ ?_;omega;conv=>whnf))
  rw[hs]
  rw[show List.replicate i (0:Rat)++[0]=List.replicate (i+1) 0 by rw[List.replicate_succ']]
  exact A4 [] (by (conv=>whnf);exact ⟨rfl,rfl,rfl⟩) (ih (i+1) (by omega) (by omega))
 obtain rfl:i=c:=by omega
 clear ih
 rw[IR (by simp)]
 by_cases hc1:i=0
 ·subst hc1
  (repeat' (first|(refine AG (fun hc => ?_) (fun hc => ?_)<;>first|(exfalso;omega)|(conv=>whnf))|(refine AE ?_;conv=>whnf)))
  refine ⟨rfl,_,rfl,?_⟩
  (conv=>whnf)
  (repeat' (first|(refine AG (fun hc => ?_) (fun hc => ?_)<;>first|(exfalso;omega)|(conv=>whnf))|(refine AW ?_;conv=>whnf)|(refine DE (fun _=>rfl) rfl ?_ ?_;(first|rfl|simp);conv=>whnf)|(refine AC (hZ) ?_;conv=>whnf)|(refine AC (hR _ _) ?_;conv=>whnf)))
  exact AY rfl (gK _ _)
 ·have himp:(List.replicate i (0:Rat)).set 0 1=GU i:=by
   rcases i with _|i
   ·exact absurd rfl hc1
   ·simp [GU,List.replicate_succ]
  (repeat' (first|(refine AG (fun hc => ?_) (fun hc => ?_)<;>first|(exfalso;omega)|(conv=>whnf))|(refine AE ?_;conv=>whnf)))
  refine ⟨rfl,_,rfl,?_⟩
  (conv=>whnf)
  (repeat' (first|(refine AG (fun hc => ?_) (fun hc => ?_)<;>first|(exfalso;omega)|(conv=>whnf))|(refine A3 ?_ ?_;omega;conv=>whnf)|(refine AC (hI) ?_;conv=>whnf)))
  refine O6 (enc:=eQ) 0 1 rfl rfl (fun _=>rfl) (by simp;omega) ?_
  (conv=>whnf)
  rw[himp]
  (repeat' (first|(refine AW ?_;conv=>whnf)|(refine AC (hZ) ?_;conv=>whnf)))
  refine DE (enc:=eQ) (fun _=>rfl) rfl (R9 i).symm ?_
  (conv=>whnf)
  (repeat' (refine AC (hR _ _) ?_;conv=>whnf))
  exact AY rfl (gK _ _)
end Go.Eng

namespace Go.Eng
end Go.Eng

namespace Go.Eng
variable {L:Lib}
def eV (fn:AFn) (z:Nat) (es:List (List AV)) (tm:Tm) (M:Mem):Prop:=match fn.res with
 | [.tmp t]=>match tg tm t with
  | .row k 0 z' 0 n=>match mget M k with
   | some (_,.rw z'' es')=>z'=z/\z''=z/\n=es.length/\es'=es/\FG es
   | _=>False
  | _=>False
 | _=>False
theorem MZ.x {f:Nat} {fn:AFn} {vs:List AV} {z:Nat} {es:List (List AV)} (hL:L f=some fn) (hp:Nat.beq vs.length fn.pars=true) (hd:ML vs=true) (h:AA L [.code fn.body] (CZ 0 vs) [] (eV fn z es)):MZ L f vs z es:=by
 obtain ⟨n,c,st',hr,σ,tm,M,hR,hq⟩:=h (fun _ _=>(0,0)) ⟨CZ 0 vs,AH.emp⟩ ⟨fun j=>Or.inr (by rw[L7];exact TN hd j),⟨(fun _ _ _ e=>by cases e),(fun _ _ _ e=>by simp [mref,mget]at e),(fun _ _ _ e=>by simp [mref,mget]at e),(fun _ _ _ _ _ _ e=>by simp [mref,mget]at e),(fun _ _ _ e=>by simp [mref,mget]at e)⟩⟩
 unfold eV at hq
 split at hq
 ·rename_i t hres
  split at hq
  ·rename_i k z' m htm
   split at hq
   ·rename_i s z'' es' hM
    obtain ⟨rfl,rfl,rfl,rfl,hcl⟩:=hq
    have hv:tget st'.tm t = .row (σ k 0).1 (σ k 0).2 z'' 0 es'.length:=by
     rcases hR.tm t with e|e
     ·rw[htm]at e;cases e
     ·rw[e,htm];rfl
    have hb:=hR.sat.blk k 0 (.rw z'' es') (by simp only[mref,hM])
    obtain ⟨q,hq⟩:=GC.intro (r := .row (σ k 0).1 (σ k 0).2 z'' 0 es'.length) (o':=st'.own) hL (BP.1 hp) ⟨n,c,st',hr,by simp [hres,E0,hv,IZ,HP],rfl⟩
    refine ⟨q,?_⟩
    simp only[hq,NQ,AH.get,hb]
    rw[if_pos (show (BB.blk σ k (.rw z'' es')).es.length=es'.length/\FG (BB.blk σ k (.rw z'' es')).es from ⟨rfl,hcl⟩)]
    rfl
   ·exact hq.elim
  ·exact hq.elim
 ·exact hq.elim
theorem sR {Q:Tm->Mem->Prop} {c:AL} {k:List It} {tm:Tm} {M:Mem} (n:Nat) (h:fT (cnm 0 tm) fun tm=>fM (mcan M) fun M=>XK L Q n (.code c::k) tm M):AA L (.code c::k) tm M Q:=by
 rw[R7,MO]at h
 exact dZ (YR h)
theorem NM {α:Type} {enc:α->List AV} {l:List α} {f z:Nat} {vs:List AV} {K:Nat->List (List AV)->Nat->Prop} (n:Nat) (h:MZ L f vs z (l.map enc)) (hn:n=l.length) (hk:K z (l.map enc) n):B3 L f vs K:=⟨z,_,n,h,by simpa using hn,hk⟩
end Go.Eng



namespace Go.Eng
open F
attribute [local irreducible] AA AF AR AD B0 AU AX A8 A6 BN AP BK BV CN BI AZ BG BQ AB A7 AJ pw BH BF B9 B8 CI B7 CB BM B3
set_option maxHeartbeats 4000000
variable {L:Lib}
theorem SW (m p:Nat):(List.replicate m (0:Rat)).set p 1=EM m p:=by
 refine List.ext_getElem? fun j => ?_
 simp only[EM,List.getElem?_set,List.getElem?_map,List.getElem?_replicate,List.length_replicate]
 by_cases h:j<m
 ·rw[List.getElem?_range h]
  by_cases e:p=j
  ·subst e;simp [h]
  ·simp [h,e];intro h3;omega
 ·rw[List.getElem?_eq_none (by simpa using h)]
  simp [h]
  intro e;omega
theorem AbK (N:SysGLib L) (m:Nat) (hm:m<=65536):MZ L 131 [.int .i64 (m:Int)] 3 ((List.replicate m (0:Rat)).map eQ):=by
 have hO:=JE N.toRatGLib 0 (by omega)
 refine MZ.x N.HA rfl rfl ?_
 (repeat' (refine AE ?_;conv=>whnf))
 refine EB (enc:=eO) none m rfl rfl (by omega) ?_
 (conv=>whnf)
 skip
 refine CE (fun i=>m-i) (fun (i:Nat)=>i<=m) (fun i=>[(9,.int .i64 i)]) (fun i=>[(131006,131006,.rw 3 ((EH (List.replicate i 0) m).map eO))]) [] [] 0 (by first|exact (by (conv=>whnf);exact ⟨rfl,rfl,rfl⟩)|(rw[<-IU];exact (by (conv=>whnf);exact ⟨rfl,rfl,rfl⟩))) (by omega) ?_
 intro i p1 ih
 by_cases hi:i<m
 ·have hl:=H0 (l:=List.replicate i (0:Rat)) (m:=m) (by simp;omega)
  have hs:=IV (l:=List.replicate i (0:Rat)) (m:=m) (x:=0) (by simp;omega)
  rw[List.length_replicate]at hs
  (repeat' (first|(refine AG (fun hc => ?_) (fun hc => ?_)<;>first|(exfalso;omega)|(conv=>whnf))|(refine A3 ?_ ?_;omega;conv=>whnf)|(refine AE ?_;conv=>whnf)|(refine AC (hO) ?_;conv=>whnf)))
  refine E9 (enc:=eO) (some 0) rfl (fun e=>by cases e<;>rfl) (by omega) ?_
  (conv=>whnf)
  (repeat' (refine A0 ?_ ?_;omega;conv=>whnf))
  rw[hs]
  rw[show List.replicate i (0:Rat)++[0]=List.replicate (i+1) 0 by rw[List.replicate_succ']]
  exact A4 [] (by (conv=>whnf);exact ⟨rfl,rfl,rfl⟩) (ih (i+1) (by omega) (by omega))
 obtain rfl:i=m:=by omega
 clear ih
 rw[IR (by simp)]
 (repeat' (first|(refine AG (fun hc => ?_) (fun hc => ?_)<;>first|(exfalso;omega)|(conv=>whnf))|(refine AE ?_;conv=>whnf)))
 exact ⟨rfl,rfl,by simp,rfl,FR _⟩
end Go.Eng

namespace Go.Eng
open F
attribute [local irreducible] AA AF AR AD B0 AU AX A8 A6 BN AP BK BV CN BI AZ BG BQ AB A7 AJ pw BH BF B9 B8 CI B7 CB BM B3
set_option maxHeartbeats 4000000
variable {L:Lib}
theorem lO {α:Type} (a b:α) {t m:Nat} (_:t<=m) (h:t<m):(List.replicate t a++List.replicate (m-t) b).set t a=List.replicate (t+1) a++List.replicate (m-(t+1)) b:=by
 obtain ⟨k,hk⟩ : ∃ k,m-t=k+1:=⟨m-t-1,by omega⟩
 rw[List.set_append_right _ _ (by simp),hk,List.length_replicate,Nat.sub_self,List.replicate_succ,List.set_cons_zero,show m-(t+1)=k by omega,List.replicate_succ',List.append_assoc]
 rfl
def fz {α:Type} (z:α) (l:List α) (m:Nat):List α:=l++List.replicate (m-l.length) z
theorem lV {α:Type} {z:α} {l:List α} {m:Nat} (h:l.length<=m):(fz z l m).length=m:=by simp [fz];omega
theorem lW {α:Type} {z x:α} {l:List α} {m:Nat} (h:l.length<m):(fz z l m).set l.length x=fz z (l++[x]) m:=by
 unfold fz
 obtain ⟨k,hk⟩ : ∃ k,m-l.length=k+1:=⟨m-l.length-1,by omega⟩
 rw[List.set_append_right _ _ (by simp),hk,Nat.sub_self,List.replicate_succ,List.set_cons_zero,List.length_append,List.length_singleton,show m-(l.length+1)=k by omega,List.append_assoc]
 rfl
theorem AbN {α:Type} {z:α} {l:List α} {m:Nat} (h:l.length<m):(fz z l m)[l.length]? = some z:=by
 unfold fz
 rw[List.getElem?_append_right (by omega),Nat.sub_self,List.getElem?_replicate,if_pos (by omega)]
theorem lU {α:Type} {z:α} {l:List α} {m:Nat} (h:l.length=m):fz z l m=l:=by simp [fz,h]
theorem OY {α:Type} {l:List α} {i:Nat} {x:α} (h:l[i]? = some x):l.take (i+1)=l.take i++[x]:=by
 rw[List.take_add_one,h];rfl
end Go.Eng

namespace Go.Eng
variable {L:Lib}
def nJ:List Nat->Mem->Mem
 | [],M=>M
 | j::r,M=>nJ r (mdel j M)
theorem sN {kk:List It} {tm:Tm} {M:Mem} {Q:Tm->Mem->Prop} (j:Nat) (h:AA L kk tm (mdel j M) Q):AA L kk tm M Q:=by
 intro σ st hr
 exact h σ st ⟨hr.tm,⟨fun k s c e=>hr.sat.site k s c (M7 e).2,fun k t c e=>hr.sat.blk k t c (HN e).2,fun k t c e=>hr.sat.old k t c (HN e).2,fun k t k' t' c c' e e'=>hr.sat.inj k t k' t' c c' (HN e).2 (HN e').2,fun k t c e hw=>hr.sat.low k t c (HN e).2 hw⟩⟩
theorem eA {kk:List It} {tm:Tm} {Q:Tm->Mem->Prop} : ∀ (ks:List Nat) {M:Mem},AA L kk tm (nJ ks M) Q->AA L kk tm M Q
 | [],_,h=>h
 | j::r,_,h=>sN j (eA r h)
end Go.Eng
