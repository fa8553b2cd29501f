/-
  Bounds (layer 29): the reference's Level, Reach, Safe, and the errors of its Limit.
-/
import Derived.Test.YtmhfodhmngfoiaaGreatDoorB6
import Derived.Test.YtmhfodhmngfoiaaGreatDoorB1
import Derived.Test.YtmhfodhmngfoiaaGreatDoorB5
set_option linter.unusedSimpArgs false
set_option linter.unusedVariables false
set_option linter.unnecessarySimpa false
set_option maxHeartbeats 16000000
open Bool renaming and_true->ga
open Int renaming toNat_natCast->qa
open List renaming length_append->za,mem_map->va,length_replicate->ua,replicate->ka
open Nat renaming zero_add->da,mul_comm->Pa,le_refl->Oa
open Rat renaming not_lt->ya,not_le->sa,le_floor_iff->na,mul_nonneg->ja,le_trans->ea
namespace Go.Eng
open F
attribute [local irreducible] AA AF AW AC AX AB AH pw EC BG CM BS BR A5
variable {L:Lib}
set_option maxRecDepth 8000
theorem sM{S:HI}{n k:Nat}(hS:S.Ok n k)(hn:n<=4)(hk:k<=40000){p:Nat}(hp:p<=64):Bt 100000000000 (G9 S p):=by
 have Fe:Sq n S.a:=⟨hS.la,hS.lr⟩;have jn:=hS.lc;have wx:∀j,j<=128->Bs 90000000 (GT S.a S.b j):=λj hj=>(Yo Fe hS.lb hS.ba hS.bb j).le (by have:=Zp (n:=n) (k:=k) hn hj;omega)
 have az:∀j,j<=128->Bt (4*(k+90000000+1)) (BQ S.c (GT S.a S.b j)):=λj hj=>(hS.bc.dot (wx j hj)).le (zR _ O')
 have ki:Bt (4*(k+1)) (BJ S.c):=(RF hS.bc).le (zR _ O');have q1:=(cI (f:=KV S.a S.b S.c) (k:=370000000) (p+p) λt ht=>(JG (az t O')).le O').le (zR _ (show p+p<=128 by omega));have q2:=(cI (f:=λt=>NT S.a S.b (p+t)) (k:=90000000) p λt ht=>QZ (wx (p+t) O')).le (zR _ (show p<=128 by omega));exact((JG hS.bd).add (q1.add (ki.mul q2))).le O'
theorem Amj{n:Nt}(hn:DD n){v:Nat}(hv:v<n.s.toNat+1+n.nodes.length):DD (EI n v):=by
 obtain⟨h1,h2,h3,h4,h5,h6⟩:=(CP n).1 hn.du;exact⟨(CP (EI n v)).2 ⟨h1,h2,h3,h4,h5,show(0:Int)<=(v:Int)/\(v:Int)<=n.s+n.nodes.length by omega⟩,hn.st,hn.nl,hn.cf,hn.tl⟩
theorem iT{n:Nt}(hn:DD n):VD (CY n):=by
 refine⟨λts h=>?_,λts h=>?_⟩;all_goals
  obtain⟨d,hd,rfl⟩:=va.1 h
 ·rcases hn.tl with h|⟨_,h⟩|⟨_,h⟩<;>have:=h d hd<;>omega
 ·exact hn.cf d hd
theorem Xr{n:Nt}(hn:DD n){s:B4}(hs:OB n s)(v:Nat):(JW n s v).Ok n.s.toNat 40000 :=
 ⟨(QN hn).l,(QN hn).r,hs.bl hn,rD n v,dR hn,hs.bb,rC hn v,YE hs.gb v⟩
theorem oV{n:Nt}(hn:DD n)(v:Nat):(FC (EI n v)).Ok n.s.toNat 40000:=by
 rw[<-Xv hn.du];exact Xr hn (Yx hn) v
theorem Pw{n:Nt}(hn:DD n)(k v:Nat):(IL (EI n v) (k:Int)).Ok n.s.toNat 40000:=by
 rw[<-Xu hn.du k 1];exact Xr hn (sA hn _ ⟨Y',Y'⟩ Y') v
theorem Aju(I:a8 L)(N:ck L)(n:Nt)(hn:DD n)(k:Nat)(nd:Nd)(hnd:n.nodes[k]?=some nd):Ev L 362 [.agg (BX n),.int .i64 (k:Int)] (.j4 [.agg (eQ (D4 n nd)),.int .i64 0]):=by
 obtain⟨h1,h2,⟨h3a,h3b,h3c,h3d⟩,h4,h5,h6⟩:=(CP n).1 hn.du;have xf:=h2;unfold WV at xf;have hV:=V6 n I N.tok7;rw[hn.du]at hV;have si:n.nodes[(k:Int).toNat]?=some nd:=hnd;have rz:=(zS hnd).1;have hIn:=MJ I k 0 ((n.nodes.length:Int)-1);rw[decide_eq_true O']at hIn;have tj:=NQ N.tob7 0 O';have py:=NQ N.tob7 1 O';have hF:=nE N.tob7 1 2 O' O';rw[show((0:Int):Rat)=0 from rfl]at tj;rw[show((1:Int):Rat)=1 from rfl]at py;have Ab:=GQ n.c.f;have hC:=hn.cf _ (zM hnd);have hL:nd.ts.length<=5:=(iT hn).len _ (va.2 ⟨nd,zM hnd,rfl⟩);have ae:∀x:Rat,AY (.j4 [.agg (eQ x),.int .i64 0]):=λx=>eC x 0
 refine Ev.x N.PW rfl rfl ?_;repeat' (first|apply BP;omega|apply AP|apply AE|refine AD (hV) ?_|refine AD (hIn) ?_)<;>conv=>whnf
 refine DT (λi _=>nd.ts.length-i) (λ(i:Nat)(b:Bool)=>i<=nd.ts.length/\b=RJ n (nd.ts.take i)) (λi b=>[(7,.int .i64 i),(6,.bool b)]) (λ_ _=>[]) 0 true ⟨O',by simp[RJ]⟩ ?_;intro i b ⟨p1,p2⟩ ih;by_cases hi:i<nd.ts.length
 ·obtain⟨t,ht⟩:=N' nd.ts i hi
  have nb:nd.ts[(i:Int).toNat]?=some t:=ht;have hw:=Xh (n:=n) ht;rw[<-p2]at hw;by_cases hz:t.2%pw n.c.f=0
  ·rw[decide_eq_true hz,ga]at hw
   cases b
   ·repeat' (first|apply AG<;>intro hc<;>try omega|apply AR;omega|apply AP|refine A3 V' ?_ rfl ?_;omega|apply AE)<;>conv=>whnf
    exact BC [] (ih (i+1) false O' ⟨O',hw.symm⟩)
   ·repeat' (first|apply AG<;>intro hc<;>try omega|apply AR;omega|refine H3 ?_ (λ_ _=>?_);omega|(refine IZ ?_ (λ_ _ _=>?_) (λ_ _ _ _=>?_);omega;all_goals try omega)|apply B1;omega|apply AP|refine A3 V' ?_ rfl ?_;omega|apply AE)<;>conv=>whnf
    all_goals exact BC [] (ih (i+1) true O' ⟨O',hw.symm⟩)
  ·rw[decide_eq_false hz,Bool.and_false]at hw
   cases b
   ·repeat' (first|apply AG<;>intro hc<;>try omega|apply AR;omega|apply AP|refine A3 V' ?_ rfl ?_;omega|apply AE)<;>conv=>whnf
    exact BC [] (ih (i+1) false O' ⟨O',hw.symm⟩)
   ·repeat' (first|apply AG<;>intro hc<;>try omega|apply AR;omega|refine H3 ?_ (λ_ _=>?_);omega|(refine IZ ?_ (λ_ _ _=>?_) (λ_ _ _ _=>?_);omega;all_goals try omega)|apply B1;omega|apply AP|refine A3 V' ?_ rfl ?_;omega|apply AE)<;>conv=>whnf
    all_goals exact BC [] (ih (i+1) false O' ⟨O',hw.symm⟩)
 have ei:i=nd.ts.length:=O'
 clear ih;rw[ei,List.take_length]at p2;cases b
 ·by_cases hr:n.d.r=2
  ·have e:D4 n nd=Rat.divInt 1 2:=by rw[D4,<-p2,if_neg Y',if_pos hr]
   rw[e];repeat' (first|apply AG<;>intro hc<;>try omega|apply AP|refine A3 V' ?_ rfl ?_;omega|apply AE|refine AD (hF) ?_)<;>conv=>whnf
   exact AU rfl (ae _)
  ·have e:D4 n nd=1:=by rw[D4,<-p2,if_neg Y',if_neg hr]
   rw[e];repeat' (first|apply AG<;>intro hc<;>try omega|apply AP|refine A3 V' ?_ rfl ?_;omega|apply AE|refine AD (py) ?_)<;>conv=>whnf
   exact AU rfl (ae _)
 ·have e:D4 n nd=0:=by rw[D4,<-p2,if_pos rfl]
  rw[e];repeat' (first|apply AG<;>intro hc<;>try omega|apply AP|refine A3 V' ?_ rfl ?_;omega|apply AE|refine AD (tj) ?_)<;>conv=>whnf
  exact AU rfl (ae _)
theorem zL(N:ck L)(S:HI)(n i:Nat)(hS:S.Ok n 40000)(hn:n<=4)(hi:i<=6)(hF:GC n S.a i):Ev L 315 [.agg (eS S)] (.j4 [.agg (eQ (G9 S (2^i))),.int .i64 0]):=by
 obtain⟨v,h1,hv⟩:=AjA N.toay S n 40000 hS hn O';rcases hv with⟨j,j1,j2,rfl⟩|⟨iz,rfl⟩
 ·obtain rfl:=hF.uniq j2;exact h1
 ·have:=iz i hi
  rw[hF.1]at this;cases this
def NA(n:Nt)(i v:Nat)(x:Int)(K:Nat):Rat:=(x:Rat)*J7 n (2^i) v+ni (YJ n) (λk=>G9 (IL (EI n v) (k:Int)) (2^i)) K
theorem Ajv(I:a8 L)(N:ck L)(n:Nt)(hn:DD n)(i:Nat)(hi:i<=6)(hF:GC n.s.toNat (aN n) i)(v:Nat)(hv:v<n.s.toNat+1+n.nodes.length)(x:Int)(hx:0<=x/\x<=8388607) :
  Bt 1000000000000 (NA n i v x n.nodes.length)/\Ev L 364 [.agg (BX n),.int .i64 (v:Int),.int .i64 x] (.j4 [.agg (eQ (NA n i v x n.nodes.length)),.int .i64 0]):=by
 have h24:(2:Nat)^24=16777216:=rfl;have o4:=hn.st;have ep:=hn.nl;have iz:=Amj hn hv;obtain⟨_,_,⟨oa,_⟩,_⟩:=(CP n).1 hn.du;obtain⟨g1,_,g3⟩:=RB hi;have uk:=yH I N.toaf (EI n v) iz.du (iT iz) iz.nl;have Lj:∀k:Nat,k<n.nodes.length->Ev L 166 [.agg (BX (EI n v)),.int .i64 (k:Int)] (.j4 [.agg (eS (IL (EI n v) (k:Int))),.int .i64 0]):=λk hk=>by
  have:=Aiy I N.toaf (EI n v) (k:Int) iz.du (iT iz) iz.nl (by unfold C3;omega)
  rwa [gM,if_pos (show(0:Int)<=(k:Int)/\(k:Int)<((EI n v).nodes.length:Int)by show _/\(k:Int)<(n.nodes.length:Int);omega)]at this
 have zu:(FC (EI n v)).a=aN n:=(ZY hn.du).symm;have hak:∀k:Nat,(IL (EI n v) (k:Int)).a=aN n:=λk=>(ZY hn.du).symm
 have Ez:=zL N (FC (EI n v)) n.s.toNat i (oV hn v) O' hi (by rw[zu];exact hF);have Fc:=λk:Nat=>zL N (IL (EI n v) (k:Int)) n.s.toNat i (Pw hn k v) O' hi (by rw[hak];exact hF)
 have Il:=λ(k:Nat)(nd:Nd)(h:n.nodes[k]?=some nd)=>Aju I N (EI n v) iz k nd h
 have jd:=sM (oV hn v) O' O' g1;have y9:=λk:Nat=>sM (Pw hn k v) O' O' g1
 have ke:=Bt.ofInt (show x.natAbs<=2^24 by omega);have hOx:=NQ N.tob7 x O';have Eu:=V1 N.tob7 ke jd O' O';have Jl:∀(k:Nat)(nd:Nd),n.nodes[k]?=some nd->YJ n k=D4 n nd:=λk nd h=>by rw[YJ,h]
 have Cg:NA n i v x 0=(x:Rat)*G9 (FC (EI n v)) (2^i):=by
  rw[NA,Xa hn.du];show _+0=_;rw[Rat.add_zero]
 have mi:∀(k:Nat)(nd:Nd),n.nodes[k]?=some nd->NA n i v x (k+1)=NA n i v x k+D4 n nd*G9 (IL (EI n v) (k:Int)) (2^i):=λk nd h=>by
  rw[NA,NA,ni,Jl k nd h,<-Rat.add_assoc]
 have ri:∀K,K<=n.nodes.length->Bt (100000000030+K*100000000010) (NA n i v x K):=by
  intro K;induction K with
  |zero=>intro _;rw[Cg];exact(ke.mul jd).le O'
  |succ K ih=>
   intro hK;obtain⟨nd,hnd⟩:=N' n.nodes K;rw[mi K nd hnd];exact((ih O').add ((WB n nd).1.mul (y9 K))).le O'
 have hMk:=λ(k:Nat)(nd:Nd)=>V1 N.tob7 (WB n nd).1 (y9 k) O' O'
 have hAk:=λ(k:Nat)(nd:Nd)(hk:k<n.nodes.length)=>QV N.tob7 (ri k O') ((WB n nd).1.mul (y9 k)) O' O'
 have zz:=(ri n.nodes.length (Oa _)).le (show _<=1000000000000 by omega);refine⟨zz,?_⟩;rw[<-Cg]at Eu;have ae:=λx:Rat=>eC x 0
 obtain⟨R,hR⟩:∃R:Nat->Rat,∀k,NA n i v x k=R k:=⟨_,λ_=>rfl⟩;obtain⟨T,hT⟩:∃T:Nat->Rat,∀k:Nat,G9 (IL (EI n v) (k:Int)) (2^i)=T k:=⟨_,λ_=>rfl⟩;have Kp:∀(k:Nat)(nd:Nd),n.nodes[k]?=some nd->Ev L 126 [.agg (eQ (R k)),.agg (eQ (D4 n nd*T k))] (.agg (eQ (R (k+1)))):=λk nd h=>by
  have hk:=(zS h).1;have:=hAk k nd hk
  rw[<-mi k nd h,hR,hR,hT]at this;exact this
 simp only[hT]at Fc hMk;rw[hR]at Eu⊢;clear hAk mi Cg ri y9 jd zz hR hT Jl hak zu;generalize G9 (FC (EI n v)) (2^i)=s0 at*;refine Ev.x N.PX rfl rfl ?_;repeat' (first|apply AG<;>intro hc<;>try omega|apply AE|refine AD (uk) ?_|refine AD (Ez) ?_|refine AD (hOx) ?_|refine AD (Eu) ?_)<;>conv=>whnf
 refine C0 (λk=>n.nodes.length-k) (λ(k:Nat)=>k<=n.nodes.length) (λk=>[(13,.int .i64 k)]) (λk=>[(12,12,.bx (eQ (R k)))]) 0 O' ?_;intro k k1 kh;by_cases hk:k<n.nodes.length
 ·obtain⟨nd,hnd⟩:=N' n.nodes k hk
  have f1:=Il k nd hnd;have f1':Ev L 362 [.agg (BX (EI n v)),.int .i64 (k:Int)] (.j4 [.agg (eQ (D4 n nd)),.int .i64 0]):=f1;have f2:=Lj k hk;have f3:=Fc k;have f4:=hMk k nd;have f5:=Kp k nd hnd;clear f1;generalize IL (EI n v) (k:Int)=Sk at*;generalize D4 n nd=lv at*;repeat' (first|apply AG<;>intro hc<;>try omega|apply AR;omega|apply AP|apply AE|refine AD (f1') ?_|refine AD (f2) ?_|refine AD (f3) ?_|refine AD (f4) ?_|refine AD (f5) ?_)<;>conv=>whnf
  exact BC [] (kh (k+1) O' O')
 have ek:k=n.nodes.length:=O'
 clear kh;rw[ek];repeat' (first|apply AG<;>intro hc<;>try omega|apply AP|apply AE)<;>conv=>whnf
 exact AU rfl (ae _)
theorem Ajt(N:cj L)(x:Rat)(k:Nat)(hx:Bt k x)(hk:k<2199023255552) :
  ((((-1099511627776:Int):Int):Rat)<=x->x<=((1099511627776:Int):Rat)->Ev L 361 [.agg (eQ x)] (.j4 [.int .i64 x.floor,.bool true]))/\(((1099511627776:Int):Rat)<x->Ev L 361 [.agg (eQ x)] (.j4 [.int .i64 0,.bool false])):=by
 have hO:=λ(m:Int)(hm:-1099511627776<=m/\m<=1099511627776)=>NQ N.tob7 m O'
 have bO:=λ(m:Int)(hm:-1099511627776<=m/\m<=1099511627776)=>Bt.ofInt (k:=41) (z:=m) (by
  have:(2:Nat)^41=2199023255552:=rfl
  omega)
 have hC:=λm hm=>aH N.tob7 (bO m hm) hx O' O'
 have nk:=aH N.tob7 hx (bO 1099511627776 O') O' O';have Kt:=aH N.tob7 hx (bO (-1099511627776) O') O' O';have py:=hO 1099511627776 O';have hO2:=hO (-1099511627776) O';have hL:=λm:Int=>Am8 (m:=m) (x:=x)
 refine⟨λh1 h2=>?_,λh1=>?_⟩
 ·have g1:¬0<v7 (x-((1099511627776:Int):Rat)).num:=λh=>ya.2 h2 (Vz.1 h)
  have g2:¬v7 (x-(((-1099511627776:Int)):Rat)).num<0:=λh=>ya.2 h1 (Vy.1 h)
  have f1:=na.2 h1;have f2:x.floor<=1099511627776:=by
   have:=ea (Rat.floor_le x) h2
   exact Rat.intCast_le_intCast.1 this
  generalize v7 (x-((1099511627776:Int):Rat)).num=s1 at*;generalize v7 (x-(((-1099511627776:Int)):Rat)).num=s2 at*;generalize x.floor=F at*;refine Ev.x N.ND rfl rfl ?_;repeat' (first|apply AG<;>intro hc<;>try omega|apply AE|refine AD (py) ?_|refine AD (hO2) ?_|refine AD (nk) ?_|refine AD (Kt) ?_)<;>conv=>whnf
  refine DT (λ(lo:Int)(hi:Int)=>(hi-lo).toNat) (λlo hi=>-1099511627776<=lo/\lo<=F/\F<=hi/\hi<=1099511627776) (λlo hi=>[(4,.int .i64 lo),(5,.int .i64 hi)]) (λ_ _=>[]) (-1099511627776) 1099511627776 O' ?_;intro lo hi p1 ih;by_cases hlt:lo<hi
  ·have hm:-1099511627776<=lo+(hi-lo+1)/2/\lo+(hi-lo+1)/2<=1099511627776:=O'
   have hOm:=hO _ hm;have wi:=hC _ hm;have hLm:=hL (lo+(hi-lo+1)/2);by_cases hle:lo+(hi-lo+1)/2<=F
   ·have hs:=hLm.2 hle
    generalize v7 (((lo+(hi-lo+1)/2:Int):Rat)-x).num=s at*;repeat' (first|apply AG<;>intro hc<;>try omega|apply AR;omega|apply BP;omega|(refine KM ?_ ?_ (λ_=>?_) (λ_ _=>?_);omega;omega;all_goals try omega)|apply AE|refine AD (hOm) ?_|refine AD (wi) ?_)<;>conv=>whnf
    exact A9 [] E' (ih _ _ O' O')
   ·have hs:¬_:=λh=>hle (hLm.1 h)
    generalize v7 (((lo+(hi-lo+1)/2:Int):Rat)-x).num=s at*;repeat' (first|apply AG<;>intro hc<;>try omega|apply AR;omega|apply BP;omega|(refine KM ?_ ?_ (λ_=>?_) (λ_ _=>?_);omega;omega;all_goals try omega)|apply AE|refine AD (hOm) ?_|refine AD (wi) ?_)<;>conv=>whnf
    exact A9 [] E' (ih _ _ O' O')
  ·obtain rfl:lo=F:=O'
   clear ih;repeat' (first|apply AG<;>intro hc<;>try omega|apply AE)<;>conv=>whnf
   exact AU rfl (vL _ _)
 ·have g1:=Vz.2 h1
  generalize v7 (x-((1099511627776:Int):Rat)).num=s1 at*;refine Ev.x N.ND rfl rfl ?_;repeat' (first|apply AG<;>intro hc<;>try omega|apply AE|refine AD (py) ?_|refine AD (nk) ?_)<;>conv=>whnf
  exact AU rfl (vL _ _)
def XR(x:Rat):Int:=if((1099511627776:Int):Rat)<=x then 1099511627776 else x.floor
theorem Afc{k':IntKind}{a i:Nat}{K:AV->Prop}(hi:i<2)(h:a*4294967296^i<=9223372036854775807)(hk:K (.int .i64 ((a*4294967296^i:Nat):Int))):AC .shl .i64 (a:Int) k' (32*(i:Int)) K:=by
 have key:∀s:Nat,s<=64->a*2^s<=9223372036854775807->K (.int .i64 ((a*2^s:Nat):Int))->AC .shl .i64 (a:Int) k' (s:Int) K:=λs h1 h2 h3=>by
  refine dI (show s<=IntKind.i64.bits from h1) ?_;rw[IntWalk.i64_in _ O'];exact h3
 rcases i with _|_|i
 ·exact key 0 O' h hk
 ·exact key 32 O' h hk
 ·omega
theorem AiF(N:aq L){x:Rat}{k:Nat}(hx:Bt k x)(hk:k<2199023255552)(h0:0<=x):Ev L 449 [.agg (eQ x)] (.int .i64 (XR x)):=by
 have hO:=I6 N.toa6 1099511627776 O';have bO:=Bt.ofInt (k:=41) (z:=1099511627776) Y';have hC:=mP N.tocb hx bO hk O';have hF:=AiL N.todw hx hk;have ym:0<=v7 (x-((1099511627776:Int):Rat)).num↔((1099511627776:Int):Rat)<=x:=by
  have:=Vy (m:=1099511627776) (x:=x)
  constructor
  ·intro h;exact ya.1 λh2=>by have:=this.2 h2;omega
  ·intro h
   have h2:¬_:=λh3=>ya.2 h (this.1 h3)
   omega
 unfold XR;by_cases ic:((1099511627776:Int):Rat)<=x
 ·rw[if_pos ic]
  have hs:=ym.2 ic;generalize v7 (x-((1099511627776:Int):Rat)).num=s at*;refine Ev.x N.MN rfl rfl ?_;repeat' (first|apply AG<;>intro hc<;>try omega|apply AE|refine AD (hO) ?_|refine AD (hC) ?_)<;>conv=>whnf
  exact BM rfl
 rw[if_neg ic];have hs:¬_:=λh=>ic (ym.1 h)
 have Mq:0<=x.floor:=na.2 h0;have tp:x.floor<1099511627776:=Rat.floor_lt_iff.2 (sa.1 ic);generalize v7 (x-((1099511627776:Int):Rat)).num=s at*;generalize x.floor=f at*;obtain⟨d,rfl⟩:=Int.eq_ofNat_of_zero_le Mq;have hz:eZ (d:Int)=[.bool false,.sl false ((dg d).map AJ)]:=by
  unfold eZ;rw[decide_eq_false O'];rfl
 rw[hz]at hF;have hD:=DX d;have hv:=BN d;have hl:(dg d).length<=2:=NM.2 O';clear hz;refine Ev.x N.MN rfl rfl ?_;generalize dg d=l at*;repeat' (first|apply AG<;>intro hc<;>try omega|apply AP|apply AE|refine AD (hO) ?_|refine AD (hC) ?_|refine AD (hF) ?_)<;>conv=>whnf
 refine DT (λi _=>l.length-i) (λ(i:Nat)(a:Nat)=>i<=l.length/\a=val (l.take i)) (λi a=>[(14,.int .i64 (i:Int)),(3,.int .i64 (a:Int))]) (λ_ _=>[]) 0 0 ⟨O',rfl⟩ ?_;intro i a ⟨p1,p2⟩ ih;by_cases hi:i<l.length
 ·obtain⟨e,he⟩:=N' l i hi
  have az:=hD.at he;have h1:=EB he;have h2:=LH l (i+1) O';have h3:a+4294967296^i*e<=d:=by
   rw[p2,<-h1,<-hv,h2];exact Nat.le_add_right _ _
  have h4:4294967296^i*e<=9223372036854775807:=O'
  repeat' (first|apply AG<;>intro hc<;>try omega|apply F3;omega|apply RM;omega|refine A3 V' ?_ rfl ?_;omega|apply AE)<;>conv=>whnf
  refine Afc O' (by rw[Pa];exact h4) ?_;conv=>whnf
  rw[Pa e];generalize 4294967296^i*e=y at*;repeat' (first|apply AR;omega|fail)<;>conv=>whnf
  exact BC [] (ih (i+1) (a+y) O' ⟨O',O'⟩)
 ·obtain rfl:i=l.length:=O'
  clear ih;rw[C8 (Oa _),hv]at p2;subst p2;repeat' (first|apply AG<;>intro hc<;>try omega|apply AE)<;>conv=>whnf
  exact BM rfl
theorem mO(I:a8 L)(N:df L)(n:Nt)(hn:DD n)(v:Nat)(hv:v<n.s.toNat+1+n.nodes.length)(x:Int)(hx:0<=x/\x<=HK n.d) :
  (∀i,i<=6->GC n.s.toNat (aN n) i->Bt 900000000000 (GU n i v x)/\Ev L 360 [.agg (BX n),.int .i64 (v:Int),.int .i64 x] (.j4 [.agg (eQ (GU n i v x)),.int .i64 0]))/\(XM n->Ev L 360 [.agg (BX n),.int .i64 (v:Int),.int .i64 x] (.j4 [.agg [.bool false,.sl false [],.sl false []],.int .i64 14])):=by
 obtain⟨w,g1,g2⟩:=Ait I N n hn v hv x hx;refine⟨λi i1 i2=>?_,λyq=>?_⟩
 ·rcases g2 with⟨j,j1,j2,j3,rfl⟩|⟨yq,rfl⟩
  ·obtain rfl:=i2.uniq j2
   exact⟨j3,g1⟩
  ·have:=yq i i1
   rw[i2.1]at this;cases this
 ·rcases g2 with⟨j,j1,j2,j3,rfl⟩|⟨_,rfl⟩
  ·have:=yq j j1
   rw[j2.1]at this;cases this
  ·exact g1
def EQ(x:Int):Int:=max x (-x)
def NK(n:Nt)(i:Nat)(x:Int):List Int:=(List.range n.s.toNat).map λk=>XR (GU n i (1+k) (EQ x))
theorem lE(n:Nt)(i:Nat)(x:Int):(NK n i x).length=n.s.toNat:=by simp[NK]
theorem uX{n:Nt}{i:Nat}{x:Int}{k:Nat}(h:k<n.s.toNat):(NK n i x)[k]?=some (XR (GU n i (1+k) (EQ x))):=by rw[NK,List.getElem?_map,List.getElem?_range h];rfl
theorem Z4(e:Int):AY (.j4 [.sl false [],.int .i64 e]):=by simp[AY,BI,DB]
theorem Akz{w:Wd}(h:WV w):1<=HK w:=by
 rw[HK,if_pos h];unfold WV at h;have h1:=RC (n:=1) (m:=w.b-1) O';have h2:pw 1=2:=by unfold pw;rfl
 omega
theorem Agp(I:a8 L)(N:aq L)(n:Nt)(hn:DD n)(x:Int)(hx:0<=EQ x/\EQ x<=8388608){i:Nat}(i1:i<=6)(i2:GC n.s.toNat (aN n) i)(k:Nat)(hk:k<n.s.toNat) :
  ∃(a b d m r:Rat) (c:Int),Ev L 360 [.agg (BX n),.int .i64 (1+(k:Int)),.int .i64 0] (.j4 [.agg (eQ a),.int .i64 0])/\Ev L 360 [.agg (BX n),.int .i64 (1+(k:Int)),.int .i64 1] (.j4 [.agg (eQ b),.int .i64 0])/\Ev L 150 [.agg (eQ b),.agg (eQ a)] (.agg (eQ d))/\Ev L 99 [.agg (eQ d),.agg (eQ ((EQ x:Int):Rat))] (.agg (eQ m))/\Ev L 98 [.agg (eQ a),.agg (eQ m)] (.agg (eQ r))/\Ev L 449 [.agg (eQ r)] (.int .i64 c)/\(NK n i x)[k]?=some c:=by
 obtain⟨Cp,_,⟨oa,_⟩,_⟩:=(CP n).1 hn.du;have hlh:=Q5 Cp;have o4:=hn.st;have e1:((1+k:Nat):Int)=1+(k:Int):=O'
 obtain⟨b0,f0⟩:=(mO I N.todf n hn (1+k) O' 0 ⟨O',O'⟩).1 i i1 i2;obtain⟨b1,f1⟩:=(mO I N.todf n hn (1+k) O' 1 ⟨O',Akz Cp⟩).1 i i1 i2;obtain⟨g1,_,g3⟩:=RB i1;have hr:GU n i (1+k) 1-GU n i (1+k) 0=J7 n (2^i) (1+k):=by
  unfold GU;rw[show((1:Int):Rat)=1 from rfl,show((0:Int):Rat)=0 from rfl];grind
 have br:Bt 100000000000 (J7 n (2^i) (1+k)):=by
  rw[Xa hn.du];exact sM (oV hn _) O' O' g1
 have bx:=Bt.ofInt (k:=24) (z:=EQ x) (by
  have:(2:Nat)^24=16777216:=rfl
  omega)
 have hS:=AjK N.toau b1 b0 O' O';rw[hr]at hS;have hM:=KU N.toa6 br bx O' O';have bm:=br.mul bx;have hA:=J4 N.toa6 b0 bm O' O';have bA:=b0.add bm;have hR:GU n i (1+k) 0+J7 n (2^i) (1+k)*((EQ x:Int):Rat)=GU n i (1+k) (EQ x):=by
  unfold GU;rw[show((0:Int):Rat)=0 from rfl];grind
 rw[hR]at hA bA;have h0:0<=GU n i (1+k) (EQ x):=by
  unfold GU;have q1:=ja (Wz n (2^i) (1+k)) (show(0:Rat)<=((EQ x:Int):Rat)by exact_mod_cast hx.1);have q2:=Vn hn (2^i) (1+k);grind
 have hC:=AiF N bA O' h0;rw[e1]at f0 f1;exact⟨_,_,_,_,_,_,f0,f1,hS,hM,hA,hC,uX hk⟩
theorem Aiu(I:a8 L)(N:aq L)(n:Nt)(hn:DD n)(x:Int)(hx:FT n.d x->-8388607<=x/\x<=8388607) :
  (¬FT n.d x->Ev L 450 [.agg (BX n),.int .i64 x] (.j4 [.sl false [],.int .i64 17])) /\
  (FT n.d x->(∀i,i<=6->GC n.s.toNat (aN n) i->Ev L 450 [.agg (BX n),.int .i64 x] (.j4 [.sl false ((NK n i x).map AZ),.int .i64 0]))/\(XM n->0<n.s->Ev L 450 [.agg (BX n),.int .i64 x] (.j4 [.sl false [],.int .i64 14]))):=by
 obtain⟨Cp,_,⟨oa,_⟩,_⟩:=(CP n).1 hn.du;have o4:=hn.st;have hhl:=Qn Cp;have hV:=fR n I N.tok7;rw[hn.du]at hV;have hF:=VZ n.d I x;refine⟨λh=>?_,λh=>?_⟩
 ·rw[decide_eq_false h]at hF
  refine Ev.x N.KX rfl rfl ?_;repeat' (first|apply AG<;>intro hc<;>try omega|apply AE|refine AD (hV) ?_|refine AD (hF) ?_)<;>conv=>whnf
  exact AU rfl (Z4 17)
 rw[decide_eq_true h]at hF;replace hx:=hx h
 have hO:=I6 N.toa6 (EQ x) (by unfold EQ;omega);have mu:0<=EQ x/\EQ x<=8388607:=by unfold EQ;omega
 have ke:EQ x=max x (-x):=rfl;refine⟨λi i1 i2=>?_,λyq eu=>?_⟩
 ·have o4:=Agp I N n hn x O' i1 i2
  have Kr:=lE n i x;generalize NK n i x=B at*;generalize EQ x=bx at*;refine Ev.x N.KX rfl rfl ?_;repeat' (first|apply AG<;>intro hc<;>try omega|apply EC.neg;omega|apply AE|refine AD (hV) ?_|refine AD (hF) ?_)<;>conv=>whnf
  ·obtain rfl:bx = -x:=O'
   (repeat' (refine AD (hO) ?_<;>conv=>whnf))
   refine E6 (enc:=AZ) 0 n.s.toNat rfl O' O' ?_;conv=>whnf
   skip
   refine DT (λk _=>n.s.toNat-k) (λ(k:Nat)(o:List Int)=>k<=n.s.toNat/\o.length=B.length/\o.take k=B.take k) (λk _=>[(36,.int .i64 k)]) (λ_ o=>[(33,33,.rw 1 (o.map AZ))]) 0 (ka n.s.toNat 0) ⟨O',by rw[ua,Kr],rfl⟩ ?_;intro k o ⟨k1,p2,p3⟩ kh;by_cases hk:k<n.s.toNat;focus
    obtain⟨a,b,d,m,r,c,f1,f2,f3,f4,f5,f6,f7⟩:=o4 k hk;obtain⟨w1,w2⟩:=gB p2 p3 f7;repeat' (first|apply AG<;>intro hc<;>try omega|apply A2;omega|apply AR;omega|apply AE|refine AD (f1) ?_|refine AD (f2) ?_|refine AD (f3) ?_|refine AD (f4) ?_|refine AD (f5) ?_|refine AD (f6) ?_)<;>conv=>whnf
    refine HS (enc:=AZ) c rfl (λ_=>rfl) O' ?_;conv=>whnf
    repeat' (first|apply AR;omega|fail)<;>conv=>whnf
    exact A9 [] E' (kh (k+1) _ O' ⟨O',w1,w2⟩)
   have ek:=gA p2 p3 O';subst ek;clear kh p2 p3;repeat' (first|apply AG<;>intro hc<;>try omega|apply AE)<;>conv=>whnf
   refine CR (λ_=>rfl) rfl O' ?_;conv=>whnf
   exact AU rfl (by simp[AY,BI,KO])
  ·obtain rfl:bx=x:=O'
   (repeat' (refine AD (hO) ?_<;>conv=>whnf))
   refine E6 (enc:=AZ) 0 n.s.toNat rfl O' O' ?_;conv=>whnf
   skip
   refine DT (λk _=>n.s.toNat-k) (λ(k:Nat)(o:List Int)=>k<=n.s.toNat/\o.length=B.length/\o.take k=B.take k) (λk _=>[(36,.int .i64 k)]) (λ_ o=>[(33,33,.rw 1 (o.map AZ))]) 0 (ka n.s.toNat 0) ⟨O',by rw[ua,Kr],rfl⟩ ?_;intro k o ⟨k1,p2,p3⟩ kh;by_cases hk:k<n.s.toNat;focus
    obtain⟨a,b,d,m,r,c,f1,f2,f3,f4,f5,f6,f7⟩:=o4 k hk;obtain⟨w1,w2⟩:=gB p2 p3 f7;repeat' (first|apply AG<;>intro hc<;>try omega|apply A2;omega|apply AR;omega|apply AE|refine AD (f1) ?_|refine AD (f2) ?_|refine AD (f3) ?_|refine AD (f4) ?_|refine AD (f5) ?_|refine AD (f6) ?_)<;>conv=>whnf
    refine HS (enc:=AZ) c rfl (λ_=>rfl) O' ?_;conv=>whnf
    repeat' (first|apply AR;omega|fail)<;>conv=>whnf
    exact A9 [] E' (kh (k+1) _ O' ⟨O',w1,w2⟩)
   have ek:=gA p2 p3 O';subst ek;clear kh p2 p3;repeat' (first|apply AG<;>intro hc<;>try omega|apply AE)<;>conv=>whnf
   refine CR (λ_=>rfl) rfl O' ?_;conv=>whnf
   exact AU rfl (by simp[AY,BI,KO])
 ·have jd:=(mO I N.todf n hn (1+0) O' 0 ⟨O',O'⟩).2 yq
  refine Ev.x N.KX rfl rfl ?_;generalize EQ x=bx at*;repeat' (first|apply AG<;>intro hc<;>try omega|apply EC.neg;omega|apply AE|refine AD (hV) ?_|refine AD (hF) ?_)<;>conv=>whnf
  ·obtain rfl:bx = -x:=O'
   (repeat' (refine AD (hO) ?_<;>conv=>whnf))
   refine E6 (enc:=AZ) 0 n.s.toNat rfl O' O' ?_;conv=>whnf
   skip
   refine IV ?_;repeat' (first|apply AG<;>intro hc<;>try omega|apply AR;omega|apply AE|refine AD (jd) ?_)<;>conv=>whnf
   exact AU rfl (Z4 14)
  ·obtain rfl:bx=x:=O'
   (repeat' (refine AD (hO) ?_<;>conv=>whnf))
   refine E6 (enc:=AZ) 0 n.s.toNat rfl O' O' ?_;conv=>whnf
   skip
   refine IV ?_;repeat' (first|apply AG<;>intro hc<;>try omega|apply AR;omega|apply AE|refine AD (jd) ?_)<;>conv=>whnf
   exact AU rfl (Z4 14)
theorem AmG(I:a8 L)(N:aq L)(n:Nt)(hn:DD n)(x:Int)(hx:0<=EQ x/\EQ x<=8388607){i:Nat}(i1:i<=6)(i2:GC n.s.toNat (aN n) i)(k:Nat)(hk:k<n.s.toNat) :
  ∃(r:Rat) (u:Int) (b:Bool),Ev L 364 [.agg (BX n),.int .i64 (1+(k:Int)),.int .i64 (EQ x)] (.j4 [.agg (eQ r),.int .i64 0])/\Ev L 361 [.agg (eQ r)] (.j4 [.int .i64 u,.bool b])/\(NK n i x)[k]?=some (if b then u else 1099511627776):=by
 obtain⟨bR,hR⟩:=Ajv I N.tock n hn i i1 i2 (1+k) O' (EQ x) hx;have e:NA n i (1+k) (EQ x) n.nodes.length=GU n i (1+k) (EQ x):=by rw[NA,<-AmQ hn.du,GU,Rat.mul_comm]
 rw[e,show((1+k:Nat):Int)=1+(k:Int)by omega]at hR;rw[e]at bR;obtain⟨q1,q2⟩:=Ajt N.tocj _ _ bR O';have h0:0<=GU n i (1+k) (EQ x):=by
  unfold GU;have q1:=ja (Wz n (2^i) (1+k)) (show(0:Rat)<=((EQ x:Int):Rat)by exact_mod_cast hx.1);have q2:=Vn hn (2^i) (1+k);grind
 rw[uX hk];generalize GU n i (1+k) (EQ x)=y at*;by_cases hy:y<=((1099511627776:Int):Rat)
 ·refine⟨y,y.floor,true,hR,q1 (ea (by decide +kernel) h0) hy,?_⟩
  rw[if_pos rfl,XR];split
  ·rename_i h2
   rw[show y=((1099511627776:Int):Rat)from Rat.le_antisymm hy h2,Rat.floor_intCast]
  ·rfl
 ·refine⟨y,0,false,hR,q2 (sa.1 hy),?_⟩
  rw[if_neg Y',XR,if_pos (Rat.le_of_lt (sa.1 hy))]
theorem Ajp(I:a8 L)(N:aq L)(n:Nt)(hn:DD n)(x:Int)(hx:FT n.d x->-8388607<=x/\x<=8388607) :
  (¬FT n.d x->Ev L 451 [.agg (BX n),.int .i64 x] (.j4 [.sl false [],.int .i64 17])) /\
  (FT n.d x->(∀i,i<=6->GC n.s.toNat (aN n) i->Ev L 451 [.agg (BX n),.int .i64 x] (.j4 [.sl false ((NK n i x).map AZ),.int .i64 0]))/\(XM n->Ev L 451 [.agg (BX n),.int .i64 x] (.j4 [.sl false [],.int .i64 14]))):=by
 obtain⟨Cp,_,⟨oa,_⟩,_⟩:=(CP n).1 hn.du;have o4:=hn.st;have hV:=V6 n I N.tok7;rw[hn.du]at hV;have hF:=V5 n.d I x;refine⟨λh=>?_,λh=>?_⟩
 ·rw[decide_eq_false h]at hF
  refine Ev.x N.LB rfl rfl ?_;repeat' (first|apply AG<;>intro hc<;>try omega|apply AE|refine AD (hV) ?_|refine AD (hF) ?_)<;>conv=>whnf
  exact AU rfl (Z4 17)
 rw[decide_eq_true h]at hF;replace hx:=hx h
 have mu:0<=EQ x/\EQ x<=8388607:=by unfold EQ;omega
 have ke:EQ x=max x (-x):=rfl;have uk:=yH I N.toaf n hn.du (iT hn) hn.nl;have Jk:(FC n).a=aN n:=(ZY hn.du).symm;have hL0:eS (FC n)=[.sl false (eM (aN n)),.sl false ((FC n).b.map eQ),.sl false ((FC n).c.map eQ)]++eQ (FC n).d:=by rw[<-Jk]
 rw[hL0]at uk;generalize (FC n).b=lb at*;generalize (FC n).c=lc at*;generalize (FC n).d=ld at*;clear hL0 Jk;obtain⟨w,hP,hw⟩:=zJ N.toay false false (aN n) n.s.toNat 40000 (QN hn) (dR hn) O' (show 40000<=100000 by decide);refine⟨λi i1 i2=>?_,λyq=>?_⟩
 ·have Oq:w = .j4 [.int .i64 ((2^i:Nat):Int),.int .i64 0]:=by
   rcases hw with⟨j,j1,j2,rfl⟩|⟨iz,rfl⟩
   ·obtain rfl:=i2.uniq j2;rfl
   ·have:=iz i i1
    rw[i2.1]at this;cases this
  subst Oq;clear hw;have o4:=AmG I N n hn x mu i1 i2;have Kr:=lE n i x;generalize NK n i x=B at*;generalize EQ x=bx at*;generalize 2^i=p2 at*;refine Ev.x N.LB rfl rfl ?_;repeat' (first|apply AG<;>intro hc<;>try omega|apply AE|refine AD (hV) ?_|refine AD (hF) ?_|refine AD (uk) ?_|refine AD (hP) ?_)<;>conv=>whnf
  rcases(show bx = -x/\x < -x\/bx=x/\-x<=x by omega)with⟨rfl,hlt⟩|⟨rfl,hlt⟩
  all_goals
   refine C0 (λk=>n.s.toNat-k) (λ(k:Nat)=>k<=n.s.toNat) (λk=>[(11,.int .i64 k),(10,.row 10 0 1 0 k)]) (λk=>[(10,10,.rw 1 ((B.take k).map AZ))]) 0 O' ?_;intro k k1 kh;have de:(B.take k).length=k:=by rw[List.length_take];omega
   by_cases hk:k<n.s.toNat;focus
    obtain⟨r,u,b,f1,f2,f3⟩:=o4 k hk;have Hv:=kh (k+1) O' O';rw[List.take_add_one,f3,Option.toList_some]at Hv;clear kh;cases b with
    |true=>
     rw[if_pos rfl]at Hv;repeat' (first|apply AG<;>intro hc<;>try omega|apply AR;omega|apply EC.neg;omega|apply CI|apply AE|refine AD (f1) ?_|refine AD (f2) ?_)<;>conv=>whnf
     refine C1 (enc:=AZ) u rfl de.symm rfl O' O' ?_;rw[show(B.take k++[u]).length=k+1 by rw[za,de];rfl];conv=>whnf
     repeat' (first|apply AR;omega|fail)<;>conv=>whnf
     exact A9 [(10,70)] E' Hv
    |false=>
     rw[if_neg Y']at Hv;repeat' (first|apply AG<;>intro hc<;>try omega|apply AR;omega|apply EC.neg;omega|apply CI|apply AE|refine AD (f1) ?_|refine AD (f2) ?_)<;>conv=>whnf
     refine C1 (enc:=AZ) 1099511627776 rfl de.symm rfl O' O' ?_;rw[show(B.take k++[(1099511627776:Int)]).length=k+1 by rw[za,de];rfl];conv=>whnf
     repeat' (first|apply AR;omega|fail)<;>conv=>whnf
     exact A9 [(10,70)] E' Hv
   have ek:k=n.s.toNat:=O'
   subst ek;rw[zT O'];clear kh de;repeat' (first|apply AG<;>intro hc<;>try omega|apply AE)<;>conv=>whnf
   refine CR (λ_=>rfl) rfl O' ?_;conv=>whnf
   exact AU rfl (by simp[AY,BI,KO])
 ·have Oq:w = .j4 [.int .i64 0,.int .i64 14]:=by
   rcases hw with⟨j,j1,j2,rfl⟩|⟨iz,rfl⟩
   ·have:=yq j j1
    rw[j2.1]at this;cases this
   ·rfl
  subst Oq;refine Ev.x N.LB rfl rfl ?_;repeat' (first|apply AG<;>intro hc<;>try omega|apply AE|refine AD (hV) ?_|refine AD (hF) ?_|refine AD (uk) ?_|refine AD (hP) ?_)<;>conv=>whnf
  exact AU rfl (Z4 14)
end Go.Eng
namespace Go.Eng
open F
set_option maxRecDepth 8000
variable {L:Lib}
theorem QL.uniq{n:Nt}{x:Int}{s:List Int}{v w:AV}(h:QL n x s v)(g:QL n x s w):v=w:=by
 have key:∀{i j i' j':Nat},i<j->AQ (c7 n x) j s=AQ (c7 n x) i s->(A4 (c7 n x) j' s).Nodup->i'<j'->¬j<j':=λ{i j i' j'} h1 h2 h3 h4 h5=>by
  have:=YW h3 h5 (show i<j' by omega) h2
  omega
 rcases h with⟨i,j,h1,h2,h3,h4,rfl⟩|⟨h1,rfl⟩<;>rcases g with⟨i',j',g1,g2,g3,g4,rfl⟩|⟨g1,rfl⟩
 ·have hj:j=j':=by
   have a:=key h1 h4 g3 g1;have b:=key g1 g4 h3 h1;omega
  subst hj;have hi:i=i':=YW h3 h1 g1 (h4.symm.trans g4);subst hi;rfl
 ·exact absurd (show j<4097 by omega) (key h1 h4 g1 (show 0<4097 by omega))
 ·exact absurd (show j'<4097 by omega) (key g1 g4 h1 (show 0<4097 by omega))
 ·rfl
theorem AlF{f:List Int->List Int}{g:List Int->Int}{u:List Int}{p q:Nat}(hp:0<p)(hu:AQ f p u=u)(hn:(A4 f p u).Nodup)(hq:q<p)(jv:∀r,r<p->0<=B0 (AQ f r u) (AQ f q u)) :
  OQ (A4 f p u,(A4 f p u).map g)=(A4 f p (AQ f q u),(A4 f p (AQ f q u)).map g):=by
 have h1:=pH (g:=g) (B:=λ_=>True) hp hu hn (λ_ _=>trivial);have h2:=GX.Po (g:=g) (B:=λ_=>True) hp hu hn hq (λt ht=>by
  obtain⟨m,hm,rfl⟩:=EY.1 ht;exact jv m hm) (λ_ _=>trivial)
 rw[rB,bZ hu O']at h2;refine(h1.uniq h2 (t:=u) ((Td p u u).2 ⟨0,hp,rfl⟩) ?_).1;dsimp only;rw[<-bZ hu (O':q<=p)];exact(UR q _).mem_iff.2 (EY.2 ⟨0,hp,rfl⟩)
attribute [local irreducible] AA AF AW AC BD BS BR AB AH pw N9
theorem Ajx(I:a8 L)(J:k7 L)(N:w4 L){n:Nt}{x:Int}{s:List Int}(hs:s.length<=1000000)(he:(ID n s x).2.2.2≠0)(q:Bool) :
  Ev L 448 [.agg (BX n),.sl q (s.map AZ),.int .i64 x] (.j4 [.agg [.sl false [],.sl false []],.int .i64 0,.int .i64 (ID n s x).2.2.2]):=by
 refine Ev.x N.JR rfl rfl ?_;have hS:=λq=>zW n I J s q x O'
 repeat' (first|apply AG<;>intro hc<;>try omega|apply AE|refine AD (hS _) ?_)<;>conv=>whnf
 exact AU rfl (by simp[AY,BI,DB])
theorem Ajw(I:a8 L)(J:k7 L)(N:w4 L){n:Nt}{x:Int}{s:List Int}(y5:C6 n=true)(hx:FT n.d x)(hs:DW n s)(q:Bool) :
  ∃v,Ev L 448 [.agg (BX n),.sl q (s.map AZ),.int .i64 x] v/\QL n x s v:=by
 have hW:=λk=>DW.it y5 hx k hs
 have ku:=λk=>((hW k).uf y5).len
 have eu:=ku 0;have eu:s.length<=64:=eu;have hS:=λk q=>nF I J y5 hx (hW k) q
 have Ez:∀q,Ev L 30 [.agg (BX n),.sl q (s.map AZ),.int .i64 x] _:=hS 0;refine Ev.xE N.JR rfl rfl ?_;repeat' (first|apply AG<;>intro hc<;>try omega|apply AE|refine AD (Ez _) ?_)<;>conv=>whnf
 refine N9.ints O' ?_;conv=>whnf
 skip
 have lk:=λk=>FL (f:=c7 n x) k s
 refine C0 (λk=>4098-k) (λ(k:Nat)=>1<=k/\k<=4097/\(A4 (c7 n x) k s).Nodup) (λk=>[(13,.row 37 0 1 0 k)]) (λk=>[(37,37,.rw 1 ((A4 (c7 n x) k s).map (H5 false)))]) 1 ⟨O',O',by simp[A4]⟩ ?_;intro k ⟨k1,k2,k3⟩ ih;by_cases hk:k<=4096;rotate_left
 ·have ek:k=4097:=O'
  subst ek;clear ih;repeat' (first|apply AG<;>intro hc<;>try omega|apply AE)<;>conv=>whnf
  exact⟨_,AU rfl (by simp[AY,BI,DB]),.inr ⟨k3,rfl⟩⟩
 have mg:=lk k;have mf:∀i,i<k->(A4 (c7 n x) k s)[i]?=some (AQ (c7 n x) i s):=λi hi=>O0 hi
 have Fc:=λq=>hS (k-1) q
 have He:=Q2 (f:=c7 n x) (k-1) s;rw[show k-1+1=k by omega]at He;rw[<-He]at Fc;have e1:(0:Nat)+((k:Int)-1).toNat=k-1:=O'
 have yb:(A4 (c7 n x) k s)[0+((k:Int)-1).toNat]?=some (AQ (c7 n x) (k-1) s):=by rw[e1];exact mf _ O'
 repeat' (first|apply AG<;>intro hc<;>try omega|apply A2;omega|apply BP;omega|apply AE)<;>conv=>whnf
 refine FQ (enc:=H5 false) yb rfl ?_;conv=>whnf
 (repeat' (refine AD (Fc _) ?_<;>conv=>whnf))
 refine C0 (λi=>k-i) (λ(i:Nat)=>i<=k/\∀r,r<i->AQ (c7 n x) r s≠AQ (c7 n x) k s) (λi=>[(18,.int .i64 i)]) (λ_=>[]) 0 ⟨O',λr h=>absurd h O'⟩ ?_;intro i ⟨i1,i2⟩ jh;by_cases hi:i<k;rotate_left
 ·have ek:i=k:=O'
  subst ek;have kn:AQ (c7 n x) i s ∉ A4 (c7 n x) i s:=λh=>by
   obtain⟨r,hr,e⟩:=EY.1 h;exact i2 r hr e.symm
  have hnd:(A4 (c7 n x) (i+1) s).Nodup:=by
   rw[O1,List.nodup_append];exact⟨k3,Z',λa ha b j8 e=>kn (by rw[List.mem_singleton]at j8;rw[<-j8,<-e];exact ha)⟩
  have jj:=ih (i+1) O' ⟨O',O',hnd⟩;rw[O1]at jj;clear ih jh;repeat' (first|apply AG<;>intro hc<;>try omega|apply CI|apply AE)<;>conv=>whnf
  refine C1 (enc:=H5 false) (AQ (c7 n x) i s) rfl mg.symm rfl O' O' ?_;rw[show(A4 (c7 n x) i s++[AQ (c7 n x) i s]).length=i+1 by rw[za,mg];rfl];conv=>whnf
  skip
  exact A9 [(37,94)] E' jj
 have Ir:=λq1 q2=>fW I (AQ (c7 n x) i s) (AQ (c7 n x) k s) q1 q2 (by have:=ku i;omega) (by have:=ku k;omega)
 have hgi:(A4 (c7 n x) k s)[0+((i:Int)).toNat]?=some (AQ (c7 n x) i s):=by rw[da,qa];exact mf i hi
 by_cases hT:AQ (c7 n x) i s=AQ (c7 n x) k s;rotate_left
 ·rw[decide_eq_false hT]at Ir
  have Ak:=jh (i+1) O' ⟨O',λr hr=>by
   by_cases e:r=i
   ·rw[e];exact hT
   ·exact i2 r O'⟩
  clear ih jh;repeat' (first|apply AG<;>intro hc<;>try omega|apply A2;omega|apply AE)<;>conv=>whnf
  refine FQ (enc:=H5 false) hgi rfl ?_;conv=>whnf
  repeat' (first|apply AR;omega|refine AD (Ir _ _) ?_)<;>conv=>whnf
  exact A9 [] E' Ak
 rw[decide_eq_true hT]at Ir;clear ih jh;repeat' (first|apply AG<;>intro hc<;>try omega|apply A2;omega|apply AE)<;>conv=>whnf
 refine FQ (enc:=H5 false) hgi rfl ?_;conv=>whnf
 (repeat' (refine AD (Ir _ _) ?_<;>conv=>whnf))
 have xj:∀m,AQ (c7 n x) m (AQ (c7 n x) k s)=AQ (c7 n x) (i+m) s:=λm=>by rw[<-hT];exact(GO i m s).symm
 have Db:=λm=>DW.it y5 hx m (hW k)
 have yf:=λm=>((Db m).uf y5).len
 have eo:=λm=>(Db m).len
 have ti:=λr q q1 q2=>yG N.toq6 (AQ (c7 n x) r (AQ (c7 n x) k s)) (AQ (c7 n x) q (AQ (c7 n x) k s)) q1 q2 (by have:=eo r;have:=eo q;omega) (by have:=yf r;omega)
 have hV:∀q,q<k-i->(∀r,r<k-i->0<=B0 (AQ (c7 n x) r (AQ (c7 n x) k s)) (AQ (c7 n x) q (AQ (c7 n x) k s)))->AQ (c7 n x) (k-i) (AQ (c7 n x) q (AQ (c7 n x) k s))=AQ (c7 n x) q (AQ (c7 n x) k s)/\(A4 (c7 n x) (k-i) (AQ (c7 n x) q (AQ (c7 n x) k s))).Nodup/\QL n x s (.j4 [.agg (DR (A4 (c7 n x) (k-i) (AQ (c7 n x) q (AQ (c7 n x) k s)),(A4 (c7 n x) (k-i) (AQ (c7 n x) q (AQ (c7 n x) k s))).map (ax n x))),.int .i64 i,.int .i64 0]):=λq hq jv=>by
  have dt:AQ (c7 n x) (k-i) (AQ (c7 n x) k s)=AQ (c7 n x) k s:=by rw[xj,show i+(k-i)=k by omega]
  have dm:=YV (f:=c7 n x) i (k-i) s;rw[show i+(k-i)=k by omega]at dm;have hnd:(A4 (c7 n x) (k-i) (AQ (c7 n x) k s)).Nodup:=by rw[<-hT,<-dm];exact k3.sublist (List.drop_sublist _ _)
  have Ny:=bZ dt (m:=q) O';refine⟨oP dt q,by rw[<-Ny];exact(UR q _).nodup_iff.2 hnd,.inl ⟨i,k,hi,hk,k3,hT.symm,?_⟩⟩;rw[hT,AlF (g:=ax n x) O' dt hnd hq jv]
 refine DT (λm _=>k-i-m) (λ(m q:Nat)=>m<=k-i/\q<k-i/\(q<m\/q=0)/\∀r,r<m->0<=B0 (AQ (c7 n x) r (AQ (c7 n x) k s)) (AQ (c7 n x) q (AQ (c7 n x) k s))) (λm q=>[(20,.int .i64 ((i+m:Nat):Int)),(19,.sl false ((AQ (c7 n x) q (AQ (c7 n x) k s)).map AZ))]) (λ_ _=>[]) 0 0 ⟨O',O',.inr rfl,λr h=>absurd h O'⟩ ?_;intro m q ⟨m1,m2,m3,m4⟩ mh;by_cases hm:m<k-i;rotate_left
 ·have em:m=k-i:=O'
  subst em;obtain⟨v1,v2,v3⟩:=hV q m2 m4;have pz:=zV I J N y5 hx (Db q) (show 0<k-i by omega) O' v1 v2;clear hV ti mh xj yf eo Db;generalize A4 (c7 n x) (k-i) (AQ (c7 n x) q (AQ (c7 n x) k s))=O at*;have s8:=VN (O,O.map (ax n x));repeat' (first|apply AG<;>intro hc<;>try omega|apply AE|refine AD (pz) ?_)<;>conv=>whnf
  refine⟨_,AU rfl ?_,v3⟩;simp only[AY,BI]at s8⊢;simpa using s8
 have uz:(A4 (c7 n x) k s)[0+(((i+m:Nat):Int)).toNat]?=some (AQ (c7 n x) m (AQ (c7 n x) k s)):=by rw[xj,da,qa];exact mf _ O'
 have Ik:=ti m q;have Fs:B0 (AQ (c7 n x) q (AQ (c7 n x) k s)) (AQ (c7 n x) m (AQ (c7 n x) k s)) = -B0 (AQ (c7 n x) m (AQ (c7 n x) k s)) (AQ (c7 n x) q (AQ (c7 n x) k s)):=VO _ _;have kj:=XY (AQ (c7 n x) m (AQ (c7 n x) k s));by_cases dz:B0 (AQ (c7 n x) m (AQ (c7 n x) k s)) (AQ (c7 n x) q (AQ (c7 n x) k s))<0
 ·rw[decide_eq_true dz]at Ik
  have Pk:=mh (m+1) m O' ⟨O',hm,.inl O',λr hr=>by
   by_cases e:r=m
   ·rw[e];omega
   ·have h1:=m4 r O'
    rcases Int.lt_or_le (B0 (AQ (c7 n x) r (AQ (c7 n x) k s)) (AQ (c7 n x) m (AQ (c7 n x) k s))) 0 with h2|h2
    ·have:=Z9 h2 dz;omega
    ·exact h2⟩
  clear hV ti mh xj yf eo Db;repeat' (first|apply AG<;>intro hc<;>try omega|apply A2;omega|apply AE)<;>conv=>whnf
  refine FQ (enc:=H5 false) uz rfl ?_;conv=>whnf
  repeat' (first|apply A2;omega|refine AD (Ik _ _) ?_)<;>conv=>whnf
  refine FQ (enc:=H5 false) uz rfl ?_;conv=>whnf
  repeat' (first|apply AR;omega|fail)<;>conv=>whnf
  rw[show((i+m:Nat):Int)+1=((i+(m+1):Nat):Int)by omega];exact A9 [] E' Pk
 ·rw[decide_eq_false dz]at Ik
  have Pk:=mh (m+1) q O' ⟨O',m2,O',λr hr=>by
   by_cases e:r=m
   ·rw[e];omega
   ·exact m4 r O'⟩
  clear hV ti mh xj yf eo Db;repeat' (first|apply AG<;>intro hc<;>try omega|apply A2;omega|apply AE)<;>conv=>whnf
  refine FQ (enc:=H5 false) uz rfl ?_;conv=>whnf
  repeat' (first|apply AR;omega|refine AD (Ik _ _) ?_)<;>conv=>whnf
  rw[show((i+m:Nat):Int)+1=((i+(m+1):Nat):Int)by omega];exact A9 [] E' Pk
end Go.Eng

namespace Go.Eng
open F
attribute [local irreducible] AA AF AW AB AH pw
variable {L:Lib} {kB:List Int->ByteArray}
set_option maxRecDepth 8000
theorem Amk(r:Rw):DD (D5 r):=by
 have hs3:=NI (v:=r.k8) (m:=4) O';have h4:=AlZ r;refine⟨Tr r,by show B6 r.k8 4<=4;omega,O',λd hd t ht=>(Al0 r).cf _ (va.2 ⟨d,hd,rfl⟩) t ht,.inr (.inr ⟨h4,λd hd=>Ts r hd⟩)⟩
theorem Aj3(n:Nt):(∃i,i<=6/\GC n.s.toNat (aN n) i)\/XM n:=by
 have key:∀k,(∃i,i<k/\GC n.s.toNat (aN n) i)\/∀j,j<k->ED (B8 n.s.toNat (aN n) j)=false:=by
  intro k;induction k with
  |zero=>exact .inr λj h=>absurd h O'
  |succ k ih=>
   rcases ih with⟨i,h1,h2⟩|h
   ·exact .inl ⟨i,O',h2⟩
   ·cases hc:ED (B8 n.s.toNat (aN n) k)
    ·exact .inr λj hj=>by
      by_cases e:j=k
      ·rw[e,hc]
      ·exact h j O'
    ·exact .inl ⟨k,O',hc,h⟩
 rcases key 7 with⟨i,h1,h2⟩|h
 ·exact .inl ⟨i,O',h2⟩
 ·exact .inr λj hj=>h j O'
theorem An5{n:Nt}(hn:DD n)(h:XM n):0<n.s:=by
 obtain⟨_,_,⟨oa,_,_,h5⟩,_⟩:=(CP n).1 hn.du;refine Int.not_le.1 λh0=>?_
 have h1:n.s=0:=O'
 have h2:n.next=[]:=List.eq_nil_of_length_eq_zero O'
 have h3:=h 0 O';rw[aN,h2,List.map_nil,h1]at h3;exact absurd h3 (by decide +kernel)
theorem Ago(I:a8 L)(N:aq L)(n:Nt)(hn:DD n)(x:Int)(hx:FT n.d x->-8388607<=x/\x<=8388607) :
  ∃(B:List Int) (e:Int),Ev L 450 [.agg (BX n),.int .i64 x] (.j4 [.sl false (B.map AZ),.int .i64 e])/\Ev L 451 [.agg (BX n),.int .i64 x] (.j4 [.sl false (B.map AZ),.int .i64 e])/\B.length<=64/\((FT n.d x/\e=0/\∃i,i<=6/\GC n.s.toNat (aN n) i/\B=NK n i x)\/e≠0):=by
 obtain⟨p1,p2⟩:=Aiu I N n hn x hx;obtain⟨r1,r2⟩:=Ajp I N n hn x hx;by_cases hf:FT n.d x
 ·obtain⟨p3,p4⟩:=p2 hf
  obtain⟨r3,r4⟩:=r2 hf;rcases Aj3 n with⟨i,i1,i2⟩|hu
  ·exact⟨_,0,p3 i i1 i2,r3 i i1 i2,by rw[lE];have:=hn.st;omega,.inl ⟨hf,rfl,i,i1,i2,rfl⟩⟩
  ·exact⟨[],14,p4 hu (An5 hn hu),r4 hu,Z',.inr O'⟩
 ·exact⟨[],17,p1 hf,r1 hf,Z',.inr O'⟩
theorem AnF{n:Nt}{s:List Int}{x:Int}(h:(ID n s x).2.2.2=0):FT n.d x/\DW n s:=by
 have h1:(E9 n s x).2.2=0:=by
  by_cases e:(E9 n s x).2.2=0
  ·exact e
  ·rw[sI n e]at h;exact h
 obtain⟨g1,_⟩:=sW n h1;have hw:FN n s [x]=0:=by
  by_cases e:FN n s [x]=0
  ·exact e
  ·rw[ZF n g1 e]at h1;exact h1
 have hl:=tA n hw;rw[FN,if_neg O']at hw;split at hw
 ·rename_i h2
  simp only[Bool.and_eq_true,DF,List.all_cons,List.all_nil,ga,decide_eq_true_eq]at h2;exact⟨h2.2,hl,h2.1⟩
 ·cases hw
theorem Aha(I:a8 L)(J:k7 L)(N:q6 L)(R:w4 L)(Y:KJ L kB)(Z:VF L)(n:Nt)(x:Int)(box:List Int)(q:Bool)(hb:box.length<9223372036854775808) :
  ∃(l:List Cy) (e:Int),Ev L 433 [.agg (BX n),.int .i64 x,.sl q (box.map AZ)] (.j4 [.sl false (l.map DR),.int .i64 e])/\Ev L 447 [.agg (BX n),.int .i64 x,.sl q (box.map AZ)] (.j4 [.sl false (l.map DR),.int .i64 e])/\e=I2 n x box/\(e=0->LK (c7 n x) (ax n x) box l)/\(e≠0->l=[]):=by
 by_cases h:I2 n x box=0
 ·obtain⟨v,h1,l,h2,rfl⟩:=yC I J N Y Z h q
  obtain⟨v',h3,l',h4,rfl⟩:=Ajq I J R h q;obtain rfl:=h2.uniq h4;exact⟨l,0,h1,h3,h.symm,λ_=>h2,λh=>absurd rfl h⟩
 ·exact⟨[],_,Aiw I J N h q hb,Ajr I J R h q hb,rfl,λe=>absurd e h,λ_=>rfl⟩
theorem Am6(I:a8 L)(J:k7 L)(N:q6 L)(R:w4 L)(Y:KJ L kB){n:Nt}(hn:C6 n=true)(x:Int)(s:List Int)(q:Bool)(hs:s.length<=1000000) :
  ∃(z:Cy) (fr e:Int),Ev L 436 [.agg (BX n),.sl q (s.map AZ),.int .i64 x] (.j4 [.agg (DR z),.int .i64 fr,.int .i64 e])/\Ev L 448 [.agg (BX n),.sl q (s.map AZ),.int .i64 x] (.j4 [.agg (DR z),.int .i64 fr,.int .i64 e])/\tP z/\(e=0->FT n.d x/\DW n s/\∃u k,GX (c7 n x) (ax n x) (DW n) z u k):=by
 by_cases h:(ID n s x).2.2.2=0
 ·obtain⟨hx,hw⟩:=AnF h
  obtain⟨v,h1,h2⟩:=AiA I J N Y hn hx hw q;obtain⟨v',h3,h4⟩:=Ajw I J R hn hx hw q;obtain rfl:=h2.uniq h4;obtain⟨z,fr,e,rfl,ki,hz0,_⟩:=h2.out hn hx hw;exact⟨z,fr,e,h1,h3,ki,λhe=>⟨hx,hw,hz0 he⟩⟩
 ·exact⟨([],[]),0,_,AiB I J N hs h q,Ajx I J R hs h q,⟨Z',Z',Z'⟩,λe=>absurd e h⟩
theorem AiT(I:a8 L)(J:k7 L)(W:w9 L)(R:gj L)(N:q6 L)(C:jq L)(Y:KJ L kB)(Z:VF L)(r:Rw)(h1:C3 r.data)(h2:C3 r.x8)(h3:C3 r.k8)(h4:C3 r.out)(h5:LQ r.next)(h6:∀w∈r.nodes,LQ w.1.2/\LQ w.2.2)(hl:r.nodes.length<9223372036854775808)
  (x:Int) (bx st:List Int) (q1 q2:Bool) (nc:C3 x) (lb:bx.length<9223372036854775808) (ls:st.length<9223372036854775808):Ev L 454 [.agg (fH r),.int .i64 x,.sl q1 (bx.map AZ),.sl q2 (st.map AZ)] (.bool true):=by
 have hkn:=AiU I J N C.todh Y Z;refine Ev.x C.SR rfl rfl ?_;by_cases hlen:10<bx.length
 ·repeat' (first|apply AG<;>intro hc<;>try omega|apply AP|apply AE|refine AD (hkn) ?_)<;>conv=>whnf
  exact EV rfl
 by_cases Apk:10<st.length
 ·repeat' (first|apply AG<;>intro hc<;>try omega|apply AP|apply AE|refine AD (hkn) ?_)<;>conv=>whnf
  exact EV rfl
 have hn:=Amk r;have Jp:=AjR I W R r h1 h2 h3 h4 h5 h6 hl;have hd6:=wJ r.data;change WV (D5 r).d/\6<=(D5 r).d.b/\(D5 r).d.b<=12 at hd6;generalize D5 r=n at*;have Hp:FT n.d x->-8388607<=x/\x<=8388607:=λ⟨_,e1,e2⟩=>by
  obtain⟨l1,l2,l3,_⟩:=Q5 hd6.1;have l5:=RC (n:=n.d.b-1) (m:=11) O';have l6:pw 11=2048:=by unfold pw;rfl
  omega
 obtain⟨B,e1,b1,b2,_⟩:=Ago I C.toaq n hn x Hp;have pz:=λq=>Aha I J N C.tow4 Y Z n x bx q lb
 have hse:=λq=>Am6 I J N C.tow4 Y hn.du x st q O'
 obtain⟨l,e2,c1,c2,_⟩:=pz q1;obtain⟨z,fr,e3,s1,s2,_⟩:=hse q2;clear pz hse Hp;repeat' (first|apply AG<;>intro hc<;>try omega|apply AP|apply AE|refine AD (Jp) ?_|refine AD (b1) ?_|refine AD (b2) ?_|refine AD (c1) ?_|refine AD (c2) ?_|refine AD (s1) ?_|refine AD (s2) ?_|refine AD (hkn) ?_)<;>conv=>whnf
 all_goals exact EV rfl
end Go.Eng
