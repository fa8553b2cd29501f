/-
  Bounds (layer 29): Bound.
-/
import Derived.Test.YtplhdlbnneoobaaGreatB13
import Derived.Test.YtplhdlbnneoobaaGreatB2
import Derived.Test.YtplhdlbnneoobaaGreatB12
import Derived.Test.YtplhdlbnneoobaaGreatB11
set_option linter.unusedSimpArgs false
set_option linter.unusedVariables false
set_option linter.unnecessarySimpa false
namespace Go.c6
open F
attribute [local irreducible] AA AF AX AC CN AR BA A6 BV BH CM EI BO AY B0 CJ AB A5 AH pw CQ CE C8 EA DP BT CP BU C7
variable {L:Lib}
set_option maxHeartbeats 16000000
set_option maxRecDepth 8000
def XN (n:Nt) (i v:Nat) (x:Int):Rat:=IE n (2^i) v*(x:Rat)+H3 n (2^i) v
theorem Aga (I:c7 L) (N:iy L) (n:Nt) (hn:CT n) (v:Nat) (hv:v<n.s.toNat+1+n.nodes.length) (x:Int) (hx:0<=x/\x<=EK n.d) :
  ∃ w,Ev L 360 [.agg (CO n),.int .i64 (v:Int),.int .i64 x] w/\((∃ i,i<=6/\HA n.s.toNat (aN n) i/\Bt 900000000000 (XN n i v x)/\w = .g8 [.agg (eQ (XN n i v x)),.int .i64 0])\/(aV n/\w = .g8 [.agg [.bool false,.sl false [],.sl false []],.int .i64 14])):=by
 obtain ⟨kv,_,⟨nz,_⟩,_⟩:=(C5 n).1 hn.aw;have De:=Y5 kv;have k7:=hn.st;have ew:=hn.nl;have B:n8 L:=N.ton8;have hU:=vM I B n hn;have hH:=cI n.d I;generalize Gf:EK n.d=hi at *;have Ez:(2:Nat)^24=16777216:=rfl;have qm:=Bt.ofInt (show x.natAbs<=2^24 by omega);refine Ev.xE N.NR rfl rfl ?_;(repeat' ((first|(apply AG<;>intro hc<;>try omega)|(apply AQ;omega)|apply AP|apply AE|refine AD (hU) ?_|refine AD (hH) ?_)<;>conv=>whnf))
 refine XP [3,6] [(3,3,.bx (CO n)),(6,6,.bx [.bool false,.nil,.nil])] ⟨rfl,rfl,trivial⟩ rfl (qO I B n hn _ _ 3 (Or.inr (Or.inr ⟨rfl,rfl⟩)) _ (λ i i1 i2 => ?_) (λ sf => ?_))
 ·obtain ⟨g1,_,g3⟩:=RE i1
  have yh:=λ(K:AV->Mem->Prop) hK=>qP B n hn i i1 v hv [(3,3,.bx (CO n)),(6,6,.bx [.bool false,.nil,.nil])] [3,6] 3 0 (Or.inr (Or.inr ⟨rfl,rfl⟩)) K hK
  have Cr:XN n i v x=IE n (2^i) v*(x:Rat)+H3 n (2^i) v:=rfl;(repeat' ((first|(apply AG<;>intro hc<;>try omega)|(apply A2;omega))<;>conv=>whnf))
  refine XP _ _ ?_ ?_ (yh _ ?_)
  ·exact ⟨rfl,rfl,rfl,rfl,rfl,rfl,rfl,rfl,trivial⟩
  ·rfl
  intro b1 b2;have Aa:=tV B (IE n (2^i) v) (H3 n (2^i) v) x 400000000000 b1 b2 (by omega) (by omega);rw[<-Cr]at Aa;have Sa:Bt 900000000000 (XN n i v x):=by
   rw[Cr];exact ((b1.mul qm).add b2).le (by omega)
  generalize IE n (2^i) v=ra at *;generalize H3 n (2^i) v=rb at *;obtain ⟨bo,Jk⟩ : ∃ bo,XN n i v x=bo:=⟨_,rfl⟩;rw[Jk]at Aa Sa;(conv=>whnf)
  (repeat' (refine AD (Aa) ?_<;>conv=>whnf))
  exact ⟨_,AW rfl (by
   have:=C3 bo
   simp only[AZ,BS,and_true,true_and]at this ⊢;exact this),Or.inl ⟨i,i1,i2,by rw[Jk];exact Sa,by rw[Jk]⟩⟩
 ·(repeat' ((first|(apply AG<;>intro hc<;>try omega)|fail)<;>conv=>whnf))
  exact ⟨_,AW rfl (by simp [AZ,BS,EV]),Or.inr ⟨sf,rfl⟩⟩
theorem Ra {S:FE} {n k:Nat} (hS:S.Ok n k) (hn:n<=4) (hk:k<=40000) {p:Nat} (hp:p<=64):Bt 100000000000 (EP S p):=by
 have tc:Sq n S.a:=⟨hS.la,hS.lr⟩;have ia:=hS.lc;have ti : ∀ j,j<=128->Bs 90000000 (C6 S.a S.b j):=λ j hj=>(Qc tc hS.lb hS.ba hS.bb j).le (by have:=oR (n:=n) (k:=k) hn hj;omega)
 have y7 : ∀ j,j<=128->Bt (4*(k+90000000+1)) (A3 S.c (C6 S.a S.b j)):=λ j hj=>(hS.bc.dot (ti j hj)).le (zR _ (by omega))
 have fe:Bt (4*(k+1)) (BF S.c):=(RJ hS.bc).le (zR _ (by omega));have q1:=(Z4 (f:=GV S.a S.b S.c) (k:=370000000) (p+p) λ t ht=>(HU (y7 t (by omega))).le (by omega)).le (zR _ (show p+p<=128 by omega));have q2:=(Z4 (f:=λ t=>GE S.a S.b (p+t)) (k:=90000000) p λ t ht=>Q9 (ti (p+t) (by omega))).le (zR _ (show p<=128 by omega));exact ((HU hS.bd).add (q1.add (fe.mul q2))).le (by omega)
theorem AjF {n:Nt} (hn:CT n) {v:Nat} (hv:v<n.s.toNat+1+n.nodes.length):CT (DR n v):=by
 obtain ⟨h1,h2,h3,h4,h5,h6⟩:=(C5 n).1 hn.aw;exact ⟨(C5 (DR n v)).2 ⟨h1,h2,h3,h4,h5,show (0:Int)<=(v:Int)/\(v:Int)<=n.s+n.nodes.length by omega⟩,hn.st,hn.nl,hn.cf,hn.tl⟩
theorem dS {n:Nt} (hn:CT n):RY (BP n):=by
 refine ⟨λ ts h => ?_,λ ts h => ?_⟩;all_goals
  obtain ⟨d,hd,rfl⟩:=List.mem_map.1 h
 ·rcases hn.tl with h|⟨_,h⟩
  ·have:=h d hd;omega
  ·exact h d hd
 ·exact hn.cf d hd
theorem Rf {n:Nt} (hn:CT n) {s:CK} (hs:QR n s) (v:Nat):(JD n s v).Ok n.s.toNat 40000 :=
 ⟨(QT hn).l,(QT hn).r,hs.bl hn,mZ n v,aW hn,hs.bb,mY hn v,WL hs.gb v⟩
theorem yL {n:Nt} (hn:CT n) (v:Nat):(E7 (DR n v)).Ok n.s.toNat 40000:=by
 rw[<-Ri hn.aw];exact Rf hn (Mj hn) v
theorem xL {n:Nt} (hn:CT n) (k v:Nat):(HE (DR n v) (k:Int)).Ok n.s.toNat 40000:=by
 rw[<-Rh hn.aw k 1];exact Rf hn (nS hn _ ⟨by decide,by decide⟩ (by decide)) v
theorem Ag6 (I:c7 L) (N:w8 L) (n:Nt) (hn:CT n) (k:Nat) (nd:Nd) (hnd:n.nodes[k]? = some nd):Ev L 362 [.agg (CO n),.int .i64 (k:Int)] (.g8 [.agg (eQ (DY n nd)),.int .i64 0]):=by
 obtain ⟨h1,h2,⟨Ru,Rv,Rw,Rx⟩,h4,h5,h6⟩:=(C5 n).1 hn.aw;have vp:=h2;unfold WV at vp;have hV:=cP n I N.tou4;rw[hn.aw]at hV;have uq:n.nodes[(k:Int).toNat]? = some nd:=hnd;have Gj:=(zS hnd).1;have hIn:=TD I k 0 ((n.nodes.length:Int)-1);rw[decide_eq_true (by omega)]at hIn;have pe:=KH N.toa9 0 (by omega);have pf:=KH N.toa9 1 (by omega);have hF:=cL N.toa9 1 2 (by omega) (by omega);rw[show ((0:Int):Rat)=0 from rfl]at pe;rw[show ((1:Int):Rat)=1 from rfl]at pf;have pj:=E0 n.c.f;have hC:=hn.cf _ (zM hnd);have hL:nd.ts.length<=5:=(dS hn).len _ (List.mem_map.2 ⟨nd,zM hnd,rfl⟩);have u9 : ∀ x:Rat,AZ (.g8 [.agg (eQ x),.int .i64 0]):=λ x=>X6 x 0
 refine Ev.x N.PW rfl rfl ?_;(repeat' ((first|(apply BL;omega)|apply AP|apply AE|refine AD (hV) ?_|refine AD (hIn) ?_)<;>conv=>whnf))
 refine FU (λ i _=>nd.ts.length-i) (λ(i:Nat) (b:Bool)=>i<=nd.ts.length/\b=RQ n (nd.ts.take i)) (λ i b=>[(7,.int .i64 i),(6,.bool b)]) (λ_ _=>[]) 0 true ⟨by omega,by simp [RQ]⟩ ?_;intro i b ⟨p1,p2⟩ ih;by_cases hi:i<nd.ts.length
 ·obtain ⟨t,ht⟩ : ∃ t,nd.ts[i]? = some t:=⟨_,zE hi⟩
  have ju:nd.ts[(i:Int).toNat]? = some t:=ht;have hw:=Qi (n:=n) ht;rw[<-p2]at hw;by_cases hz:t.2%pw n.c.f=0
  ·rw[decide_eq_true hz,Bool.and_true]at hw
   cases b
   ·(repeat' ((first|(apply AG<;>intro hc<;>try omega)|(apply AQ;omega)|apply AP|(refine A9 (by assumption) ?_ rfl ?_;omega)|apply AE)<;>conv=>whnf))
    exact BB [] (ih (i+1) false (by omega) ⟨by omega,hw.symm⟩)
   ·(repeat' ((first|(apply AG<;>intro hc<;>try omega)|(apply AQ;omega)|(refine FX ?_ (λ_ _ => ?_);omega)|(refine QP ?_ (λ_ _ _ => ?_) (λ_ _ _ _ => ?_);omega;all_goals try omega)|(apply B3;omega)|apply AP|(refine A9 (by assumption) ?_ rfl ?_;omega)|apply AE)<;>conv=>whnf))
    all_goals exact BB [] (ih (i+1) true (by omega) ⟨by omega,hw.symm⟩)
  ·rw[decide_eq_false hz,Bool.and_false]at hw
   cases b
   ·(repeat' ((first|(apply AG<;>intro hc<;>try omega)|(apply AQ;omega)|apply AP|(refine A9 (by assumption) ?_ rfl ?_;omega)|apply AE)<;>conv=>whnf))
    exact BB [] (ih (i+1) false (by omega) ⟨by omega,hw.symm⟩)
   ·(repeat' ((first|(apply AG<;>intro hc<;>try omega)|(apply AQ;omega)|(refine FX ?_ (λ_ _ => ?_);omega)|(refine QP ?_ (λ_ _ _ => ?_) (λ_ _ _ _ => ?_);omega;all_goals try omega)|(apply B3;omega)|apply AP|(refine A9 (by assumption) ?_ rfl ?_;omega)|apply AE)<;>conv=>whnf))
    all_goals exact BB [] (ih (i+1) false (by omega) ⟨by omega,hw.symm⟩)
 have ei:i=nd.ts.length:=by omega
 clear ih;rw[ei,List.take_length]at p2;cases b
 ·by_cases hr:n.d.r=2
  ·have e:DY n nd=Rat.divInt 1 2:=by rw[DY,<-p2,if_neg (by decide),if_pos hr]
   rw[e];(repeat' ((first|(apply AG<;>intro hc<;>try omega)|apply AP|(refine A9 (by assumption) ?_ rfl ?_;omega)|apply AE|refine AD (hF) ?_)<;>conv=>whnf))
   exact AW rfl (u9 _)
  ·have e:DY n nd=1:=by rw[DY,<-p2,if_neg (by decide),if_neg hr]
   rw[e];(repeat' ((first|(apply AG<;>intro hc<;>try omega)|apply AP|(refine A9 (by assumption) ?_ rfl ?_;omega)|apply AE|refine AD (pf) ?_)<;>conv=>whnf))
   exact AW rfl (u9 _)
 ·have e:DY n nd=0:=by rw[DY,<-p2,if_pos rfl]
  rw[e];(repeat' ((first|(apply AG<;>intro hc<;>try omega)|apply AP|(refine A9 (by assumption) ?_ rfl ?_;omega)|apply AE|refine AD (pe) ?_)<;>conv=>whnf))
  exact AW rfl (u9 _)
theorem vC (N:w8 L) (S:FE) (n i:Nat) (hS:S.Ok n 40000) (hn:n<=4) (hi:i<=6) (hF:HA n S.a i):Ev L 315 [.agg (eS S)] (.g8 [.agg (eQ (EP S (2^i))),.int .i64 0]):=by
 obtain ⟨v,h1,hv⟩:=Ahd N.tox7 S n 40000 hS hn (by omega);rcases hv with ⟨j,j1,j2,rfl⟩|⟨gk,rfl⟩
 ·obtain rfl:=hF.uniq j2;exact h1
 ·have:=gk i hi
  rw[hF.1]at this;cases this
def LT (n:Nt) (i v:Nat) (x:Int) (K:Nat):Rat:=(x:Rat)*IE n (2^i) v+m6 (GZ n) (λ k=>EP (HE (DR n v) (k:Int)) (2^i)) K
theorem Aj4 {n:Nt} (hn:CT n) (i k:Nat) (x:Int):LT n i (1+n.s.toNat+k) x n.nodes.length=E5 n (2^i) k x:=by
 rw[LT,<-Mq hn.aw,E5,Rat.mul_comm]
theorem Ag8 (I:c7 L) (N:w8 L) (n:Nt) (hn:CT n) (i:Nat) (hi:i<=6) (hF:HA n.s.toNat (aN n) i) (v:Nat) (hv:v<n.s.toNat+1+n.nodes.length) (x:Int) (hx:0<=x/\x<=8388607) :
  Bt 1000000000000 (LT n i v x n.nodes.length)/\Ev L 364 [.agg (CO n),.int .i64 (v:Int),.int .i64 x] (.g8 [.agg (eQ (LT n i v x n.nodes.length)),.int .i64 0]):=by
 have Ez:(2:Nat)^24=16777216:=rfl;have k7:=hn.st;have ew:=hn.nl;have gk:=AjF hn hv;obtain ⟨_,_,⟨nz,_⟩,_⟩:=(C5 n).1 hn.aw;obtain ⟨g1,_,g3⟩:=RE hi;have qj:=tU I N.toy5 (DR n v) gk.aw (dS gk) gk.nl;have Ig : ∀ k:Nat,k<n.nodes.length->Ev L 166 [.agg (CO (DR n v)),.int .i64 (k:Int)] (.g8 [.agg (eS (HE (DR n v) (k:Int))),.int .i64 0]):=λ k hk=>by
  have:=Age I N.toy5 (DR n v) (k:Int) gk.aw (dS gk) gk.nl (by unfold DT;omega)
  rwa [cV,if_pos (show (0:Int)<=(k:Int)/\(k:Int)<((DR n v).nodes.length:Int) by show _/\(k:Int)<(n.nodes.length:Int);omega)]at this
 have Ah:(E7 (DR n v)).a=aN n:=(RZ hn.aw).symm;have Th : ∀ k:Nat,(HE (DR n v) (k:Int)).a=aN n:=λ k=>(RZ hn.aw).symm
 have Io:=vC N (E7 (DR n v)) n.s.toNat i (yL hn v) (by omega) hi (by rw[Ah];exact hF);have Tc:=λ k:Nat=>vC N (HE (DR n v) (k:Int)) n.s.toNat i (xL hn k v) (by omega) hi (by rw[Th];exact hF)
 have Fg:=λ(k:Nat) (nd:Nd) (h:n.nodes[k]? = some nd)=>Ag6 I N (DR n v) gk k nd h
 have jc:=Ra (yL hn v) (by omega) (by omega) g1;have w6:=λ k:Nat=>Ra (xL hn k v) (by omega) (by omega) g1
 have qm:=Bt.ofInt (show x.natAbs<=2^24 by omega);have hOx:=KH N.toa9 x (by omega);have Bz:=UQ N.toa9 qm jc (by omega) (by omega);have Ar : ∀ (k:Nat) (nd:Nd),n.nodes[k]? = some nd->GZ n k=DY n nd:=λ k nd h=>by rw[GZ,h]
 have zj:LT n i v x 0=(x:Rat)*EP (E7 (DR n v)) (2^i):=by
  rw[LT,Oj hn.aw];show _+0=_;rw[Rat.add_zero]
 have gn : ∀ (k:Nat) (nd:Nd),n.nodes[k]? = some nd->LT n i v x (k+1)=LT n i v x k+DY n nd*EP (HE (DR n v) (k:Int)) (2^i):=λ k nd h=>by
  rw[LT,LT,m6,Ar k nd h,<-Rat.add_assoc]
 have mb : ∀ K,K<=n.nodes.length->Bt (100000000030+K*100000000010) (LT n i v x K):=by
  intro K;induction K with
  | zero=>intro _;rw[zj];exact (qm.mul jc).le (by omega)
  | succ K ih =>
   intro hK;obtain ⟨nd,hnd⟩ : ∃ nd,n.nodes[K]? = some nd:=⟨_,zE (by omega)⟩;rw[gn K nd hnd];exact ((ih (by omega)).add ((TJ n nd).1.mul (w6 K))).le (by omega)
 have Sx:=λ(k:Nat) (nd:Nd)=>UQ N.toa9 (TJ n nd).1 (w6 k) (by omega) (by omega)
 have Ry:=λ(k:Nat) (nd:Nd) (hk:k<n.nodes.length)=>R7 N.toa9 (mb k (by omega)) ((TJ n nd).1.mul (w6 k)) (by omega) (by omega)
 have wg:=(mb n.nodes.length (Nat.le_refl _)).le (show _<=1000000000000 by omega);refine ⟨wg,?_⟩;rw[<-zj]at Bz;have u9:=λ x:Rat=>X6 x 0
 obtain ⟨R,hR⟩ : ∃ R:Nat->Rat,∀ k,LT n i v x k=R k:=⟨_,λ_=>rfl⟩;obtain ⟨T,hT⟩ : ∃ T:Nat->Rat,∀ k:Nat,EP (HE (DR n v) (k:Int)) (2^i)=T k:=⟨_,λ_=>rfl⟩;have Hp : ∀ (k:Nat) (nd:Nd),n.nodes[k]? = some nd->Ev L 126 [.agg (eQ (R k)),.agg (eQ (DY n nd*T k))] (.agg (eQ (R (k+1)))):=λ k nd h=>by
  have hk:=(zS h).1;have:=Ry k nd hk
  rw[<-gn k nd h,hR,hR,hT]at this;exact this
 simp only[hT]at Tc Sx;rw[hR]at Bz ⊢;clear Ry gn zj mb w6 jc wg hR hT Ar Th Ah;generalize EP (E7 (DR n v)) (2^i)=s0 at *;refine Ev.x N.PY rfl rfl ?_;(repeat' ((first|(apply AG<;>intro hc<;>try omega)|apply AE|refine AD (qj) ?_|refine AD (Io) ?_|refine AD (hOx) ?_|refine AD (Bz) ?_)<;>conv=>whnf))
 refine D4 (λ k=>n.nodes.length-k) (λ(k:Nat)=>k<=n.nodes.length) (λ k=>[(13,.int .i64 k)]) (λ k=>[(12,12,.bx (eQ (R k)))]) 0 (by omega) ?_;intro k k1 kh;by_cases hk:k<n.nodes.length
 ·obtain ⟨nd,hnd⟩ : ∃ nd,n.nodes[k]? = some nd:=⟨_,zE hk⟩
  have f1:=Fg k nd hnd;have f1':Ev L 362 [.agg (CO (DR n v)),.int .i64 (k:Int)] (.g8 [.agg (eQ (DY n nd)),.int .i64 0]):=f1;have f2:=Ig k hk;have f3:=Tc k;have f4:=Sx k nd;have f5:=Hp k nd hnd;clear f1;generalize HE (DR n v) (k:Int)=Sk at *;generalize DY n nd=lv at *;(repeat' ((first|(apply AG<;>intro hc<;>try omega)|(apply AQ;omega)|apply AP|apply AE|refine AD (f1') ?_|refine AD (f2) ?_|refine AD (f3) ?_|refine AD (f4) ?_|refine AD (f5) ?_)<;>conv=>whnf))
  exact BB [] (kh (k+1) (by omega) (by omega))
 have ek:k=n.nodes.length:=by omega
 clear kh;rw[ek];(repeat' ((first|(apply AG<;>intro hc<;>try omega)|apply AP|apply AE)<;>conv=>whnf))
 exact AW rfl (u9 _)
theorem Aha (I:c7 L) (N:w8 L) (n:Nt) (hn:CT n):Ev L 363 [.agg (CO n)] (.bool true):=by
 have hV:=cP n I N.tou4;rw[hn.aw]at hV;have:=hn.st
 refine Ev.x N.P1 rfl rfl ?_;(repeat' ((first|(apply AG<;>intro hc<;>try omega)|apply AE|refine AD (hV) ?_)<;>conv=>whnf))
 exact FV rfl
theorem Ag9 (I:c7 L) (N:w8 L) (n:Nt) (hn:CT n) (x:Int) (hx:0<=x/\x<=EK n.d) :
  (∀ i,i<=6->HA n.s.toNat (aN n) i->Ev L 365 [.agg (CO n),.int .i64 x] (.g8 [.bool (decide (∀ k,k<n.nodes.length->E5 n (2^i) k x<=(EK n.d:Rat))),.int .i64 0]))/\(aV n->Ev L 365 [.agg (CO n),.int .i64 x] (.g8 [.bool false,.int .i64 14])):=by
 obtain ⟨kv,_,⟨nz,_⟩,_⟩:=(C5 n).1 hn.aw;have De:=Y5 kv;have k7:=hn.st;have ew:=hn.nl;have Ez:(2:Nat)^24=16777216:=rfl;have Td:=Aha I N n hn;have hH:=vG n.d I;have hIn:=TD I x 0 (EK n.d);rw[decide_eq_true hx]at hIn;have qj:=tU I N.toy5 n hn.aw (dS hn) hn.nl;have Aq:(E7 n).a=aN n:=(RZ hn.aw).symm;have Sr:eS (E7 n)=[.sl false (eM (aN n)),.sl false ((E7 n).b.map eQ),.sl false ((E7 n).c.map eQ)]++eQ (E7 n).d:=by rw[<-Aq]
 rw[Sr]at qj;generalize (E7 n).b=lb at *;generalize (E7 n).c=lc at *;generalize (E7 n).d=ld at *;clear Sr Aq;obtain ⟨w,hP,hw⟩:=vA N.tox7 false false (aN n) n.s.toNat 40000 (QT hn) (aW hn) (by omega) (show 40000<=100000 by decide);have Ij:=KH N.toa9 (EK n.d) (by omega);have Fw:=Bt.ofInt (show (EK n.d).natAbs<=2^24 by omega);generalize Gf:EK n.d=hi at *;refine ⟨λ i i1 i2 => ?_,λ sf => ?_⟩
 ·have zr:w = .g8 [.int .i64 ((2^i:Nat):Int),.int .i64 0]:=by
   rcases hw with ⟨j,j1,j2,rfl⟩|⟨gk,rfl⟩
   ·obtain rfl:=i2.uniq j2;rfl
   ·have:=gk i i1
    rw[i2.1]at this;cases this
  subst zr;clear hw;have Tb:=λ(k:Nat) (hk:k<n.nodes.length)=>Ag8 I N n hn i i1 i2 (1+n.s.toNat+k) (by omega) x (by omega)
  have xy : ∀ k:Nat,k<n.nodes.length->Bt 1000000000000 (E5 n (2^i) k x)/\Ev L 364 [.agg (CO n),.int .i64 (1+n.s+(k:Int)),.int .i64 x] (.g8 [.agg (eQ (E5 n (2^i) k x)),.int .i64 0]):=λ k hk=>by
   have:=Tb k hk
   rwa [Aj4 hn,show ((1+n.s.toNat+k:Nat):Int)=1+n.s+(k:Int) by omega]at this
  have ou:=λ k:Nat=>P8 (x:=E5 n (2^i) k x) (y:=(hi:Rat))
  have lu:=λ(k:Nat) (hk:k<n.nodes.length)=>YM N.toa9 (xy k hk).1 Fw (by omega) (by omega)
  have Sh:=λ(k:Nat) (hk:k<n.nodes.length)=>(xy k hk).2
  clear Tb xy;obtain ⟨B,hB⟩ : ∃ B:Nat->Rat,∀ k,E5 n (2^i) k x=B k:=⟨_,λ_=>rfl⟩;simp only[hB]at ou lu Sh ⊢;clear hB;generalize 2^i=p2 at *;refine Ev.x N.K7 rfl rfl ?_;(repeat' ((first|(apply AG<;>intro hc<;>try omega)|apply AE|refine AD (Td) ?_|refine AD (hH) ?_|refine AD (hIn) ?_|refine AD (qj) ?_|refine AD (hP) ?_)<;>conv=>whnf))
  refine D4 (λ k=>n.nodes.length-k) (λ(k:Nat)=>k<=n.nodes.length /\ ∀ j,j<k->B j<=(hi:Rat)) (λ k=>[(10,.int .i64 k)]) (λ_=>[]) 0 ⟨by omega,by omega⟩ ?_;intro k ⟨k1,k2⟩ kh;by_cases hk:k<n.nodes.length
  ·have f1:=Sh k hk
   have f2:=lu k hk;have f3:=ou k;generalize o9 (B k-(hi:Rat)).num=sg at *;(repeat' ((first|(apply AG<;>intro hc<;>try omega)|(apply AQ;omega)|apply AP|apply AE|refine AD (f1) ?_|refine AD (hH) ?_|refine AD (Ij) ?_|refine AD (f2) ?_)<;>conv=>whnf))
   ·have hd:decide (∀ k,k<n.nodes.length->B k<=(hi:Rat))=false:=decide_eq_false λ h=>by
     have h1:=h k hk;have h2:=f3.1 hc;grind
    rw[hd];exact AW rfl (by simp [AZ,BS])
   ·have hle:B k<=(hi:Rat):=Rat.not_lt.1 λ h=>by have:=f3.2 h;omega
    exact BB [] (kh (k+1) (by omega) ⟨by omega,λ j hj=>by
     by_cases e:j=k
     ·rw[e];exact hle
     ·exact k2 j (by omega)⟩)
  have ek:k=n.nodes.length:=by omega
  clear kh;rw[ek]at k2 ⊢;rw[decide_eq_true k2];(repeat' ((first|(apply AG<;>intro hc<;>try omega)|apply AP|apply AE)<;>conv=>whnf))
  exact AW rfl (by simp [AZ,BS])
 ·have zr:w = .g8 [.int .i64 0,.int .i64 14]:=by
   rcases hw with ⟨j,j1,j2,rfl⟩|⟨gk,rfl⟩
   ·have:=sf j j1
    rw[j2.1]at this;cases this
   ·rfl
  subst zr;refine Ev.x N.K7 rfl rfl ?_;(repeat' ((first|(apply AG<;>intro hc<;>try omega)|apply AE|refine AD (Td) ?_|refine AD (hH) ?_|refine AD (hIn) ?_|refine AD (qj) ?_|refine AD (hP) ?_)<;>conv=>whnf))
  exact AW rfl (by simp [AZ,BS])
theorem Ag7 (I:c7 L) (N:w8 L) (n:Nt) (hn:CT n) :
  (∀ i,i<=6->HA n.s.toNat (aN n) i->(∃ k,k<n.nodes.length/\(EK n.d:Rat)<H3 n (2^i) (1+n.s.toNat+k))->Ev L 366 [.agg (CO n)] (.g8 [.int .i64 0,.int .i64 18]))/\(aV n->Ev L 366 [.agg (CO n)] (.g8 [.int .i64 0,.int .i64 14])):=by
 obtain ⟨kv,_⟩:=(C5 n).1 hn.aw;have De:=Y5 kv;obtain ⟨h1,h2⟩:=Ag9 I N n hn 0 (by omega);refine ⟨λ i i1 i2 ⟨k,hk,hr⟩ => ?_,λ sf => ?_⟩
 ·have hs:=h1 i i1 i2
  rw[decide_eq_false λ h=>by
   have h3:=h k hk;rw[E5,show ((0:Int):Rat)=0 from rfl,Rat.mul_zero,Rat.zero_add]at h3;grind]at hs
  refine Ev.x N.K6 rfl rfl ?_;(repeat' ((first|(apply AG<;>intro hc<;>try omega)|apply AE|refine AD (hs) ?_)<;>conv=>whnf))
  exact AW rfl (by simp [AZ,BS])
 ·have hs:=h2 sf
  refine Ev.x N.K6 rfl rfl ?_;(repeat' ((first|(apply AG<;>intro hc<;>try omega)|apply AE|refine AD (hs) ?_)<;>conv=>whnf))
  exact AW rfl (by simp [AZ,BS])
end Go.c6
namespace Go.c6
set_option maxHeartbeats 2000000
def F7 (a:List (List Rat)) (c w:List Rat) (j:Nat):Rat:=A3 c (C6 a w j)
theorem Ajh (a:List (List Rat)) {u w:List Rat} (h:u.length=w.length):DB a (KC u w)=KC (DB a u) (DB a w):=by
 rw[DB,DB,DB,aY];exact List.map_congr_left λ r _=>cB h
theorem Qd (a:List (List Rat)) {u w:List Rat} (h:u.length=w.length) : ∀ j,C6 a (KC u w) j=KC (C6 a u j) (C6 a w j)/\(C6 a u j).length=(C6 a w j).length
 | 0=>⟨rfl,h⟩
 | j+1=>by
  obtain ⟨h1,h2⟩:=Qd a h j;exact ⟨by rw[C6,h1,Ajh a h2];rfl,by rw[C6,C6,WY,WY]⟩
theorem sT (x:Rat) (a w:List Rat):A3 a (w.map (· * x))=A3 a w*x:=by rw[TA,cD,TA]
theorem Qf (a:List (List Rat)) (w:List Rat) (x:Rat) : ∀ j,C6 a (w.map (· * x)) j=(C6 a w j).map (· * x)
 | 0=>rfl
 | j+1=>by
  rw[C6,Qf a w x j,C6,DB,DB,List.map_map];exact List.map_congr_left λ r _=>sT x r _
theorem Nz (a:List (List Rat)) (c:List Rat) {u w:List Rat} (h:u.length=w.length) (j:Nat):F7 a c (KC u w) j=F7 a c u j+F7 a c w j:=by
 obtain ⟨h1,h2⟩:=Qd a h j;rw[F7,h1,cB h2];rfl
theorem Oa (a:List (List Rat)) (c w:List Rat) (x:Rat) (j:Nat):F7 a c (w.map (· * x)) j=F7 a c w j*x:=by rw[F7,Qf,sT];rfl
theorem Qe (a:List (List Rat)) (w:List Rat) : ∀ j,C6 a (DB a w) j=C6 a w (j+1)
 | 0=>rfl
 | j+1=>by rw[C6,Qe a w j];rfl
theorem gW {ε lv f:Nat->Rat} : ∀ N,(∀ k,k<N->A4 (ε k)<=lv k)->A4 (m6 ε f N)<=m6 lv (λ k=>A4 (f k)) N
 | 0,_=>by rw[m6,m6,V0];exact Rat.le_refl
 | N+1,h=>by
  rw[m6,m6];refine Rat.le_trans (VZ _ _) (QU (gW N λ k hk=>h k (by omega)) ?_);rw[UC];exact Rat.mul_le_mul_of_nonneg_right (h N (by omega)) (S5 _)
theorem tO {lv f g:Nat->Rat} (h0 : ∀ k,0<=lv k) : ∀ N,(∀ k,k<N->f k<=g k)->m6 lv f N<=m6 lv g N
 | 0,_=>Rat.le_refl
 | N+1,h=>by
  rw[m6,m6];exact QU (tO h0 N λ k hk=>h k (by omega)) (Rat.mul_le_mul_of_nonneg_left (h N (by omega)) (h0 N))
variable {n:Nt}
def RL (n:Nt) (st:List Rat) (x:Rat) (ε:Nat->Rat) (K:Nat):List Rat:=n.next.map λ e=>(A3 (fA n e) st+gX n e*x)+m6 ε (λ k=>gK n k e) K
def bX (n:Nt):List Rat:=n.next.map (gX n)
def bK (n:Nt) (k:Nat):List Rat:=n.next.map (gK n k)
theorem Qn (hb:DZ n=true) (c st:List Rat) (x:Rat) (ε:Nat->Rat) (j:Nat) : ∀ K,F7 (aN n) c (RL n st x ε K) j=(F7 (aN n) c st (j+1)+F7 (aN n) c (bX n) j*x)+m6 ε (λ k=>F7 (aN n) c (bK n k) j) K
 | 0=>by
  have e:RL n st x ε 0=KC (DB (aN n) st) ((bX n).map (· * x)):=by
   rw[RZ hb,DB,bX,List.map_map,List.map_map,aY];refine List.map_congr_left λ e _ => ?_
   show A3 (fA n e) st+gX n e*x+0=_;rw[Rat.add_zero];rfl
  rw[e,Nz _ _ (by rw[WY,RZ hb,List.length_map,List.length_map,bX,List.length_map]),Oa,m6,Rat.add_zero];congr 1;rw[F7,Qe];rfl
 | K+1=>by
  have e:RL n st x ε (K+1)=KC (RL n st x ε K) ((bK n K).map (· * ε K)):=by
   rw[RL,RL,bK,List.map_map,aY];refine List.map_congr_left λ e _ => ?_
   show _+(_+ε K*gK n K e)=_+_+gK n K e*ε K;grind
  rw[e,Nz _ _ (by simp [RL,bK]),Oa,Qn hb c st x ε j K,m6];grind
def wN (n:Nt) (m:Rat) (t:Nat) (c:List Rat) (j:Nat):Rat:=m*B4 (λ i=>A4 (F7 (aN n) c (bX n) (j+i))) t+m6 (GZ n) (λ k=>B4 (λ i=>A4 (F7 (aN n) c (bK n k) (j+i))) t) n.nodes.length
theorem Ak6 (f:Nat->Rat) (t:Nat):B4 f (t+1)=f 0+B4 (λ i=>f (i+1)) t:=by
 have:=XC f 1 t
 rw[show 1+t=t+1 by omega]at this;rw[this];have e1:B4 f 1=f 0:=by show 0+f 0=f 0;rw[Rat.zero_add]
 rw[e1];congr 1;exact oB t λ i _=>by rw[show 1+i=i+1 by omega]
theorem AlC (m:Rat) (t:Nat) (c:List Rat) (j:Nat):wN n m (t+1) c j=(wN n m t c (j+1)+m*A4 (F7 (aN n) c (bX n) j))+m6 (GZ n) (λ k=>A4 (F7 (aN n) c (bK n k) j)) n.nodes.length:=by
 have h : ∀ w,B4 (λ i=>A4 (F7 (aN n) c w (j+i))) (t+1)=A4 (F7 (aN n) c w j)+B4 (λ i=>A4 (F7 (aN n) c w (j+1+i))) t:=λ w=>by
  rw[Ak6];congr 1;exact oB t λ i _=>by rw[show j+(i+1)=j+1+i by omega]
 rw[wN,wN,h,UO (g:=λ k=>A4 (F7 (aN n) c (bK n k) j)+B4 (λ i=>A4 (F7 (aN n) c (bK n k) (j+1+i))) t) _ λ k _=>h _,YI];grind
def J7 (n:Nt) (m:Rat) (t:Nat) (st:List Rat):Prop := ∀ c j,A4 (F7 (aN n) c st j)<=wN n m t c j
theorem J7.step (hb:DZ n=true) {m x:Rat} {t:Nat} {st:List Rat} (h:J7 n m t st) (hx:A4 x<=m) {ε:Nat->Rat} (hε : ∀ k,k<n.nodes.length->A4 (ε k)<=GZ n k):J7 n m (t+1) (RL n st x ε n.nodes.length):=by
 intro c j;rw[Qn hb,AlC];refine Rat.le_trans (VZ _ _) (QU (Rat.le_trans (VZ _ _) (QU (h c (j+1)) ?_)) (gW _ hε));rw[UC,Rat.mul_comm];exact Rat.mul_le_mul_of_nonneg_right hx (S5 _)
theorem J7.zero (m:Rat) (S:Nat) (hm:0<=m):J7 n m 0 (List.replicate S 0):=by
 intro c j;have hz : ∀ (k:Nat) (r:List Rat),A3 r (List.replicate k 0)=0:=by
  intro k;induction k with
  | zero=>intro r;cases r<;>rfl
  | succ k ih =>
   intro r;cases r with
   | nil=>rfl
   | cons y r=>rw[List.replicate_succ,A3,ih r,Rat.mul_zero,Rat.zero_add]
 have hv : ∀ j,∃ k,C6 (aN n) (List.replicate S 0) j=List.replicate k 0:=by
  intro j;induction j with
  | zero=>exact ⟨S,rfl⟩
  | succ j ih =>
   obtain ⟨k,hk⟩:=ih;refine ⟨(aN n).length,?_⟩;rw[C6,hk,DB];refine List.eq_replicate_iff.2 ⟨List.length_map _,λ y hy => ?_⟩;obtain ⟨r,_,rfl⟩:=List.mem_map.1 hy;exact hz k r
 obtain ⟨k,hk⟩:=hv j;rw[F7,hk,hz,V0];have:wN n m 0 c j=0:=by
  rw[wN];show m*0+m6 (GZ n) (λ_=>0) n.nodes.length=0;rw[cG,Rat.mul_zero,Rat.add_zero]
 rw[this];exact Rat.le_refl
theorem Py (hn:CT n) {i:Nat} (hc:DJ (B2 n.s.toNat (aN n) i)=true) {m x:Rat} (hm:0<=m) {t:Nat} {st:List Rat} (h:J7 n m t st) (hx:A4 x<=m) {ε:Nat->Rat} (hε : ∀ k,k<n.nodes.length->A4 (ε k)<=GZ n k) (v:Nat) :
  A4 ((A3 (fA n (v:Int)) st+gX n (v:Int)*x)+m6 ε (λ k=>gK n k (v:Int)) n.nodes.length)<=IE n (2^i) v*m+H3 n (2^i) v:=by
 have hb:=hn.aw;have h1:=h (fA n (v:Int)) 0;have hlen : ∀ w:Int->Rat,(n.next.map w).length=n.s.toNat:=λ w=>by rw[List.length_map];exact (W0 hn).1
 have himp : ∀ (w:Int->Rat) (d:Rat),A4 d+B4 (λ i=>A4 (F7 (aN n) (fA n (v:Int)) (n.next.map w) (0+i))) t<=EP ⟨aN n,n.next.map w,fA n (v:Int),d⟩ (2^i):=λ w d=>by
  have:=Aif (n:=n.s.toNat) (S:=⟨aN n,n.next.map w,fA n (v:Int),d⟩) (QT hn) (hlen w) hc t
  refine Rat.le_trans (QU Rat.le_refl (fR t λ j _ => ?_)) this;rw[Nat.zero_add];exact Rat.le_refl
 have e0:(⟨aN n,n.next.map (gX n),fA n (v:Int),gX n (v:Int)⟩:FE)=E7 (DR n v):=by rw[RZ hb];rfl
 have ek : ∀ k:Nat,(⟨aN n,n.next.map (gK n k),fA n (v:Int),gK n k (v:Int)⟩:FE)=HE (DR n v) (k:Int):=λ k=>by rw[RZ hb];rfl
 have i0:=himp (gX n) (gX n (v:Int));have ik:=λ k:Nat=>himp (gK n k) (gK n k (v:Int))
 rw[e0]at i0;simp only[ek]at ik;rw[Oj hb,Mq hb];have hw:wN n m t (fA n (v:Int)) 0+m*A4 (gX n (v:Int))+m6 (GZ n) (λ k=>A4 (gK n k (v:Int))) n.nodes.length<=EP (E7 (DR n v)) (2^i)*m+m6 (GZ n) (λ k=>EP (HE (DR n v) (k:Int)) (2^i)) n.nodes.length:=by
  have j1:=Rat.mul_le_mul_of_nonneg_left i0 hm;have j2:=tO (lv:=GZ n) yB n.nodes.length λ k _=>ik k
  rw[YI]at j2;rw[wN];have j3:m*(A4 (gX n (v:Int))+B4 (λ i=>A4 (F7 (aN n) (fA n (v:Int)) (bX n) (0+i))) t)<=m*EP (E7 (DR n v)) (2^i):=j1;have j4:m6 (GZ n) (λ k=>A4 (gK n k (v:Int))) n.nodes.length+m6 (GZ n) (λ k=>B4 (λ i=>A4 (F7 (aN n) (fA n (v:Int)) (bK n k) (0+i))) t) n.nodes.length<=m6 (GZ n) (λ k=>EP (HE (DR n v) (k:Int)) (2^i)) n.nodes.length:=j2;grind
 refine Rat.le_trans (Rat.le_trans (VZ _ _) (QU (Rat.le_trans (VZ _ _) (QU (show A4 (A3 (fA n (v:Int)) st)<=wN n m t (fA n (v:Int)) 0 from h1) (show A4 (gX n (v:Int)*x)<=m*A4 (gX n (v:Int)) from ?_))) (gW _ hε))) hw;rw[UC,Rat.mul_comm];exact Rat.mul_le_mul_of_nonneg_right hx (S5 _)
end Go.c6

namespace Go.c6
set_option maxHeartbeats 2000000
theorem AkB {f r:Int} (hf:0<=f/\f<=62) (hr:1<=r/\r<=3) (a:Int) : -pw f<=J4 a f r*pw f-a/\J4 a f r*pw f-a<=pw f/\(r=2 -> -pw f<=2*(J4 a f r*pw f-a)/\2*(J4 a f r*pw f-a)<=pw f):=by
 have hp:=E0 f;unfold J4;rw[if_pos ⟨hf.1,hf.2,hr.1,hr.2⟩];by_cases h0:f=0
 ·rw[if_pos h0,h0,Oe];omega
 rw[if_neg h0];have h2:=dW (n:=f) (by omega);have h3:=E0 (f-1);have e1:=Int.emod_add_mul_ediv a (pw f);have e2:=Int.emod_nonneg a (show pw f≠0 by omega);have e3:=Int.emod_lt_of_pos a hp;have e4:(a/pw f+1)*pw f=pw f*(a/pw f)+pw f:=by rw[Int.add_mul,Int.one_mul,Int.mul_comm]
 have e5:a/pw f*pw f=pw f*(a/pw f):=Int.mul_comm _ _;split
 ·rw[e4]
  generalize pw f*(a/pw f)=q at *;refine ⟨by omega,by omega,λ h => ?_⟩;rename_i hc;rcases hc with hc|hc<;>omega
 ·rw[e5]
  generalize pw f*(a/pw f)=q at *;refine ⟨by omega,by omega,λ h => ?_⟩;rename_i hc;have : ¬ pw (f-1)<=a%pw f:=λ h9=>hc (Or.inl ⟨h,h9⟩)
  omega
theorem Yy {a p:Int} {l:Rat} (hp:0<p) (h : -(l*(p:Rat))<=(a:Rat)/\(a:Rat)<=l*(p:Rat)):A4 ((a:Rat)/(p:Rat))<=l:=by
 have Km:(0:Rat)<(p:Rat):=by exact_mod_cast hp
 have l9:(p:Rat)≠0:=by grind
 have hm:((a:Rat)/(p:Rat))*(p:Rat)=(a:Rat):=Rat.div_mul_cancel l9;rw[LZ];split
 ·refine Rat.not_lt.1 λ j9 => ?_
  have h2:=Rat.mul_lt_mul_of_pos_right j9 Km;rw[Rat.neg_mul,hm]at h2;grind
 ·refine Rat.not_lt.1 λ j9 => ?_
  have h2:=Rat.mul_lt_mul_of_pos_right j9 Km;rw[hm]at h2;grind
variable {n:Nt}
theorem Ajn (hn:CT n) {vals:List Int} (hv:ED n.d vals=true) {nd:Nd} (hnd:nd∈n.nodes) :
  A4 (((RD n vals nd:Int):Rat)-CD (D7 vals) nd.ts/((pw n.c.f:Int):Rat))<=DY n nd:=by
 obtain ⟨hd,hc,_⟩:=(C5 n).1 hn.aw;have fc : ∀ v∈vals,FT n.d v:=λ v hm=>by simpa using List.all_eq_true.1 hv v hm
 have hu:=E0 n.c.f;have Eh:((pw n.c.f:Int):Rat)≠0:=by
  intro e;have:pw n.c.f=0:=by exact_mod_cast e
  omega
 have Ct : ∀ t∈nd.ts,-16777216<=t.2/\t.2<=16777216:=λ t ht=>by
  have:=hn.cf nd hnd t ht
  have e:(2:Nat)^24=16777216:=rfl;omega
 have hl:nd.ts.length<=5:=by
  rcases hn.tl with h|⟨_,h⟩
  ·have:=h nd hnd;omega
  ·exact h nd hnd
 have s9:=hc;have hd':=hd;unfold WV at s9 hd';have hE:=AkB (f:=n.c.f) (r:=n.d.r) (by omega) (by omega) (KO vals nd.ts);have Tw:RD n vals nd=J4 (KO vals nd.ts) n.c.f n.d.r:=by
  unfold RD;rw[Rc vals (λ v h=>VW (fc v h)) nd.ts 0 0 Ct (by omega) (by omega),Int.zero_add]
 have vb:((RD n vals nd:Int):Rat)-CD (D7 vals) nd.ts/((pw n.c.f:Int):Rat)=((RD n vals nd*pw n.c.f-KO vals nd.ts:Int):Rat)/((pw n.c.f:Int):Rat):=by
  rw[Qx,Rat.intCast_sub,Rat.intCast_mul,Rat.div_def,Rat.div_def,Rat.sub_eq_add_neg,Rat.sub_eq_add_neg,Rat.add_mul,Rat.mul_assoc,Rat.mul_inv_cancel _ Eh,Rat.mul_one,Rat.neg_mul]
 rw[vb];unfold DY;by_cases hw:RQ n nd.ts=true
 ·rw[if_pos hw]
  obtain ⟨q,hq⟩:=Qv (u:=pw n.c.f) vals nd.ts λ t ht=>by
   have:=of_decide_eq_true (List.all_eq_true.1 hw t ht)
   exact ⟨t.2/pw n.c.f,by have:=Int.emod_add_mul_ediv t.2 (pw n.c.f);omega⟩
  rw[Tw,hq,AkC (by omega) (by omega),Int.mul_comm,Int.sub_self,Rat.div_def,show ((0:Int):Rat)=0 from rfl,Rat.zero_mul,V0];exact Rat.le_refl
 rw[if_neg hw,Tw];generalize J4 (KO vals nd.ts) n.c.f n.d.r*pw n.c.f-KO vals nd.ts=a at *;refine Yy hu ?_;by_cases h2:n.d.r=2
 ·rw[if_pos h2]
  obtain ⟨g1,g2⟩:=hE.2.2 h2;have Hn : -((pw n.c.f:Int):Rat)<=2*(a:Rat):=by exact_mod_cast g1
  have g2':2*(a:Rat)<=((pw n.c.f:Int):Rat):=by exact_mod_cast g2
  rw[show Rat.divInt 1 2=1/2 by rw[Rat.divInt_eq_div];rfl];constructor<;>grind
 ·rw[if_neg h2]
  have Hn : -((pw n.c.f:Int):Rat)<=(a:Rat):=by exact_mod_cast hE.1
  have g2':(a:Rat)<=((pw n.c.f:Int):Rat):=by exact_mod_cast hE.2.1
  constructor<;>grind
theorem vQ {u:Rat} {ε δ:Nat->Rat} : ∀ (l:List (List (Int × Int))) (k:Nat) (vals:List Rat),(∀ j,k<=j->j<k+l.length->ε j=δ j)->EY u ε k vals l=EY u δ k vals l
 | [],_,_,_=>rfl
 | ts::r,k,vals,h=>by
  rw[EY,EY,h k (Nat.le_refl _) (by simp),vQ r (k+1) _ λ j h1 h2=>h j (by omega) (by rw[List.length_cons];omega)]
theorem vS (u:Rat) (ε:Nat->Rat) : ∀ (l:List (List (Int × Int))) (k:Nat) (vals:List Rat),∃ r,EY u ε k vals l=vals++r
 | [],_,vals=>⟨[],(List.append_nil _).symm⟩
 | ts::r,k,vals=>by
  obtain ⟨q,hq⟩:=vS u ε r (k+1) (vals++[CD vals ts/u+ε k]);exact ⟨_,by rw[EY,hq,List.append_assoc]⟩
theorem vP (u:Rat) (ε:Nat->Rat) (b:List (List (Int × Int))) : ∀ (a:List (List (Int × Int))) (k:Nat) (vals:List Rat),EY u ε k vals (a++b)=EY u ε (k+a.length) (EY u ε k vals a) b
 | [],_,_=>rfl
 | ts::r,k,vals=>by rw[List.cons_append,EY,vP u ε b r,EY,List.length_cons,show k+1+r.length=k+(r.length+1) by omega]
theorem vT (hb:DZ n=true) {st:List Rat} {x:Rat} (hl:(st.length:Int)=n.s) (ε:Nat->Rat) {e:Int} (he:0<=e/\e<=n.s+n.nodes.length) :
  (EY ((pw n.c.f:Int):Rat) ε 0 (x::st) (BP n)).getD e.toNat 0=(A3 (fA n e) st+gX n e*x)+m6 ε (λ k=>gK n k e) n.nodes.length:=by
 obtain ⟨h1,h2,h3,h4,h5,h6⟩:=(C5 n).1 hb;have j9:(BP n).length=n.nodes.length:=by simp [BP]
 have hL:=vR (u:=((pw n.c.f:Int):Rat)) ε (x::st) n.nodes.length (BP n) (by omega) (λ i ts h t h2=>by
  simp only[BP,List.getElem?_map]at h;cases hn:n.nodes[i]? with
  | none=>rw[hn]at h;cases h
  | some nd =>
   rw[hn]at h;cases h;have:=List.all_eq_true.1 (ZC h4 hn) t h2
   simp only[FQ,decide_eq_true_eq]at this;simp only[List.length_cons];omega) (BP n).length (Nat.le_refl _) e.toNat (by rw[j9,List.length_cons];omega)
 rw[List.take_length]at hL;rw[hL,AiO (n:=n) hb hl (by omega)];have e2:(1+n.s).toNat=(x::st).length:=by rw[List.length_cons];omega
 congr 1;refine UO _ λ k _ => ?_
 unfold gK FO;rw[e2]
theorem rP (hn:CT n) {i:Nat} (hc:DJ (B2 n.s.toNat (aN n) i)=true) {m:Int} (hm:0<=m) (mu : ∀ k,k<n.nodes.length->E5 n (2^i) k m<=(EK n.d:Rat)) {t:Nat} {st:List Int} (hl:(st.length:Int)=n.s) {x:Int} (hI:J7 n (m:Rat) t (D7 st)) (hx:A4 (x:Rat)<=(m:Rat)) :
  ∀ (l:List Nd) (vals:List Int) (k:Nat) (ε:Nat->Rat),l=n.nodes.drop k->k<=n.nodes.length->ED n.d vals=true->D7 vals=EY ((pw n.c.f:Int):Rat) ε 0 (D7 (x::st)) ((BP n).take k)->(∀ j,A4 (ε j)<=GZ n j) ->
   ∃ δ:Nat->Rat,(∀ j,A4 (δ j)<=GZ n j)/\(FB n vals false l).2=false/\D7 (FB n vals false l).1=EY ((pw n.c.f:Int):Rat) δ 0 (D7 (x::st)) (BP n)
 | [],vals,k,ε,hd,hk,hv,hE,hε=>by
  have h:=congrArg List.length hd;rw[List.length_drop,List.length_nil]at h;rw[zT (by simp [BP];omega)]at hE;exact ⟨ε,hε,rfl,hE⟩
 | nd::l,vals,k,ε,hd,hk,hv,hE,hε=>by
  obtain ⟨kv,_,_⟩:=(C5 n).1 hn.aw;have hlen:=congrArg List.length hd;rw[List.length_drop,List.length_cons]at hlen;have hnd:n.nodes[k]? = some nd:=by
   have:(n.nodes.drop k)[0]? = some nd:=by rw[<-hd];rfl
   rwa [List.getElem?_drop,Nat.add_zero]at this
  have du:l=n.nodes.drop (k+1):=by
   have:(n.nodes.drop k).drop 1=l:=by rw[<-hd];rfl
   rw[<-this,List.drop_drop]
  have dd:(BP n)[k]? = some nd.ts:=by rw[BP,List.getElem?_map,hnd];rfl
  have fk:((BP n).take k).length=k:=by rw[List.length_take];simp [BP];omega
  have he:=Ajn hn hv (zM hnd);obtain ⟨r,hr⟩ : ∃ r,RD n vals nd=r:=⟨_,rfl⟩;rw[hr]at he;obtain ⟨δ,hδ⟩ : ∃ δ:Nat->Rat,δ=λ j=>if j=k then ((r:Int):Rat)-CD (D7 vals) nd.ts/((pw n.c.f:Int):Rat) else ε j:=⟨_,rfl⟩
  have Uw:δ k=((r:Int):Rat)-CD (D7 vals) nd.ts/((pw n.c.f:Int):Rat):=by rw[hδ];exact if_pos rfl
  have Ux : ∀ j,A4 (δ j)<=GZ n j:=λ j=>by
   by_cases e:j=k
   ·rw[e,Uw,GZ,hnd];exact he
   ·rw[hδ];show A4 (if j=k then _ else ε j)<=_;rw[if_neg e];exact hε j
  have Sg:D7 (vals++[r])=EY ((pw n.c.f:Int):Rat) δ 0 (D7 (x::st)) ((BP n).take (k+1)):=by
   rw[List.take_add_one,dd,Option.toList_some,kF,fk,Nat.zero_add,Uw,xP,vQ (δ:=ε) _ _ _ λ j _ h2=>by
    rw[hδ];show (if j=k then _ else ε j)=_;rw[if_neg (by rw[fk]at h2;omega)],<-hE]
   congr 1;show [((r:Int):Rat)]=_;congr 1;grind
  have hval:=vT (n:=n) hn.aw (st:=D7 st) (x:=(x:Rat)) (by rw[UZ];exact hl) δ (e:=((1+n.s.toNat+k:Nat):Int)) (by omega);have hb:=Py hn hc (show (0:Rat)<=(m:Rat) by exact_mod_cast hm) hI hx (λ k _=>Ux k) (1+n.s.toNat+k);rw[<-hval]at hb;have Kp:(EY ((pw n.c.f:Int):Rat) δ 0 ((x:Rat)::D7 st) (BP n)).getD ((1+n.s.toNat+k:Nat):Int).toNat 0=((r:Int):Rat):=by
   have hs:BP n=(BP n).take (k+1)++(BP n).drop (k+1):=(List.take_append_drop _ _).symm;rw[hs,vP];obtain ⟨q,hq⟩:=vS ((pw n.c.f:Int):Rat) δ ((BP n).drop (k+1)) (0+((BP n).take (k+1)).length) (EY ((pw n.c.f:Int):Rat) δ 0 ((x:Rat)::D7 st) ((BP n).take (k+1)));have hE3:EY ((pw n.c.f:Int):Rat) δ 0 ((x:Rat)::D7 st) ((BP n).take (k+1))=D7 (vals++[r]):=Sg.symm;have gp:vals.length=1+n.s.toNat+k:=by
    have h:=congrArg List.length hE;rw[UZ,kE,UZ,fk,List.length_cons]at h;omega
   rw[hq,hE3,Int.toNat_natCast,List.getD_eq_getElem?_getD,List.getElem?_append_left (by rw[UZ,List.length_append];simp;omega),xP,List.getElem?_append_right (by rw[UZ];omega),UZ,gp,Nat.sub_self];rfl
  rw[Kp]at hb;have iv:k<n.nodes.length:=by omega
  have af:A4 ((r:Int):Rat)<=(EK n.d:Rat):=Rat.le_trans hb (mu k iv);have Ac:FT n.d r:=by
   refine ⟨kv,?_⟩;have e1:KW n.d = -EK n.d-1:=by rw[KW,EK,if_pos kv,if_pos kv];omega
   rw[LZ]at af;have h1:((r:Int):Rat)<=(EK n.d:Rat):=by split at af<;>grind
   have h2:((-r:Int):Rat)<=(EK n.d:Rat):=by rw[Rat.intCast_neg];split at af<;>grind
   have nj:=Rat.intCast_le_intCast.1 h1;have vp:=Rat.intCast_le_intCast.1 h2;omega
  have gx:FB n vals false (nd::l)=FB n (vals++[r]) false l:=by
   rw[FB,hr,Aj5 Ac,decide_eq_true Ac];rfl
  rw[gx];exact rP hn hc hm mu hl hI hx l (vals++[r]) (k+1) δ du (by omega) (by
   simp only[ED,List.all_append,Bool.and_eq_true,List.all_cons,List.all_nil,Bool.and_true,decide_eq_true_eq];exact ⟨hv,Ac⟩) Sg Ux
theorem Ak0 (hn:CT n) {i:Nat} (hc:DJ (B2 n.s.toNat (aN n) i)=true) {m:Int} (hm:0<=m) (mu : ∀ k,k<n.nodes.length->E5 n (2^i) k m<=(EK n.d:Rat)) {t:Nat} {st:List Int} (hl:(st.length:Int)=n.s) {x:Int} (hw:ED n.d (x::st)=true) (hI:J7 n (m:Rat) t (D7 st)) (hx:A4 (x:Rat)<=(m:Rat)) :
  (FB n (x::st) false n.nodes).2=false/\(∀ k,k<n.nodes.length->A4 (((FB n (x::st) false n.nodes).1.getD (1+n.s.toNat+k) 0:Int):Rat)<=E5 n (2^i) k m)/\J7 n (m:Rat) (t+1) (D7 (G5 n (FB n (x::st) false n.nodes).1)):=by
 obtain ⟨δ,h1,h2,h3⟩:=rP hn hc hm mu hl hI hx n.nodes (x::st) 0 (λ_=>0) rfl (Nat.zero_le _) hw (by rw[List.take_zero];rfl) (λ j=>by rw[V0];exact yB j);have hval:=λ(e:Int) he=>vT (n:=n) hn.aw (st:=D7 st) (x:=(x:Rat)) (by rw[UZ];exact hl) δ (e:=e) he
 have h3':EY ((pw n.c.f:Int):Rat) δ 0 ((x:Rat)::D7 st) (BP n)=D7 (FB n (x::st) false n.nodes).1:=h3.symm;rw[h3']at hval;refine ⟨h2,λ k hk => ?_,?_⟩
 ·have hb:=Py hn hc (show (0:Rat)<=(m:Rat) by exact_mod_cast hm) hI hx (λ k _=>h1 k) (1+n.s.toNat+k)
  rw[<-hval _ (by omega),Int.toNat_natCast,lG]at hb;exact hb
 ·have e:D7 (G5 n (FB n (x::st) false n.nodes).1)=RL n (D7 st) (x:Rat) δ n.nodes.length:=by
   obtain ⟨_,_,_,_,h5,_⟩:=(C5 n).1 hn.aw;simp only[G5,D7,RL,List.map_map];refine List.map_congr_left λ e he => ?_
   have:=of_decide_eq_true (List.all_eq_true.1 h5 e he)
   have hv:=hval e this;rw[lG]at hv;exact hv
  rw[e];exact J7.step hn.aw hI hx λ k _=>h1 k
end Go.c6

namespace Go.c6
open F
attribute [local irreducible] AA AF AX AC CN AR BA A6 BV BH CM EI BO AY B0 CJ AB A5 AH pw CQ CE C8 EA DP BT CP BU C7
variable {L:Lib}
set_option maxHeartbeats 16000000
set_option maxRecDepth 8000
theorem Yx {x m:Int} (h : -m<=x/\x<=m):A4 (x:Rat)<=(m:Rat):=by
 rw[LZ];have h1:(x:Rat)<=(m:Rat):=Rat.intCast_le_intCast.2 h.2;have h2:((-x:Int):Rat)<=(m:Rat):=Rat.intCast_le_intCast.2 (by omega);rw[Rat.intCast_neg]at h2;split<;>assumption
theorem AkZ {n:Nt} (hn:CT n) {st:List Int} {x:Int} (hl:(st.length:Int)=n.s) (hw:ED n.d (x::st)=true) (h:(FB n (x::st) false n.nodes).2=false) :
  GH n st x=((FB n (x::st) false n.nodes).1,false,0)/\RN n st x=(G5 n (FB n (x::st) false n.nodes).1,(FB n (x::st) false n.nodes).1.getD n.out.toNat 0,false,0):=by
 have h0:J6 n st [x]=0:=by
  simp only[ED,List.all_cons,Bool.and_eq_true]at hw;have h1:ED n.d st=true:=hw.2;have h2:ED n.d [x]=true:=by simp only[ED,List.all_cons,List.all_nil,Bool.and_true];exact hw.1
  rw[J6,if_neg (by omega),h1,h2];rfl
 have hv:GH n st x=((FB n (x::st) false n.nodes).1,false,0):=by rw[oN n hn.aw h0,h]
 exact ⟨hv,by rw[Qr n (by rw[hv]),hv]⟩
theorem Agz (I:c7 L) (W:q6 L) (N:jv L) (kd dk ck:Int) (h0:DT kd) (h1:DT dk) (h2:DT ck) (b a:List Int) (q1 q2:Bool) (lb:b.length<9223372036854775808) (la:a.length<9223372036854775808) (bp : ∀ v∈a,DT v) (ins:List Int) (q3:Bool) (li:ins.length<9223372036854775808) :
  Ev L 367 [.agg [.int .i64 kd,.int .i64 dk,.int .i64 ck,.sl q1 (b.map BW),.sl q2 (a.map BW)],.sl q3 (ins.map BW)] (.bool true):=by
 have Gk:=Agw N.tofo;obtain ⟨n,hn,hP⟩:=Agh I W N.toz8 kd dk ck h0 h1 h2 b a q1 q2 lb la bp;obtain ⟨kv,hwc,⟨nz,_⟩,_,oo,_⟩:=(C5 n).1 hn.aw;have De:=Y5 kv;have k7:=hn.st;have ew:=hn.nl;have B:n8 L:=N.ton8;have J:u4 L:=N.toz8.tol6.toja.tou4;have R:w8 L:=N.tow8;obtain ⟨v,hL,hv⟩:=Agg I B n hn;obtain ⟨e1,e2⟩:=Ag7 I R n hn;refine Ev.x N.MT rfl rfl ?_;by_cases hlen:60<ins.length
 ·(repeat' ((first|(apply AG<;>intro hc<;>try omega)|apply AP|apply AE|refine AD (hP) ?_|refine AD (Gk) ?_)<;>conv=>whnf))
  exact FV rfl
 rcases hv with ⟨i,i1,i2,hv⟩|⟨sf,rfl⟩
 rotate_left
 ·have hR:=e2 sf
  (repeat' ((first|(apply AG<;>intro hc<;>try omega)|apply AP|apply AE|refine AD (hP) ?_|refine AD (hL) ?_|refine AD (hR) ?_|refine AD (Gk) ?_)<;>conv=>whnf))
  exact FV rfl
 rcases hv with ⟨m,m0,m1,rfl,hm⟩|⟨k,hk,hr,rfl⟩
 rotate_left
 ·have hR:=e1 i i1 i2 ⟨k,hk,hr⟩
  (repeat' ((first|(apply AG<;>intro hc<;>try omega)|apply AP|apply AE|refine AD (hP) ?_|refine AD (hL) ?_|refine AD (hR) ?_|refine AD (Gk) ?_)<;>conv=>whnf))
  exact FV rfl
 clear e1 e2;have mu:=(hm m m0 m1).1 (Int.le_refl _);have hBw:=λ q=>YS W m (by omega) ins q ins.length (by omega)
 have Ln : ∀ x∈HJ m ins ins.length,-m<=x/\x<=m:=λ x hx=>by
  simp only[HJ,List.mem_map]at hx;obtain ⟨j,_,rfl⟩:=hx;exact VM m0 _
 have Hb:=aZ m ins ins.length;generalize HJ m ins ins.length=xs at *;have Hq : ∀ k:Nat,k<n.nodes.length->Bt 900000000000 (E5 n (2^i) k m)/\Ev L 360 [.agg (CO n),.int .i64 (1+n.s+(k:Int)),.int .i64 m] (.g8 [.agg (eQ (E5 n (2^i) k m)),.int .i64 0]):=λ k hk=>by
  obtain ⟨w,g1,g2⟩:=Aga I N.toiy n hn (1+n.s.toNat+k) (by omega) m ⟨m0,m1⟩;rw[show ((1+n.s.toNat+k:Nat):Int)=1+n.s+(k:Int) by omega]at g1;rcases g2 with ⟨j,j1,j2,j3,rfl⟩|⟨sf,rfl⟩
  ·obtain rfl:=i2.uniq j2
   exact ⟨j3,g1⟩
  ·have:=sf i i1
   rw[i2.1]at this;cases this
 have yw:KW n.d = -EK n.d-1:=by
  obtain ⟨g1,g2,_⟩:=MW kv;omega
 have Ac : ∀ x∈xs,FT n.d x:=λ x hx=>by
  have:=Ln x hx
  exact ⟨kv,by omega,by omega⟩
 have ah : ∀ (t:Nat) (st:List Int) (x:Int),x∈xs->(st.length:Int)=n.s->ED n.d st=true->J7 n (m:Rat) t (D7 st) -> ∃ V:List Int,GH n st x=(V,false,0)/\RN n st x=(G5 n V,V.getD n.out.toNat 0,false,0)/\(V.length:Int)=1+n.s+n.nodes.length/\(∀ k,k<n.nodes.length->A4 ((V.getD (1+n.s.toNat+k) 0:Int):Rat)<=E5 n (2^i) k m)/\((G5 n V).length:Int)=n.s/\ED n.d (G5 n V)=true/\ED n.d V=true/\J7 n (m:Rat) (t+1) (D7 (G5 n V)):=λ t st x hx hl hw hI=>by
  have zr:ED n.d (x::st)=true:=by
   simp only[ED,List.all_cons,Bool.and_eq_true,decide_eq_true_eq];exact ⟨Ac x hx,hw⟩
  obtain ⟨s1,s2,s3⟩:=Ak0 hn i2.1 m0 mu hl zr hI (Yx (Ln x hx));obtain ⟨s4,s5⟩:=AkZ hn hl zr s1;have n6:=iP n n.nodes (x::st) false;rw[List.length_cons]at n6;have jd:=rR n kv n.nodes (x::st) false zr;exact ⟨_,s4,s5,by omega,s2,by rw[G5,List.length_map];have:=(W0 hn).1;omega,Ahv n jd oo (by omega),jd,s3⟩
 have Dy : ∀ S:Nat,D7 (List.replicate S 0)=List.replicate S 0:=λ S=>by rw[D7,List.map_replicate];rfl
 have Sn:=J7.zero (n:=n) (m:Rat) n.s.toNat (by exact_mod_cast m0);rw[<-Dy]at Sn;have Az:ED n.d (List.replicate n.s.toNat 0)=true:=by
  refine List.all_eq_true.2 λ v hv => ?_
  rw[List.eq_of_mem_replicate hv];exact decide_eq_true ⟨kv,by omega,by omega⟩
 have Sd:=λ(k:Nat) (hk:k<n.nodes.length)=>(Hq k hk).2
 have Sb:=λ(k:Nat) (hk:k<n.nodes.length)=>(Hq k hk).1
 obtain ⟨Bd,Sc⟩ : ∃ Bd:Nat->Rat,∀ k,E5 n (2^i) k m=Bd k:=⟨_,λ_=>rfl⟩;simp only[Sc]at Sd Sb ah;clear Hq hm mu Sc Ac Ln i2 Dy;generalize 2^i=p at *;(repeat' ((first|(apply AG<;>intro hc<;>try omega)|apply AP|apply AE|refine AD (hP) ?_|refine AD (hL) ?_|refine AD (hBw _) ?_)<;>conv=>whnf))
 refine D9 (enc:=BW) (0:Int) n.s.toNat rfl (by omega) (by omega) ?_;(conv=>whnf)
 skip
 refine D4 (λ k=>n.nodes.length-k) (λ(k:Nat)=>k<=n.nodes.length) (λ k=>[(14,.int .i64 k),(13,.row 13 0 3 0 k)]) (λ k=>[(13,13,.rw 3 (((List.range k).map Bd).map eQ))]) 0 (by omega) ?_;intro k k1 kh;have cg:((List.range k).map Bd).length=k:=by simp
 by_cases hk:k<n.nodes.length
 ·have f1:=Sd k hk
  have hsn:(List.range k).map Bd++[Bd k]=(List.range (k+1)).map Bd:=by rw[List.range_succ,List.map_append];rfl
  (repeat' ((first|(apply AG<;>intro hc<;>try omega)|(apply AQ;omega)|apply AP|apply DQ|apply AE|refine AD (f1) ?_)<;>conv=>whnf))
  refine FA (enc:=eQ) (Bd k) rfl cg.symm rfl (by omega) (by omega) ?_;(conv=>whnf)
  rw[hsn,show ((List.range (k+1)).map Bd).length=k+1 by simp];(repeat' ((first|(apply AQ;omega)|fail)<;>conv=>whnf))
  exact BB [(13,91)] (kh (k+1) (by omega) (by omega))
 have ek:k=n.nodes.length:=by omega
 clear kh;rw[ek]at cg ⊢;have hba : ∀ k,k<n.nodes.length->((List.range n.nodes.length).map Bd)[k]? = some (Bd k):=λ k hk=>by rw[List.getElem?_map,List.getElem?_range hk];rfl
 generalize (List.range n.nodes.length).map Bd=bs at *;(repeat' ((first|(apply AG<;>intro hc<;>try omega)|apply AP|apply AE)<;>conv=>whnf))
 refine G9 (λ t _ _=>xs.length-t) (λ(t:Nat) (fl:Bool) (st:List Int)=>t<=xs.length/\(fl=true->st=List.replicate n.s.toNat 0)/\(st.length:Int)=n.s/\ED n.d st=true/\J7 n (m:Rat) t (D7 st)) (λ t fl st=>[(17,.int .i64 t),(12,bif fl then .row 67 0 1 0 n.s.toNat else .sl false (st.map BW))]) (λ_ _ _=>[]) 0 true (List.replicate n.s.toNat 0) ⟨by omega,λ_=>rfl,by rw[List.length_replicate];omega,Az,Sn⟩ ?_;intro t fl st ⟨t1,t2,t3,t4,t5⟩ th;by_cases ht:t<xs.length
 ·obtain ⟨x,hx⟩ : ∃ x,xs[t]? = some x:=⟨_,zE ht⟩
  have lf:xs[(t:Int).toNat]? = some x:=hx;obtain ⟨V,s1,s2,s3,s4,s5,s6,s7,s8⟩:=ah t st x (zM hx) t3 t4 t5;have hVa : ∀ q,Ev L 24 [.agg (CO n),.sl q (st.map BW),.int .i64 x] (.g8 [.sl false (V.map BW),.bool false,.int .i64 0]):=λ q=>by
   have:=uL n I J st q x (by omega)
   rw[s1]at this;exact this
  have ud : ∀ q,Ev L 26 [.agg (CO n),.sl q (st.map BW),.int .i64 x] (.g8 [.sl false ((G5 n V).map BW),.int .i64 (V.getD n.out.toNat 0),.bool false,.int .i64 0]):=λ q=>by
   have:=AgK n I J st q x (by omega)
   rw[s2]at this;exact this
  have hth:=th (t+1) false (G5 n V) (by omega) ⟨by omega,(λ h=>by cases h),s5,s6,s8⟩;clear th;cases fl;rotate_left
  obtain rfl:=t2 rfl;all_goals
   (repeat' ((first|(apply AG<;>intro hc<;>try omega)|(apply AQ;omega)|apply AP|(refine A9 (by assumption) ?_ rfl ?_;omega)|(refine CZ (λ_=>rfl) rfl ?_ ?_;(first|rfl|simp))|apply AE|refine AD (hVa _) ?_|refine AD (ud _) ?_)<;>conv=>whnf))
   refine D4 (λ k=>n.nodes.length-k) (λ(k:Nat)=>k<=n.nodes.length) (λ k=>[(25,.int .i64 k)]) (λ_=>[]) 0 (by omega) ?_;intro k k1 kh;by_cases hk:k<n.nodes.length
   ·obtain ⟨y,hy⟩ : ∃ y,V[(1+n.s+(k:Int)).toNat]? = some y:=⟨_,zE (by omega)⟩
    have Bc:V.getD (1+n.s.toNat+k) 0=y:=by
     rw[show (1+n.s+(k:Int)).toNat=1+n.s.toNat+k by omega]at hy;exact kT hy
    have Uu:y.natAbs<=2^24:=by
     have h1:FT n.d y:=of_decide_eq_true (List.all_eq_true.1 s7 y (zM hy));have h2:=VW h1;have Ez:(2:Nat)^24=16777216:=rfl;omega
    have Ez:(2:Nat)^24=16777216:=rfl;have hO:=KH N.toa9 y (by omega);have hA:=YR R.tox7 (Bt.ofInt Uu) (by omega);have hC:=YM N.toa9 (HU (Bt.ofInt Uu)) (Sb k hk) (by omega) (by omega);have ou:o9 (A4 ((y:Int):Rat)-Bd k).num<=0:=Int.not_lt.1 λ h=>by
     have h3:=P8.1 h;have h4:=s4 k hk;rw[Bc]at h4;grind
    have w6:=hba k hk;have At4:bs[(k:Int).toNat]? = some (Bd k):=w6;generalize o9 (A4 ((y:Int):Rat)-Bd k).num=sg at *;generalize A4 ((y:Int):Rat)=ay at *;generalize Bd k=bd at *;(repeat' ((first|(apply AG<;>intro hc<;>try omega)|(apply A2;omega)|(apply AQ;omega)|apply AP|(refine A9 (by assumption) ?_ rfl ?_;omega)|(refine T9 ?_ (λ_=>rfl) (λ v hv => ?_);omega)|apply AE|refine AD (hO) ?_|refine AD (hA) ?_)<;>conv=>whnf))
    cases w6.symm.trans hv;(repeat' ((first|(apply AG<;>intro hc<;>try omega)|(apply AQ;omega)|refine AD (hC) ?_)<;>conv=>whnf))
    exact BB [] (kh (k+1) (by omega) (by omega))
   have ek:k=n.nodes.length:=by omega
   clear kh;rw[ek];(repeat' ((first|(apply AG<;>intro hc<;>try omega)|(apply AQ;omega)|apply AP|apply AE)<;>conv=>whnf))
   exact BN [] (by (conv=>whnf);exact ⟨rfl,rfl,rfl⟩) hth
 have et:t=xs.length:=by omega
 clear th;rw[et];cases fl;all_goals
  (repeat' ((first|(apply AG<;>intro hc<;>try omega)|apply AP|apply AE|refine AD (Gk) ?_)<;>conv=>whnf))
  exact FV rfl
end Go.c6
