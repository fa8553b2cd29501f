/-
  Bounds (layer 29): the bound of one value.
-/
import Derived.Test.YtmhfodhmngfoiaaGreatDoorB6
import Derived.Test.YtmhfodhmngfoiaaGreatDoorB1
import Derived.Test.YtmhfodhmngfoiaaGreatDoorB5
set_option linter.unusedSimpArgs false
set_option linter.unusedVariables false
set_option linter.unnecessarySimpa false
set_option maxHeartbeats 16000000
open Bool renaming and_true->Ja
open Int renaming toNat_natCast->Qa
open List renaming take_length->za,length_append->ya,length_take->va,mem_map->ta,length_replicate->sa,mem_of_mem_take->na,mem_singleton->ja,length_map->Oa,replicate->Na,take->yb
open Nat renaming zero_add->Da,mul_comm->Ca,le_refl->zb
open Rat renaming not_lt->ua,mul_pos->ka,not_le->ea,le_floor_iff->Pa,mul_nonneg->La,zero_add->Ha,le_trans->Ea,div_def->Ba
namespace Go.e9
open F
attribute [local irreducible] AA AF AX AC B4 AU A7 A8 BV BI B0 DS BG A1 BU CB AB A2 AH pw CG B3 CR DK C2 CO CJ BL CY C3 C4 CX C7
variable {L:Lib}
set_option maxRecDepth 8000
def JR(n:Nt)(p:Nat)(D E:Rat)(cO:o_)(s:CD):Rat:=GM D (λj=>B1 (BT cO (F4 (aN n) s.b D E j))) (p+p)+BM cO*(JM n p D E s).2
theorem Aj6{n:Nt}{p v:Nat}{D E O:Rat}(hp:1<=p)(hD:0<D)(hE:0<E)(hO:0<O)(s:CD) :
  s.l*B1 (s.g.getD v 0)+s.l*JR n p D E ((E8 (FL n) v).map (· * O)) s/(D^(p+p-1)*(E*O))=s.l*HO (J6 n s v) p:=by
 have:=AnR (S:=J6 n s v) hp hD hE hO
 have e:JR n p D E ((E8 (FL n) v).map (· * O)) s/(D^(p+p-1)*(E*O))=H9 (K5 (J6 n s v).a (J6 n s v).b (J6 n s v).c) (p+p)+BM (J6 n s v).c*H9 (λj=>N1 (J6 n s v).a (J6 n s v).b (p+j)) p:=this;rw[show s.l*JR n p D E ((E8 (FL n) v).map (· * O)) s/(D^(p+p-1)*(E*O))=s.l*(JR n p D E ((E8 (FL n) v).map (· * O)) s/(D^(p+p-1)*(E*O)))by rw[Ba,Ba,Rat.mul_assoc],e,<-Rat.mul_add,HO];rfl
theorem Agu(N:x7 L)(n:Nt)(hn:DU n)(i:Nat)(hi:i<=6)(w:Nat)(hv:w<n.s.toNat+1+n.nodes.length)(X:Mem)(ks:u_)(s1:Nat)(h:Rat)(hX:(X=[(1,s1,.bx (B2 n))]/\ks=[1])\/(X=[(1,s1,.bx (B2 n)),(6,6,.bx (eQ h))]/\ks=[1,6])\/X=[(3,s1,.bx (B2 n)),(6,6,.bx [.bool false,.nil,.nil])]/\ks=[3,6])(K:AV->Mem->Prop)
  (hK:Bt 400000000000 (KG n (2^i) w)->Bt 400000000000 (QE n (2^i) w)->K (.agg (eQ (KG n (2^i) w)++eQ (QE n (2^i) w))) (X++bG n (2^i) (HN (aN n).flatten) (aC n))) :
  A2 L 354 [.int .i64 (w:Int),.ptr 356004 0 0 0,.ptr 356009 0 0 0,.ptr 356014 0 0 0,.ptr 356011 0 0 0] (ZF (ks++[356004,356009,356014,356011])) (X++bG n (2^i) (HN (aN n).flatten) (aC n)) K:=by
 have o7:=hn.st;have wo:=hn.nl;obtain⟨_,_,⟨pe,_⟩,_⟩:=(C1 n).1 hn.er;obtain⟨S,hS⟩:∃S:Nat,n.s.toNat=S:=⟨_,rfl⟩;obtain⟨g1,_,g3⟩:=RH hi;obtain⟨D,E,sw,oo,Fz,Mi,vk,Aj,Mh,lq⟩:=Wp hn;have zf:=gF hn;have Ka:=λ(q q':Bool)=>zB N q q' (FL n) w (by rw[eK];omega) (λc hc=>by have:=wA hn c hc;omega)
 have u6:=eK n;have Eg:=rD n w;have ur:=rC hn w;have ym:=λq=>mY N.tov7 q false [E8 (FL n) w] 40000 (λr hr=>by obtain rfl:=ja.1 hr;exact ur) (by rw[Tk];omega) Z' O'
 rw[Tk]at ym;obtain⟨O,eO',o1,o2,o3⟩:=oT Eg ur;have bO:Bt 160000 (O:Rat):=(iG o2).le (by have:=zR 40000 (show n.s.toNat<=4 by omega);omega);have Kj:Bs 200000 ((E8 (FL n) w).map (· * (O:Rat))):=λx hx=>((o3 x hx).le (by have:=zR 40000 (show n.s.toNat<=4 by omega);omega)).bt
 have hval:=λs=>Aj6 (n:=n) (p:=2^i) (v:=w) g3 (WI Fz) (WI Mi) (WI o1) s
 have Lb:KG n (2^i) w=(0+(FE n 0 1).l*B1 ((FE n 0 1).g.getD w 0))+(0+(FE n 0 1).l*JR n (2^i) D E ((E8 (FL n) w).map (· * (O:Rat))) (FE n 0 1))/((D:Rat)^(2^i+2^i-1)*((E:Rat)*(O:Rat))):=by
  have:=hval (FE n 0 1)
  rw[Ha,Ha,this,show(FE n 0 1).l=1 from rfl,Rat.one_mul];rfl
 have iq:QE n (2^i) w=bh (λs=>s.l*B1 (s.g.getD w 0)) (D6 n n.nodes.length)+bh (λs=>s.l*JR n (2^i) D E ((E8 (FL n) w).map (· * (O:Rat))) s) (D6 n n.nodes.length)/((D:Rat)^(2^i+2^i-1)*((E:Rat)*(O:Rat))):=by
  rw[AlA];exact Alz λs _=>(hval s).symm
 have hpD:=WI Fz;have hpE:=WI Mi;have hpO:=WI o1;rw[sw,oo]at hK⊢;rw[eO']at ym;clear eO' sw oo o1 o2 o3 hval;generalize hp:2^i=p at*;generalize (D:Rat)=D at*;generalize (E:Rat)=E at*;generalize (O:Rat)=O at*;have hTc:=λq=>mZ N.tov7 q (E8 (FL n) w) O 40000 160000 ur bO O' O' O'
 have Ny:((E8 (FL n) w).map (· * O)).length=S:=by rw[Oa,Eg,hS]
 generalize hcd:(E8 (FL n) w).map (· * O)=cO at*;have x8:∀s∈y6 n,Bt 60000000000 (JR n p D E cO s)/\Bt 6000000000 (JM n p D E s).2:=λs hs=>by
  have q1:∀j,j<p+p->Bt (4*(200000+90000000+1)) (B1 (BT cO (F4 (aN n) s.b D E j))):=λj hj=>JQ ((Kj.dot (lq s hs j O')).le (zR _ O'))
  have q2:=(aX vk (p+p) q1).le (zR _ (show p+p<=128 by omega));have q3:Bt (4*(200000+1)) (BM cO):=(RL Kj).le (zR _ O');have q4:Bt 6000000000 (JM n p D E s).2:=(aX vk p λj hj=>Q5 (lq s hs (p+j) O')).le (by
   have:=zR (640000+90000000+1) g1
   omega)
  exact⟨(q2.add (q3.mul q4)).le O',q4⟩
 have hGt:∀s∈y6 n,∀q,Ev L 305 [.agg (IW false (CH D (aN n)) D (p:Int) (D^(p+p-1))),.sl q (cO.map eQ),.agg (.sl true (QY (JM n p D E s).1)::KC true (JM n p D E s).2)] (.agg (eQ (JR n p D E cO s))):=λs hs q=>
  Ai9 N.tov7 false q (CH D (aN n)) D (JM n p D E s).2 (D^(p+p-1)) (p:Int) cO (F4 (aN n) s.b D E) S (p+p) 640000 200000 90000000 6000000000 vk Kj Ny (lq s hs) (λj=>by rw[F4,Oa,sZ (QT hn).l ((ZA hn s hs).bl hn),hS]) (x8 s hs).2 O' O' O' O' O' O'
 have nh:=ZA hn;have Py:∀s∈D6 n n.nodes.length,s∈y6 n:=λs hs=>List.mem_cons_of_mem _ hs
 have Ak:=jU n n.nodes.length;have lf:Bt 82000000 (D^(p+p-1)):=(qL vk _).le (by
  have:=zR 640000 (show p+p-1<=127 by omega)
  omega)
 have kx:=K4 N.toa6 Aj bO O' O';have nm:=K4 N.toa6 lf (Aj.mul bO) O' O';have yw:Bt 84000000 (D^(p+p-1)*(E*O)):=(lf.mul (Aj.mul bO)).le O';have q6:D^(p+p-1)*(E*O)≠0:=by
  have Ia:∀j:Nat,0<D^j:=λj=>by
   induction j with
   |zero=>rw[Rat.pow_zero];decide
   |succ j ih=>rw[Rat.pow_succ];exact ka ih hpD
  have:=ka (Ia (p+p-1)) (ka hpE hpO)
  grind
 have uq:=JG N.toa6 0 O';rw[show((0:Int):Rat)=0 from rfl]at uq;have hx:∀s∈y6 n,s.g[((w:Nat):Int).toNat]?=some (s.g.getD w 0):=λs hs=>by
  have h1:=(nh s hs).gl;obtain⟨x,hx⟩:=N' s.g w;rw[nT hx];exact hx
 have hAb:=λ(s:CD)(hs:s∈y6 n)=>fP N.tobp (YH (nh s hs).gb w) O'
 have hML:=λ(s:CD)(hs:s∈y6 n)=>K4 N.toa6 (nh s hs).lb (JQ (YH (nh s hs).gb w)) O' O'
 have hMG:=λ(s:CD)(hs:s∈y6 n)=>K4 N.toa6 (nh s hs).lb (x8 s hs).1 O' O'
 have Ck:∀s∈y6 n,Bt 40001 (s.l*B1 (s.g.getD w 0)):=λs hs=>((nh s hs).lb.mul (JQ (YH (nh s hs).gb w))).le O'
 have Gx:∀s∈y6 n,Bt 60000000001 (s.l*JR n p D E cO s):=λs hs=>((nh s hs).lb.mul (x8 s hs).1).le O'
 have Fv:=λ(s:CD)(hs:s∈y6 n)=>KD N.toa6 (Bt.zero 1) (Ck s hs) O' O'
 have Fx:=λ(s:CD)(hs:s∈y6 n)=>KD N.toa6 (Bt.zero 1) (Gx s hs) O' O'
 have Ef:∀t,Bt 300000 (bh (λs=>s.l*B1 (s.g.getD w 0)) ((D6 n n.nodes.length).take t)):=λt=>(Ul λs hs=>Ck s (Py s (na hs))).le (by
  have:=zR (40001+1) (show((D6 n n.nodes.length).take t).length<=5 by rw[va];omega)
  omega)
 have Nu:∀t,Bt 301000000000 (bh (λs=>s.l*JR n p D E cO s) ((D6 n n.nodes.length).take t)):=λt=>(Ul λs hs=>Gx s (Py s (na hs))).le (by
  have:=zR (60000000001+1) (show((D6 n n.nodes.length).take t).length<=5 by rw[va];omega)
  omega)
 have Fw:=λ(s:CD)(hs:s∈y6 n)(t:Nat)=>KD N.toa6 (Ef t) (Ck s hs) O' O'
 have Fy:=λ(s:CD)(hs:s∈y6 n)(t:Nat)=>KD N.toa6 (Nu t) (Gx s hs) O' O'
 have fi:FE n 0 1∈y6 n:=List.mem_cons_self;have wv:(y6 n)[(0:Int).toNat]?=some (FE n 0 1):=rfl;have Po:∀(t:Nat)(s:CD),(D6 n n.nodes.length)[t]?=some s->(y6 n)[((t+1:Nat):Int).toNat]?=some s:=λt s h=>h
 have me:(y6 n).length=(D6 n n.nodes.length).length+1:=rfl;have hF0:=λl=>(rfl:bh (λs=>s.l*B1 (s.g.getD w 0)) (yb 0 l)=0)
 have Mp:=λl=>(rfl:bh (λs=>s.l*JR n p D E cO s) (yb 0 l)=0)
 have hFt:=λ(t:Nat)(s:CD)(h:(D6 n n.nodes.length)[t]?=some s)=>gY (f:=λs=>s.l*B1 (s.g.getD w 0)) h
 have Mr:=λ(t:Nat)(s:CD)(h:(D6 n n.nodes.length)[t]?=some s)=>gY (f:=λs=>s.l*JR n p D E cO s) h
 have jn:=(Bt.zero 1).add (Ck _ fi);have Lc:=(Bt.zero 1).add (Gx _ fi);have Mm:=Ef (D6 n n.nodes.length).length;have Ju:=Nu (D6 n n.nodes.length).length;have Ga:=mQ N.toa6 Lc yw O' O' q6;have yk:=KD N.toa6 jn (Lc.vi yw) O' O';have Cb:=mQ N.toa6 Ju yw O' O' q6;have yl:=KD N.toa6 Mm (Ju.vi yw) O' O';have Md:=(jn.add (Lc.vi yw)).le (show _<=400000000000 by omega);have Jt:=(Mm.add (Ju.vi yw)).le (show _<=400000000000 by omega);rw[za]at Cb yl Jt;rw[<-Lb]at Md yk;rw[<-iq]at Jt yl;have Mx:=hK Md Jt;obtain⟨xa,Ey⟩:∃xa:CD->Rat,∀s,xa s=B1 (s.g.getD w 0):=⟨_,λ_=>rfl⟩;obtain⟨xm,Fa⟩:∃xm:CD->Rat,∀s,xm s=s.l*B1 (s.g.getD w 0):=⟨_,λ_=>rfl⟩;obtain⟨ga,Om⟩:∃ga:CD->Rat,∀s,ga s=JR n p D E cO s:=⟨_,λ_=>rfl⟩;obtain⟨gm,vz⟩:∃gm:CD->Rat,∀s,gm s=s.l*JR n p D E cO s:=⟨_,λ_=>rfl⟩;obtain⟨F,hF⟩:∃F:Nat->Rat,∀t,F t=bh (λs=>s.l*B1 (s.g.getD w 0)) ((D6 n n.nodes.length).take t):=⟨_,λ_=>rfl⟩;obtain⟨G,hG⟩:∃G:Nat->Rat,∀t,G t=bh (λs=>s.l*JR n p D E cO s) ((D6 n n.nodes.length).take t):=⟨_,λ_=>rfl⟩;have e1:∀s∈y6 n,Ev L 256 [.agg (eQ (s.g.getD w 0))] (.agg (eQ (xa s))):=λs hs=>by rw[Ey];exact hAb s hs
 have e2:∀s∈y6 n,Ev L 99 [.agg (eQ s.l),.agg (eQ (xa s))] (.agg (eQ (xm s))):=λs hs=>by rw[Ey,Fa];exact hML s hs
 have e4:∀s∈y6 n,∀q,Ev L 305 [.agg (IW false (CH D (aN n)) D (p:Int) (D^(p+p-1))),.sl q (cO.map eQ),.agg (.sl true (QY (JM n p D E s).1)::KC true (JM n p D E s).2)] (.agg (eQ (ga s))):=λs hs q=>by rw[Om];exact hGt s hs q
 have e5:∀s∈y6 n,Ev L 99 [.agg (eQ s.l),.agg (eQ (ga s))] (.agg (eQ (gm s))):=λs hs=>by rw[Om,vz];exact hMG s hs
 have e3:∀s∈y6 n,∀t,(D6 n n.nodes.length)[t]?=some s->Ev L 98 [.agg (eQ (F t)),.agg (eQ (xm s))] (.agg (eQ (F (t+1)))):=λs hs t h=>by
  rw[hF,hF,Fa,gY h];exact Fw s hs t
 have e6:∀s∈y6 n,∀t,(D6 n n.nodes.length)[t]?=some s->Ev L 98 [.agg (eQ (G t)),.agg (eQ (gm s))] (.agg (eQ (G (t+1)))):=λs hs t h=>by
  rw[hG,hG,vz,gY h];exact Fy s hs t
 have z3:=Fv _ fi;have z6:=Fx _ fi;rw[<-Fa]at z3 yk;rw[<-vz]at z6 Ga yk;have Gb:F (D6 n n.nodes.length).length=bh (λs=>s.l*B1 (s.g.getD w 0)) (D6 n n.nodes.length):=by rw[hF,za]
 have Cc:G (D6 n n.nodes.length).length=bh (λs=>s.l*JR n p D E cO s) (D6 n n.nodes.length):=by rw[hG,za]
 rw[<-Gb,<-Cc]at yl;rw[<-Cc]at Cb;have Mk:F 0=0:=by rw[hF];rfl
 have Mq:G 0=0:=by rw[hG];rfl
 clear hK Md Jt Ef Nu Ck Gx x8 jn Lc Mm Ju Lb iq lq Kj ur vk Aj Mh yw lf bO hAb hML hMG Fw Fy hGt Fv Fx hF hG Ey Fa Om vz hF0 Mp hFt Mr Gb Cc q6 hpD hpE hpO;obtain⟨P,hP⟩:∃P:CD->List (o_)×Rat,P=JM n p D E:=⟨_,rfl⟩;rw[<-hP]at e4;unfold bG at Mx⊢;rw[<-hP]at Mx⊢;clear hP;generalize 0+xm (FE n 0 1)=r0 at*;generalize 0+gm (FE n 0 1)=w0 at*;generalize D^(p+p-1)*(E*O)=dv at*;generalize w0/dv=q0 at*;generalize G (D6 n n.nodes.length).length/dv=q1 at*;generalize E*O=EO at*;generalize KG n p w=ra at*;generalize QE n p w=rb at*;generalize D^(p+p-1)=la at*;generalize hTT:D6 n n.nodes.length=T at*;generalize hSS:y6 n=SS at*;generalize FE n 0 1=s0 at*;generalize E8 (FL n) w=cw at*;clear nh hcd zf;refine cW ?_;rcases hX with⟨rfl,rfl⟩|⟨rfl,rfl⟩|⟨rfl,rfl⟩
 all_goals
  refine EZ 1000 N.NE rfl rfl ?_;(repeat' (apply AE<;>conv=>whnf))
  refine VH (λ_=>rfl) rfl u6.symm ?_;conv=>whnf
  repeat' (first|refine JP rfl ?_|refine AD (Ka _ _) ?_|refine AD (ym _) ?_|refine AD (hTc _) ?_|refine AD (kx) ?_|refine AD (nm) ?_|refine AD (uq) ?_)<;>conv=>whnf
  refine I5 ?_;repeat' (first|apply AG<;>intro hc<;>try omega|apply A4;omega|refine kL ?_ (λ_=>rfl) (λv hv=>?_);omega|apply AE)<;>conv=>whnf
  cases wv.symm.trans hv;have nz:=hx _ fi;have f1:=e1 _ fi;have f2:=e2 _ fi;have f4:=e4 _ fi;have f5:=e5 _ fi;repeat' (first|apply A4;omega|apply AR;omega|refine A5 V' ?_ rfl ?_;omega|refine AD (f1) ?_|refine AD (f2) ?_|refine AD (z3) ?_|refine AD (f4 _) ?_|refine AD (f5) ?_|refine AD (z6) ?_)<;>conv=>whnf
  clear f1 f2 f4 f5;refine EA (λt=>T.length-t) (λ(t:Nat)=>t<=T.length) (λt=>[(41,.int .i64 (t+1:Nat))]) (λt=>[(354010,354010,.bx (eQ r0++eQ (F t))),(354011,354011,.bx (eQ w0++eQ (G t)))]) [] [] 0 (by rw[Mk,Mq];exact E') O' ?_;intro t t1 th;by_cases ht:t<T.length
  ·obtain⟨s,hs⟩:=N' T t ht
   have Ic:=Po t s hs;have gq:=Py s (zM hs);have nz:=hx _ gq;have f1:=e1 _ gq;have f2:=e2 _ gq;have f3:=e3 _ gq t hs;have f4:=e4 _ gq;have f5:=e5 _ gq;have f6:=e6 _ gq t hs;have th':=th (t+1) O' O';clear th;rcases Nat.eq_zero_or_pos t with rfl|ht0
   all_goals
    repeat' (first|apply AG<;>intro hc<;>try omega|apply A4;omega|refine VE ?_ (λ_=>rfl) (λv hv=>?_);omega|apply AE)<;>conv=>whnf
    cases Ic.symm.trans hv;repeat' (first|apply A4;omega|apply AR;omega|refine A5 V' ?_ rfl ?_;omega|refine AD (f1) ?_|refine AD (f2) ?_|refine AD (f3) ?_|refine AD (f4 _) ?_|refine AD (f5) ?_|refine AD (f6) ?_)<;>conv=>whnf
    exact BB [] E' th'
  have et:t=T.length:=O'
  clear th;rw[et];repeat' (first|apply AG<;>intro hc<;>try omega|apply AE)<;>conv=>whnf
  refine I5 ?_;repeat' (first|apply AG<;>intro hc<;>try omega|apply A4;omega|apply AR;omega|apply AE|refine AD (Ga) ?_|refine AD (yk) ?_)<;>conv=>whnf
  refine I5 ?_;repeat' (first|apply AG<;>intro hc<;>try omega|apply A4;omega|apply AR;omega|apply AE|refine AD (Cb) ?_|refine AD (yl) ?_)<;>conv=>whnf
  refine I5 ?_;repeat' (first|apply AG<;>intro hc<;>try omega|apply A4;omega|apply AE)<;>conv=>whnf
  refine⟨rfl,?_⟩;conv=>whnf
  refine⟨_,?_,Mx⟩;first|exact⟨rfl,rfl,rfl,rfl,rfl,rfl,rfl,trivial⟩|exact⟨rfl,rfl,rfl,rfl,rfl,rfl,rfl,rfl,trivial⟩
def XQ(n:Nt):Prop := ∀j,j<=6->ES (CI n.s.toNat (aN n) j)=false
theorem Sf{w:Wd}(h:WV w):0<=H0 w/\H0 w<=8388607:=by
 rw[H0,if_pos h];unfold WV at h;have h1:=RI (n:=w.b-1) (m:=23) O';have h2:=G2 (w.b-1);have h3:pw 23=8388608:=by unfold pw;rfl
 omega
def G6(n:Nt)(i v:Nat)(x:Int):Rat:=KG n (2^i) v*(x:Rat)+QE n (2^i) v
theorem Aiu(I:a8 L)(N:dt L)(n:Nt)(hn:DU n)(v:Nat)(hv:v<n.s.toNat+1+n.nodes.length)(x:Int)(hx:0<=x/\x<=H0 n.d) :
  ∃w,Ev L 360 [.agg (B2 n),.int .i64 (v:Int),.int .i64 x] w/\((∃i,i<=6/\GP n.s.toNat (aN n) i/\Bt 900000000000 (G6 n i v x)/\w = .j5 [.agg (eQ (G6 n i v x)),.int .i64 0])\/(XQ n/\w = .j5 [.agg [.bool false,.sl false [],.sl false []],.int .i64 14])):=by
 obtain⟨Dr,_,⟨pe,_⟩,_⟩:=(C1 n).1 hn.er;have hhl:=Sf Dr;have o7:=hn.st;have fg:=hn.nl;have B:x7 L:=N.tox7;have hU:=AjO I B n hn;have hH:=mR n.d I;generalize hhe:H0 n.d=hi at*;have h24:(2:Nat)^24=16777216:=rfl;have lg:=Bt.ofInt (show x.natAbs<=2^24 by omega);refine Ev.xE N.TF rfl rfl ?_;repeat' (first|apply AG<;>intro hc<;>try omega|apply AR;omega|apply AP|apply AE|refine AD (hU) ?_|refine AD (hH) ?_)<;>conv=>whnf
 refine cX [3,6] [(3,3,.bx (B2 n)),(6,6,.bx [.bool false,.nil,.nil])] ⟨rfl,rfl,trivial⟩ rfl (Ags I B n hn _ _ 3 (Or.inr (Or.inr ⟨rfl,rfl⟩)) _ (λi i1 i2=>?_) (λzt=>?_))
 ·obtain⟨g1,_,g3⟩:=RH i1
  have Nz:=λ(K:AV->Mem->Prop) hK=>Agu B n hn i i1 v hv [(3,3,.bx (B2 n)),(6,6,.bx [.bool false,.nil,.nil])] [3,6] 3 0 (Or.inr (Or.inr ⟨rfl,rfl⟩)) K hK
  have hbt:G6 n i v x=KG n (2^i) v*(x:Rat)+QE n (2^i) v:=rfl;repeat' (first|apply AG<;>intro hc<;>try omega|apply A4;omega)<;>conv=>whnf
  refine cX _ _ ?_ ?_ (Nz _ ?_)
  ·exact⟨rfl,rfl,rfl,rfl,rfl,rfl,rfl,rfl,trivial⟩
  ·rfl
  intro b1 b2;have Mb:=AiF B (KG n (2^i) v) (QE n (2^i) v) x 400000000000 b1 b2 O' O';rw[<-hbt]at Mb;have hB9:Bt 900000000000 (G6 n i v x):=by
   rw[hbt];exact((b1.mul lg).add b2).le O'
  generalize KG n (2^i) v=ra at*;generalize QE n (2^i) v=rb at*;obtain⟨bo,Nx⟩:∃bo,G6 n i v x=bo:=⟨_,rfl⟩;rw[Nx]at Mb hB9;conv=>whnf
  (repeat' (refine AD (Mb) ?_<;>conv=>whnf))
  exact⟨_,AW rfl (by
   have:=DY bo
   simp only[AY,BK,and_true,true_and]at this⊢;exact this),Or.inl ⟨i,i1,i2,by rw[Nx];exact hB9,by rw[Nx]⟩⟩
 ·repeat' (first|apply AG<;>intro hc<;>try omega|fail)<;>conv=>whnf
  exact⟨_,AW rfl (by simp[AY,BK,DR]),Or.inr ⟨zt,rfl⟩⟩
theorem sM{S:HX}{n k:Nat}(hS:S.Ok n k)(hn:n<=4)(hk:k<=40000){p:Nat}(hp:p<=64):Bt 100000000000 (HO S p):=by
 have Gl:Sq n S.a:=⟨hS.la,hS.lr⟩;have jz:=hS.lc;have ye:∀j,j<=128->Bs 90000000 (G5 S.a S.b j):=λj hj=>(Yv Gl hS.lb hS.ba hS.bb j).le (by have:=Aec (n:=n) (k:=k) hn hj;omega)
 have bn:∀j,j<=128->Bt (4*(k+90000000+1)) (BT S.c (G5 S.a S.b j)):=λj hj=>(hS.bc.dot (ye j hj)).le (zR _ O')
 have lq:Bt (4*(k+1)) (BM S.c):=(RL hS.bc).le (zR _ O');have q1:=(cK (f:=K5 S.a S.b S.c) (k:=370000000) (p+p) λt ht=>(JQ (bn t O')).le O').le (zR _ (show p+p<=128 by omega));have q2:=(cK (f:=λt=>N1 S.a S.b (p+t)) (k:=90000000) p λt ht=>Q5 (ye (p+t) O')).le (zR _ (show p<=128 by omega));exact((JQ hS.bd).add (q1.add (lq.mul q2))).le O'
theorem Amk{n:Nt}(hn:DU n){v:Nat}(hv:v<n.s.toNat+1+n.nodes.length):DU (EX n v):=by
 obtain⟨h1,h2,h3,h4,h5,h6⟩:=(C1 n).1 hn.er;exact⟨(C1 (EX n v)).2 ⟨h1,h2,h3,h4,h5,show(0:Int)<=(v:Int)/\(v:Int)<=n.s+n.nodes.length by omega⟩,hn.st,hn.nl,hn.cf,hn.tl⟩
theorem iV{n:Nt}(hn:DU n):VG (DE n):=by
 refine⟨λts h=>?_,λts h=>?_⟩;all_goals
  obtain⟨d,hd,rfl⟩:=ta.1 h
 ·rcases hn.tl with h|⟨_,h⟩|⟨_,h⟩<;>have:=h d hd<;>omega
 ·exact hn.cf d hd
theorem Zi{n:Nt}(hn:DU n){s:CD}(hs:OJ n s)(v:Nat):(J6 n s v).Ok n.s.toNat 40000 :=
 ⟨(QT hn).l,(QT hn).r,hs.bl hn,rD n v,dT hn,hs.bb,rC hn v,YH hs.gb v⟩
theorem oV{n:Nt}(hn:DU n)(v:Nat):(FP (EX n v)).Ok n.s.toNat 40000:=by
 rw[<-Zl hn.er];exact Zi hn (Adk hn) v
theorem Rn{n:Nt}(hn:DU n)(k v:Nat):(IY (EX n v) (k:Int)).Ok n.s.toNat 40000:=by
 rw[<-Zk hn.er k 1];exact Zi hn (sA hn _ ⟨Y',Y'⟩ Y') v
theorem Ajv(I:a8 L)(N:da L)(n:Nt)(hn:DU n)(k:Nat)(nd:Nd)(hnd:n.nodes[k]?=some nd):Ev L 362 [.agg (B2 n),.int .i64 (k:Int)] (.j5 [.agg (eQ (EK n nd)),.int .i64 0]):=by
 obtain⟨h1,h2,⟨h3a,h3b,h3c,h3d⟩,h4,h5,h6⟩:=(C1 n).1 hn.er;have yj:=h2;unfold WV at yj;have hV:=V9 n I N.tok9;rw[hn.er]at hV;have uc:n.nodes[(k:Int).toNat]?=some nd:=hnd;have tz:=(zS hnd).1;have hIn:=MR I k 0 ((n.nodes.length:Int)-1);rw[decide_eq_true O']at hIn;have uq:=NY N.tob7 0 O';have qz:=NY N.tob7 1 O';have hF:=nE N.tob7 1 2 O' O';rw[show((0:Int):Rat)=0 from rfl]at uq;rw[show((1:Int):Rat)=1 from rfl]at qz;have Ax:=G2 n.c.f;have hC:=hn.cf _ (zM hnd);have hL:nd.ts.length<=5:=(iV hn).len _ (ta.2 ⟨nd,zM hnd,rfl⟩);have aq:∀x:Rat,AY (.j5 [.agg (eQ x),.int .i64 0]):=λx=>eF x 0
 refine Ev.x N.P3 rfl rfl ?_;repeat' (first|apply BS;omega|apply AP|apply AE|refine AD (hV) ?_|refine AD (hIn) ?_)<;>conv=>whnf
 refine EE (λi _=>nd.ts.length-i) (λ(i:Nat)(b:Bool)=>i<=nd.ts.length/\b=RP n (nd.ts.take i)) (λi b=>[(7,.int .i64 i),(6,.bool b)]) (λ_ _=>[]) 0 true ⟨O',by simp[RP]⟩ ?_;intro i b ⟨p1,p2⟩ ih;by_cases hi:i<nd.ts.length
 ·obtain⟨t,ht⟩:=N' nd.ts i hi
  have ny:nd.ts[(i:Int).toNat]?=some t:=ht;have hw:=Yy (n:=n) ht;rw[<-p2]at hw;by_cases hz:t.2%pw n.c.f=0
  ·rw[decide_eq_true hz,Ja]at hw
   cases b
   ·repeat' (first|apply AG<;>intro hc<;>try omega|apply AR;omega|apply AP|refine A5 V' ?_ rfl ?_;omega|apply AE)<;>conv=>whnf
    exact BF [] (ih (i+1) false O' ⟨O',hw.symm⟩)
   ·repeat' (first|apply AG<;>intro hc<;>try omega|apply AR;omega|refine ID ?_ (λ_ _=>?_);omega|(refine I9 ?_ (λ_ _ _=>?_) (λ_ _ _ _=>?_);omega;all_goals try omega)|apply B7;omega|apply AP|refine A5 V' ?_ rfl ?_;omega|apply AE)<;>conv=>whnf
    all_goals exact BF [] (ih (i+1) true O' ⟨O',hw.symm⟩)
  ·rw[decide_eq_false hz,Bool.and_false]at hw
   cases b
   ·repeat' (first|apply AG<;>intro hc<;>try omega|apply AR;omega|apply AP|refine A5 V' ?_ rfl ?_;omega|apply AE)<;>conv=>whnf
    exact BF [] (ih (i+1) false O' ⟨O',hw.symm⟩)
   ·repeat' (first|apply AG<;>intro hc<;>try omega|apply AR;omega|refine ID ?_ (λ_ _=>?_);omega|(refine I9 ?_ (λ_ _ _=>?_) (λ_ _ _ _=>?_);omega;all_goals try omega)|apply B7;omega|apply AP|refine A5 V' ?_ rfl ?_;omega|apply AE)<;>conv=>whnf
    all_goals exact BF [] (ih (i+1) false O' ⟨O',hw.symm⟩)
 have ei:i=nd.ts.length:=O'
 clear ih;rw[ei,za]at p2;cases b
 ·by_cases hr:n.d.r=2
  ·have e:EK n nd=Rat.divInt 1 2:=by rw[EK,<-p2,if_neg Y',if_pos hr]
   rw[e];repeat' (first|apply AG<;>intro hc<;>try omega|apply AP|refine A5 V' ?_ rfl ?_;omega|apply AE|refine AD (hF) ?_)<;>conv=>whnf
   exact AW rfl (aq _)
  ·have e:EK n nd=1:=by rw[EK,<-p2,if_neg Y',if_neg hr]
   rw[e];repeat' (first|apply AG<;>intro hc<;>try omega|apply AP|refine A5 V' ?_ rfl ?_;omega|apply AE|refine AD (qz) ?_)<;>conv=>whnf
   exact AW rfl (aq _)
 ·have e:EK n nd=0:=by rw[EK,<-p2,if_pos rfl]
  rw[e];repeat' (first|apply AG<;>intro hc<;>try omega|apply AP|refine A5 V' ?_ rfl ?_;omega|apply AE|refine AD (uq) ?_)<;>conv=>whnf
  exact AW rfl (aq _)
theorem zN(N:da L)(S:HX)(n i:Nat)(hS:S.Ok n 40000)(hn:n<=4)(hi:i<=6)(hF:GP n S.a i):Ev L 315 [.agg (eS S)] (.j5 [.agg (eQ (HO S (2^i))),.int .i64 0]):=by
 obtain⟨v,h1,hv⟩:=AjB N.tobk S n 40000 hS hn O';rcases hv with⟨j,j1,j2,rfl⟩|⟨jj,rfl⟩
 ·obtain rfl:=hF.uniq j2;exact h1
 ·have:=jj i hi
  rw[hF.1]at this;cases this
def NI(n:Nt)(i v:Nat)(x:Int)(K:Nat):Rat:=(x:Rat)*KG n (2^i) v+oe (YM n) (λk=>HO (IY (EX n v) (k:Int)) (2^i)) K
theorem Ajw(I:a8 L)(N:da L)(n:Nt)(hn:DU n)(i:Nat)(hi:i<=6)(hF:GP n.s.toNat (aN n) i)(v:Nat)(hv:v<n.s.toNat+1+n.nodes.length)(x:Int)(hx:0<=x/\x<=8388607) :
  Bt 1000000000000 (NI n i v x n.nodes.length)/\Ev L 364 [.agg (B2 n),.int .i64 (v:Int),.int .i64 x] (.j5 [.agg (eQ (NI n i v x n.nodes.length)),.int .i64 0]):=by
 have h24:(2:Nat)^24=16777216:=rfl;have o7:=hn.st;have fg:=hn.nl;have jj:=Amk hn hv;obtain⟨_,_,⟨pe,_⟩,_⟩:=(C1 n).1 hn.er;obtain⟨g1,_,g3⟩:=RH hi;have vl:=yI I N.toau (EX n v) jj.er (iV jj) jj.nl;have Mv:∀k:Nat,k<n.nodes.length->Ev L 166 [.agg (B2 (EX n v)),.int .i64 (k:Int)] (.j5 [.agg (eS (IY (EX n v) (k:Int))),.int .i64 0]):=λk hk=>by
  have:=Aiz I N.toau (EX n v) (k:Int) jj.er (iV jj) jj.nl (by unfold DJ;omega)
  rwa [gO,if_pos (show(0:Int)<=(k:Int)/\(k:Int)<((EX n v).nodes.length:Int)by show _/\(k:Int)<(n.nodes.length:Int);omega)]at this
 have Ap:(FP (EX n v)).a=aN n:=(Z0 hn.er).symm;have hak:∀k:Nat,(IY (EX n v) (k:Int)).a=aN n:=λk=>(Z0 hn.er).symm
 have Gg:=zN N (FP (EX n v)) n.s.toNat i (oV hn v) O' hi (by rw[Ap];exact hF);have Gk:=λk:Nat=>zN N (IY (EX n v) (k:Int)) n.s.toNat i (Rn hn k v) O' hi (by rw[hak];exact hF)
 have Jw:=λ(k:Nat)(nd:Nd)(h:n.nodes[k]?=some nd)=>Ajv I N (EX n v) jj k nd h
 have jn:=sM (oV hn v) O' O' g1;have ah:=λk:Nat=>sM (Rn hn k v) O' O' g1
 have lg:=Bt.ofInt (show x.natAbs<=2^24 by omega);have hOx:=NY N.tob7 x O';have Gc:=V4 N.tob7 lg jn O' O';have Ku:∀(k:Nat)(nd:Nd),n.nodes[k]?=some nd->YM n k=EK n nd:=λk nd h=>by rw[YM,h]
 have Dh:NI n i v x 0=(x:Rat)*HO (FP (EX n v)) (2^i):=by
  rw[NI,Yr hn.er];show _+0=_;rw[Rat.add_zero]
 have ng:∀(k:Nat)(nd:Nd),n.nodes[k]?=some nd->NI n i v x (k+1)=NI n i v x k+EK n nd*HO (IY (EX n v) (k:Int)) (2^i):=λk nd h=>by
  rw[NI,NI,oe,Ku k nd h,<-Rat.add_assoc]
 have te:∀K,K<=n.nodes.length->Bt (100000000030+K*100000000010) (NI n i v x K):=by
  intro K;induction K with
  |zero=>intro _;rw[Dh];exact(lg.mul jn).le O'
  |succ K ih=>
   intro hK;obtain⟨nd,hnd⟩:=N' n.nodes K;rw[ng K nd hnd];exact((ih O').add ((WE n nd).1.mul (ah K))).le O'
 have hMk:=λ(k:Nat)(nd:Nd)=>V4 N.tob7 (WE n nd).1 (ah k) O' O'
 have hAk:=λ(k:Nat)(nd:Nd)(hk:k<n.nodes.length)=>Q1 N.tob7 (te k O') ((WE n nd).1.mul (ah k)) O' O'
 have Au:=(te n.nodes.length (zb _)).le (show _<=1000000000000 by omega);refine⟨Au,?_⟩;rw[<-Dh]at Gc;have aq:=λx:Rat=>eF x 0
 obtain⟨R,hR⟩:∃R:Nat->Rat,∀k,NI n i v x k=R k:=⟨_,λ_=>rfl⟩;obtain⟨T,hT⟩:∃T:Nat->Rat,∀k:Nat,HO (IY (EX n v) (k:Int)) (2^i)=T k:=⟨_,λ_=>rfl⟩;have Ma:∀(k:Nat)(nd:Nd),n.nodes[k]?=some nd->Ev L 126 [.agg (eQ (R k)),.agg (eQ (EK n nd*T k))] (.agg (eQ (R (k+1)))):=λk nd h=>by
  have hk:=(zS h).1;have:=hAk k nd hk
  rw[<-ng k nd h,hR,hR,hT]at this;exact this
 simp only[hT]at Gk hMk;rw[hR]at Gc⊢;clear hAk ng Dh te ah jn Au hR hT Ku hak Ap;generalize HO (FP (EX n v)) (2^i)=s0 at*;refine Ev.x N.P4 rfl rfl ?_;repeat' (first|apply AG<;>intro hc<;>try omega|apply AE|refine AD (vl) ?_|refine AD (Gg) ?_|refine AD (hOx) ?_|refine AD (Gc) ?_)<;>conv=>whnf
 refine DG (λk=>n.nodes.length-k) (λ(k:Nat)=>k<=n.nodes.length) (λk=>[(13,.int .i64 k)]) (λk=>[(12,12,.bx (eQ (R k)))]) 0 O' ?_;intro k k1 kh;by_cases hk:k<n.nodes.length
 ·obtain⟨nd,hnd⟩:=N' n.nodes k hk
  have f1:=Jw k nd hnd;have f1':Ev L 362 [.agg (B2 (EX n v)),.int .i64 (k:Int)] (.j5 [.agg (eQ (EK n nd)),.int .i64 0]):=f1;have f2:=Mv k hk;have f3:=Gk k;have f4:=hMk k nd;have f5:=Ma k nd hnd;clear f1;generalize IY (EX n v) (k:Int)=Sk at*;generalize EK n nd=lv at*;repeat' (first|apply AG<;>intro hc<;>try omega|apply AR;omega|apply AP|apply AE|refine AD (f1') ?_|refine AD (f2) ?_|refine AD (f3) ?_|refine AD (f4) ?_|refine AD (f5) ?_)<;>conv=>whnf
  exact BF [] (kh (k+1) O' O')
 have ek:k=n.nodes.length:=O'
 clear kh;rw[ek];repeat' (first|apply AG<;>intro hc<;>try omega|apply AP|apply AE)<;>conv=>whnf
 exact AW rfl (aq _)
theorem Aju(N:ct L)(x:Rat)(k:Nat)(hx:Bt k x)(hk:k<2199023255552) :
  ((((-1099511627776:Int):Int):Rat)<=x->x<=((1099511627776:Int):Rat)->Ev L 361 [.agg (eQ x)] (.j5 [.int .i64 x.floor,.bool true]))/\(((1099511627776:Int):Rat)<x->Ev L 361 [.agg (eQ x)] (.j5 [.int .i64 0,.bool false])):=by
 have hO:=λ(m:Int)(hm:-1099511627776<=m/\m<=1099511627776)=>NY N.tob7 m O'
 have bO:=λ(m:Int)(hm:-1099511627776<=m/\m<=1099511627776)=>Bt.ofInt (k:=41) (z:=m) (by
  have:(2:Nat)^41=2199023255552:=rfl
  omega)
 have hC:=λm hm=>aJ N.tob7 (bO m hm) hx O' O'
 have oi:=aJ N.tob7 hx (bO 1099511627776 O') O' O';have Me:=aJ N.tob7 hx (bO (-1099511627776) O') O' O';have qz:=hO 1099511627776 O';have hO2:=hO (-1099511627776) O';have hL:=λm:Int=>Am9 (m:=m) (x:=x)
 refine⟨λh1 h2=>?_,λh1=>?_⟩
 ·have g1:¬0<w6 (x-((1099511627776:Int):Rat)).num:=λh=>ua.2 h2 (Xr.1 h)
  have g2:¬w6 (x-(((-1099511627776:Int)):Rat)).num<0:=λh=>ua.2 h1 (Xq.1 h)
  have f1:=Pa.2 h1;have f2:x.floor<=1099511627776:=by
   have:=Ea (Rat.floor_le x) h2
   exact Rat.intCast_le_intCast.1 this
  generalize w6 (x-((1099511627776:Int):Rat)).num=s1 at*;generalize w6 (x-(((-1099511627776:Int)):Rat)).num=s2 at*;generalize x.floor=F at*;refine Ev.x N.NL rfl rfl ?_;repeat' (first|apply AG<;>intro hc<;>try omega|apply AE|refine AD (qz) ?_|refine AD (hO2) ?_|refine AD (oi) ?_|refine AD (Me) ?_)<;>conv=>whnf
  refine EE (λ(lo:Int)(hi:Int)=>(hi-lo).toNat) (λlo hi=>-1099511627776<=lo/\lo<=F/\F<=hi/\hi<=1099511627776) (λlo hi=>[(4,.int .i64 lo),(5,.int .i64 hi)]) (λ_ _=>[]) (-1099511627776) 1099511627776 O' ?_;intro lo hi p1 ih;by_cases k7:lo<hi
  ·have hm:-1099511627776<=lo+(hi-lo+1)/2/\lo+(hi-lo+1)/2<=1099511627776:=O'
   have hOm:=hO _ hm;have xq:=hC _ hm;have hLm:=hL (lo+(hi-lo+1)/2);by_cases hle:lo+(hi-lo+1)/2<=F
   ·have hs:=hLm.2 hle
    generalize w6 (((lo+(hi-lo+1)/2:Int):Rat)-x).num=s at*;repeat' (first|apply AG<;>intro hc<;>try omega|apply AR;omega|apply BS;omega|(refine KV ?_ ?_ (λ_=>?_) (λ_ _=>?_);omega;omega;all_goals try omega)|apply AE|refine AD (hOm) ?_|refine AD (xq) ?_)<;>conv=>whnf
    exact BB [] E' (ih _ _ O' O')
   ·have hs:¬_:=λh=>hle (hLm.1 h)
    generalize w6 (((lo+(hi-lo+1)/2:Int):Rat)-x).num=s at*;repeat' (first|apply AG<;>intro hc<;>try omega|apply AR;omega|apply BS;omega|(refine KV ?_ ?_ (λ_=>?_) (λ_ _=>?_);omega;omega;all_goals try omega)|apply AE|refine AD (hOm) ?_|refine AD (xq) ?_)<;>conv=>whnf
    exact BB [] E' (ih _ _ O' O')
  ·obtain rfl:lo=F:=O'
   clear ih;repeat' (first|apply AG<;>intro hc<;>try omega|apply AE)<;>conv=>whnf
   exact AW rfl (vM _ _)
 ·have g1:=Xr.2 h1
  generalize w6 (x-((1099511627776:Int):Rat)).num=s1 at*;refine Ev.x N.NL rfl rfl ?_;repeat' (first|apply AG<;>intro hc<;>try omega|apply AE|refine AD (qz) ?_|refine AD (oi) ?_)<;>conv=>whnf
  exact AW rfl (vM _ _)
def XV(x:Rat):Int:=if((1099511627776:Int):Rat)<=x then 1099511627776 else x.floor
theorem Afd{k':IntKind}{a i:Nat}{K:AV->Prop}(hi:i<2)(h:a*4294967296^i<=9223372036854775807)(hk:K (.int .i64 ((a*4294967296^i:Nat):Int))):AC .shl .i64 (a:Int) k' (32*(i:Int)) K:=by
 have key:∀s:Nat,s<=64->a*2^s<=9223372036854775807->K (.int .i64 ((a*2^s:Nat):Int))->AC .shl .i64 (a:Int) k' (s:Int) K:=λs h1 h2 h3=>by
  refine dK (show s<=IntKind.i64.bits from h1) ?_;rw[IntWalk.i64_in _ O'];exact h3
 rcases i with _|_|i
 ·exact key 0 O' h hk
 ·exact key 32 O' h hk
 ·omega
theorem AiG(N:bf L){x:Rat}{k:Nat}(hx:Bt k x)(hk:k<2199023255552)(h0:0<=x):Ev L 449 [.agg (eQ x)] (.int .i64 (XV x)):=by
 have hO:=JG N.toa6 1099511627776 O';have bO:=Bt.ofInt (k:=41) (z:=1099511627776) Y';have hC:=mP N.tocp hx bO hk O';have hF:=AiM N.toeu hx hk;have zp:0<=w6 (x-((1099511627776:Int):Rat)).num↔((1099511627776:Int):Rat)<=x:=by
  have:=Xq (m:=1099511627776) (x:=x)
  constructor
  ·intro h;exact ua.1 λh2=>by have:=this.2 h2;omega
  ·intro h
   have h2:¬_:=λh3=>ua.2 h (this.1 h3)
   omega
 unfold XV;by_cases iw:((1099511627776:Int):Rat)<=x
 ·rw[if_pos iw]
  have hs:=zp.2 iw;generalize w6 (x-((1099511627776:Int):Rat)).num=s at*;refine Ev.x N.MV rfl rfl ?_;repeat' (first|apply AG<;>intro hc<;>try omega|apply AE|refine AD (hO) ?_|refine AD (hC) ?_)<;>conv=>whnf
  exact BP rfl
 rw[if_neg iw];have hs:¬_:=λh=>iw (zp.1 h)
 have Oi:0<=x.floor:=Pa.2 h0;have uw:x.floor<1099511627776:=Rat.floor_lt_iff.2 (ea.1 iw);generalize w6 (x-((1099511627776:Int):Rat)).num=s at*;generalize x.floor=f at*;obtain⟨d,rfl⟩:=Int.eq_ofNat_of_zero_le Oi;have hz:eZ (d:Int)=[.bool false,.sl false ((dg d).map AJ)]:=by
  unfold eZ;rw[decide_eq_false O'];rfl
 rw[hz]at hF;have hD:=EH d;have hv:=BQ d;have hl:(dg d).length<=2:=NV.2 O';clear hz;refine Ev.x N.MV rfl rfl ?_;generalize dg d=l at*;repeat' (first|apply AG<;>intro hc<;>try omega|apply AP|apply AE|refine AD (hO) ?_|refine AD (hC) ?_|refine AD (hF) ?_)<;>conv=>whnf
 refine EE (λi _=>l.length-i) (λ(i:Nat)(a:Nat)=>i<=l.length/\a=val (l.take i)) (λi a=>[(14,.int .i64 (i:Int)),(3,.int .i64 (a:Int))]) (λ_ _=>[]) 0 0 ⟨O',rfl⟩ ?_;intro i a ⟨p1,p2⟩ ih;by_cases hi:i<l.length
 ·obtain⟨e,he⟩:=N' l i hi
  have bn:=hD.at he;have h1:=ER he;have h2:=LQ l (i+1) O';have h3:a+4294967296^i*e<=d:=by
   rw[p2,<-h1,<-hv,h2];exact Nat.le_add_right _ _
  have h4:4294967296^i*e<=9223372036854775807:=O'
  repeat' (first|apply AG<;>intro hc<;>try omega|apply GH;omega|apply RS;omega|refine A5 V' ?_ rfl ?_;omega|apply AE)<;>conv=>whnf
  refine Afd O' (by rw[Ca];exact h4) ?_;conv=>whnf
  rw[Ca e];generalize 4294967296^i*e=y at*;repeat' (first|apply AR;omega|fail)<;>conv=>whnf
  exact BF [] (ih (i+1) (a+y) O' ⟨O',O'⟩)
 ·obtain rfl:i=l.length:=O'
  clear ih;rw[DQ (zb _),hv]at p2;subst p2;repeat' (first|apply AG<;>intro hc<;>try omega|apply AE)<;>conv=>whnf
  exact BP rfl
theorem mO(I:a8 L)(N:dt L)(n:Nt)(hn:DU n)(v:Nat)(hv:v<n.s.toNat+1+n.nodes.length)(x:Int)(hx:0<=x/\x<=H0 n.d) :
  (∀i,i<=6->GP n.s.toNat (aN n) i->Bt 900000000000 (G6 n i v x)/\Ev L 360 [.agg (B2 n),.int .i64 (v:Int),.int .i64 x] (.j5 [.agg (eQ (G6 n i v x)),.int .i64 0]))/\(XQ n->Ev L 360 [.agg (B2 n),.int .i64 (v:Int),.int .i64 x] (.j5 [.agg [.bool false,.sl false [],.sl false []],.int .i64 14])):=by
 obtain⟨w,g1,g2⟩:=Aiu I N n hn v hv x hx;refine⟨λi i1 i2=>?_,λzt=>?_⟩
 ·rcases g2 with⟨j,j1,j2,j3,rfl⟩|⟨zt,rfl⟩
  ·obtain rfl:=i2.uniq j2
   exact⟨j3,g1⟩
  ·have:=zt i i1
   rw[i2.1]at this;cases this
 ·rcases g2 with⟨j,j1,j2,j3,rfl⟩|⟨_,rfl⟩
  ·have:=zt j j1
   rw[j2.1]at this;cases this
  ·exact g1
def E4(x:Int):Int:=max x (-x)
def NT(n:Nt)(i:Nat)(x:Int):List Int:=(List.range n.s.toNat).map λk=>XV (G6 n i (1+k) (E4 x))
theorem uY(n:Nt)(i:Nat)(x:Int):(NT n i x).length=n.s.toNat:=by simp[NT]
theorem uX{n:Nt}{i:Nat}{x:Int}{k:Nat}(h:k<n.s.toNat):(NT n i x)[k]?=some (XV (G6 n i (1+k) (E4 x))):=by rw[NT,List.getElem?_map,List.getElem?_range h];rfl
theorem Z6(e:Int):AY (.j5 [.sl false [],.int .i64 e]):=by simp[AY,BK,DR]
theorem AkA{w:Wd}(h:WV w):1<=H0 w:=by
 rw[H0,if_pos h];unfold WV at h;have h1:=RI (n:=1) (m:=w.b-1) O';have h2:pw 1=2:=by unfold pw;rfl
 omega
theorem Agq(I:a8 L)(N:bf L)(n:Nt)(hn:DU n)(x:Int)(hx:0<=E4 x/\E4 x<=8388608){i:Nat}(i1:i<=6)(i2:GP n.s.toNat (aN n) i)(k:Nat)(hk:k<n.s.toNat) :
  ∃(a b d m r:Rat) (c:Int),Ev L 360 [.agg (B2 n),.int .i64 (1+(k:Int)),.int .i64 0] (.j5 [.agg (eQ a),.int .i64 0])/\Ev L 360 [.agg (B2 n),.int .i64 (1+(k:Int)),.int .i64 1] (.j5 [.agg (eQ b),.int .i64 0])/\Ev L 150 [.agg (eQ b),.agg (eQ a)] (.agg (eQ d))/\Ev L 99 [.agg (eQ d),.agg (eQ ((E4 x:Int):Rat))] (.agg (eQ m))/\Ev L 98 [.agg (eQ a),.agg (eQ m)] (.agg (eQ r))/\Ev L 449 [.agg (eQ r)] (.int .i64 c)/\(NT n i x)[k]?=some c:=by
 obtain⟨Dr,_,⟨pe,_⟩,_⟩:=(C1 n).1 hn.er;have hlh:=RB Dr;have o7:=hn.st;have e1:((1+k:Nat):Int)=1+(k:Int):=O'
 obtain⟨b0,f0⟩:=(mO I N.todt n hn (1+k) O' 0 ⟨O',O'⟩).1 i i1 i2;obtain⟨b1,f1⟩:=(mO I N.todt n hn (1+k) O' 1 ⟨O',AkA Dr⟩).1 i i1 i2;obtain⟨g1,_,g3⟩:=RH i1;have hr:G6 n i (1+k) 1-G6 n i (1+k) 0=KG n (2^i) (1+k):=by
  unfold G6;rw[show((1:Int):Rat)=1 from rfl,show((0:Int):Rat)=0 from rfl];grind
 have br:Bt 100000000000 (KG n (2^i) (1+k)):=by
  rw[Yr hn.er];exact sM (oV hn _) O' O' g1
 have bx:=Bt.ofInt (k:=24) (z:=E4 x) (by
  have:(2:Nat)^24=16777216:=rfl
  omega)
 have hS:=AjL N.tobg b1 b0 O' O';rw[hr]at hS;have hM:=K4 N.toa6 br bx O' O';have bm:=br.mul bx;have hA:=KD N.toa6 b0 bm O' O';have bA:=b0.add bm;have hR:G6 n i (1+k) 0+KG n (2^i) (1+k)*((E4 x:Int):Rat)=G6 n i (1+k) (E4 x):=by
  unfold G6;rw[show((0:Int):Rat)=0 from rfl];grind
 rw[hR]at hA bA;have h0:0<=G6 n i (1+k) (E4 x):=by
  unfold G6;have q1:=La (Yq n (2^i) (1+k)) (show(0:Rat)<=((E4 x:Int):Rat)by exact_mod_cast hx.1);have q2:=Xf hn (2^i) (1+k);grind
 have hC:=AiG N bA O' h0;rw[e1]at f0 f1;exact⟨_,_,_,_,_,_,f0,f1,hS,hM,hA,hC,uX hk⟩
theorem Aiv(I:a8 L)(N:bf L)(n:Nt)(hn:DU n)(x:Int)(hx:FT n.d x->-8388607<=x/\x<=8388607) :
  (¬FT n.d x->Ev L 450 [.agg (B2 n),.int .i64 x] (.j5 [.sl false [],.int .i64 17])) /\
  (FT n.d x->(∀i,i<=6->GP n.s.toNat (aN n) i->Ev L 450 [.agg (B2 n),.int .i64 x] (.j5 [.sl false ((NT n i x).map AZ),.int .i64 0]))/\(XQ n->0<n.s->Ev L 450 [.agg (B2 n),.int .i64 x] (.j5 [.sl false [],.int .i64 14]))):=by
 obtain⟨Dr,_,⟨pe,_⟩,_⟩:=(C1 n).1 hn.er;have o7:=hn.st;have hhl:=Sf Dr;have hV:=fU n I N.tok9;rw[hn.er]at hV;have hF:=V2 n.d I x;refine⟨λh=>?_,λh=>?_⟩
 ·rw[decide_eq_false h]at hF
  refine Ev.x N.K7 rfl rfl ?_;repeat' (first|apply AG<;>intro hc<;>try omega|apply AE|refine AD (hV) ?_|refine AD (hF) ?_)<;>conv=>whnf
  exact AW rfl (Z6 17)
 rw[decide_eq_true h]at hF;replace hx:=hx h
 have hO:=JG N.toa6 (E4 x) (by unfold E4;omega);have nq:0<=E4 x/\E4 x<=8388607:=by unfold E4;omega
 have lg:E4 x=max x (-x):=rfl;refine⟨λi i1 i2=>?_,λzt fi=>?_⟩
 ·have o7:=Agq I N n hn x O' i1 i2
  have Mc:=uY n i x;generalize NT n i x=B at*;generalize E4 x=bx at*;refine Ev.x N.K7 rfl rfl ?_;repeat' (first|apply AG<;>intro hc<;>try omega|apply B4.neg;omega|apply AE|refine AD (hV) ?_|refine AD (hF) ?_)<;>conv=>whnf
  ·obtain rfl:bx = -x:=O'
   (repeat' (refine AD (hO) ?_<;>conv=>whnf))
   refine FJ (enc:=AZ) 0 n.s.toNat rfl O' O' ?_;conv=>whnf
   skip
   refine EE (λk _=>n.s.toNat-k) (λ(k:Nat)(o:List Int)=>k<=n.s.toNat/\o.length=B.length/\o.take k=B.take k) (λk _=>[(36,.int .i64 k)]) (λ_ o=>[(33,33,.rw 1 (o.map AZ))]) 0 (Na n.s.toNat 0) ⟨O',by rw[sa,Mc],rfl⟩ ?_;intro k o ⟨k1,p2,p3⟩ kh;by_cases hk:k<n.s.toNat;focus
    obtain⟨a,b,d,m,r,c,f1,f2,f3,f4,f5,f6,f7⟩:=o7 k hk;obtain⟨w1,w2⟩:=gD p2 p3 f7;repeat' (first|apply AG<;>intro hc<;>try omega|apply A4;omega|apply AR;omega|apply AE|refine AD (f1) ?_|refine AD (f2) ?_|refine AD (f3) ?_|refine AD (f4) ?_|refine AD (f5) ?_|refine AD (f6) ?_)<;>conv=>whnf
    refine H4 (enc:=AZ) c rfl (λ_=>rfl) O' ?_;conv=>whnf
    repeat' (first|apply AR;omega|fail)<;>conv=>whnf
    exact BB [] E' (kh (k+1) _ O' ⟨O',w1,w2⟩)
   have ek:=gC p2 p3 O';subst ek;clear kh p2 p3;repeat' (first|apply AG<;>intro hc<;>try omega|apply AE)<;>conv=>whnf
   refine C6 (λ_=>rfl) rfl O' ?_;conv=>whnf
   exact AW rfl (by simp[AY,BK,KX])
  ·obtain rfl:bx=x:=O'
   (repeat' (refine AD (hO) ?_<;>conv=>whnf))
   refine FJ (enc:=AZ) 0 n.s.toNat rfl O' O' ?_;conv=>whnf
   skip
   refine EE (λk _=>n.s.toNat-k) (λ(k:Nat)(o:List Int)=>k<=n.s.toNat/\o.length=B.length/\o.take k=B.take k) (λk _=>[(36,.int .i64 k)]) (λ_ o=>[(33,33,.rw 1 (o.map AZ))]) 0 (Na n.s.toNat 0) ⟨O',by rw[sa,Mc],rfl⟩ ?_;intro k o ⟨k1,p2,p3⟩ kh;by_cases hk:k<n.s.toNat;focus
    obtain⟨a,b,d,m,r,c,f1,f2,f3,f4,f5,f6,f7⟩:=o7 k hk;obtain⟨w1,w2⟩:=gD p2 p3 f7;repeat' (first|apply AG<;>intro hc<;>try omega|apply A4;omega|apply AR;omega|apply AE|refine AD (f1) ?_|refine AD (f2) ?_|refine AD (f3) ?_|refine AD (f4) ?_|refine AD (f5) ?_|refine AD (f6) ?_)<;>conv=>whnf
    refine H4 (enc:=AZ) c rfl (λ_=>rfl) O' ?_;conv=>whnf
    repeat' (first|apply AR;omega|fail)<;>conv=>whnf
    exact BB [] E' (kh (k+1) _ O' ⟨O',w1,w2⟩)
   have ek:=gC p2 p3 O';subst ek;clear kh p2 p3;repeat' (first|apply AG<;>intro hc<;>try omega|apply AE)<;>conv=>whnf
   refine C6 (λ_=>rfl) rfl O' ?_;conv=>whnf
   exact AW rfl (by simp[AY,BK,KX])
 ·have jn:=(mO I N.todt n hn (1+0) O' 0 ⟨O',O'⟩).2 zt
  refine Ev.x N.K7 rfl rfl ?_;generalize E4 x=bx at*;repeat' (first|apply AG<;>intro hc<;>try omega|apply B4.neg;omega|apply AE|refine AD (hV) ?_|refine AD (hF) ?_)<;>conv=>whnf
  ·obtain rfl:bx = -x:=O'
   (repeat' (refine AD (hO) ?_<;>conv=>whnf))
   refine FJ (enc:=AZ) 0 n.s.toNat rfl O' O' ?_;conv=>whnf
   skip
   refine I5 ?_;repeat' (first|apply AG<;>intro hc<;>try omega|apply AR;omega|apply AE|refine AD (jn) ?_)<;>conv=>whnf
   exact AW rfl (Z6 14)
  ·obtain rfl:bx=x:=O'
   (repeat' (refine AD (hO) ?_<;>conv=>whnf))
   refine FJ (enc:=AZ) 0 n.s.toNat rfl O' O' ?_;conv=>whnf
   skip
   refine I5 ?_;repeat' (first|apply AG<;>intro hc<;>try omega|apply AR;omega|apply AE|refine AD (jn) ?_)<;>conv=>whnf
   exact AW rfl (Z6 14)
theorem AmH(I:a8 L)(N:bf L)(n:Nt)(hn:DU n)(x:Int)(hx:0<=E4 x/\E4 x<=8388607){i:Nat}(i1:i<=6)(i2:GP n.s.toNat (aN n) i)(k:Nat)(hk:k<n.s.toNat) :
  ∃(r:Rat) (u:Int) (b:Bool),Ev L 364 [.agg (B2 n),.int .i64 (1+(k:Int)),.int .i64 (E4 x)] (.j5 [.agg (eQ r),.int .i64 0])/\Ev L 361 [.agg (eQ r)] (.j5 [.int .i64 u,.bool b])/\(NT n i x)[k]?=some (if b then u else 1099511627776):=by
 obtain⟨bR,hR⟩:=Ajw I N.toda n hn i i1 i2 (1+k) O' (E4 x) hx;have e:NI n i (1+k) (E4 x) n.nodes.length=G6 n i (1+k) (E4 x):=by rw[NI,<-AmR hn.er,G6,Rat.mul_comm]
 rw[e,show((1+k:Nat):Int)=1+(k:Int)by omega]at hR;rw[e]at bR;obtain⟨q1,q2⟩:=Aju N.toct _ _ bR O';have h0:0<=G6 n i (1+k) (E4 x):=by
  unfold G6;have q1:=La (Yq n (2^i) (1+k)) (show(0:Rat)<=((E4 x:Int):Rat)by exact_mod_cast hx.1);have q2:=Xf hn (2^i) (1+k);grind
 rw[uX hk];generalize G6 n i (1+k) (E4 x)=y at*;by_cases hy:y<=((1099511627776:Int):Rat)
 ·refine⟨y,y.floor,true,hR,q1 (Ea (by decide +kernel) h0) hy,?_⟩
  rw[if_pos rfl,XV];split
  ·rename_i h2
   rw[show y=((1099511627776:Int):Rat)from Rat.le_antisymm hy h2,Rat.floor_intCast]
  ·rfl
 ·refine⟨y,0,false,hR,q2 (ea.1 hy),?_⟩
  rw[if_neg Y',XV,if_pos (Rat.le_of_lt (ea.1 hy))]
theorem Ajq(I:a8 L)(N:bf L)(n:Nt)(hn:DU n)(x:Int)(hx:FT n.d x->-8388607<=x/\x<=8388607) :
  (¬FT n.d x->Ev L 451 [.agg (B2 n),.int .i64 x] (.j5 [.sl false [],.int .i64 17])) /\
  (FT n.d x->(∀i,i<=6->GP n.s.toNat (aN n) i->Ev L 451 [.agg (B2 n),.int .i64 x] (.j5 [.sl false ((NT n i x).map AZ),.int .i64 0]))/\(XQ n->Ev L 451 [.agg (B2 n),.int .i64 x] (.j5 [.sl false [],.int .i64 14]))):=by
 obtain⟨Dr,_,⟨pe,_⟩,_⟩:=(C1 n).1 hn.er;have o7:=hn.st;have hV:=V9 n I N.tok9;rw[hn.er]at hV;have hF:=V8 n.d I x;refine⟨λh=>?_,λh=>?_⟩
 ·rw[decide_eq_false h]at hF
  refine Ev.x N.LK rfl rfl ?_;repeat' (first|apply AG<;>intro hc<;>try omega|apply AE|refine AD (hV) ?_|refine AD (hF) ?_)<;>conv=>whnf
  exact AW rfl (Z6 17)
 rw[decide_eq_true h]at hF;replace hx:=hx h
 have nq:0<=E4 x/\E4 x<=8388607:=by unfold E4;omega
 have lg:E4 x=max x (-x):=rfl;have vl:=yI I N.toau n hn.er (iV hn) hn.nl;have Kt:(FP n).a=aN n:=(Z0 hn.er).symm;have hL0:eS (FP n)=[.sl false (eM (aN n)),.sl false ((FP n).b.map eQ),.sl false ((FP n).c.map eQ)]++eQ (FP n).d:=by rw[<-Kt]
 rw[hL0]at vl;generalize (FP n).b=lb at*;generalize (FP n).c=lc at*;generalize (FP n).d=ld at*;clear hL0 Kt;obtain⟨w,hP,hw⟩:=zK N.tobk false false (aN n) n.s.toNat 40000 (QT hn) (dT hn) O' (show 40000<=100000 by decide);refine⟨λi i1 i2=>?_,λzt=>?_⟩
 ·have Qj:w = .j5 [.int .i64 ((2^i:Nat):Int),.int .i64 0]:=by
   rcases hw with⟨j,j1,j2,rfl⟩|⟨jj,rfl⟩
   ·obtain rfl:=i2.uniq j2;rfl
   ·have:=jj i i1
    rw[i2.1]at this;cases this
  subst Qj;clear hw;have o7:=AmH I N n hn x nq i1 i2;have Mc:=uY n i x;generalize NT n i x=B at*;generalize E4 x=bx at*;generalize 2^i=p2 at*;refine Ev.x N.LK rfl rfl ?_;repeat' (first|apply AG<;>intro hc<;>try omega|apply AE|refine AD (hV) ?_|refine AD (hF) ?_|refine AD (vl) ?_|refine AD (hP) ?_)<;>conv=>whnf
  rcases(show bx = -x/\x < -x\/bx=x/\-x<=x by omega)with⟨rfl,k7⟩|⟨rfl,k7⟩
  all_goals
   refine DG (λk=>n.s.toNat-k) (λ(k:Nat)=>k<=n.s.toNat) (λk=>[(11,.int .i64 k),(10,.row 10 0 1 0 k)]) (λk=>[(10,10,.rw 1 ((B.take k).map AZ))]) 0 O' ?_;intro k k1 kh;have dp:(B.take k).length=k:=by rw[va];omega
   by_cases hk:k<n.s.toNat;focus
    obtain⟨r,u,b,f1,f2,f3⟩:=o7 k hk;have Jh:=kh (k+1) O' O';rw[List.take_add_one,f3,Option.toList_some]at Jh;clear kh;cases b with
    |true=>
     rw[if_pos rfl]at Jh;repeat' (first|apply AG<;>intro hc<;>try omega|apply AR;omega|apply B4.neg;omega|apply CT|apply AE|refine AD (f1) ?_|refine AD (f2) ?_)<;>conv=>whnf
     refine DH (enc:=AZ) u rfl dp.symm rfl O' O' ?_;rw[show(B.take k++[u]).length=k+1 by rw[ya,dp];rfl];conv=>whnf
     repeat' (first|apply AR;omega|fail)<;>conv=>whnf
     exact BB [(10,70)] E' Jh
    |false=>
     rw[if_neg Y']at Jh;repeat' (first|apply AG<;>intro hc<;>try omega|apply AR;omega|apply B4.neg;omega|apply CT|apply AE|refine AD (f1) ?_|refine AD (f2) ?_)<;>conv=>whnf
     refine DH (enc:=AZ) 1099511627776 rfl dp.symm rfl O' O' ?_;rw[show(B.take k++[(1099511627776:Int)]).length=k+1 by rw[ya,dp];rfl];conv=>whnf
     repeat' (first|apply AR;omega|fail)<;>conv=>whnf
     exact BB [(10,70)] E' Jh
   have ek:k=n.s.toNat:=O'
   subst ek;rw[zT O'];clear kh dp;repeat' (first|apply AG<;>intro hc<;>try omega|apply AE)<;>conv=>whnf
   refine C6 (λ_=>rfl) rfl O' ?_;conv=>whnf
   exact AW rfl (by simp[AY,BK,KX])
 ·have Qj:w = .j5 [.int .i64 0,.int .i64 14]:=by
   rcases hw with⟨j,j1,j2,rfl⟩|⟨jj,rfl⟩
   ·have:=zt j j1
    rw[j2.1]at this;cases this
   ·rfl
  subst Qj;refine Ev.x N.LK rfl rfl ?_;repeat' (first|apply AG<;>intro hc<;>try omega|apply AE|refine AD (hV) ?_|refine AD (hF) ?_|refine AD (vl) ?_|refine AD (hP) ?_)<;>conv=>whnf
  exact AW rfl (Z6 14)
end Go.e9
namespace Go.e9
open F
set_option maxRecDepth 8000
variable {L:Lib}
theorem QR.uniq{n:Nt}{x:Int}{s:List Int}{v w:AV}(h:QR n x s v)(g:QR n x s w):v=w:=by
 have key:∀{i j i' j':Nat},i<j->AQ (c7 n x) j s=AQ (c7 n x) i s->(A6 (c7 n x) j' s).Nodup->i'<j'->¬j<j':=λ{i j i' j'} h1 h2 h3 h4 h5=>by
  have:=YZ h3 h5 (show i<j' by omega) h2
  omega
 rcases h with⟨i,j,h1,h2,h3,h4,rfl⟩|⟨h1,rfl⟩<;>rcases g with⟨i',j',g1,g2,g3,g4,rfl⟩|⟨g1,rfl⟩
 ·have hj:j=j':=by
   have a:=key h1 h4 g3 g1;have b:=key g1 g4 h3 h1;omega
  subst hj;have hi:i=i':=YZ h3 h1 g1 (h4.symm.trans g4);subst hi;rfl
 ·exact absurd (show j<4097 by omega) (key h1 h4 g1 (show 0<4097 by omega))
 ·exact absurd (show j'<4097 by omega) (key g1 g4 h1 (show 0<4097 by omega))
 ·rfl
theorem AlG{f:List Int->List Int}{g:List Int->Int}{u:List Int}{p q:Nat}(hp:0<p)(hu:AQ f p u=u)(hn:(A6 f p u).Nodup)(hq:q<p)(kn:∀r,r<p->0<=B6 (AQ f r u) (AQ f q u)) :
  OX (A6 f p u,(A6 f p u).map g)=(A6 f p (AQ f q u),(A6 f p (AQ f q u)).map g):=by
 have h1:=pH (g:=g) (B:=λ_=>True) hp hu hn (λ_ _=>trivial);have h2:=G9.Re (g:=g) (B:=λ_=>True) hp hu hn hq (λt ht=>by
  obtain⟨m,hm,rfl⟩:=FC.1 ht;exact kn m hm) (λ_ _=>trivial)
 rw[rB,cB hu O']at h2;refine(h1.uniq h2 (t:=u) ((Uv p u u).2 ⟨0,hp,rfl⟩) ?_).1;dsimp only;rw[<-cB hu (O':q<=p)];exact(UX q _).mem_iff.2 (FC.2 ⟨0,hp,rfl⟩)
attribute [local irreducible] AA AF AX AC B4 AU A7 A8 BV BI B0 DS BG A1 BU CB AB A2 AH pw CG B3 CR DK C2 CO CJ BL CY C3 C4 CX C7
theorem Ajy(I:a8 L)(J:k9 L)(N:w8 L){n:Nt}{x:Int}{s:List Int}(hs:s.length<=1000000)(he:(IP n s x).2.2.2≠0)(q:Bool) :
  Ev L 448 [.agg (B2 n),.sl q (s.map AZ),.int .i64 x] (.j5 [.agg [.sl false [],.sl false []],.int .i64 0,.int .i64 (IP n s x).2.2.2]):=by
 refine Ev.x N.J1 rfl rfl ?_;have hS:=λq=>zX n I J s q x O'
 repeat' (first|apply AG<;>intro hc<;>try omega|apply AE|refine AD (hS _) ?_)<;>conv=>whnf
 exact AW rfl (by simp[AY,BK,DR])
theorem Ajx(I:a8 L)(J:k9 L)(N:w8 L){n:Nt}{x:Int}{s:List Int}(z8:DN n=true)(hx:FT n.d x)(hs:EG n s)(q:Bool) :
  ∃v,Ev L 448 [.agg (B2 n),.sl q (s.map AZ),.int .i64 x] v/\QR n x s v:=by
 have hW:=λk=>EG.it z8 hx k hs
 have me:=λk=>((hW k).vg z8).len
 have fi:=me 0;have fi:s.length<=64:=fi;have hS:=λk q=>nF I J z8 hx (hW k) q
 have Gg:∀q,Ev L 30 [.agg (B2 n),.sl q (s.map AZ),.int .i64 x] _:=hS 0;refine Ev.xE N.J1 rfl rfl ?_;repeat' (first|apply AG<;>intro hc<;>try omega|apply AE|refine AD (Gg _) ?_)<;>conv=>whnf
 refine CX.ints O' ?_;conv=>whnf
 skip
 have mn:=λk=>FZ (f:=c7 n x) k s
 refine DG (λk=>4098-k) (λ(k:Nat)=>1<=k/\k<=4097/\(A6 (c7 n x) k s).Nodup) (λk=>[(13,.row 37 0 1 0 k)]) (λk=>[(37,37,.rw 1 ((A6 (c7 n x) k s).map (IG false)))]) 1 ⟨O',O',by simp[A6]⟩ ?_;intro k ⟨k1,k2,k3⟩ ih;by_cases hk:k<=4096;rotate_left
 ·have ek:k=4097:=O'
  subst ek;clear ih;repeat' (first|apply AG<;>intro hc<;>try omega|apply AE)<;>conv=>whnf
  exact⟨_,AW rfl (by simp[AY,BK,DR]),.inr ⟨k3,rfl⟩⟩
 have nf:=mn k;have nb:∀i,i<k->(A6 (c7 n x) k s)[i]?=some (AQ (c7 n x) i s):=λi hi=>O7 hi
 have Gk:=λq=>hS (k-1) q
 have Im:=Q8 (f:=c7 n x) (k-1) s;rw[show k-1+1=k by omega]at Im;rw[<-Im]at Gk;have e1:(0:Nat)+((k:Int)-1).toNat=k-1:=O'
 have yz:(A6 (c7 n x) k s)[0+((k:Int)-1).toNat]?=some (AQ (c7 n x) (k-1) s):=by rw[e1];exact nb _ O'
 repeat' (first|apply AG<;>intro hc<;>try omega|apply A4;omega|apply BS;omega|apply AE)<;>conv=>whnf
 refine F6 (enc:=IG false) yz rfl ?_;conv=>whnf
 (repeat' (refine AD (Gk _) ?_<;>conv=>whnf))
 refine DG (λi=>k-i) (λ(i:Nat)=>i<=k/\∀r,r<i->AQ (c7 n x) r s≠AQ (c7 n x) k s) (λi=>[(18,.int .i64 i)]) (λ_=>[]) 0 ⟨O',λr h=>absurd h O'⟩ ?_;intro i ⟨i1,i2⟩ jh;by_cases hi:i<k;rotate_left
 ·have ek:i=k:=O'
  subst ek;have ma:AQ (c7 n x) i s ∉ A6 (c7 n x) i s:=λh=>by
   obtain⟨r,hr,e⟩:=FC.1 h;exact i2 r hr e.symm
  have hnd:(A6 (c7 n x) (i+1) s).Nodup:=by
   rw[O8,List.nodup_append];exact⟨k3,Z',λa ha b j9 e=>ma (by rw[ja]at j9;rw[<-j9,<-e];exact ha)⟩
  have jt:=ih (i+1) O' ⟨O',O',hnd⟩;rw[O8]at jt;clear ih jh;repeat' (first|apply AG<;>intro hc<;>try omega|apply CT|apply AE)<;>conv=>whnf
  refine DH (enc:=IG false) (AQ (c7 n x) i s) rfl nf.symm rfl O' O' ?_;rw[show(A6 (c7 n x) i s++[AQ (c7 n x) i s]).length=i+1 by rw[ya,nf];rfl];conv=>whnf
  skip
  exact BB [(37,94)] E' jt
 have Kb:=λq1 q2=>fY I (AQ (c7 n x) i s) (AQ (c7 n x) k s) q1 q2 (by have:=me i;omega) (by have:=me k;omega)
 have hgi:(A6 (c7 n x) k s)[0+((i:Int)).toNat]?=some (AQ (c7 n x) i s):=by rw[Da,Qa];exact nb i hi
 by_cases hT:AQ (c7 n x) i s=AQ (c7 n x) k s;rotate_left
 ·rw[decide_eq_false hT]at Kb
  have Bg:=jh (i+1) O' ⟨O',λr hr=>by
   by_cases e:r=i
   ·rw[e];exact hT
   ·exact i2 r O'⟩
  clear ih jh;repeat' (first|apply AG<;>intro hc<;>try omega|apply A4;omega|apply AE)<;>conv=>whnf
  refine F6 (enc:=IG false) hgi rfl ?_;conv=>whnf
  repeat' (first|apply AR;omega|refine AD (Kb _ _) ?_)<;>conv=>whnf
  exact BB [] E' Bg
 rw[decide_eq_true hT]at Kb;clear ih jh;repeat' (first|apply AG<;>intro hc<;>try omega|apply A4;omega|apply AE)<;>conv=>whnf
 refine F6 (enc:=IG false) hgi rfl ?_;conv=>whnf
 (repeat' (refine AD (Kb _ _) ?_<;>conv=>whnf))
 have yn:∀m,AQ (c7 n x) m (AQ (c7 n x) k s)=AQ (c7 n x) (i+m) s:=λm=>by rw[<-hT];exact(G0 i m s).symm
 have Ed:=λm=>EG.it z8 hx m (hW k)
 have zi:=λm=>((Ed m).vg z8).len
 have ff:=λm=>(Ed m).len
 have uo:=λr q q1 q2=>yH N.tos9 (AQ (c7 n x) r (AQ (c7 n x) k s)) (AQ (c7 n x) q (AQ (c7 n x) k s)) q1 q2 (by have:=ff r;have:=ff q;omega) (by have:=zi r;omega)
 have hV:∀q,q<k-i->(∀r,r<k-i->0<=B6 (AQ (c7 n x) r (AQ (c7 n x) k s)) (AQ (c7 n x) q (AQ (c7 n x) k s)))->AQ (c7 n x) (k-i) (AQ (c7 n x) q (AQ (c7 n x) k s))=AQ (c7 n x) q (AQ (c7 n x) k s)/\(A6 (c7 n x) (k-i) (AQ (c7 n x) q (AQ (c7 n x) k s))).Nodup/\QR n x s (.j5 [.agg (EC (A6 (c7 n x) (k-i) (AQ (c7 n x) q (AQ (c7 n x) k s)),(A6 (c7 n x) (k-i) (AQ (c7 n x) q (AQ (c7 n x) k s))).map (bj n x))),.int .i64 i,.int .i64 0]):=λq hq kn=>by
  have ep:AQ (c7 n x) (k-i) (AQ (c7 n x) k s)=AQ (c7 n x) k s:=by rw[yn,show i+(k-i)=k by omega]
  have ef:=YY (f:=c7 n x) i (k-i) s;rw[show i+(k-i)=k by omega]at ef;have hnd:(A6 (c7 n x) (k-i) (AQ (c7 n x) k s)).Nodup:=by rw[<-hT,<-ef];exact k3.sublist (List.drop_sublist _ _)
  have Pu:=cB ep (m:=q) O';refine⟨oP ep q,by rw[<-Pu];exact(UX q _).nodup_iff.2 hnd,.inl ⟨i,k,hi,hk,k3,hT.symm,?_⟩⟩;rw[hT,AlG (g:=bj n x) O' ep hnd hq kn]
 refine EE (λm _=>k-i-m) (λ(m q:Nat)=>m<=k-i/\q<k-i/\(q<m\/q=0)/\∀r,r<m->0<=B6 (AQ (c7 n x) r (AQ (c7 n x) k s)) (AQ (c7 n x) q (AQ (c7 n x) k s))) (λm q=>[(20,.int .i64 ((i+m:Nat):Int)),(19,.sl false ((AQ (c7 n x) q (AQ (c7 n x) k s)).map AZ))]) (λ_ _=>[]) 0 0 ⟨O',O',.inr rfl,λr h=>absurd h O'⟩ ?_;intro m q ⟨m1,m2,m3,m4⟩ mh;by_cases hm:m<k-i;rotate_left
 ·have em:m=k-i:=O'
  subst em;obtain⟨v1,v2,v3⟩:=hV q m2 m4;have rf:=zW I J N z8 hx (Ed q) (show 0<k-i by omega) O' v1 v2;clear hV uo mh yn zi ff Ed;generalize A6 (c7 n x) (k-i) (AQ (c7 n x) q (AQ (c7 n x) k s))=O at*;have u6:=VQ (O,O.map (bj n x));repeat' (first|apply AG<;>intro hc<;>try omega|apply AE|refine AD (rf) ?_)<;>conv=>whnf
  refine⟨_,AW rfl ?_,v3⟩;simp only[AY,BK]at u6⊢;simpa using u6
 have vz:(A6 (c7 n x) k s)[0+(((i+m:Nat):Int)).toNat]?=some (AQ (c7 n x) m (AQ (c7 n x) k s)):=by rw[yn,Da,Qa];exact nb _ O'
 have Jv:=uo m q;have Gz:B6 (AQ (c7 n x) q (AQ (c7 n x) k s)) (AQ (c7 n x) m (AQ (c7 n x) k s)) = -B6 (AQ (c7 n x) m (AQ (c7 n x) k s)) (AQ (c7 n x) q (AQ (c7 n x) k s)):=VR _ _;have lu:=X1 (AQ (c7 n x) m (AQ (c7 n x) k s));by_cases fb:B6 (AQ (c7 n x) m (AQ (c7 n x) k s)) (AQ (c7 n x) q (AQ (c7 n x) k s))<0
 ·rw[decide_eq_true fb]at Jv
  have Qz:=mh (m+1) m O' ⟨O',hm,.inl O',λr hr=>by
   by_cases e:r=m
   ·rw[e];omega
   ·have h1:=m4 r O'
    rcases Int.lt_or_le (B6 (AQ (c7 n x) r (AQ (c7 n x) k s)) (AQ (c7 n x) m (AQ (c7 n x) k s))) 0 with h2|h2
    ·have:=aB h2 fb;omega
    ·exact h2⟩
  clear hV uo mh yn zi ff Ed;repeat' (first|apply AG<;>intro hc<;>try omega|apply A4;omega|apply AE)<;>conv=>whnf
  refine F6 (enc:=IG false) vz rfl ?_;conv=>whnf
  repeat' (first|apply A4;omega|refine AD (Jv _ _) ?_)<;>conv=>whnf
  refine F6 (enc:=IG false) vz rfl ?_;conv=>whnf
  repeat' (first|apply AR;omega|fail)<;>conv=>whnf
  rw[show((i+m:Nat):Int)+1=((i+(m+1):Nat):Int)by omega];exact BB [] E' Qz
 ·rw[decide_eq_false fb]at Jv
  have Qz:=mh (m+1) q O' ⟨O',m2,O',λr hr=>by
   by_cases e:r=m
   ·rw[e];omega
   ·exact m4 r O'⟩
  clear hV uo mh yn zi ff Ed;repeat' (first|apply AG<;>intro hc<;>try omega|apply A4;omega|apply AE)<;>conv=>whnf
  refine F6 (enc:=IG false) vz rfl ?_;conv=>whnf
  repeat' (first|apply AR;omega|refine AD (Jv _ _) ?_)<;>conv=>whnf
  rw[show((i+m:Nat):Int)+1=((i+(m+1):Nat):Int)by omega];exact BB [] E' Qz
end Go.e9

namespace Go.e9
open F
attribute [local irreducible] AA AF AX AC B4 AU A7 A8 BV BI B0 DS BG A1 BU CB AB A2 AH pw CG B3 CR DK C2 CO CJ BL CY C3 C4 CX C7
variable {L:Lib} {kB:List Int->ByteArray}
set_option maxRecDepth 8000
theorem Aml(r:Rw):DU (EL r):=by
 have hs3:=NR (v:=r.l9) (m:=4) O';have h4:=Al0 r;refine⟨Vj r,by show CF r.l9 4<=4;omega,O',λd hd t ht=>(Al1 r).cf _ (ta.2 ⟨d,hd,rfl⟩) t ht,.inr (.inr ⟨h4,λd hd=>Tz r hd⟩)⟩
theorem Aj4(n:Nt):(∃i,i<=6/\GP n.s.toNat (aN n) i)\/XQ n:=by
 have key:∀k,(∃i,i<k/\GP n.s.toNat (aN n) i)\/∀j,j<k->ES (CI n.s.toNat (aN n) j)=false:=by
  intro k;induction k with
  |zero=>exact .inr λj h=>absurd h O'
  |succ k ih=>
   rcases ih with⟨i,h1,h2⟩|h
   ·exact .inl ⟨i,O',h2⟩
   ·cases hc:ES (CI n.s.toNat (aN n) k)
    ·exact .inr λj hj=>by
      by_cases e:j=k
      ·rw[e,hc]
      ·exact h j O'
    ·exact .inl ⟨k,O',hc,h⟩
 rcases key 7 with⟨i,h1,h2⟩|h
 ·exact .inl ⟨i,O',h2⟩
 ·exact .inr λj hj=>h j O'
theorem An6{n:Nt}(hn:DU n)(h:XQ n):0<n.s:=by
 obtain⟨_,_,⟨pe,_,_,h5⟩,_⟩:=(C1 n).1 hn.er;refine Int.not_le.1 λh0=>?_
 have h1:n.s=0:=O'
 have h2:n.next=[]:=List.eq_nil_of_length_eq_zero O'
 have h3:=h 0 O';rw[aN,h2,List.map_nil,h1]at h3;exact absurd h3 (by decide +kernel)
theorem Agp(I:a8 L)(N:bf L)(n:Nt)(hn:DU n)(x:Int)(hx:FT n.d x->-8388607<=x/\x<=8388607) :
  ∃(B:List Int) (e:Int),Ev L 450 [.agg (B2 n),.int .i64 x] (.j5 [.sl false (B.map AZ),.int .i64 e])/\Ev L 451 [.agg (B2 n),.int .i64 x] (.j5 [.sl false (B.map AZ),.int .i64 e])/\((FT n.d x/\e=0/\∃i,i<=6/\GP n.s.toNat (aN n) i/\B=NT n i x)\/e≠0):=by
 obtain⟨p1,p2⟩:=Aiv I N n hn x hx;obtain⟨r1,r2⟩:=Ajq I N n hn x hx;by_cases hf:FT n.d x
 ·obtain⟨p3,p4⟩:=p2 hf
  obtain⟨r3,r4⟩:=r2 hf;rcases Aj4 n with⟨i,i1,i2⟩|hu
  ·exact⟨_,0,p3 i i1 i2,r3 i i1 i2,.inl ⟨hf,rfl,i,i1,i2,rfl⟩⟩
  ·exact⟨[],14,p4 hu (An6 hn hu),r4 hu,.inr O'⟩
 ·exact⟨[],17,p1 hf,r1 hf,.inr O'⟩
theorem AnG{n:Nt}{s:List Int}{x:Int}(h:(IP n s x).2.2.2=0):FT n.d x/\EG n s:=by
 have h1:(FM n s x).2.2=0:=by
  by_cases e:(FM n s x).2.2=0
  ·exact e
  ·rw[sI n e]at h;exact h
 obtain⟨g1,_⟩:=sW n h1;have hw:F3 n s [x]=0:=by
  by_cases e:F3 n s [x]=0
  ·exact e
  ·rw[ZI n g1 e]at h1;exact h1
 have hl:=tA n hw;rw[F3,if_neg O']at hw;split at hw
 ·rename_i h2
  simp only[Bool.and_eq_true,DX,List.all_cons,List.all_nil,Ja,decide_eq_true_eq]at h2;exact⟨h2.2,hl,h2.1⟩
 ·cases hw
theorem Ahb(I:a8 L)(J:k9 L)(N:s9 L)(R:w8 L)(Y:KT L kB)(Z:VI L)(n:Nt)(x:Int)(box:List Int)(q:Bool)(hb:box.length<9223372036854775808) :
  ∃(l:List Cy) (e:Int),Ev L 433 [.agg (B2 n),.int .i64 x,.sl q (box.map AZ)] (.j5 [.sl false (l.map EC),.int .i64 e])/\Ev L 447 [.agg (B2 n),.int .i64 x,.sl q (box.map AZ)] (.j5 [.sl false (l.map EC),.int .i64 e])/\e=JC n x box/\(e=0->LT (c7 n x) (bj n x) box l)/\(e≠0->l=[]):=by
 by_cases h:JC n x box=0
 ·obtain⟨v,h1,l,h2,rfl⟩:=yD I J N Y Z h q
  obtain⟨v',h3,l',h4,rfl⟩:=Ajr I J R h q;obtain rfl:=h2.uniq h4;exact⟨l,0,h1,h3,h.symm,λ_=>h2,λh=>absurd rfl h⟩
 ·exact⟨[],_,Aix I J N h q hb,Ajs I J R h q hb,rfl,λe=>absurd e h,λ_=>rfl⟩
theorem Am7(I:a8 L)(J:k9 L)(N:s9 L)(R:w8 L)(Y:KT L kB){n:Nt}(hn:DN n=true)(x:Int)(s:List Int)(q:Bool)(hs:s.length<=1000000) :
  ∃(z:Cy) (fr e:Int),Ev L 436 [.agg (B2 n),.sl q (s.map AZ),.int .i64 x] (.j5 [.agg (EC z),.int .i64 fr,.int .i64 e])/\Ev L 448 [.agg (B2 n),.sl q (s.map AZ),.int .i64 x] (.j5 [.agg (EC z),.int .i64 fr,.int .i64 e])/\tP z/\(e=0->FT n.d x/\EG n s/\∃u k,G9 (c7 n x) (bj n x) (EG n) z u k):=by
 by_cases h:(IP n s x).2.2.2=0
 ·obtain⟨hx,hw⟩:=AnG h
  obtain⟨v,h1,h2⟩:=AiB I J N Y hn hx hw q;obtain⟨v',h3,h4⟩:=Ajx I J R hn hx hw q;obtain rfl:=h2.uniq h4;obtain⟨z,fr,e,rfl,lq,cz,_⟩:=h2.out hn hx hw;exact⟨z,fr,e,h1,h3,lq,λhe=>⟨hx,hw,cz he⟩⟩
 ·exact⟨([],[]),0,_,AiC I J N hs h q,Ajy I J R hs h q,⟨Z',Z',Z'⟩,λe=>absurd e h⟩
theorem AiU(I:a8 L)(J:k9 L)(W:x9 L)(R:gx L)(N:s9 L)(C:ke L)(Y:KT L kB)(Z:VI L)(r:Rw)(h1:DJ r.data)(h2:DJ r.y9)(h3:DJ r.l9)(h4:DJ r.out)(h5:LZ r.next)(h6:∀w∈r.nodes,LZ w.1.2/\LZ w.2.2)(hl:r.nodes.length<9223372036854775808)
  (x:Int) (bx st:List Int) (q1 q2:Bool) (nz:DJ x) (lb:bx.length<9223372036854775808) (ls:st.length<9223372036854775808):Ev L 454 [.agg (fJ r),.int .i64 x,.sl q1 (bx.map AZ),.sl q2 (st.map AZ)] (.bool true):=by
 have Cu:=AiV I J N C.todu Y Z;refine Ev.x C.SY rfl rfl ?_;by_cases hlen:10<bx.length
 ·repeat' (first|apply AG<;>intro hc<;>try omega|apply AP|apply AE|refine AD (Cu) ?_)<;>conv=>whnf
  exact E9 rfl
 by_cases Ap4:10<st.length
 ·repeat' (first|apply AG<;>intro hc<;>try omega|apply AP|apply AE|refine AD (Cu) ?_)<;>conv=>whnf
  exact E9 rfl
 have hn:=Aml r;have Ky:=AjS I W R r h1 h2 h3 h4 h5 h6 hl;have hd6:=wK r.data;change WV (EL r).d/\6<=(EL r).d.b/\(EL r).d.b<=12 at hd6;generalize EL r=n at*;have Iz:FT n.d x->-8388607<=x/\x<=8388607:=λ⟨_,e1,e2⟩=>by
  obtain⟨l1,l2,l3,_⟩:=RB hd6.1;have l5:=RI (n:=n.d.b-1) (m:=11) O';have l6:pw 11=2048:=by unfold pw;rfl
  omega
 obtain⟨B,e1,b1,b2,_⟩:=Agp I C.tobf n hn x Iz;have rf:=λq=>Ahb I J N C.tow8 Y Z n x bx q lb
 have hse:=λq=>Am7 I J N C.tow8 Y hn.er x st q O'
 obtain⟨l,e2,c1,c2,_⟩:=rf q1;obtain⟨z,fr,e3,s1,s2,_⟩:=hse q2;clear rf hse Iz;repeat' (first|apply AG<;>intro hc<;>try omega|apply AP|apply AE|refine AD (Ky) ?_|refine AD (b1) ?_|refine AD (b2) ?_|refine AD (c1) ?_|refine AD (c2) ?_|refine AD (s1) ?_|refine AD (s2) ?_|refine AD (Cu) ?_)<;>conv=>whnf
 all_goals exact E9 rfl
end Go.e9
