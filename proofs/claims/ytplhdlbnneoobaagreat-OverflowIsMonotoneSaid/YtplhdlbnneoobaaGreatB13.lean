/-
  Bounds (layer 29): the paths of the sources.
-/
import Derived.Test.YtplhdlbnneoobaaGreatB12
import Derived.Test.YtplhdlbnneoobaaGreatB11
import Derived.Test.YtplhdlbnneoobaaGreatB9
import Derived.Test.YtplhdlbnneoobaaGreatB4
import Derived.Test.YtplhdlbnneoobaaGreatB10
set_option linter.unusedSimpArgs false
set_option linter.unusedVariables false
set_option linter.unnecessarySimpa false
namespace Go.b7
open F
attribute [local irreducible] AA AF AM AC BT AQ A5 AZ BG A9 BS CN BH AU BI BR AB A1 AJ pw B1 BQ B9 CM CH BF BV BB B5
variable {L:Lib}
set_option maxHeartbeats 16000000
set_option maxRecDepth 8000
abbrev qI (nm sc S m:Nat) (n:Nt) (eng:List AV) (C:List (List Rat)) (row:List (List AV)):Mem :=
 [(nm,sc,.bx (D9 n)),(356001,356001,.bx (D9 n)),(356004,356004,.bx [.row 356017 0 1 0 S]),(356017,356017,.mx (ET 3 eQ C)),(356009,356009,.bx eng),(356011,356011,.bx [.row 356057 0 8 0 m]),(356057,356057,.rw 8 row)]
theorem zZ (N:o0 L) (nm sc:Nat) (Cd:nm=1\/nm=2) (n:Nt) (hn:EB n) (R:List (List Rat)) (D U E:Rat) (p:Nat) (C:List (List Rat)) (ss:List CI) (P:CI->List (List Rat) × Rat) (hs : ∀ s∈ss,PJ n s) (hm:ss.length<=6)
  (hE:E=F7 (ss.map (·.b)).flatten) (uj:Bt 960000 E)
  (hW : ∀ s∈ss,Ev L 304 [.agg (HA false R D (p:Int) U),.sl false ((s.b.map (· * E)).map eQ)] (.agg (QJ (P s).1 (P s).2))) (hP : ∀ s,(P s).1≠[]) (K:AV->Mem->Prop)
  (hK:K (.agg (eQ E)) (qI nm sc n.s.toNat ss.length n (HA false R D (p:Int) U) C (ss.map (JE true P)))) :
  A1 L 355 [.agg (HA false R D (p:Int) U),.agg (D9 n),.row 356057 0 8 0 ss.length] (WN [nm,356001,356004,356009,356011,356057]) (qI nm sc n.s.toNat ss.length n (HA false R D (p:Int) U) C (ss.map (JE false P))) K:=by
 obtain ⟨ke,zq⟩:=YG hn;have j9:=hn.st;have qi:=hn.nl;obtain ⟨S,hS⟩ : ∃ S:Nat,n.s.toNat=S:=⟨_,rfl⟩;rw[hS]at ke zq;obtain ⟨T,hT⟩ : ∃ T:List (List Rat),T=ss.map (·.b):=⟨_,rfl⟩;have Ds:T.length=ss.length:=by rw[hT,List.length_map]
 have wk : ∀ (i:Nat) (s:CI),ss[i]? = some s->T[i]? = some s.b:=λ i s h=>by rw[hT,List.getElem?_map,h];rfl
 have Kp : ∀ r∈T,r.length=S:=λ r hr=>by
  rw[hT]at hr;obtain ⟨s,h,rfl⟩:=List.mem_map.1 hr;rw[(hs s h).bl hn,hS]
 have Gd:Ms 40000 T:=λ r hr=>by
  rw[hT]at hr;obtain ⟨s,h,rfl⟩:=List.mem_map.1 hr;exact (hs s h).bb
 have ko:=λ q q'=>U7 N.tol7 q q' T 40000 Gd (by rw[cR Kp,Ds];have:=Nat.mul_le_mul hm (show S<=4 by omega);omega) (by omega) (by omega)
 rw[<-hT]at hE;rw[<-hE]at ko;have Ay:=λ(s:CI) (rk:s∈ss) (q:Bool)=>U8 N.tol7 q s.b E 40000 960000 (hs s rk).bb uj (by omega) (by omega) (by have:=(hs s rk).bl hn;omega)
 have lj : ∀ s∈ss,s.b.length=S:=λ s h=>by rw[(hs s h).bl hn,hS]
 have Gv : ∀ s∈ss,∀ (j:Nat) (v:Int),n.next[j]? = some v->s.b[j]? = some (s.g.getD v.toNat 0):=λ s h j v hv=>by
  rw[(hs s h).b,S1,List.getElem?_map,hv];rfl
 have xq : ∀ s∈ss,s.g.length=S+1+n.nodes.length:=λ s h=>by rw[(hs s h).gl,hS]
 have Lg:=Zo ss P;have Lf:=Zn ss P;rw[hS]at hK ⊢;refine ZS ?_;rcases Cd with rfl|rfl
 all_goals
  refine FC 1000 N.ML rfl rfl ?_;(repeat' (apply AE<;>conv=>whnf))
  unfold CH;refine ⟨⟨by omega,by omega,by simp only[EZ];omega,by omega⟩,?_⟩;rw[Int.toNat_natCast];(conv=>whnf)
  skip
  refine CK (λ i=>ss.length-i) (λ(i:Nat)=>i<=ss.length) (λ i=>[(19,.int .i64 i)]) (λ i=>[(355016,355016,.mx (FZ S T i))]) [] [] 0 (by rw[zO,Ds];exact (by (conv=>whnf);exact ⟨rfl,rfl,rfl⟩)) (by omega) ?_;intro i p1 ih;have gp:=zI (S:=S) (T:=T) (i:=i) (by omega);by_cases hi:i<ss.length
  ·obtain ⟨s,nn⟩ : ∃ s,ss[i]? = some s:=⟨_,zE hi⟩
   have fo:=zM nn;have np:=wk i s nn;have Aio:=lj s fo;have AiB:=xq s fo;have Be:=Gv s fo;have ri:=zK (S:=S) (T:=T) (i:=i) (by omega);have fb:=λ h0:S≠0=>zN h0 np
   have jo:S=0->FZ S T i=FZ S T (i+1):=λ h=>by subst h;exact zL _ _
   generalize FZ S T i=R0 at *;(repeat' ((first|(apply AG<;>intro hc<;>try (exfalso;omega))|(apply A3;omega)|apply AY|(refine ZY ?_ (λ_=>rfl) (λ v hv => ?_);omega)|apply AE)<;>conv=>whnf))
   cases nn.symm.trans hv;skip
   rcases Nat.eq_zero_or_pos S with h0|h0
   ·have Il:=jo h0
    refine FB ?_;(repeat' ((first|(apply AG<;>intro hc<;>try (exfalso;omega))|(apply AR;omega)|apply AE)<;>conv=>whnf))
    rw[Il];exact BO [] (ih (i+1) (by omega) (by omega))
   ·have fb:=fb (by omega)
    have lg : ∀ j,j<S -> ∃ (v:Int) (x:Rat),n.next[j]? = some v/\n.next[(j:Int).toNat]? = some v/\0<=v/\s.g[v.toNat]? = some x/\s.b[j]? = some x:=λ j hj=>by
     obtain ⟨v,hv⟩ : ∃ v,n.next[j]? = some v:=⟨_,zE (by omega)⟩
     obtain ⟨h1,h2⟩:=zq v (zM hv);obtain ⟨x,hx⟩ : ∃ x,s.g[v.toNat]? = some x:=⟨_,zE (by omega)⟩;exact ⟨v,x,hv,hv,h1,hx,by rw[Be j v hv,X3 hx]⟩
    obtain ⟨v0,x0,q1,q2,q3,q4,q5⟩:=lg 0 h0;have sz:s.b.take 1=[x0]:=by rw[List.take_add_one,q5];rfl
    clear jo Be;refine FB ?_;(repeat' ((first|(apply AG<;>intro hc<;>try (exfalso;omega))|(apply A3;omega)|(refine BC (by assumption) ?_ rfl ?_;omega)|apply AE)<;>conv=>whnf))
    refine ZW (r:=none) (by rw[Nat.zero_add,Int.toNat_natCast];exact ri) ?_;(conv=>whnf)
    (repeat' ((first|(refine BC (by assumption) ?_ rfl ?_;omega)|apply EF)<;>conv=>whnf))
    refine SU (enc:=eQ) x0 rfl rfl (by omega) ?_;(conv=>whnf)
    (repeat' ((first|(apply A3;omega)|fail)<;>conv=>whnf))
    refine A3 rfl ?_;refine Z6 (i:=i) (by omega) (by omega) ?_;(conv=>whnf)
    (repeat' ((first|(apply AR;omega)|fail)<;>conv=>whnf))
    refine CK (λ j=>S-j) (λ(j:Nat)=>1<=j/\j<=S) (λ j=>[(27,.int .i64 j)]) (λ j=>[(355016,355016,.mx (R0.set i (some (3,(s.b.take j).map eQ))))]) [] [] 1 (by first|exact (by (conv=>whnf);exact ⟨rfl,rfl,rfl⟩)|(rw[sz];exact (by (conv=>whnf);exact ⟨rfl,rfl,rfl⟩))) (by omega) ?_;intro j ⟨r1,r2⟩ jh;by_cases hj:j<S
    ·obtain ⟨v1,x1,e1,e2,e3,e4,e5⟩:=lg j hj
     have j9:=IB e5;have htj:(s.b.take j).length=j:=by rw[List.length_take];omega
     have Ir:(s.b.take (j+1)).length=j+1:=by rw[List.length_take];omega
     generalize s.b.take j=W at *;(repeat' ((first|(apply AG<;>intro hc<;>try (exfalso;omega))|(apply A3;omega)|(refine BC (by assumption) ?_ rfl ?_;omega)|apply AE)<;>conv=>whnf))
     refine xB (by omega) (by omega) ?_;(conv=>whnf)
     (repeat' ((first|(refine BC (by assumption) ?_ rfl ?_;omega)|apply EF)<;>conv=>whnf))
     refine wZ (by omega) (by omega) ?_;(conv=>whnf)
     refine FV (enc:=eQ) x1 rfl (by rw[List.length_map]) rfl (by omega) (by omega) ?_;intro s' v;rw[<-j9,Ir];(conv=>whnf)
     (repeat' ((first|(apply A3;omega)|fail)<;>conv=>whnf))
     refine A3 ⟨rfl,by rw[List.length_map];omega⟩ ?_;refine Z6 (i:=i) (by omega) (by rw[List.length_set,List.length_set];omega) ?_;rw[show 0+((i:Int)).toNat=i by omega,List.set_set,List.set_set];(conv=>whnf)
     (repeat' ((first|(apply AR;omega)|fail)<;>conv=>whnf))
     exact BO [] (jh (j+1) (by omega) (by omega))
    have ej:j=S:=by omega
    clear jh;rw[ej,List.take_of_length_le (by omega),fb];(repeat' ((first|(apply AG<;>intro hc<;>try (exfalso;omega))|(apply AR;omega)|apply AE)<;>conv=>whnf))
    exact BO [] (ih (i+1) (by omega) (by omega))
  have ei:i=T.length:=by omega
  clear ih gp;rw[ei];rcases Nat.eq_zero_or_pos S with h0|h0
  ·subst h0
   rw[zJ];have hTe : ∀ r∈T,r=[]:=λ r hr=>List.length_eq_zero_iff.1 (Kp r hr)
   have nc : ∀ q,Ev L 295 [.sl q (List.replicate T.length [.sl false []])] (.agg (eQ E)):=λ q=>by
    have:=ko q false
    rwa [Qt false hTe]at this
   (repeat' ((first|(apply AG<;>intro hc<;>try (exfalso;omega))|apply AE)<;>conv=>whnf))
   refine xS rfl (by omega) ?_;(conv=>whnf)
   (repeat' (refine AD (nc _) ?_<;>conv=>whnf))
   refine CK (λ i=>ss.length-i) (λ(i:Nat)=>i<=ss.length) (λ i=>[(51,.int .i64 i)]) (λ i=>[(356057,356057,.rw 8 (JF ss P i))]) [] [] 0 (by rw[Lg];exact (by (conv=>whnf);exact ⟨rfl,rfl,rfl⟩)) (by omega) ?_;intro i p1 ih;by_cases hi:i<ss.length
   ·obtain ⟨s,nn⟩ : ∃ s,ss[i]? = some s:=⟨_,zE hi⟩
    have fo:=zM nn;have np:=wk i s nn;have hW':=hW s fo;have Ga:=hP s;have xx:=dO (P s).1 (P s).2;have zj:=eU (T:=(P s).2) Ga;have su:=Ay s fo;have fp:=λ(K:List (List AV)->Prop)=>jA (P:=P) (K:=K) nn
    have hbe:s.b=[]:=List.length_eq_zero_iff.1 (lj s fo);rw[hbe]at hW' su;have hTn : ∀ q,Ev L 296 [.sl q [],.agg (eQ E)] (.sl false ((([]:List Rat).map (· * E)).map eQ)):=su;(repeat' ((first|(apply AG<;>intro hc<;>try (exfalso;omega))|(apply A3;omega)|apply AE)<;>conv=>whnf))
    refine ZW (r:=none) (by rw[Nat.zero_add,Int.toNat_natCast,List.getElem?_replicate,if_pos (by omega)]) ?_;(conv=>whnf)
    (repeat' ((first|refine AD (hTn _) ?_|refine AD (hW') ?_)<;>conv=>whnf))
    refine ZT zj trivial ?_;rw[xx];(conv=>whnf)
    refine A3 (by omega) ?_;(conv=>whnf)
    refine fp _ ?_;(conv=>whnf)
    (repeat' ((first|(apply AR;omega)|fail)<;>conv=>whnf))
    exact BO [] (ih (i+1) (by omega) (by omega))
   have ei:i=ss.length:=by omega
   clear ih;rw[ei,Lf];(repeat' ((first|(apply AG<;>intro hc<;>try (exfalso;omega))|apply AE)<;>conv=>whnf))
   refine ⟨rfl,?_⟩;(conv=>whnf)
   refine ⟨_,?_,hK⟩;exact ⟨rfl,rfl,rfl,rfl,rfl,rfl,rfl,trivial⟩
  ·rw[zH (by omega)]
   (repeat' ((first|(apply AG<;>intro hc<;>try (exfalso;omega))|apply AE)<;>conv=>whnf))
   refine PI (λ_=>rfl) rfl Ds.symm ?_;(conv=>whnf)
   (repeat' (refine AD (ko _ _) ?_<;>conv=>whnf))
   refine CK (λ i=>ss.length-i) (λ(i:Nat)=>i<=ss.length) (λ i=>[(51,.int .i64 i)]) (λ i=>[(356057,356057,.rw 8 (JF ss P i))]) [] [] 0 (by rw[Lg];exact (by (conv=>whnf);exact ⟨rfl,rfl,rfl⟩)) (by omega) ?_;intro i p1 ih;by_cases hi:i<ss.length
   ·obtain ⟨s,nn⟩ : ∃ s,ss[i]? = some s:=⟨_,zE hi⟩
    have fo:=zM nn;have np:=wk i s nn;have hW':=hW s fo;have Ga:=hP s;have xx:=dO (P s).1 (P s).2;have zj:=eU (T:=(P s).2) Ga;have su:=Ay s fo;have fp:=λ(K:List (List AV)->Prop)=>jA (P:=P) (K:=K) nn
    (repeat' ((first|(apply AG<;>intro hc<;>try (exfalso;omega))|(apply A3;omega)|(refine C3 (λ_=>rfl) rfl ?_ ?_;(first|rfl|simp))|(refine xA ?_ (λ r hr => ?_);omega)|refine wX (by assumption) ?_|apply AE)<;>conv=>whnf))
    cases np.symm.trans hr;(repeat' ((first|refine AD (su _) ?_|refine AD (hW') ?_)<;>conv=>whnf))
    refine ZT zj trivial ?_;rw[xx];(conv=>whnf)
    refine A3 (by omega) ?_;(conv=>whnf)
    refine fp _ ?_;(conv=>whnf)
    (repeat' ((first|(apply AR;omega)|fail)<;>conv=>whnf))
    exact BO [] (ih (i+1) (by omega) (by omega))
   have ei:i=ss.length:=by omega
   clear ih;rw[ei,Lf];(repeat' ((first|(apply AG<;>intro hc<;>try (exfalso;omega))|apply AE)<;>conv=>whnf))
   refine ⟨rfl,?_⟩;(conv=>whnf)
   refine ⟨_,?_,hK⟩;exact ⟨rfl,rfl,rfl,rfl,rfl,rfl,rfl,trivial⟩
def HT (n:Nt) (p:Nat) (D E:Rat) (s:CI):List (List Rat) × Rat:=((List.range (p+p)).map (C2 (aN n) s.b D E),DZ D (λ m=>C8 (C2 (aN n) s.b D E (p+m))) p)
theorem Xn {n:Nt} {p:Nat} (hp:1<=p) (D E:Rat) (s:CI):(HT n p D E s).1≠[]:=by
 intro e;have:=congrArg List.length e
 simp [HT]at this;omega
theorem AfL {x:Rat} (h:0<x):0<q9 x.num:=by
 have:=(SC (x:=x) (y:=0)).2 h
 rwa [Rat.sub_eq_add_neg,Rat.neg_zero,Rat.add_zero]at this
theorem AfK {x:Rat} (h : ¬ 0<x):q9 x.num<=0:=by
 refine Int.not_lt.1 λ h2=>h ((SC (x:=x) (y:=0)).1 ?_)
 rwa [Rat.sub_eq_add_neg,Rat.neg_zero,Rat.add_zero]
abbrev TN (n:Nt) (p:Nat) (D E:Rat):Mem :=
 [(356004,356004,.bx [.row 356017 0 1 0 n.s.toNat]),(356017,356017,.mx (ET 3 eQ (E8 n))),(356009,356009,.bx (HA false (B6 D (aN n)) D (p:Int) (D^(p+p-1)))),(356014,356014,.bx (eQ E)),(356011,356011,.bx [.row 356057 0 8 0 (o6 n).length]),(356057,356057,.rw 8 ((o6 n).map (JE true (HT n p D E))))]
theorem jV (I:j4 L) (N:o0 L) (nm sc:Nat) (Cd:nm=1\/nm=2) (n:Nt) (hn:EB n) (K:AV->Mem->Prop)
  (h1 : ∀ i,i<=6->KS n.s.toNat (aN n) i->K (.g8 [.fn false 354 (L.num 354) [.ptr 356004 0 0 0,.ptr 356009 0 0 0,.ptr 356014 0 0 0,.ptr 356011 0 0 0],.int .i64 0]) ((nm,sc,.bx (D9 n))::TN n (2^i) (F7 (aN n).flatten) (S6 n)))
  (h2:(∀ j,j<=6->GD (DF n.s.toNat (aN n) j)=false)->K (.g8 [.x9 .nilFunc,.int .i64 14]) [(nm,sc,.bx (D9 n))]) :
  A1 L 356 [.agg (D9 n)] (WN [nm]) [(nm,sc,.bx (D9 n))] K:=by
 obtain ⟨ke,zq⟩:=YG hn;have j9:=hn.st;have qi:=hn.nl;have yc:=(GN n).1 hn.oh;obtain ⟨_,_,⟨nx,_⟩,_⟩:=yc;obtain ⟨S,hS⟩ : ∃ S:Nat,n.s=(S:Int):=⟨n.s.toNat,by omega⟩;have jd:n.s.toNat=S:=by omega
 have Kc : ∀ j:Nat,j<S->OJ L 351 [.agg (D9 n),.int .i64 (1+(j:Int))] 3 ((H4 n (1+j)).map eQ):=λ j hj=>by
  have:=Ub N n (1+j) hn (by omega)
  rwa [show ((1+j:Nat):Int)=1+(j:Int) by omega]at this
 have Fu:Ev L 351 [.agg (D9 n),.int .i64 0] (.sl false ((H4 n 0).map eQ)):=mT N n 0 hn (by omega);have hGk : ∀ k:Nat,k<n.nodes.length->Ev L 351 [.agg (D9 n),.int .i64 (1+n.s+(k:Int))] (.sl false ((H4 n (1+S+k)).map eQ)):=λ k hk=>by
  have:=mT N n (1+S+k) hn (by omega)
  rwa [show ((1+S+k:Nat):Int)=1+n.s+(k:Int) by omega]at this
 have xq:=X4 hn;rw[jd]at xq;have nh:=E2 N.toa6 1 (by omega);rw[show ((1:Int):Rat)=1 from rfl]at nh;have n6:=XG n;rw[jd]at n6;have Bg:=λ(j:Nat) (hj:j<S)=>Pv (n:=n) (j:=j) (by omega)
 obtain ⟨v,wj,hv⟩:=nJ N.tol7 true false (aN n) S 40000 (by have:=SZ hn;rwa [jd]at this) (jF hn) (by omega) (by omega);have Dn:=λ(v:Nat) (hv:v<S+1+n.nodes.length) (q q':Bool)=>nI N q q' (E8 n) v (by omega) (λ c hc=>by have:=kU hn c hc;omega)
 rw[jd]at h1 h2 zq ke;have df:(aN n).length=S:=by rw[(SZ hn).l,jd]
 have Ep:=SZ hn;rw[jd]at Ep;obtain ⟨D,E,mo,jj,Ap,Fq,ow,uj,Fo,gu⟩:=sY hn;generalize hC:E8 n=C at *;have tf:=λ p hW hP K hK=>zZ N nm sc Cd n hn (B6 (D:Rat) (aN n)) (D:Rat) ((D:Rat)^(p+p-1)) (E:Rat) p C (o6 n) (HT n p D E) (T5 hn) (tV hn).2 jj.symm uj hW hP K hK
 rw[jd]at tf;refine ZS ?_;rcases Cd with rfl|rfl
 all_goals
  refine GS 1000 N.MD rfl rfl ?_;(repeat' (apply AE<;>conv=>whnf))
  unfold CH;refine ⟨⟨by omega,by omega,by simp only[EZ];omega,by omega⟩,?_⟩;rw[jd];(conv=>whnf)
  skip
  refine CK (λ i=>S-i) (λ(i:Nat)=>i<=S) (λ i=>[(20,.int .i64 i)]) (λ i=>[(356017,356017,.mx (mz C S i))]) [] [] 0 (by rw[rB];exact (by (conv=>whnf);exact ⟨rfl,rfl,rfl⟩)) (by omega) ?_;intro i p1 ih;have vl:=qZ (Q:=C) p1;by_cases hi:i<S
  ·have j9:=rA (Bg i hi) hi
   have hG:=Kc i hi;generalize mz C S i=R0 at *;(repeat' ((first|(apply AG<;>intro hc<;>try (exfalso;omega))|(apply AR;omega)|apply AE)<;>conv=>whnf))
   refine Q2 (enc:=eQ) (S+1+n.nodes.length) hG (xq _).symm ?_;(conv=>whnf)
   (repeat' ((first|(apply A3;omega)|fail)<;>conv=>whnf))
   refine A3 (by rw[List.length_map,xq]) ?_;refine Z6 (i:=i) (by omega) (by omega) ?_;rw[j9];(conv=>whnf)
   (repeat' ((first|(apply AR;omega)|fail)<;>conv=>whnf))
   exact BO [] (ih (i+1) (by omega) (by omega))
  have ei:i=S:=by omega
  clear ih;rw[ei,qY (by omega)];(repeat' ((first|(apply AG<;>intro hc<;>try (exfalso;omega))|apply AY|apply AE)<;>conv=>whnf))
  refine CK (λ j=>S-j) (λ(j:Nat)=>j<=S) (λ j=>[(34,.int .i64 j),(6,.row 356006 0 1 0 j)]) (λ j=>[(356006,356006,.rw 1 (((aN n).take j).map λ r=>[AV.sl false (r.map eQ)]))]) [] [] 0 (by rw[List.take_zero];exact (by (conv=>whnf);exact ⟨rfl,rfl,rfl⟩)) (by omega) ?_;intro j r1 jh;by_cases hj:j<S
  ·obtain ⟨w,hw⟩ : ∃ w:Nat,n.next[j]? = some (w:Int):=by
    obtain ⟨v,hv⟩ : ∃ v,n.next[j]? = some v:=⟨_,zE (by omega)⟩
    have:=(zq v (zM hv)).1
    exact ⟨v.toNat,by rw[hv];congr 1;omega⟩
   have hw':n.next[(j:Int).toNat]? = some (w:Int):=hw
   have hwl:=(zq w (zM hw)).2;have hR:=Dn w (by omega);have haj:(aN n)[j]? = some (EV C w):=by rw[aN,List.getElem?_map,hw,hC];rfl
   have ft:((aN n).take j).length=j:=by rw[List.length_take];omega
   have Is:((aN n).take (j+1)).length=j+1:=by rw[List.length_take];omega
   have iy:=IB haj;generalize (aN n).take j=W at *;(repeat' ((first|(apply AG<;>intro hc<;>try (exfalso;omega))|(refine BC (by assumption) ?_ rfl ?_;omega)|apply AE)<;>conv=>whnf))
   refine PI (λ_=>rfl) rfl n6.symm ?_;(conv=>whnf)
   (repeat' ((first|apply EF|refine AD (hR _ _) ?_)<;>conv=>whnf))
   refine FV (l:=W) (z:=1) (bytes:=24) (enc:=λ r:List Rat=>[AV.sl false (r.map eQ)]) (EV C w) rfl ft.symm rfl (by omega) (by omega) ?_;(conv=>whnf)
   rw[<-iy,Is];(repeat' ((first|(apply AR;omega)|fail)<;>conv=>whnf))
   exact BO [(356006,356043)] (jh (j+1) (by omega) (by omega))
  have ej:j=S:=by omega
  clear jh;rw[ej,List.take_of_length_le (by omega)];(repeat' ((first|(apply AG<;>intro hc<;>try (exfalso;omega))|apply AE)<;>conv=>whnf))
  refine C3 (enc:=λ r:List Rat=>[AV.sl false (r.map eQ)]) (λ_=>rfl) rfl df.symm ?_;(conv=>whnf)
  rcases hv with ⟨i,i1,i2,rfl⟩|⟨ri,rfl⟩
  ·obtain ⟨g1,_,g3⟩:=R8 i1
   have nb:=h1 i i1 i2;clear h1 h2 Dn Kc Bg;rw[mo]at wj nb;rw[jj]at nb;generalize 2^i=p at *;(repeat' ((first|(apply AG<;>intro hc<;>try (exfalso;omega))|apply AY|refine AD (wj) ?_|refine AD (Fu) ?_|refine AD (nh) ?_)<;>conv=>whnf))
   have hWk : ∀ s∈o6 n,Ev L 304 [.agg (HA false (B6 (D:Rat) (aN n)) (D:Rat) (p:Int) ((D:Rat)^(p+p-1))),.sl false ((s.b.map (· * (E:Rat))).map eQ)] (.agg (QJ (HT n p D E s).1 (HT n p D E s).2)):=λ s hs=>by
    have:=nL N.tol7 false (B6 (D:Rat) (aN n)) (D:Rat) ((D:Rat)^(p+p-1)) (C2 (aN n) s.b D E) S p 680000 640000 90000000 (gC _ Ep) Fo ow (gu s hs) (λ j=>by rw[C2,List.length_map,iC df ((T5 hn s hs).bl hn |>.trans jd)]) (ZM _ _ _ _) (by omega) ⟨g3,g1⟩ (by omega) (by omega) (by omega)
    rwa [ZN]at this
   have Gb:=Xn (n:=n) g3 (D:Rat) (E:Rat);refine CK (λ k=>n.nodes.length-k) (λ(k:Nat)=>k<=n.nodes.length) (λ k=>[(61,.int .i64 k)]) (λ k=>[(356011,356011,.bx [.row 356057 0 8 0 (FL n 0 1::DK n k).length]),(356057,356057,.rw 8 ((FL n 0 1::DK n k).map (JE false (HT n p D E))))]) [] [] 0 (by (conv=>whnf);exact ⟨rfl,rfl,rfl⟩) (by omega) ?_;intro k k1 kh;have ft:=ZC n k;have iy:=tU n k;by_cases hk:k<n.nodes.length
   ·obtain ⟨nd,hnd⟩ : ∃ nd,n.nodes[k]? = some nd:=⟨_,zE hk⟩
    have qg:n.nodes[(k:Int).toNat]? = some nd:=hnd;have Kg:=Uj N n hn k nd hnd;have mi:=PT N.toa6 (dL n nd).1 (by omega);have hgk:=hGk k hk;rw[WC,hnd]at iy;by_cases hp:0<GX n nd
    ·have od:=AfL hp
     simp only[if_pos hp,Option.toList_some]at iy;generalize Le:FL n 0 1::DK n k=ls at *;have ch:(FL n 0 1::DK n (k+1))=ls++[FL n (1+n.s.toNat+k) (GX n nd)]:=by rw[iy,<-Le];rfl
     have pz:ls.length<=6:=by rw[<-Le,List.length_cons];omega
     have eu:(FL n 0 1::DK n (k+1)).length=ls.length+1:=by rw[ch,List.length_append];rfl
     (repeat' ((first|(apply AG<;>intro hc<;>try (exfalso;omega))|(apply AR;omega)|apply EF|apply AE|refine AD (Kg) ?_|refine AD (mi) ?_|refine AD (hgk) ?_)<;>conv=>whnf))
     refine FV (l:=ls) (z:=8) (bytes:=160) (enc:=JE false (HT n p D E)) (FL n (1+n.s.toNat+k) (GX n nd)) (by rw[jd];rfl) rfl rfl (by omega) (by omega) ?_;(conv=>whnf)
     rw[<-ch];(repeat' ((first|(apply AR;omega)|fail)<;>conv=>whnf))
     exact BO [(356057,356081)] (kh (k+1) (by omega) (by omega))
    ·have od:=AfK hp
     simp only[if_neg hp,Option.toList_none,List.append_nil]at iy;(repeat' ((first|(apply AG<;>intro hc<;>try (exfalso;omega))|(apply AR;omega)|apply AE|refine AD (Kg) ?_|refine AD (mi) ?_)<;>conv=>whnf))
     rw[<-iy];exact BO [] (kh (k+1) (by omega) (by omega))
   have ek:k=n.nodes.length:=by omega
   clear kh;rw[ek,show FL n 0 1::DK n n.nodes.length=o6 n from rfl];have tf:=λ K hK=>tf p hWk Gb K hK
   unfold TN at nb;rw[jd,hC]at nb;(repeat' ((first|(apply AG<;>intro hc<;>try (exfalso;omega))|apply AE)<;>conv=>whnf))
   refine UF _ _ ?_ ?_ (tf _ ?_)
   ·exact ⟨rfl,rfl,rfl,rfl,rfl,rfl,rfl,trivial⟩
   ·rfl
   (conv=>whnf)
   skip
   refine ⟨rfl,_,rfl,?_⟩;(conv=>whnf)
   refine ⟨_,?_,nb⟩;exact ⟨rfl,rfl,rfl,rfl,rfl,rfl,rfl,trivial⟩
  ·(repeat' ((first|(apply AG<;>intro hc<;>try (exfalso;omega))|refine AD (wj) ?_)<;>conv=>whnf))
   refine ⟨rfl,_,rfl,?_⟩;(conv=>whnf)
   refine ⟨_,?_,h2 ri⟩;exact ⟨rfl,trivial⟩
def H3 (n:Nt) (p:Nat) (D E:Rat) (cO:List Rat) (s:CI):Rat:=DZ D (λ j=>CJ (CE cO (C2 (aN n) s.b D E j))) (p+p)+B0 cO*(HT n p D E s).2
theorem Wg {n:Nt} {p v:Nat} {D E O:Rat} (hp:1<=p) (hD:0<D) (hE:0<E) (hO:0<O) (s:CI) :
  s.l*CJ (s.g.getD v 0)+s.l*H3 n p D E ((EV (E8 n) v).map (· * O)) s/(D^(p+p-1)*(E*O))=s.l*KQ (O7 n s v) p:=by
 have:=uG (S:=O7 n s v) hp hD hE hO
 have e:H3 n p D E ((EV (E8 n) v).map (· * O)) s/(D^(p+p-1)*(E*O))=IA (QN (O7 n s v).a (O7 n s v).b (O7 n s v).c) (p+p)+B0 (O7 n s v).c*IA (λ j=>QQ (O7 n s v).a (O7 n s v).b (p+j)) p:=this;rw[show s.l*H3 n p D E ((EV (E8 n) v).map (· * O)) s/(D^(p+p-1)*(E*O))=s.l*(H3 n p D E ((EV (E8 n) v).map (· * O)) s/(D^(p+p-1)*(E*O))) by rw[Rat.div_def,Rat.div_def,Rat.mul_assoc],e,<-Rat.mul_add,KQ];rfl
theorem jW (N:o0 L) (n:Nt) (hn:EB n) (i:Nat) (hi:i<=6) (w:Nat) (hv:w<n.s.toNat+1+n.nodes.length) (X:Mem) (ks:List Nat) (s1:Nat) (h:Rat) (hX:(X=[(1,s1,.bx (D9 n))]/\ks=[1])\/X=[(1,s1,.bx (D9 n)),(6,6,.bx (eQ h))]/\ks=[1,6]) (K:AV->Mem->Prop)
  (hK:Bt 400000000000 (JW n (2^i) w)->Bt 400000000000 (H8 n (2^i) w)->K (.agg (eQ (JW n (2^i) w)++eQ (H8 n (2^i) w))) (X++TN n (2^i) (F7 (aN n).flatten) (S6 n))) :
  A1 L 354 [.int .i64 (w:Int),.ptr 356004 0 0 0,.ptr 356009 0 0 0,.ptr 356014 0 0 0,.ptr 356011 0 0 0] (WN (ks++[356004,356009,356014,356011])) (X++TN n (2^i) (F7 (aN n).flatten) (S6 n)) K:=by
 have j9:=hn.st;have qi:=hn.nl;obtain ⟨_,_,⟨nx,_⟩,_⟩:=(GN n).1 hn.oh;obtain ⟨S,hS⟩ : ∃ S:Nat,n.s.toNat=S:=⟨_,rfl⟩;obtain ⟨g1,_,g3⟩:=R8 hi;obtain ⟨D,E,mo,jj,Ap,Fq,ow,uj,Fo,gu⟩:=sY hn;have xq:=X4 hn;have Dn:=λ(q q':Bool)=>nI N q q' (E8 n) w (by rw[XG];omega) (λ c hc=>by have:=kU hn c hc;omega)
 have n6:=XG n;have ta:=sK n w;have ji:=sJ hn w;have nc:=λ q=>U7 N.tol7 q false [EV (E8 n) w] 40000 (λ r hr=>by obtain rfl:=List.mem_singleton.1 hr;exact ji) (by rw[VF];omega) (by simp) (by omega)
 rw[VF]at nc;obtain ⟨O,Aj,o1,o2,o3⟩:=X9 ta ji;have bO:Bt 160000 (O:Rat):=(R4 o2).le (by have:=Nat.mul_le_mul_right 40000 (show n.s.toNat<=4 by omega);omega);have Ec:Bs 200000 ((EV (E8 n) w).map (· * (O:Rat))):=λ x hx=>((o3 x hx).le (by have:=Nat.mul_le_mul_right 40000 (show n.s.toNat<=4 by omega);omega)).bt
 have hval:=λ s=>Wg (n:=n) (p:=2^i) (v:=w) g3 (OZ Ap) (OZ Fq) (OZ o1) s
 have Iw:JW n (2^i) w=(0+(FL n 0 1).l*CJ ((FL n 0 1).g.getD w 0))+(0+(FL n 0 1).l*H3 n (2^i) D E ((EV (E8 n) w).map (· * (O:Rat))) (FL n 0 1))/((D:Rat)^(2^i+2^i-1)*((E:Rat)*(O:Rat))):=by
  have:=hval (FL n 0 1)
  rw[Rat.zero_add,Rat.zero_add,this,show (FL n 0 1).l=1 from rfl,Rat.one_mul];rfl
 have br:H8 n (2^i) w=w8 (λ s=>s.l*CJ (s.g.getD w 0)) (DK n n.nodes.length)+w8 (λ s=>s.l*H3 n (2^i) D E ((EV (E8 n) w).map (· * (O:Rat))) s) (DK n n.nodes.length)/((D:Rat)^(2^i+2^i-1)*((E:Rat)*(O:Rat))):=by
  rw[Zh];exact Zg λ s _=>(hval s).symm
 have Li:=OZ Ap;have Lj:=OZ Fq;have Lk:=OZ o1;rw[mo,jj]at hK ⊢;rw[Aj]at nc;clear Aj mo jj o1 o2 o3 hval;generalize hp:2^i=p at *;generalize (D:Rat)=D at *;generalize (E:Rat)=E at *;generalize (O:Rat)=O at *;have Ge:=λ q=>U8 N.tol7 q (EV (E8 n) w) O 40000 160000 ji bO (by omega) (by omega) (by omega)
 have Gw:((EV (E8 n) w).map (· * O)).length=S:=by rw[List.length_map,ta,hS]
 generalize hcd:(EV (E8 n) w).map (· * O)=cO at *;have u5 : ∀ s∈o6 n,Bt 60000000000 (H3 n p D E cO s)/\Bt 6000000000 (HT n p D E s).2:=λ s hs=>by
  have q1 : ∀ j,j<p+p->Bt (4*(200000+90000000+1)) (CJ (CE cO (C2 (aN n) s.b D E j))):=λ j hj=>OM ((Ec.dot (gu s hs j (by omega))).le (Nat.mul_le_mul_right _ (by omega)))
  have q2:=(RW ow (p+p) q1).le (Nat.mul_le_mul_right _ (show p+p<=128 by omega));have q3:Bt (4*(200000+1)) (B0 cO):=(T4 Ec).le (Nat.mul_le_mul_right _ (by omega));have q4:Bt 6000000000 (HT n p D E s).2:=(RW ow p λ j hj=>VM (gu s hs (p+j) (by omega))).le (by
   have:=Nat.mul_le_mul_right (640000+90000000+1) g1
   omega)
  exact ⟨(q2.add (q3.mul q4)).le (by omega),q4⟩
 have Kd : ∀ s∈o6 n,∀ q,Ev L 305 [.agg (HA false (B6 D (aN n)) D (p:Int) (D^(p+p-1))),.sl q (cO.map eQ),.agg (.sl true (PO (HT n p D E s).1)::IQ true (HT n p D E s).2)] (.agg (eQ (H3 n p D E cO s))):=λ s hs q =>
  nH N.tol7 false q (B6 D (aN n)) D (HT n p D E s).2 (D^(p+p-1)) (p:Int) cO (C2 (aN n) s.b D E) S (p+p) 640000 200000 90000000 6000000000 ow Ec Gw (gu s hs) (λ j=>by rw[C2,List.length_map,iC (SZ hn).l ((T5 hn s hs).bl hn),hS]) (u5 s hs).2 (by omega) (by omega) (by omega) (by omega) (by omega) (by omega)
 have ia:=T5 hn;have Ii : ∀ s∈DK n n.nodes.length,s∈o6 n:=λ s hs=>List.mem_cons_of_mem _ hs
 have Ds:=ZC n n.nodes.length;have lj:Bt 82000000 (D^(p+p-1)):=(YR ow _).le (by
  have:=Nat.mul_le_mul_right 640000 (show p+p-1<=127 by omega)
  omega)
 have gd:=F3 N.toa6 uj bO (by omega) (by omega);have il:=F3 N.toa6 lj (uj.mul bO) (by omega) (by omega);have td:Bt 84000000 (D^(p+p-1)*(E*O)):=(lj.mul (uj.mul bO)).le (by omega);have l9:D^(p+p-1)*(E*O)≠0:=by
  have yf : ∀ j:Nat,0<D^j:=λ j=>by
   induction j with
   | zero=>rw[Rat.pow_zero];decide
   | succ j ih=>rw[Rat.pow_succ];exact Rat.mul_pos ih Li
  have:=Rat.mul_pos (yf (p+p-1)) (Rat.mul_pos Lj Lk)
  grind
 have lf:=E2 N.toa6 0 (by omega);rw[show ((0:Int):Rat)=0 from rfl]at lf;have hx : ∀ s∈o6 n,s.g[((w:Nat):Int).toNat]? = some (s.g.getD w 0):=λ s hs=>by
  have h1:=(ia s hs).gl;obtain ⟨x,hx⟩ : ∃ x,s.g[w]? = some x:=⟨_,zE (by omega)⟩;rw[X3 hx];exact hx
 have Dj:=λ(s:CI) (hs:s∈o6 n)=>U4 N.tov9 (VI (ia s hs).gb w) (by omega)
 have Kj:=λ(s:CI) (hs:s∈o6 n)=>F3 N.toa6 (ia s hs).lb (OM (VI (ia s hs).gb w)) (by omega) (by omega)
 have Ki:=λ(s:CI) (hs:s∈o6 n)=>F3 N.toa6 (ia s hs).lb (u5 s hs).1 (by omega) (by omega)
 have oz : ∀ s∈o6 n,Bt 40001 (s.l*CJ (s.g.getD w 0)):=λ s hs=>((ia s hs).lb.mul (OM (VI (ia s hs).gb w))).le (by omega)
 have Bf : ∀ s∈o6 n,Bt 60000000001 (s.l*H3 n p D E cO s):=λ s hs=>((ia s hs).lb.mul (u5 s hs).1).le (by omega)
 have Ak:=λ(s:CI) (hs:s∈o6 n)=>HD N.toa6 (Bt.zero 1) (oz s hs) (by omega) (by omega)
 have Am:=λ(s:CI) (hs:s∈o6 n)=>HD N.toa6 (Bt.zero 1) (Bf s hs) (by omega) (by omega)
 have Gt : ∀ t,Bt 300000 (w8 (λ s=>s.l*CJ (s.g.getD w 0)) ((DK n n.nodes.length).take t)):=λ t=>(qH λ s hs=>oz s (Ii s (List.mem_of_mem_take hs))).le (by
  have:=Nat.mul_le_mul_right (40001+1) (show ((DK n n.nodes.length).take t).length<=5 by rw[List.length_take];omega)
  omega)
 have Gu : ∀ t,Bt 301000000000 (w8 (λ s=>s.l*H3 n p D E cO s) ((DK n n.nodes.length).take t)):=λ t=>(qH λ s hs=>Bf s (Ii s (List.mem_of_mem_take hs))).le (by
  have:=Nat.mul_le_mul_right (60000000001+1) (show ((DK n n.nodes.length).take t).length<=5 by rw[List.length_take];omega)
  omega)
 have Al:=λ(s:CI) (hs:s∈o6 n) (t:Nat)=>HD N.toa6 (Gt t) (oz s hs) (by omega) (by omega)
 have An:=λ(s:CI) (hs:s∈o6 n) (t:Nat)=>HD N.toa6 (Gu t) (Bf s hs) (by omega) (by omega)
 have oc:FL n 0 1∈o6 n:=List.mem_cons_self;have tn:(o6 n)[(0:Int).toNat]? = some (FL n 0 1):=rfl;have Hy : ∀ (t:Nat) (s:CI),(DK n n.nodes.length)[t]? = some s->(o6 n)[((t+1:Nat):Int).toNat]? = some s:=λ t s h=>h
 have hsl:(o6 n).length=(DK n n.nodes.length).length+1:=rfl;have hF0:=λ l=>(rfl:w8 (λ s=>s.l*CJ (s.g.getD w 0)) (List.take 0 l)=0)
 have Fu:=λ l=>(rfl:w8 (λ s=>s.l*H3 n p D E cO s) (List.take 0 l)=0)
 have hFt:=λ(t:Nat) (s:CI) (h:(DK n n.nodes.length)[t]? = some s)=>YA (f:=λ s=>s.l*CJ (s.g.getD w 0)) h
 have Fw:=λ(t:Nat) (s:CI) (h:(DK n n.nodes.length)[t]? = some s)=>YA (f:=λ s=>s.l*H3 n p D E cO s) h
 have ni:=(Bt.zero 1).add (oz _ oc);have Et:=(Bt.zero 1).add (Bf _ oc);have Ft:=Gt (DK n n.nodes.length).length;have Dl:=Gu (DK n n.nodes.length).length;have Aq:=XV N.toa6 Et td (by omega) (by omega) l9;have si:=HD N.toa6 ni (Et.na td) (by omega) (by omega);have vz:=XV N.toa6 Dl td (by omega) (by omega) l9;have sj:=HD N.toa6 Ft (Dl.na td) (by omega) (by omega);have Fm:=(ni.add (Et.na td)).le (show _<=400000000000 by omega);have Dk:=(Ft.add (Dl.na td)).le (show _<=400000000000 by omega);rw[List.take_length]at vz sj Dk;rw[<-Iw]at Fm si;rw[<-br]at Dk sj;have Fx:=hK Fm Dk;obtain ⟨xa,Iy⟩ : ∃ xa:CI->Rat,∀ s,xa s=CJ (s.g.getD w 0):=⟨_,λ_=>rfl⟩;obtain ⟨xm,zz⟩ : ∃ xm:CI->Rat,∀ s,xm s=s.l*CJ (s.g.getD w 0):=⟨_,λ_=>rfl⟩;obtain ⟨ga,Hg⟩ : ∃ ga:CI->Rat,∀ s,ga s=H3 n p D E cO s:=⟨_,λ_=>rfl⟩;obtain ⟨gm,Ef⟩ : ∃ gm:CI->Rat,∀ s,gm s=s.l*H3 n p D E cO s:=⟨_,λ_=>rfl⟩;obtain ⟨F,hF⟩ : ∃ F:Nat->Rat,∀ t,F t=w8 (λ s=>s.l*CJ (s.g.getD w 0)) ((DK n n.nodes.length).take t):=⟨_,λ_=>rfl⟩;obtain ⟨G,hG⟩ : ∃ G:Nat->Rat,∀ t,G t=w8 (λ s=>s.l*H3 n p D E cO s) ((DK n n.nodes.length).take t):=⟨_,λ_=>rfl⟩;have e1 : ∀ s∈o6 n,Ev L 256 [.agg (eQ (s.g.getD w 0))] (.agg (eQ (xa s))):=λ s hs=>by rw[Iy];exact Dj s hs
 have e2 : ∀ s∈o6 n,Ev L 99 [.agg (eQ s.l),.agg (eQ (xa s))] (.agg (eQ (xm s))):=λ s hs=>by rw[Iy,zz];exact Kj s hs
 have e4 : ∀ s∈o6 n,∀ q,Ev L 305 [.agg (HA false (B6 D (aN n)) D (p:Int) (D^(p+p-1))),.sl q (cO.map eQ),.agg (.sl true (PO (HT n p D E s).1)::IQ true (HT n p D E s).2)] (.agg (eQ (ga s))):=λ s hs q=>by rw[Hg];exact Kd s hs q
 have e5 : ∀ s∈o6 n,Ev L 99 [.agg (eQ s.l),.agg (eQ (ga s))] (.agg (eQ (gm s))):=λ s hs=>by rw[Hg,Ef];exact Ki s hs
 have e3 : ∀ s∈o6 n,∀ t,(DK n n.nodes.length)[t]? = some s->Ev L 98 [.agg (eQ (F t)),.agg (eQ (xm s))] (.agg (eQ (F (t+1)))):=λ s hs t h=>by
  rw[hF,hF,zz,YA h];exact Al s hs t
 have e6 : ∀ s∈o6 n,∀ t,(DK n n.nodes.length)[t]? = some s->Ev L 98 [.agg (eQ (G t)),.agg (eQ (gm s))] (.agg (eQ (G (t+1)))):=λ s hs t h=>by
  rw[hG,hG,Ef,YA h];exact An s hs t
 have z3:=Ak _ oc;have z6:=Am _ oc;rw[<-zz]at z3 si;rw[<-Ef]at z6 Aq si;have Ar:F (DK n n.nodes.length).length=w8 (λ s=>s.l*CJ (s.g.getD w 0)) (DK n n.nodes.length):=by rw[hF,List.take_length]
 have wh:G (DK n n.nodes.length).length=w8 (λ s=>s.l*H3 n p D E cO s) (DK n n.nodes.length):=by rw[hG,List.take_length]
 rw[<-Ar,<-wh]at sj;rw[<-wh]at vz;have Fs:F 0=0:=by rw[hF];rfl
 have Fv:G 0=0:=by rw[hG];rfl
 clear hK Fm Dk Gt Gu oz Bf u5 ni Et Ft Dl Iw br gu Ec ji ow uj Fo td lj bO Dj Kj Ki Al An Kd Ak Am hF hG Iy zz Hg Ef hF0 Fu hFt Fw Ar wh l9 Li Lj Lk;obtain ⟨P,hP⟩ : ∃ P:CI->List (List Rat) × Rat,P=HT n p D E:=⟨_,rfl⟩;rw[<-hP]at e4;unfold TN at Fx ⊢;rw[<-hP]at Fx ⊢;clear hP;generalize 0+xm (FL n 0 1)=r0 at *;generalize 0+gm (FL n 0 1)=w0 at *;generalize D^(p+p-1)*(E*O)=dv at *;generalize w0/dv=q0 at *;generalize G (DK n n.nodes.length).length/dv=q1 at *;generalize E*O=EO at *;generalize JW n p w=ra at *;generalize H8 n p w=rb at *;generalize D^(p+p-1)=la at *;generalize hTT:DK n n.nodes.length=T at *;generalize hSS:o6 n=SS at *;generalize FL n 0 1=s0 at *;generalize EV (E8 n) w=cw at *;clear ia hcd xq;refine ZS ?_;rcases hX with ⟨rfl,rfl⟩|⟨rfl,rfl⟩
 all_goals
  refine FC 1000 N.ME rfl rfl ?_;(repeat' (apply AE<;>conv=>whnf))
  refine PI (λ_=>rfl) rfl n6.symm ?_;(conv=>whnf)
  (repeat' ((first|refine FF rfl ?_|refine AD (Dn _ _) ?_|refine AD (nc _) ?_|refine AD (Ge _) ?_|refine AD (gd) ?_|refine AD (il) ?_|refine AD (lf) ?_)<;>conv=>whnf))
  refine FB ?_;(repeat' ((first|(apply AG<;>intro hc<;>try (exfalso;omega))|(apply A3;omega)|(refine iN ?_ (λ_=>rfl) (λ v hv => ?_);omega)|apply AE)<;>conv=>whnf))
  cases tn.symm.trans hv;have fv:=hx _ oc;have f1:=e1 _ oc;have f2:=e2 _ oc;have f4:=e4 _ oc;have f5:=e5 _ oc;(repeat' ((first|(apply A3;omega)|(apply AR;omega)|(refine BC (by assumption) ?_ rfl ?_;omega)|refine AD (f1) ?_|refine AD (f2) ?_|refine AD (z3) ?_|refine AD (f4 _) ?_|refine AD (f5) ?_|refine AD (z6) ?_)<;>conv=>whnf))
  clear f1 f2 f4 f5;refine CK (λ t=>T.length-t) (λ(t:Nat)=>t<=T.length) (λ t=>[(41,.int .i64 (t+1:Nat))]) (λ t=>[(354010,354010,.bx (eQ r0++eQ (F t))),(354011,354011,.bx (eQ w0++eQ (G t)))]) [] [] 0 (by rw[Fs,Fv];exact (by (conv=>whnf);exact ⟨rfl,rfl,rfl⟩)) (by omega) ?_;intro t t1 th;by_cases ht:t<T.length
  ·obtain ⟨s,hs⟩ : ∃ s,T[t]? = some s:=⟨_,zE ht⟩
   have Cj:=Hy t s hs;have fo:=Ii s (zM hs);have fv:=hx _ fo;have f1:=e1 _ fo;have f2:=e2 _ fo;have f3:=e3 _ fo t hs;have f4:=e4 _ fo;have f5:=e5 _ fo;have f6:=e6 _ fo t hs;have th':=th (t+1) (by omega) (by omega);clear th;rcases Nat.eq_zero_or_pos t with rfl|Lq
   all_goals
    (repeat' ((first|(apply AG<;>intro hc<;>try (exfalso;omega))|(apply A3;omega)|(refine ZY ?_ (λ_=>rfl) (λ v hv => ?_);omega)|apply AE)<;>conv=>whnf))
    cases Cj.symm.trans hv;(repeat' ((first|(apply A3;omega)|(apply AR;omega)|(refine BC (by assumption) ?_ rfl ?_;omega)|refine AD (f1) ?_|refine AD (f2) ?_|refine AD (f3) ?_|refine AD (f4 _) ?_|refine AD (f5) ?_|refine AD (f6) ?_)<;>conv=>whnf))
    exact BL [] (by (conv=>whnf);exact ⟨rfl,rfl,rfl⟩) th'
  have et:t=T.length:=by omega
  clear th;rw[et];(repeat' ((first|(apply AG<;>intro hc<;>try (exfalso;omega))|apply AE)<;>conv=>whnf))
  refine FB ?_;(repeat' ((first|(apply AG<;>intro hc<;>try (exfalso;omega))|(apply A3;omega)|(apply AR;omega)|apply AE|refine AD (Aq) ?_|refine AD (si) ?_)<;>conv=>whnf))
  refine FB ?_;(repeat' ((first|(apply AG<;>intro hc<;>try (exfalso;omega))|(apply A3;omega)|(apply AR;omega)|apply AE|refine AD (vz) ?_|refine AD (sj) ?_)<;>conv=>whnf))
  refine FB ?_;(repeat' ((first|(apply AG<;>intro hc<;>try (exfalso;omega))|(apply A3;omega)|apply AE)<;>conv=>whnf))
  refine ⟨rfl,?_⟩;(conv=>whnf)
  refine ⟨_,?_,Fx⟩;first|exact ⟨rfl,rfl,rfl,rfl,rfl,rfl,rfl,trivial⟩|exact ⟨rfl,rfl,rfl,rfl,rfl,rfl,rfl,rfl,trivial⟩
def EQ (n:Nt) (p k:Nat) (x:Int):Rat:=JW n p (1+n.s.toNat+k)*(x:Rat)+H8 n p (1+n.s.toNat+k)
theorem jS {n:Nt} {p k:Nat} {x y:Int} (h:x<=y):EQ n p k x<=EQ n p k y:=by
 have h1:=Afn n p (1+n.s.toNat+k);have h2:(x:Rat)<=(y:Rat):=Rat.intCast_le_intCast.2 h;have:=Rat.mul_le_mul_of_nonneg_left h2 h1
 rw[EQ,EQ];grind
def jB (n:Nt):Prop := ∀ j,j<=6->GD (DF n.s.toNat (aN n) j)=false
theorem dD {w:Wd} (h:WV w):0<=E3 w/\E3 w<=8388607:=by
 rw[E3,if_pos h];unfold WV at h;have h1:=JI (n:=w.b-1) (m:=23) (by omega);have h2:=GF (w.b-1);have h3:pw 23=8388608:=by unfold pw;rfl
 omega
theorem Qf (I:j4 L) (N:o0 L) (n:Nt) (hn:EB n) (x:Int) (hx:0<=x/\x<=E3 n.d) :
  ∃ v,Ev L 357 [.agg (D9 n),.int .i64 x] v/\((∃ i,i<=6/\KS n.s.toNat (aN n) i/\v = .g8 [.bool (decide (∀ k,k<n.nodes.length->EQ n (2^i) k x<=(E3 n.d:Rat))),.int .i64 0])\/(jB n/\v = .g8 [.bool false,.int .i64 14])):=by
 obtain ⟨Cy,_,⟨nx,_⟩,_⟩:=(GN n).1 hn.oh;have Hj:=dD Cy;have j9:=hn.st;have ke:=hn.nl;have hU:=nZ I N n hn;have hH:=cA n.d I;generalize hhe:E3 n.d=hi at *;have Fz:=E2 N.toa6 hi (by omega);refine Ev.xE N.L9 rfl rfl ?_;(repeat' ((first|(apply AG<;>intro hc<;>try (exfalso;omega))|apply AE|refine AD (hU) ?_|refine AD (hH) ?_)<;>conv=>whnf))
 refine UF [2] [(2,2,.bx (D9 n))] ⟨rfl,trivial⟩ rfl (jV I N 2 2 (Or.inr rfl) n hn _ (λ i i1 i2 => ?_) (λ ym => ?_))
 ·obtain ⟨g1,_,g3⟩:=R8 i1
  have xb:=λ(k:Nat) (hk:k<n.nodes.length) (K:AV->Mem->Prop) hK=>jW N n hn i i1 (1+n.s.toNat+k) (by omega) [(1,2,.bx (D9 n))] [1] 2 0 (Or.inl ⟨rfl,rfl⟩) K hK
  have Eb : ∀ k,EQ n (2^i) k x=JW n (2^i) (1+n.s.toNat+k)*(x:Rat)+H8 n (2^i) (1+n.s.toNat+k):=λ_=>rfl
  have jg:=Bt.ofInt (show x.natAbs<=2^24 by have:(2:Nat)^24=16777216:=rfl;omega);have Ea:=Bt.ofInt (show hi.natAbs<=2^24 by have:(2:Nat)^24=16777216:=rfl;omega);(repeat' ((first|(apply AG<;>intro hc<;>try (exfalso;omega))|apply AY)<;>conv=>whnf))
  refine BL (w9:=[(34,.int .i64 0),(33,.int .i64 (n.nodes.length:Nat)),(7,.fn false 354 (L.num 354) [.ptr 356004 0 0 0,.ptr 356009 0 0 0,.ptr 356014 0 0 0,.ptr 356011 0 0 0]),(6,.int .i64 hi),(2,.ptr 1 0 0 0),(1,.int .i64 x)]) (M':=(1,2,.bx (D9 n))::TN n (2^i) (F7 (aN n).flatten) (S6 n)) [(1,2)] (by (conv=>whnf);exact ⟨rfl,rfl,rfl⟩) ?_;refine CK (λ k=>n.nodes.length-k) (λ(k:Nat)=>k<=n.nodes.length /\ ∀ j,j<k->EQ n (2^i) j x<=(hi:Rat)) (λ k=>[(34,.int .i64 k)]) (λ_=>[]) [] [] 0 (by (conv=>whnf);exact ⟨rfl,rfl,rfl⟩) ⟨by omega,by omega⟩ ?_;intro k ⟨k1,k2⟩ kh;by_cases hk:k<n.nodes.length
  ·(repeat' ((first|(apply AG<;>intro hc<;>try (exfalso;omega))|(apply A3;omega)|(apply AR;omega)|apply AE)<;>conv=>whnf))
   rw[show (1+n.s+(k:Int))=((1+n.s.toNat+k:Nat):Int) by omega];refine UF _ _ ?_ ?_ (xb k hk _ ?_)
   ·exact ⟨rfl,rfl,rfl,rfl,rfl,rfl,rfl,trivial⟩
   ·rfl
   intro b1 b2;have Ao:=mQ N (JW n (2^i) (1+n.s.toNat+k)) (H8 n (2^i) (1+n.s.toNat+k)) x 400000000000 b1 b2 (by omega) (by have:(2:Nat)^24=16777216:=rfl;omega);rw[<-Eb]at Ao;have ko:=TC N.too4 (x:=EQ n (2^i) k x) ((b1.mul jg).add b2) Ea (by omega) (by omega);have od:=SC (x:=EQ n (2^i) k x) (y:=(hi:Rat));generalize JW n (2^i) (1+n.s.toNat+k)=ra at *;generalize H8 n (2^i) (1+n.s.toNat+k)=rb at *;generalize q9 (EQ n (2^i) k x-(hi:Rat)).num=sg at *;(conv=>whnf)
   (repeat' ((first|(apply AG<;>intro hc<;>try (exfalso;omega))|(apply AR;omega)|refine AD (Ao) ?_|refine AD (Fz) ?_|refine AD (ko) ?_)<;>conv=>whnf))
   ·refine ⟨_,AW rfl (by simp [A4,CB]),Or.inl ⟨i,i1,i2,?_⟩⟩
    rw[decide_eq_false];intro h;have h1:=h k hk;have h2:=od.1 hc;grind
   ·have hle:EQ n (2^i) k x<=(hi:Rat):=Rat.not_lt.1 λ h=>by have:=od.2 h;omega
    exact BO [] (kh (k+1) (by omega) ⟨by omega,λ j hj=>by
     by_cases e:j=k
     ·rw[e];exact hle
     ·exact k2 j (by omega)⟩)
  have ek:k=n.nodes.length:=by omega
  clear kh;rw[ek]at k2 ⊢;(repeat' ((first|(apply AG<;>intro hc<;>try (exfalso;omega))|apply AE)<;>conv=>whnf))
  refine ⟨_,AW rfl (by simp [A4,CB]),Or.inl ⟨i,i1,i2,?_⟩⟩;rw[decide_eq_true k2]
 ·(repeat' ((first|(apply AG<;>intro hc<;>try (exfalso;omega))|fail)<;>conv=>whnf))
  exact ⟨_,AW rfl (by simp [A4,CB,EN]),Or.inr ⟨ym,rfl⟩⟩
def iO (n:Nt) (i:Nat) (v:AV):Prop:=(∃ m:Int,0<=m/\m<=E3 n.d/\v = .g8 [.int .i64 m,.int .i64 0] /\ ∀ x:Int,0<=x->x<=E3 n.d->(x<=m ↔ ∀ k,k<n.nodes.length->EQ n (2^i) k x<=(E3 n.d:Rat)))\/(∃ k,k<n.nodes.length/\(E3 n.d:Rat)<H8 n (2^i) (1+n.s.toNat+k)/\v = .g8 [.int .i64 0,.int .i64 18])
theorem Qd (I:j4 L) (N:o0 L) (n:Nt) (hn:EB n) :
  ∃ v,Ev L 358 [.agg (D9 n)] v/\((∃ i,i<=6/\KS n.s.toNat (aN n) i/\iO n i v)\/(jB n/\v = .g8 [.int .i64 0,.int .i64 14])):=by
 obtain ⟨Cy,_,⟨nx,_⟩,_⟩:=(GN n).1 hn.oh;have Hj:=dD Cy;have j9:=hn.st;have ke:=hn.nl;have hU:=nZ I N n hn;have hH:=cA n.d I;unfold iO;generalize hhe:E3 n.d=hi at *;have Fz:=E2 N.toa6 hi (by omega);have Ea:=Bt.ofInt (show hi.natAbs<=2^24 by have:(2:Nat)^24=16777216:=rfl;omega);refine Ev.xE N.L8 rfl rfl ?_;(repeat' ((first|apply AE|refine AD (hU) ?_)<;>conv=>whnf))
 refine UF [1] [(1,1,.bx (D9 n))] ⟨rfl,trivial⟩ rfl (jV I N 1 1 (Or.inl rfl) n hn _ (λ i i1 i2 => ?_) (λ ym => ?_))
 ·obtain ⟨g1,_,g3⟩:=R8 i1
  have xb:=λ(k:Nat) (hk:k<n.nodes.length) (K:AV->Mem->Prop) hK=>jW N n hn i i1 (1+n.s.toNat+k) (by omega) [(1,1,.bx (D9 n)),(6,6,.bx (eQ (hi:Rat)))] [1,6] 1 (hi:Rat) (Or.inr ⟨rfl,rfl⟩) K hK
  have Eb : ∀ k x,EQ n (2^i) k x=JW n (2^i) (1+n.s.toNat+k)*(x:Rat)+H8 n (2^i) (1+n.s.toNat+k):=λ_ _=>rfl
  have ni : ∀ k,EQ n (2^i) k 0=H8 n (2^i) (1+n.s.toNat+k):=λ k=>by rw[Eb,show ((0:Int):Rat)=0 from rfl,Rat.mul_zero,Rat.zero_add]
  have zp : ∀ k (x y:Int),x<=y->EQ n (2^i) k x<=EQ n (2^i) k y:=λ k x y h=>jS h
  (repeat' ((first|(apply AG<;>intro hc<;>try (exfalso;omega))|apply AY|refine AD (hH) ?_|refine AD (Fz) ?_)<;>conv=>whnf))
  refine EX (λ k _=>n.nodes.length-k) (λ(k:Nat) (m:Int)=>k<=n.nodes.length/\0<=m/\m<=hi /\ ∀ x:Int,0<=x->x<=hi->(x<=m ↔ ∀ j,j<k->EQ n (2^i) j x<=(hi:Rat))) (λ k m=>[(33,.int .i64 k),(7,.int .i64 m)]) (λ_ _=>[]) [] [] 0 hi (by (conv=>whnf);exact ⟨rfl,rfl,rfl⟩) ⟨by omega,by omega,by omega,λ x _ h=>⟨λ_ j hj=>absurd hj (by omega),λ_=>h⟩⟩ ?_;intro k m ⟨k1,m0,m1,k2⟩ kh;by_cases hk:k<n.nodes.length
  ·(repeat' ((first|(apply AG<;>intro hc<;>try (exfalso;omega))|(apply A3;omega)|(apply AR;omega)|apply AE)<;>conv=>whnf))
   rw[show (1+n.s+(k:Int))=((1+n.s.toNat+k:Nat):Int) by omega];refine UF _ _ ?_ ?_ (xb k hk _ ?_)
   ·exact ⟨rfl,rfl,rfl,rfl,rfl,rfl,rfl,rfl,trivial⟩
   ·rfl
   intro b1 b2;have Ao:=λ(x:Int) (hx:x.natAbs<=2^24)=>mQ N (JW n (2^i) (1+n.s.toNat+k)) (H8 n (2^i) (1+n.s.toNat+k)) x 400000000000 b1 b2 (by omega) hx
   have hCr:=TC N.too4 b2 Ea (by omega) (by omega);have ve:=SC (x:=H8 n (2^i) (1+n.s.toNat+k)) (y:=(hi:Rat));have ko:=λ(x:Int) (hx:x.natAbs<=2^24)=>TC N.too4 (x:=EQ n (2^i) k x) ((b1.mul (Bt.ofInt hx)).add b2) Ea (by omega) (by omega)
   have od:=λ x:Int=>SC (x:=EQ n (2^i) k x) (y:=(hi:Rat))
   have Jy : ∀ x:Int,x.natAbs<=2^24->Ev L 353 [.agg (eQ (JW n (2^i) (1+n.s.toNat+k))++eQ (H8 n (2^i) (1+n.s.toNat+k))),.int .i64 x] (.agg (eQ (EQ n (2^i) k x))):=Ao;have Bc:=ni k;have yb:=zp k;generalize Kx:(λ x=>EQ n (2^i) k x)=bf at *;have oz : ∀ x,EQ n (2^i) k x=bf x:=λ x=>by rw[<-Kx]
   simp only[oz]at Jy ko od Bc yb;clear Ao Eb ni zp;generalize Lm:JW n (2^i) (1+n.s.toNat+k)=ra at *;generalize Cm:H8 n (2^i) (1+n.s.toNat+k)=rb at *;generalize Ai7:q9 (rb-(hi:Rat)).num=sr at *;(conv=>whnf)
   (repeat' ((first|(apply AG<;>intro hc<;>try (exfalso;omega))|refine AD (hCr) ?_)<;>conv=>whnf))
   ·refine ⟨_,AW rfl (by simp [A4,CB]),Or.inl ⟨i,i1,i2,Or.inr ⟨k,hk,?_,rfl⟩⟩⟩
    rw[Cm];exact ve.1 hc
   ·have lq:rb<=(hi:Rat):=Rat.not_lt.1 λ h=>by have:=ve.2 h;omega
    refine EX (λ lo m'=>(m'-lo).toNat) (λ(lo m':Int)=>0<=lo/\lo<=m'/\m'<=m/\bf lo<=(hi:Rat) /\ ∀ x:Int,m'<x->x<=m -> ¬ bf x<=(hi:Rat)) (λ lo m'=>[(10,.int .i64 lo),(7,.int .i64 m')]) (λ_ _=>[]) [] [] 0 m (by (conv=>whnf);exact ⟨rfl,rfl,rfl⟩) ⟨by omega,by omega,by omega,by rw[Bc];exact lq,λ x h1 h2=>absurd h1 (by omega)⟩ ?_;intro lo m' ⟨l0,l1,l2,l3,l4⟩ lh;by_cases hlm:lo<m'
    ·obtain ⟨md,xy⟩ : ∃ md:Int,md=(lo+m'+1)/2:=⟨_,rfl⟩
     have iw:lo<md/\md<=m':=by omega
     have h3:=Jy md (by have:(2:Nat)^24=16777216:=rfl;omega);have h4:=ko md (by have:(2:Nat)^24=16777216:=rfl;omega);have h5:=od md;generalize q9 (bf md-(hi:Rat)).num=sm at *;(repeat' ((first|(apply AG<;>intro hc<;>try (exfalso;omega))|(apply AR;omega)|(refine KA ?_ ?_ (λ_ => ?_) (λ_ _ => ?_);omega;omega;all_goals try (exfalso;omega))|apply AE)<;>conv=>whnf))
     rw[<-xy];(repeat' ((first|(apply AG<;>intro hc<;>try (exfalso;omega))|(apply BM;omega)|refine AD (h3) ?_|refine AD (h4) ?_)<;>conv=>whnf))
     ·have gk:=h5.1 hc
      exact BO [] (lh lo (md-1) (by omega) ⟨by omega,by omega,by omega,l3,λ x q1 q2 q3=>by
       have:=yb md x (by omega)
       grind⟩)
     ·have hle:bf md<=(hi:Rat):=Rat.not_lt.1 λ h=>by have:=h5.2 h;omega
      exact BO [] (lh md m' (by omega) ⟨by omega,by omega,by omega,hle,l4⟩)
    have el:lo=m':=by omega
    clear lh;subst el;have ew : ∀ x:Int,0<=x->x<=hi->(x<=lo ↔ ∀ j,j<k+1->EQ n (2^i) j x<=(hi:Rat)):=λ x x0 x1=>by
     refine ⟨λ h j hj => ?_,λ h=>Int.not_lt.1 λ k6 => ?_⟩
     ·by_cases e:j=k
      ·rw[e,oz]
       have:=yb x lo h
       grind
      ·exact (k2 x x0 x1).1 (by omega) j (by omega)
     ·have h1:=(k2 x x0 x1).2 λ j hj=>h j (by omega)
      have h2:=h k (by omega);rw[oz]at h2;exact l4 x k6 h1 h2
    (repeat' ((first|(apply AG<;>intro hc<;>try (exfalso;omega))|(apply AR;omega)|apply AE)<;>conv=>whnf))
    exact BO [] (kh (k+1) lo (by omega) ⟨by omega,by omega,by omega,ew⟩)
  have ek:k=n.nodes.length:=by omega
  clear kh;rw[ek]at k2 ⊢;(repeat' ((first|(apply AG<;>intro hc<;>try (exfalso;omega))|apply AE)<;>conv=>whnf))
  exact ⟨_,AW rfl (by simp [A4,CB]),Or.inl ⟨i,i1,i2,Or.inl ⟨m,m0,m1,rfl,k2⟩⟩⟩
 ·(repeat' ((first|(apply AG<;>intro hc<;>try (exfalso;omega))|fail)<;>conv=>whnf))
  exact ⟨_,AW rfl (by simp [A4,CB]),Or.inr ⟨ym,rfl⟩⟩
theorem Bt.ngK {k:Nat} {x:Rat} (h:Bt k x):Bt k (-x):=⟨by simpa using h.1,by simpa using h.2⟩
theorem Wx:Bt 4 (Rat.divInt 1 2):=(Bt.mk (k:=4) (z:=1) (d:=2) (by decide) (by decide))
theorem Uf (N:dn L):Ev L 318 [] (.bool true):=by
 have A:o4 L:=N.tol7.tov9.too4;have hO:=nS A.toc8 1 (by omega);have hO2:=nS A.toc8 2 (by omega);have hF:=Tj A.toc8 1 2 (by omega) (by omega);have hh:=Wx;have l9 : -(Rat.divInt 1 2)≠0:=by decide
 have Bj:GD (DF 1 [[Rat.divInt 1 2]] 0)=true:=by decide +kernel
 have hval:KQ ⟨[[Rat.divInt 1 2]],[1],[Rat.divInt 1 2],1⟩ (2^0)=((2:Int):Rat):=by decide +kernel
 generalize Rat.divInt 1 2=h at *;have hN:=Ur A.todp hh (by omega);have hA:Bs 4 [1,-h]:=λ x hx=>by
  rcases List.mem_cons.1 hx with rfl|hx
  ·exact Bt.one 4
  ·obtain rfl:=List.mem_singleton.1 hx
   exact hh.ngK
 have hB:Bs 4 [(1:Rat)]:=λ x hx=>by
  obtain rfl:=List.mem_singleton.1 hx;exact Bt.one 4
 have tB:O9 [(1:Rat)]=[1]:=by decide
 have tA:O9 [1,-h]=[1,-h]:=by
  show List.take (if -h=0 then _ else 2) [1,-h]=_;rw[if_neg l9];rfl
 have hC:=Qb A true true [1] [1,-h] 1 4 tB tA hB hA (by simp) (by simp) rfl rfl (by omega);have j6:(⟨[[h]],[1],[h],1⟩:IH).Ok 1 80:=by
  refine ⟨rfl,λ r hr=>by obtain rfl:=List.mem_singleton.1 hr;rfl,rfl,rfl,λ r hr => ?_,hB.le (by omega),λ x hx => ?_,Bt.one 80⟩
  ·obtain rfl:=List.mem_singleton.1 hr
   intro x hx;obtain rfl:=List.mem_singleton.1 hx;exact hh.le (by omega)
  ·obtain rfl:=List.mem_singleton.1 hx
   exact hh.le (by omega)
 have e:E9 [1] [1,-h] 1=⟨[[h]],[1],[h],1⟩:=by
  have:E9 [1] [1,-h] 1=⟨[[- -h]],[1],[0-1 * -h],1⟩:=rfl
  rw[this,Rat.neg_neg,show 0-1 * -h=h by grind]
 rw[e]at hC;obtain ⟨v,hS,hv⟩:=Sy N.tol7 ⟨[[h]],[1],[h],1⟩ 1 80 j6 (by omega) (by omega);rcases hv with ⟨i,_,h2,rfl⟩|⟨h1,rfl⟩
 ·obtain rfl:i=0:=h2.uniq ⟨Bj,λ j hj=>absurd hj (by omega)⟩
  rw[hval]at hS;have Js:Bt 2 ((2:Int):Rat):=⟨by decide,by decide⟩;have ko:=Tv A.toc8 Js Js (by omega) (by omega);rw[sT.2 rfl]at ko;refine Ev.x N.LL rfl rfl ?_;(repeat' ((first|(apply AG<;>intro hc<;>try (exfalso;omega))|refine FF rfl ?_|refine I9 rfl rfl ?_|apply AE|refine AD (hO) ?_|refine AD (hF) ?_|refine AD (hN) ?_|refine AD (hC) ?_|refine AD (hS) ?_|refine AD (hO2) ?_|refine AD (ko) ?_)<;>conv=>whnf))
  exact G7 rfl
 ·have:=h1 0 (by omega)
  rw[Bj]at this;cases this
theorem Ui (I:j4 L) (W:o5 L) (N:ja L) (kd dk ck:Int) (h0:EJ kd) (h1:EJ dk) (h2:EJ ck) (b a:List Int) (q1 q2:Bool) (lb:b.length<9223372036854775808) (la:a.length<9223372036854775808) (df : ∀ v∈a,EJ v) (x:Int) (hx:EJ x) :
  Ev L 359 [.agg [.int .i64 kd,.int .i64 dk,.int .i64 ck,.sl q1 (b.map CQ),.sl q2 (a.map CQ)],.int .i64 x] (.bool true):=by
 have Ej:=Uf N.todn;obtain ⟨n,hn,hP⟩:=Qe I W N.toy7 kd dk ck h0 h1 h2 b a q1 q2 lb la df;obtain ⟨Cy,_⟩:=(GN n).1 hn.oh;have Hj:=dD Cy;have hH:=Tp n.d I;have Dx:=RQ W x (E3 n.d+1) hx (by omega);obtain ⟨g1,g2⟩:=PA (v:=x) (m:=E3 n.d+1) (by omega);generalize DC x (E3 n.d+1)=y at *;obtain ⟨v,hL,hv⟩:=Qd I N.too0 n hn;obtain ⟨w,hS,hw⟩:=Qf I N.too0 n hn y (by omega);refine Ev.x N.LK rfl rfl ?_;rcases hv with ⟨i,i1,i2,hv⟩|⟨ym,rfl⟩
 ·have hw:w = .g8 [.bool (decide (∀ k,k<n.nodes.length->EQ n (2^i) k y<=(E3 n.d:Rat))),.int .i64 0]:=by
   rcases hw with ⟨j,j1,j2,rfl⟩|⟨ym,rfl⟩
   ·obtain rfl:=i2.uniq j2;rfl
   ·have:=ym i i1
    rw[i2.1]at this;cases this
  subst hw;rcases hv with ⟨m,m0,m1,rfl,hm⟩|⟨k,hk,hr,rfl⟩
  ·have hd:decide (∀ k,k<n.nodes.length->EQ n (2^i) k y<=(E3 n.d:Rat))=decide (y<=m):=decide_eq_decide.2 (hm y g1 (by omega)).symm
   rw[hd]at hS;by_cases hy:y<=m
   ·rw[decide_eq_true hy]at hS
    (repeat' ((first|(apply AG<;>intro hc<;>try (exfalso;omega))|(apply AR;omega)|apply AE|refine AD (hP) ?_|refine AD (hL) ?_|refine AD (hH) ?_|refine AD (Dx) ?_|refine AD (hS) ?_|refine AD (Ej) ?_)<;>conv=>whnf))
    exact G7 rfl
   ·rw[decide_eq_false hy]at hS
    (repeat' ((first|(apply AG<;>intro hc<;>try (exfalso;omega))|(apply AR;omega)|apply AE|refine AD (hP) ?_|refine AD (hL) ?_|refine AD (hH) ?_|refine AD (Dx) ?_|refine AD (hS) ?_|refine AD (Ej) ?_)<;>conv=>whnf))
    exact G7 rfl
  ·have hd:decide (∀ k,k<n.nodes.length->EQ n (2^i) k y<=(E3 n.d:Rat))=false:=decide_eq_false λ h=>by
    have h1:=h k hk;have h2:=jS (n:=n) (p:=2^i) (k:=k) g1;rw[show EQ n (2^i) k 0=H8 n (2^i) (1+n.s.toNat+k) by rw[EQ,show ((0:Int):Rat)=0 from rfl,Rat.mul_zero,Rat.zero_add]]at h2;grind
   rw[hd]at hS;(repeat' ((first|(apply AG<;>intro hc<;>try (exfalso;omega))|(apply AR;omega)|apply AE|refine AD (hP) ?_|refine AD (hL) ?_|refine AD (hH) ?_|refine AD (Dx) ?_|refine AD (hS) ?_|refine AD (Ej) ?_)<;>conv=>whnf))
   exact G7 rfl
 ·have hw:w = .g8 [.bool false,.int .i64 14]:=by
   rcases hw with ⟨j,j1,j2,rfl⟩|⟨_,rfl⟩
   ·have:=ym j j1
    rw[j2.1]at this;cases this
   ·rfl
  subst hw;(repeat' ((first|(apply AG<;>intro hc<;>try (exfalso;omega))|(apply AR;omega)|apply AE|refine AD (hP) ?_|refine AD (hL) ?_|refine AD (hH) ?_|refine AD (Dx) ?_|refine AD (hS) ?_|refine AD (Ej) ?_)<;>conv=>whnf))
  exact G7 rfl
end Go.b7
namespace Go.b7
abbrev tPl:Ty := .cons tI (.cons tI (.cons tI (.cons (.sl tI) (.cons (.sl tI) .nil))))
theorem Vn {cs:List AV} (h:GU tPl cs) : ∃ (kd dk ck:Int) (b a:List Int),cs=[.int .i64 kd,.int .i64 dk,.int .i64 ck,.sl true (b.map CQ),.sl true (a.map CQ)]/\EJ kd/\EJ dk/\EJ ck/\b.length<9223372036854775808/\a.length<9223372036854775808 /\ ∀ v∈a,EJ v:=by
 obtain ⟨_,_,rfl,h1,_,_,rfl,h2,_,_,rfl,h3,_,_,rfl,h4,_,_,rfl,h5,rfl⟩:=h;obtain ⟨kd,rfl,i1⟩:=VN h1;obtain ⟨dk,rfl,i2⟩:=VN h2;obtain ⟨ck,rfl,i3⟩:=VN h3;obtain ⟨b,rfl,l4,_⟩:=pB h4;obtain ⟨a,rfl,l5,i5⟩:=pB h5;exact ⟨kd,dk,ck,b,a,rfl,i1,i2,i3,l4,l5,i5⟩
end Go.b7
