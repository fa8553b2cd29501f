/-
  Networks without rounding (layer 22): the program.
-/
import Derived.Test.YtpafclijakpknaaGreatB10
import Derived.Test.YtpafclijakpknaaGreatB9
import Derived.Test.YtpafclijakpknaaGreatB8
import Derived.Test.YtpafclijakpknaaGreatB7
import Derived.Test.YtpafclijakpknaaGreatB1
import Derived.Test.YtpafclijakpknaaGreatB2
import Derived.Test.YtpafclijakpknaaGreatB5
import Derived.ProofKit
import Derived.OpenShut
import Derived.ChangeOld
import Derived.WalkKit
import Derived.WideShapes
import Derived.ChangeArms
set_option linter.unusedSimpArgs false
set_option linter.unusedVariables false
set_option linter.unnecessarySimpa false
namespace Go.b8
open F
attribute [local irreducible] AJ A3 BU AU FE BR C1 CK DS DE FA G7 DR B2 EH E5 AL CQ BC pw FM E2 F7 G8 GX EG FK EE FZ
variable {L:Lib}
set_option maxHeartbeats 16000000
def HX (l:List Int):List Rat:=l.map λ v=>((v:Int):Rat)
def DC (n:Nt):List (List (Int × Int)):=n.nodes.map Nd.ts
def ER (n:Nt) (src ex:Int):List Rat:=GT ((pw n.c.f:Int):Rat) ex 0 (EU (1+n.s).toNat src) (DC n)
theorem gF {c:Wd} {s:Int} : ∀ {l:List Nd} {k j:Nat} {nd:Nd},JZ c s k l=true->l[j]? = some nd->nd.ts.all (I6 c s (k+j))=true
 | [],_,_,_,_,h=>by simp at h
 | e::l,k,0,nd,hb,h=>by
  simp only[List.getElem?_cons_zero,Option.some.injEq]at h;subst h;simp only[JZ,Bool.and_eq_true]at hb;exact hb.1.2
 | e::l,k,j+1,nd,hb,h=>by
  simp only[List.getElem?_cons_succ]at h;simp only[JZ,Bool.and_eq_true]at hb;rw[show k+(j+1)=k+1+j by omega];exact gF hb.2 h
theorem AgO (m p:Nat):(List.replicate m (0:Rat)).set p 1=EU m p:=by
 refine List.ext_getElem? λ j => ?_
 simp only[EU,List.getElem?_set,List.getElem?_map,List.getElem?_replicate,List.length_replicate];by_cases h:j<m
 ·rw[List.getElem?_range h]
  by_cases e:p=j
  ·subst e;simp [h]
  ·simp [h,e];intro h3;omega
 ·rw[List.getElem?_eq_none (by simpa using h)]
  simp [h];intro e;omega
theorem Bs.unit (k m:Nat) (p:Int):Bs k (EU m p):=by
 intro x hx;simp only[EU,List.mem_map]at hx;obtain ⟨a,_,rfl⟩:=hx;split
 ·exact Bt.one k
 ·exact Bt.zero k
theorem Adf (N:n7 L) (m:Nat) (hm:m<=65536):NM L 131 [.int .i64 (m:Int)] 3 ((List.replicate m (0:Rat)).map eQ):=by
 have hO:=IV N.toa5 0 (by omega);refine NM.x N.NZ rfl rfl ?_;(repeat' (apply A2<;>conv=>whnf))
 refine GJ (enc:=eO) none m rfl rfl (by omega) ?_;(conv=>whnf)
 skip
 refine G6 (λ i=>m-i) (λ(i:Nat)=>i<=m) (λ i=>[(9,.int .i64 i)]) (λ i=>[(131006,131006,.rw 3 ((GU (List.replicate i 0) m).map eO))]) [] [] 0 (by first|exact (by (conv=>whnf);exact ⟨rfl,rfl,rfl⟩)|(rw[<-QY];exact (by (conv=>whnf);exact ⟨rfl,rfl,rfl⟩))) (by omega) ?_;intro i p1 ih;by_cases hi:i<m
 ·have hl:=OU (l:=List.replicate i (0:Rat)) (m:=m) (by simp;omega)
  have hs:=PZ (l:=List.replicate i (0:Rat)) (m:=m) (x:=0) (by simp;omega);rw[List.length_replicate]at hs;(repeat' ((first|(apply A9<;>intro hc<;>try omega)|(apply B5;omega)|apply A2|refine AP (hO) ?_)<;>conv=>whnf))
  refine KS (enc:=eO) (some 0) rfl (λ e=>by cases e<;>rfl) (by omega) ?_;(conv=>whnf)
  (repeat' ((first|(apply BG;omega)|fail)<;>conv=>whnf))
  rw[hs];rw[show List.replicate i (0:Rat)++[0]=List.replicate (i+1) 0 by rw[List.replicate_succ']];exact CZ [] (ih (i+1) (by omega) (by omega))
 obtain rfl:i=m:=by omega
 clear ih;rw[QX (by simp)];(repeat' ((first|(apply A9<;>intro hc<;>try omega)|apply A2)<;>conv=>whnf))
 exact ⟨rfl,rfl,by simp,rfl,LW _⟩
theorem Am1 (N:dt L) (n:Nt) (src ex:Int) (hv:HD n=true) (cq:PU (DC n)) (eu:n.nodes.length<=5) (hs : -1<=src/\src<=n.s) (hex:GW ex):Ev L 144 [.agg (FS n),.int .i64 src,.int .i64 ex] (.sl false ((ER n src ex).map eQ)):=by
 rw[F5]at hv;obtain ⟨h1,h2,h3,h4,h5,h6⟩:=hv;have hwf:0<=n.c.f/\n.c.f<=62:=by unfold WV at h2;omega
 have hP:=IV N.toa5 (pw n.c.f) (by have:=HY n.c.f;have:=kZ hwf.2;omega);have hO:=IV N.toa5 0 (by omega);have hI:=IV N.toa5 1 (by omega);refine Ev.x N.SW rfl rfl ?_;(repeat' ((first|(apply BG;omega)|apply A2)<;>conv=>whnf))
 obtain ⟨m,hm⟩ : ∃ m:Nat,1+n.s=m:=⟨_,(Int.toNat_of_nonneg (by omega)).symm⟩;rw[hm];have hZ:=Adf N.ton7 m (by omega);refine WR (enc:=eQ) m hZ (by simp) ?_;(conv=>whnf)
 have xq:=HY n.c.f;have pe:(pw n.c.f).natAbs<=2^24:=by
  have hf:n.c.f<24:=by unfold WV at h2;omega
  have h9:(2:Nat)^n.c.f.toNat<=2^24:=Nat.pow_le_pow_right (by omega) (by omega);rw[pw];exact_mod_cast h9
 have Hd:((pw n.c.f:Int):Rat)≠0:=by
  intro e;have:pw n.c.f=0:=by exact_mod_cast e
  omega
 have l7:(DC n).length=n.nodes.length:=by simp [DC]
 have Ah : ∀ j,j<=n.nodes.length->Bs 117150 (GT ((pw n.c.f:Int):Rat) ex 0 (EU m src) ((DC n).take j)):=by
  intro j hj;have h:=oX (ex:=ex) xq pe ((DC n).take j) 0 (EU m src) ⟨λ ts h=>cq.len ts (List.mem_of_mem_take h),λ ts h=>cq.cf ts (List.mem_of_mem_take h)⟩ (Bs.unit _ _ _);have e:0+((DC n).take j).length=j:=by rw[List.length_take,l7];omega
  rw[e]at h;intro x hx;refine (h x hx).le ?_;rcases j with _|_|_|_|_|_|j
  ·decide
  ·decide
  ·decide
  ·decide
  ·decide
  ·decide
  ·omega
 have iw : ∀ j,j<=n.nodes.length->(GT ((pw n.c.f:Int):Rat) ex 0 (EU m src) ((DC n).take j)).length=m+j:=by
  intro j hj;rw[bV,Y5,List.length_take,l7];omega
 have j8:=oY ((pw n.c.f:Int):Rat) ex (EU m src) (DC n);have z0:ER n src ex=GT ((pw n.c.f:Int):Rat) ex 0 (EU m src) ((DC n).take n.nodes.length):=by
  rw[ER,hm,Int.toNat_natCast,<-l7,List.take_length]
 rw[z0];clear z0;(repeat' ((first|(apply A9<;>intro hc<;>try omega)|(refine IY ?_ (λ_ _ => ?_);omega))<;>conv=>whnf))
 obtain ⟨p,rfl⟩ : ∃ p:Nat,src=p:=⟨_,(Int.toNat_of_nonneg (by omega)).symm⟩;(repeat' ((first|(apply B5;omega)|refine AP (hI) ?_)<;>conv=>whnf))
 refine NA (enc:=eQ) p 1 (by omega) rfl (λ_=>rfl) (by simp;omega) ?_;(conv=>whnf)
 rw[AgO];rotate_left
 obtain rfl:src = -1:=by omega
 rw[<-Arm];all_goals
  (repeat' ((first|(refine IY ?_ (λ_ _ => ?_);omega)|apply BT|refine AP (hP) ?_)<;>conv=>whnf))
  generalize EU m _=w at *;refine G5 (λ j=>n.nodes.length-j) (λ(j:Nat)=>j<=n.nodes.length) (λ j=>[(34,.int .i64 j),(7,.row 19 0 3 0 (m+j:Nat))]) (λ j=>[(19,19,.rw 3 ((GT ((pw n.c.f:Int):Rat) ex 0 w ((DC n).take j)).map eQ))]) 0 (by omega) ?_;intro j p2 ih;by_cases hj:j<n.nodes.length
  ·obtain ⟨nd,hnd⟩ : ∃ nd,n.nodes[j]? = some nd:=⟨_,zE hj⟩
   have zp:n.nodes[(j:Int).toNat]? = some nd:=hnd;have fc:(DC n)[j]? = some nd.ts:=by simp [DC,hnd]
   have Ku:=Ah j p2;have ib:=iw j p2;have mg:=j8 j nd.ts fc;have Ej:=gF h4 hnd;have hL:nd.ts.length<=5:=cq.len _ (zM fc);have hC:=cq.cf _ (zM fc);generalize hV:GT ((pw n.c.f:Int):Rat) ex 0 w ((DC n).take j)=V at *;(repeat' ((first|(apply A9<;>intro hc<;>try omega)|apply BT|(refine CN (by assumption) ?_ rfl ?_;omega)|apply A2|refine AP (hO) ?_)<;>conv=>whnf))
   refine IX (λ t _=>nd.ts.length-t) (λ(t:Nat) (acc:Rat)=>t<=nd.ts.length/\acc=EX V (nd.ts.take t)) (λ t acc=>[(43,.int .i64 t)]) (λ t acc=>[(11,11,.bx (eQ acc))]) 0 (0:Rat) ⟨by omega,rfl⟩ ?_;intro t acc ⟨p3,p4⟩ jh;have mi:Bt 585900 acc:=by
    rw[p4];have a1:=Ku.sum (nd.ts.take t) (j:=24) (λ e he=>Bt.ofInt (hC e (List.mem_of_mem_take he)));refine a1.le (Nat.le_trans (zR _ (show (nd.ts.take t).length<=5 by rw[List.length_take];omega)) (by decide))
   by_cases ht:t<nd.ts.length
   ·obtain ⟨e,he⟩ : ∃ e,nd.ts[t]? = some e:=⟨_,zE ht⟩
    have jy:nd.ts[(t:Int).toNat]? = some e:=he;have Eb:=zM he;have k6:=List.all_eq_true.1 Ej e Eb;simp only[I6,decide_eq_true_eq]at k6;have Fm:=hC e Eb;obtain ⟨x,hx⟩ : ∃ x,V[e.1.toNat]? = some x:=⟨_,zE (by omega)⟩;have vj:V.getD e.1.toNat 0=x:=by rw[List.getD_eq_getElem?_getD,hx];rfl
    have vu:=Ku.at hx;have qy:=Qh (vals:=V) he;rw[vj]at qy;have Ds:=YO N.toa5 vu (by omega);have hE:=IV N.toa5 e.2 (by have:(2:Nat)^24=16777216:=rfl;omega);have hM:=LL N.toa5 (Bt.ofInt Fm) vu (by omega) (by omega);have hA:=LK N.toa5 mi ((Bt.ofInt Fm).mul vu) (by omega) (by omega);have z1:=V6 (x:=x);generalize v9 x.num=sx at *;by_cases q1:e.2=0
    ·(repeat' ((first|(apply A9<;>intro hc<;>try omega)|(apply BG;omega)|(refine CN (by assumption) ?_ rfl ?_;omega)|apply A2)<;>conv=>whnf))
     exact CZ [] (jh (t+1) acc (by omega) ⟨by omega,by rw[qy,q1,show ((0:Int):Rat)=0 from rfl,Rat.zero_mul,Rat.add_zero];exact p4⟩)
    ·by_cases q2:sx=0
     ·have oi:=z1.1 q2
      (repeat' ((first|(apply A9<;>intro hc<;>try omega)|(apply B5;omega)|(refine CN (by assumption) ?_ rfl ?_;omega)|(refine WS ?_ (λ_=>rfl) (λ v hv => ?_);omega)|apply A2)<;>conv=>whnf))
      cases hx.symm.trans hv;(repeat' ((first|(apply A9<;>intro hc<;>try omega)|(apply BG;omega)|refine AP (Ds) ?_)<;>conv=>whnf))
      exact CZ [] (jh (t+1) acc (by omega) ⟨by omega,by rw[qy,oi,Rat.mul_zero,Rat.add_zero];exact p4⟩)
     ·(repeat' ((first|(apply A9<;>intro hc<;>try omega)|(apply B5;omega)|(refine CN (by assumption) ?_ rfl ?_;omega)|(refine WS ?_ (λ_=>rfl) (λ v hv => ?_);omega)|apply A2)<;>conv=>whnf))
      cases hx.symm.trans hv;(repeat' ((first|(apply A9<;>intro hc<;>try omega)|(apply B5;omega)|(refine WS ?_ (λ_=>rfl) (λ v hv => ?_);omega)|refine AP (Ds) ?_|refine AP (hE) ?_)<;>conv=>whnf))
      cases hx.symm.trans hv;(repeat' ((first|(apply BG;omega)|refine AP (hM) ?_|refine AP (hA) ?_)<;>conv=>whnf))
      exact CZ [] (jh (t+1) (acc+((e.2:Int):Rat)*x) (by omega) ⟨by omega,by rw[qy,<-p4]⟩)
   ·obtain rfl:t=nd.ts.length:=by omega
    clear jh;rw[List.take_length]at p4;have hD:=jW N.toa5 mi (Bt.ofInt pe) (by omega) (by omega) Hd;rw[<-p4]at mg;by_cases q5:(j:Int)=ex
    ·have Dk:=LK N.toa5 (mi.yd xq pe) (Bt.ofInt (k:=0) (z:=1) (by decide)) (by omega) (by omega)
     rw[if_pos q5]at mg;(repeat' ((first|(apply A9<;>intro hc<;>try omega)|apply GY|apply A2|refine AP (hD) ?_|refine AP (hI) ?_|refine AP (Dk) ?_)<;>conv=>whnf))
     refine H8 (enc:=eQ) (acc/((pw n.c.f:Int):Rat)+((1:Int):Rat)) rfl ib.symm rfl (by omega) (by omega) ?_;rw[show ((1:Int):Rat)=1 from rfl,<-mg,iw (j+1) (by omega)];(repeat' ((first|(apply BG;omega)|fail)<;>conv=>whnf))
     exact CZ [(19,86)] (ih (j+1) (by omega) (by omega))
    ·rw[if_neg q5,Rat.add_zero]at mg
     (repeat' ((first|(apply A9<;>intro hc<;>try omega)|apply GY|apply A2|refine AP (hD) ?_)<;>conv=>whnf))
     refine H8 (enc:=eQ) (acc/((pw n.c.f:Int):Rat)) rfl ib.symm rfl (by omega) (by omega) ?_;rw[<-mg,iw (j+1) (by omega)];(repeat' ((first|(apply BG;omega)|fail)<;>conv=>whnf))
     exact CZ [(19,86)] (ih (j+1) (by omega) (by omega))
  ·obtain rfl:j=n.nodes.length:=by omega
   clear ih;(repeat' ((first|(apply A9<;>intro hc<;>try omega)|apply A2)<;>conv=>whnf))
   have ib:=iw n.nodes.length p2;refine FO (enc:=eQ) (λ_=>rfl) rfl (by omega) ?_;exact BV rfl (by simp only[B3,true_and];exact LW _)
def EN (n:Nt):FQ where
 a:=n.next.map λ e=>(List.range n.s.toNat).map λ(j:Nat)=>(ER n ((j:Int)+1) (-1)).getD e.toNat 0
 b:=n.next.map λ e=>(ER n 0 (-1)).getD e.toNat 0
 c:=(List.range n.s.toNat).map λ(j:Nat)=>(ER n ((j:Int)+1) (-1)).getD n.out.toNat 0
 d:=(ER n 0 (-1)).getD n.out.toNat 0
abbrev eC:Option (List Rat)->List AV
 | none=>[.nil]
 | some l=>[.sl false (l.map eQ)]
def QW (l:List (List Rat)) (m:Nat):List (Option (List Rat)):=l.map some++List.replicate (m-l.length) none
theorem And {l:List (List Rat)} {m:Nat} (h:l.length<=m):(QW l m).length=m:=by simp [QW];omega
theorem Ane {l:List (List Rat)} {m:Nat} {x:List Rat} (h:l.length<m):(QW l m).set l.length (some x)=QW (l++[x]) m:=by
 unfold QW;rw[List.set_append_right _ _ (by simp)];obtain ⟨k,hk⟩ : ∃ k,m-l.length=k+1:=⟨m-l.length-1,by omega⟩;rw[hk,List.length_map,Nat.sub_self,List.replicate_succ,List.set_cons_zero,List.length_append,List.length_singleton,show m-(l.length+1)=k by omega];simp
theorem Anf {α:Type} (a b:α) {t m:Nat} (_:t<=m) (h:t<m):(List.replicate t a++List.replicate (m-t) b).set t a=List.replicate (t+1) a++List.replicate (m-(t+1)) b:=by
 obtain ⟨k,hk⟩ : ∃ k,m-t=k+1:=⟨m-t-1,by omega⟩;rw[List.set_append_right _ _ (by simp),hk,List.length_replicate,Nat.sub_self,List.replicate_succ,List.set_cons_zero,show m-(t+1)=k by omega,List.replicate_succ',List.append_assoc];rfl
def fz {α:Type} (z:α) (l:List α) (m:Nat):List α:=l++List.replicate (m-l.length) z
theorem fG {α:Type} {z:α} {l:List α} {m:Nat} (h:l.length<=m):(fz z l m).length=m:=by simp [fz];omega
theorem Ank {α:Type} (z:α) (l:List α) (m:Nat):(fz z l m).length=l.length+(m-l.length):=by simp [fz]
theorem fH {α:Type} {z x:α} {l:List α} {m:Nat} (h:l.length<m):(fz z l m).set l.length x=fz z (l++[x]) m:=by
 unfold fz;obtain ⟨k,hk⟩ : ∃ k,m-l.length=k+1:=⟨m-l.length-1,by omega⟩;rw[List.set_append_right _ _ (by simp),hk,Nat.sub_self,List.replicate_succ,List.set_cons_zero,List.length_append,List.length_singleton,show m-(l.length+1)=k by omega,List.append_assoc];rfl
theorem vY {α:Type} {z:α} {l:List α} {m:Nat} (h:l.length<m):(fz z l m)[l.length]? = some z:=by
 unfold fz;rw[List.getElem?_append_right (by omega),Nat.sub_self,List.getElem?_replicate,if_pos (by omega)]
theorem fE {α:Type} {z:α} {l:List α} {m:Nat} (h:l.length=m):fz z l m=l:=by simp [fz,h]
theorem Anc (l:List (List Rat)):(QW l l.length).map eC=l.map λ c=>[AV.sl false (c.map eQ)]:=by
 simp [QW,Function.comp_def]
def OP (n:Nt) (i:Nat):List (List Rat):=(List.range i).map λ(j:Nat)=>ER n (j:Int) (-1)
theorem Aj3 (n:Nt) (i:Nat):OP n (i+1)=OP n i++[ER n (i:Int) (-1)]:=by simp [OP,List.range_succ]
theorem jF (n:Nt) (i:Nat):(OP n i).length=i:=by simp [OP]
theorem AoG {α:Type} {l:List α} {i:Nat} {x:α} (h:l[i]? = some x):l.set i x=l:=by
 refine List.ext_getElem? λ j => ?_
 rw[List.getElem?_set];split
 ·rename_i e;subst e
  rw[h];split
  ·rfl
  ·rename_i h2;rw[List.getElem?_eq_none (by omega)]at h;cases h
 ·rfl
theorem lZ {α:Type} {l:List α} {i:Nat} {x:α} (h:l[i]? = some x):l.take (i+1)=l.take i++[x]:=by
 rw[List.take_add_one,h];rfl
theorem rG (n:Nt) (src ex:Int):(ER n src ex).length=(1+n.s).toNat+n.nodes.length:=by
 simp only[ER,bV,Y5,DC,List.length_map]
theorem rF (n:Nt) (src ex:Int) (h2:WV n.c) (cq:PU (DC n)) (eu:n.nodes.length<=5):Bs 117150 (ER n src ex):=by
 have l7:(DC n).length=n.nodes.length:=by simp [DC]
 have xq:=HY n.c.f;have pe:(pw n.c.f).natAbs<=2^24:=by
  have hf:n.c.f<24:=by unfold WV at h2;omega
  have h9:(2:Nat)^n.c.f.toNat<=2^24:=Nat.pow_le_pow_right (by omega) (by omega);rw[pw];exact_mod_cast h9
 have h:=oX (ex:=ex) xq pe (DC n) 0 (EU (1+n.s).toNat src) cq (Bs.unit _ _ _);rw[l7,Nat.zero_add]at h;intro x hx;refine (h x hx).le ?_;generalize n.nodes.length=j at eu;rcases j with _|_|_|_|_|_|j
 ·decide
 ·decide
 ·decide
 ·decide
 ·decide
 ·decide
 ·omega
theorem Bv (n:Nt) (t:Nat) (j:Int) (h:0<=j/\j<=t):(OP n (t+1))[j.toNat]? = some (ER n j (-1)):=by
 unfold OP;rw[List.getElem?_map,List.getElem?_range (by omega),Option.map_some,Int.toNat_of_nonneg h.1]
theorem AlR (I:c5 L) (N:dt L) (n:Nt) (hv:HD n=true) (cq:PU (DC n)) (eu:n.nodes.length<=5):Ev L 146 [.agg (FS n)] (.g8 [.agg (eS (EN n)),.int .i64 0]):=by
 have hV:=vC n I N.toy6;rw[hv]at hV;have hSp:=λ(j:Int) (h:0<=j/\j<=n.s)=>Am1 N n j (-1) hv cq eu (by omega) (by unfold GW;omega)
 have hO:=IV N.toa5 0 (by omega);rw[F5]at hv;obtain ⟨h1,h2,h3,h4,h5,h6⟩:=hv;have si : ∀ e∈n.next,0<=e/\e<=n.s+n.nodes.length:=λ e he=>by simpa using List.all_eq_true.1 h5 e he
 refine Ev.x N.SI rfl rfl ?_;(repeat' ((first|(apply BG;omega)|apply A2|refine AP (hV) ?_)<;>conv=>whnf))
 obtain ⟨m,hm⟩ : ∃ m:Nat,n.s=m:=⟨n.s.toNat,(Int.toNat_of_nonneg (by omega)).symm⟩;rw[hm];unfold GX;refine ⟨⟨by omega,by omega,by simp only[I3];omega,by omega⟩,?_⟩;rw[show ((m:Int)+1).toNat=m+1 by omega];(conv=>whnf)
 skip
 refine Aht 146018 146018 (m+1) rfl ?_;skip
 rw[show List.replicate (m+1) [AV.nil]=(QW (OP n 0) (m+1)).map eC by simp [QW,OP]];refine G5 (λ i=>m+1-i) (λ(i:Nat)=>i<=m+1) (λ i=>[(21,.int .i64 i)]) (λ i=>[(146018,146018,.rw 1 ((QW (OP n i) (m+1)).map eC))]) 0 (by omega) ?_;intro i p1 ih;by_cases hi:i<m+1
 ·have hl:=And (l:=OP n i) (m:=m+1) (by rw[jF];omega)
  have j8:=Ane (l:=OP n i) (m:=m+1) (x:=ER n (i:Int) (-1)) (by rw[jF];omega);rw[jF,<-Aj3]at j8;have hS:=hSp i (by omega);unfold FS at hS;rw[hm]at hS;(repeat' ((first|(apply A9<;>intro hc<;>try omega)|(apply B5;omega)|apply A2|refine AP (hS) ?_)<;>conv=>whnf))
  refine KS (enc:=eC) (some (ER n (i:Int) (-1))) rfl (λ e=>by cases e<;>rfl) (by omega) ?_;(conv=>whnf)
  (repeat' ((first|(apply BG;omega)|fail)<;>conv=>whnf))
  rw[j8];exact CZ [] (ih (i+1) (by omega) (by omega))
 ·obtain rfl:i=m+1:=by omega
  clear ih;(repeat' ((first|(apply A9<;>intro hc<;>try omega)|apply A2)<;>conv=>whnf))
  refine JV 1000 N.SZ rfl rfl ?_;(repeat' (apply A2<;>conv=>whnf))
  unfold GX;refine ⟨⟨by omega,by omega,by simp only[I3];omega,by omega⟩,?_⟩;rw[Int.toNat_natCast];(conv=>whnf)
  have hZ:=Adf N.ton7 m (by omega);refine WR (enc:=eQ) m hZ (by simp) ?_;(conv=>whnf)
  refine WR (enc:=eQ) m hZ (by simp) ?_;(conv=>whnf)
  (repeat' (refine AP (hO) ?_<;>conv=>whnf))
  refine G5 (λ t=>m-t) (λ(t:Nat)=>t<=m) (λ t=>[(16,.int .i64 t)]) (λ t=>[(145006,145006,.mx (List.replicate t (some (3,(List.replicate m (0:Rat)).map eQ))++List.replicate (m-t) none))]) 0 (by omega) ?_;intro t p4 th;by_cases ht:t<m
  ·(repeat' ((first|(apply A9<;>intro hc<;>try omega)|apply A2)<;>conv=>whnf))
   refine WR (enc:=eQ) m hZ (by simp) ?_;(conv=>whnf)
   (repeat' ((first|(apply B5;omega)|fail)<;>conv=>whnf))
   unfold BU F7;refine ⟨by simp,by simp;omega,?_⟩;(conv=>whnf)
   rw[show 0+((t:Int)).toNat=t by omega,Anf _ _ p4 ht];(repeat' ((first|(apply BG;omega)|fail)<;>conv=>whnf))
   exact CZ [] (th (t+1) (by omega) (by omega))
  obtain rfl:t=m:=by omega
  clear th;have jc:=Bv n t;rw[show List.replicate t (some (3,List.map eQ (List.replicate t 0)))++List.replicate (t-t) none=HA 3 eQ (fz (List.replicate t 0) [] t) by simp [HA,fz],show List.replicate t (0:Rat)=fz 0 [] t by simp [fz],show (QW (OP n (t+1)) (t+1)).map eC=(OP n (t+1)).map λ c=>[AV.sl false (c.map eQ)] by rw[<-Anc,jF]];(repeat' ((first|(apply A9<;>intro hc<;>try omega)|apply A2)<;>conv=>whnf))
  refine ⟨rfl,?_⟩;(conv=>whnf)
  (repeat' (apply BT<;>conv=>whnf))
  have hsn:n.s.toNat=t:=by omega
  have zr:n.next.length=t:=by omega
  have AI9:=jF n (t+1);refine G5 (λ i=>n.next.length-i) (λ(i:Nat)=>i<=n.next.length) (λ i=>[(37,.int .i64 i)]) (λ i=>[(145006,145006,.mx (HA 3 eQ (fz (List.replicate t 0) ((EN n).a.take i) t))),(145008,145008,.rw 3 ((fz 0 ((EN n).b.take i) t).map eQ))]) 0 (by omega) ?_;intro i q1 ih;by_cases hi:i<n.next.length
  ·obtain ⟨e,he⟩ : ∃ e,n.next[i]? = some e:=⟨_,zE hi⟩
   have nr:n.next[(i:Int).toNat]? = some e:=he
   have Gv:(EN n).a[i]? = some ((List.range t).map λ(j:Nat)=>(ER n ((j:Int)+1) (-1)).getD e.toNat 0):=by
    rw[<-hsn];simp only[EN,List.getElem?_map,he,Option.map_some]
   have Tr:(EN n).b[i]? = some ((ER n 0 (-1)).getD e.toNat 0):=by
    simp only[EN,List.getElem?_map,he,Option.map_some]
   have gq:(EN n).a.length=t:=by simp [EN,zr]
   have nf:(EN n).b.length=t:=by simp [EN,zr]
   have Mn:((EN n).a.take i).length=i:=by rw[List.length_take];omega
   have Ha:((EN n).b.take i).length=i:=by rw[List.length_take];omega
   have hA0:fz (List.replicate t 0) ((EN n).a.take i) t=(fz (List.replicate t 0) ((EN n).a.take i) t).set i (fz 0 [] t):=by
    have:=vY (z:=List.replicate t (0:Rat)) (l:=(EN n).a.take i) (m:=t) (by omega)
    rw[Mn]at this;rw[show fz (0:Rat) [] t=List.replicate t 0 by simp [fz]];exact (AoG this).symm
   have hAs:=fH (z:=List.replicate t (0:Rat)) (l:=(EN n).a.take i) (m:=t) (x:=(List.range t).map λ(j:Nat)=>(ER n ((j:Int)+1) (-1)).getD e.toNat 0) (by omega);have Dl:=fH (z:=(0:Rat)) (l:=(EN n).b.take i) (m:=t) (x:=(ER n 0 (-1)).getD e.toNat 0) (by omega);rw[Mn,<-lZ Gv]at hAs;rw[Ha,<-lZ Tr]at Dl;have hAl:=fG (z:=List.replicate t (0:Rat)) (l:=(EN n).a.take i) (m:=t) (by omega);have hBl:=fG (z:=(0:Rat)) (l:=(EN n).b.take i) (m:=t) (by omega);have hen:=si e (zM he);generalize fz (List.replicate t 0) ((EN n).a.take i) t=A0 at *;generalize fz (0:Rat) ((EN n).b.take i) t=B0 at *;have Dk:A0=A0.set i (fz 0 ((List.range 0).map λ(j:Nat)=>(ER n ((j:Int)+1) (-1)).getD e.toNat 0) t):=hA0;(repeat' ((first|(apply A9<;>intro hc<;>try omega)|(refine CN (by assumption) ?_ rfl ?_;omega)|apply A2)<;>conv=>whnf))
   refine G6 (λ j=>t-j) (λ(j:Nat)=>j<=t) (λ j=>[(44,.int .i64 j)]) (λ j=>[(145006,145006,.mx (HA 3 eQ (A0.set i (fz 0 ((List.range j).map λ(j:Nat)=>(ER n ((j:Int)+1) (-1)).getD e.toNat 0) t))))]) [] [] 0 (by first|exact (by (conv=>whnf);exact ⟨rfl,rfl,rfl⟩)|(rw[<-Dk];exact (by (conv=>whnf);exact ⟨rfl,rfl,rfl⟩))) (by omega) ?_;intro j q2 jh;have o6:((List.range j).map λ(j:Nat)=>(ER n ((j:Int)+1) (-1)).getD e.toNat 0).length=j:=by simp
   by_cases hj:j<t
   ·have ua:=jc ((j:Int)+1) (by omega)
    have Bb:=rG n ((j:Int)+1) (-1);have xu:=rF n ((j:Int)+1) (-1) h2 cq (by omega);obtain ⟨x,hx⟩ : ∃ x,(ER n ((j:Int)+1) (-1))[e.toNat]? = some x:=⟨_,zE (by omega)⟩;have vj:(ER n ((j:Int)+1) (-1)).getD e.toNat 0=x:=by rw[List.getD_eq_getElem?_getD,hx];rfl
    have hT:=bT N.toa5 (xu.at hx) (by omega);have yq:=fH (z:=(0:Rat)) (l:=(List.range j).map λ(j:Nat)=>(ER n ((j:Int)+1) (-1)).getD e.toNat 0) (m:=t) (x:=x) (by omega);have yp:=fG (z:=(0:Rat)) (l:=(List.range j).map λ(j:Nat)=>(ER n ((j:Int)+1) (-1)).getD e.toNat 0) (m:=t) (by omega);rw[o6,show ((List.range j).map λ(j:Nat)=>(ER n ((j:Int)+1) (-1)).getD e.toNat 0)++[x]=(List.range (j+1)).map λ(j:Nat)=>(ER n ((j:Int)+1) (-1)).getD e.toNat 0 by rw[List.range_succ,List.map_append,List.map_singleton,vj]]at yq;have Pm:(A0.set i (fz 0 ((List.range j).map λ(j:Nat)=>(ER n ((j:Int)+1) (-1)).getD e.toNat 0) t))[i]? = some (fz 0 ((List.range j).map λ(j:Nat)=>(ER n ((j:Int)+1) (-1)).getD e.toNat 0) t):=by
     rw[List.getElem?_set,if_pos rfl,if_pos (by omega)]
    have Ml:(A0.set i (fz 0 ((List.range j).map λ(j:Nat)=>(ER n ((j:Int)+1) (-1)).getD e.toNat 0) t)).length=t:=by rw[List.length_set];omega
    (repeat' ((first|(apply A9<;>intro hc<;>try omega)|(apply B5;omega)|(apply BG;omega)|(refine WS ?_ (λ_=>rfl) (λ v hv => ?_);omega)|(refine Yk ?_ (λ r hr => ?_);omega)|apply A2)<;>conv=>whnf))
    cases Pm.symm.trans hr;cases ua.symm.trans hv;(repeat' ((first|(refine CN (by assumption) ?_ rfl ?_;omega)|refine AP (hT) ?_)<;>conv=>whnf))
    refine B5 (by rw[List.length_map];omega) ?_;(conv=>whnf)
    (repeat' ((first|refine Yi (by assumption) ?_|fail)<;>conv=>whnf))
    refine KS (enc:=eQ) x rfl (λ_=>rfl) (by omega) ?_;(conv=>whnf)
    rw[yq];refine Ait (by simp only[Ank , o6,List.length_map,List.length_range];omega) ?_;rw[List.set_set];(conv=>whnf)
    (repeat' ((first|(apply BG;omega)|fail)<;>conv=>whnf))
    exact CZ [] (jh (j+1) (by omega) (by omega))
   ·obtain rfl:j=t:=by omega
    clear jh;rw[fE o6,hAs];have ua:=jc 0 (by omega);have Bb:=rG n 0 (-1);have xu:=rF n 0 (-1) h2 cq (by omega);obtain ⟨x,hx⟩ : ∃ x,(ER n 0 (-1))[e.toNat]? = some x:=⟨_,zE (by omega)⟩;have vj:(ER n 0 (-1)).getD e.toNat 0=x:=by rw[List.getD_eq_getElem?_getD,hx];rfl
    rw[vj]at Dl;have hT:=bT N.toa5 (xu.at hx) (by omega);(repeat' ((first|(apply A9<;>intro hc<;>try omega)|(apply B5;omega)|(refine WS ?_ (λ_=>rfl) (λ v hv => ?_);omega)|apply A2)<;>conv=>whnf))
    cases ua.symm.trans hv;(repeat' ((first|(apply B5;omega)|(refine CN (by assumption) ?_ rfl ?_;omega)|refine AP (hT) ?_)<;>conv=>whnf))
    refine KS (enc:=eQ) x rfl (λ_=>rfl) (by omega) ?_;(conv=>whnf)
    rw[Dl];(repeat' ((first|(apply BG;omega)|fail)<;>conv=>whnf))
    exact CZ [] (ih (i+1) (by omega) (by omega))
  ·obtain rfl:i=n.next.length:=by omega
   clear ih;have gq:(EN n).a.length=t:=by simp [EN,zr]
   have nf:(EN n).b.length=t:=by simp [EN,zr]
   rw[zT (show (EN n).a.length<=n.next.length by omega),zT (show (EN n).b.length<=n.next.length by omega),fE gq,fE nf];(repeat' ((first|(apply A9<;>intro hc<;>try omega)|apply A2)<;>conv=>whnf))
   refine G5 (λ j=>t-j) (λ(j:Nat)=>j<=t) (λ j=>[(78,.int .i64 j)]) (λ j=>[(145010,145010,.rw 3 ((fz 0 ((List.range j).map λ(j:Nat)=>(ER n ((j:Int)+1) (-1)).getD n.out.toNat 0) t).map eQ))]) 0 (by omega) ?_;intro j q2 jh;have o6:((List.range j).map λ(j:Nat)=>(ER n ((j:Int)+1) (-1)).getD n.out.toNat 0).length=j:=by simp
   by_cases hj:j<t
   ·have ua:=jc ((j:Int)+1) (by omega)
    have Bb:=rG n ((j:Int)+1) (-1);have xu:=rF n ((j:Int)+1) (-1) h2 cq (by omega);obtain ⟨x,hx⟩ : ∃ x,(ER n ((j:Int)+1) (-1))[n.out.toNat]? = some x:=⟨_,zE (by omega)⟩;have vj:(ER n ((j:Int)+1) (-1)).getD n.out.toNat 0=x:=by rw[List.getD_eq_getElem?_getD,hx];rfl
    have hT:=bT N.toa5 (xu.at hx) (by omega);have yq:=fH (z:=(0:Rat)) (l:=(List.range j).map λ(j:Nat)=>(ER n ((j:Int)+1) (-1)).getD n.out.toNat 0) (m:=t) (x:=x) (by omega);have yp:=fG (z:=(0:Rat)) (l:=(List.range j).map λ(j:Nat)=>(ER n ((j:Int)+1) (-1)).getD n.out.toNat 0) (m:=t) (by omega);rw[o6,show ((List.range j).map λ(j:Nat)=>(ER n ((j:Int)+1) (-1)).getD n.out.toNat 0)++[x]=(List.range (j+1)).map λ(j:Nat)=>(ER n ((j:Int)+1) (-1)).getD n.out.toNat 0 by rw[List.range_succ,List.map_append,List.map_singleton,vj]]at yq;(repeat' ((first|(apply A9<;>intro hc<;>try omega)|(apply B5;omega)|(apply BG;omega)|(refine WS ?_ (λ_=>rfl) (λ v hv => ?_);omega)|apply A2)<;>conv=>whnf))
    cases ua.symm.trans hv;(repeat' ((first|(apply B5;omega)|(refine CN (by assumption) ?_ rfl ?_;omega)|refine AP (hT) ?_)<;>conv=>whnf))
    refine KS (enc:=eQ) x rfl (λ_=>rfl) (by omega) ?_;(conv=>whnf)
    rw[yq];(repeat' ((first|(apply BG;omega)|fail)<;>conv=>whnf))
    exact CZ [] (jh (j+1) (by omega) (by omega))
   ·obtain rfl:j=t:=by omega
    clear jh;rw[fE o6];have ua:=jc 0 (by omega);have Bb:=rG n 0 (-1);have xu:=rF n 0 (-1) h2 cq (by omega);obtain ⟨x,hx⟩ : ∃ x,(ER n 0 (-1))[n.out.toNat]? = some x:=⟨_,zE (by omega)⟩;have vj:(ER n 0 (-1)).getD n.out.toNat 0=x:=by rw[List.getD_eq_getElem?_getD,hx];rfl
    have hT:=bT N.toa5 (xu.at hx) (by omega);have hd:(EN n).d=x:=vj;have aj:(EN n).c=(List.range j).map λ(j:Nat)=>(ER n ((j:Int)+1) (-1)).getD n.out.toNat 0:=by rw[EN,hsn]
    rw[<-aj];(repeat' ((first|(apply A9<;>intro hc<;>try omega)|(apply B5;omega)|(refine WS ?_ (λ_=>rfl) (λ v hv => ?_);omega)|apply A2)<;>conv=>whnf))
    cases ua.symm.trans hv;(repeat' ((first|(refine CN (by assumption) ?_ rfl ?_;omega)|refine AP (hT) ?_)<;>conv=>whnf))
    have hcn:(EN n).c.length=j:=by rw[aj,o6]
    refine WX (λ_=>rfl) rfl gq.symm ?_;(conv=>whnf)
    refine FO (enc:=eQ) (λ_=>rfl) rfl nf.symm ?_;(conv=>whnf)
    refine FO (enc:=eQ) (λ_=>rfl) rfl hcn.symm ?_;(conv=>whnf)
    refine BV (by rw[<-hd];rfl) ?_;simp only[B3,EC,and_true];exact eB (EN n)
def cf (l:List Rat) (prev:List (Option Rat)) (i:Nat):List (Option Rat):=(l.take i).map some++prev.drop i
theorem uU (I:c5 L) (D:l8 L) (b a:List Int) (q1 q2:Bool) (d c:Wd) (hd:WV d) (hc:WV c) (l1:1<=b.length/\b.length<=49) (l2:a.length<=8) (hb : ∀ v∈b,FT c v) (ha : ∀ v∈a,FT c v/\FT c (-v)) :
  Ev L 46 [.sl q1 (b.map DT),.sl q2 (a.map DT),.agg (JP d),.agg (JP c)] (.int .i64 0):=by
 have hav : ∀ v∈a,-16777216<=v/\v<=16777216:=λ v hv=>by
  obtain ⟨_,e1,e2⟩:=(ha v hv).1;obtain ⟨h1,h2,h3,h4⟩:=RQ hc;omega
 refine Ev.x D.QU rfl rfl ?_;(repeat' ((first|(apply A9<;>intro hc<;>try omega)|apply BT|apply A2|refine HV (XD ⟨_,_,_,_⟩ I) (λ hf => ?_) (λ hf => ?_))<;>conv=>whnf))
 all_goals try (exact absurd hd (by assumption))
 all_goals try (exact absurd hc (by assumption))
 refine G5 (λ i=>b.length-i) (λ(i:Nat)=>i<=b.length) (λ i=>[(36,.int .i64 i)]) (λ_=>[]) 0 (by omega) ?_;intro i p1 ih;(repeat' ((first|(apply A9<;>intro hc<;>try omega)|(apply BG;omega)|apply BT|(refine MD ?_ (λ_=>rfl) (λ e he => ?_);omega)|apply A2|refine HV (XC ⟨_,_,_,_⟩ I _) (λ hf => ?_) (λ hf => ?_))<;>conv=>whnf))
 ·exact CZ [] (ih (i+1) (by omega) (by omega))
 ·exact absurd (hb _ (zM he)) hf
 refine G5 (λ i=>a.length-i) (λ(i:Nat)=>i<=a.length) (λ i=>[(47,.int .i64 i)]) (λ_=>[]) 0 (by omega) ?_;intro i p1 ih;(repeat' ((first|(apply A9<;>intro hc<;>try omega)|(refine MD ?_ (λ_=>rfl) (λ e he => ?_);omega)|apply A2|refine HV (XC ⟨_,_,_,_⟩ I _) (λ hf => ?_) (λ hf => ?_))<;>conv=>whnf))
 ·have hfe:=hav _ (zM he)
  (repeat' ((first|(apply BG;omega)|(apply FE.neg;omega)|refine HV (XC ⟨_,_,_,_⟩ I _) (λ hf => ?_) (λ hf => ?_))<;>conv=>whnf))
  ·exact CZ [] (ih (i+1) (by omega) (by omega))
  ·exact absurd (ha _ (zM he)).2 hf
 ·exact absurd (ha _ (zM he)).1 hf
 ·exact ET rfl
theorem tM (ts:List (Int × Int)):IH (ts.map MI):=ZR (λ_=>by simp [EC,B3]) ts
def HZ (l:List Int) (sg fr:Int):List (Int × Int):=(List.range l.length).map λ i:Nat=>(fr+i,sg*l.getD i 0)
theorem PK (l:List Int) (sg fr:Int):(HZ l sg fr).length=l.length:=by simp [HZ]
theorem Ap2 {l:List Int} {i:Nat} {v:Int} (sg fr:Int) (h:l[i]? = some v):(HZ l sg fr)[i]? = some (fr+i,sg*v):=by
 have hi:=(zS h).1;simp only[HZ,List.getElem?_map,List.getElem?_range hi,Option.map_some,List.getD_eq_getElem?_getD,h,Option.getD_some]
theorem YM (D:l8 L) (l:List Int) (q:Bool) (sg fr:Int) (hl:l.length<=1000000) (hs:sg=1\/sg = -1) (hf:0<=fr/\fr<=1000000) (hv : ∀ v∈l,-1000000000000<=v/\v<=1000000000000):Ev L 47 [.sl q (l.map DT),.int .i64 sg,.int .i64 fr] (.sl false ((HZ l sg fr).map MI)):=by
 have hF:=PK l sg fr;refine Ev.x D.QT rfl rfl ?_;(repeat' ((first|apply BT|apply A2)<;>conv=>whnf))
 refine GJ (enc:=MI) (0,0) l.length rfl rfl (by omega) ?_;(conv=>whnf)
 (repeat' (apply BT<;>conv=>whnf))
 refine dO (λ i _=>l.length-i) (λ(i:Nat) (o:List (Int × Int))=>i<=l.length/\o.length=(HZ l sg fr).length/\o.take i=(HZ l sg fr).take i) (λ i o=>[(7,.row 12 0 2 0 o.length),(15,.int .i64 i)]) (λ i o=>[(12,12,.rw 2 (o.map MI))]) [] [] 0 (List.replicate l.length (0,0)) (by rw[List.length_replicate];exact (by (conv=>whnf);exact ⟨rfl,rfl,rfl⟩)) ⟨by omega,by simp [hF],by simp⟩ ?_;intro i o ⟨p1,p2,p3⟩ ih;by_cases hi:i<l.length
 ·obtain ⟨v,Mp⟩ : ∃ v,l[i]? = some v:=⟨_,zE hi⟩
  have Mq:=hv v (zM Mp);have hmul : -1000000000000<=sg*v/\sg*v<=1000000000000:=by rcases hs with rfl|rfl<;>omega
  obtain ⟨f1,f2⟩:=YQ p2 p3 (Ap2 sg fr Mp);(repeat' ((first|(apply A9<;>intro hc<;>try omega)|(apply B5;omega)|(apply BG;omega)|(apply I8;omega)|(refine CN (by assumption) ?_ rfl ?_;omega)|apply A2)<;>conv=>whnf))
  refine KS (enc:=MI) (fr+i,sg*v) rfl (λ_=>rfl) (by omega) ?_;(conv=>whnf)
  (repeat' ((first|(apply BG;omega)|fail)<;>conv=>whnf))
  exact DP [] (by rw[List.length_set];exact (by (conv=>whnf);exact ⟨rfl,rfl,rfl⟩)) (ih (i+1) (o.set i (fr+i,sg*v)) (by omega) ⟨by omega,f1,f2⟩)
 ·have ho:=kE p2 p3 (by omega)
  (repeat' ((first|(apply A9<;>intro hc<;>try omega)|(refine FO (λ_=>rfl) rfl ?_ ?_;(first|rfl|simp))|apply A2)<;>conv=>whnf))
  exact BV (by rw[ho]) (by simp [B3,tM])
def L0 (l:List Nd):List (Int × Int):=l.flatMap λ n=>n.ts
theorem jV (D:l8 L) (l:List Nd) (q:Bool) (iq:(L0 l).length<=1000000) (hl:l.length<=1000000):Ev L 48 [.sl q (l.map ZX)] (.sl false ((L0 l).map MI)):=by
 refine Ev.x D.QS rfl rfl ?_;(repeat' ((first|apply BT|apply A2)<;>conv=>whnf))
 refine IX (λ i _=>l.length-i) (λ(i:Nat) (o:List (Int × Int))=>i<=l.length/\o=L0 (l.take i)) (λ i o=>[(3,.row 3 0 2 0 o.length),(8,.int .i64 i)]) (λ i o=>[(3,3,.rw 2 (o.map MI))]) 0 [] ⟨by omega,rfl⟩ ?_;intro i o ⟨p1,p2⟩ ih;(repeat' ((first|(apply A9<;>intro hc<;>try omega)|(refine MD ?_ (λ_=>rfl) (λ e he => ?_);omega)|(refine FO (λ_=>rfl) rfl ?_ ?_;(first|rfl|simp))|apply A2)<;>conv=>whnf))
 ·have hj:L0 (l.take (i+1))=o++e.ts:=by
   rw[List.take_add_one,he,p2];simp [L0]
  have hle:o.length+e.ts.length<=1000000:=by
   have:L0 l=L0 (l.take (i+1))++L0 (l.drop (i+1)):=by
    unfold L0;rw[<-List.flatMap_append,List.take_append_drop]
   rw[this,hj]at iq;simp at iq;omega
  refine mK (enc:=MI) rfl (λ_=>rfl) (by omega) (by omega) ?_;(conv=>whnf)
  (repeat' ((first|(apply BG;omega)|fail)<;>conv=>whnf))
  exact DP [(3,14)] (by (conv=>whnf);exact ⟨rfl,rfl,rfl⟩) (ih (i+1) _ (by omega) ⟨by omega,hj.symm⟩)
 ·rw[zT (by omega)]at p2
  exact BV (by rw[p2]) (by simp [B3,tM])
theorem Abo : ∀ (l:List Nd),(∀ n∈l,n.q=false)->IH (l.map ZX)
 | [],_=>by simp [IH]
 | n::r,h=>by
  simp only[List.map_cons,IH,EC,B3,and_true];exact ⟨⟨h n (by simp),tM _⟩,Abo r λ m hm=>h m (List.mem_cons_of_mem _ hm)⟩
theorem Acm (n:Nt) (h1:n.qn=false) (h2:n.qx=false) (h3 : ∀ m∈n.nodes,m.q=false):EC (FS n):=by
 simp only[EC,B3,true_and,and_true];exact ⟨⟨h1,Abo _ h3⟩,h2,jC _⟩
theorem gC (n:Nt) (h1:n.qn=false) (h2:n.qx=false) (h3 : ∀ m∈n.nodes,m.q=false):B3 (.g8 [.agg (FS n),.int .i64 0]):=by
 have h:=Acm n h1 h2 h3;simp only[B3,EC,and_true,true_and]at h ⊢;exact h
def MF (n:Nat) (first source:Int):List Int:=(List.range n).map λ i:Nat=>if i=0 then source else first+i-1
theorem tW {n i:Nat} {first source:Int} (h:i<n):(MF n first source)[i]? = some (if i=0 then source else first+i-1):=by
 simp only[MF,List.getElem?_map,List.getElem?_range h,Option.map_some]
theorem aP {c:Wd} (hc:WV c) {v:Int} (h:FT c v) : -1000000000000<=v/\v<=1000000000000:=by
 obtain ⟨_,e1,e2⟩:=h;obtain ⟨h1,h2,h3,h4⟩:=RQ hc;omega
def KH (b a:List Int) (d c:Wd):Nt :=
 ⟨d,c,((b.length-1+a.length:Nat):Int),false,[⟨false,HZ b 1 0++HZ a (-1) b.length⟩],false,MF (b.length-1) 1 0++MF a.length b.length ((b.length+a.length:Nat):Int),((b.length+a.length:Nat):Int)⟩
theorem AlY (I:c5 L) (D:l8 L) (b a:List Int) (q1 q2:Bool) (d c:Wd) (hd:WV d) (hc:WV c) (l1:1<=b.length/\b.length<=49) (l2:a.length<=8) (hb : ∀ v∈b,FT c v) (ha : ∀ v∈a,FT c v/\FT c (-v)) :
  Ev L 50 [.sl q1 (b.map DT),.sl q2 (a.map DT),.agg (JP d),.agg (JP c)] (.g8 [.agg (FS (KH b a d c)),.int .i64 0]):=by
 have hw:=λ q q'=>uU I D b a q q' d c hd hc l1 l2 hb ha
 have r1:=λ q=>YM D b q 1 0 (by omega) (Or.inl rfl) (by omega) (λ v hv=>aP hc (hb v hv))
 have r2:=λ q=>YM D a q (-1) ((b.length:Int)-1+1) (by omega) (Or.inr rfl) (by omega) (λ v hv=>aP hc (ha v hv).1)
 have r3:=λ q q' Nf=>jV D [⟨q,HZ b 1 0⟩,⟨q',HZ a (-1) ((b.length:Int)-1+1)⟩] Nf (by simp [L0,PK];omega) (by simp)
 generalize hF:MF (b.length-1) 1 0++MF a.length b.length ((b.length+a.length:Nat):Int)=F;have Bn:F.length=b.length-1+a.length:=by rw[<-hF];simp [MF]
 have Ex : ∀ i:Nat,i<b.length-1->F[i]? = some (if i=0 then (0:Int) else 1+i-1):=λ i hi=>by
  rw[<-hF,List.getElem?_append_left (by simp [MF];omega)];exact tW hi
 have hF2 : ∀ i:Nat,i<a.length->F[b.length-1+i]? = some (if i=0 then ((b.length+a.length:Nat):Int) else b.length+i-1):=λ i hi=>by
  rw[<-hF,List.getElem?_append_right (by simp [MF])];have:b.length-1+i-(MF (b.length-1) 1 0).length=i:=by simp [MF]
  rw[this];exact tW hi
 refine Ev.x D.QO rfl rfl ?_;(repeat' ((first|(apply A9<;>intro hc<;>try omega)|(apply BG;omega)|(apply DQ;omega)|apply BT|apply A2|refine AP (hw _ _) ?_)<;>conv=>whnf))
 refine GJ (enc:=DT) 0 (b.length-1+a.length) rfl (by omega) (by omega) ?_;(conv=>whnf)
 (repeat' ((first|(apply BG;omega)|refine ON rfl rfl ?_|refine AP (r1 _) ?_|refine AP (r2 _) ?_|refine AP (r3 _ _ _) ?_)<;>conv=>whnf))
 refine L6 (b.length-1) (by omega) (by omega) ?_;(conv=>whnf)
 refine LE 1000 D.NW rfl rfl ?_;(repeat' (apply A2<;>conv=>whnf))
 refine IX (λ i _=>b.length-1-i) (λ(i:Nat) (o:List Int)=>i<=b.length-1/\o.length=F.length/\o.take i=F.take i) (λ i o=>[(9,.int .i64 i)]) (λ i o=>[(34,34,.rw 1 (o.map DT))]) 0 (List.replicate (b.length-1+a.length) 0) ⟨by omega,by simp [Bn],by simp⟩ ?_;intro i o ⟨p1,p2,p3⟩ ih;(repeat' ((first|(apply A9<;>intro hc<;>try omega)|(apply B5;omega)|(apply BG;omega)|(apply DQ;omega)|apply A2)<;>conv=>whnf))
 ·obtain ⟨f1,f2⟩:=YQ p2 p3 (Ex i (by omega))
  refine NA i (if i=0 then (0:Int) else 1+i-1) (by omega) (by rw[if_pos (by omega)]) (λ_=>rfl) (by omega) ?_;(conv=>whnf)
  (repeat' ((first|(apply BG;omega)|fail)<;>conv=>whnf))
  exact DP [] (by (conv=>whnf);exact ⟨rfl,rfl,rfl⟩) (ih (i+1) _ (by omega) ⟨by omega,f1,f2⟩)
 ·obtain ⟨f1,f2⟩:=YQ p2 p3 (Ex i (by omega))
  refine NA i (if i=0 then (0:Int) else 1+i-1) (by omega) (by rw[if_neg (by omega)]) (λ_=>rfl) (by omega) ?_;(conv=>whnf)
  (repeat' ((first|(apply BG;omega)|fail)<;>conv=>whnf))
  exact DP [] (by (conv=>whnf);exact ⟨rfl,rfl,rfl⟩) (ih (i+1) _ (by omega) ⟨by omega,f1,f2⟩)
 obtain rfl:i=b.length-1:=by omega
 refine ⟨rfl,_,rfl,?_⟩;(conv=>whnf)
 skip
 refine Ah4 (b.length-1) (by omega) (by omega) ?_;(conv=>whnf)
 (repeat' ((first|(apply BG;omega)|fail)<;>conv=>whnf))
 refine LE 1000 D.NW rfl rfl ?_;(repeat' (apply A2<;>conv=>whnf))
 refine IX (λ i _=>a.length-i) (λ(i:Nat) (o:List Int)=>i<=a.length/\o.length=F.length/\o.take (b.length-1+i)=F.take (b.length-1+i)) (λ i o=>[(9,.int .i64 i)]) (λ i o=>[(34,34,.rw 1 (o.map DT))]) 0 o ⟨by omega,p2,p3⟩ ?_;clear p1 p2 p3 ih;intro i o ⟨p1,p2,p3⟩ ih;(repeat' ((first|(apply A9<;>intro hc<;>try omega)|(apply B5;omega)|(apply BG;omega)|(apply DQ;omega)|apply A2)<;>conv=>whnf))
 ·obtain ⟨f1,f2⟩:=YQ p2 p3 (hF2 i (by omega))
  refine NA (b.length-1+i) (if i=0 then ((b.length+a.length:Nat):Int) else b.length+i-1) (by omega) (by rw[if_pos (by omega)];simp only[List.cons.injEq,AV.int.injEq,true_and,and_true];omega) (λ_=>rfl) (by omega) ?_;(conv=>whnf)
  (repeat' ((first|(apply BG;omega)|fail)<;>conv=>whnf))
  exact DP [] (by (conv=>whnf);exact ⟨rfl,rfl,rfl⟩) (ih (i+1) _ (by omega) ⟨by omega,f1,f2⟩)
 ·obtain ⟨f1,f2⟩:=YQ p2 p3 (hF2 i (by omega))
  refine NA (b.length-1+i) (if i=0 then ((b.length+a.length:Nat):Int) else b.length+i-1) (by omega) (by rw[if_neg (by omega)];simp only[List.cons.injEq,AV.int.injEq,true_and,and_true];omega) (λ_=>rfl) (by omega) ?_;(conv=>whnf)
  (repeat' ((first|(apply BG;omega)|fail)<;>conv=>whnf))
  exact DP [] (by (conv=>whnf);exact ⟨rfl,rfl,rfl⟩) (ih (i+1) _ (by omega) ⟨by omega,f1,f2⟩)
 have ho:=kE p2 p3 (by omega);subst ho;refine ⟨rfl,_,rfl,?_⟩;(conv=>whnf)
 (repeat' (refine J4 rfl ?_<;>conv=>whnf))
 refine FO (enc:=DT) (λ_=>rfl) rfl Bn.symm ?_;(conv=>whnf)
 skip
 have e1:(b.length:Int)-1+1=b.length:=by omega
 have e2:(b.length:Int)-1+a.length=((b.length-1+a.length:Nat):Int):=by omega
 have e3:(b.length:Int)-1+a.length+1=((b.length+a.length:Nat):Int):=by omega
 refine BV ?_ ?_
 ·rw[e1,e3,e2]
  simp only[KH,hF,List.map_cons,List.map_nil,L0,List.flatMap_cons,List.flatMap_nil,List.append_nil];rfl
 ·exact gC (KH b a d c) rfl rfl (by simp [KH])
def E7 (b a:List Int):Nat:=max (b.length-1) a.length
def KI (b a:List Int) (d c:Wd):Nt :=
 ⟨d,c,(E7 b a:Int),false,[⟨false,HZ [pw c.f] 1 0++HZ a (-1) 1⟩,⟨false,HZ (b.take 1) 1 (E7 b a+1)++HZ (b.drop 1) 1 1⟩],false,MF (E7 b a) 1 (E7 b a+1),E7 b a+1+1⟩
theorem AlZ (I:c5 L) (D:l8 L) (b a:List Int) (q1 q2:Bool) (d c:Wd) (hd:WV d) (hc:WV c) (l1:1<=b.length/\b.length<=49) (l2:a.length<=8) (hb : ∀ v∈b,FT c v) (ha : ∀ v∈a,FT c v/\FT c (-v)) :
  Ev L 51 [.sl q1 (b.map DT),.sl q2 (a.map DT),.agg (JP d),.agg (JP c)] (.g8 [.agg (FS (KI b a d c)),.int .i64 0]):=by
 have hw:=λ q q'=>uU I D b a q q' d c hd hc l1 l2 hb ha
 have y5:=hc;unfold WV at y5;have Pk:=PC (n:=c.f) (m:=23) (by omega);have zu:pw 23=8388608:=by unfold pw;rfl
 have xb:=HY c.f;have r1:=λ q=>YM D [pw c.f] q 1 0 (by simp) (Or.inl rfl) (by omega) (by simp;omega)
 have r2:=λ q=>YM D a q (-1) 1 (by omega) (Or.inr rfl) (by omega) (λ v hv=>aP hc (ha v hv).1)
 have r3:=λ q=>YM D (b.take 1) q 1 (E7 b a+1) (by simp;omega) (Or.inl rfl) (by unfold E7;omega) (λ v hv=>aP hc (hb v (List.mem_of_mem_take hv)))
 have r4:=λ q=>YM D (b.drop 1) q 1 1 (by simp;omega) (Or.inl rfl) (by omega) (λ v hv=>aP hc (hb v (List.mem_of_mem_drop hv)))
 have j1:=λ q q' Nf=>jV D [⟨q,HZ [pw c.f] 1 0⟩,⟨q',HZ a (-1) 1⟩] Nf (by simp [L0,PK];omega) (by simp)
 have j2:=λ q q' Nf=>jV D [⟨q,HZ (b.take 1) 1 (E7 b a+1)⟩,⟨q',HZ (b.drop 1) 1 1⟩] Nf (by simp [L0,PK];omega) (by simp)
 generalize hF:MF (E7 b a) 1 ((E7 b a:Int)+1)=F;have Bn:F.length=E7 b a:=by rw[<-hF];simp [MF]
 have Ex : ∀ i:Nat,i<E7 b a->F[i]? = some (if i=0 then ((E7 b a:Int)+1) else 1+i-1):=λ i hi=>by
  rw[<-hF];exact tW hi
 have mc:(E7 b a:Int)<=1000:=by unfold E7;omega
 refine Ev.x D.QQ rfl rfl ?_;(repeat' ((first|(apply A9<;>intro hc<;>try omega)|(apply BG;omega)|(apply DQ;omega)|apply BT|apply A2|refine AP (hw _ _) ?_)<;>conv=>whnf))
 all_goals first|rw[show (a.length:Int)=(E7 b a:Int) by unfold E7;omega]|rw[show (b.length:Int)-1=(E7 b a:Int) by unfold E7;omega]
 all_goals (
  generalize hmm:E7 b a=mx at *;refine GJ (enc:=DT) 0 mx rfl rfl (by omega) ?_;(conv=>whnf)
  (repeat' ((first|(apply BG;omega)|(refine IY ?_ (λ_ _ => ?_);omega)|refine J4 rfl ?_|refine ON rfl rfl ?_|refine AP (r1 _) ?_|refine AP (r2 _) ?_|refine AP (j1 _ _ _) ?_)<;>conv=>whnf))
  refine QE (k:=1) (λ_=>rfl) (by omega) ?_;(conv=>whnf)
  (repeat' (refine AP (r3 _) ?_<;>conv=>whnf))
  refine Yx (k:=1) (λ_=>rfl) (by omega) ?_;(conv=>whnf)
  (repeat' ((first|refine ON rfl rfl ?_|refine AP (r4 _) ?_|refine AP (j2 _ _ _) ?_)<;>conv=>whnf))
  refine LE 1000 D.NW rfl rfl ?_;(repeat' (apply A2<;>conv=>whnf))
  refine IX (λ i _=>mx-i) (λ(i:Nat) (o:List Int)=>i<=mx/\o.length=F.length/\o.take i=F.take i) (λ i o=>[(9,.int .i64 i)]) (λ i o=>[(36,36,.rw 1 (o.map DT))]) 0 (List.replicate mx 0) ⟨by omega,by simp [Bn],by simp⟩ ?_;intro i o ⟨p1,p2,p3⟩ ih;(repeat' ((first|(apply A9<;>intro hc<;>try omega)|(apply B5;omega)|(apply BG;omega)|(apply DQ;omega)|apply A2)<;>conv=>whnf))
  ·obtain ⟨f1,f2⟩:=YQ p2 p3 (Ex i (by omega))
   refine NA i (if i=0 then ((mx:Int)+1) else 1+i-1) (by omega) (by rw[if_pos (by omega)]) (λ_=>rfl) (by omega) ?_;(conv=>whnf)
   (repeat' ((first|(apply BG;omega)|fail)<;>conv=>whnf))
   exact DP [] (by (conv=>whnf);exact ⟨rfl,rfl,rfl⟩) (ih (i+1) _ (by omega) ⟨by omega,f1,f2⟩)
  ·obtain ⟨f1,f2⟩:=YQ p2 p3 (Ex i (by omega))
   refine NA i (if i=0 then ((mx:Int)+1) else 1+i-1) (by omega) (by rw[if_neg (by omega)]) (λ_=>rfl) (by omega) ?_;(conv=>whnf)
   (repeat' ((first|(apply BG;omega)|fail)<;>conv=>whnf))
   exact DP [] (by (conv=>whnf);exact ⟨rfl,rfl,rfl⟩) (ih (i+1) _ (by omega) ⟨by omega,f1,f2⟩)
  have ho:=kE p2 p3 (by omega);subst ho;refine ⟨rfl,_,rfl,?_⟩;(conv=>whnf)
  (repeat' (refine ON rfl rfl ?_<;>conv=>whnf))
  refine FO (enc:=DT) (λ_=>rfl) rfl Bn.symm ?_;(conv=>whnf)
  refine BV ?_ ?_
  ·simp only[KI,hF,hmm,List.map_cons,List.map_nil,L0,List.flatMap_cons,List.flatMap_nil,List.append_nil]
   rfl
  ·exact gC (KI b a d c) rfl rfl (by simp [KI]))
theorem Aee {A B C:List (Int × Int)} (h:A.length<=100) (h2:B.length+C.length<=1000):(A++B).length+C.length<=1000000:=by rw[List.length_append];omega
theorem AcH (D:l8 L) (A B:List (Int × Int)) (q q1 q2:Bool) (h:A.length+B.length<=1000000):Ev L 48 [.sl q [[.sl q1 (A.map MI)],[.sl q2 (B.map MI)]]] (.sl false ((A++B).map MI)):=by
 have:=jV D [⟨q1,A⟩,⟨q2,B⟩] q (by simpa [L0] using h) (by simp)
 simpa [L0] using this
theorem AcG (D:l8 L) (B:List (Int × Int)) (q q1 q2:Bool) (h:B.length<=1000000):Ev L 48 [.sl q [[.sl q1 []],[.sl q2 (B.map MI)]]] (.sl false (B.map MI)):=by
 have:=jV D [⟨q1,[]⟩,⟨q2,B⟩] q (by simpa [L0] using h) (by simp)
 rw[show L0 [⟨q1,[]⟩,⟨q2,B⟩]=B by simp [L0]]at this;exact this
def X3 (b a:List Int) (c:Wd) (mx k:Nat):List (Int × Int) :=
 (if k<b.length then HZ ((b.take (k+1)).drop k) 1 0 else [])++(if 1<=k/\k<=a.length then HZ ((a.take k).drop (k-1)) (-1) (mx+1) else [])++(if k<mx then HZ [pw c.f] 1 (k+1) else [])
def NL (b a:List Int) (c:Wd) (mx k:Nat):List Nd:=(List.range k).map λ i=>⟨false,X3 b a c mx i⟩
def KP (b a:List Int) (d c:Wd):Nt :=
 ⟨d,c,(E7 b a:Int),false,NL b a c (E7 b a) (E7 b a+1),false,(List.range (E7 b a)).map λ i:Nat=>(E7 b a:Int)+1+(i+1:Nat),E7 b a+1⟩
theorem AgJ (b a:List Int) (c:Wd) (mx k:Nat):NL b a c mx (k+1)=NL b a c mx k++[⟨false,X3 b a c mx k⟩]:=Afq _ _
set_option maxHeartbeats 40000000 in
theorem Al0 (I:c5 L) (D:l8 L) (b a:List Int) (q1 q2:Bool) (d c:Wd) (hd:WV d) (hc:WV c) (l1:1<=b.length/\b.length<=49) (l2:a.length<=8) (hb : ∀ v∈b,FT c v) (ha : ∀ v∈a,FT c v/\FT c (-v)) :
  Ev L 52 [.sl q1 (b.map DT),.sl q2 (a.map DT),.agg (JP d),.agg (JP c)] (.g8 [.agg (FS (KP b a d c)),.int .i64 0]):=by
 have hw:=λ q q'=>uU I D b a q q' d c hd hc l1 l2 hb ha
 have y5:=hc;unfold WV at y5;have Pk:=PC (n:=c.f) (m:=23) (by omega);have zu:pw 23=8388608:=by unfold pw;rfl
 have xb:=HY c.f;have hx1:b.length<=E7 b a+1:=by unfold E7;omega
 have Co:a.length<=E7 b a:=by unfold E7;omega
 have Mt : ∀ k,k<=E7 b a->k<b.length\/(1<=k/\k<=a.length):=by unfold E7;omega
 have ru:=λ(q:Bool) (k:Nat) (hk:k<=1000)=>YM D [pw c.f] q 1 (k+1) (by simp) (Or.inl rfl) (by omega) (by simp;omega)
 have rb:=λ(q:Bool) (i j:Nat)=>YM D ((b.take j).drop i) q 1 0 (by simp;omega) (Or.inl rfl) (by omega) (λ v hv=>aP hc (hb v (List.mem_of_mem_take (List.mem_of_mem_drop hv))))
 have mc:(E7 b a:Int)<=1000:=by unfold E7;omega
 have ra:=λ(q:Bool) (i j:Nat)=>YM D ((a.take j).drop i) q (-1) (E7 b a+1) (by simp;omega) (Or.inr rfl) (by omega) (λ v hv=>aP hc (ha v (List.mem_of_mem_take (List.mem_of_mem_drop hv))).1)
 have hS:KP b a d c=⟨d,c,(E7 b a:Int),false,NL b a c (E7 b a) (E7 b a+1),false,(List.range (E7 b a)).map λ i:Nat=>(E7 b a:Int)+1+(i+1:Nat),E7 b a+1⟩:=rfl;have o6:=gC (KP b a d c) rfl rfl (by simp [KP,NL]);refine Ev.x D.QR rfl rfl ?_;(repeat' ((first|(apply A9<;>intro hc<;>try omega)|(apply BG;omega)|(apply DQ;omega)|apply BT|apply A2|refine AP (hw _ _) ?_)<;>conv=>whnf))
 all_goals first|rw[show (a.length:Int)=(E7 b a:Int) by unfold E7;omega]|rw[show (b.length:Int)-1=(E7 b a:Int) by unfold E7;omega]
 all_goals (
  generalize E7 b a=mx at *;generalize hF:((List.range mx).map λ i:Nat=>(mx:Int)+1+(i+1:Nat))=F at *;have Bn:F.length=mx:=by rw[<-hF];simp
  have Ex : ∀ i:Nat,i<mx->F[i]? = some ((mx:Int)+1+(i+1:Nat)):=λ i hi=>by
   rw[<-hF,List.getElem?_map,List.getElem?_range hi];rfl
  refine GJ (enc:=DT) 0 mx rfl rfl (by omega) ?_;(conv=>whnf)
  (repeat' ((first|(apply BG;omega)|(refine IY ?_ (λ_ _ => ?_);omega))<;>conv=>whnf))
  refine iI (λ k _ _ _=>mx+1-k) (λ(k:Nat) (ns:List Nd) (o:List Int) (fl:Bool)=>k<=mx+1/\ns=NL b a c mx k/\fl=decide (k=0)/\o.length=F.length/\o.take (k-1)=F.take (k-1)) (λ k ns o fl=>[(47,.int .i64 k)]) (λ k ns o fl=>bif fl then [(38,38,.rw 1 (o.map DT))] else [(13,13,.bx [.int .i64 d.b,.int .i64 d.f,.int .i64 d.r,.int .i64 d.o,.int .i64 c.b,.int .i64 c.f,.int .i64 c.r,.int .i64 c.o,.int .i64 mx,.row 1000 0 1 0 ns.length,.row 38 0 1 0 mx,.int .i64 (mx+1)]),(1000,106,.rw 1 (ns.map ZX)),(38,38,.rw 1 (o.map DT))]) [] [] 0 [] (List.replicate mx 0) true (by (conv=>whnf);exact ⟨rfl,rfl,rfl⟩) ⟨by omega,rfl,rfl,by simp [Bn],by simp⟩ ?_;intro k ns o fl ⟨p1,p2,p3,p4,p5⟩ ih;by_cases hk:k<=mx
  ·have sf:=Mt k hk
   have fc:X3 b a c mx k=(if k<b.length then HZ ((b.take (k+1)).drop k) 1 0 else [])++(if 1<=k/\k<=a.length then HZ ((a.take k).drop (k-1)) (-1) (mx+1) else [])++(if k<mx then HZ [pw c.f] 1 (k+1) else []):=rfl;have rb1:=λ q=>rb q (k:Int).toNat ((k:Int)+1).toNat
   have ra1:=λ q=>ra q ((k:Int)-1).toNat (k:Int).toNat
   have ru1:=λ q=>ru q k (by omega)
   have e1:((k:Int)+1).toNat=k+1:=by omega
   have e2:(k:Int).toNat=k:=by omega
   have e3:((k:Int)-1).toNat=k-1:=by omega
   have Ge:(NL b a c mx k).length=k:=by simp [NL]
   have iq:=PK (List.drop (k:Int).toNat (List.take ((k:Int)+1).toNat b)) 1 0;have jg:=PK (List.drop ((k:Int)-1).toNat (List.take (k:Int).toNat a)) (-1) (mx+1);have Pa:=PK [pw c.f] 1 (k+1);simp only[List.length_drop,List.length_take,List.length_cons,List.length_nil]at iq jg Pa;have eu:ns.length=k:=by rw[p2];exact Ge
   have hE : ∀ X,X=X3 b a c mx k->[AV.sl false (X.map MI)]=ZX ⟨false,X3 b a c mx k⟩:=λ X h=>by rw[h]
   cases fl
   ·have hk1:1<=k:=by
     rcases k with _|k
     ·simp at p3
     ·omega
    (repeat' ((first|(apply A9<;>intro hc<;>try omega)|(apply B5;omega)|(apply BG;omega)|(apply DQ;omega)|apply BT|(refine nC (λ_=>rfl) (rX ?_ ?_);omega)|refine J4 rfl ?_|refine ON rfl rfl ?_|refine Yz rfl ?_|apply A2|refine AP (rb1 _) ?_|refine AP (ra1 _) ?_|refine AP (ru1 _) ?_|refine AP (AcG D _ _ _ _ (by omega)) ?_|refine AP (AcH D _ _ _ _ _ (by first|omega|exact Aee (by omega) (by omega))) ?_)<;>conv=>whnf))
    all_goals (
     obtain ⟨f1,f2⟩:=YQ (i:=k-1) p4 p5 (Ex (k-1) (by omega));refine NA (k-1) ((mx:Int)+1+((k-1+1:Nat):Int)) (by omega) (by rw[show k-1+1=k by omega]) (λ_=>rfl) (by omega) ?_;(conv=>whnf)
     (repeat' (apply GY<;>conv=>whnf))
     refine H8 (enc:=ZX) ⟨false,X3 b a c mx k⟩ (hE _ ?_) rfl rfl (by omega) (by omega) ?_
     ·rw[fc]
      split<;>split<;>split<;>first|(exfalso;omega)|simp only[List.append_nil,List.nil_append,List.append_assoc,e1,e2,e3]
     ·(conv=>whnf)
      (repeat' ((first|(apply BG;omega)|fail)<;>conv=>whnf))
      exact DP [(1000,106)] (by (conv=>whnf);exact ⟨rfl,rfl,rfl⟩) (ih (k+1) _ _ false (by omega) ⟨by omega,by rw[AgJ,p2],by simp,f1,by rw[show k+1-1=k-1+1 by omega];exact f2⟩))
   ·have Oy:k=0:=by simpa using p3
    (repeat' ((first|(apply A9<;>intro hc<;>try omega)|(apply BG;omega)|apply BT|(refine nC (λ_=>rfl) (rX ?_ ?_);omega)|apply GY|refine J4 rfl ?_|refine ON rfl rfl ?_|refine Yz rfl ?_|apply A2|refine AP (rb1 _) ?_|refine AP (ru1 _) ?_|refine AP (AcG D _ _ _ _ (by omega)) ?_|refine AP (AcH D _ _ _ _ _ (by first|omega|exact Aee (by omega) (by omega))) ?_)<;>conv=>whnf))
    all_goals (
     refine ZF (enc:=ZX) ⟨false,X3 b a c mx k⟩ (hE _ ?_) rfl (by omega) ?_
     ·rw[fc]
      split<;>split<;>split<;>first|(exfalso;omega)|simp only[List.append_nil,List.nil_append,List.append_assoc,e1,e2,e3]
     ·(conv=>whnf)
      (repeat' ((first|(apply BG;omega)|fail)<;>conv=>whnf))
      exact CZ [(1000,106)] (ih (k+1) [⟨false,X3 b a c mx k⟩] o false (by omega) ⟨by omega,by rw[AgJ,Oy];rfl,by simp,p4,by rw[Oy];rfl⟩))
  ·obtain rfl:k=mx+1:=by omega
   cases fl
   ·(repeat' ((first|(apply A9<;>intro hc<;>try omega)|(refine FO (λ_=>rfl) rfl ?_ ?_;(first|rfl|simp))|apply A2)<;>conv=>whnf))
    have ho:=kE p4 p5 (by omega);subst ho;refine FO (enc:=DT) (λ_=>rfl) rfl Bn.symm ?_;(conv=>whnf)
    skip
    refine BV ?_ o6;rw[hS,p2]
   ·simp at p3)
end Go.b8
namespace Go.b8
open F
attribute [local irreducible] AJ A3 BU AU FE BR C1 CK DS DE FA G7 DR B2 EH E5 AL CQ BC pw FM E2 F7 G8 GX EG FK EE FZ
variable {L:Lib}
variable (b a:List Int) (d c:Wd)
variable {b a d c}
set_option maxHeartbeats 4000000
end Go.b8

namespace Go.b8
open F
attribute [local irreducible] AJ A3 BU AU FE BR C1 CK DS DE FA G7 DR B2 EH E5 AL CQ BC pw FM E2 F7 G8 GX EG FK EE FZ
variable {L:Lib}
set_option maxHeartbeats 8000000
end Go.b8

namespace Go.b8
open F
attribute [local irreducible] AJ A3 BU AU FE BR C1 CK DS DE FA G7 DR B2 EH E5 AL CQ BC pw FM E2 F7 G8 GX EG FK EE FZ
set_option maxHeartbeats 4000000
variable {L:Lib}
section
variable (n:Nt)
end
end Go.b8

namespace Go.b8
open F
attribute [local irreducible] AJ A3 BU AU FE BR C1 CK DS DE FA G7 DR B2 EH E5 AL CQ BC pw FM E2 F7 G8 GX EG FK EE FZ
variable {L:Lib}
set_option maxHeartbeats 4000000
end Go.b8

namespace Go.b8
theorem Yl {R:List (Option (Nat × List (List AV)))} {i e z:Nat} {es:List (List AV)} {K:Option (Nat × List (List AV))->Prop} (he:e=i) (hi:i<R.length) (h:K (some (z,es))):FM (R.set i (some (z,es))) e K:=by
 subst he;exact ⟨_,by rw[List.getElem?_set,if_pos rfl,if_pos hi],h⟩
theorem Yj {R:List (Option (Nat × List (List AV)))} {i e z:Nat} {es:List (List AV)} {K:Nat->List (List AV)->Prop} (he:e=i) (hi:i<R.length) (h:K z es):E2 (R.set i (some (z,es))) e K:=by
 subst he;exact ⟨z,es,by rw[List.getElem?_set,if_pos rfl,if_pos hi],h⟩
theorem iU {R:List (Option (Nat × List (List AV)))} {i e z:Nat} {es:List (List AV)} {K:List (Option (Nat × List (List AV)))->Prop} (he:e=i) (hi:i<R.length) (h:K (R.set i (some (z,es)))):F7 R e z es K:=by
 subst he;exact ⟨hi,h⟩
def hQ (S:FQ):Nat->Rat
 | 0=>S.d
 | j+1=>CI S.c (wQ S j)
theorem Ari {r:List Rat} (h:aI r=r) (hn:r.length≠0):r.getD (r.length-1) 0≠0:=by
 have hl:=AgK r;rw[h]at hl;obtain ⟨n,wz⟩ : ∃ n,r.length=n+1:=⟨r.length-1,by omega⟩;rw[wz,NB]at hl;rw[wz,Nat.add_sub_cancel];intro h0;rw[if_pos h0]at hl;have:=jH r n
 omega
def CU (x:Rat):Rat:=if x.num<0 then -x else x
end Go.b8

namespace Go.b8
section
variable {M ky:Nat} {g:List Pt}
end
end Go.b8

namespace Go.b8
end Go.b8

namespace Go.b8
def O1 (vals:List Int):List (Int × Int)->Int
 | []=>0
 | t::ts=>t.2*vals.getD t.1.toNat 0+O1 vals ts
theorem Agu (vals:List Int) (hv : ∀ v∈vals,-8388608<=v/\v<=8388608) : ∀ (ts:List (Int × Int)) (acc:Int) (k:Nat),(∀ t∈ts,-16777216<=t.2/\t.2<=16777216)->k+ts.length<=1000 -> -140737488355328*k<=acc/\acc<=140737488355328*k->WC vals acc ts=acc+O1 vals ts
 | [],acc,k,_,_,_=>by simp [WC,O1]
 | t::ts,acc,k,ht,hk,ha=>by
  have h1:=ht t (by simp);have h2 : -8388608<=vals.getD t.1.toNat 0/\vals.getD t.1.toNat 0<=8388608:=by
   rw[List.getD_eq_getElem?_getD];cases h:vals[t.1.toNat]? with
   | none=>simp
   | some v=>exact hv v (zM h)
  have h3 : -140737488355328<=t.2*vals.getD t.1.toNat 0/\t.2*vals.getD t.1.toNat 0<=140737488355328:=by
   generalize vals.getD t.1.toNat 0=v at *;obtain ⟨a1,a2⟩:=h1;obtain ⟨b1,b2⟩:=h2;have:=Int.natAbs_mul t.2 v
   have e1:t.2.natAbs<=16777216:=by omega
   have e2:v.natAbs<=8388608:=by omega
   have e3:=Nat.mul_le_mul e1 e2;omega
  have hl:k+1+ts.length<=1000:=by simp at hk;omega
  simp only[WC,O1];rw[IntWalk.i64_in (t.2*vals.getD t.1.toNat 0) (by omega),IntWalk.i64_in _ (by omega)];rw[Agu vals hv ts _ (k+1) (λ t h=>ht t (List.mem_cons_of_mem _ h)) hl (by omega)];omega
theorem iL {w:Wd} {v:Int} (h:FT w v) : -8388608<=v/\v<=8388608:=by
 obtain ⟨hw,e1,e2⟩:=h;obtain ⟨h1,h2,h3,h4⟩:=RQ hw;omega
theorem cE {l:List Int} {sg fr:Int} {t:Int × Int} (h:t∈HZ l sg fr) : ∃ i:Nat,∃ v∈l,i<l.length/\t=(fr+i,sg*v):=by
 simp only[HZ,List.mem_map,List.mem_range]at h;obtain ⟨i,hi,rfl⟩:=h;exact ⟨i,l[i],List.getElem_mem hi,hi,by simp [List.getD_eq_getElem?_getD,zE hi]⟩
theorem AeA {n:Nat} {a b k:Int} (h:k∈MF n a b):k=b \/ ∃ i:Nat,1<=i/\i<n/\k=a+i-1:=by
 simp only[MF,List.mem_map,List.mem_range]at h;obtain ⟨i,hi,rfl⟩:=h;by_cases h0:i=0
 ·exact Or.inl (by rw[if_pos h0])
 ·exact Or.inr ⟨i,by omega,hi,by rw[if_neg h0]⟩
variable {b a:List Int} {d c:Wd}
theorem Anj (hd:WV d) (hc:WV c) (l1:1<=b.length/\b.length<=49) (l2:a.length<=8) (hb : ∀ v∈b,FT c v) (ha : ∀ v∈a,FT c v/\FT c (-v)):HD (KH b a d c)=true:=by
 rw[F5];refine ⟨hd,hc,⟨by simp only[KH];omega,by simp only[KH];omega,by simp [KH],by simp [KH,MF]⟩,?_,?_,by simp only[KH];omega,by simp only[KH,List.length_cons,List.length_nil];omega⟩
 ·simp only[KH,JZ,Bool.and_true,Bool.and_eq_true,decide_eq_true_eq,List.all_eq_true]
  refine ⟨by simp [PK];omega,λ t ht => ?_⟩;simp only[I6,decide_eq_true_eq];rcases List.mem_append.1 ht with h|h
  ·obtain ⟨i,v,hv,hi,rfl⟩:=cE h
   exact ⟨by simp only;omega,by simp only;omega,Or.inr (by simpa using hb v hv)⟩
  ·obtain ⟨i,v,hv,hi,rfl⟩:=cE h
   exact ⟨by simp only;omega,by simp only;omega,Or.inr (by simpa using (ha v hv).2)⟩
 ·simp only[KH,MW,List.all_eq_true,decide_eq_true_eq,List.length_cons,List.length_nil]
  intro k hk;rcases List.mem_append.1 hk with h|h
  all_goals (rcases AeA h with rfl|⟨i,h1,h2,rfl⟩<;>refine decide_eq_true ?_<;>omega)
end Go.b8

namespace Go.b8
theorem Aqx {f r:Int} (hf:0<=f/\f<=62) (hr:1<=r/\r<=3) (m:Int):OD (pw f*m) f r=m:=by
 have hp:=HY f;have e1:pw f*m%pw f=0:=Int.mul_emod_right _ _;have e2:pw f*m/pw f=m:=Int.mul_ediv_cancel_left _ (by omega);unfold OD;rw[if_pos ⟨hf.1,hf.2,hr.1,hr.2⟩];by_cases h0:f=0
 ·rw[if_pos h0,h0,Afn,Int.one_mul]
 ·rw[if_neg h0,if_neg (by rw[e1];have:=HY (f-1);omega),e2]
theorem ApX {w:Wd} {v:Int} (h:FT w v):cN w v=v:=by
 obtain ⟨hw,h1,h2⟩:=h;obtain ⟨e1,e2,e3,e4⟩:=RQ hw;have hw':=hw;unfold WV at hw';unfold cN;rw[if_pos hw];by_cases ho:w.o=2
 ·rw[if_pos ho]
  have hp:=qI (n:=w.b) (by omega);unfold mI;rw[if_pos (by omega)];by_cases hn:0<=v
  ·rw[Int.emod_eq_of_lt hn (by omega),if_neg (by omega)]
  ·have:v%pw w.b=v+pw w.b:=by
    rw[<-Int.add_emod_right];exact Int.emod_eq_of_lt (by omega) (by omega)
   rw[this,if_pos (by omega)];omega
 ·rw[if_neg ho]
  unfold lL;omega
variable {d c:Wd} {p:List Int}
end Go.b8

namespace Go.b8
variable {d c:Wd} {p:List Int}
theorem ApU (n:Nat):List.range n=List.range' 0 n:=List.range_eq_range'
end Go.b8

namespace Go.b8
theorem cC (l:List Int):(HX l).length=l.length:=by simp [HX]
theorem Ad3 (a b:List Int):HX (a++b)=HX a++HX b:=by simp [HX]
theorem wM (l:List Int) (i:Nat):(HX l).getD i 0=((l.getD i 0:Int):Rat):=by
 simp only[HX,List.getD_eq_getElem?_getD,List.getElem?_map];cases l[i]? <;> rfl
theorem Agq (vals:List Int) : ∀ ts,EX (HX vals) ts=((O1 vals ts:Int):Rat)
 | []=>rfl
 | t::ts=>by simp only[EX,O1,Agq vals ts,wM,Rat.intCast_add,Rat.intCast_mul]
theorem Ago {u:Int} (vals:List Int) : ∀ ts:List (Int × Int),(∀ t∈ts,∃ m,t.2=u*m) -> ∃ q,O1 vals ts=u*q
 | [],_=>⟨0,by simp [O1]⟩
 | t::ts,h=>by
  obtain ⟨m,hm⟩:=h t (by simp);obtain ⟨q,hq⟩:=Ago vals ts (λ t ht=>h t (by simp [ht]));exact ⟨m*vals.getD t.1.toNat 0+q,by rw[O1,hq,hm,Int.mul_add,Int.mul_assoc]⟩
variable {n:Nt}
theorem Acb (i:Nat) : ∀ (z:List Rat) (k:Nat),CI ((List.range' k z.length).map λ(j:Nat)=>if (i:Int)=(j:Int) then (1:Rat) else 0) z=if k<=i then z.getD (i-k) 0 else 0
 | [],k=>by simp [CI]
 | x::z,k=>by
  simp only[List.length_cons,List.range'_succ,List.map_cons,CI];rw[Acb i z (k+1)];by_cases h:i=k
  ·subst h
   rw[if_pos rfl,if_neg (by omega),if_pos (by omega),Nat.sub_self];simp [Rat.add_zero]
  ·rw[if_neg (by omega),Rat.zero_mul,Rat.zero_add]
   by_cases h2:k<=i
   ·rw[if_pos (by omega),if_pos h2,show i-k=(i-(k+1))+1 by omega]
    rfl
   ·rw[if_neg (by omega),if_neg h2]
theorem Arq (z:List Rat):WT ((List.range z.length).map λ(j:Nat)=>EU z.length (j:Int)) z z:=by
 intro i hi;rw[List.map_map];have e:(List.range z.length).map ((λ c=>List.getD c i 0) ∘ λ(j:Nat)=>EU z.length (j:Int))=(List.range z.length).map λ(j:Nat)=>if (i:Int)=(j:Int) then (1:Rat) else 0:=by
  refine List.map_congr_left λ j _ => ?_
  simp only[Function.comp,EU,List.getD_eq_getElem?_getD,List.getElem?_map,List.getElem?_range hi];rfl
 rw[e,List.range_eq_range',Acb i z 0,if_pos (by omega),Nat.sub_zero]
theorem AoF (hb:HD n=true) {x:Rat} {now:List Rat} (hl:(now.length:Int)=n.s) {m:Nat} (hm:m<1+now.length+n.nodes.length) :
  (GT ((pw n.c.f:Int):Rat) (-1) 0 (x::now) (DC n)).getD m 0=CI ((List.range n.s.toNat).map λ(j:Nat)=>(ER n ((j:Int)+1) (-1)).getD m 0) now+(ER n 0 (-1)).getD m 0*x:=by
 obtain ⟨h1,h2,h3,h4,h5,h6⟩:=(F5 n).1 hb;have hu:=HY n.c.f;have Hd:((pw n.c.f:Int):Rat)≠0:=by
  intro e;have:pw n.c.f=0:=by exact_mod_cast e
  omega
 have H:=WT.all Hd (DC n) 0 _ _ (Arq (x::now)) (λ c hc=>by
  obtain ⟨j,_,rfl⟩:=List.mem_map.1 hc;exact Y5 _ _) (λ i ts hi t ht=>by
  simp only[DC,List.getElem?_map]at hi;cases hn:n.nodes[i]? with
  | none=>rw[hn]at hi;cases hi
  | some nd =>
   rw[hn]at hi;cases hi;have:=List.all_eq_true.1 (gF h4 hn) t ht
   simp only[I6,decide_eq_true_eq]at this;simp only[List.length_cons];omega) m (by rw[bV];simp [DC];omega)
 rw[H,List.map_map,List.map_map,List.length_cons,List.range_succ_eq_map,List.map_cons,CI,List.map_map,Rat.add_comm];have e1:n.s.toNat=now.length:=by omega
 have e2:(1+n.s).toNat=now.length+1:=by omega
 rw[e1];congr 1
 ·congr 1
  refine List.map_congr_left λ j _ => ?_
  simp only[Function.comp,ER,e2];rfl
 ·simp only[Function.comp,ER,e2]
  rfl
end Go.b8

namespace Go.b8
def K5 (n:Nt) (k:Int):FQ where
 a:=(EN n).a
 b:=n.next.map λ e=>(ER n (-1) k).getD e.toNat 0
 c:=(EN n).c
 d:=(ER n (-1) k).getD n.out.toNat 0
theorem AjG (e:Int):B3 (.g8 [.agg [.sl false [],.sl false [],.sl false [],.bool false,.sl false [],.sl false []],.int .i64 e]):=by
 simp [B3,EC,IH]
def pH (n:Nt) (k:Int):AV:=if 0<=k/\k<n.nodes.length then .g8 [.agg (eS (K5 n k)),.int .i64 0] else .g8 [.agg [.sl false [],.sl false [],.sl false [],.bool false,.sl false [],.sl false []],.int .i64 1]
theorem AoV {a b:List Rat} {i:Nat} {x:Rat} (h:a[i]? = some x) (hb:i<b.length):(a.take i++b.drop i).set i x=a.take (i+1)++b.drop (i+1):=by
 have hl:=(zS h).1;have ht:(a.take i).length=i:=by rw[List.length_take];omega
 rw[List.set_append_right _ _ (by omega),ht,Nat.sub_self,List.drop_eq_getElem_cons hb,List.set_cons_zero,List.take_add_one,h,List.append_assoc];rfl
end Go.b8

namespace Go.b8
def o0 (ε f:Nat->Rat):Nat->Rat
 | 0=>0
 | N+1=>o0 ε f N+ε N*f N
theorem bN {ε f g:Nat->Rat} : ∀ N,(∀ k,k<N->f k=g k)->o0 ε f N=o0 ε g N
 | 0,_=>rfl
 | N+1,h=>by rw[o0,o0,bN N (λ k hk=>h k (by omega)),h N (by omega)]
theorem jQ (ε f g:Nat->Rat) : ∀ N,o0 ε (λ k=>f k+g k) N=o0 ε f N+o0 ε g N
 | 0=>by simp only[o0];grind
 | N+1=>by simp only[o0,jQ ε f g N];grind
theorem uR (ε f:Nat->Rat) (c:Rat) : ∀ N,o0 ε (λ k=>c*f k) N=c*o0 ε f N
 | 0=>by simp only[o0];grind
 | N+1=>by simp only[o0,uR ε f c N];grind
theorem AlE (ε f:Nat->Rat) (u:Rat) (N:Nat):o0 ε (λ k=>f k/u) N=o0 ε f N/u:=by
 rw[Rat.div_def,Rat.mul_comm,<-uR];exact bN N λ k _=>by rw[Rat.div_def,Rat.mul_comm]
theorem oK (ε:Nat->Rat) : ∀ N,o0 ε (λ_=>0) N=0
 | 0=>rfl
 | N+1=>by rw[o0,oK ε N];grind
theorem Acq (ε:Nat->Rat) (i:Nat) : ∀ N,o0 ε (λ k=>if (i:Int)=(k:Int) then 1 else 0) N=if i<N then ε i else 0
 | 0=>rfl
 | N+1=>by
  rw[o0,Acq ε i N];by_cases h:i=N
  ·subst h
   rw[if_neg (show ¬ i<i by omega),if_pos rfl,if_pos (show i<i+1 by omega)];grind
  ·rw[if_neg (show ¬ (i:Int)=(N:Int) by omega)]
   by_cases h2:i<N
   ·rw[if_pos h2,if_pos (show i<N+1 by omega)];grind
   ·rw[if_neg h2,if_neg (show ¬ i<N+1 by omega)];grind
theorem Agp {A B:List Rat} {C:Nat->List Rat} {ε:Nat->Rat} {N:Nat} : ∀ ts:List (Int × Int),(∀ t∈ts,A.getD t.1.toNat 0=B.getD t.1.toNat 0+o0 ε (λ k=>(C k).getD t.1.toNat 0) N)->EX A ts=EX B ts+o0 ε (λ k=>EX (C k) ts) N
 | [],_=>by simp only[EX,oK];grind
 | t::ts,h=>by
  simp only[EX];rw[h t (by simp),Agp ts (λ u hu=>h u (by simp [hu])),jQ ε (λ k=>(t.2:Rat)*(C k).getD t.1.toNat 0) (λ k=>EX (C k) ts),uR];grind
def IB (u:Rat) (ε:Nat->Rat):Nat->List Rat->List (List (Int × Int))->List Rat
 | _,vals,[]=>vals
 | k,vals,ts::r=>IB u ε (k+1) (vals++[EX vals ts/u+ε k]) r
theorem vK (u:Rat) (ε:Nat->Rat) (ts:List (Int × Int)) : ∀ (l:List (List (Int × Int))) (k:Nat) (vals:List Rat),IB u ε k vals (l++[ts])=IB u ε k vals l++[EX (IB u ε k vals l) ts/u+ε (k+l.length)]
 | [],k,vals=>rfl
 | a::l,k,vals=>by
  rw[List.cons_append,IB,vK u ε ts l,IB,List.length_cons,show k+1+l.length=k+(l.length+1) by omega]
theorem vJ (u:Rat) (ε:Nat->Rat) : ∀ (k:Nat) (vals:List Rat) (l:List (List (Int × Int))),(IB u ε k vals l).length=vals.length+l.length
 | _,_,[]=>rfl
 | k,vals,ts::r=>by rw[IB,vJ u ε (k+1)];simp;omega
theorem Arn (m i:Nat):(EU m (-1)).getD i 0=0:=by
 simp only[EU,List.getD_eq_getElem?_getD,List.getElem?_map];cases (List.range m)[i]? with
 | none=>rfl
 | some j=>simp only[Option.map_some,Option.getD_some];rw[if_neg (by omega)]
theorem Adi {u:Rat} (ε:Nat->Rat) (vals:List Rat) (N:Nat) (l:List (List (Int × Int))) (hN:l.length<=N) (ht : ∀ i ts,l[i]? = some ts -> ∀ t∈ts,t.1.toNat<vals.length+i) : ∀ i,i<=l.length -> ∀ m,m<vals.length+i ->
  (IB u ε 0 vals (l.take i)).getD m 0=(GT u (-1) 0 vals (l.take i)).getD m 0+o0 ε (λ k=>(GT u (k:Int) 0 (EU vals.length (-1)) (l.take i)).getD m 0) N
 | 0,_,m,hm=>by
  rw[List.take_zero,IB,GT,bN N (g:=λ_=>0) (λ k _=>by rw[GT];exact Arn _ _),oK];grind
 | i+1,hi,m,hm=>by
  have ih:=Adi (u:=u) ε vals N l hN ht i (by omega);obtain ⟨ts,fc⟩ : ∃ ts,l[i]? = some ts:=⟨_,zE (by omega)⟩;have hl:(l.take i).length=i:=by rw[List.length_take];omega
  have e1:IB u ε 0 vals (l.take (i+1))=IB u ε 0 vals (l.take i)++[EX (IB u ε 0 vals (l.take i)) ts/u+ε i]:=by
   rw[List.take_add_one,fc,Option.toList_some,vK,hl,Nat.zero_add]
  have e2:=oY u (-1) vals l i ts fc;have e3:=λ k:Nat=>oY u (k:Int) (EU vals.length (-1)) l i ts fc
  have l1:(IB u ε 0 vals (l.take i)).length=vals.length+i:=by rw[vJ,hl]
  have l2:(GT u (-1) 0 vals (l.take i)).length=vals.length+i:=by rw[bV,hl]
  have l3 : ∀ k:Nat,(GT u (k:Int) 0 (EU vals.length (-1)) (l.take i)).length=vals.length+i:=λ k=>by rw[bV,hl,Y5]
  rw[e1,e2];by_cases er:m<vals.length+i
  ·rw[fK (by omega),fK (by omega),ih m er]
   congr 1;exact bN N λ k _=>by rw[e3,fK (by rw[l3];exact er)]
  ·rw[fJ (by omega),fJ (by omega),bN N (g:=λ k=>EX (GT u (k:Int) 0 (EU vals.length (-1)) (l.take i)) ts/u+(if (i:Int)=(k:Int) then 1 else 0)) (λ k _=>by rw[e3,fJ (by rw[l3];omega)]),
    jQ ε (λ k=>EX (GT u (k:Int) 0 (EU vals.length (-1)) (l.take i)) ts/u) (λ k=>if (i:Int)=(k:Int) then 1 else 0),Acq,if_pos (show i<N by omega),AlE,
    Agp (B:=GT u (-1) 0 vals (l.take i)) (C:=λ k=>GT u (k:Int) 0 (EU vals.length (-1)) (l.take i)) (ε:=ε) (N:=N) ts (λ t h=>ih _ (ht i ts fc t h)),if_neg (by omega)]
   simp only[Rat.div_def];grind
variable {n:Nt}
def fA (n:Nt) (e:Int):List Rat:=(List.range n.s.toNat).map λ(j:Nat)=>(ER n ((j:Int)+1) (-1)).getD e.toNat 0
def gX (n:Nt) (e:Int):Rat:=(ER n 0 (-1)).getD e.toNat 0
def gK (n:Nt) (k:Nat) (e:Int):Rat:=(ER n (-1) (k:Int)).getD e.toNat 0
theorem nH {α:Type} (f g:α->Rat) : ∀ l:List α,OO (l.map f) (l.map g)=l.map λ e=>f e+g e
 | []=>rfl
 | e::l=>by
  show (f e+g e)::OO (l.map f) (l.map g)=_;rw[nH f g l];rfl
end Go.b8

namespace Go.b8
open F
attribute [local irreducible] AJ A3 BU AU FE BR C1 CK DS DE FA G7 DR B2 EH E5 AL CQ BC pw FM E2 F7 G8 GX EG FK EE FZ
variable {L:Lib}
set_option maxHeartbeats 16000000
set_option maxRecDepth 8000
def mz (Q:List (List Rat)) (n i:Nat):List (Option (Nat × List (List AV))):=fz none (HA 3 eQ (Q.take i)) n
theorem xO {Q:List (List Rat)} {n i:Nat} (hi:i<=n):(mz Q n i).length=n:=by
 refine fG ?_;simp only[HA,List.length_map,List.length_take];omega
theorem xQ (Q:List (List Rat)) (n:Nat):mz Q n 0=List.replicate n none:=by simp [mz,fz]
theorem xP {Q:List (List Rat)} {n i:Nat} {row:List Rat} (h:Q[i]? = some row) (hi:i<n):(mz Q n i).set i (some (3,row.map eQ))=mz Q n (i+1):=by
 have h1:=(zS h).1;have hl:(HA 3 eQ (Q.take i)).length=i:=by simp only[HA,List.length_map,List.length_take];omega
 have:=fH (z:=none) (l:=HA 3 eQ (Q.take i)) (m:=n) (x:=some (3,row.map eQ)) (by omega)
 rw[hl]at this;rw[mz,this,mz,lZ h];simp [HA]
theorem xN {Q:List (List Rat)} {n:Nat} (h:Q.length=n):mz Q n n=HA 3 eQ Q:=by
 rw[mz,zT (by omega)];exact fE (by simp [HA,h])
theorem AmY (N:w9 L) (m:Nat) (hm:m<=65536):NM L 206 [.int .i64 (m:Int)] 3 ((List.replicate m (0:Rat)).map eQ):=by
 have hO:=IV N.toa5 0 (by omega);refine NM.x N.WB rfl rfl ?_;(repeat' (apply A2<;>conv=>whnf))
 refine GJ (enc:=eO) none m rfl rfl (by omega) ?_;(conv=>whnf)
 skip
 refine G6 (λ i=>m-i) (λ(i:Nat)=>i<=m) (λ i=>[(8,.int .i64 i)]) (λ i=>[(6,6,.rw 3 ((GU (List.replicate i 0) m).map eO))]) [] [] 0 (by first|exact (by (conv=>whnf);exact ⟨rfl,rfl,rfl⟩)|(rw[<-QY];exact (by (conv=>whnf);exact ⟨rfl,rfl,rfl⟩))) (by omega) ?_;intro i p1 ih;by_cases hi:i<m
 ·have hl:=OU (l:=List.replicate i (0:Rat)) (m:=m) (by simp;omega)
  have hs:=PZ (l:=List.replicate i (0:Rat)) (m:=m) (x:=0) (by simp;omega);rw[List.length_replicate]at hs;(repeat' ((first|(apply A9<;>intro hc<;>try omega)|(apply B5;omega)|apply A2|refine AP (hO) ?_)<;>conv=>whnf))
  refine KS (enc:=eO) (some 0) rfl (λ e=>by cases e<;>rfl) (by omega) ?_;(conv=>whnf)
  (repeat' ((first|(apply BG;omega)|fail)<;>conv=>whnf))
  rw[hs];rw[show List.replicate i (0:Rat)++[0]=List.replicate (i+1) 0 by rw[List.replicate_succ']];exact CZ [] (ih (i+1) (by omega) (by omega))
 obtain rfl:i=m:=by omega
 clear ih;rw[QX (by simp)];(repeat' ((first|(apply A9<;>intro hc<;>try omega)|apply A2)<;>conv=>whnf))
 exact ⟨rfl,rfl,by simp,rfl,LW _⟩
theorem vI (N:w9 L) (q:Bool) (l:List Rat) (i:Int) (k:Nat) (h0:0<=i) (hl:Bs k l) (hk:k<2199023255552) (hn:l.length<=1000000):Ev L 205 [.sl q (l.map eQ),.int .i64 i] (.agg (eQ (l.getD i.toNat 0))):=by
 have hO:=IV N.toa5 0 (by omega);refine Ev.x N.V9 rfl rfl ?_;by_cases hi:i<l.length
 ·obtain ⟨x,hx⟩ : ∃ x,l[i.toNat]? = some x:=⟨_,zE (by omega)⟩
  have hT:=bT N.toa5 (hl.at hx) hk;rw[kI hx];(repeat' ((first|(apply A9<;>intro hc<;>try omega)|apply BT|(refine CN (by assumption) ?_ rfl ?_;omega)|apply A2|refine AP (hT) ?_)<;>conv=>whnf))
  exact BV rfl (GD _)
 ·rw[Anl (l:=l) (by omega)]
  (repeat' ((first|(apply A9<;>intro hc<;>try omega)|apply BT|apply A2|refine AP (hO) ?_)<;>conv=>whnf))
  exact BV rfl (GD _)
theorem Ada (N:w9 L) (q:Bool) (l:List Rat) (k:Nat) (ht:aI l=l) (hl:Bs k l) (hk:k<2199023255552) (hn:l.length<=1000000):Ev L 204 [.sl q (l.map eQ)] (.int .i64 ((l.length-1:Nat):Int)):=by
 refine Ev.x N.WA rfl rfl ?_;(repeat' ((first|(apply DQ;omega)|apply BT|apply A2)<;>conv=>whnf))
 refine JN ?_;by_cases h2:l.length<=1
 ·(repeat' ((first|(apply A9<;>intro hc<;>try omega)|apply A2)<;>conv=>whnf))
  exact ET (by omega)
 ·obtain ⟨x,hx⟩ : ∃ x,l[l.length-1]? = some x:=⟨_,zE (by omega)⟩
  have nr:l[((l.length:Int)-1).toNat]? = some x:=by rw[show ((l.length:Int)-1).toNat=l.length-1 by omega];exact hx
  have hxn:=Ari ht (by omega);rw[kI hx]at hxn;have hS:=YO N.toa5 (hl.at hx) hk;have hs:=V6 (x:=x);generalize v9 x.num=s at *;have jk:s≠0:=λ h=>hxn (hs.1 h)
  (repeat' ((first|(apply A9<;>intro hc<;>try omega)|(refine CN (by assumption) ?_ rfl ?_;omega)|apply A2|refine AP (hS) ?_)<;>conv=>whnf))
  exact ET (by omega)
theorem AmT (N:w9 L) (q1 q2:Bool) (B A:List Rat) (k:Nat) (hB:Bs k B) (hA:Bs k A) (hk:k<2199023255552) (lB:B.length<=49) (lA:A.length<=49) (h0:A[0]? = some 1):Ev L 201 [.agg [.sl q1 (B.map eQ),.sl q2 (A.map eQ)]] (.bool true):=by
 have c1:=jH B B.length;have c2:=jH A A.length;have yh:=AcV N q1 B k hB hk (by omega);have ny:=AcV N q2 A k hA hk (by omega);have hO:=IV N.toa5 1 (by omega);have hC:=jU N (Bt.one 1) (Bt.one 1) (by omega) (by omega);rw[AfP.2 rfl]at hC;have hAl:0<A.length:=(zS h0).1;have Bi:A[(0:Int).toNat]? = some 1:=h0;generalize NB B B.length=d1 at *;generalize NB A A.length=d2 at *;refine Ev.x N.V2 rfl rfl ?_;(repeat' ((first|(apply A9<;>intro hc<;>try omega)|apply BT|(refine CN (by assumption) ?_ rfl ?_;omega)|apply A2|refine AP (yh) ?_|refine AP (ny) ?_|refine AP (hO) ?_|refine AP (hC) ?_)<;>conv=>whnf))
 exact JO rfl
theorem OG {α:Type} {l:List α} {i:Nat} {x:α} (h:l[i]? = some x):l.take (i+1)=l.take i++[x]:=by
 rw[List.take_add_one,h];rfl
theorem AjH (S:FQ) (e:Int):B3 (.g8 [.agg (eS S),.int .i64 e]):=by
 have:=eB S
 simp only[B3,EC,true_and,and_true]at this ⊢;exact this
theorem Zs {a:List (List Rat)} {i j:Nat} {r:List Rat} {x:Rat} (hr:a[j]? = some r) (hx:r[i]? = some x):(GK a i)[j]? = some x:=by
 simp only[GK,List.getElem?_map,hr,Option.map_some,kI hx]
theorem mO {R:List (Option (Nat × List (List AV)))} {e:Nat} {r:Option (Nat × List (List AV))} {K:Option (Nat × List (List AV))->Prop} (h:R[e]? = some r) (hk:K r):FM R e K:=by
 unfold FM;exact ⟨r,h,hk⟩
def gT (n:Nt) (inj:Int) (j:Nat):Int:=if j<n.s.toNat then (j:Int)+1 else if inj<0 then 0 else -1
def PY (n:Nt) (inj:Int) (j:Nat):Int:=if j<n.s.toNat then -1 else if inj<0 then -1 else inj
def JH (n:Nt) (inj:Int) (k j:Nat):List Rat:=GT ((pw n.c.f:Int):Rat) (PY n inj j) 0 (EU (1+n.s).toNat (gT n inj j)) ((DC n).take k)
def H2 (n:Nt) (inj:Int) (k m:Nat):List Rat:=(List.range (n.s.toNat+1)).map λ j=>(JH n inj k j).getD m 0
def K9 (n:Nt) (inj:Int) (k:Nat):List (List Rat):=(List.range ((1+n.s).toNat+k)).map (H2 n inj k)
def JE (n:Nt) (inj:Int) (k:Nat) (ts:List (Int × Int)) (t:Nat):List Rat:=(List.range (n.s.toNat+1)).map λ j=>EX (JH n inj k j) (ts.take t)/((pw n.c.f:Int):Rat)
theorem tP (n:Nt) (inj:Int) (k j:Nat) (hk:k<=n.nodes.length):(JH n inj k j).length=(1+n.s).toNat+k:=by
 simp only[JH,bV,Y5,List.length_take,DC,List.length_map];omega
theorem cQ (n:Nt) (inj:Int) (k m:Nat):(H2 n inj k m).length=n.s.toNat+1:=by simp [H2]
theorem qQ (n:Nt) (inj:Int) (k:Nat):(K9 n inj k).length=(1+n.s).toNat+k:=by simp [K9]
theorem Zq (n:Nt) (inj:Int) (k j:Nat) (h2:WV n.c) (cq:PU (DC n)) (hk:k<=n.nodes.length) (eu:n.nodes.length<=5):Bs 117150 (JH n inj k j):=by
 have l7:(DC n).length=n.nodes.length:=by simp [DC]
 have xq:=HY n.c.f;have pe:(pw n.c.f).natAbs<=2^24:=by
  have hf:n.c.f<24:=by unfold WV at h2;omega
  have h9:(2:Nat)^n.c.f.toNat<=2^24:=Nat.pow_le_pow_right (by omega) (by omega);rw[pw];exact_mod_cast h9
 have h:=oX (ex:=PY n inj j) xq pe ((DC n).take k) 0 (EU (1+n.s).toNat (gT n inj j)) ⟨λ ts h=>cq.len ts (List.mem_of_mem_take h),λ ts h=>cq.cf ts (List.mem_of_mem_take h)⟩ (Bs.unit _ _ _);rw[List.length_take,l7,Nat.min_eq_left hk,Nat.zero_add]at h;intro x hx;refine (h x hx).le ?_;rcases k with _|_|_|_|_|_|k
 ·decide
 ·decide
 ·decide
 ·decide
 ·decide
 ·decide
 ·omega
theorem Zr (n:Nt) (inj:Int) (k j:Nat) {ts:List (Int × Int)} (h:(DC n)[k]? = some ts):JH n inj (k+1) j=JH n inj k j++[EX (JH n inj k j) ts/((pw n.c.f:Int):Rat)+(if (k:Int)=PY n inj j then 1 else 0)]:=oY _ _ _ _ k ts h
theorem Ap5 (n:Nt) (inj:Int) (hs:0<=n.s):H2 n inj 0 0=EU (n.s.toNat+1) (if inj<0 then n.s else -1):=by
 simp only[H2,JH,List.take_zero,GT,EU];refine List.map_congr_left λ j hj => ?_
 have hj:=List.mem_range.1 hj;rw[List.getD_eq_getElem?_getD,List.getElem?_map,List.getElem?_range (by omega)];simp only[Option.map_some,Option.getD_some,gT];congr 1;rw[eq_iff_iff];split<;>split<;>omega
theorem Ap4 (n:Nt) (inj:Int) (i:Nat) (hs:0<=n.s) (hi:i<n.s.toNat):H2 n inj 0 (i+1)=EU (n.s.toNat+1) (i:Int):=by
 simp only[H2,JH,List.take_zero,GT,EU];refine List.map_congr_left λ j hj => ?_
 have hj:=List.mem_range.1 hj;rw[List.getD_eq_getElem?_getD,List.getElem?_map,List.getElem?_range (by omega)];simp only[Option.map_some,Option.getD_some,gT];congr 1;rw[eq_iff_iff];split
 ·omega
 ·split<;>omega
theorem Ap8 (n:Nt) (inj:Int) (k:Nat) {ts:List (Int × Int)} (h:(DC n)[k]? = some ts) (hk:k<n.nodes.length):K9 n inj (k+1)=K9 n inj k++[H2 n inj (k+1) ((1+n.s).toNat+k)]:=by
 unfold K9;rw[show (1+n.s).toNat+(k+1)=((1+n.s).toNat+k)+1 by omega,List.range_succ,List.map_append,List.map_singleton];congr 1;refine List.map_congr_left λ m hm => ?_
 have hm:=List.mem_range.1 hm;unfold H2;refine List.map_congr_left λ j _ => ?_
 rw[Zr n inj k j h,fK (by rw[tP n inj k j (by omega)];omega)]
theorem Afy (n:Nt) (inj:Int) (k:Nat) {ts:List (Int × Int)} (h:(DC n)[k]? = some ts) (hk:k<n.nodes.length) :
  H2 n inj (k+1) ((1+n.s).toNat+k)=(List.range (n.s.toNat+1)).map λ j=>EX (JH n inj k j) ts/((pw n.c.f:Int):Rat)+(if (k:Int)=PY n inj j then 1 else 0):=by
 unfold H2;refine List.map_congr_left λ j _ => ?_
 rw[Zr n inj k j h,fJ (by rw[tP n inj k j (by omega)])]
theorem Ap7 (n:Nt) (inj:Int) (k:Nat) {ts:List (Int × Int)} (h:(DC n)[k]? = some ts) (hk:k<n.nodes.length) (m7:(k:Int)≠inj):JE n inj k ts ts.length=H2 n inj (k+1) ((1+n.s).toNat+k):=by
 rw[Afy n inj k h hk];unfold JE;refine List.map_congr_left λ j _ => ?_
 have : ¬ (k:Int)=PY n inj j:=by unfold PY;split<;>(try split)<;>omega
 rw[if_neg this,Rat.add_zero,List.take_length]
theorem Ap6 (n:Nt) (inj:Int) (k:Nat) {ts:List (Int × Int)} (h:(DC n)[k]? = some ts) (hk:k<n.nodes.length) (he:(k:Int)=inj) {x:Rat} (hx:(JE n inj k ts ts.length)[n.s.toNat]? = some x):(JE n inj k ts ts.length).set n.s.toNat (x+1)=H2 n inj (k+1) ((1+n.s).toNat+k):=by
 rw[Afy n inj k h hk];refine List.ext_getElem? λ j => ?_
 rw[List.getElem?_set];have hl:(JE n inj k ts ts.length).length=n.s.toNat+1:=by simp [JE]
 by_cases hj:n.s.toNat=j
 ·subst hj
  rw[if_pos rfl,if_pos (by omega),List.getElem?_map,List.getElem?_range (by omega)];simp only[JE,List.getElem?_map,List.getElem?_range (show n.s.toNat<n.s.toNat+1 by omega),Option.map_some,Option.some.injEq,List.take_length]at hx ⊢;have:(k:Int)=PY n inj n.s.toNat:=by unfold PY;rw[if_neg (by omega),if_neg (by omega)];exact he
  rw[if_pos this,hx]
 ·rw[if_neg hj]
  by_cases h2:j<n.s.toNat+1
  ·simp only[JE,List.getElem?_map,List.getElem?_range h2,Option.map_some,List.take_length]
   have : ¬ (k:Int)=PY n inj j:=by unfold PY;rw[if_pos (by omega)];omega
   rw[if_neg this,Rat.add_zero]
  ·rw[List.getElem?_eq_none (by omega),List.getElem?_eq_none (by simp;omega)]
theorem Aku (c f:Int):Rat.divInt c (pw f)=((c:Int):Rat)/((pw f:Int):Rat):=by
 obtain ⟨d,hd⟩:=Int.eq_ofNat_of_zero_le (show 0<=pw f by have:=HY f;omega);rw[hd,Rat.divInt_ofNat,Rat.mkRat_eq_div];rfl
theorem Ql (n:Nt) (inj:Int) (k:Nat) (ts:List (Int × Int)) (t j:Nat) (hj:j<n.s.toNat+1):(JE n inj k ts t)[j]? = some (EX (JH n inj k j) (ts.take t)/((pw n.c.f:Int):Rat)):=by
 simp only[JE,List.getElem?_map,List.getElem?_range hj,Option.map_some]
theorem Aq6 (n:Nt) (inj:Int) (k:Nat) {ts:List (Int × Int)} {t j:Nat} {e:Int × Int} (he:ts[t]? = some e) (hj:j<n.s.toNat+1) :
  (JE n inj k ts (t+1))[j]? = some (EX (JH n inj k j) (ts.take t)/((pw n.c.f:Int):Rat)+((e.2:Int):Rat)/((pw n.c.f:Int):Rat)*(JH n inj k j).getD e.1.toNat 0):=by
 rw[Ql n inj k ts (t+1) j hj,Qh he];congr 1;simp only[Rat.div_def];grind
theorem Aq7 (n:Nt) (inj:Int) (k:Nat) (ts:List (Int × Int)) {m:Nat} (hm:n.s.toNat=m):EU (m+1) (-1)=JE n inj k ts 0:=by
 rw[JE,hm,EU];refine List.map_congr_left λ j _ => ?_
 rw[if_neg (by omega),List.take_zero,EX,Rat.div_def,Rat.zero_mul]
theorem Am8 (N:n7 L) (n:Nat) (j:Int) (hn:n<=65536):NM L 135 [.int .i64 (n:Int),.int .i64 j] 3 ((EU n j).map eQ):=by
 have hO:=O6 N.toa6 0 (by omega);have hI:=O6 N.toa6 1 (by omega);refine NM.x N.VR rfl rfl ?_;(repeat' (apply A2<;>conv=>whnf))
 refine G5 (λ i=>n-i) (λ(i:Nat)=>i<=n) (λ i=>[(6,.int .i64 i),(5,.row 5 0 3 0 i)]) (λ i=>[(5,5,.rw 3 ((EU i j).map eQ))]) 0 (by omega) ?_;intro i p1 ih;have hlen:=Y5 i j;by_cases hi:i<n
 ·have vh:=Arp i j
  by_cases hj:(i:Int)=j
  ·rw[if_pos hj]at vh
   (repeat' ((first|(apply A9<;>intro hc<;>try omega)|apply GY|apply A2|refine AP (hI) ?_)<;>conv=>whnf))
   refine H8 (enc:=eQ) ((1:Int):Rat) rfl hlen.symm rfl (by omega) (by omega) ?_;(conv=>whnf)
   (repeat' ((first|(apply BG;omega)|fail)<;>conv=>whnf))
   rw[show (EU i j++[((1:Int):Rat)]).length=i+1 by simp [hlen],show EU i j++[((1:Int):Rat)]=EU (i+1) j from vh.symm];exact CZ [(5,18)] (ih (i+1) (by omega) (by omega))
  ·rw[if_neg hj]at vh
   (repeat' ((first|(apply A9<;>intro hc<;>try omega)|apply GY|apply A2|refine AP (hO) ?_)<;>conv=>whnf))
   refine H8 (enc:=eQ) ((0:Int):Rat) rfl hlen.symm rfl (by omega) (by omega) ?_;(conv=>whnf)
   (repeat' ((first|(apply BG;omega)|fail)<;>conv=>whnf))
   rw[show (EU i j++[((0:Int):Rat)]).length=i+1 by simp [hlen],show EU i j++[((0:Int):Rat)]=EU (i+1) j from vh.symm];exact CZ [(5,22)] (ih (i+1) (by omega) (by omega))
 ·obtain rfl:i=n:=by omega
  clear ih;(repeat' ((first|(apply A9<;>intro hc<;>try omega)|apply A2)<;>conv=>whnf))
  exact ⟨rfl,rfl,by simp [hlen],rfl,LW _⟩
theorem Ac9 (N:bn L) (n:Nt) (inj:Int) (hv:HD n=true) (cq:PU (DC n)) (eu:n.nodes.length<=5) (Uu:GW inj) :
  Ev L 163 [.agg (FS n),.int .i64 inj] (.sl false ((K9 n inj n.nodes.length).map λ r=>[AV.sl false (r.map eQ)])):=by
 rw[F5]at hv;obtain ⟨h1,h2,h3,h4,h5,h6⟩:=hv;unfold GW at Uu;have hwf:0<=n.c.f/\n.c.f<=62:=by unfold WV at h2;omega
 have xq:=HY n.c.f;have pe:(pw n.c.f).natAbs<=2^24:=by
  have hf:n.c.f<24:=by unfold WV at h2;omega
  have h9:(2:Nat)^n.c.f.toNat<=2^24:=Nat.pow_le_pow_right (by omega) (by omega);rw[pw];exact_mod_cast h9
 have e24:(2:Nat)^24=16777216:=rfl;obtain ⟨m,hm⟩ : ∃ m:Nat,n.s=m:=⟨n.s.toNat,(Int.toNat_of_nonneg (by omega)).symm⟩;have ue:n.s.toNat=m:=by omega
 have ki:(1+n.s).toNat=m+1:=by omega
 have hZ : ∀ j:Int,NM L 135 [.int .i64 ((m:Int)+1),.int .i64 j] 3 ((EU (m+1) j).map eQ):=λ j=>Am8 N.ton7 (m+1) j (by omega)
 have ff:H2 n inj 0 0=EU (m+1) (if inj<0 then n.s else -1):=by rw[Ap5 n inj (by omega),ue]
 have Xh : ∀ i:Nat,i<m->H2 n inj 0 (i+1)=EU (m+1) (i:Int):=λ i hi=>by rw[Ap4 n inj i (by omega) (by omega),ue]
 rw[hm]at ff;refine Ev.x N.VP rfl rfl ?_;refine Ahu 6 ?_;(conv=>whnf)
 refine Ahs 5 5 rfl ?_;(repeat' ((first|(apply A9<;>intro hc<;>try omega)|(apply BG;omega)|apply A2)<;>conv=>whnf))
 all_goals rw[hm]
 rw[if_neg (by omega)]at ff;rotate_left
 rw[if_pos (by omega)]at ff;rotate_left
 all_goals
  refine WR (enc:=eQ) (m+1) (hZ _) (by simp [EU]) ?_;rw[<-ff];(conv=>whnf)
  refine B5 (by rw[List.length_map,cQ,ue]) ?_;refine mJ (ll:=[]) (r:=H2 n inj 0 0) (en:=eQ) rfl (by simp) (by simp) ?_;(conv=>whnf)
  skip
  try refine DP (cn:=[(6,.int .i64 0),(5,.row 20 0 1 0 1),(2,.ptr 2 0 0 0),(0+1,.int .i64 inj)]) (M':=[(20,5,.mx (HA 3 eQ ([]++[H2 n inj 0 0]))),(2,2,.bx [.int .i64 n.d.b,.int .i64 n.d.f,.int .i64 n.d.r,.int .i64 n.d.o,.int .i64 n.c.b,.int .i64 n.c.f,.int .i64 n.c.r,.int .i64 n.c.o,.int .i64 m,.sl n.qn (n.nodes.map ZX),.sl n.qx (n.next.map DT),.int .i64 n.out])]) [(20,29)] (by (conv=>whnf);exact ⟨rfl,rfl,rfl⟩) ?_
  refine G5 (λ i=>m-i) (λ(i:Nat)=>i<=m) (λ i=>[(6,.int .i64 i),(5,.row 20 0 1 0 (1+i))]) (λ i=>[(20,5,.mx (HA 3 eQ ((List.range (1+i)).map (H2 n inj 0))))]) 0 (by omega) ?_;intro i p1 ih;have hlr:((List.range (1+i)).map (H2 n inj 0)).length=1+i:=by simp
  by_cases hi:i<m
  ·have Xh:=Xh i hi
   have hsc:(List.range (1+i)).map (H2 n inj 0)++[H2 n inj 0 (i+1)]=(List.range (1+(i+1))).map (H2 n inj 0):=by
    rw[show 1+(i+1)=(1+i)+1 by omega,List.range_succ,List.map_append,List.map_singleton,Nat.add_comm i 1]
   (repeat' ((first|(apply A9<;>intro hc<;>try omega)|(apply BG;omega)|apply A2)<;>conv=>whnf))
   refine WR (enc:=eQ) (m+1) (hZ _) (by simp [EU]) ?_;rw[<-Xh];(conv=>whnf)
   refine B5 (by rw[List.length_map,cQ,ue]) ?_;refine mJ (r:=H2 n inj 0 (i+1)) (en:=eQ) hlr.symm (by omega) (by omega) ?_;rw[hsc,show ((List.range (1+(i+1))).map (H2 n inj 0)).length=1+(i+1) by simp];(conv=>whnf)
   (repeat' ((first|(apply BG;omega)|fail)<;>conv=>whnf))
   exact CZ [(20,43)] (ih (i+1) (by omega) (by omega))
  obtain rfl:i=m:=by omega
  clear ih;rw[show (List.range (1+i)).map (H2 n inj 0)=K9 n inj 0 by rw[K9,ki,Nat.add_comm]];have l7:(DC n).length=n.nodes.length:=by simp [DC]
  (repeat' ((first|(apply A9<;>intro hc<;>try omega)|apply A2)<;>conv=>whnf))
  refine G6 (λ k=>n.nodes.length-k) (λ(k:Nat)=>k<=n.nodes.length) (λ k=>[(7,.int .i64 k),(5,.row 20 0 1 0 (i+1+k))]) (λ k=>[(20,5,.mx (HA 3 eQ (K9 n inj k)))]) [] [] 0 (by first|exact (by (conv=>whnf);exact ⟨rfl,rfl,rfl⟩)|(rw[Nat.add_comm 1 i];exact (by (conv=>whnf);exact ⟨rfl,rfl,rfl⟩))) (by omega) ?_;intro k p2 ih;have gj:=qQ n inj k;by_cases hk:k<n.nodes.length
  ·obtain ⟨nd,hnd⟩ : ∃ nd,n.nodes[k]? = some nd:=⟨_,zE hk⟩
   have zp:n.nodes[(k:Int).toNat]? = some nd:=hnd;have fc:(DC n)[k]? = some nd.ts:=by simp [DC,hnd]
   have Ej:=gF h4 hnd;have hL:nd.ts.length<=5:=cq.len _ (zM fc);have hC:=cq.cf _ (zM fc);(repeat' ((first|(apply A9<;>intro hc<;>try omega)|(apply BG;omega)|apply BT|apply A2)<;>conv=>whnf))
   refine WR (enc:=eQ) (i+1) (hZ _) (by simp [EU]) ?_;rw[show EU (i+1) (-1)=JE n inj k nd.ts 0 from Aq7 n inj k nd.ts ue];(conv=>whnf)
   refine G5 (λ t=>nd.ts.length-t) (λ(t:Nat)=>t<=nd.ts.length) (λ t=>[(9,.int .i64 t)]) (λ t=>[(54,54,.rw 3 ((JE n inj k nd.ts t).map eQ))]) 0 (by omega) ?_;intro t p3 th;by_cases ht:t<nd.ts.length
   ·obtain ⟨e,he⟩ : ∃ e,nd.ts[t]? = some e:=⟨_,zE ht⟩
    have jy:nd.ts[(t:Int).toNat]? = some e:=he;have Eb:=zM he;have k6:=List.all_eq_true.1 Ej e Eb;simp only[I6,decide_eq_true_eq]at k6;have Fm:=hC e Eb;have hF:=oP N.toa6 e.2 (pw n.c.f) (by omega) (by omega);rw[Aku]at hF;have Hy:Bt 48 (((e.2:Int):Rat)/((pw n.c.f:Int):Rat)):=(Bt.ofInt Fm).yd xq pe;(repeat' ((first|(apply A9<;>intro hc<;>try omega)|apply BT|(refine CN (by assumption) ?_ rfl ?_;omega)|apply A2)<;>conv=>whnf))
    refine G6 (λ j=>i+1-j) (λ(j:Nat)=>j<=i+1) (λ j=>[(11,.int .i64 j)]) (λ j=>[(54,54,.rw 3 (((JE n inj k nd.ts (t+1)).take j++(JE n inj k nd.ts t).drop j).map eQ))]) [] [] 0 (by first|exact (by (conv=>whnf);exact ⟨rfl,rfl,rfl⟩)|(rw[List.take_zero,List.nil_append,List.drop_zero];exact (by (conv=>whnf);exact ⟨rfl,rfl,rfl⟩))) (by omega) ?_;intro j p4 jh;have Ed:(JE n inj k nd.ts (t+1)).length=i+1:=by simp [JE,ue]
    have jk:(JE n inj k nd.ts t).length=i+1:=by simp [JE,ue]
    have wy:((JE n inj k nd.ts (t+1)).take j++(JE n inj k nd.ts t).drop j).length=i+1:=by rw[List.length_append,List.length_take,List.length_drop];omega
    by_cases hj:j<i+1
    ·have Oj:=Zq n inj k j h2 cq (by omega) eu
     have o6:=tP n inj k j (by omega);have j8:=Aq6 n inj k he (show j<n.s.toNat+1 by omega);have nm:=Ql n inj k nd.ts t j (by omega);obtain ⟨x,hx⟩ : ∃ x,(H2 n inj k e.1.toNat)[j]? = some x:=⟨_,zE (by rw[cQ];omega)⟩;have vj:(JH n inj k j).getD e.1.toNat 0=x:=by
      rw[H2,List.getElem?_map,List.getElem?_range (by omega),Option.map_some,Option.some.injEq]at hx;exact hx
     have vu:Bt 117150 x:=by rw[<-vj];exact Oj.getD _
     rw[vj]at j8;have Hz:Bt 586000 (EX (JH n inj k j) (nd.ts.take t)/((pw n.c.f:Int):Rat)):=by
      have a1:=Oj.sum (nd.ts.take t) (j:=24) (λ e he=>Bt.ofInt (hC e (List.mem_of_mem_take he)));have a2:Bt 585900 (EX (JH n inj k j) (nd.ts.take t)):=a1.le (by
       have:(nd.ts.take t).length<=5:=by rw[List.length_take];omega
       omega)
      exact (a2.yd xq pe).le (by omega)
     have Pm:(K9 n inj k)[e.1.toNat]? = some (H2 n inj k e.1.toNat):=by
      rw[K9,List.getElem?_map,List.getElem?_range (by omega)];rfl
     have mc:((JE n inj k nd.ts (t+1)).take j++(JE n inj k nd.ts t).drop j)[j]? = some (EX (JH n inj k j) (nd.ts.take t)/((pw n.c.f:Int):Rat)):=by
      rw[List.getElem?_append_right (by rw[List.length_take];omega),List.length_take,Nat.min_eq_left (by omega),Nat.sub_self,List.getElem?_drop,Nat.add_zero];exact nm
     have jl:=AoV (b:=JE n inj k nd.ts t) j8 (by omega);have Mj:=cQ n inj k e.1.toNat;generalize EX (JH n inj k j) (nd.ts.take t)/((pw n.c.f:Int):Rat)=sm at *;have hM:=bQ N.toa6 Hy vu (by omega) (by omega);have hA:=YK N.toa6 Hz (Hy.mul vu) (by omega) (by omega);(repeat' ((first|(apply A9<;>intro hc<;>try omega)|(apply B5;omega)|(refine IY ?_ (λ_ _ => ?_);omega)|(apply EM;omega)|(refine dT ?_ (λ_=>rfl) (λ v hv => ?_);omega)|apply A2|refine AP (hF) ?_)<;>conv=>whnf))
     cases mc.symm.trans hv;skip
     refine Aif (by omega) (λ r hr => ?_);cases Pm.symm.trans hr;(conv=>whnf)
     skip
     refine B5 (by rw[List.length_map];omega) ?_;(conv=>whnf)
     refine Aic Pm ?_;(conv=>whnf)
     (repeat' ((first|(refine dT ?_ (λ_=>rfl) (λ v hv => ?_);omega)|fail)<;>conv=>whnf))
     cases hx.symm.trans hv;(repeat' ((first|(apply B5;omega)|refine AP (hM) ?_|refine AP (hA) ?_)<;>conv=>whnf))
     refine KS (enc:=eQ) (sm+((e.2:Int):Rat)/((pw n.c.f:Int):Rat)*x) rfl (λ_=>rfl) (by omega) ?_;(conv=>whnf)
     rw[jl];(repeat' ((first|(apply BG;omega)|fail)<;>conv=>whnf))
     exact CZ [] (jh (j+1) (by omega) (by omega))
    ·obtain rfl:j=i+1:=by omega
     clear jh;rw[zT (by omega),List.drop_of_length_le (by omega),List.append_nil];(repeat' ((first|(apply A9<;>intro hc<;>try omega)|(apply BG;omega)|apply A2)<;>conv=>whnf))
     exact CZ [] (th (t+1) (by omega) (by omega))
   ·obtain rfl:t=nd.ts.length:=by omega
    clear th;have hI:=O6 N.toa6 1 (by omega);have jk:(JE n inj k nd.ts nd.ts.length).length=i+1:=by simp [JE,ue]
    have hsu:=Ap8 n inj k fc hk;have Mf:=qQ n inj (k+1);have nm:=Ql n inj k nd.ts nd.ts.length i (by omega);have Oj:=Zq n inj k i h2 cq (by omega) eu;have Hz:Bt 586000 (EX (JH n inj k i) (nd.ts.take nd.ts.length)/((pw n.c.f:Int):Rat)):=by
     have a1:=Oj.sum (nd.ts.take nd.ts.length) (j:=24) (λ e he=>Bt.ofInt (hC e (List.mem_of_mem_take he)));have a2:Bt 585900 (EX (JH n inj k i) (nd.ts.take nd.ts.length)):=a1.le (by
      have:(nd.ts.take nd.ts.length).length<=5:=by rw[List.length_take];omega
      omega)
     exact (a2.yd xq pe).le (by omega)
    have Mj:=cQ n inj (k+1) ((1+n.s).toNat+k);by_cases Oz:(k:Int)=inj
    ·all_goals try omega
     all_goals
      have hri:=Ap6 n inj k fc hk Oz (x:=EX (JH n inj k i) (nd.ts.take nd.ts.length)/((pw n.c.f:Int):Rat)) (by rw[ue];exact nm);rw[ue]at hri;generalize EX (JH n inj k i) (nd.ts.take nd.ts.length)/((pw n.c.f:Int):Rat)=sm at *;have hA:=YK N.toa6 Hz (Bt.ofInt (k:=0) (z:=1) (by decide)) (by omega) (by omega);(repeat' ((first|(apply A9<;>intro hc<;>try omega)|(apply B5;omega)|apply BT|(refine CN (by assumption) ?_ rfl ?_;omega)|(refine dT ?_ (λ_=>rfl) (λ v hv => ?_);omega)|apply A2|refine AP (hI) ?_)<;>conv=>whnf))
      cases nm.symm.trans hv;(repeat' ((first|(apply B5;omega)|refine AP (hA) ?_)<;>conv=>whnf))
      refine KS (enc:=eQ) (sm+1) rfl (λ_=>rfl) (by omega) ?_;(conv=>whnf)
      rw[hri];refine B5 (by rw[List.length_map];omega) ?_;refine mJ (r:=H2 n inj (k+1) ((1+n.s).toNat+k)) (en:=eQ) (by omega) (by omega) (by omega) ?_;rw[<-hsu,Mf,ki];(conv=>whnf)
      (repeat' ((first|(apply BG;omega)|fail)<;>conv=>whnf))
      exact CZ [(20,123)] (ih (k+1) (by omega) (by omega))
    ·rw[Ap7 n inj k fc hk Oz]
     (repeat' ((first|(apply A9<;>intro hc<;>try omega)|apply BT|(refine CN (by assumption) ?_ rfl ?_;omega)|apply A2)<;>conv=>whnf))
     refine B5 (by rw[List.length_map];omega) ?_;refine mJ (r:=H2 n inj (k+1) ((1+n.s).toNat+k)) (en:=eQ) (by omega) (by omega) (by omega) ?_;rw[<-hsu,Mf,ki];(conv=>whnf)
     (repeat' ((first|(apply BG;omega)|fail)<;>conv=>whnf))
     exact CZ [(20,123)] (ih (k+1) (by omega) (by omega))
  ·obtain rfl:k=n.nodes.length:=by omega
   clear ih;(repeat' ((first|(apply A9<;>intro hc<;>try omega)|apply BT|apply A2)<;>conv=>whnf))
   refine WX (λ_=>rfl) rfl (by omega) ?_;(conv=>whnf)
   refine BV rfl ?_;simp only[B3,true_and];exact ZR (λ r=>by simp only[EC,B3,and_true,true_and];exact LW r) _
abbrev eV (r:List Rat):List AV:=[.sl false (r.map eQ)]
def H4 (n:Nt) (R:List (List Rat)):FQ where
 a:=n.next.map λ e=>(R.getD e.toNat []).take n.s.toNat
 b:=n.next.map λ e=>(R.getD e.toNat []).getD n.s.toNat 0
 c:=(R.getD n.out.toNat []).take n.s.toNat
 d:=(R.getD n.out.toNat []).getD n.s.toNat 0
theorem Adb (N:bn L) (n:Nt) (R:List (List Rat)) (hv:HD n=true) (hR:(R.length:Int)=1+n.s+n.nodes.length) (hr : ∀ r∈R,r.length=n.s.toNat+1) :
  Ev L 164 [.agg (FS n),.sl false (R.map eV)] (.agg (eS (H4 n R))):=by
 rw[F5]at hv;obtain ⟨h1,h2,h3,h4,h5,h6⟩:=hv;have si : ∀ e∈n.next,0<=e/\e<=n.s+n.nodes.length:=λ e he=>by simpa using List.all_eq_true.1 h5 e he
 obtain ⟨m,hm⟩ : ∃ m:Nat,n.s=m:=⟨n.s.toNat,(Int.toNat_of_nonneg (by omega)).symm⟩;have ue:n.s.toNat=m:=by omega
 obtain ⟨ro,Ci⟩ : ∃ r,R[n.out.toNat]? = some r:=⟨_,zE (by omega)⟩;have AJT:=hr ro (zM Ci);obtain ⟨x,hx⟩ : ∃ x,ro[m]? = some x:=⟨_,zE (by omega)⟩;have nr:ro[(m:Int).toNat]? = some x:=hx;have jb:(H4 n R).c=ro.take m:=by simp only[H4,List.getD_eq_getElem?_getD,Ci,ue,Option.getD_some]
 have uz:(H4 n R).d=x:=by simp only[H4,List.getD_eq_getElem?_getD,Ci,ue,Option.getD_some,hx]
 have gq:(H4 n R).a.length=m:=by simp [H4];omega
 have nf:(H4 n R).b.length=m:=by simp [H4];omega
 refine Ev.x N.VQ rfl rfl ?_;(repeat' ((first|(refine CN (by assumption) ?_ rfl ?_;omega)|apply A2)<;>conv=>whnf))
 rw[hm];refine QE (λ_=>rfl) (by omega) ?_;(conv=>whnf)
 (repeat' ((first|(refine CN (by assumption) ?_ rfl ?_;omega)|fail)<;>conv=>whnf))
 refine IX (λ i _=>m-i) (λ(i:Nat) (f3:Bool)=>i<=m/\f3=decide (i=0)) (λ i f3=>[(6,.int .i64 i)]) (λ i f3=>bif f3 then [] else [(5,5,.bx ([.row 45 0 1 0 i,.row 62 0 3 0 i,.sl false ((ro.take m).map eQ)]++eQ x)),(45,45,.rw 1 (((H4 n R).a.take i).map eV)),(62,62,.rw 3 (((H4 n R).b.take i).map eQ))]) 0 true ⟨by omega,rfl⟩ ?_;intro i f3 ⟨p1,p2⟩ ih;by_cases hi:i<m
 ·obtain ⟨e,he⟩ : ∃ e,n.next[i]? = some e:=⟨_,zE (by omega)⟩
  have Co:n.next[(i:Int).toNat]? = some e:=he
  have hen:=si e (zM he);obtain ⟨re,Wi⟩ : ∃ r,R[e.toNat]? = some r:=⟨_,zE (by omega)⟩;have Mb:=hr re (zM Wi);obtain ⟨y,hy⟩ : ∃ y,re[m]? = some y:=⟨_,zE (by omega)⟩;have Ai:re[(m:Int).toNat]? = some y:=hy;have ha:(H4 n R).a[i]? = some (re.take m):=by simp only[H4,List.getElem?_map,he,Option.map_some,List.getD_eq_getElem?_getD,Wi,ue,Option.getD_some]
  have hb:(H4 n R).b[i]? = some y:=by simp only[H4,List.getElem?_map,he,Option.map_some,List.getD_eq_getElem?_getD,Wi,ue,Option.getD_some,hy]
  have hta:((H4 n R).a.take i).length=i:=by rw[List.length_take];omega
  have Ha:((H4 n R).b.take i).length=i:=by rw[List.length_take];omega
  have Wt:((H4 n R).a.take (i+1)).length=i+1:=by rw[List.length_take];omega
  have Wu:((H4 n R).b.take (i+1)).length=i+1:=by rw[List.length_take];omega
  have hsa:=lZ ha;have hsb:=lZ hb;cases f3
  ·(repeat' ((first|(apply A9<;>intro hc<;>try omega)|(refine CN (by assumption) ?_ rfl ?_;omega)|apply A2)<;>conv=>whnf))
   refine QE (λ_=>rfl) (by omega) ?_;(conv=>whnf)
   (repeat' (apply GY<;>conv=>whnf))
   refine H8 (enc:=eV) (re.take m) rfl hta.symm rfl (by omega) (by omega) ?_;rw[<-hsa,Wt];(conv=>whnf)
   (repeat' ((first|(refine CN (by assumption) ?_ rfl ?_;omega)|apply GY)<;>conv=>whnf))
   refine H8 (enc:=eQ) y rfl Ha.symm rfl (by omega) (by omega) ?_;rw[<-hsb,Wu];(conv=>whnf)
   (repeat' ((first|(apply BG;omega)|fail)<;>conv=>whnf))
   exact CZ [(45,1000045),(62,1000062)] (ih (i+1) false (by omega) ⟨by omega,by simp⟩)
  ·obtain rfl:i=0:=by simpa using p2.symm
   (repeat' ((first|(apply A9<;>intro hc<;>try omega)|(refine CN (by assumption) ?_ rfl ?_;omega)|apply A2)<;>conv=>whnf))
   refine QE (λ_=>rfl) (by omega) ?_;(conv=>whnf)
   (repeat' (apply GY<;>conv=>whnf))
   refine ZF (enc:=eV) (re.take m) rfl rfl (by omega) ?_;rw[show [re.take m]=(H4 n R).a.take (0+1) by rw[hsa];rfl];(conv=>whnf)
   (repeat' ((first|(refine CN (by assumption) ?_ rfl ?_;omega)|apply GY)<;>conv=>whnf))
   refine ZF (enc:=eQ) y rfl rfl (by omega) ?_;rw[show [y]=(H4 n R).b.take (0+1) by rw[hsb];rfl];(conv=>whnf)
   (repeat' ((first|(apply BG;omega)|fail)<;>conv=>whnf))
   exact CZ [] (ih (0+1) false (by omega) ⟨by omega,by simp⟩)
 ·obtain rfl:i=m:=by omega
  clear ih;rw[zT (show (H4 n R).a.length<=i by omega),zT (show (H4 n R).b.length<=i by omega)];cases f3
  ·(repeat' ((first|(apply A9<;>intro hc<;>try omega)|apply A2)<;>conv=>whnf))
   refine FO (enc:=eV) (λ_=>rfl) rfl gq.symm ?_;(conv=>whnf)
   refine FO (enc:=eQ) (λ_=>rfl) rfl nf.symm ?_;(conv=>whnf)
   exact BV (by rw[<-uz,<-jb];rfl) (eB _)
  ·obtain rfl:i=0:=by simpa using p2.symm
   have Hx:(H4 n R).a=[]:=List.eq_nil_of_length_eq_zero gq;have jx:(H4 n R).b=[]:=List.eq_nil_of_length_eq_zero nf;(repeat' ((first|(apply A9<;>intro hc<;>try omega)|apply A2)<;>conv=>whnf))
   exact BV (by rw[<-uz,<-jb,eS,Hx,jx];rfl) (eB _)
theorem AjU (n:Nt) (inj:Int) (j:Nat) (hj:j<n.s.toNat):JH n inj n.nodes.length j=ER n ((j:Int)+1) (-1):=by
 have l7:(DC n).length=n.nodes.length:=by simp [DC]
 rw[JH,<-l7,List.take_length,PY,gT,if_pos hj,if_pos hj];rfl
theorem AjT (n:Nt) (inj:Int):JH n inj n.nodes.length n.s.toNat=if inj<0 then ER n 0 (-1) else ER n (-1) inj:=by
 have l7:(DC n).length=n.nodes.length:=by simp [DC]
 rw[JH,<-l7,List.take_length];unfold PY gT;rw[if_neg (Nat.lt_irrefl _),if_neg (Nat.lt_irrefl _)];by_cases h:inj<0
 ·simp only[if_pos h];rfl
 ·simp only[if_neg h];rfl
theorem qR (n:Nt) (inj:Int) {m:Nat} (hm:m<(1+n.s).toNat+n.nodes.length):(K9 n inj n.nodes.length).getD m []=H2 n inj n.nodes.length m:=by
 rw[List.getD_eq_getElem?_getD,K9,List.getElem?_map,List.getElem?_range hm];rfl
theorem AfA (n:Nt) (inj:Int) (m:Nat):(H2 n inj n.nodes.length m).take n.s.toNat=(List.range n.s.toNat).map λ(j:Nat)=>(ER n ((j:Int)+1) (-1)).getD m 0:=by
 rw[H2,<-List.map_take,List.range_succ,List.take_append_of_le_length (by simp),zT (by simp)];refine List.map_congr_left λ j hj => ?_
 rw[AjU n inj j (List.mem_range.1 hj)]
theorem Afz (n:Nt) (inj:Int) (m:Nat):(H2 n inj n.nodes.length m).getD n.s.toNat 0=(if inj<0 then ER n 0 (-1) else ER n (-1) inj).getD m 0:=by
 rw[H2,List.getD_eq_getElem?_getD,List.getElem?_map,List.getElem?_range (by omega),Option.map_some,Option.getD_some,AjT]
theorem Agx (n:Nt) (inj:Int) (hv:HD n=true):H4 n (K9 n inj n.nodes.length)=if inj<0 then EN n else K5 n inj:=by
 rw[F5]at hv;obtain ⟨h1,h2,h3,h4,h5,h6⟩:=hv;have si : ∀ e∈n.next,0<=e/\e<=n.s+n.nodes.length:=λ e he=>by simpa using List.all_eq_true.1 h5 e he
 have ea:(H4 n (K9 n inj n.nodes.length)).a=(EN n).a:=by
  simp only[H4,EN];refine List.map_congr_left λ e he => ?_
  have:=si e he
  rw[qR n inj (by omega),AfA]
 have ec:(H4 n (K9 n inj n.nodes.length)).c=(EN n).c:=by
  simp only[H4,EN];rw[qR n inj (by omega),AfA]
 have eb:(H4 n (K9 n inj n.nodes.length)).b=n.next.map λ e=>(if inj<0 then ER n 0 (-1) else ER n (-1) inj).getD e.toNat 0:=by
  simp only[H4];refine List.map_congr_left λ e he => ?_
  have:=si e he
  rw[qR n inj (by omega),Afz]
 have ed:(H4 n (K9 n inj n.nodes.length)).d=(if inj<0 then ER n 0 (-1) else ER n (-1) inj).getD n.out.toNat 0:=by
  simp only[H4];rw[qR n inj (by omega),Afz]
 generalize H4 n (K9 n inj n.nodes.length)=S at *;obtain ⟨a,b,c,d⟩:=S;simp only at ea eb ec ed;subst ea eb ec ed;split<;>rfl
theorem Acy (I:c5 L) (N:bn L) (n:Nt) (hv:HD n=true) (cq:PU (DC n)) (eu:n.nodes.length<=5):Ev L 165 [.agg (FS n)] (.g8 [.agg (eS (EN n)),.int .i64 0]):=by
 have hV:=oV n I N.toy6;rw[hv]at hV;have hR:=Ac9 N n (-1) hv cq eu (by unfold GW;omega);have h3:=(F5 n).1 hv;have hS:=Adb N n (K9 n (-1) n.nodes.length) hv (by rw[qQ];omega) (λ r hr=>by
  obtain ⟨m,_,rfl⟩:=List.mem_map.1 hr;exact cQ _ _ _ _)
 rw[Agx n (-1) hv,if_pos (by omega)]at hS;refine Ev.x N.VI rfl rfl ?_;(repeat' ((first|apply A2|refine AP (hV) ?_|refine AP (hR) ?_|refine AP (hS) ?_)<;>conv=>whnf))
 refine BV rfl ?_;simp only[B3,EC,and_true];exact eB (EN n)
theorem AlN (I:c5 L) (N:bn L) (n:Nt) (node:Int) (hv:HD n=true) (cq:PU (DC n)) (eu:n.nodes.length<=5) (hnI:GW node):Ev L 166 [.agg (FS n),.int .i64 node] (pH n node):=by
 have hV:=oV n I N.toy6;rw[hv]at hV;have h3:=(F5 n).1 hv;have hIn:=ZZ I node 0 ((n.nodes.length:Int)-1);refine Ev.x N.VG rfl rfl ?_;by_cases Lm:0<=node/\node<n.nodes.length
 ·have hR:=Ac9 N n node hv cq eu hnI
  have hS:=Adb N n (K9 n node n.nodes.length) hv (by rw[qQ];omega) (λ r hr=>by
   obtain ⟨m,_,rfl⟩:=List.mem_map.1 hr;exact cQ _ _ _ _)
  rw[Agx n node hv,if_neg (by omega)]at hS;rw[decide_eq_true (by omega)]at hIn;(repeat' ((first|(apply DQ;omega)|apply BT|apply A2|refine AP (hV) ?_|refine AP (hIn) ?_|refine AP (hR) ?_|refine AP (hS) ?_)<;>conv=>whnf))
  rw[pH,if_pos Lm];refine BV rfl ?_;simp only[B3,EC,and_true];exact eB (K5 n node)
 ·rw[decide_eq_false (by omega)]at hIn
  (repeat' ((first|(apply DQ;omega)|apply BT|apply A2|refine AP (hV) ?_|refine AP (hIn) ?_)<;>conv=>whnf))
  rw[pH,if_neg Lm];exact BV rfl (AjG 1)
end Go.b8

namespace Go.b8
open Go.ChangeShapes Go.WideShapes Go.ChangeAt Go.RowKit
inductive Ty where
 | int (k:IntKind)
 | bool
 | sl (e:Ty)
 | nil
 | cons (a r:Ty)
def Ty.cells:Ty->Nat
 | .int _=>1 | .bool=>1 | .sl _=>1
 | .nil=>0
 | .cons a r=>a.cells+r.cells
def LV:Ty->List AV->Prop
 | .int k,cs => ∃ n,cs=[.int k n]/\(Lit.int k n).wf=true
 | .bool,cs => ∃ b,cs=[.bool b]
 | .sl e,cs => ∃ es,cs=[.sl true es]/\es.length<=maxLen /\ ∀ x∈es,LV e x
 | .nil,cs=>cs=[]
 | .cons a r,cs => ∃ x y,cs=x++y/\LV a x/\LV r y
theorem LV.len : ∀ {ty:Ty} {cs:List AV},LV ty cs->cs.length=ty.cells
 | .int _,cs,h=>by obtain ⟨n,rfl,_⟩:=h;rfl
 | .bool,cs,h=>by obtain ⟨n,rfl⟩:=h;rfl
 | .sl _,cs,h=>by obtain ⟨n,rfl,_⟩:=h;rfl
 | .nil,cs,h=>by rw[show cs=[] from h];rfl
 | .cons a r,cs,h=>by obtain ⟨x,y,rfl,h1,h2⟩:=h;simp [Ty.cells,LV.len h1,LV.len h2]
def P5 (P:Program):Nat->TypeId->Ty->Bool
 | 0,_,_=>false
 | n+1,t,ty=>match P.underlying t,ty with
  | some (.int k),.int k'=>decide (k=k')
  | some .bool,.bool=>true
  | some (.slice e),.sl oo=>P5 P n e oo&&(P.cellsOf e == oo.cells&&decide (0<oo.cells))
  | some (.struct fs),ty=>go (P5 P n) fs.toList 0 ty&&P.cellsOf t == ty.cells
  | _,_=>false
where
 go (ok:TypeId->Ty->Bool):List Field->Nat->Ty->Bool
  | [],_,.nil=>true
  | f::fs,off,.cons a r=>(f.offset == off&&(ok f.type a&&P.cellsOf f.type == a.cells))&&go ok fs (off+a.cells) r
  | _,_,_=>false
section
variable {H:Type} {enc:TypeId × Value->H} {P:Program} {w:World} {base:Nat} {spare:Nat->Bool} {held:Bool} {R:Bool->Nat->Prop}
def M8 (w:World) (R:Bool->Nat->Prop) (as:List AV) (cs:List Value):Prop:=as.length=cs.length /\ ∀ (j:Nat) (a:AV) (c:Value),as[j]? = some a->cs[j]? = some c->Rd w R a c
theorem M8.one {a:AV} {c:Value} (h:Rd w R a c):M8 w R [a] [c]:=by
 refine ⟨rfl,λ j a' c' h1 h2 => ?_⟩;cases j with
 | zero=>simp at h1 h2;subst h1 h2;exact h
 | succ j=>simp at h1
theorem M8.append {as bs:List AV} {cs ds:List Value} (h1:M8 w R as cs) (h2:M8 w R bs ds):M8 w R (as++bs) (cs++ds):=by
 refine ⟨by simp [h1.1,h2.1],λ j a c ha hc => ?_⟩;by_cases hj:j<as.length
 ·rw[List.getElem?_append_left hj]at ha
  rw[List.getElem?_append_left (by rw[<-h1.1];exact hj)]at hc;exact h1.2 j a c ha hc
 ·rw[List.getElem?_append_right (by omega)]at ha
  rw[List.getElem?_append_right (by rw[<-h1.1];omega),<-h1.1]at hc;exact h2.2 _ a c ha hc
theorem Xv (a:Addr) (i:Nat) (h:a.spot=none):a.add i=⟨a.block,a.off+i,none⟩:=by
 obtain ⟨b,o,s⟩:=a;simp only at h;subst h;exact MO b o i
theorem Ae7 (hR : ∀ b,b<w.heap.size->R true b) (m:Nat) (ih : ∀ (ty:Ty) (t:TypeId) (cs:List Value) (fuel:Nat) (x:DataW H × List MemPlace),P5 P m t ty=true->DataW.trod enc P w base spare held fuel t cs=some x -> ∃ as,LV ty as/\M8 w R as cs)
  (n:Nat) (cs:List Value) : ∀ (fs:List Field) (off:Nat) (ty:Ty),P5.go P (P5 P m) fs off ty=true->(∀ f∈fs,∃ y,DataW.trod enc P w base spare held n f.type ((cs.drop f.offset).take (P.cellsOf f.type))=some y)->off+ty.cells=cs.length -> ∃ as,LV ty as/\M8 w R as (cs.drop off)
 | [],off,ty,k6,_,hl=>by
  cases ty<;>simp only[P5.go,Bool.false_eq_true]at k6;simp only[Ty.cells]at hl;exact ⟨[],rfl,by rw[List.drop_of_length_le (by omega)];exact ⟨rfl,λ j a c h=>by simp at h⟩⟩
 | f::fs,off,ty,k6,hf,hl=>by
  cases ty<;>simp only[P5.go,Bool.false_eq_true,Bool.and_eq_true,beq_iff_eq]at k6;rename_i a r;obtain ⟨⟨h1,h2,h3⟩,h4⟩:=k6;simp only[Ty.cells]at hl;obtain ⟨y,hy⟩:=hf f List.mem_cons_self;rw[h1,h3]at hy;obtain ⟨as1,g1,g2⟩:=ih a f.type _ n y h2 hy;obtain ⟨as2,g3,g4⟩:=Ae7 hR m ih n cs fs (off+a.cells) r h4 (λ f' h'=>hf f' (List.mem_cons_of_mem _ h')) (by omega);refine ⟨as1++as2,⟨as1,as2,rfl,g1,g3⟩,?_⟩;have:=g2.append g4
  rwa [show (cs.drop off).take a.cells++cs.drop (off+a.cells)=cs.drop off by rw[<-List.drop_drop,List.take_append_drop]]at this
theorem yB (hR : ∀ b,b<w.heap.size->R true b) : ∀ (m:Nat) (ty:Ty) (t:TypeId) (cs:List Value) (fuel:Nat) (x:DataW H × List MemPlace),P5 P m t ty=true->DataW.trod enc P w base spare held fuel t cs=some x -> ∃ as,LV ty as/\M8 w R as cs
 | 0,_,_,_,_,_,h,_=>by simp [P5]at h
 | m+1,ty,t,cs,fuel,x,k6,h=>by
  have ih:=yB hR m;simp only[P5]at k6;split at k6
  ·rename_i k k' hu
   obtain rfl:k=k':=by simpa using k6
   obtain ⟨n,rfl,_,hw⟩:=DataW.trod_int hu h;exact ⟨[.int k n],⟨n,rfl,hw⟩,M8.one (.int k n)⟩
  ·rename_i hu
   cases fuel with
   | zero=>simp [DataW.trod]at h
   | succ fuel =>
    unfold DataW.trod at h;rw[hu]at h;split at h<;>simp_all
    exact ⟨_,⟨_,rfl⟩,M8.one (.bool _)⟩
  ·rename_i e oo hu
   simp only[Bool.and_eq_true,beq_iff_eq,decide_eq_true_eq]at k6;obtain ⟨h1,h2,h3⟩:=k6;rcases DataW.trod_slice hu h with ⟨rfl,_⟩|⟨a,len,cap,elems,rest,n,_,rfl,_,hb,hl,hm,hlen,dp,_,_⟩
   ·exact ⟨[.sl true []],⟨[],rfl,by simp,by simp⟩,M8.one (.my true none 0)⟩
   ·have each : ∀ i,i<len -> ∃ as gp,LV oo as/\M8 w R as gp/\gp.length=oo.cells /\ ∀ j,j<oo.cells->w.cell? ((a.add (i*oo.cells)).add j)=gp[j]? := by
     intro i hi;have:=dp i hi
     rw[h2,zE (by omega),Option.bind_eq_some_iff]at this;obtain ⟨gp,hc,ht⟩:=this;obtain ⟨as,g1,g2⟩:=ih oo e gp n _ h1 ht;obtain ⟨_,q1,q2⟩:=World.cells?_some hc;exact ⟨as,gp,g1,g2,q1,q2⟩
    by_cases h0:len=0
    ·subst h0
     exact ⟨[.sl true []],⟨[],rfl,by simp,by simp⟩,M8.one (.my true (some a) cap)⟩
    ·have Eg:a.spot=none:=by
      obtain ⟨as,gp,_,_,q1,q2⟩:=each 0 (by omega);have:=q2 0 h3
      rw[zE (by omega)]at this;simpa [Addr.add] using World.cell?_spot this
     have qe:a.block<w.heap.size:=by
      obtain ⟨as,gp,_,_,q1,q2⟩:=each 0 (by omega);have:=q2 0 h3
      rw[zE (by omega)]at this;simpa [Addr.add] using bB this
     have pick : ∃ f:Nat->List AV × List Value,∀ i,i<len->LV oo (f i).1/\M8 w R (f i).1 (f i).2/\(f i).2.length=oo.cells /\ ∀ j,j<oo.cells->w.cell? ((a.add (i*oo.cells)).add j)=(f i).2[j]? := by
      refine ⟨λ i=>if hi:i<len then (Classical.choose (each i hi),Classical.choose (Classical.choose_spec (each i hi))) else ([],[]),λ i hi => ?_⟩;simp only[hi,dif_pos];exact Classical.choose_spec (Classical.choose_spec (each i hi))
     obtain ⟨f,hf⟩:=pick;have o4 : ∀ i e',((List.range len).map λ i=>(f i).1)[i]? = some e'->i<len/\e'=(f i).1:=by
      intro i e' he;rw[List.getElem?_map]at he;by_cases hi:i<len
      ·rw[List.getElem?_range hi]at he
       simp at he;exact ⟨hi,he.symm⟩
      ·rw[List.getElem?_eq_none (by simpa using hi)]at he
       cases he
     refine ⟨[.sl true ((List.range len).map λ i=>(f i).1)],⟨_,rfl,by simp;omega,λ x hx => ?_⟩,M8.one ?_⟩
     ·obtain ⟨i,hi,rfl⟩:=List.mem_map.1 hx
      exact (hf i (List.mem_range.1 hi)).1
     ·obtain ⟨ab,ao,as⟩:=a
      simp only at Eg;subst Eg;have Ea:((List.range len).map λ i=>(f i).1).length=len:=by simp
      have:=Rd.sl (w:=w) (R:=R) true ((List.range len).map λ i=>(f i).1) ab ao oo.cells cap (λ i j=>((f i).2[j]?).getD default) (by intro e;have:=congrArg List.length e;simp at this;omega) h3 (hR ab qe) (by rw[Ea];exact hl)
       (λ e' he=>by
        obtain ⟨i,hi,rfl⟩:=List.mem_map.1 he;exact (hf i (List.mem_range.1 hi)).1.len)
       (λ i e' he j c hc=>by
        obtain ⟨hi,rfl⟩:=o4 i e' he;obtain ⟨g1,g2,g3,g4⟩:=hf i hi;have hj:j<oo.cells:=by
         have:=(zS hc).1
         rwa [g1.len]at this
        have h5:=g4 j hj;rw[Xv ⟨ab,ao,none⟩ (i*oo.cells) rfl,Xv _ _ rfl]at h5;simp only at h5;rw[show ao+(i*oo.cells+j)=ao+i*oo.cells+j by omega,h5,zE (by omega)];rfl)
       (λ i e' he j c hc=>by
        obtain ⟨hi,rfl⟩:=o4 i e' he;obtain ⟨g1,g2,g3,g4⟩:=hf i hi;have hj:j<oo.cells:=by
         have:=(zS hc).1
         rwa [g1.len]at this
        have h6:(f i).2[j]? = some ((f i).2[j]'(by omega)):=zE _;rw[h6];exact g2.2 j c _ hc h6)
      rwa [Ea]at this
  ·rename_i fs hu
   simp only[Bool.and_eq_true,beq_iff_eq]at k6;obtain ⟨h1,h2⟩:=k6;obtain ⟨xs,n,_,_,hl,hlen,hf⟩:=DataW.trod_struct hu h;have:=Ae7 hR m ih n cs fs.toList 0 _ h1 (λ f ql=>by
    obtain ⟨i,hi,rfl⟩:=List.getElem_of_mem ql;have h5:=hf i fs.toList[i] (by simp);rw[h5,zE (by simpa [hlen] using hi)];exact ⟨_,rfl⟩) (by rw[hl,h2];omega)
   simpa using this
  ·exact absurd k6 (by simp)
theorem Ae5 {S:Nat->Prop} {ty:Ty} {t:TypeId} {v:Value} {d:DataW H} {ps:List MemPlace} {m:Nat} (k6:P5 P m t ty=true) (hv:v.cells.toList=[v]) (h:DataW.Trod enc P w base spare held t v d ps) :
  ∃ a,LV ty [a]/\CA w.heap.size S ⟨λ_ _=>none,BD.emp,w⟩ a v:=by
 obtain ⟨fuel,hf⟩:=h;rw[hv]at hf;obtain ⟨as,h1,h2⟩:=yB (R:=safe w.heap.size S ⟨λ_ _=>none,BD.emp,w⟩) (λ b hb=>Or.inr (Or.inr ⟨rfl,hb⟩)) m ty t [v] fuel _ k6 hf;obtain ⟨a,rfl⟩ : ∃ a,as=[a]:=by
  have:=h2.1
  match as,this with
  | [a],_=>exact ⟨a,rfl⟩
 exact ⟨a,h1,.one (.rd (h2.2 0 a v rfl rfl))⟩
theorem Aps {S:Nat->Prop} {ty:Ty} {t:TypeId} {cs:Array Value} {d:DataW H} {ps:List MemPlace} {m:Nat} (k6:P5 P m t ty=true) (h:DataW.Trod enc P w base spare held t (.agg cs) d ps) :
  ∃ as,LV ty as/\CA w.heap.size S ⟨λ_ _=>none,BD.emp,w⟩ (.agg as) (.agg cs):=by
 obtain ⟨fuel,hf⟩:=h;obtain ⟨as,h1,h2⟩:=yB (R:=safe w.heap.size S ⟨λ_ _=>none,BD.emp,w⟩) (λ b hb=>Or.inr (Or.inr ⟨rfl,hb⟩)) m ty t cs.toList fuel _ k6 hf;refine ⟨as,h1,?_⟩;have:=CA.agg (B:=w.heap.size) (S:=S) (m:=⟨λ_ _=>none,BD.emp,w⟩) as cs.toList ⟨h2.1,λ j c v hc hv => .rd (h2.2 j c v hc hv)⟩
 simpa using this
end
theorem Ajf {B:Nat} {S:Nat->Prop} {m:M} : ∀ (j:Nat) (c:AV) (v:Value),([]:List AV)[j]? = some c->([]:List Value)[j]? = some v->CA B S m c v:=λ j c v h=>by simp at h
theorem sX {B:Nat} {S:Nat->Prop} {m:M} {a:AV} {u:Value} {as:List AV} {us:List Value} (h:CA B S m a u) (hr : ∀ (j:Nat) (c:AV) (v:Value),as[j]? = some c->us[j]? = some v->CA B S m c v) :
  ∀ (j:Nat) (c:AV) (v:Value),(a::as)[j]? = some c->(u::us)[j]? = some v->CA B S m c v
 | 0,c,v,h1,h2=>by simp at h1 h2;subst h1 h2;exact h
 | j+1,c,v,h1,h2=>hr j c v (by simpa using h1) (by simpa using h2)
theorem AoA {P:Program} {num:Nat->Nat} {L:Lib} (hP:ProgOK P num L) {f:Nat} {vs:List AV} (h:Ev L f vs (.bool true)) {S:Nat->Prop} {w:World} {us:List Value} (hl:vs.length=us.length)
  (ha : ∀ (j:Nat) (c:AV) (v:Value),vs[j]? = some c->us[j]? = some v->CA w.heap.size S ⟨λ_ _=>none,BD.emp,w⟩ c v) :
  Calls P (num f) us.toArray w λ e w'=>e = .returned (.bool true)/\Below w.heap.size w w':=by
 obtain ⟨n,hn⟩:=h;refine ((AjD hP n).pure f vs _ hn S w us hl ha).mono ?_;rintro e w' ⟨u,rfl,hb,ae,_⟩
 refine ⟨?_,hb⟩;cases ae with
 | ca vy=>cases vy with
  | one aj=>cases aj with
   | rd oz=>cases oz;rfl
end Go.b8

namespace Go.b8
abbrev tI:Ty := .int .i64
end Go.b8
