/-
  Bounds (layer 29): the bounds of all values, as a function.
-/
import Derived.Test.YtpafclijakpknaaGreatB13
import Derived.Test.YtpafclijakpknaaGreatB11
import Derived.Test.YtpafclijakpknaaGreatB2
import Derived.Test.YtpafclijakpknaaGreatB8
set_option linter.unusedSimpArgs false
set_option linter.unusedVariables false
set_option linter.unnecessarySimpa false
namespace Go.b8
open F
attribute [local irreducible] AJ A3 BU AU FE BR C1 CK DS DE FA G7 DR B2 EH E5 AL CQ BC pw FM E2 F7 G8 GX EG FK EE FZ
variable {L:Lib}
set_option maxHeartbeats 16000000
set_option maxRecDepth 8000
def MX (n:Nt) (p:Nat) (D E:Rat) (s:E8):List (List Rat) × Rat:=((List.range (p+p)).map (GQ (aN n) s.b D E),H7 D (λ m=>E6 (GQ (aN n) s.b D E (p+m))) p)
theorem ApF {n:Nt} {p:Nat} (hp:1<=p) (D E:Rat) (s:E8):(MX n p D E s).1≠[]:=by
 intro e;have:=congrArg List.length e
 simp [MX]at this;omega
theorem Aqu {x:Rat} (h:0<x):0<v9 x.num:=by
 have:=(XV (x:=x) (y:=0)).2 h
 rwa [Rat.sub_eq_add_neg,Rat.neg_zero,Rat.add_zero]at this
theorem Aqt {x:Rat} (h : ¬ 0<x):v9 x.num<=0:=by
 refine Int.not_lt.1 λ h2=>h ((XV (x:=x) (y:=0)).1 ?_)
 rwa [Rat.sub_eq_add_neg,Rat.neg_zero,Rat.add_zero]
abbrev kN (n:Nt) (p:Nat) (D E:Rat):Mem :=
 [(356004,356004,.bx [.row 356017 0 1 0 n.s.toNat]),(356017,356017,.mx (HA 3 eQ (I1 n))),(356009,356009,.bx (MG false (EW D (aN n)) D (p:Int) (D^(p+p-1)))),(356014,356014,.bx (eQ E)),(356011,356011,.bx [.row 356057 0 8 0 (x7 n).length]),(356057,356057,.rw 8 ((x7 n).map (OT true (MX n p D E))))]
theorem Ajz (I:c5 L) (N:w7 L) (n:Nt) (hn:F4 n) (X:Mem) (ks:List Nat) (sc:Nat) (hX:mM n sc X ks) (K:AV->Mem->Prop)
  (h1 : ∀ i,i<=6->LG n.s.toNat (aN n) i->K (.g8 [.fn false 354 (L.num 354) [.ptr 356004 0 0 0,.ptr 356009 0 0 0,.ptr 356014 0 0 0,.ptr 356011 0 0 0],.int .i64 0]) (X++kN n (2^i) (LA (aN n).flatten) (jG n)))
  (h2:(∀ j,j<=6->G0 (EJ n.s.toNat (aN n) j)=false)->K (.g8 [.dc .nilFunc,.int .i64 14]) X) :
  CQ L 356 [.agg (FS n)] (mH ks) X K:=by
 obtain ⟨eu,si⟩:=gE hn;have j8:=hn.st;have zs:=hn.nl;have Cf:=(F5 n).1 hn.dj;obtain ⟨_,_,⟨zn,_⟩,_⟩:=Cf;obtain ⟨S,hS⟩ : ∃ S:Nat,n.s=(S:Int):=⟨n.s.toNat,by omega⟩;have qa:n.s.toNat=S:=by omega
 have hGR : ∀ j:Nat,j<S->NM L 351 [.agg (FS n),.int .i64 (1+(j:Int))] 3 ((KJ n (1+j)).map eQ):=λ j hj=>by
  have:=Al5 N n (1+j) hn (by omega)
  rwa [show ((1+j:Nat):Int)=1+(j:Int) by omega]at this
 have Sc:Ev L 351 [.agg (FS n),.int .i64 0] (.sl false ((KJ n 0).map eQ)):=AcC N n 0 hn (by omega);have hGk : ∀ k:Nat,k<n.nodes.length->Ev L 351 [.agg (FS n),.int .i64 (1+n.s+(k:Int))] (.sl false ((KJ n (1+S+k)).map eQ)):=λ k hk=>by
  have:=AcC N n (1+S+k) hn (by omega)
  rwa [show ((1+S+k:Nat):Int)=1+n.s+(k:Int) by omega]at this
 have Fx:=pF hn;rw[qa]at Fx;have wv:=IV N.toa5 1 (by omega);rw[show ((1:Int):Rat)=1 from rfl]at wv;have o6:=nU n;rw[qa]at o6;have Kv:=λ(j:Nat) (hj:j<S)=>Aj4 (n:=n) (j:=j) (by omega)
 obtain ⟨v,Fc,hv⟩:=AcS N.ton8 true false (aN n) S 40000 (by have:=W1 hn;rwa [qa]at this) (nF hn) (by omega) (by omega);have Nv:=λ(v:Nat) (hv:v<S+1+n.nodes.length) (q q':Bool)=>AcR N q q' (I1 n) v (by omega) (λ c hc=>by have:=Zt hn c hc;omega)
 rw[qa]at h1 h2 si eu;have gq:(aN n).length=S:=by rw[(W1 hn).l,qa]
 have Pn:=W1 hn;rw[qa]at Pn;obtain ⟨D,E,uy,qh,Jx,Rw,yi,Dn,Ru,kn⟩:=AfU hn;generalize hC:I1 n=C at *;have Ca:=λ p hW hP K hK=>AjA N n hn X ks sc hX (EW (D:Rat) (aN n)) (D:Rat) ((D:Rat)^(p+p-1)) (E:Rat) p C (x7 n) (MX n p D E) (gU hn) (Agb hn).2 qh.symm Dn hW hP K hK
 rw[qa]at Ca;refine sA ?_;unfold mM at hX;rcases hX with ⟨rfl,rfl⟩|⟨rfl,rfl⟩|⟨rfl,rfl⟩
 all_goals
  refine LE 1000 N.S7 rfl rfl ?_;(repeat' (apply A2<;>conv=>whnf))
  unfold GX;refine ⟨⟨by omega,by omega,by simp only[I3];omega,by omega⟩,?_⟩;rw[qa];(conv=>whnf)
  skip
  refine G6 (λ i=>S-i) (λ(i:Nat)=>i<=S) (λ i=>[(20,.int .i64 i)]) (λ i=>[(356017,356017,.mx (mz C S i))]) [] [] 0 (by rw[xQ];exact (by (conv=>whnf);exact ⟨rfl,rfl,rfl⟩)) (by omega) ?_;intro i p1 ih;have Da:=xO (Q:=C) p1;by_cases hi:i<S
  ·have j8:=xP (Kv i hi) hi
   have hG:=hGR i hi;generalize mz C S i=R0 at *;(repeat' ((first|(apply A9<;>intro hc<;>try omega)|(apply BG;omega)|apply A2)<;>conv=>whnf))
   refine WR (enc:=eQ) (S+1+n.nodes.length) hG (Fx _).symm ?_;(conv=>whnf)
   (repeat' ((first|(apply B5;omega)|fail)<;>conv=>whnf))
   refine B5 (by rw[List.length_map,Fx]) ?_;refine iU (i:=i) (by omega) (by omega) ?_;rw[j8];(conv=>whnf)
   (repeat' ((first|(apply BG;omega)|fail)<;>conv=>whnf))
   exact CZ [] (ih (i+1) (by omega) (by omega))
  have ei:i=S:=by omega
  clear ih;rw[ei,xN (by omega)];(repeat' ((first|(apply A9<;>intro hc<;>try omega)|apply BT|apply A2)<;>conv=>whnf))
  refine G6 (λ j=>S-j) (λ(j:Nat)=>j<=S) (λ j=>[(34,.int .i64 j),(6,.row 356006 0 1 0 j)]) (λ j=>[(356006,356006,.rw 1 (((aN n).take j).map λ r=>[AV.sl false (r.map eQ)]))]) [] [] 0 (by rw[List.take_zero];exact (by (conv=>whnf);exact ⟨rfl,rfl,rfl⟩)) (by omega) ?_;intro j r1 jh;by_cases hj:j<S
  ·obtain ⟨w,hw⟩ : ∃ w:Nat,n.next[j]? = some (w:Int):=by
    obtain ⟨v,hv⟩ : ∃ v,n.next[j]? = some v:=⟨_,zE (by omega)⟩
    have:=(si v (zM hv)).1
    exact ⟨v.toNat,by rw[hv];congr 1;omega⟩
   have hw':n.next[(j:Int).toNat]? = some (w:Int):=hw
   have hwl:=(si w (zM hw)).2;have hR:=Nv w (by omega);have haj:(aN n)[j]? = some (IL C w):=by rw[aN,List.getElem?_map,hw,hC];rfl
   have kp:((aN n).take j).length=j:=by rw[List.length_take];omega
   have Wv:((aN n).take (j+1)).length=j+1:=by rw[List.length_take];omega
   have fc:=OG haj;generalize (aN n).take j=W at *;(repeat' ((first|(apply A9<;>intro hc<;>try omega)|(refine CN (by assumption) ?_ rfl ?_;omega)|apply A2)<;>conv=>whnf))
   refine WX (λ_=>rfl) rfl o6.symm ?_;(conv=>whnf)
   (repeat' ((first|apply GY|refine AP (hR _ _) ?_)<;>conv=>whnf))
   refine H8 (l:=W) (z:=1) (bytes:=24) (enc:=λ r:List Rat=>[AV.sl false (r.map eQ)]) (IL C w) rfl kp.symm rfl (by omega) (by omega) ?_;(conv=>whnf)
   rw[<-fc,Wv];(repeat' ((first|(apply BG;omega)|fail)<;>conv=>whnf))
   exact CZ [(356006,356043)] (jh (j+1) (by omega) (by omega))
  have ej:j=S:=by omega
  clear jh;rw[ej,zT (by omega)];(repeat' ((first|(apply A9<;>intro hc<;>try omega)|apply A2)<;>conv=>whnf))
  refine FO (enc:=λ r:List Rat=>[AV.sl false (r.map eQ)]) (λ_=>rfl) rfl gq.symm ?_;(conv=>whnf)
  rcases hv with ⟨i,i1,i2,rfl⟩|⟨iu,rfl⟩
  ·obtain ⟨g1,_,g3⟩:=YY i1
   have um:=h1 i i1 i2;clear h1 h2 Nv hGR Kv;rw[uy]at Fc um;rw[qh]at um;generalize 2^i=p at *;(repeat' ((first|(apply A9<;>intro hc<;>try omega)|apply BT|refine AP (Fc) ?_|refine AP (Sc) ?_|refine AP (wv) ?_)<;>conv=>whnf))
   have hWk : ∀ s∈x7 n,Ev L 304 [.agg (MG false (EW (D:Rat) (aN n)) (D:Rat) (p:Int) ((D:Rat)^(p+p-1))),.sl false ((s.b.map (· * (E:Rat))).map eQ)] (.agg (ZW (MX n p D E s).1 (MX n p D E s).2)):=λ s hs=>by
    have:=AcU N.ton8 false (EW (D:Rat) (aN n)) (D:Rat) ((D:Rat)^(p+p-1)) (GQ (aN n) s.b D E) S p 680000 640000 90000000 (zI _ Pn) Ru yi (kn s hs) (λ j=>by rw[GQ,List.length_map,iG gq ((gU hn s hs).bl hn |>.trans qa)]) (rV _ _ _ _) (by omega) ⟨g3,g1⟩ (by omega) (by omega) (by omega)
    rwa [rW]at this
   have Sn:=ApF (n:=n) g3 (D:Rat) (E:Rat);refine G5 (λ k=>n.nodes.length-k) (λ(k:Nat)=>k<=n.nodes.length) (λ k=>[(61,.int .i64 k)]) (λ k=>[(356011,356011,.bx [.row 356057 0 8 0 (IP n 0 1::HB n k).length]),(356057,356057,.rw 8 ((IP n 0 1::HB n k).map (OT false (MX n p D E))))]) 0 (by omega) ?_;intro k k1 kh;have kp:=rI n k;have fc:=zW n k;by_cases hk:k<n.nodes.length
   ·obtain ⟨nd,hnd⟩ : ∃ nd,n.nodes[k]? = some nd:=⟨_,zE hk⟩
    have zp:n.nodes[(k:Int).toNat]? = some nd:=hnd;have Np:=Amd N n hn k nd hnd;have Ds:=YO N.toa5 (Z8 n nd).1 (by omega);have hgk:=hGk k hk;rw[gR,hnd]at fc;by_cases hp:0<HG n nd
    ·have xn:=Aqu hp
     simp only[if_pos hp,Option.toList_some]at fc;generalize hls:IP n 0 1::HB n k=ls at *;have iq:(IP n 0 1::HB n (k+1))=ls++[IP n (1+n.s.toNat+k) (HG n nd)]:=by rw[fc,<-hls];rfl
     have zl:ls.length<=6:=by rw[<-hls,List.length_cons];omega
     have jg:(IP n 0 1::HB n (k+1)).length=ls.length+1:=by rw[iq,List.length_append];rfl
     (repeat' ((first|(apply A9<;>intro hc<;>try omega)|(apply BG;omega)|apply GY|apply A2|refine AP (Np) ?_|refine AP (Ds) ?_|refine AP (hgk) ?_)<;>conv=>whnf))
     refine H8 (l:=ls) (z:=8) (bytes:=160) (enc:=OT false (MX n p D E)) (IP n (1+n.s.toNat+k) (HG n nd)) (by rw[qa];rfl) rfl rfl (by omega) (by omega) ?_;(conv=>whnf)
     rw[<-iq];(repeat' ((first|(apply BG;omega)|fail)<;>conv=>whnf))
     exact CZ [(356057,356081)] (kh (k+1) (by omega) (by omega))
    ·have xn:=Aqt hp
     simp only[if_neg hp,Option.toList_none,List.append_nil]at fc;(repeat' ((first|(apply A9<;>intro hc<;>try omega)|(apply BG;omega)|apply A2|refine AP (Np) ?_|refine AP (Ds) ?_)<;>conv=>whnf))
     rw[<-fc];exact CZ [] (kh (k+1) (by omega) (by omega))
   have ek:k=n.nodes.length:=by omega
   clear kh;rw[ek,show IP n 0 1::HB n n.nodes.length=x7 n from rfl];have Ca:=λ K hK=>Ca p hWk Sn K hK
   unfold kN at um;rw[qa,hC]at um;(repeat' ((first|(apply A9<;>intro hc<;>try omega)|apply A2)<;>conv=>whnf))
   refine sB _ _ ?_ ?_ (Ca _ ?_)
   ·first|exact ⟨rfl,rfl,rfl,rfl,rfl,rfl,rfl,trivial⟩|exact ⟨rfl,rfl,rfl,rfl,rfl,rfl,rfl,rfl,trivial⟩
   ·rfl
   (conv=>whnf)
   skip
   refine ⟨rfl,_,rfl,?_⟩;(conv=>whnf)
   refine ⟨_,?_,um⟩;first|exact ⟨rfl,rfl,rfl,rfl,rfl,rfl,rfl,trivial⟩|exact ⟨rfl,rfl,rfl,rfl,rfl,rfl,rfl,rfl,trivial⟩
  ·(repeat' ((first|(apply A9<;>intro hc<;>try omega)|refine AP (Fc) ?_)<;>conv=>whnf))
   refine ⟨rfl,_,rfl,?_⟩;(conv=>whnf)
   refine ⟨_,?_,h2 iu⟩;first|exact ⟨rfl,trivial⟩|exact ⟨rfl,rfl,trivial⟩
def NC (n:Nt) (p:Nat) (D E:Rat) (cO:List Rat) (s:E8):Rat:=H7 D (λ j=>CU (CI cO (GQ (aN n) s.b D E j))) (p+p)+DB cO*(MX n p D E s).2
theorem Ann {n:Nt} {p v:Nat} {D E O:Rat} (hp:1<=p) (hD:0<D) (hE:0<E) (hO:0<O) (s:E8) :
  s.l*CU (s.g.getD v 0)+s.l*NC n p D E ((IL (I1 n) v).map (· * O)) s/(D^(p+p-1)*(E*O))=s.l*H3 (NK n s v) p:=by
 have:=Agv (S:=NK n s v) hp hD hE hO
 have e:NC n p D E ((IL (I1 n) v).map (· * O)) s/(D^(p+p-1)*(E*O))=ES (KF (NK n s v).a (NK n s v).b (NK n s v).c) (p+p)+DB (NK n s v).c*ES (λ j=>JY (NK n s v).a (NK n s v).b (p+j)) p:=this;rw[show s.l*NC n p D E ((IL (I1 n) v).map (· * O)) s/(D^(p+p-1)*(E*O))=s.l*(NC n p D E ((IL (I1 n) v).map (· * O)) s/(D^(p+p-1)*(E*O))) by rw[Rat.div_def,Rat.div_def,Rat.mul_assoc],e,<-Rat.mul_add,H3];rfl
theorem AjC (N:w7 L) (n:Nt) (hn:F4 n) (i:Nat) (hi:i<=6) (w:Nat) (hv:w<n.s.toNat+1+n.nodes.length) (X:Mem) (ks:List Nat) (s1:Nat) (h:Rat) (hX:(X=[(1,s1,.bx (FS n))]/\ks=[1])\/(X=[(1,s1,.bx (FS n)),(6,6,.bx (eQ h))]/\ks=[1,6])\/X=[(3,s1,.bx (FS n)),(6,6,.bx [.bool false,.nil,.nil])]/\ks=[3,6]) (K:AV->Mem->Prop)
  (hK:Bt 400000000000 (OV n (2^i) w)->Bt 400000000000 (N8 n (2^i) w)->K (.agg (eQ (OV n (2^i) w)++eQ (N8 n (2^i) w))) (X++kN n (2^i) (LA (aN n).flatten) (jG n))) :
  CQ L 354 [.int .i64 (w:Int),.ptr 356004 0 0 0,.ptr 356009 0 0 0,.ptr 356014 0 0 0,.ptr 356011 0 0 0] (mH (ks++[356004,356009,356014,356011])) (X++kN n (2^i) (LA (aN n).flatten) (jG n)) K:=by
 have j8:=hn.st;have zs:=hn.nl;obtain ⟨_,_,⟨zn,_⟩,_⟩:=(F5 n).1 hn.dj;obtain ⟨S,hS⟩ : ∃ S:Nat,n.s.toNat=S:=⟨_,rfl⟩;obtain ⟨g1,_,g3⟩:=YY hi;obtain ⟨D,E,uy,qh,Jx,Rw,yi,Dn,Ru,kn⟩:=AfU hn;have Fx:=pF hn;have Nv:=λ(q q':Bool)=>AcR N q q' (I1 n) w (by rw[nU];omega) (λ c hc=>by have:=Zt hn c hc;omega)
 have o6:=nU n;have Bu:=yW n w;have qf:=yV hn w;have vp:=λ q=>jX N.ton8 q false [IL (I1 n) w] 40000 (λ r hr=>by obtain rfl:=List.mem_singleton.1 hr;exact qf) (by rw[kG];omega) (by simp) (by omega)
 rw[kG]at vp;obtain ⟨O,Js,o1,o2,o3⟩:=kL Bu qf;have bO:Bt 160000 (O:Rat):=(cI o2).le (by have:=zR 40000 (show n.s.toNat<=4 by omega);omega);have Om:Bs 200000 ((IL (I1 n) w).map (· * (O:Rat))):=λ x hx=>((o3 x hx).le (by have:=zR 40000 (show n.s.toNat<=4 by omega);omega)).bt
 have hval:=λ s=>Ann (n:=n) (p:=2^i) (v:=w) g3 (XQ Jx) (XQ Rw) (XQ o1) s
 have Mq:OV n (2^i) w=(0+(IP n 0 1).l*CU ((IP n 0 1).g.getD w 0))+(0+(IP n 0 1).l*NC n (2^i) D E ((IL (I1 n) w).map (· * (O:Rat))) (IP n 0 1))/((D:Rat)^(2^i+2^i-1)*((E:Rat)*(O:Rat))):=by
  have:=hval (IP n 0 1)
  rw[Rat.zero_add,Rat.zero_add,this,show (IP n 0 1).l=1 from rfl,Rat.one_mul];rfl
 have ij:N8 n (2^i) w=bj (λ s=>s.l*CU (s.g.getD w 0)) (HB n n.nodes.length)+bj (λ s=>s.l*NC n (2^i) D E ((IL (I1 n) w).map (· * (O:Rat))) s) (HB n n.nodes.length)/((D:Rat)^(2^i+2^i-1)*((E:Rat)*(O:Rat))):=by
  rw[AoO];exact AoN λ s _=>(hval s).symm
 have hpD:=XQ Jx;have hpE:=XQ Rw;have hpO:=XQ o1;rw[uy,qh]at hK ⊢;rw[Js]at vp;clear Js uy qh o1 o2 o3 hval;generalize hp:2^i=p at *;generalize (D:Rat)=D at *;generalize (E:Rat)=E at *;generalize (O:Rat)=O at *;have Sv:=λ q=>jY N.ton8 q (IL (I1 n) w) O 40000 160000 qf bO (by omega) (by omega) (by omega)
 have Ts:((IL (I1 n) w).map (· * O)).length=S:=by rw[List.length_map,Bu,hS]
 generalize hcd:(IL (I1 n) w).map (· * O)=cO at *;have z8 : ∀ s∈x7 n,Bt 60000000000 (NC n p D E cO s)/\Bt 6000000000 (MX n p D E s).2:=λ s hs=>by
  have q1 : ∀ j,j<p+p->Bt (4*(200000+90000000+1)) (CU (CI cO (GQ (aN n) s.b D E j))):=λ j hj=>ME ((Om.dot (kn s hs j (by omega))).le (zR _ (by omega)))
  have q2:=(cB yi (p+p) q1).le (zR _ (show p+p<=128 by omega));have q3:Bt (4*(200000+1)) (DB cO):=(XW Om).le (zR _ (by omega));have q4:Bt 6000000000 (MX n p D E s).2:=(cB yi p λ j hj=>XG (kn s hs (p+j) (by omega))).le (by
   have:=zR (640000+90000000+1) g1
   omega)
  exact ⟨(q2.add (q3.mul q4)).le (by omega),q4⟩
 have hGt : ∀ s∈x7 n,∀ q,Ev L 305 [.agg (MG false (EW D (aN n)) D (p:Int) (D^(p+p-1))),.sl q (cO.map eQ),.agg (.sl true (YI (MX n p D E s).1)::NX true (MX n p D E s).2)] (.agg (eQ (NC n p D E cO s))):=λ s hs q =>
  AcQ N.ton8 false q (EW D (aN n)) D (MX n p D E s).2 (D^(p+p-1)) (p:Int) cO (GQ (aN n) s.b D E) S (p+p) 640000 200000 90000000 6000000000 yi Om Ts (kn s hs) (λ j=>by rw[GQ,List.length_map,iG (W1 hn).l ((gU hn s hs).bl hn),hS]) (z8 s hs).2 (by omega) (by omega) (by omega) (by omega) (by omega) (by omega)
 have og:=gU hn;have Wm : ∀ s∈HB n n.nodes.length,s∈x7 n:=λ s hs=>List.mem_cons_of_mem _ hs
 have Oa:=rI n n.nodes.length;have nf:Bt 82000000 (D^(p+p-1)):=(qG yi _).le (by
  have:=zR 640000 (show p+p-1<=127 by omega)
  omega)
 have ju:=LL N.toa5 Dn bO (by omega) (by omega);have nb:=LL N.toa5 nf (Dn.mul bO) (by omega) (by omega);have Bw:Bt 84000000 (D^(p+p-1)*(E*O)):=(nf.mul (Dn.mul bO)).le (by omega);have m7:D^(p+p-1)*(E*O)≠0:=by
  have Gn : ∀ j:Nat,0<D^j:=λ j=>by
   induction j with
   | zero=>rw[Rat.pow_zero];decide
   | succ j ih=>rw[Rat.pow_succ];exact Rat.mul_pos ih hpD
  have:=Rat.mul_pos (Gn (p+p-1)) (Rat.mul_pos hpE hpO)
  grind
 have wu:=IV N.toa5 0 (by omega);rw[show ((0:Int):Rat)=0 from rfl]at wu;have hx : ∀ s∈x7 n,s.g[((w:Nat):Int).toNat]? = some (s.g.getD w 0):=λ s hs=>by
  have h1:=(og s hs).gl;obtain ⟨x,hx⟩ : ∃ x,s.g[w]? = some x:=⟨_,zE (by omega)⟩;rw[kI hx];exact hx
 have Nl:=λ(s:E8) (hs:s∈x7 n)=>jS N.tobq (fI (og s hs).gb w) (by omega)
 have hML:=λ(s:E8) (hs:s∈x7 n)=>LL N.toa5 (og s hs).lb (ME (fI (og s hs).gb w)) (by omega) (by omega)
 have hMG:=λ(s:E8) (hs:s∈x7 n)=>LL N.toa5 (og s hs).lb (z8 s hs).1 (by omega) (by omega)
 have ym : ∀ s∈x7 n,Bt 40001 (s.l*CU (s.g.getD w 0)):=λ s hs=>((og s hs).lb.mul (ME (fI (og s hs).gb w))).le (by omega)
 have Ks : ∀ s∈x7 n,Bt 60000000001 (s.l*NC n p D E cO s):=λ s hs=>((og s hs).lb.mul (z8 s hs).1).le (by omega)
 have Jt:=λ(s:E8) (hs:s∈x7 n)=>LK N.toa5 (Bt.zero 1) (ym s hs) (by omega) (by omega)
 have Jv:=λ(s:E8) (hs:s∈x7 n)=>LK N.toa5 (Bt.zero 1) (Ks s hs) (by omega) (by omega)
 have Hy : ∀ t,Bt 300000 (bj (λ s=>s.l*CU (s.g.getD w 0)) ((HB n n.nodes.length).take t)):=λ t=>(Aew λ s hs=>ym s (Wm s (List.mem_of_mem_take hs))).le (by
  have:=zR (40001+1) (show ((HB n n.nodes.length).take t).length<=5 by rw[List.length_take];omega)
  omega)
 have Tp : ∀ t,Bt 301000000000 (bj (λ s=>s.l*NC n p D E cO s) ((HB n n.nodes.length).take t)):=λ t=>(Aew λ s hs=>Ks s (Wm s (List.mem_of_mem_take hs))).le (by
  have:=zR (60000000001+1) (show ((HB n n.nodes.length).take t).length<=5 by rw[List.length_take];omega)
  omega)
 have Ju:=λ(s:E8) (hs:s∈x7 n) (t:Nat)=>LK N.toa5 (Hy t) (ym s hs) (by omega) (by omega)
 have Jw:=λ(s:E8) (hs:s∈x7 n) (t:Nat)=>LK N.toa5 (Tp t) (Ks s hs) (by omega) (by omega)
 have jk:IP n 0 1∈x7 n:=List.mem_cons_self;have zw:(x7 n)[(0:Int).toNat]? = some (IP n 0 1):=rfl;have We : ∀ (t:Nat) (s:E8),(HB n n.nodes.length)[t]? = some s->(x7 n)[((t+1:Nat):Int).toNat]? = some s:=λ t s h=>h
 have Ml:(x7 n).length=(HB n n.nodes.length).length+1:=rfl;have hF0:=λ l=>(rfl:bj (λ s=>s.l*CU (s.g.getD w 0)) (List.take 0 l)=0)
 have Sc:=λ l=>(rfl:bj (λ s=>s.l*NC n p D E cO s) (List.take 0 l)=0)
 have hFt:=λ(t:Nat) (s:E8) (h:(HB n n.nodes.length)[t]? = some s)=>pL (f:=λ s=>s.l*CU (s.g.getD w 0)) h
 have Se:=λ(t:Nat) (s:E8) (h:(HB n n.nodes.length)[t]? = some s)=>pL (f:=λ s=>s.l*NC n p D E cO s) h
 have jx:=(Bt.zero 1).add (ym _ jk);have El:=(Bt.zero 1).add (Ks _ jk);have Rz:=Hy (HB n n.nodes.length).length;have Nn:=Tp (HB n n.nodes.length).length;have Jy:=jW N.toa5 El Bw (by omega) (by omega) m7;have Bj:=LK N.toa5 jx (El.vn Bw) (by omega) (by omega);have Ew:=jW N.toa5 Nn Bw (by omega) (by omega) m7;have Bk:=LK N.toa5 Rz (Nn.vn Bw) (by omega) (by omega);have Rr:=(jx.add (El.vn Bw)).le (show _<=400000000000 by omega);have Dl:=(Rz.add (Nn.vn Bw)).le (show _<=400000000000 by omega);rw[List.take_length]at Ew Bk Dl;rw[<-Mq]at Rr Bj;rw[<-ij]at Dl Bk;have Sh:=hK Rr Dl;obtain ⟨xa,Xa⟩ : ∃ xa:E8->Rat,∀ s,xa s=CU (s.g.getD w 0):=⟨_,λ_=>rfl⟩;obtain ⟨xm,Iw⟩ : ∃ xm:E8->Rat,∀ s,xm s=s.l*CU (s.g.getD w 0):=⟨_,λ_=>rfl⟩;obtain ⟨ga,Ui⟩ : ∃ ga:E8->Rat,∀ s,ga s=NC n p D E cO s:=⟨_,λ_=>rfl⟩;obtain ⟨gm,Ot⟩ : ∃ gm:E8->Rat,∀ s,gm s=s.l*NC n p D E cO s:=⟨_,λ_=>rfl⟩;obtain ⟨F,hF⟩ : ∃ F:Nat->Rat,∀ t,F t=bj (λ s=>s.l*CU (s.g.getD w 0)) ((HB n n.nodes.length).take t):=⟨_,λ_=>rfl⟩;obtain ⟨G,hG⟩ : ∃ G:Nat->Rat,∀ t,G t=bj (λ s=>s.l*NC n p D E cO s) ((HB n n.nodes.length).take t):=⟨_,λ_=>rfl⟩;have e1 : ∀ s∈x7 n,Ev L 256 [.agg (eQ (s.g.getD w 0))] (.agg (eQ (xa s))):=λ s hs=>by rw[Xa];exact Nl s hs
 have e2 : ∀ s∈x7 n,Ev L 99 [.agg (eQ s.l),.agg (eQ (xa s))] (.agg (eQ (xm s))):=λ s hs=>by rw[Xa,Iw];exact hML s hs
 have e4 : ∀ s∈x7 n,∀ q,Ev L 305 [.agg (MG false (EW D (aN n)) D (p:Int) (D^(p+p-1))),.sl q (cO.map eQ),.agg (.sl true (YI (MX n p D E s).1)::NX true (MX n p D E s).2)] (.agg (eQ (ga s))):=λ s hs q=>by rw[Ui];exact hGt s hs q
 have e5 : ∀ s∈x7 n,Ev L 99 [.agg (eQ s.l),.agg (eQ (ga s))] (.agg (eQ (gm s))):=λ s hs=>by rw[Ui,Ot];exact hMG s hs
 have e3 : ∀ s∈x7 n,∀ t,(HB n n.nodes.length)[t]? = some s->Ev L 98 [.agg (eQ (F t)),.agg (eQ (xm s))] (.agg (eQ (F (t+1)))):=λ s hs t h=>by
  rw[hF,hF,Iw,pL h];exact Ju s hs t
 have e6 : ∀ s∈x7 n,∀ t,(HB n n.nodes.length)[t]? = some s->Ev L 98 [.agg (eQ (G t)),.agg (eQ (gm s))] (.agg (eQ (G (t+1)))):=λ s hs t h=>by
  rw[hG,hG,Ot,pL h];exact Jw s hs t
 have z3:=Jt _ jk;have z6:=Jv _ jk;rw[<-Iw]at z3 Bj;rw[<-Ot]at z6 Jy Bj;have Jz:F (HB n n.nodes.length).length=bj (λ s=>s.l*CU (s.g.getD w 0)) (HB n n.nodes.length):=by rw[hF,List.take_length]
 have Ey:G (HB n n.nodes.length).length=bj (λ s=>s.l*NC n p D E cO s) (HB n n.nodes.length):=by rw[hG,List.take_length]
 rw[<-Jz,<-Ey]at Bk;rw[<-Ey]at Ew;have Rx:F 0=0:=by rw[hF];rfl
 have Sd:G 0=0:=by rw[hG];rfl
 clear hK Rr Dl Hy Tp ym Ks z8 jx El Rz Nn Mq ij kn Om qf yi Dn Ru Bw nf bO Nl hML hMG Ju Jw hGt Jt Jv hF hG Xa Iw Ui Ot hF0 Sc hFt Se Jz Ey m7 hpD hpE hpO;obtain ⟨P,hP⟩ : ∃ P:E8->List (List Rat) × Rat,P=MX n p D E:=⟨_,rfl⟩;rw[<-hP]at e4;unfold kN at Sh ⊢;rw[<-hP]at Sh ⊢;clear hP;generalize 0+xm (IP n 0 1)=r0 at *;generalize 0+gm (IP n 0 1)=w0 at *;generalize D^(p+p-1)*(E*O)=dv at *;generalize w0/dv=q0 at *;generalize G (HB n n.nodes.length).length/dv=q1 at *;generalize E*O=EO at *;generalize OV n p w=ra at *;generalize N8 n p w=rb at *;generalize D^(p+p-1)=la at *;generalize hTT:HB n n.nodes.length=T at *;generalize hSS:x7 n=SS at *;generalize IP n 0 1=s0 at *;generalize IL (I1 n) w=cw at *;clear og hcd Fx;refine sA ?_;rcases hX with ⟨rfl,rfl⟩|⟨rfl,rfl⟩|⟨rfl,rfl⟩
 all_goals
  refine JV 1000 N.S8 rfl rfl ?_;(repeat' (apply A2<;>conv=>whnf))
  refine WX (λ_=>rfl) rfl o6.symm ?_;(conv=>whnf)
  (repeat' ((first|refine J4 rfl ?_|refine AP (Nv _ _) ?_|refine AP (vp _) ?_|refine AP (Sv _) ?_|refine AP (ju) ?_|refine AP (nb) ?_|refine AP (wu) ?_)<;>conv=>whnf))
  refine JN ?_;(repeat' ((first|(apply A9<;>intro hc<;>try omega)|(apply B5;omega)|(refine WS ?_ (λ_=>rfl) (λ v hv => ?_);omega)|apply A2)<;>conv=>whnf))
  cases zw.symm.trans hv;have oi:=hx _ jk;have f1:=e1 _ jk;have f2:=e2 _ jk;have f4:=e4 _ jk;have f5:=e5 _ jk;(repeat' ((first|(apply B5;omega)|(apply BG;omega)|(refine CN (by assumption) ?_ rfl ?_;omega)|refine AP (f1) ?_|refine AP (f2) ?_|refine AP (z3) ?_|refine AP (f4 _) ?_|refine AP (f5) ?_|refine AP (z6) ?_)<;>conv=>whnf))
  clear f1 f2 f4 f5;refine G6 (λ t=>T.length-t) (λ(t:Nat)=>t<=T.length) (λ t=>[(41,.int .i64 (t+1:Nat))]) (λ t=>[(354010,354010,.bx (eQ r0++eQ (F t))),(354011,354011,.bx (eQ w0++eQ (G t)))]) [] [] 0 (by rw[Rx,Sd];exact (by (conv=>whnf);exact ⟨rfl,rfl,rfl⟩)) (by omega) ?_;intro t t1 th;by_cases ht:t<T.length
  ·obtain ⟨s,hs⟩ : ∃ s,T[t]? = some s:=⟨_,zE ht⟩
   have Ly:=We t s hs;have cq:=Wm s (zM hs);have oi:=hx _ cq;have f1:=e1 _ cq;have f2:=e2 _ cq;have f3:=e3 _ cq t hs;have f4:=e4 _ cq;have f5:=e5 _ cq;have f6:=e6 _ cq t hs;have th':=th (t+1) (by omega) (by omega);clear th;rcases Nat.eq_zero_or_pos t with rfl|ht0
   all_goals
    (repeat' ((first|(apply A9<;>intro hc<;>try omega)|(apply B5;omega)|(refine dT ?_ (λ_=>rfl) (λ v hv => ?_);omega)|apply A2)<;>conv=>whnf))
    cases Ly.symm.trans hv;(repeat' ((first|(apply B5;omega)|(apply BG;omega)|(refine CN (by assumption) ?_ rfl ?_;omega)|refine AP (f1) ?_|refine AP (f2) ?_|refine AP (f3) ?_|refine AP (f4 _) ?_|refine AP (f5) ?_|refine AP (f6) ?_)<;>conv=>whnf))
    exact DP [] (by (conv=>whnf);exact ⟨rfl,rfl,rfl⟩) th'
  have et:t=T.length:=by omega
  clear th;rw[et];(repeat' ((first|(apply A9<;>intro hc<;>try omega)|apply A2)<;>conv=>whnf))
  refine JN ?_;(repeat' ((first|(apply A9<;>intro hc<;>try omega)|(apply B5;omega)|(apply BG;omega)|apply A2|refine AP (Jy) ?_|refine AP (Bj) ?_)<;>conv=>whnf))
  refine JN ?_;(repeat' ((first|(apply A9<;>intro hc<;>try omega)|(apply B5;omega)|(apply BG;omega)|apply A2|refine AP (Ew) ?_|refine AP (Bk) ?_)<;>conv=>whnf))
  refine JN ?_;(repeat' ((first|(apply A9<;>intro hc<;>try omega)|(apply B5;omega)|apply A2)<;>conv=>whnf))
  refine ⟨rfl,?_⟩;(conv=>whnf)
  refine ⟨_,?_,Sh⟩;first|exact ⟨rfl,rfl,rfl,rfl,rfl,rfl,rfl,trivial⟩|exact ⟨rfl,rfl,rfl,rfl,rfl,rfl,rfl,rfl,trivial⟩
def JA (n:Nt) (p k:Nat) (x:Int):Rat:=OV n p (1+n.s.toNat+k)*(x:Rat)+N8 n p (1+n.s.toNat+k)
theorem Ajx {n:Nt} {p k:Nat} {x y:Int} (h:x<=y):JA n p k x<=JA n p k y:=by
 have h1:=ApV n p (1+n.s.toNat+k);have h2:(x:Rat)<=(y:Rat):=Rat.intCast_le_intCast.2 h;have:=Rat.mul_le_mul_of_nonneg_left h2 h1
 rw[JA,JA];grind
def sM (n:Nt):Prop := ∀ j,j<=6->G0 (EJ n.s.toNat (aN n) j)=false
theorem pG {w:Wd} (h:WV w):0<=H6 w/\H6 w<=8388607:=by
 rw[H6,if_pos h];unfold WV at h;have h1:=PC (n:=w.b-1) (m:=23) (by omega);have h2:=HY (w.b-1);have h3:pw 23=8388608:=by unfold pw;rfl
 omega
def Yn (n:Nt) (i:Nat) (v:AV):Prop:=(∃ m:Int,0<=m/\m<=H6 n.d/\v = .g8 [.int .i64 m,.int .i64 0] /\ ∀ x:Int,0<=x->x<=H6 n.d->(x<=m ↔ ∀ k,k<n.nodes.length->JA n (2^i) k x<=(H6 n.d:Rat)))\/(∃ k,k<n.nodes.length/\(H6 n.d:Rat)<N8 n (2^i) (1+n.s.toNat+k)/\v = .g8 [.int .i64 0,.int .i64 18])
theorem AlP (I:c5 L) (N:w7 L) (n:Nt) (hn:F4 n) :
  ∃ v,Ev L 358 [.agg (FS n)] v/\((∃ i,i<=6/\LG n.s.toNat (aN n) i/\Yn n i v)\/(sM n/\v = .g8 [.int .i64 0,.int .i64 14])):=by
 obtain ⟨sv,_,⟨zn,_⟩,_⟩:=(F5 n).1 hn.dj;have Ow:=pG sv;have j8:=hn.st;have eu:=hn.nl;have hU:=Am3 I N n hn;have hH:=uV n.d I;unfold Yn;generalize Ur:H6 n.d=hi at *;have Sj:=IV N.toa5 hi (by omega);have Ol:=Bt.ofInt (show hi.natAbs<=2^24 by have:(2:Nat)^24=16777216:=rfl;omega);refine Ev.xE N.S2 rfl rfl ?_;(repeat' ((first|apply A2|refine AP (hU) ?_)<;>conv=>whnf))
 refine sB [1] [(1,1,.bx (FS n))] ⟨rfl,trivial⟩ rfl (Ajz I N n hn _ _ 1 (Or.inl ⟨rfl,rfl⟩) _ (λ i i1 i2 => ?_) (λ Hf => ?_))
 ·obtain ⟨g1,_,g3⟩:=YY i1
  have Tt:=λ(k:Nat) (hk:k<n.nodes.length) (K:AV->Mem->Prop) hK=>AjC N n hn i i1 (1+n.s.toNat+k) (by omega) [(1,1,.bx (FS n)),(6,6,.bx (eQ (hi:Rat)))] [1,6] 1 (hi:Rat) (Or.inr (Or.inl ⟨rfl,rfl⟩)) K hK
  have hbt : ∀ k x,JA n (2^i) k x=OV n (2^i) (1+n.s.toNat+k)*(x:Rat)+N8 n (2^i) (1+n.s.toNat+k):=λ_ _=>rfl
  have jx : ∀ k,JA n (2^i) k 0=N8 n (2^i) (1+n.s.toNat+k):=λ k=>by rw[hbt,show ((0:Int):Rat)=0 from rfl,Rat.mul_zero,Rat.zero_add]
  have Ij : ∀ k (x y:Int),x<=y->JA n (2^i) k x<=JA n (2^i) k y:=λ k x y h=>Ajx h
  (repeat' ((first|(apply A9<;>intro hc<;>try omega)|apply BT|refine AP (hH) ?_|refine AP (Sj) ?_)<;>conv=>whnf))
  refine IX (λ k _=>n.nodes.length-k) (λ(k:Nat) (m:Int)=>k<=n.nodes.length/\0<=m/\m<=hi /\ ∀ x:Int,0<=x->x<=hi->(x<=m ↔ ∀ j,j<k->JA n (2^i) j x<=(hi:Rat))) (λ k m=>[(33,.int .i64 k),(7,.int .i64 m)]) (λ_ _=>[]) 0 hi ⟨by omega,by omega,by omega,λ x _ h=>⟨λ_ j hj=>absurd hj (by omega),λ_=>h⟩⟩ ?_;intro k m ⟨k1,m0,m1,k2⟩ kh;by_cases hk:k<n.nodes.length
  ·(repeat' ((first|(apply A9<;>intro hc<;>try omega)|(apply B5;omega)|(apply BG;omega)|apply A2)<;>conv=>whnf))
   rw[show (1+n.s+(k:Int))=((1+n.s.toNat+k:Nat):Int) by omega];refine sB _ _ ?_ ?_ (Tt k hk _ ?_)
   ·exact ⟨rfl,rfl,rfl,rfl,rfl,rfl,rfl,rfl,trivial⟩
   ·rfl
   intro b1 b2;have hBa:=λ(x:Int) (hx:x.natAbs<=2^24)=>AlX N (OV n (2^i) (1+n.s.toNat+k)) (N8 n (2^i) (1+n.s.toNat+k)) x 400000000000 b1 b2 (by omega) hx
   have hCr:=jU N.tow9 b2 Ol (by omega) (by omega);have Eh:=XV (x:=N8 n (2^i) (1+n.s.toNat+k)) (y:=(hi:Rat));have rq:=λ(x:Int) (hx:x.natAbs<=2^24)=>jU N.tow9 (x:=JA n (2^i) k x) ((b1.mul (Bt.ofInt hx)).add b2) Ol (by omega) (by omega)
   have xn:=λ x:Int=>XV (x:=JA n (2^i) k x) (y:=(hi:Rat))
   have hB2 : ∀ x:Int,x.natAbs<=2^24->Ev L 353 [.agg (eQ (OV n (2^i) (1+n.s.toNat+k))++eQ (N8 n (2^i) (1+n.s.toNat+k))),.int .i64 x] (.agg (eQ (JA n (2^i) k x))):=hBa;have Ko:=jx k;have Gk:=Ij k;generalize hgf:(λ x=>JA n (2^i) k x)=bf at *;have ym : ∀ x,JA n (2^i) k x=bf x:=λ x=>by rw[<-hgf]
   simp only[ym]at hB2 rq xn Ko Gk;clear hBa hbt jx Ij;generalize hra:OV n (2^i) (1+n.s.toNat+k)=ra at *;generalize sn:N8 n (2^i) (1+n.s.toNat+k)=rb at *;generalize AJW:v9 (rb-(hi:Rat)).num=sr at *;(conv=>whnf)
   (repeat' ((first|(apply A9<;>intro hc<;>try omega)|refine AP (hCr) ?_)<;>conv=>whnf))
   ·refine ⟨_,BV rfl (by simp [B3,EC]),Or.inl ⟨i,i1,i2,Or.inr ⟨k,hk,?_,rfl⟩⟩⟩
    rw[sn];exact Eh.1 hc
   ·have sj:rb<=(hi:Rat):=Rat.not_lt.1 λ h=>by have:=Eh.2 h;omega
    refine IX (λ lo m'=>(m'-lo).toNat) (λ(lo m':Int)=>0<=lo/\lo<=m'/\m'<=m/\bf lo<=(hi:Rat) /\ ∀ x:Int,m'<x->x<=m -> ¬ bf x<=(hi:Rat)) (λ lo m'=>[(10,.int .i64 lo),(7,.int .i64 m')]) (λ_ _=>[]) 0 m ⟨by omega,by omega,by omega,by rw[Ko];exact sj,λ x h1 h2=>absurd h1 (by omega)⟩ ?_;intro lo m' ⟨l0,l1,l2,l3,l4⟩ lh;by_cases hlm:lo<m'
    ·obtain ⟨md,Gi⟩ : ∃ md:Int,md=(lo+m'+1)/2:=⟨_,rfl⟩
     have ki:lo<md/\md<=m':=by omega
     have h3:=hB2 md (by have:(2:Nat)^24=16777216:=rfl;omega);have h4:=rq md (by have:(2:Nat)^24=16777216:=rfl;omega);have h5:=xn md;generalize v9 (bf md-(hi:Rat)).num=sm at *;(repeat' ((first|(apply A9<;>intro hc<;>try omega)|(apply BG;omega)|(refine PT ?_ ?_ (λ_ => ?_) (λ_ _ => ?_);omega;omega;all_goals try omega)|apply A2)<;>conv=>whnf))
     rw[<-Gi];(repeat' ((first|(apply A9<;>intro hc<;>try omega)|(apply DQ;omega)|refine AP (h3) ?_|refine AP (h4) ?_)<;>conv=>whnf))
     ·have se:=h5.1 hc
      exact CZ [] (lh lo (md-1) (by omega) ⟨by omega,by omega,by omega,l3,λ x q1 q2 q3=>by
       have:=Gk md x (by omega)
       grind⟩)
     ·have hle:bf md<=(hi:Rat):=Rat.not_lt.1 λ h=>by have:=h5.2 h;omega
      exact CZ [] (lh md m' (by omega) ⟨by omega,by omega,by omega,hle,l4⟩)
    have el:lo=m':=by omega
    clear lh;subst el;have me : ∀ x:Int,0<=x->x<=hi->(x<=lo ↔ ∀ j,j<k+1->JA n (2^i) j x<=(hi:Rat)):=λ x x0 x1=>by
     refine ⟨λ h j hj => ?_,λ h=>Int.not_lt.1 λ l7 => ?_⟩
     ·by_cases e:j=k
      ·rw[e,ym]
       have:=Gk x lo h
       grind
      ·exact (k2 x x0 x1).1 (by omega) j (by omega)
     ·have h1:=(k2 x x0 x1).2 λ j hj=>h j (by omega)
      have h2:=h k (by omega);rw[ym]at h2;exact l4 x l7 h1 h2
    (repeat' ((first|(apply A9<;>intro hc<;>try omega)|(apply BG;omega)|apply A2)<;>conv=>whnf))
    exact CZ [] (kh (k+1) lo (by omega) ⟨by omega,by omega,by omega,me⟩)
  have ek:k=n.nodes.length:=by omega
  clear kh;rw[ek]at k2 ⊢;(repeat' ((first|(apply A9<;>intro hc<;>try omega)|apply A2)<;>conv=>whnf))
  exact ⟨_,BV rfl (by simp [B3,EC]),Or.inl ⟨i,i1,i2,Or.inl ⟨m,m0,m1,rfl,k2⟩⟩⟩
 ·(repeat' ((first|(apply A9<;>intro hc<;>try omega)|fail)<;>conv=>whnf))
  exact ⟨_,BV rfl (by simp [B3,EC]),Or.inr ⟨Hf,rfl⟩⟩
theorem Ags {S:FQ} {n k:Nat} (hS:S.Ok n k) (hn:n<=4) (hk:k<=40000) {p:Nat} (hp:p<=64):Bt 100000000000 (H3 S p):=by
 have Ar:Sq n S.a:=⟨hS.la,hS.lr⟩;have ke:=hS.lc;have Ba : ∀ j,j<=128->Bs 90000000 (GH S.a S.b j):=λ j hj=>(Ag1 Ar hS.lb hS.ba hS.bb j).le (by have:=Qz (n:=n) (k:=k) hn hj;omega)
 have br : ∀ j,j<=128->Bt (4*(k+90000000+1)) (CI S.c (GH S.a S.b j)):=λ j hj=>(hS.bc.dot (Ba j hj)).le (zR _ (by omega))
 have kn:Bt (4*(k+1)) (DB S.c):=(XW hS.bc).le (zR _ (by omega));have q1:=(lW (f:=KF S.a S.b S.c) (k:=370000000) (p+p) λ t ht=>(ME (br t (by omega))).le (by omega)).le (zR _ (show p+p<=128 by omega));have q2:=(lW (f:=λ t=>JY S.a S.b (p+t)) (k:=90000000) p λ t ht=>XG (Ba (p+t) (by omega))).le (zR _ (show p<=128 by omega));exact ((ME hS.bd).add (q1.add (kn.mul q2))).le (by omega)
theorem Afk {n:Nt} (hn:F4 n) {v:Nat} (hv:v<n.s.toNat+1+n.nodes.length):F4 (GN n v):=by
 obtain ⟨h1,h2,h3,h4,h5,h6⟩:=(F5 n).1 hn.dj;exact ⟨(F5 (GN n v)).2 ⟨h1,h2,h3,h4,h5,show (0:Int)<=(v:Int)/\(v:Int)<=n.s+n.nodes.length by omega⟩,hn.st,hn.nl,hn.cf,hn.tl⟩
theorem kW {n:Nt} (hn:F4 n):PU (DC n):=by
 refine ⟨λ ts h => ?_,λ ts h => ?_⟩;all_goals
  obtain ⟨d,hd,rfl⟩:=List.mem_map.1 h
 ·rcases hn.tl with h|⟨_,h⟩
  ·have:=h d hd;omega
  ·exact h d hd
 ·exact hn.cf d hd
theorem Agw {n:Nt} (hn:F4 n) {s:E8} (hs:WZ n s) (v:Nat):(NK n s v).Ok n.s.toNat 40000 :=
 ⟨(W1 hn).l,(W1 hn).r,hs.bl hn,yW n v,nF hn,hs.bb,yV hn v,fI hs.gb v⟩
theorem wY {n:Nt} (hn:F4 n) (v:Nat):(EN (GN n v)).Ok n.s.toNat 40000:=by
 rw[<-Agz hn.dj];exact Agw hn (Aga hn) v
theorem AdZ {n:Nt} (hn:F4 n) (k v:Nat):(K5 (GN n v) (k:Int)).Ok n.s.toNat 40000:=by
 rw[<-Agy hn.dj k 1];exact Agw hn (zV hn _ ⟨by decide,by decide⟩ (by decide)) v
theorem AmL (I:c5 L) (N:au L) (n:Nt) (hn:F4 n) (k:Nat) (nd:Nd) (hnd:n.nodes[k]? = some nd):Ev L 362 [.agg (FS n),.int .i64 (k:Int)] (.g8 [.agg (eQ (HG n nd)),.int .i64 0]):=by
 obtain ⟨h1,h2,⟨h3a,h3b,h3c,h3d⟩,h4,h5,h6⟩:=(F5 n).1 hn.dj;have Di:=h2;unfold WV at Di;have hV:=oV n I N.toy6;rw[hn.dj]at hV;have zp:n.nodes[(k:Int).toNat]? = some nd:=hnd;have Oz:=(zS hnd).1;have hIn:=ZZ I k 0 ((n.nodes.length:Int)-1);rw[decide_eq_true (by omega)]at hIn;have wu:=O6 N.toa6 0 (by omega);have wv:=O6 N.toa6 1 (by omega);have hF:=oP N.toa6 1 2 (by omega) (by omega);rw[show ((0:Int):Rat)=0 from rfl]at wu;rw[show ((1:Int):Rat)=1 from rfl]at wv;have xb:=HY n.c.f;have hC:=hn.cf _ (zM hnd);have hL:nd.ts.length<=5:=(kW hn).len _ (List.mem_map.2 ⟨nd,zM hnd,rfl⟩);have z0 : ∀ x:Rat,B3 (.g8 [.agg (eQ x),.int .i64 0]):=λ x=>jB x 0
 refine Ev.x N.VU rfl rfl ?_;(repeat' ((first|(apply DQ;omega)|apply BT|apply A2|refine AP (hV) ?_|refine AP (hIn) ?_)<;>conv=>whnf))
 refine IX (λ i _=>nd.ts.length-i) (λ(i:Nat) (b:Bool)=>i<=nd.ts.length/\b=X4 n (nd.ts.take i)) (λ i b=>[(7,.int .i64 i),(6,.bool b)]) (λ_ _=>[]) 0 true ⟨by omega,by simp [X4]⟩ ?_;intro i b ⟨p1,p2⟩ ih;by_cases hi:i<nd.ts.length
 ·obtain ⟨t,ht⟩ : ∃ t,nd.ts[i]? = some t:=⟨_,zE hi⟩
  have pd:nd.ts[(i:Int).toNat]? = some t:=ht;have hw:=Ahd (n:=n) ht;rw[<-p2]at hw;by_cases hz:t.2%pw n.c.f=0
  ·rw[decide_eq_true hz,Bool.and_true]at hw
   cases b
   ·(repeat' ((first|(apply A9<;>intro hc<;>try omega)|(apply BG;omega)|apply BT|(refine CN (by assumption) ?_ rfl ?_;omega)|apply A2)<;>conv=>whnf))
    exact CZ [] (ih (i+1) false (by omega) ⟨by omega,hw.symm⟩)
   ·(repeat' ((first|(apply A9<;>intro hc<;>try omega)|(apply BG;omega)|(refine IY ?_ (λ_ _ => ?_);omega)|(refine WW ?_ (λ_ _ _ => ?_) (λ_ _ _ _ => ?_);omega;all_goals try omega)|(apply EM;omega)|apply BT|(refine CN (by assumption) ?_ rfl ?_;omega)|apply A2)<;>conv=>whnf))
    all_goals exact CZ [] (ih (i+1) true (by omega) ⟨by omega,hw.symm⟩)
  ·rw[decide_eq_false hz,Bool.and_false]at hw
   cases b
   ·(repeat' ((first|(apply A9<;>intro hc<;>try omega)|(apply BG;omega)|apply BT|(refine CN (by assumption) ?_ rfl ?_;omega)|apply A2)<;>conv=>whnf))
    exact CZ [] (ih (i+1) false (by omega) ⟨by omega,hw.symm⟩)
   ·(repeat' ((first|(apply A9<;>intro hc<;>try omega)|(apply BG;omega)|(refine IY ?_ (λ_ _ => ?_);omega)|(refine WW ?_ (λ_ _ _ => ?_) (λ_ _ _ _ => ?_);omega;all_goals try omega)|(apply EM;omega)|apply BT|(refine CN (by assumption) ?_ rfl ?_;omega)|apply A2)<;>conv=>whnf))
    all_goals exact CZ [] (ih (i+1) false (by omega) ⟨by omega,hw.symm⟩)
 have ei:i=nd.ts.length:=by omega
 clear ih;rw[ei,List.take_length]at p2;cases b
 ·by_cases hr:n.d.r=2
  ·have e:HG n nd=Rat.divInt 1 2:=by rw[HG,<-p2,if_neg (by decide),if_pos hr]
   rw[e];(repeat' ((first|(apply A9<;>intro hc<;>try omega)|apply BT|(refine CN (by assumption) ?_ rfl ?_;omega)|apply A2|refine AP (hF) ?_)<;>conv=>whnf))
   exact BV rfl (z0 _)
  ·have e:HG n nd=1:=by rw[HG,<-p2,if_neg (by decide),if_neg hr]
   rw[e];(repeat' ((first|(apply A9<;>intro hc<;>try omega)|apply BT|(refine CN (by assumption) ?_ rfl ?_;omega)|apply A2|refine AP (wv) ?_)<;>conv=>whnf))
   exact BV rfl (z0 _)
 ·have e:HG n nd=0:=by rw[HG,<-p2,if_pos rfl]
  rw[e];(repeat' ((first|(apply A9<;>intro hc<;>try omega)|apply BT|(refine CN (by assumption) ?_ rfl ?_;omega)|apply A2|refine AP (wu) ?_)<;>conv=>whnf))
  exact BV rfl (z0 _)
theorem Ac4 (N:au L) (S:FQ) (n i:Nat) (hS:S.Ok n 40000) (hn:n<=4) (hi:i<=6) (hF:LG n S.a i):Ev L 315 [.agg (eS S)] (.g8 [.agg (eQ (H3 S (2^i))),.int .i64 0]):=by
 obtain ⟨v,h1,hv⟩:=AmS N.tocb S n 40000 hS hn (by omega);rcases hv with ⟨j,j1,j2,rfl⟩|⟨iu,rfl⟩
 ·obtain rfl:=hF.uniq j2;exact h1
 ·have:=iu i hi
  rw[hF.1]at this;cases this
def P7 (n:Nt) (i v:Nat) (x:Int) (K:Nat):Rat:=(x:Rat)*OV n (2^i) v+o0 (KL n) (λ k=>H3 (K5 (GN n v) (k:Int)) (2^i)) K
theorem ApW {n:Nt} (hn:F4 n) (i k:Nat) (x:Int):P7 n i (1+n.s.toNat+k) x n.nodes.length=JA n (2^i) k x:=by
 rw[P7,<-AfE hn.dj,JA,Rat.mul_comm]
theorem AmN (I:c5 L) (N:au L) (n:Nt) (hn:F4 n) (i:Nat) (hi:i<=6) (hF:LG n.s.toNat (aN n) i) (v:Nat) (hv:v<n.s.toNat+1+n.nodes.length) (x:Int) (hx:0<=x/\x<=8388607) :
  Bt 1000000000000 (P7 n i v x n.nodes.length)/\Ev L 364 [.agg (FS n),.int .i64 (v:Int),.int .i64 x] (.g8 [.agg (eQ (P7 n i v x n.nodes.length)),.int .i64 0]):=by
 have h24:(2:Nat)^24=16777216:=rfl;have j8:=hn.st;have eu:=hn.nl;have iu:=Afk hn hv;obtain ⟨_,_,⟨zn,_⟩,_⟩:=(F5 n).1 hn.dj;obtain ⟨g1,_,g3⟩:=YY hi;have tu:=Acy I N.tobn (GN n v) iu.dj (kW iu) iu.nl;have Sg : ∀ k:Nat,k<n.nodes.length->Ev L 166 [.agg (FS (GN n v)),.int .i64 (k:Int)] (.g8 [.agg (eS (K5 (GN n v) (k:Int))),.int .i64 0]):=λ k hk=>by
  have:=AlN I N.tobn (GN n v) (k:Int) iu.dj (kW iu) iu.nl (by unfold GW;omega)
  rwa [pH,if_pos (show (0:Int)<=(k:Int)/\(k:Int)<((GN n v).nodes.length:Int) by show _/\(k:Int)<(n.nodes.length:Int);omega)]at this
 have Hx:(EN (GN n v)).a=aN n:=(YC hn.dj).symm;have hak : ∀ k:Nat,(K5 (GN n v) (k:Int)).a=aN n:=λ k=>(YC hn.dj).symm
 have Sr:=Ac4 N (EN (GN n v)) n.s.toNat i (wY hn v) (by omega) hi (by rw[Hx];exact hF);have hSk:=λ k:Nat=>Ac4 N (K5 (GN n v) (k:Int)) n.s.toNat i (AdZ hn k v) (by omega) hi (by rw[hak];exact hF)
 have Np:=λ(k:Nat) (nd:Nd) (h:n.nodes[k]? = some nd)=>AmL I N (GN n v) iu k nd h
 have jx:=Ags (wY hn v) (by omega) (by omega) g1;have bh:=λ k:Nat=>Ags (AdZ hn k v) (by omega) (by omega) g1
 have vu:=Bt.ofInt (show x.natAbs<=2^24 by omega);have hOx:=O6 N.toa6 x (by omega);have Ka:=bQ N.toa6 vu jx (by omega) (by omega);have Ga : ∀ (k:Nat) (nd:Nd),n.nodes[k]? = some nd->KL n k=HG n nd:=λ k nd h=>by rw[KL,h]
 have Gq:P7 n i v x 0=(x:Rat)*H3 (EN (GN n v)) (2^i):=by
  rw[P7,Afr hn.dj];show _+0=_;rw[Rat.add_zero]
 have oe : ∀ (k:Nat) (nd:Nd),n.nodes[k]? = some nd->P7 n i v x (k+1)=P7 n i v x k+HG n nd*H3 (K5 (GN n v) (k:Int)) (2^i):=λ k nd h=>by
  rw[P7,P7,o0,Ga k nd h,<-Rat.add_assoc]
 have sn : ∀ K,K<=n.nodes.length->Bt (100000000030+K*100000000010) (P7 n i v x K):=by
  intro K;induction K with
  | zero=>intro _;rw[Gq];exact (vu.mul jx).le (by omega)
  | succ K ih =>
   intro hK;obtain ⟨nd,hnd⟩ : ∃ nd,n.nodes[K]? = some nd:=⟨_,zE (by omega)⟩;rw[oe K nd hnd];exact ((ih (by omega)).add ((Z8 n nd).1.mul (bh K))).le (by omega)
 have hMk:=λ(k:Nat) (nd:Nd)=>bQ N.toa6 (Z8 n nd).1 (bh k) (by omega) (by omega)
 have hAk:=λ(k:Nat) (nd:Nd) (hk:k<n.nodes.length)=>YK N.toa6 (sn k (by omega)) ((Z8 n nd).1.mul (bh k)) (by omega) (by omega)
 have Dw:=(sn n.nodes.length (Nat.le_refl _)).le (show _<=1000000000000 by omega);refine ⟨Dw,?_⟩;rw[<-Gq]at Ka;have z0:=λ x:Rat=>jB x 0
 obtain ⟨R,hR⟩ : ∃ R:Nat->Rat,∀ k,P7 n i v x k=R k:=⟨_,λ_=>rfl⟩;obtain ⟨T,hT⟩ : ∃ T:Nat->Rat,∀ k:Nat,H3 (K5 (GN n v) (k:Int)) (2^i)=T k:=⟨_,λ_=>rfl⟩;have Rq : ∀ (k:Nat) (nd:Nd),n.nodes[k]? = some nd->Ev L 126 [.agg (eQ (R k)),.agg (eQ (HG n nd*T k))] (.agg (eQ (R (k+1)))):=λ k nd h=>by
  have hk:=(zS h).1;have:=hAk k nd hk
  rw[<-oe k nd h,hR,hR,hT]at this;exact this
 simp only[hT]at hSk hMk;rw[hR]at Ka ⊢;clear hAk oe Gq sn bh jx Dw hR hT Ga hak Hx;generalize H3 (EN (GN n v)) (2^i)=s0 at *;refine Ev.x N.VW rfl rfl ?_;(repeat' ((first|(apply A9<;>intro hc<;>try omega)|apply A2|refine AP (tu) ?_|refine AP (Sr) ?_|refine AP (hOx) ?_|refine AP (Ka) ?_)<;>conv=>whnf))
 refine G5 (λ k=>n.nodes.length-k) (λ(k:Nat)=>k<=n.nodes.length) (λ k=>[(13,.int .i64 k)]) (λ k=>[(12,12,.bx (eQ (R k)))]) 0 (by omega) ?_;intro k k1 kh;by_cases hk:k<n.nodes.length
 ·obtain ⟨nd,hnd⟩ : ∃ nd,n.nodes[k]? = some nd:=⟨_,zE hk⟩
  have f1:=Np k nd hnd;have f1':Ev L 362 [.agg (FS (GN n v)),.int .i64 (k:Int)] (.g8 [.agg (eQ (HG n nd)),.int .i64 0]):=f1;have f2:=Sg k hk;have f3:=hSk k;have f4:=hMk k nd;have f5:=Rq k nd hnd;clear f1;generalize K5 (GN n v) (k:Int)=Sk at *;generalize HG n nd=lv at *;(repeat' ((first|(apply A9<;>intro hc<;>try omega)|(apply BG;omega)|apply BT|apply A2|refine AP (f1') ?_|refine AP (f2) ?_|refine AP (f3) ?_|refine AP (f4) ?_|refine AP (f5) ?_)<;>conv=>whnf))
  exact CZ [] (kh (k+1) (by omega) (by omega))
 have ek:k=n.nodes.length:=by omega
 clear kh;rw[ek];(repeat' ((first|(apply A9<;>intro hc<;>try omega)|apply BT|apply A2)<;>conv=>whnf))
 exact BV rfl (z0 _)
theorem AmP (I:c5 L) (N:au L) (n:Nt) (hn:F4 n):Ev L 363 [.agg (FS n)] (.bool true):=by
 have hV:=oV n I N.toy6;rw[hn.dj]at hV;have:=hn.st
 refine Ev.x N.VZ rfl rfl ?_;(repeat' ((first|(apply A9<;>intro hc<;>try omega)|apply A2|refine AP (hV) ?_)<;>conv=>whnf))
 exact JO rfl
theorem AmO (I:c5 L) (N:au L) (n:Nt) (hn:F4 n) (x:Int) (hx:0<=x/\x<=H6 n.d) :
  (∀ i,i<=6->LG n.s.toNat (aN n) i->Ev L 365 [.agg (FS n),.int .i64 x] (.g8 [.bool (decide (∀ k,k<n.nodes.length->JA n (2^i) k x<=(H6 n.d:Rat))),.int .i64 0]))/\(sM n->Ev L 365 [.agg (FS n),.int .i64 x] (.g8 [.bool false,.int .i64 14])):=by
 obtain ⟨sv,_,⟨zn,_⟩,_⟩:=(F5 n).1 hn.dj;have Ow:=pG sv;have j8:=hn.st;have eu:=hn.nl;have h24:(2:Nat)^24=16777216:=rfl;have hSm:=AmP I N n hn;have hH:=Ac8 n.d I;have hIn:=ZZ I x 0 (H6 n.d);rw[decide_eq_true hx]at hIn;have tu:=Acy I N.tobn n hn.dj (kW hn) hn.nl;have Ay:(EN n).a=aN n:=(YC hn.dj).symm;have hL0:eS (EN n)=[.sl false (eM (aN n)),.sl false ((EN n).b.map eQ),.sl false ((EN n).c.map eQ)]++eQ (EN n).d:=by rw[<-Ay]
 rw[hL0]at tu;generalize (EN n).b=lb at *;generalize (EN n).c=lc at *;generalize (EN n).d=ld at *;clear hL0 Ay;obtain ⟨w,hP,hw⟩:=Ac2 N.tocb false false (aN n) n.s.toNat 40000 (W1 hn) (nF hn) (by omega) (show 40000<=100000 by decide);have Sj:=O6 N.toa6 (H6 n.d) (by omega);have Ol:=Bt.ofInt (show (H6 n.d).natAbs<=2^24 by omega);generalize Ur:H6 n.d=hi at *;refine ⟨λ i i1 i2 => ?_,λ Hf => ?_⟩
 ·have Iu:w = .g8 [.int .i64 ((2^i:Nat):Int),.int .i64 0]:=by
   rcases hw with ⟨j,j1,j2,rfl⟩|⟨iu,rfl⟩
   ·obtain rfl:=i2.uniq j2;rfl
   ·have:=iu i i1
    rw[i2.1]at this;cases this
  subst Iu;clear hw;have hRe:=λ(k:Nat) (hk:k<n.nodes.length)=>AmN I N n hn i i1 i2 (1+n.s.toNat+k) (by omega) x (by omega)
  have Fb : ∀ k:Nat,k<n.nodes.length->Bt 1000000000000 (JA n (2^i) k x)/\Ev L 364 [.agg (FS n),.int .i64 (1+n.s+(k:Int)),.int .i64 x] (.g8 [.agg (eQ (JA n (2^i) k x)),.int .i64 0]):=λ k hk=>by
   have:=hRe k hk
   rwa [ApW hn,show ((1+n.s.toNat+k:Nat):Int)=1+n.s+(k:Int) by omega]at this
  have xn:=λ k:Nat=>XV (x:=JA n (2^i) k x) (y:=(hi:Rat))
  have rq:=λ(k:Nat) (hk:k<n.nodes.length)=>oL N.toa6 (Fb k hk).1 Ol (by omega) (by omega)
  have hEv:=λ(k:Nat) (hk:k<n.nodes.length)=>(Fb k hk).2
  clear hRe Fb;obtain ⟨B,hB⟩ : ∃ B:Nat->Rat,∀ k,JA n (2^i) k x=B k:=⟨_,λ_=>rfl⟩;simp only[hB]at xn rq hEv ⊢;clear hB;generalize 2^i=p2 at *;refine Ev.x N.PI rfl rfl ?_;(repeat' ((first|(apply A9<;>intro hc<;>try omega)|apply A2|refine AP (hSm) ?_|refine AP (hH) ?_|refine AP (hIn) ?_|refine AP (tu) ?_|refine AP (hP) ?_)<;>conv=>whnf))
  refine G5 (λ k=>n.nodes.length-k) (λ(k:Nat)=>k<=n.nodes.length /\ ∀ j,j<k->B j<=(hi:Rat)) (λ k=>[(10,.int .i64 k)]) (λ_=>[]) 0 ⟨by omega,by omega⟩ ?_;intro k ⟨k1,k2⟩ kh;by_cases hk:k<n.nodes.length
  ·have f1:=hEv k hk
   have f2:=rq k hk;have f3:=xn k;generalize v9 (B k-(hi:Rat)).num=sg at *;(repeat' ((first|(apply A9<;>intro hc<;>try omega)|(apply BG;omega)|apply BT|apply A2|refine AP (f1) ?_|refine AP (hH) ?_|refine AP (Sj) ?_|refine AP (f2) ?_)<;>conv=>whnf))
   ·have hd:decide (∀ k,k<n.nodes.length->B k<=(hi:Rat))=false:=decide_eq_false λ h=>by
     have h1:=h k hk;have h2:=f3.1 hc;grind
    rw[hd];exact BV rfl (by simp [B3,EC])
   ·have hle:B k<=(hi:Rat):=Rat.not_lt.1 λ h=>by have:=f3.2 h;omega
    exact CZ [] (kh (k+1) (by omega) ⟨by omega,λ j hj=>by
     by_cases e:j=k
     ·rw[e];exact hle
     ·exact k2 j (by omega)⟩)
  have ek:k=n.nodes.length:=by omega
  clear kh;rw[ek]at k2 ⊢;rw[decide_eq_true k2];(repeat' ((first|(apply A9<;>intro hc<;>try omega)|apply BT|apply A2)<;>conv=>whnf))
  exact BV rfl (by simp [B3,EC])
 ·have Iu:w = .g8 [.int .i64 0,.int .i64 14]:=by
   rcases hw with ⟨j,j1,j2,rfl⟩|⟨iu,rfl⟩
   ·have:=Hf j j1
    rw[j2.1]at this;cases this
   ·rfl
  subst Iu;refine Ev.x N.PI rfl rfl ?_;(repeat' ((first|(apply A9<;>intro hc<;>try omega)|apply A2|refine AP (hSm) ?_|refine AP (hH) ?_|refine AP (hIn) ?_|refine AP (tu) ?_|refine AP (hP) ?_)<;>conv=>whnf))
  exact BV rfl (by simp [B3,EC])
theorem AmM (I:c5 L) (N:au L) (n:Nt) (hn:F4 n) :
  (∀ i,i<=6->LG n.s.toNat (aN n) i->(∃ k,k<n.nodes.length/\(H6 n.d:Rat)<N8 n (2^i) (1+n.s.toNat+k))->Ev L 366 [.agg (FS n)] (.g8 [.int .i64 0,.int .i64 18]))/\(sM n->Ev L 366 [.agg (FS n)] (.g8 [.int .i64 0,.int .i64 14])):=by
 obtain ⟨sv,_⟩:=(F5 n).1 hn.dj;have Ow:=pG sv;obtain ⟨h1,h2⟩:=AmO I N n hn 0 (by omega);refine ⟨λ i i1 i2 ⟨k,hk,hr⟩ => ?_,λ Hf => ?_⟩
 ·have hs:=h1 i i1 i2
  rw[decide_eq_false λ h=>by
   have h3:=h k hk;rw[JA,show ((0:Int):Rat)=0 from rfl,Rat.mul_zero,Rat.zero_add]at h3;grind]at hs
  refine Ev.x N.PH rfl rfl ?_;(repeat' ((first|(apply A9<;>intro hc<;>try omega)|apply A2|refine AP (hs) ?_)<;>conv=>whnf))
  exact BV rfl (by simp [B3,EC])
 ·have hs:=h2 Hf
  refine Ev.x N.PH rfl rfl ?_;(repeat' ((first|(apply A9<;>intro hc<;>try omega)|apply A2|refine AP (hs) ?_)<;>conv=>whnf))
  exact BV rfl (by simp [B3,EC])
end Go.b8
namespace Go.b8
set_option maxHeartbeats 2000000
def JR (a:List (List Rat)) (c w:List Rat) (j:Nat):Rat:=CI c (GH a w j)
theorem Apb (a:List (List Rat)) {u w:List Rat} (h:u.length=w.length):GL a (OO u w)=OO (GL a u) (GL a w):=by
 rw[GL,GL,GL,nH];exact List.map_congr_left λ r _=>oF h
theorem Ag2 (a:List (List Rat)) {u w:List Rat} (h:u.length=w.length) : ∀ j,GH a (OO u w) j=OO (GH a u j) (GH a w j)/\(GH a u j).length=(GH a w j).length
 | 0=>⟨rfl,h⟩
 | j+1=>by
  obtain ⟨h1,h2⟩:=Ag2 a h j;exact ⟨by rw[GH,h1,Apb a h2];rfl,by rw[GH,GH,gB,gB]⟩
theorem Zo (x:Rat) (a w:List Rat):CI a (w.map (· * x))=CI a w*x:=by rw[ZV,oG,ZV]
theorem Ag5 (a:List (List Rat)) (w:List Rat) (x:Rat) : ∀ j,GH a (w.map (· * x)) j=(GH a w j).map (· * x)
 | 0=>rfl
 | j+1=>by
  rw[GH,Ag5 a w x j,GH,GL,GL,List.map_map];exact List.map_congr_left λ r _=>Zo x r _
theorem Afh (a:List (List Rat)) (c:List Rat) {u w:List Rat} (h:u.length=w.length) (j:Nat):JR a c (OO u w) j=JR a c u j+JR a c w j:=by
 obtain ⟨h1,h2⟩:=Ag2 a h j;rw[JR,h1,oF h2];rfl
theorem Afi (a:List (List Rat)) (c w:List Rat) (x:Rat) (j:Nat):JR a c (w.map (· * x)) j=JR a c w j*x:=by rw[JR,Ag5,Zo];rfl
theorem Ag4 (a:List (List Rat)) (w:List Rat) : ∀ j,GH a (GL a w) j=GH a w (j+1)
 | 0=>rfl
 | j+1=>by rw[GH,Ag4 a w j];rfl
theorem sS {ε lv f:Nat->Rat} : ∀ N,(∀ k,k<N->CU (ε k)<=lv k)->CU (o0 ε f N)<=o0 lv (λ k=>CU (f k)) N
 | 0,_=>by rw[o0,o0,dV];exact Rat.le_refl
 | N+1,h=>by
  rw[o0,o0];refine Rat.le_trans (dU _ _) (W2 (sS N λ k hk=>h k (by omega)) ?_);rw[aY];exact Rat.mul_le_mul_of_nonneg_right (h N (by omega)) (ZN _)
theorem Acr {lv f g:Nat->Rat} (h0 : ∀ k,0<=lv k) : ∀ N,(∀ k,k<N->f k<=g k)->o0 lv f N<=o0 lv g N
 | 0,_=>Rat.le_refl
 | N+1,h=>by
  rw[o0,o0];exact W2 (Acr h0 N λ k hk=>h k (by omega)) (Rat.mul_le_mul_of_nonneg_left (h N (by omega)) (h0 N))
variable {n:Nt}
def X0 (n:Nt) (st:List Rat) (x:Rat) (ε:Nat->Rat) (K:Nat):List Rat:=n.next.map λ e=>(CI (fA n e) st+gX n e*x)+o0 ε (λ k=>gK n k e) K
def bX (n:Nt):List Rat:=n.next.map (gX n)
def bK (n:Nt) (k:Nat):List Rat:=n.next.map (gK n k)
theorem Agg (hb:HD n=true) (c st:List Rat) (x:Rat) (ε:Nat->Rat) (j:Nat) : ∀ K,JR (aN n) c (X0 n st x ε K) j=(JR (aN n) c st (j+1)+JR (aN n) c (bX n) j*x)+o0 ε (λ k=>JR (aN n) c (bK n k) j) K
 | 0=>by
  have e:X0 n st x ε 0=OO (GL (aN n) st) ((bX n).map (· * x)):=by
   rw[YC hb,GL,bX,List.map_map,List.map_map,nH];refine List.map_congr_left λ e _ => ?_
   show CI (fA n e) st+gX n e*x+0=_;rw[Rat.add_zero];rfl
  rw[e,Afh _ _ (by rw[gB,YC hb,List.length_map,List.length_map,bX,List.length_map]),Afi,o0,Rat.add_zero];congr 1;rw[JR,Ag4];rfl
 | K+1=>by
  have e:X0 n st x ε (K+1)=OO (X0 n st x ε K) ((bK n K).map (· * ε K)):=by
   rw[X0,X0,bK,List.map_map,nH];refine List.map_congr_left λ e _ => ?_
   show _+(_+ε K*gK n K e)=_+_+gK n K e*ε K;grind
  rw[e,Afh _ _ (by simp [X0,bK]),Afi,Agg hb c st x ε j K,o0];grind
def wN (n:Nt) (m:Rat) (t:Nat) (c:List Rat) (j:Nat):Rat:=m*ES (λ i=>CU (JR (aN n) c (bX n) (j+i))) t+o0 (KL n) (λ k=>ES (λ i=>CU (JR (aN n) c (bK n k) (j+i))) t) n.nodes.length
theorem Aq0 (f:Nat->Rat) (t:Nat):ES f (t+1)=f 0+ES (λ i=>f (i+1)) t:=by
 have:=gZ f 1 t
 rw[show 1+t=t+1 by omega]at this;rw[this];have e1:ES f 1=f 0:=by show 0+f 0=f 0;rw[Rat.zero_add]
 rw[e1];congr 1;exact Qf t λ i _=>by rw[show 1+i=i+1 by omega]
theorem Arv (m:Rat) (t:Nat) (c:List Rat) (j:Nat):wN n m (t+1) c j=(wN n m t c (j+1)+m*CU (JR (aN n) c (bX n) j))+o0 (KL n) (λ k=>CU (JR (aN n) c (bK n k) j)) n.nodes.length:=by
 have h : ∀ w,ES (λ i=>CU (JR (aN n) c w (j+i))) (t+1)=CU (JR (aN n) c w j)+ES (λ i=>CU (JR (aN n) c w (j+1+i))) t:=λ w=>by
  rw[Aq0];congr 1;exact Qf t λ i _=>by rw[show j+(i+1)=j+1+i by omega]
 rw[wN,wN,h,bN (g:=λ k=>CU (JR (aN n) c (bK n k) j)+ES (λ i=>CU (JR (aN n) c (bK n k) (j+1+i))) t) _ λ k _=>h _,jQ];grind
def PS (n:Nt) (m:Rat) (t:Nat) (st:List Rat):Prop := ∀ c j,CU (JR (aN n) c st j)<=wN n m t c j
theorem PS.step (hb:HD n=true) {m x:Rat} {t:Nat} {st:List Rat} (h:PS n m t st) (hx:CU x<=m) {ε:Nat->Rat} (hε : ∀ k,k<n.nodes.length->CU (ε k)<=KL n k):PS n m (t+1) (X0 n st x ε n.nodes.length):=by
 intro c j;rw[Agg hb,Arv];refine Rat.le_trans (dU _ _) (W2 (Rat.le_trans (dU _ _) (W2 (h c (j+1)) ?_)) (sS _ hε));rw[aY,Rat.mul_comm];exact Rat.mul_le_mul_of_nonneg_right hx (ZN _)
theorem PS.zero (m:Rat) (S:Nat) (hm:0<=m):PS n m 0 (List.replicate S 0):=by
 intro c j;have hz : ∀ (k:Nat) (r:List Rat),CI r (List.replicate k 0)=0:=by
  intro k;induction k with
  | zero=>intro r;cases r<;>rfl
  | succ k ih =>
   intro r;cases r with
   | nil=>rfl
   | cons y r=>rw[List.replicate_succ,CI,ih r,Rat.mul_zero,Rat.zero_add]
 have hv : ∀ j,∃ k,GH (aN n) (List.replicate S 0) j=List.replicate k 0:=by
  intro j;induction j with
  | zero=>exact ⟨S,rfl⟩
  | succ j ih =>
   obtain ⟨k,hk⟩:=ih;refine ⟨(aN n).length,?_⟩;rw[GH,hk,GL];refine List.eq_replicate_iff.2 ⟨List.length_map _,λ y hy => ?_⟩;obtain ⟨r,_,rfl⟩:=List.mem_map.1 hy;exact hz k r
 obtain ⟨k,hk⟩:=hv j;rw[JR,hk,hz,dV];have:wN n m 0 c j=0:=by
  rw[wN];show m*0+o0 (KL n) (λ_=>0) n.nodes.length=0;rw[oK,Rat.mul_zero,Rat.add_zero]
 rw[this];exact Rat.le_refl
theorem AgX (hn:F4 n) {i:Nat} (hc:G0 (EJ n.s.toNat (aN n) i)=true) {m x:Rat} (hm:0<=m) {t:Nat} {st:List Rat} (h:PS n m t st) (hx:CU x<=m) {ε:Nat->Rat} (hε : ∀ k,k<n.nodes.length->CU (ε k)<=KL n k) (v:Nat) :
  CU ((CI (fA n (v:Int)) st+gX n (v:Int)*x)+o0 ε (λ k=>gK n k (v:Int)) n.nodes.length)<=OV n (2^i) v*m+N8 n (2^i) v:=by
 have hb:=hn.dj;have h1:=h (fA n (v:Int)) 0;have hlen : ∀ w:Int->Rat,(n.next.map w).length=n.s.toNat:=λ w=>by rw[List.length_map];exact (gE hn).1
 have himp : ∀ (w:Int->Rat) (d:Rat),CU d+ES (λ i=>CU (JR (aN n) (fA n (v:Int)) (n.next.map w) (0+i))) t<=H3 ⟨aN n,n.next.map w,fA n (v:Int),d⟩ (2^i):=λ w d=>by
  have:=An5 (n:=n.s.toNat) (S:=⟨aN n,n.next.map w,fA n (v:Int),d⟩) (W1 hn) (hlen w) hc t
  refine Rat.le_trans (W2 Rat.le_refl (rM t λ j _ => ?_)) this;rw[Nat.zero_add];exact Rat.le_refl
 have e0:(⟨aN n,n.next.map (gX n),fA n (v:Int),gX n (v:Int)⟩:FQ)=EN (GN n v):=by rw[YC hb];rfl
 have ek : ∀ k:Nat,(⟨aN n,n.next.map (gK n k),fA n (v:Int),gK n k (v:Int)⟩:FQ)=K5 (GN n v) (k:Int):=λ k=>by rw[YC hb];rfl
 have i0:=himp (gX n) (gX n (v:Int));have ik:=λ k:Nat=>himp (gK n k) (gK n k (v:Int))
 rw[e0]at i0;simp only[ek]at ik;rw[Afr hb,AfE hb];have hw:wN n m t (fA n (v:Int)) 0+m*CU (gX n (v:Int))+o0 (KL n) (λ k=>CU (gK n k (v:Int))) n.nodes.length<=H3 (EN (GN n v)) (2^i)*m+o0 (KL n) (λ k=>H3 (K5 (GN n v) (k:Int)) (2^i)) n.nodes.length:=by
  have j1:=Rat.mul_le_mul_of_nonneg_left i0 hm;have j2:=Acr (lv:=KL n) Aef n.nodes.length λ k _=>ik k
  rw[jQ]at j2;rw[wN];have j3:m*(CU (gX n (v:Int))+ES (λ i=>CU (JR (aN n) (fA n (v:Int)) (bX n) (0+i))) t)<=m*H3 (EN (GN n v)) (2^i):=j1;have j4:o0 (KL n) (λ k=>CU (gK n k (v:Int))) n.nodes.length+o0 (KL n) (λ k=>ES (λ i=>CU (JR (aN n) (fA n (v:Int)) (bK n k) (0+i))) t) n.nodes.length<=o0 (KL n) (λ k=>H3 (K5 (GN n v) (k:Int)) (2^i)) n.nodes.length:=j2;grind
 refine Rat.le_trans (Rat.le_trans (dU _ _) (W2 (Rat.le_trans (dU _ _) (W2 (show CU (CI (fA n (v:Int)) st)<=wN n m t (fA n (v:Int)) 0 from h1) (show CU (gX n (v:Int)*x)<=m*CU (gX n (v:Int)) from ?_))) (sS _ hε))) hw;rw[aY,Rat.mul_comm];exact Rat.mul_le_mul_of_nonneg_right hx (ZN _)
end Go.b8

namespace Go.b8
set_option maxHeartbeats 2000000
theorem Aqw {f r:Int} (hf:0<=f/\f<=62) (hr:1<=r/\r<=3) (a:Int) : -pw f<=OD a f r*pw f-a/\OD a f r*pw f-a<=pw f/\(r=2 -> -pw f<=2*(OD a f r*pw f-a)/\2*(OD a f r*pw f-a)<=pw f):=by
 have hp:=HY f;unfold OD;rw[if_pos ⟨hf.1,hf.2,hr.1,hr.2⟩];by_cases h0:f=0
 ·rw[if_pos h0,h0,Afn];omega
 rw[if_neg h0];have h2:=qI (n:=f) (by omega);have h3:=HY (f-1);have e1:=Int.emod_add_mul_ediv a (pw f);have e2:=Int.emod_nonneg a (show pw f≠0 by omega);have e3:=Int.emod_lt_of_pos a hp;have e4:(a/pw f+1)*pw f=pw f*(a/pw f)+pw f:=by rw[Int.add_mul,Int.one_mul,Int.mul_comm]
 have e5:a/pw f*pw f=pw f*(a/pw f):=Int.mul_comm _ _;split
 ·rw[e4]
  generalize pw f*(a/pw f)=q at *;refine ⟨by omega,by omega,λ h => ?_⟩;rename_i hc;rcases hc with hc|hc<;>omega
 ·rw[e5]
  generalize pw f*(a/pw f)=q at *;refine ⟨by omega,by omega,λ h => ?_⟩;rename_i hc;have : ¬ pw (f-1)<=a%pw f:=λ h9=>hc (Or.inl ⟨h,h9⟩)
  omega
theorem Ai6 {a p:Int} {l:Rat} (hp:0<p) (h : -(l*(p:Rat))<=(a:Rat)/\(a:Rat)<=l*(p:Rat)):CU ((a:Rat)/(p:Rat))<=l:=by
 have Vr:(0:Rat)<(p:Rat):=by exact_mod_cast hp
 have m7:(p:Rat)≠0:=by grind
 have hm:((a:Rat)/(p:Rat))*(p:Rat)=(a:Rat):=Rat.div_mul_cancel m7;rw[QF];split
 ·refine Rat.not_lt.1 λ l7 => ?_
  have h2:=Rat.mul_lt_mul_of_pos_right l7 Vr;rw[Rat.neg_mul,hm]at h2;grind
 ·refine Rat.not_lt.1 λ l7 => ?_
  have h2:=Rat.mul_lt_mul_of_pos_right l7 Vr;rw[hm]at h2;grind
variable {n:Nt}
theorem Aph (hn:F4 n) {vals:List Int} (hv:IR n.d vals=true) {nd:Nd} (hnd:nd∈n.nodes) :
  CU (((XR n vals nd:Int):Rat)-EX (HX vals) nd.ts/((pw n.c.f:Int):Rat))<=HG n nd:=by
 obtain ⟨hd,hc,_⟩:=(F5 n).1 hn.dj;have kj : ∀ v∈vals,FT n.d v:=λ v hm=>by simpa using List.all_eq_true.1 hv v hm
 have hu:=HY n.c.f;have Hd:((pw n.c.f:Int):Rat)≠0:=by
  intro e;have:pw n.c.f=0:=by exact_mod_cast e
  omega
 have hcf : ∀ t∈nd.ts,-16777216<=t.2/\t.2<=16777216:=λ t ht=>by
  have:=hn.cf nd hnd t ht
  have e:(2:Nat)^24=16777216:=rfl;omega
 have hl:nd.ts.length<=5:=by
  rcases hn.tl with h|⟨_,h⟩
  ·have:=h nd hnd;omega
  ·exact h nd hnd
 have y5:=hc;have hd':=hd;unfold WV at y5 hd';have hE:=Aqw (f:=n.c.f) (r:=n.d.r) (by omega) (by omega) (O1 vals nd.ts);have hns:XR n vals nd=OD (O1 vals nd.ts) n.c.f n.d.r:=by
  unfold XR;rw[Agu vals (λ v h=>iL (kj v h)) nd.ts 0 0 hcf (by omega) (by omega),Int.zero_add]
 have Cn:((XR n vals nd:Int):Rat)-EX (HX vals) nd.ts/((pw n.c.f:Int):Rat)=((XR n vals nd*pw n.c.f-O1 vals nd.ts:Int):Rat)/((pw n.c.f:Int):Rat):=by
  rw[Agq,Rat.intCast_sub,Rat.intCast_mul,Rat.div_def,Rat.div_def,Rat.sub_eq_add_neg,Rat.sub_eq_add_neg,Rat.add_mul,Rat.mul_assoc,Rat.mul_inv_cancel _ Hd,Rat.mul_one,Rat.neg_mul]
 rw[Cn];unfold HG;by_cases hw:X4 n nd.ts=true
 ·rw[if_pos hw]
  obtain ⟨q,hq⟩:=Ago (u:=pw n.c.f) vals nd.ts λ t ht=>by
   have:=of_decide_eq_true (List.all_eq_true.1 hw t ht)
   exact ⟨t.2/pw n.c.f,by have:=Int.emod_add_mul_ediv t.2 (pw n.c.f);omega⟩
  rw[hns,hq,Aqx (by omega) (by omega),Int.mul_comm,Int.sub_self,Rat.div_def,show ((0:Int):Rat)=0 from rfl,Rat.zero_mul,dV];exact Rat.le_refl
 rw[if_neg hw,hns];generalize OD (O1 vals nd.ts) n.c.f n.d.r*pw n.c.f-O1 vals nd.ts=a at *;refine Ai6 hu ?_;by_cases h2:n.d.r=2
 ·rw[if_pos h2]
  obtain ⟨g1,g2⟩:=hE.2.2 h2;have g1' : -((pw n.c.f:Int):Rat)<=2*(a:Rat):=by exact_mod_cast g1
  have g2':2*(a:Rat)<=((pw n.c.f:Int):Rat):=by exact_mod_cast g2
  rw[show Rat.divInt 1 2=1/2 by rw[Rat.divInt_eq_div];rfl];constructor<;>grind
 ·rw[if_neg h2]
  have g1' : -((pw n.c.f:Int):Rat)<=(a:Rat):=by exact_mod_cast hE.1
  have g2':(a:Rat)<=((pw n.c.f:Int):Rat):=by exact_mod_cast hE.2.1
  constructor<;>grind
theorem Adh {u:Rat} {ε δ:Nat->Rat} : ∀ (l:List (List (Int × Int))) (k:Nat) (vals:List Rat),(∀ j,k<=j->j<k+l.length->ε j=δ j)->IB u ε k vals l=IB u δ k vals l
 | [],_,_,_=>rfl
 | ts::r,k,vals,h=>by
  rw[IB,IB,h k (Nat.le_refl _) (by simp),Adh r (k+1) _ λ j h1 h2=>h j (by omega) (by rw[List.length_cons];omega)]
theorem Adj (u:Rat) (ε:Nat->Rat) : ∀ (l:List (List (Int × Int))) (k:Nat) (vals:List Rat),∃ r,IB u ε k vals l=vals++r
 | [],_,vals=>⟨[],(List.append_nil _).symm⟩
 | ts::r,k,vals=>by
  obtain ⟨q,hq⟩:=Adj u ε r (k+1) (vals++[EX vals ts/u+ε k]);exact ⟨_,by rw[IB,hq,List.append_assoc]⟩
theorem Adg (u:Rat) (ε:Nat->Rat) (b:List (List (Int × Int))) : ∀ (a:List (List (Int × Int))) (k:Nat) (vals:List Rat),IB u ε k vals (a++b)=IB u ε (k+a.length) (IB u ε k vals a) b
 | [],_,_=>rfl
 | ts::r,k,vals=>by rw[List.cons_append,IB,Adg u ε b r,IB,List.length_cons,show k+1+r.length=k+(r.length+1) by omega]
theorem Adk (hb:HD n=true) {st:List Rat} {x:Rat} (hl:(st.length:Int)=n.s) (ε:Nat->Rat) {e:Int} (he:0<=e/\e<=n.s+n.nodes.length) :
  (IB ((pw n.c.f:Int):Rat) ε 0 (x::st) (DC n)).getD e.toNat 0=(CI (fA n e) st+gX n e*x)+o0 ε (λ k=>gK n k e) n.nodes.length:=by
 obtain ⟨h1,h2,h3,h4,h5,h6⟩:=(F5 n).1 hb;have l7:(DC n).length=n.nodes.length:=by simp [DC]
 have hL:=Adi (u:=((pw n.c.f:Int):Rat)) ε (x::st) n.nodes.length (DC n) (by omega) (λ i ts h t h2=>by
  simp only[DC,List.getElem?_map]at h;cases hn:n.nodes[i]? with
  | none=>rw[hn]at h;cases h
  | some nd =>
   rw[hn]at h;cases h;have:=List.all_eq_true.1 (gF h4 hn) t h2
   simp only[I6,decide_eq_true_eq]at this;simp only[List.length_cons];omega) (DC n).length (Nat.le_refl _) e.toNat (by rw[l7,List.length_cons];omega)
 rw[List.take_length]at hL;rw[hL,AoF (n:=n) hb hl (by omega)];have e2:(1+n.s).toNat=(x::st).length:=by rw[List.length_cons];omega
 congr 1;refine bN _ λ k _ => ?_
 unfold gK ER;rw[e2]
theorem Zu (hn:F4 n) {i:Nat} (hc:G0 (EJ n.s.toNat (aN n) i)=true) {m:Int} (hm:0<=m) (nh : ∀ k,k<n.nodes.length->JA n (2^i) k m<=(H6 n.d:Rat)) {t:Nat} {st:List Int} (hl:(st.length:Int)=n.s) {x:Int} (hI:PS n (m:Rat) t (HX st)) (hx:CU (x:Rat)<=(m:Rat)) :
  ∀ (l:List Nd) (vals:List Int) (k:Nat) (ε:Nat->Rat),l=n.nodes.drop k->k<=n.nodes.length->IR n.d vals=true->HX vals=IB ((pw n.c.f:Int):Rat) ε 0 (HX (x::st)) ((DC n).take k)->(∀ j,CU (ε j)<=KL n j) ->
   ∃ δ:Nat->Rat,(∀ j,CU (δ j)<=KL n j)/\(JJ n vals false l).2=false/\HX (JJ n vals false l).1=IB ((pw n.c.f:Int):Rat) δ 0 (HX (x::st)) (DC n)
 | [],vals,k,ε,hd,hk,hv,hE,hε=>by
  have h:=congrArg List.length hd;rw[List.length_drop,List.length_nil]at h;rw[zT (by simp [DC];omega)]at hE;exact ⟨ε,hε,rfl,hE⟩
 | nd::l,vals,k,ε,hd,hk,hv,hE,hε=>by
  obtain ⟨sv,_,_⟩:=(F5 n).1 hn.dj;have hlen:=congrArg List.length hd;rw[List.length_drop,List.length_cons]at hlen;have hnd:n.nodes[k]? = some nd:=by
   have:(n.nodes.drop k)[0]? = some nd:=by rw[<-hd];rfl
   rwa [List.getElem?_drop,Nat.add_zero]at this
  have jg:l=n.nodes.drop (k+1):=by
   have:(n.nodes.drop k).drop 1=l:=by rw[<-hd];rfl
   rw[<-this,List.drop_drop]
  have fc:(DC n)[k]? = some nd.ts:=by rw[DC,List.getElem?_map,hnd];rfl
  have kp:((DC n).take k).length=k:=by rw[List.length_take];simp [DC];omega
  have he:=Aph hn hv (zM hnd);obtain ⟨r,hr⟩ : ∃ r,XR n vals nd=r:=⟨_,rfl⟩;rw[hr]at he;obtain ⟨δ,hδ⟩ : ∃ δ:Nat->Rat,δ=λ j=>if j=k then ((r:Int):Rat)-EX (HX vals) nd.ts/((pw n.c.f:Int):Rat) else ε j:=⟨_,rfl⟩
  have hδk:δ k=((r:Int):Rat)-EX (HX vals) nd.ts/((pw n.c.f:Int):Rat):=by rw[hδ];exact if_pos rfl
  have hδl : ∀ j,CU (δ j)<=KL n j:=λ j=>by
   by_cases e:j=k
   ·rw[e,hδk,KL,hnd];exact he
   ·rw[hδ];show CU (if j=k then _ else ε j)<=_;rw[if_neg e];exact hε j
  have hE2:HX (vals++[r])=IB ((pw n.c.f:Int):Rat) δ 0 (HX (x::st)) ((DC n).take (k+1)):=by
   rw[List.take_add_one,fc,Option.toList_some,vK,kp,Nat.zero_add,hδk,Ad3,Adh (δ:=ε) _ _ _ λ j _ h2=>by
    rw[hδ];show (if j=k then _ else ε j)=_;rw[if_neg (by rw[kp]at h2;omega)],<-hE]
   congr 1;show [((r:Int):Rat)]=_;congr 1;grind
  have hval:=Adk (n:=n) hn.dj (st:=HX st) (x:=(x:Rat)) (by rw[cC];exact hl) δ (e:=((1+n.s.toNat+k:Nat):Int)) (by omega);have hb:=AgX hn hc (show (0:Rat)<=(m:Rat) by exact_mod_cast hm) hI hx (λ k _=>hδl k) (1+n.s.toNat+k);rw[<-hval]at hb;have Vu:(IB ((pw n.c.f:Int):Rat) δ 0 ((x:Rat)::HX st) (DC n)).getD ((1+n.s.toNat+k:Nat):Int).toNat 0=((r:Int):Rat):=by
   have hs:DC n=(DC n).take (k+1)++(DC n).drop (k+1):=(List.take_append_drop _ _).symm;rw[hs,Adg];obtain ⟨q,hq⟩:=Adj ((pw n.c.f:Int):Rat) δ ((DC n).drop (k+1)) (0+((DC n).take (k+1)).length) (IB ((pw n.c.f:Int):Rat) δ 0 ((x:Rat)::HX st) ((DC n).take (k+1)));have hE3:IB ((pw n.c.f:Int):Rat) δ 0 ((x:Rat)::HX st) ((DC n).take (k+1))=HX (vals++[r]):=hE2.symm;have iw:vals.length=1+n.s.toNat+k:=by
    have h:=congrArg List.length hE;rw[cC,vJ,cC,kp,List.length_cons]at h;omega
   rw[hq,hE3,Int.toNat_natCast,List.getD_eq_getElem?_getD,List.getElem?_append_left (by rw[cC,List.length_append];simp;omega),Ad3,List.getElem?_append_right (by rw[cC];omega),cC,iw,Nat.sub_self];rfl
  rw[Vu]at hb;have np:k<n.nodes.length:=by omega
  have ct:CU ((r:Int):Rat)<=(H6 n.d:Rat):=Rat.le_trans hb (nh k np);have Hq:FT n.d r:=by
   refine ⟨sv,?_⟩;have e1:O8 n.d = -H6 n.d-1:=by rw[O8,H6,if_pos sv,if_pos sv];omega
   rw[QF]at ct;have h1:((r:Int):Rat)<=(H6 n.d:Rat):=by split at ct<;>grind
   have h2:((-r:Int):Rat)<=(H6 n.d:Rat):=by rw[Rat.intCast_neg];split at ct<;>grind
   have um:=Rat.intCast_le_intCast.1 h1;have Di:=Rat.intCast_le_intCast.1 h2;omega
  have jc:JJ n vals false (nd::l)=JJ n (vals++[r]) false l:=by
   rw[JJ,hr,ApX Hq,decide_eq_true Hq];rfl
  rw[jc];exact Zu hn hc hm nh hl hI hx l (vals++[r]) (k+1) δ jg (by omega) (by
   simp only[IR,List.all_append,Bool.and_eq_true,List.all_cons,List.all_nil,Bool.and_true,decide_eq_true_eq];exact ⟨hv,Hq⟩) hE2 hδl
theorem AqU (hn:F4 n) {i:Nat} (hc:G0 (EJ n.s.toNat (aN n) i)=true) {m:Int} (hm:0<=m) (nh : ∀ k,k<n.nodes.length->JA n (2^i) k m<=(H6 n.d:Rat)) {t:Nat} {st:List Int} (hl:(st.length:Int)=n.s) {x:Int} (hw:IR n.d (x::st)=true) (hI:PS n (m:Rat) t (HX st)) (hx:CU (x:Rat)<=(m:Rat)) :
  (JJ n (x::st) false n.nodes).2=false/\(∀ k,k<n.nodes.length->CU (((JJ n (x::st) false n.nodes).1.getD (1+n.s.toNat+k) 0:Int):Rat)<=JA n (2^i) k m)/\PS n (m:Rat) (t+1) (HX (MK n (JJ n (x::st) false n.nodes).1)):=by
 obtain ⟨δ,h1,h2,h3⟩:=Zu hn hc hm nh hl hI hx n.nodes (x::st) 0 (λ_=>0) rfl (Nat.zero_le _) hw (by rw[List.take_zero];rfl) (λ j=>by rw[dV];exact Aef j);have hval:=λ(e:Int) he=>Adk (n:=n) hn.dj (st:=HX st) (x:=(x:Rat)) (by rw[cC];exact hl) δ (e:=e) he
 have h3':IB ((pw n.c.f:Int):Rat) δ 0 ((x:Rat)::HX st) (DC n)=HX (JJ n (x::st) false n.nodes).1:=h3.symm;rw[h3']at hval;refine ⟨h2,λ k hk => ?_,?_⟩
 ·have hb:=AgX hn hc (show (0:Rat)<=(m:Rat) by exact_mod_cast hm) hI hx (λ k _=>h1 k) (1+n.s.toNat+k)
  rw[<-hval _ (by omega),Int.toNat_natCast,wM]at hb;exact hb
 ·have e:HX (MK n (JJ n (x::st) false n.nodes).1)=X0 n (HX st) (x:Rat) δ n.nodes.length:=by
   obtain ⟨_,_,_,_,h5,_⟩:=(F5 n).1 hn.dj;simp only[MK,HX,X0,List.map_map];refine List.map_congr_left λ e he => ?_
   have:=of_decide_eq_true (List.all_eq_true.1 h5 e he)
   have hv:=hval e this;rw[wM]at hv;exact hv
  rw[e];exact PS.step hn.dj hI hx λ k _=>h1 k
end Go.b8

namespace Go.b8
open F
attribute [local irreducible] AJ A3 BU AU FE BR C1 CK DS DE FA G7 DR B2 EH E5 AL CQ BC pw FM E2 F7 G8 GX EG FK EE FZ
variable {L:Lib}
set_option maxHeartbeats 16000000
set_option maxRecDepth 8000
theorem Ai5 {x m:Int} (h : -m<=x/\x<=m):CU (x:Rat)<=(m:Rat):=by
 rw[QF];have h1:(x:Rat)<=(m:Rat):=Rat.intCast_le_intCast.2 h.2;have h2:((-x:Int):Rat)<=(m:Rat):=Rat.intCast_le_intCast.2 (by omega);rw[Rat.intCast_neg]at h2;split<;>assumption
theorem Afc {S:FQ} : ∀ (xs now:List Rat) (y:Rat),y∈S.outs now xs -> ∃ t x,xs[t]? = some x/\y=S.out (S.state now (xs.take t)) x
 | x::xs,now,y,h=>by
  rcases List.mem_cons.1 h with rfl|h
  ·exact ⟨0,x,rfl,rfl⟩
  ·obtain ⟨t,z,h1,h2⟩:=Afc xs _ y h
   exact ⟨t+1,z,h1,h2⟩
theorem An4 {c:Nat} : ∀ x∈LM c,x=0\/x=1:=λ x hx=>by
 cases c with
 | zero=>cases hx
 | succ c =>
  rcases List.mem_cons.1 hx with h|h
  ·exact Or.inr h
  ·exact Or.inl (List.eq_of_mem_replicate h)
theorem AlL (N:n7 L) (S:FQ) (n c:Nat) (h:S.Ok n 40000) (hn:n<=4) (hc:c<=40) :
  Ev L 134 [.agg (eS S),.int .i64 (c:Int)] (.g8 [.sl false ((S.outs (List.replicate n 0) (LM c)).map eQ),.int .i64 0])/\Bs 200000000 (S.outs (List.replicate n 0) (LM c)):=by
 have hm:40000*(n*n+n)+40000<=840000:=by
  have:=Nat.mul_le_mul hn hn
  omega
 have Hr : ∀ i,i<=(LM c).length->Bs (i*(840000+n+1)) (S.state (List.replicate n 0) ((LM c).take i)):=λ i hi=>by
  have:=AqQ h hm (xs:=(LM c).take i) λ x hx=>An4 x (List.mem_of_mem_take hx)
  rwa [List.length_take,Nat.min_eq_left hi]at this
 rw[Z7]at Hr;have hK : ∀ i,i<=c->i*(840000+n+1)<=40*840005:=λ i hi=>Nat.mul_le_mul (by omega) (by omega)
 have hK2 : ∀ i,i<=c->n*(40000+i*(840000+n+1)+1)+(40000+40000)+1<=200000000:=λ i hi=>by
  have h1:=hK i hi;have:=Nat.mul_le_mul hn (show 40000+i*(840000+n+1)+1<=40000+40*840005+1 by omega)
  omega
 refine ⟨AlK N S n 40000 c h (by omega) (by omega) λ q1 q2=>AlT N S n 40000 (λ i=>i*(840000+n+1)) h (by omega) (List.replicate n 0) (LM c) q1 q2 (by simp) (AdX _ c) (by rw[Z7];omega) (by rw[Z7];exact Hr) (λ i hi=>by rw[Z7]at hi;have:=hK2 i (by omega);omega) (λ i hi=>by rw[Z7]at hi;have:=hK i hi;omega) (by omega),λ y hy => ?_⟩;obtain ⟨t,x,h1,rfl⟩:=Afc _ _ y hy;have ht:=(zS h1).1;rw[Z7]at ht;have h2:=h.bc.dot (Hr t (by omega));rw[h.lc]at h2;exact (h2.add (h.bd.mul (AdX 40000 c x (zM h1)))).le (hK2 t (by omega))
theorem AmZ (N:de L) {x:Rat} {k:Nat} (hx:Bt k x) (hk:k<2199023255552) : ∃ s:Int,Ev L 155 [.agg (eQ x)] (.int .i64 s) /\ -1<=s/\s<=1:=by
 have hm:=hx.rj hk;obtain ⟨n',m',d',hp,s1,s2,s3,s4⟩:=ZY N.toa6 (decide (x.num<0)) false (dg x.num.natAbs) (dg x.den) 274877906943 (by omega) (hm.1.le (by omega)) (hm.2.le (by omega));have hS:=λ q=>oO N.toa6 n' q m' (s1.le (by omega))
 have hz : -1<=v9 (zv n' m')/\v9 (zv n' m')<=1:=by unfold v9;split<;>(try split)<;>omega
 generalize v9 (zv n' m')=s at *;refine ⟨s,?_,hz⟩;refine Ev.x N.U6 rfl rfl ?_;(repeat' ((first|apply A2|refine AP (hp) ?_|refine AP (hS _) ?_)<;>conv=>whnf))
 exact ET rfl
theorem AfM {n:Nt} (hn:F4 n) {i:Nat} (hc:G0 (EJ n.s.toNat (aN n) i)=true) {m:Int} (hm:0<=m) (nh : ∀ k,k<n.nodes.length->JA n (2^i) k m<=(H6 n.d:Rat)) : ∀ (xs outs st:List Int) (c:Int) (t:Nat),(st.length:Int)=n.s->IR n.d st=true->PS n (m:Rat) t (HX st)->(∀ x∈xs,-m<=x/\x<=m/\FT n.d x)->(PL n outs st c xs).2.2=c
 | [],_,_,_,_,_,_,_,_=>rfl
 | x::xs,outs,st,c,t,hl,hw,hI,hx=>by
  obtain ⟨sv,hwc,_,_,si,_⟩:=(F5 n).1 hn.dj;obtain ⟨x1,x2,x3⟩:=hx x (by simp);have Iu:IR n.d (x::st)=true:=by
   simp only[IR,List.all_cons,Bool.and_eq_true,decide_eq_true_eq];exact ⟨x3,hw⟩
  obtain ⟨s1,_,s3⟩:=AqU hn hc hm nh hl Iu hI (Ai5 ⟨x1,x2⟩);have o6:=tR n n.nodes (x::st) false;rw[List.length_cons]at o6;have ox:=Zv n sv n.nodes (x::st) false Iu;rw[PL,s1];exact AfM hn hc hm nh xs _ _ c (t+1) (by rw[MK,List.length_map];have:=(gE hn).1;omega) (Ani n ox si (by omega)) s3 λ z hz=>hx z (by simp [hz])
theorem Amc (I:c5 L) (W:x6 L) (N:pn L) (kd dk ck:Int) (h0:GW kd) (h1:GW dk) (h2:GW ck) (b a:List Int) (q1 q2:Bool) (lb:b.length<9223372036854775808) (la:a.length<9223372036854775808) (gq : ∀ v∈a,GW v) (value len:Int) (hv0:GW value) (vf:GW len) :
  Ev L 368 [.agg [.int .i64 kd,.int .i64 dk,.int .i64 ck,.sl q1 (b.map DT),.sl q2 (a.map DT)],.int .i64 value,.int .i64 len] (.bool true):=by
 have Va:=Al9 N.tolf;obtain ⟨n,hn,hP⟩:=AlS I W N.tobp kd dk ck h0 h1 h2 b a q1 q2 lb la gq;obtain ⟨sv,hwc,⟨zn,_⟩,_,si,_⟩:=(F5 n).1 hn.dj;have Ow:=pG sv;have j8:=hn.st;have eu:=hn.nl;have B:w7 L:=N.tow7;have J:y6 L:=N.tobp.tol8.togv.toy6;have R:au L:=N.toau;obtain ⟨v,hL,hv⟩:=AlP I B n hn;obtain ⟨e1,e2⟩:=AmM I R n hn;refine Ev.x N.RN rfl rfl ?_;rcases hv with ⟨i,i1,i2,hv⟩|⟨Hf,rfl⟩
 rotate_left
 ·have hR:=e2 Hf
  (repeat' ((first|(apply A9<;>intro hc<;>try omega)|apply A2|refine AP (hP) ?_|refine AP (hL) ?_|refine AP (hR) ?_|refine AP (Va) ?_)<;>conv=>whnf))
  exact JO rfl
 rcases hv with ⟨m,m0,m1,rfl,hm⟩|⟨k,hk,hr,rfl⟩
 rotate_left
 ·have hR:=e1 i i1 i2 ⟨k,hk,hr⟩
  (repeat' ((first|(apply A9<;>intro hc<;>try omega)|apply A2|refine AP (hP) ?_|refine AP (hL) ?_|refine AP (hR) ?_|refine AP (Va) ?_)<;>conv=>whnf))
  exact JO rfl
 clear e1 e2;have nh:=(hm m m0 m1).1 (Int.le_refl _);have Gf:O8 n.d = -H6 n.d-1:=by
  obtain ⟨g1,g2,_⟩:=RQ sv;omega
 have Mc : ∀ S:Nat,HX (List.replicate S 0)=List.replicate S 0:=λ S=>by rw[HX,List.map_replicate];rfl
 have Sf:=PS.zero (n:=n) (m:Rat) n.s.toNat (by exact_mod_cast m0);rw[<-Mc]at Sf;have El:IR n.d (List.replicate n.s.toNat 0)=true:=by
  refine List.all_eq_true.2 λ v hv => ?_
  rw[List.eq_of_mem_replicate hv];exact decide_eq_true ⟨sv,by omega,by omega⟩
 have hW1:=Z1 W value (1+n.s+(n.nodes.length:Int)) hv0 (by omega);obtain ⟨g1,g2⟩:=WE (v:=value) (m:=1+n.s+(n.nodes.length:Int)) (by omega);have hW2:=Z1 W len 40 vf (by omega);obtain ⟨g3,g4⟩:=WE (v:=len) (m:=40) (by omega);generalize G4 value (1+n.s+(n.nodes.length:Int))=w at *;generalize G4 len 40=z at *;obtain ⟨u,rfl⟩:=Int.eq_ofNat_of_zero_le g1;obtain ⟨c,hc⟩:=Int.eq_ofNat_of_zero_le (show 0<=1+z by omega);have iu:=Afk hn (v:=u) (by omega);have tu:=AlR I N.todt (GN n u) iu.dj (kW iu) iu.nl;have nz:=wY hn u;obtain ⟨hIm,hHb⟩:=AlL N.ton7 (EN (GN n u)) n.s.toNat c nz (by omega) (by omega);have hHl:((EN (GN n u)).outs (List.replicate n.s.toNat 0) (LM c)).length=c:=by rw[yD,Z7]
 generalize (EN (GN n u)).outs (List.replicate n.s.toNat 0) (LM c)=H at *;rw[<-hc]at hIm;generalize EN (GN n u)=S at *;clear iu nz;have Sp : ∀ (xs:List Int),(∀ x∈xs,-m<=x/\x<=m)->xs.length<=40 -> ∀ q q',∃ os DK:List Int,Ev L 43 [.agg (FS n),.sl q ((List.replicate n.s.toNat (0:Int)).map DT),.sl q' (xs.map DT)] (.g8 [.sl false (os.map DT),.sl false (DK.map DT),.int .i64 0,.int .i64 0]):=λ xs hx Bb q q'=>by
  have Hq : ∀ x∈xs,FT n.d x:=λ x Co=>by
   have:=hx x Co
   exact ⟨sv,by omega,by omega⟩
  have h1:=Amn n I J N.tobp.tol8.togv (List.replicate n.s.toNat 0) xs q q' (by rw[List.length_replicate];omega) (by omega);have hwr:OI n (List.replicate n.s.toNat 0) xs=0:=(ArJ n).2 ⟨by rw[List.length_replicate];omega,El,List.all_eq_true.2 λ v hv=>decide_eq_true (Hq v hv)⟩;rw[AfD n hn.dj (by omega) hwr,AfM hn i2.1 m0 nh xs [] (List.replicate n.s.toNat 0) 0 0 (by rw[List.length_replicate];omega) El Sf λ x Co=>⟨(hx x Co).1,(hx x Co).2,Hq x Co⟩]at h1;exact ⟨_,_,h1⟩
 clear hm nh Sf El Mc i2;(repeat' ((first|(apply A9<;>intro hc<;>try omega)|(apply BG;omega)|(apply DQ;omega)|apply BT|apply A2|refine AP (hP) ?_|refine AP (hL) ?_|refine AP (hW1) ?_|refine AP (tu) ?_|refine AP (hW2) ?_|refine AP (hIm) ?_)<;>conv=>whnf))
 rw[show 1+z-1=(c:Int)-1-(([]:List Int).length:Int) by rw[List.length_nil];omega];refine G5 (λ xl=>c-xl.length) (λ(xl:List Int)=>xl.length<=c /\ ∀ x∈xl,-m<=x/\x<=m) (λ xl=>[(19,.int .i64 ((c:Int)-1-xl.length)),(18,.row 18 0 1 0 xl.length)]) (λ xl=>[(18,18,.rw 1 (xl.map DT))]) [] ⟨by simp,λ x hx=>by cases hx⟩ ?_;intro xl ⟨p1,p2⟩ ih;by_cases hi:xl.length<c
 ·obtain ⟨y,hy⟩ : ∃ y,H[((c:Int)-1-xl.length).toNat]? = some y:=⟨_,zE (by omega)⟩
  obtain ⟨s,hS,s1,s2⟩:=AmZ N.tode (hHb.at hy) (by omega);have hms : -m<=m*s/\m*s<=m:=by
   obtain rfl|rfl|rfl:s = -1\/s=0\/s=1:=by omega
   all_goals omega
  (repeat' ((first|(apply A9<;>intro hc<;>try omega)|(apply I8;omega)|(refine CN (by assumption) ?_ rfl ?_;omega)|apply GY|apply A2|refine AP (hS) ?_)<;>conv=>whnf))
  refine H8 (enc:=DT) (m*s) rfl rfl rfl (by omega) (by omega) ?_;(conv=>whnf)
  (repeat' ((first|(apply DQ;omega)|fail)<;>conv=>whnf))
  rw[show (c:Int)-1-xl.length-1=(c:Int)-1-((xl++[m*s]).length:Int) by rw[List.length_append,List.length_singleton];omega];refine DP [(18,101)] (by first|exact (by (conv=>whnf);exact ⟨rfl,rfl,rfl⟩)|(rw[show xl.length+1=(xl++[m*s]).length by simp];exact (by (conv=>whnf);exact ⟨rfl,rfl,rfl⟩))) (ih (xl++[m*s]) (by rw[List.length_append,List.length_singleton];omega) ⟨by rw[List.length_append,List.length_singleton];omega,λ x hx => ?_⟩);rcases List.mem_append.1 hx with h|h
  ·exact p2 x h
  ·obtain rfl:=List.mem_singleton.1 h
   exact hms
 have Bb:xl.length=c:=by omega
 clear ih;obtain ⟨os,DK,hR⟩:=Sp xl p2 (by omega) true true;(repeat' ((first|(apply A9<;>intro hc<;>try omega)|apply A2)<;>conv=>whnf))
 refine GJ (enc:=DT) (0:Int) n.s.toNat rfl (by omega) (by omega) ?_;(conv=>whnf)
 (repeat' ((first|(apply A9<;>intro hc<;>try omega)|(refine FO (λ_=>rfl) rfl ?_ ?_;(first|rfl|simp))|refine AP (Va) ?_|refine AP (hR) ?_)<;>conv=>whnf))
 exact JO rfl
end Go.b8
