/-
  The reference of layer 9 on raw numbers: Transpose, Determinant, Rank, Solve, and its errors.
-/
import Derived.Test.YtcoldcgafbbjoaaGreatB13
import Derived.Test.YtcoldcgafbbjoaaGreatB12
import Derived.Test.YtcoldcgafbbjoaaGreatB2
import Derived.Test.YtcoldcgafbbjoaaGreatB7
set_option linter.unusedSimpArgs false
set_option linter.unusedVariables false
set_option linter.unnecessarySimpa false
namespace Go.g6
open F
attribute [local irreducible] AA AF AM AD CZ AX A9 BG B8 B6 CT D8 B9 BF B1 CR AB A6 AJ pw BN BH CQ CK C6 C7 CW BV D4
variable {L:Lib}
set_option maxHeartbeats 16000000
theorem Adw (N:cp L) (q q':Bool) (aw:List (List AQ)) (n w k:Nat) (k7:aw.length=n) (j9 : ∀ r∈aw,r.length=w) (hn:1<=n/\n<=52) (hw:1<=w/\w<=52) (cq:CD k aw):Ev L 405 [.sl q (BO q' aw)] (.g9 [.sl false (eM (FM (vM aw) w)),.int .i64 0]):=by
 obtain ⟨a,v8⟩ : ∃ a,vM aw=a:=⟨_,rfl⟩;rw[v8];have hV:=RC N.tom5 q q' aw n w k7 j9 hn hw;have ah:a.length=n:=v8 ▸ F9 k7;have fm : ∀ i,i<w->(FM a w)[i]? = some (DF a i):=λ i h=>iP h
 have ct:=aC a w;have Cj : ∀ i,(DF a i).length=n:=λ i=>by simp [DF,ah]
 have hx : ∀ i j,i<w->j<n -> ∃ (r:List AQ) (x:AQ),aw[j]? = some r/\r[i]? = some x/\(DF a i)[j]? = some x.v/\r.length=w/\x.Fit k:=λ i j h1 h2=>by
  obtain ⟨r,hr⟩ : ∃ r,aw[j]? = some r:=⟨_,zE (by omega)⟩;have cn:=j9 r (zM hr);obtain ⟨x,hx⟩ : ∃ x,r[i]? = some x:=⟨_,zE (by omega)⟩;have zm:=GV hr;rw[v8]at zm;exact ⟨r,x,hr,hx,by rw[DF,List.getElem?_map,zm,Option.map_some,List.getD_eq_getElem?_getD,SC hx];rfl,cn,cq r (zM hr) x (zM hx)⟩
 obtain ⟨r0,k9⟩ : ∃ r,aw[0]? = some r:=⟨_,zE (by omega)⟩;have ek:aw[(0:Int).toNat]? = some r0:=k9;have da:=j9 r0 (zM k9);generalize hT:FM a w=T at *;refine Ev.x N.J3 rfl rfl ?_;(repeat' ((first|apply AW|(refine BD (by assumption) ?_ rfl ?_;omega)|apply AC|refine AE (hV) ?_)<;>conv=>whnf))
 refine QH 4 4 rfl ?_;refine DT (λ i=>w-i) (λ(i:Nat)=>i<=w) (λ i=>[(15,.int .i64 i),(4,.row 4 0 1 0 i)]) (λ i=>[(4,4,.mx (A8 3 eQ (T.take i)))]) 0 (by omega) ?_;intro i p1 ih;have Bf:(T.take i).length=i:=by rw[List.length_take];omega
 by_cases hi:i<w
 ·have yn:=K2 (fm i hi)
  have Pb:=Cj i;have Nq:=λ j hj=>hx i j hi hj
  generalize DF a i=C at *;generalize T.take i=R0 at *;(repeat' ((first|(apply AG<;>intro hc<;>try omega)|apply AW|apply AC)<;>conv=>whnf))
  refine DT (λ j=>n-j) (λ(j:Nat)=>j<=n) (λ j=>[(20,.int .i64 j),(6,.row 6 0 3 0 j)]) (λ j=>[(6,6,.rw 3 ((C.take j).map eQ))]) 0 (by omega) ?_;intro j p2 jh;have ka:(C.take j).length=j:=by rw[List.length_take];omega
  by_cases hj:j<n
  ·obtain ⟨r,x,e1,e2,e3,cn,Eg⟩:=Nq j hj
   have Ag:aw[(j:Int).toNat]? = some r:=e1;have yf:r[(i:Int).toNat]? = some x:=e2;have fc:=K2 e3;have Fl:=dH N.tob8 Eg.2 (Nat.le_refl _);generalize C.take j=M0 at *;(repeat' ((first|(apply AG<;>intro hc<;>try omega)|(refine BD (by assumption) ?_ rfl ?_;omega)|apply FI|apply AC|refine AE (Fl) ?_)<;>conv=>whnf))
   refine FS (enc:=eQ) x.v rfl ka.symm rfl (by omega) (by omega) ?_;rw[<-fc,show (C.take (j+1)).length=j+1 by rw[List.length_take];omega];(conv=>whnf)
   (repeat' ((first|(apply A0;omega)|fail)<;>conv=>whnf))
   exact BR [(6,33)] (jh (j+1) (by omega) (by omega))
  ·obtain rfl:j=n:=by omega
   clear jh;rw[zT (by omega)];(repeat' ((first|(apply AG<;>intro hc<;>try omega)|apply AC)<;>conv=>whnf))
   refine AU (by rw[List.length_map,Pb]) ?_;refine QI (r:=C) (en:=eQ) Bf.symm (by omega) (by omega) ?_;rw[<-yn,show (T.take (i+1)).length=i+1 by rw[List.length_take];omega];(conv=>whnf)
   (repeat' ((first|(apply A0;omega)|fail)<;>conv=>whnf))
   exact BR [(4,38)] (ih (i+1) (by omega) (by omega))
 ·obtain rfl:i=w:=by omega
  clear ih;rw[zT (by omega)];(repeat' ((first|(apply AG<;>intro hc<;>try omega)|apply AC)<;>conv=>whnf))
  refine KH (λ_=>rfl) rfl ct.symm ?_;(conv=>whnf)
  exact AY rfl (H2 T 0)
theorem Adr (N:cp L) (q q':Bool) (aw:List (List AQ)) (n k:Nat) (k7:aw.length=n) (j9 : ∀ r∈aw,r.length=n) (hn:1<=n/\n<=10) (cq:CD k aw) (hk:k<=1000) (hB:10*FF k n<=100000000000) :
  ∃ d:Rat,Ev L 406 [.sl q (BO q' aw)] (.g9 [.agg (eQ d),.int .i64 0]) /\ ∀ (u:Rat) (D:List (List Rat)->Rat),EQ n n u D->D (vM aw)=u*d:=by
 suffices h : ∃ v,Ev L 406 [.sl q (BO q' aw)] v /\ ∃ d:Rat,v = .g9 [.agg (eQ d),.int .i64 0] /\ ∀ (u:Rat) (D:List (List Rat)->Rat),EQ n n u D->D (vM aw)=u*d by
  obtain ⟨v,h1,d,rfl,h2⟩:=h;exact ⟨d,h1,h2⟩
 obtain ⟨a,v8⟩ : ∃ a,vM aw=a:=⟨_,rfl⟩;rw[v8];have hV:=RC N.tom5 q q' aw n n k7 j9 (by omega) (by omega);have hO:=S8 N.tob8 0 (by omega);have ah:a.length=n:=v8 ▸ F9 k7;have z8 : ∀ r∈a,r.length=n:=v8 ▸ GK j9;have pc:CO a n n (vM (wM a)) [] 0 1:=by rw[K4];exact CO.start ah z8
 have yg:CD k (wM a):=CD.of (v8 ▸ cq.ms) (by omega);obtain ⟨r0,k9⟩ : ∃ r,aw[0]? = some r:=⟨_,zE (by omega)⟩;have ek:aw[(0:Int).toNat]? = some r0:=k9;have da:=j9 r0 (zM k9);refine Ev.xE N.IL rfl rfl ?_;(repeat' ((first|(apply AG<;>intro hc<;>try omega)|apply AW|(refine BD (by assumption) ?_ rfl ?_;omega)|apply AC|refine AE (hV) ?_)<;>conv=>whnf))
 refine SM [2] [(2,2,.bx [.bool false,.nil,.nil])] ⟨rfl,trivial⟩ rfl (bO true N.tow5 q q' aw n n k k7 j9 (by omega) (by omega) cq ?_);rw[v8,<-fW];(conv=>whnf)
 (repeat' (apply AW<;>conv=>whnf))
 rw[k7];refine SM [277003,2] [(277003,277003,.mx (A8 3 eW (wM a))),(2,2,.bx [.bool false,.nil,.nil])] ⟨rfl,rfl,trivial⟩ rfl (bP true N.tow5 a n n n k hn (by omega) (by omega) hB pc yg (λ m P c d h1 h2 h3 h4 h5 => ?_));have oz:P.length<=n:=by have:=h1.o5.pl;rw[h1.len]at this;omega
 by_cases ga:P.length<n
 ·(repeat' ((first|(apply AG<;>intro hc<;>try omega)|apply AW|refine AE (hO) ?_)<;>conv=>whnf))
  refine ⟨.g9 [.agg (eQ 0),.int .i64 0],?_,0,rfl,λ u D hD=>by rw[Rat.mul_zero];exact h1.Bu h2 ga h3 hD⟩;(conv=>whnf)
  exact AY rfl (UV 0)
 ·(repeat' ((first|(apply AG<;>intro hc<;>try omega)|apply AW)<;>conv=>whnf))
  refine ⟨.g9 [.agg (eQ d),.int .i64 0],?_,d,rfl,λ u D hD=>h1.vy h2 (by omega) hD⟩;(conv=>whnf)
  exact AY rfl (UV d)
theorem Adt (N:cp L) (q q':Bool) (aw:List (List AQ)) (n w k:Nat) (k7:aw.length=n) (j9 : ∀ r∈aw,r.length=w) (hn:1<=n/\n<=10) (hw:1<=w/\w<=10) (cq:CD k aw) (hk:k<=1000) (hB:10*FF k w<=100000000000) :
  ∃ r:Nat,Ev L 407 [.sl q (BO q' aw)] (.g9 [.int .i64 r,.int .i64 0])/\NX (vM aw) w r:=by
 suffices h : ∃ v,Ev L 407 [.sl q (BO q' aw)] v /\ ∃ r:Nat,v = .g9 [.int .i64 r,.int .i64 0]/\NX (vM aw) w r by
  obtain ⟨v,h1,d,rfl,h2⟩:=h;exact ⟨d,h1,h2⟩
 obtain ⟨a,v8⟩ : ∃ a,vM aw=a:=⟨_,rfl⟩;rw[v8];have hV:=RC N.tom5 q q' aw n w k7 j9 (by omega) (by omega);have ah:a.length=n:=v8 ▸ F9 k7;have z8 : ∀ r∈a,r.length=w:=v8 ▸ GK j9;have pc:CO a n w (vM (wM a)) [] 0 1:=by rw[K4];exact CO.start ah z8
 have yg:CD k (wM a):=CD.of (v8 ▸ cq.ms) (by omega);obtain ⟨r0,k9⟩ : ∃ r,aw[0]? = some r:=⟨_,zE (by omega)⟩;have ek:aw[(0:Int).toNat]? = some r0:=k9;have da:=j9 r0 (zM k9);refine Ev.xE N.J2 rfl rfl ?_;(repeat' ((first|apply AC|refine AE (hV) ?_)<;>conv=>whnf))
 refine ⟨UB.of N.J4 rfl,⟨rfl,rfl⟩,?_⟩;refine SM [] [] trivial rfl (bO false N.tow5 q q' aw n w k k7 j9 (by omega) (by omega) cq ?_);refine ⟨rfl,?_⟩;rw[v8,<-fW];(conv=>whnf)
 (repeat' ((first|apply AW|(refine BD (by assumption) ?_ rfl ?_;omega))<;>conv=>whnf))
 rw[da];refine ⟨UB.of N.F8 rfl,⟨rfl,rfl⟩,?_⟩;refine SM [277003] [(277003,277003,.mx (A8 3 eW (wM a)))] ⟨rfl,trivial⟩ rfl (bP false N.tow5 a n w w k hn (by omega) (by omega) hB pc yg (λ m P c d h1 h2 h3 h4 h5 => ?_));refine ⟨rfl,?_⟩;skip
 refine ⟨.g9 [.int .i64 P.length,.int .i64 0],?_,P.length,rfl,h1.Oe h2 h3⟩;(conv=>whnf)
 exact AY rfl (by simp [A7,CJ])
theorem vS {α:Type} {l:List α} {i:Nat} {x:α} (h:l[i]? = some x):l.take (i+1)=l.take i++[x]:=by rw[List.take_add_one,h];rfl
def kB (a:List (List Rat)) (b:List Rat) (n:Nat) (v:AV):Prop :=
 (¬ NS n a/\v = .g9 [.sl false [],.int .i64 11])\/(NS n a /\ ∃ y:List Rat,v = .g9 [.sl false (y.map eQ),.int .i64 0]/\y.length=n/\Bs 100000000000 y /\ ∀ (i:Nat) (r:List Rat) (s:Rat),a[i]? = some r->b[i]? = some s->A5 r y=s)
theorem Vq {U:List (List Rat)} (h : ∀ r∈U,r.length=1):U=(HV U 0).map λ x=>[x]:=by
 induction U with
 | nil=>rfl
 | cons r U ih =>
  have h1:=h r List.mem_cons_self;have h2:=ih λ x hx=>h x (List.mem_cons_of_mem _ hx)
  match r,h1 with
  | [x],_=>simp only[HV,List.map_cons]at h2 ⊢;rw[<-h2];rfl
theorem Adu (N:cp L) (q1 q2 q3:Bool) (aw:List (List AQ)) (bw:List AQ) (n k:Nat) (k7:aw.length=n) (j9 : ∀ r∈aw,r.length=n) (bp:bw.length=n) (kj : ∀ x∈bw,x.Fit k) (hn:1<=n/\n<=10) (cq:CD k aw) (hk:k<=1000) (hB:10*FF k n<=100000000000) :
  ∃ v,Ev L 327 [.sl q1 (BO q2 aw),.sl q3 (bw.map eW)] v/\kB (vM aw) (bw.map AQ.v) n v:=by
 have hV:=RC N.tom5 q1 q2 aw n n k7 j9 (by omega) (by omega);obtain ⟨r0,k9⟩ : ∃ r,aw[0]? = some r:=⟨_,zE (by omega)⟩;have ek:aw[(0:Int).toNat]? = some r0:=k9;have da:=j9 r0 (zM k9);obtain ⟨v,Jy,df⟩:=nT N.tow5 q1 q2 true true aw (bw.map λ x=>[x]) n 1 k k7 j9 (by rw[List.length_map];exact bp) (λ r hr=>by obtain ⟨x,_,rfl⟩:=List.mem_map.1 hr;rfl) (λ r hr=>by
  obtain ⟨x,hx,rfl⟩:=List.mem_map.1 hr;intro z hz;obtain rfl:=List.mem_singleton.1 hz;exact kj z hx) hn (by omega) cq hk hB
 refine Ev.xE N.IM rfl rfl ?_;(repeat' ((first|(apply AG<;>intro hc<;>try omega)|apply AW|(refine BD (by assumption) ?_ rfl ?_;omega)|apply AC|refine AE (hV) ?_)<;>conv=>whnf))
 refine QH 6 6 rfl ?_;refine DT (λ i=>n-i) (λ(i:Nat)=>i<=n) (λ i=>[(35,.int .i64 i),(6,.row 6 0 1 0 i)]) (λ i=>[(6,6,.mx (A8 3 eW ((bw.take i).map λ x=>[x])))]) 0 (by omega) ?_;intro i p1 ih;have ct:((bw.take i).map λ x=>[x]).length=i:=by rw[List.length_map,List.length_take];omega
 by_cases hi:i<n
 ·obtain ⟨x,hx⟩ : ∃ x,bw[i]? = some x:=⟨_,zE (by omega)⟩
  have mw:bw[(i:Int).toNat]? = some x:=hx;have hs:(bw.take (i+1)).map (λ x=>[x])=(bw.take i).map (λ x=>[x])++[[x]]:=by rw[vS hx,List.map_append];rfl
  have Df:((bw.take (i+1)).map λ x=>[x]).length=i+1:=by rw[List.length_map,List.length_take];omega
  generalize (bw.take i).map (λ x=>[x])=R0 at *;(repeat' ((first|(apply AG<;>intro hc<;>try omega)|(refine BD (by assumption) ?_ rfl ?_;omega)|apply AC)<;>conv=>whnf))
  refine AU rfl ?_;refine QI (r:=[x]) (en:=eW) ct.symm (by omega) (by omega) ?_;rw[<-hs,Df];(conv=>whnf)
  (repeat' ((first|(apply A0;omega)|fail)<;>conv=>whnf))
  exact BR [(6,43)] (ih (i+1) (by omega) (by omega))
 have ei:i=n:=by omega
 clear ih;rw[ei,zT (by omega)];(repeat' ((first|(apply AG<;>intro hc<;>try omega)|(refine KH (λ_=>rfl) rfl ?_ ?_;(first|rfl|simp))|apply AC)<;>conv=>whnf))
 ·exact bp.symm
 (conv=>whnf)
 rcases df with ⟨ic,rfl⟩|⟨ic,U,rfl,yi,Oz,hUb,zs⟩
 ·(repeat' (refine AE (Jy) ?_<;>conv=>whnf))
  refine AW (l:=([]:List Rat)) (enc:=eQ) ?_;rw[show ([]:List Rat).length=0 from rfl];(conv=>whnf)
  refine aO ?_;(repeat' ((first|(apply AG<;>intro hc<;>try omega)|apply AC)<;>conv=>whnf))
  refine ⟨.g9 [.sl false [],.int .i64 11],?_,Or.inl ⟨ic,rfl⟩⟩;(conv=>whnf)
  refine zQ ?_;(conv=>whnf)
  exact AY rfl (H2 [] 11)
 ·have hU1:=Vq Oz
  have kx:=zs 0 (by omega);have c2:(HV U 0).length=n:=by rw[HV,List.length_map];exact yi
  have c3:Bs 100000000000 (HV U 0):=λ z hz=>by
   obtain ⟨r,hr,rfl⟩:=List.mem_map.1 hz;have dc:=Oz r hr;exact hUb r hr _ (zM (GH (show 0<r.length by omega)))
  have ae : ∀ r:AV,r = .g9 [.sl false ((HV U 0).map eQ),.int .i64 0]->kB (vM aw) (bw.map AQ.v) n r:=λ r hr=>Or.inr ⟨ic,HV U 0,hr,c2,c3,λ i r s h1 h2=>by
   have w9:(vM (bw.map λ x=>[x]))[i]? = some [s]:=by rw[aD,List.getElem?_map,h2];rfl
   exact kx i r [s] h1 w9⟩
  rw[hU1]at Jy;generalize HV U 0=y at *;have hYl:(y.map λ x=>[x]).length=n:=by rw[List.length_map];exact c2
  have Ki : ∀ (i:Nat) (x:Rat),y[i]? = some x->(y.map λ x=>[x])[((i:Nat):Int).toNat]? = some [x]:=λ i x hx=>by
   rw[Int.toNat_natCast,List.getElem?_map,hx];rfl
  have hY1 : ∀ x:Rat,([x]:List Rat)[(0:Int).toNat]? = some x:=λ x=>rfl
  generalize (y.map λ x=>[x])=Y at *;(repeat' ((first|apply AW|refine AE (Jy) ?_)<;>conv=>whnf))
  refine DT (λ i=>n-i) (λ(i:Nat)=>i<=n) (λ i=>[(53,.int .i64 i),(11,.row 11 0 3 0 i)]) (λ i=>[(11,11,.rw 3 ((y.take i).map eQ))]) 0 (by omega) ?_;intro i p1 ih;have ct:(y.take i).length=i:=by rw[List.length_take];omega
  by_cases hi:i<n
  ·obtain ⟨x,hx⟩ : ∃ x,y[i]? = some x:=⟨_,zE (by omega)⟩
   have mw:=Ki i x hx;have hx1:=hY1 x;have hs:=vS hx;have Df:(y.take (i+1)).length=i+1:=by rw[List.length_take];omega
   generalize y.take i=R0 at *;(repeat' ((first|(apply AG<;>intro hc<;>try omega)|(refine BD (by assumption) ?_ rfl ?_;omega)|apply FI|apply AC)<;>conv=>whnf))
   refine FS (enc:=eQ) x rfl ct.symm rfl (by omega) (by omega) ?_;rw[<-hs,Df];(conv=>whnf)
   (repeat' ((first|(apply A0;omega)|fail)<;>conv=>whnf))
   exact BR [(11,62)] (ih (i+1) (by omega) (by omega))
  have ei:i=n:=by omega
  clear ih;rw[ei,zT (by omega)];(repeat' ((first|(apply AG<;>intro hc<;>try omega)|apply AC)<;>conv=>whnf))
  refine ⟨.g9 [.sl false (y.map eQ),.int .i64 0],?_,ae _ rfl⟩;(conv=>whnf)
  refine GC (enc:=eQ) (λ_=>rfl) rfl c2.symm ?_;(conv=>whnf)
  exact AY rfl (lA y 0)
end Go.g6
namespace Go.g6
open F
attribute [local irreducible] AA AF AM AD CZ AX A9 BG B8 B6 CT D8 B9 BF B1 CR AB A6 AJ pw BN BH CQ CK C6 C7 CW BV D4
set_option maxHeartbeats 16000000
variable {L:Lib}
def F6 (a:List (List AQ)):Prop:=a.length<=4 /\ ∀ r∈a,r.length<=5 /\ ∀ x∈r,x.Fit 64
theorem F6.fit {a:List (List AQ)} (h:F6 a):CD 64 a:=λ r hr=>(h.2 r hr).2
theorem F6.lv {a:List (List AQ)} (h:F6 a):a.length<=100000:=by have:=h.1;omega
theorem F6.rv {a:List (List AQ)} (h:F6 a) : ∀ r∈a,r.length<=100000:=λ r hr=>by have:=(h.2 r hr).1;omega
theorem F6.rn {a:List (List AQ)} {n w:Nat} (h:F6 a) (hR:jX a n w):(1<=n/\n<=4)/\1<=w/\w<=5:=by
 obtain ⟨h1,h2,h3,h4⟩:=hR;have h5:=h.1;refine ⟨by omega,h4.1,?_⟩;obtain ⟨r,hr⟩ : ∃ r,a[0]? = some r:=⟨_,zE (by omega)⟩;have:=(h.2 r (zM hr)).1
 have:=h2 r (zM hr)
 omega
theorem Xq (N:m6 L) {w:AQ} (h:w.Sz 68719476736):Ev L 158 [.agg (eW w),.agg (eW w)] (.bool true):=by
 have h1:=λ q1 q2=>dD N q1 q2 w.d (by have:=h.2.2;omega)
 have h2:=λ q1 q2=>oN N w.n q1 q2 w.m (by have:=h.1.2;omega)
 refine Ev.x N.JZ rfl rfl ?_;(repeat' ((first|apply AC|refine AE (h1 _ _) ?_|refine AE (h2 _ _) ?_)<;>conv=>whnf))
 exact ES rfl
theorem HP (e:Int):A7 (.g9 [.sl false [],.int .i64 e]):=H2 [] e
def Y5:AQ:=⟨false,[],[]⟩
theorem XT (e:Int):A7 (.g9 [.agg (eW Y5),.int .i64 e]):=by
 simp only[A7,CJ,and_true,true_and];exact ⟨CS _,CS _⟩
section
variable (N:jn L)
include N
theorem OP (q q':Bool) {a:List (List AQ)} (h:F6 a):Ev L 229 [.sl q (BO q' a)] (.bool (FZ a))/\Ev L 239 [.sl q (BO q' a)] (.bool (FZ a)) :=
 ⟨oA N.toe8 q q' a h.lv h.rv,oS N.tom5 q q' a h.lv h.rv⟩
def KG (f g:Nat) (L:Lib) (vs:List AV):Prop := ∃ (U:List (List Rat)) (e:Int),Ev L f vs (.g9 [.sl false (eM U),.int .i64 e])/\Ev L g vs (.g9 [.sl false (eM U),.int .i64 e])/\U.length<=100/\(∀ r∈U,r.length<=100)/\Ms 1000000000000 U
omit N in
theorem KG.err {f g:Nat} {vs:List AV} (e:Int) (h1:Ev L f vs (.g9 [.sl false [],.int .i64 e])) (h2:Ev L g vs (.g9 [.sl false [],.int .i64 e])):KG f g L vs :=
 ⟨[],e,h1,h2,by simp,by simp,λ r hr=>by cases hr⟩
theorem Sg (q q':Bool) {a:List (List AQ)} (h:F6 a):KG 247 405 L [.sl q (BO q' a)]:=by
 obtain ⟨ix,gx⟩:=OP N q q' h;cases hB:FZ a
 ·rw[hB]at ix gx
  refine KG.err 2 ?_ ?_
  ·refine Ev.x N.JQ rfl rfl ?_
   (repeat' ((first|apply AC|refine AE (ix) ?_)<;>conv=>whnf))
   exact AY rfl (HP 2)
  ·refine Ev.x N.J3 rfl rfl ?_
   (repeat' ((first|apply AC|refine AE (gx) ?_)<;>conv=>whnf))
   exact AY rfl (HP 2)
 ·obtain ⟨n,w,hR⟩:=P8.1 hB
  obtain ⟨g1,g2⟩:=h.rn hR;obtain ⟨h1,h2,h3,h4⟩:=hR;refine ⟨_,_,Xv N.tobh q q' a n w 64 h1 h2 h3 h4 h.fit,Adw N.tocp q q' a n w 64 h1 h2 h3 h4 h.fit,?_,?_,?_⟩
  ·rw[aC];omega
  ·intro r hr
   have:=vY (w:=w) (F9 h1) r hr
   omega
  ·intro r hr x hx
   exact (Ahy (GK h2) h.fit.ms r hr x hx).le (by omega)
theorem Sf (q1 q2 q3 q4:Bool) {a b:List (List AQ)} (h:F6 a) (g:F6 b):KG 248 241 L [.sl q1 (BO q2 a),.sl q3 (BO q4 b)]:=by
 obtain ⟨ix,gx⟩:=OP N q1 q2 h;obtain ⟨Im,ta⟩:=OP N q3 q4 g;cases hB:FZ a
 ·rw[hB]at ix gx
  refine KG.err 2 ?_ ?_
  ·refine Ev.x N.HF rfl rfl ?_
   (repeat' ((first|apply AC|refine AE (ix) ?_)<;>conv=>whnf))
   all_goals exact AY rfl (HP 2)
  ·refine Ev.x N.HJ rfl rfl ?_
   (repeat' ((first|apply AC|refine AE (gx) ?_)<;>conv=>whnf))
   all_goals exact AY rfl (HP 2)
 ·rw[hB]at ix gx
  cases hC:FZ b
  ·rw[hC]at Im ta
   refine KG.err 2 ?_ ?_
   ·refine Ev.x N.HF rfl rfl ?_
    (repeat' ((first|apply AC|refine AE (ix) ?_|refine AE (Im) ?_)<;>conv=>whnf))
    all_goals exact AY rfl (HP 2)
   ·refine Ev.x N.HJ rfl rfl ?_
    (repeat' ((first|apply AC|refine AE (gx) ?_|refine AE (ta) ?_)<;>conv=>whnf))
    all_goals exact AY rfl (HP 2)
  ·rw[hC]at Im ta
   obtain ⟨n,w,hR⟩:=P8.1 hB;obtain ⟨g1,g2⟩:=h.rn hR;obtain ⟨h1,h2,h3,h4⟩:=hR;obtain ⟨n',w',Ov⟩:=P8.1 hC;obtain ⟨f1,f2⟩:=g.rn Ov;obtain ⟨k1,k2,k3,k4⟩:=Ov;by_cases Dg:w=n'
   ·subst Dg
    refine ⟨_,_,Wx N.tobh q1 q2 q3 q4 a b n w w' 64 64 h1 h2 k1 k2 h3 h4 k4 (by omega) (by omega) h.fit g.fit ?_,Adv N.tom5 q1 q2 q3 q4 a b n w w' 64 64 h1 h2 k1 k2 h3 h4 k4 h.fit g.fit (by omega),?_,?_,?_⟩
    ·rcases PW f1 with rfl|rfl|rfl|rfl<;>decide
    ·rw[Y1,F9 h1];omega
    ·intro r hr
     have:=Ae9 (vM a) (vM b) w' r hr
     omega
    ·intro r hr x hx
     exact (Ae8 (GK h2) (GK k2) h.fit.ms g.fit.ms r hr x hx).le (by omega)
   ·obtain ⟨r0,k9⟩ : ∃ r,a[0]? = some r:=⟨_,zE (by omega)⟩
    have ek:a[(0:Int).toNat]? = some r0:=k9;have da:=h2 r0 (zM k9);refine KG.err 1 ?_ ?_
    ·refine Ev.x N.HF rfl rfl ?_
     (repeat' ((first|(apply AG<;>intro hc<;>try omega)|apply AW|(refine BD (by assumption) ?_ rfl ?_;omega)|apply AC|refine AE (ix) ?_|refine AE (Im) ?_)<;>conv=>whnf))
     all_goals exact AY rfl (HP 1)
    ·refine Ev.x N.HJ rfl rfl ?_
     (repeat' ((first|(apply AG<;>intro hc<;>try omega)|apply AW|(refine BD (by assumption) ?_ rfl ?_;omega)|apply AC|refine AE (gx) ?_|refine AE (ta) ?_)<;>conv=>whnf))
     all_goals exact AY rfl (HP 1)
theorem Sa (q q':Bool) {a:List (List AQ)} (h:F6 a) : ∃ (c:AQ) (e:Int),Ev L 236 [.sl q (BO q' a)] (.g9 [.agg (eW c),.int .i64 e])/\Ev L 406 [.sl q (BO q' a)] (.g9 [.agg (eW c),.int .i64 e])/\c.Sz 68719476736:=by
 obtain ⟨ix,gx⟩:=OP N q q' h;have Fm:=(OP N true q' h).1;have Gu:Y5.Sz 68719476736:=⟨ZZ _,ZZ _⟩;cases hB:FZ a
 ·rw[hB]at ix gx Fm
  refine ⟨Y5,2,?_,?_,Gu⟩
  ·refine Ev.x N.H7 rfl rfl ?_
   (repeat' ((first|apply AC|refine AE (ix) ?_)<;>conv=>whnf))
   exact AY rfl (XT 2)
  ·refine Ev.x N.IL rfl rfl ?_
   (repeat' ((first|apply AC|refine AE (gx) ?_)<;>conv=>whnf))
   exact AY rfl (XT 2)
 ·rw[hB]at ix gx Fm
  obtain ⟨n,w,hR⟩:=P8.1 hB;obtain ⟨g1,g2⟩:=h.rn hR;obtain ⟨h1,h2,h3,h4⟩:=hR;by_cases Dg:n=w
  ·subst Dg
   obtain ⟨d,e1,e2,_,e3⟩:=nO N.toe8 q q' a n 64 h1 h2 h3 (by omega) h.fit (by rcases PW g1 with rfl|rfl|rfl|rfl<;>decide);obtain ⟨d2,f1,f2⟩:=Adr N.tocp q q' a n 64 h1 h2 (by omega) h.fit (by omega) (by rcases PW g1 with rfl|rfl|rfl|rfl<;>decide);obtain ⟨D,hD,_,_⟩:=Wj g1;have e4:=e3 1 D hD;have f3:=f2 1 D hD;rw[Rat.one_mul]at e4 f3;obtain rfl:d2=d:=f3.symm.trans e4;exact ⟨KY d2,0,e1,f1,(RF e2 (by omega)).2⟩
  ·obtain ⟨r0,k9⟩ : ∃ r,a[0]? = some r:=⟨_,zE (by omega)⟩
   have ek:a[(0:Int).toNat]? = some r0:=k9;have da:=h2 r0 (zM k9);refine ⟨Y5,1,?_,?_,Gu⟩
   ·refine Ev.x N.H7 rfl rfl ?_
    (repeat' ((first|(apply AG<;>intro hc<;>try omega)|apply AW|(refine BD (by assumption) ?_ rfl ?_;omega)|apply AC|refine AE (ix) ?_)<;>conv=>whnf))
    exact AY rfl (XT 1)
   ·refine Ev.x N.IL rfl rfl ?_
    (repeat' ((first|(apply AG<;>intro hc<;>try omega)|apply AW|(refine BD (by assumption) ?_ rfl ?_;omega)|apply AC|refine AE (gx) ?_)<;>conv=>whnf))
    exact AY rfl (XT 1)
theorem Sd (q q':Bool) {a:List (List AQ)} (h:F6 a) : ∃ (r:Nat) (e:Int),Ev L 249 [.sl q (BO q' a)] (.g9 [.int .i64 r,.int .i64 e])/\Ev L 407 [.sl q (BO q' a)] (.g9 [.int .i64 r,.int .i64 e]):=by
 obtain ⟨ix,gx⟩:=OP N q q' h;cases hB:FZ a
 ·rw[hB]at ix gx
  refine ⟨0,2,?_,?_⟩
  ·refine Ev.x N.JP rfl rfl ?_
   (repeat' ((first|apply AC|refine AE (ix) ?_)<;>conv=>whnf))
   exact AY rfl (by simp [A7,CJ])
  ·refine Ev.x N.J2 rfl rfl ?_
   (repeat' ((first|apply AC|refine AE (gx) ?_)<;>conv=>whnf))
   exact AY rfl (by simp [A7,CJ])
 ·obtain ⟨n,w,hR⟩:=P8.1 hB
  obtain ⟨g1,g2⟩:=h.rn hR;obtain ⟨h1,h2,h3,h4⟩:=hR;obtain ⟨r,e1,e2,_⟩:=Xp N.tobh q q' a n w 64 h1 h2 h3 h4 (by omega) h.fit (by
   rcases PW g1 with rfl|rfl|rfl|rfl<;>rcases (show w=1\/w=2\/w=3\/w=4\/w=5 by omega) with rfl|rfl|rfl|rfl|rfl<;>decide)
  obtain ⟨r2,f1,f2⟩:=Adt N.tocp q q' a n w 64 h1 h2 (by omega) (by omega) h.fit (by omega) (by
   rcases (show w=1\/w=2\/w=3\/w=4\/w=5 by omega) with rfl|rfl|rfl|rfl|rfl<;>decide)
  obtain rfl:r2=r:=AfP f2 e2 λ_ _=>Iff.rfl
  exact ⟨r2,0,e1,f1⟩
omit N in
theorem sL {a:List (List Rat)} {n:Nat} (ha : ∀ r∈a,r.length=n) {X Y:List Rat} (hX:X.length=n) (hY:Y.length=n) (ic:NS n a) (h : ∀ (i:Nat) (r:List Rat),a[i]? = some r->A5 r X=A5 r Y):X=Y:=by
 refine vN ha hX hY (List.map_congr_left λ r hr => ?_) ic;obtain ⟨i,hi⟩:=List.getElem?_of_mem hr;exact h i r hi
theorem Se (q q' q3:Bool) {a:List (List AQ)} {x:List AQ} (h:F6 a) (hx:x.length<=8) (hxs : ∀ z∈x,z.Fit 64) : ∃ (y:List Rat) (e:Int),Ev L 237 [.sl q (BO q' a),.sl q3 (x.map eW)] (.g9 [.sl false (y.map eQ),.int .i64 e])/\Ev L 327 [.sl q (BO q' a),.sl q3 (x.map eW)] (.g9 [.sl false (y.map eQ),.int .i64 e])/\y.length<=100/\Bs 1000000000000 y:=by
 obtain ⟨ix,gx⟩:=OP N q q' h;have Cp : ∀ e:Int,Ev L 237 [.sl q (BO q' a),.sl q3 (x.map eW)] (.g9 [.sl false [],.int .i64 e])->Ev L 327 [.sl q (BO q' a),.sl q3 (x.map eW)] (.g9 [.sl false [],.int .i64 e]) -> ∃ (y:List Rat) (e:Int),Ev L 237 [.sl q (BO q' a),.sl q3 (x.map eW)] (.g9 [.sl false (y.map eQ),.int .i64 e])/\Ev L 327 [.sl q (BO q' a),.sl q3 (x.map eW)] (.g9 [.sl false (y.map eQ),.int .i64 e])/\y.length<=100/\Bs 1000000000000 y :=
  λ e h1 h2=>⟨[],e,h1,h2,by simp,λ z hz=>by cases hz⟩
 cases hB:FZ a
 ·rw[hB]at ix gx
  refine Cp 2 ?_ ?_
  ·refine Ev.x N.H9 rfl rfl ?_
   (repeat' ((first|apply AC|refine AE (ix) ?_)<;>conv=>whnf))
   exact AY rfl (HP 2)
  ·refine Ev.x N.IM rfl rfl ?_
   (repeat' ((first|apply AC|refine AE (gx) ?_)<;>conv=>whnf))
   exact AY rfl (HP 2)
 ·rw[hB]at ix gx
  obtain ⟨n,w,hR⟩:=P8.1 hB;obtain ⟨g1,g2⟩:=h.rn hR;obtain ⟨h1,h2,h3,h4⟩:=hR;by_cases Dg:n=w/\x.length=n
  ·obtain ⟨rfl,Qi⟩:=Dg
   have Pk:Fs 64 x:=hxs;have zb:6^n*(3^(n+1)*64)<=1000000000000/\DU (6^n*(3^(n+1)*64)) n n<=1000000000000/\DU (6^n*(3^(n+1)*64)) n n+6^n*(3^(n+1)*64)<=1000000000000:=by
    rcases PW g1 with rfl|rfl|rfl|rfl<;>decide
   obtain ⟨v,e1,e2⟩:=Xu N.toe8 q q' q3 a x n 64 h1 h2 Qi h3 (by omega) h.fit Pk zb.1 zb.2.1 zb.2.2;obtain ⟨v2,f1,f2⟩:=Adu N.tocp q q' q3 a x n 64 h1 h2 Qi Pk (by omega) h.fit (by omega) (by rcases PW g1 with rfl|rfl|rfl|rfl<;>decide);rcases e2 with ⟨e3,rfl⟩|⟨e3,y,rfl,e4,e5,e6⟩
   ·rcases f2 with ⟨_,rfl⟩|⟨f3,_⟩
    ·exact Cp 11 e1 f1
    ·exact absurd f3 e3
   ·rcases f2 with ⟨f3,_⟩|⟨f3,y2,rfl,f4,f5,f6⟩
    ·exact absurd e3 f3
    ·obtain rfl:y2=y:=sL (GK h2) f4 e4 e3 λ i r hr=>by
      have au:=(zS hr).1;rw[F9 h1]at au;obtain ⟨s,hs⟩ : ∃ s,(x.map AQ.v)[i]? = some s:=⟨_,zE (by rw[List.length_map];omega)⟩;rw[e6 i r s hr hs,f6 i r s hr hs]
     exact ⟨y2,0,e1,f1,by omega,e5⟩
  ·obtain ⟨r0,k9⟩ : ∃ r,a[0]? = some r:=⟨_,zE (by omega)⟩
   have ek:a[(0:Int).toNat]? = some r0:=k9;have da:=h2 r0 (zM k9);refine Cp 1 ?_ ?_
   ·refine Ev.x N.H9 rfl rfl ?_
    (repeat' ((first|(apply AG<;>intro hc<;>try omega)|apply AW|(refine BD (by assumption) ?_ rfl ?_;omega)|apply AC|refine AE (ix) ?_)<;>conv=>whnf))
    all_goals exact AY rfl (HP 1)
   ·refine Ev.x N.IM rfl rfl ?_
    (repeat' ((first|(apply AG<;>intro hc<;>try omega)|apply AW|(refine BD (by assumption) ?_ rfl ?_;omega)|apply AC|refine AE (gx) ?_)<;>conv=>whnf))
    all_goals exact AY rfl (HP 1)
theorem Sc (q q':Bool) {a:List (List AQ)} (h:F6 a):KG 238 279 L [.sl q (BO q' a)]:=by
 obtain ⟨ix,gx⟩:=OP N q q' h;cases hB:FZ a
 ·rw[hB]at ix gx
  refine KG.err 2 ?_ ?_
  ·refine Ev.x N.H8 rfl rfl ?_
   (repeat' ((first|apply AC|refine AE (ix) ?_)<;>conv=>whnf))
   exact AY rfl (HP 2)
  ·refine Ev.x N.HI rfl rfl ?_
   (repeat' ((first|apply AC|refine AE (gx) ?_)<;>conv=>whnf))
   exact AY rfl (HP 2)
 ·rw[hB]at ix gx
  obtain ⟨n,w,hR⟩:=P8.1 hB;obtain ⟨g1,g2⟩:=h.rn hR;obtain ⟨h1,h2,h3,h4⟩:=hR;by_cases Dg:n=w
  ·subst Dg
   have zb:6^n*(3^(n+n)*64)<=1000000000000/\DU (6^n*(3^(n+n)*64)) n n<=1000000000000/\DU (6^n*(3^(n+n)*64)) n n+6^n*(3^(n+n)*64)<=1000000000000:=by
    rcases PW g1 with rfl|rfl|rfl|rfl<;>decide
   obtain ⟨v,e1,e2⟩:=nP N.toe8 q q' a n 64 h1 h2 h3 (by omega) h.fit zb.1 zb.2.1 zb.2.2;obtain ⟨v2,f1,f2⟩:=Xn N.tow5 q q' a n 64 h1 h2 (by omega) h.fit (by omega) (by rcases PW g1 with rfl|rfl|rfl|rfl<;>decide);rcases e2 with ⟨e3,rfl⟩|⟨e3,U,rfl,e4,e5,e6,e7,_⟩
   ·rcases f2 with ⟨_,rfl⟩|⟨f3,_⟩
    ·exact KG.err 11 e1 f1
    ·exact absurd f3 e3
   ·rcases f2 with ⟨f3,_⟩|⟨f3,V,rfl,f4,f5,f6,f7⟩
    ·exact absurd e3 f3
    ·obtain rfl:V=U:=rH ⟨f4,f5⟩ ⟨e4,e5⟩ λ c hc=>sL (GK h2) (by rw[UY];exact f4) (by rw[UY];exact e4) e3 λ i r hr=>by
      have au:=(zS hr).1;rw[F9 h1]at au;obtain ⟨s,hs⟩ : ∃ s,(DK n)[i]? = some s:=⟨_,zE (by rw[(Sq.id n).l];exact au)⟩;have k1:A5 r (DF V c)=s.getD c 0:=f7 c hc i r s hr hs;have k2:(DE (vM a) U n)[i]? = some s:=by rw[e7];exact hs
      rw[DE,List.getElem?_map,hr]at k2;have k3:=Option.some.inj k2;have k4:s.getD c 0=A5 r (DF U c):=by
       rw[<-k3,List.getD_eq_getElem?_getD];simp [E0,hc]
      rw[k1,k4]
     exact ⟨V,0,e1,f1,by omega,λ r hr=>by rw[f5 r hr];omega,e6⟩
  ·obtain ⟨r0,k9⟩ : ∃ r,a[0]? = some r:=⟨_,zE (by omega)⟩
   have ek:a[(0:Int).toNat]? = some r0:=k9;have da:=h2 r0 (zM k9);refine KG.err 1 ?_ ?_
   ·refine Ev.x N.H8 rfl rfl ?_
    (repeat' ((first|(apply AG<;>intro hc<;>try omega)|apply AW|(refine BD (by assumption) ?_ rfl ?_;omega)|apply AC|refine AE (ix) ?_)<;>conv=>whnf))
    exact AY rfl (HP 1)
   ·refine Ev.x N.HI rfl rfl ?_
    (repeat' ((first|(apply AG<;>intro hc<;>try omega)|apply AW|(refine BD (by assumption) ?_ rfl ?_;omega)|apply AC|refine AE (gx) ?_)<;>conv=>whnf))
    exact AY rfl (HP 1)
end
end Go.g6

namespace Go.g6
open F
attribute [local irreducible] AA AF AM AD CZ AX A9 BG B8 B6 CT D8 B9 BF B1 CR AB A6 AJ pw BN BH CQ CK C6 C7 CW BV D4
set_option maxHeartbeats 16000000
variable {L:Lib}
def O5 (w:AQ):Bool:=decide (w.m.length<=2)&&decide (w.d.length<=2)
def OG (p:List AQ):Bool:=decide (p.length<=8)&&p.all O5
def R7 (a:List (List AQ)):Bool:=decide (a.length<=4)&&a.all λ r=>OG r&&decide (r.length<=5)
theorem Afh {w:AQ} (h:w.Raw) (ho:O5 w=true):w.Fit 64:=by
 simp only[O5,Bool.and_eq_true,decide_eq_true_eq]at ho;exact AQ.Sz.fit (k:=2) ⟨⟨h.1.1,ho.1⟩,h.2.1,ho.2⟩ (by omega)
theorem uL {p:List AQ} (h : ∀ w∈p,w.Raw) (ho:OG p=true):p.length<=8 /\ ∀ w∈p,w.Fit 64:=by
 simp only[OG,Bool.and_eq_true,decide_eq_true_eq,List.all_eq_true]at ho;exact ⟨ho.1,λ w hw=>Afh (h w hw) (ho.2 w hw)⟩
theorem uK {a:List (List AQ)} (h : ∀ r∈a,∀ w∈r,w.Raw) (ho:R7 a=true):F6 a:=by
 simp only[R7,Bool.and_eq_true,decide_eq_true_eq,List.all_eq_true]at ho;exact ⟨ho.1,λ r hr=>⟨(ho.2 r hr).2,(uL (h r hr) (ho.2 r hr).1).2⟩⟩
section
variable (N:jn L)
include N
theorem nR (q:Bool) (p:List AQ) (hp:p.length<9223372036854775808) (hr : ∀ w∈p,w.Raw):Ev L 408 [.sl q (p.map eW)] (.bool (OG p)):=by
 by_cases h8:p.length<=8
 ·rw[OG,decide_eq_true h8,Bool.true_and]
  refine Ev.x N.JS rfl rfl ?_;(repeat' ((first|(apply AG<;>intro hc<;>try omega)|apply AW|apply AC)<;>conv=>whnf))
  refine DT (λ i=>p.length-i) (λ(i:Nat)=>i<=p.length /\ ∀ (j:Nat) (x:AQ),j<i->p[j]? = some x->O5 x=true) (λ i=>[(10,.int .i64 i)]) (λ_=>[]) 0 ⟨by omega,λ j x hj=>absurd hj (by omega)⟩ ?_;intro i ⟨p1,p2⟩ ih;by_cases hi:i<p.length
  ·obtain ⟨x,hx⟩ : ∃ x,p[i]? = some x:=⟨_,zE (by omega)⟩
   have mw:p[(i:Int).toNat]? = some x:=hx;have Ji:=hr x (zM hx);have hm9:=Ji.1.2;have hd9:=Ji.2.2;by_cases k6:x.m.length<=2/\x.d.length<=2
   ·have hk:O5 x=true:=by rw[O5,decide_eq_true k6.1,decide_eq_true k6.2];rfl
    (repeat' ((first|(apply AG<;>intro hc<;>try omega)|(apply A0;omega)|apply AW|(refine BD (by assumption) ?_ rfl ?_;omega)|apply AC)<;>conv=>whnf))
    exact BR [] (ih (i+1) (by omega) ⟨by omega,λ j y hj hy=>by
     by_cases e:j=i
     ·subst e;rw[hx]at hy;obtain rfl:=Option.some.inj hy;exact hk
     ·exact p2 j y (by omega) hy⟩)
   ·have hk:O5 x=false:=by
     cases e:O5 x
     ·rfl
     ·simp only[O5,Bool.and_eq_true,decide_eq_true_eq]at e
      exact absurd e k6
    rw[UK hx hk];clear ih p2;(repeat' ((first|(apply AG<;>intro hc<;>try omega)|apply AW|(refine BD (by assumption) ?_ rfl ?_;omega)|apply AC)<;>conv=>whnf))
    all_goals exact ES rfl
  ·obtain rfl:i=p.length:=by omega
   clear ih;rw[XF λ j x hx=>p2 j x (zS hx).1 hx];(repeat' ((first|(apply AG<;>intro hc<;>try omega)|apply AC)<;>conv=>whnf))
   exact ES rfl
 ·rw[OG,decide_eq_false h8,Bool.false_and]
  refine Ev.x N.JS rfl rfl ?_;(repeat' ((first|(apply AG<;>intro hc<;>try omega)|apply AW|apply AC)<;>conv=>whnf))
  exact ES rfl
theorem oW (q q':Bool) (a:List (List AQ)) (ha:a.length<9223372036854775808) (hr : ∀ r∈a,r.length<9223372036854775808 /\ ∀ w∈r,w.Raw):Ev L 409 [.sl q (BO q' a)] (.bool (R7 a)):=by
 by_cases h4:a.length<=4
 ·rw[R7,decide_eq_true h4,Bool.true_and]
  refine Ev.x N.JN rfl rfl ?_;(repeat' ((first|(apply AG<;>intro hc<;>try omega)|apply AW|apply AC)<;>conv=>whnf))
  refine DT (λ i=>a.length-i) (λ(i:Nat)=>i<=a.length /\ ∀ (j:Nat) (x:List AQ),j<i->a[j]? = some x->(OG x&&decide (x.length<=5))=true) (λ i=>[(10,.int .i64 i)]) (λ_=>[]) 0 ⟨by omega,λ j x hj=>absurd hj (by omega)⟩ ?_;intro i ⟨p1,p2⟩ ih;by_cases hi:i<a.length
  ·obtain ⟨x,hx⟩ : ∃ x,a[i]? = some x:=⟨_,zE (by omega)⟩
   have mw:a[(i:Int).toNat]? = some x:=hx;obtain ⟨zw,Ji⟩:=hr x (zM hx);have hS:=nR N q' x zw Ji;cases hs:OG x
   ·rw[hs]at hS
    rw[UK hx (by rw[hs,Bool.false_and])];clear ih p2;(repeat' ((first|(apply AG<;>intro hc<;>try omega)|(refine BD (by assumption) ?_ rfl ?_;omega)|apply AC|refine AE (hS) ?_)<;>conv=>whnf))
    all_goals exact ES rfl
   ·rw[hs]at hS
    by_cases h5:x.length<=5
    ·have hk:(OG x&&decide (x.length<=5))=true:=by rw[hs,decide_eq_true h5];rfl
     (repeat' ((first|(apply AG<;>intro hc<;>try omega)|(apply A0;omega)|apply AW|(refine BD (by assumption) ?_ rfl ?_;omega)|apply AC|refine AE (hS) ?_)<;>conv=>whnf))
     exact BR [] (ih (i+1) (by omega) ⟨by omega,λ j y hj hy=>by
      by_cases e:j=i
      ·subst e;rw[hx]at hy;obtain rfl:=Option.some.inj hy;exact hk
      ·exact p2 j y (by omega) hy⟩)
    ·rw[UK hx (by rw[decide_eq_false h5,Bool.and_false])]
     clear ih p2;(repeat' ((first|(apply AG<;>intro hc<;>try omega)|apply AW|(refine BD (by assumption) ?_ rfl ?_;omega)|apply AC|refine AE (hS) ?_)<;>conv=>whnf))
     all_goals exact ES rfl
  ·obtain rfl:i=a.length:=by omega
   clear ih;rw[XF λ j x hx=>p2 j x (zS hx).1 hx];(repeat' ((first|(apply AG<;>intro hc<;>try omega)|apply AC)<;>conv=>whnf))
   exact ES rfl
 ·rw[R7,decide_eq_false h4,Bool.false_and]
  refine Ev.x N.JN rfl rfl ?_;(repeat' ((first|(apply AG<;>intro hc<;>try omega)|apply AW|apply AC)<;>conv=>whnf))
  exact ES rfl
theorem cX (q1 q2 q3 q4 q5:Bool) {a b:List (List AQ)} {x:List AQ} (ha:F6 a) (hb:F6 b) (hx:x.length<=8) (hxf : ∀ z∈x,z.Fit 64):Ev L 410 [.sl q1 (BO q2 a),.sl q3 (BO q4 b),.sl q5 (x.map eW)] (.bool true):=by
 obtain ⟨U1,e1,a1,b1,l1,w1,m1⟩:=Sf N q1 q2 q3 q4 ha hb;obtain ⟨U2,e2,a2,b2,l2,w2,m2⟩:=Sg N q1 q2 ha;obtain ⟨a3,b3⟩:=OP N q1 q2 ha;obtain ⟨c4,e4,a4,b4,s4⟩:=Sa N q1 q2 ha;obtain ⟨r5,e5,a5,b5⟩:=Sd N q1 q2 ha;obtain ⟨y6,e6,a6,b6,l6,s6⟩:=Se N q1 q2 q5 ha hx hxf;obtain ⟨U7,e7,a7,b7,l7,w7,m7⟩:=Sc N q1 q2 ha;have S1:=VE N.tom5 false false false false U1 _ (by omega) (λ r hr=>by have:=w1 r hr;omega) m1 (by omega);have S2:=VE N.tom5 false false false false U2 _ (by omega) (λ r hr=>by have:=w2 r hr;omega) m2 (by omega);have S7:=VE N.tom5 false false false false U7 _ (by omega) (λ r hr=>by have:=w7 r hr;omega) m7 (by omega);have S4:=Xq N.tom6 s4;have S6:=cW N.tom6 false false y6 _ s6 (by omega) (by omega);generalize FZ a=vb at *;refine Ev.x N.LM rfl rfl ?_;cases vb;all_goals
  (repeat' ((first|(apply AG<;>intro hc<;>try omega)|apply AC|refine AE (a1) ?_|refine AE (b1) ?_|refine AE (a2) ?_|refine AE (b2) ?_|refine AE (S1) ?_|refine AE (S2) ?_|refine AE (a3) ?_|refine AE (b3) ?_|refine AE (a4) ?_|refine AE (b4) ?_|refine AE (a5) ?_|refine AE (b5) ?_|refine AE (S4) ?_|refine AE (a6) ?_|refine AE (b6) ?_|refine AE (a7) ?_|refine AE (b7) ?_|refine AE (S6) ?_|refine AE (S7) ?_)<;>conv=>whnf))
  all_goals exact ES rfl
theorem Sb (z:Int) : ∃ (U:List (List Rat)) (e:Int),Ev L 230 [.int .i64 z] (.g9 [.sl false (eM U),.int .i64 e])/\Ev L 240 [.int .i64 z] (.g9 [.sl false (eM U),.int .i64 e])/\Ev L 242 [.sl false (eM U),.sl false (eM U)] (.bool true):=by
 by_cases h:1<=z/\z<=52
 ·obtain ⟨n,rfl⟩ : ∃ n:Nat,z=n:=⟨z.toNat,by omega⟩
  have hn:1<=n/\n<=52:=by omega
  exact ⟨DK n,0,nZ N.toe8 n hn,oR N.tom5 n hn,VE N.tom5 false false false false (DK n) 64 (by rw[(Sq.id n).l];omega) (λ r hr=>by rw[(Sq.id n).r r hr];omega) (Ms.id n 64) (by omega)⟩
 ·exact ⟨[],1,Ww N.toe8 z (by omega),Ads N.tom5 z (by omega),VE N.tom5 false false false false [] 64 (by simp) (λ r hr=>by cases hr) (λ r hr=>by cases hr) (by omega)⟩
theorem Wy (a b:List (List AQ)) (x:List AQ) (l m:List Int) (z:Int) (la:a.length<9223372036854775808) (va : ∀ r∈a,r.length<9223372036854775808 /\ ∀ w∈r,w.Raw) (lb:b.length<9223372036854775808) (vb : ∀ r∈b,r.length<9223372036854775808 /\ ∀ w∈r,w.Raw) (lx:x.length<9223372036854775808) (vx : ∀ w∈x,w.Raw) (ll:l.length<9223372036854775808) (vl : ∀ v∈l,HA v) (lm:m.length<9223372036854775808) (vm : ∀ v∈m,HA v) (hz:HA z) :
  Ev L 411 [.sl false (BO false a),.sl false (BO false b),.sl false (x.map eW),.sl false (l.map OU),.sl false (m.map OU),.int .i64 z] (.bool true):=by
 have hA:=Wp N.toji;have Ds:=oW N false false a la va;have Fk:=oW N false false b lb vb;have Ib:=nR N false x lx vx;cases ha:R7 a
 ·rw[ha]at Ds
  refine Ev.x N.HE rfl rfl ?_;(repeat' ((first|apply AC|refine AE (Ds) ?_|refine AE (hA) ?_)<;>conv=>whnf))
  all_goals exact ES rfl
 rw[ha]at Ds;cases hb:R7 b
 ·rw[hb]at Fk
  refine Ev.x N.HE rfl rfl ?_;(repeat' ((first|apply AC|refine AE (Ds) ?_|refine AE (Fk) ?_|refine AE (hA) ?_)<;>conv=>whnf))
  all_goals exact ES rfl
 rw[hb]at Fk;cases hx:OG x
 ·rw[hx]at Ib
  refine Ev.x N.HE rfl rfl ?_;(repeat' ((first|apply AC|refine AE (Ds) ?_|refine AE (Fk) ?_|refine AE (Ib) ?_|refine AE (hA) ?_)<;>conv=>whnf))
  all_goals exact ES rfl
 rw[hx]at Ib;have sa:=uK (λ r hr=>(va r hr).2) ha;have sb:=uK (λ r hr=>(vb r hr).2) hb;obtain ⟨Ri,Rj⟩:=uL vx hx;have ep:=hz;unfold HA at ep;have ck:=YF N.tobg z 4 hz (by omega);have fi:=λ(y:Int) (hy:HA y)=>YF N.tobg y 4 hy (by omega)
 obtain ⟨r,hr,Ql⟩ : ∃ n:Nat,(1<=n/\n<=4)/\1+z%4=n:=⟨(1+z%4).toNat,by omega,by omega⟩;obtain ⟨U,e,i1,i2,i3⟩:=Sb N z;obtain ⟨p,xf,hpw,Jc,Ou⟩:=cV N.tobg false l ll vl r r (by omega) (by omega);obtain ⟨bm,gy,mj,ij,Ot⟩:=cV N.tobg false m lm vm 1 r (by omega) (by omega);obtain ⟨s,rfl⟩ : ∃ s,bm=[s]:=by
  match bm,gy with
  | [s],_=>exact ⟨s,rfl⟩
 have Hi:=mj s (by simp);have hsB:Bs 2 s:=ij s (by simp);have kx:[s][(0:Int).toNat]? = some s:=rfl;have fc : ∀ {k:Nat} {t:List (List Rat)},Ms 2 t->Ms 64 t:=λ h r hr x hx=>(h r hr x hx).le (by omega)
 have sp:F6 (wM p):=⟨by rw[PC xf];omega,λ x hx=>⟨by rw[PD hpw x hx];omega,CD.of (fc (k:=0) Jc) (by omega) x hx⟩⟩;have C1:=cX N false false false false false sa sb Ri Rj;have Ps : ∀ y:Int,HA y -> ∃ (c:Nat) (qm:List (List Rat)),(1<=c/\c<=4)/\1+y%4=(c:Int)/\Ev L 226 [.sl false (m.map OU),.int .i64 r,.int .i64 c] (.sl false (eM qm))/\Ev L 410 [.sl false (eM p),.sl false (eM qm),.sl false (s.map eQ)] (.bool true)/\Ev L 410 [.sl false (eM qm),.sl false (eM p),.sl false (x.map eW)] (.bool true):=λ y hy=>by
  obtain ⟨c,hc,Jj⟩ : ∃ n:Nat,(1<=n/\n<=4)/\1+y%4=n:=⟨(1+y%4).toNat,by omega,by omega⟩;obtain ⟨qm,Az,hqw,xg,hMq⟩:=cV N.tobg false m lm vm r c (by omega) (by omega);have sq:F6 (wM qm):=⟨by rw[PC Az];omega,λ x hx=>⟨by rw[PD hqw x hx];omega,CD.of (fc (k:=0) xg) (by omega) x hx⟩⟩;have C2:=cX N false false false false false sp sq (x:=wR s) (by rw[wR,List.length_map];omega) (Fs.of (λ x hx=>(hsB x hx).le (by omega)) (by omega));have C3:=cX N false false false false false sq sp Ri Rj;rw[OT,OT,YB]at C2;rw[OT,OT]at C3;exact ⟨c,qm,hc,Jj,hMq,C2,C3⟩
 have Ic:HA (z/4):=by unfold HA;omega
 have Bz:HA (z/4+1):=by unfold HA;omega
 obtain ⟨c1,qa,Fw,k1,hMa,A2,A3⟩:=Ps _ Ic;obtain ⟨c2,qb,oa,k2,Ka,B2,B3⟩:=Ps _ Bz;refine Ev.x N.HE rfl rfl ?_;(repeat' ((first|(apply A0;omega)|(refine QT ?_ ?_ (λ_ => ?_) (λ_ _ => ?_);omega;omega;all_goals try omega)|apply AC|refine AE (Ds) ?_|refine AE (Fk) ?_|refine AE (Ib) ?_|refine AE (i1) ?_|refine AE (i2) ?_|refine AE (ck) ?_|refine AE (fi _ Ic) ?_|refine AE (fi _ Bz) ?_)<;>conv=>whnf))
 ·rw[Ql,k1]
  (repeat' ((first|(apply AG<;>intro hc<;>try omega)|(refine BD (by assumption) ?_ rfl ?_;omega)|refine AE (Ou) ?_|refine AE (hMa) ?_|refine AE (hA) ?_|refine AE (i3) ?_|refine AE (C1) ?_|refine AE (Ot) ?_|refine AE (A2) ?_|refine AE (A3) ?_)<;>conv=>whnf))
  exact ES rfl
 ·rw[Ql,k2]
  (repeat' ((first|(apply AG<;>intro hc<;>try omega)|(refine BD (by assumption) ?_ rfl ?_;omega)|refine AE (Ou) ?_|refine AE (Ka) ?_|refine AE (hA) ?_|refine AE (i3) ?_|refine AE (C1) ?_|refine AE (Ot) ?_|refine AE (B2) ?_|refine AE (B3) ?_)<;>conv=>whnf))
  exact ES rfl
end
end Go.g6
