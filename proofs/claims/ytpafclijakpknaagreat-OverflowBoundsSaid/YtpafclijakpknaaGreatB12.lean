/-
  Powers and sums (layer 29): the program's square of a matrix.
-/
import Derived.Test.YtpafclijakpknaaGreatB11
import Derived.Test.YtpafclijakpknaaGreatB2
import Derived.Test.YtpafclijakpknaaGreatB9
import Derived.Test.YtpafclijakpknaaGreatB7
import Derived.Test.YtpafclijakpknaaGreatB10
import Derived.Test.YtpafclijakpknaaGreatB8
set_option linter.unusedSimpArgs false
set_option linter.unusedVariables false
set_option linter.unnecessarySimpa false
namespace Go.c9
open F
attribute [local irreducible] A0 B0 D8 BK IH DY FC E1 HI F9 IA LT GS EF HH H4 BD EU B9 pw IO H0 JM KX J9 GV IJ GT JW
variable {L:Lib}
set_option maxHeartbeats 16000000
set_option maxRecDepth 8000
theorem Apz {R:List (Option (Nat × List (List AV)))} {i z:Nat} {es:List (List AV)} {K:Nat->List (List AV)->Prop} (h:R[i]? = some (some (z,es))) (hk:K z es):H0 R i K:=by
 unfold H0;exact ⟨z,es,h,hk⟩
theorem Arl {Q:List (List Rat)} {n:Nat} (h : ∀ r∈Q,r.length=n):WT Q n n=LW 3 eQ Q:=by
 refine List.map_congr_left λ r hr => ?_
 have:=h r hr
 rw[zT (by omega),xJ this]
theorem Atu (N:v5 L) (q q':Bool) (a:List (List Rat)) (n k:Nat) (hs:Sq n a) (ha:Ms k a) (hn:n<=4) (hk:k<=1000000000):Ev L 299 [.sl q (S1 q' a)] (.sl false (eM (QD a a n))):=by
 have oy:=hs.l;have Xc:Sq n (QD a a n):=Sq.mul hs.l a;have hQa : ∀ (i:Nat) (r:List Rat),a[i]? = some r->(QD a a n)[i]? = some (NU r a n):=λ i r hr=>by rw[QD,List.getElem?_map,hr];rfl
 have hRa : ∀ (j:Nat) (r:List Rat),j<n->(NU r a n)[j]? = some (GG r (JX a j)):=λ j r hj=>by rw[NU,List.getElem?_map,List.getElem?_range hj];rfl
 have Mf:=Xc.l;have hQr:=Xc.r;generalize QD a a n=Q at *;refine Ev.x N.iQ rfl rfl ?_;(repeat' ((first|apply C9|apply BL)<;>conv=>whnf))
 unfold J9;refine ⟨⟨by omega,by omega,by simp only[NR];omega,by omega⟩,?_⟩;rw[Int.toNat_natCast,oy];(conv=>whnf)
 skip
 have Ez:=pU Q n 0;have h00 : ∀ i,i<n->(WT Q n 0)[i]? = some (some (3,(List.replicate n (none:Option Rat)).map eO)):=λ i hi=>by
  rw[WT,List.getElem?_map,zE (by omega),Option.map_some,List.take_zero,xK]
 refine K4 (λ i=>n-i) (λ(i:Nat)=>i<=n) (λ i=>[(15,.int .i64 i)]) (λ i=>[(13,13,.mx (fz none ((WT Q n 0).take i) n))]) [] [] 0 (by first|exact (by (conv=>whnf);exact ⟨rfl,rfl,rfl⟩)|(rw[List.take_zero,show fz (none:Option (Nat × List (List AV))) [] n=List.replicate n none by simp [fz]];exact (by (conv=>whnf);exact ⟨rfl,rfl,rfl⟩))) (by omega) ?_;intro i p1 ih;have te:((WT Q n 0).take i).length=i:=by rw[List.length_take];omega
 have qe:=AkN (z:=(none:Option (Nat × List (List AV)))) (l:=(WT Q n 0).take i) (m:=n) (by omega);by_cases hi:i<n
 ·have Es:=AkO (z:=(none:Option (Nat × List (List AV)))) (x:=some (3,(List.replicate n (none:Option Rat)).map eO)) (l:=(WT Q n 0).take i) (m:=n) (by omega)
  rw[te,<-ZR (h00 i hi)]at Es;generalize fz (none:Option (Nat × List (List AV))) ((WT Q n 0).take i) n=J at *;(repeat' ((first|(apply B6<;>intro hc<;>try omega)|apply BL)<;>conv=>whnf))
  refine K9 (enc:=eO) none n rfl rfl (by omega) ?_;(conv=>whnf)
  (repeat' ((first|(apply EL;omega)|fail)<;>conv=>whnf))
  unfold D8 JM;refine ⟨by simp,by omega,?_⟩;(conv=>whnf)
  rw[show 0+((i:Int)).toNat=i by omega,Es];(repeat' ((first|(apply DD;omega)|fail)<;>conv=>whnf))
  exact FV [] (ih (i+1) (by omega) (by omega))
 have ei:i=n:=by omega
 clear ih qe;rw[ei,zT (by omega),AkM (by omega)];(repeat' ((first|(apply B6<;>intro hc<;>try omega)|apply BL)<;>conv=>whnf))
 refine K9 (enc:=eO) none n rfl rfl (by omega) ?_;(conv=>whnf)
 skip
 refine MR (λ j _=>n-j) (λ(j:Nat) (C:List (Option Rat))=>j<=n/\C.length=n) (λ j _=>[(27,.int .i64 j)]) (λ j C=>[(25,25,.rw 3 (C.map eO)),(13,13,.mx (WT Q n j))]) 0 (List.replicate n none) ⟨by omega,by simp⟩ ?_;intro j C ⟨r1,r2⟩ jh;by_cases hj:j<n
 ·have ag:(JX a j).length=n:=by rw[Are];exact oy
  have AVH:((JX a j).map some).length=n:=by rw[List.length_map];exact ag
  (repeat' ((first|(apply B6<;>intro hc<;>try omega)|apply BL)<;>conv=>whnf))
  refine K4 (λ i=>n-i) (λ(i:Nat)=>i<=n) (λ i=>[(31,.int .i64 i)]) (λ i=>[(25,25,.rw 3 ((((JX a j).map some).take i++C.drop i).map eO))]) [] [] 0 (by rw[List.take_zero,List.drop_zero,List.nil_append];exact (by (conv=>whnf);exact ⟨rfl,rfl,rfl⟩)) (by omega) ?_;intro i2 s1 kh;have De:(((JX a j).map some).take i2++C.drop i2).length=n:=by rw[List.length_append,List.length_take,List.length_drop];omega
  by_cases Ih:i2<n
  ·obtain ⟨r,hr⟩ : ∃ r,a[i2]? = some r:=⟨_,zE (by omega)⟩
   have ng:=hs.at hr;obtain ⟨x,hx⟩ : ∃ x,r[j]? = some x:=⟨_,zE (by omega)⟩;have Ch:a[(i2:Int).toNat]? = some r:=hr;have yv:r[(j:Int).toNat]? = some x:=hx;have hcx:((JX a j).map some)[i2]? = some (some x):=by
    rw[List.getElem?_map,JX,List.getElem?_map,hr];simp only[Option.map_some,List.getD_eq_getElem?_getD,hx,Option.getD_some]
   have o4:=Al4 (a:=(JX a j).map some) (b:=C) (by omega) hcx;generalize ((JX a j).map some).take i2++C.drop i2=W at *;(repeat' ((first|(apply B6<;>intro hc<;>try omega)|(apply EL;omega)|(refine E4 (by assumption) ?_ rfl ?_;omega)|apply BL)<;>conv=>whnf))
   refine bZ (enc:=eO) (some x) rfl (λ e=>by cases e<;>rfl) (by omega) ?_;(conv=>whnf)
   rw[o4];(repeat' ((first|(apply DD;omega)|fail)<;>conv=>whnf))
   exact FV [] (kh (i2+1) (by omega) (by omega))
  obtain rfl:i2=n:=by omega
  clear kh De;rw[zT (by omega),List.drop_of_length_le (by omega),List.append_nil,show ((JX a j).map some).map eO=(JX a j).map eQ by rw[List.map_map];rfl];(repeat' ((first|(apply B6<;>intro hc<;>try omega)|apply BL)<;>conv=>whnf))
  refine K4 (λ i=>i2-i) (λ(i:Nat)=>i<=i2) (λ i=>[(46,.int .i64 i)]) (λ i=>[(13,13,.mx (cD Q i2 j i))]) [] [] 0 (by rw[Ark];exact (by (conv=>whnf);exact ⟨rfl,rfl,rfl⟩)) (by omega) ?_;intro i3 s2 lh;have De:=Ari (Q:=Q) (n:=i2) (j:=j) (m:=i3) (by omega);by_cases Pz:i3<i2
  ·obtain ⟨r,hr⟩ : ∃ r,a[i3]? = some r:=⟨_,zE (by omega)⟩
   have ng:=hs.at hr;have Ch:a[(i3:Int).toNat]? = some r:=hr;have hq:=hQa i3 r hr;have tz:=Arg (n:=i2) (j:=j) hq;have nr:=Arj (n:=i2) (j:=j) hq;have hxx:=hRa j r hj;have hql:(NU r a i2).length=i2:=hQr _ (zM hq);have htk:((NU r a i2).take j).length=j:=by rw[List.length_take];omega
   have Es:=uB (l:=(NU r a i2).take j) (m:=i2) (x:=GG r (JX a j)) (by omega);rw[htk,<-ZR hxx]at Es;have qe:=qC (l:=(NU r a i2).take j) (m:=i2) (by omega);rw[<-Es]at nr;have hD:=λ q q'=>AjX N q q' r (JX a j) k k (by omega) (ha.at hr) (Ms.col ha j) (by omega) hk hk
   clear hq hxx Es htk hql;generalize KE ((NU r a i2).take j) i2=W at *;generalize GG r (JX a j)=y at *;generalize cD Q i2 j i3=R0 at *;(repeat' ((first|(apply B6<;>intro hc<;>try omega)|(apply EL;omega)|apply BL)<;>conv=>whnf))
   refine Abi (r:=some (3,W.map eO)) (by rw[Nat.zero_add,Int.toNat_natCast];exact tz) ?_;(conv=>whnf)
   (repeat' ((first|(refine E4 (by assumption) ?_ rfl ?_;omega)|fail)<;>conv=>whnf))
   refine J2 (enc:=eQ) (λ_=>rfl) rfl ag.symm ?_;(conv=>whnf)
   (repeat' (refine BF (hD _ _) ?_<;>conv=>whnf))
   refine EL (by rw[List.length_map];omega) ?_;(conv=>whnf)
   skip
   refine Apz (z:=3) (es:=W.map eO) (by rw[Nat.zero_add,Int.toNat_natCast];exact tz) ?_;(conv=>whnf)
   refine bZ (enc:=eO) (some y) rfl (λ e=>by cases e<;>rfl) (by omega) ?_;(conv=>whnf)
   unfold KX;refine ⟨by rw[List.length_map,List.length_map,List.length_set],?_⟩;rw[show 0+((i3:Int)).toNat=i3 by omega,nr];(conv=>whnf)
   (repeat' ((first|(apply DD;omega)|fail)<;>conv=>whnf))
   exact FV [] (lh (i3+1) (by omega) (by omega))
  obtain rfl:i3=i2:=by omega
  clear lh De;have La:=Arh Q i3 j;rw[Mf]at La;rw[La];(repeat' ((first|(apply B6<;>intro hc<;>try omega)|(apply DD;omega)|apply BL)<;>conv=>whnf))
  rw[show (JX a j).map eQ=((JX a j).map some).map eO by rw[List.map_map];rfl];exact FV [] (jh (j+1) ((JX a j).map some) (by omega) ⟨by omega,by rw[List.length_map];exact ag⟩)
 have ej:j=n:=by omega
 clear jh;rw[ej,Arl hQr];(repeat' ((first|(apply B6<;>intro hc<;>try omega)|apply BL)<;>conv=>whnf))
 refine pN (λ_=>rfl) rfl (by omega) ?_;(conv=>whnf)
 exact DH rfl (Aix Q)
abbrev S0 (q:Bool) (R:List (List Rat)) (D:Rat) (p:Int) (T:Rat):List AV:=[.sl false (S1 q R)]++eQ D++[.int .i64 p]++eQ T
theorem AdY (R:List (List Rat)) (D:Rat) (p:Int) (T:Rat) (e:Int):EA (.j5 [.agg (S0 false R D p T),.int .i64 e]):=by
 have h1:=Ad0 R;have h2:=JB D;have h3:=JB T;simp only[EA,GK,true_and,and_true,S0,List.cons_append,List.nil_append]at h1 h2 h3 ⊢;exact ⟨h1,h2.1,h2.2,h3.1,h3.2⟩
theorem cT {i:Nat} (h:i<=6):2^i<=64/\(2^i=64->i=6)/\1<=2^i:=by
 obtain rfl|rfl|rfl|rfl|rfl|rfl|rfl:i=0\/i=1\/i=2\/i=3\/i=4\/i=5\/i=6:=by omega
 all_goals decide
theorem Acw {D:Rat} {d:Nat} (h:Bt d D) : ∀ j:Nat,Bt (j*d) (D^j)
 | 0=>by rw[Rat.pow_zero];exact Bt.one _
 | j+1=>by
  rw[Rat.pow_succ];exact ((Acw h j).mul h).le (by rw[Nat.succ_mul];omega)
theorem uM {S M:Nat} (h:S<=2^M):Bt M (S:Rat):=by
 refine ⟨?_,?_⟩
 ·rw[Rat.num_natCast,Int.natAbs_natCast];exact h
 ·rw[Rat.den_natCast];exact Nat.one_le_two_pow
theorem oH {S:Nat} (h:0<S):(0:Rat)<(S:Rat):=by
 have:=Rat.natCast_lt_natCast.2 h
 exact this
theorem Aj1 (N:v5 L) (q q':Bool) (a:List (List Rat)) (n k:Nat) (hs:Sq n a) (ha:Ms k a) (hn:n<=4) (hk:k<=100000) :
  ∃ v,Ev L 303 [.sl q (S1 q' a)] v/\((∃ i,i<=6/\OQ n a i/\v = .j5 [.agg (S0 false (HP (PO a.flatten) a) (PO a.flatten) ((2^i:Nat):Int) (PO a.flatten^(2^i+2^i-1))),.int .i64 0]) \/
   ((∀ j,j<=6->KR (HW n a j)=false)/\v = .j5 [.agg [.sl false [],.bool false,.sl false [],.sl false [],.int .i64 0,.bool false,.sl false [],.sl false []],.int .i64 14])):=by
 have oy:=hs.l;have Fk:n*n<=4*4:=Nat.mul_le_mul hn hn;have Nu:n*n*k<=16*k:=zR k Fk;have qe:a.flatten.length<=64:=by
  have : ∀ (a:List (List Rat)),(∀ r∈a,r.length=n)->a.flatten.length=a.length*n:=by
   intro a;induction a with
   | nil=>intro _;simp
   | cons r a ih =>
    intro h;rw[List.flatten_cons,List.length_append,ih λ x hx=>h x (List.mem_cons_of_mem _ hx),h r List.mem_cons_self,List.length_cons,Nat.succ_mul,Nat.add_comm]
  rw[this a hs.r,oy];omega
 have ta:=Us N q q' a k ha qe (by omega) (by omega);have hO:=PW N.toa7 1 (by omega);rw[show ((1:Int):Rat)=1 from rfl]at hO;obtain ⟨D0,eD,d1,d2,d3⟩:=Tk hs ha;have Ef:Bt (16*k) (D0:Rat):=uM (Nat.le_trans d2 (Nat.pow_le_pow_right (by omega) Nu));have hDp:(0:Rat)<(D0:Rat):=oH d1;have hDN:=Aev (Nat.le_trans d2 (Nat.pow_le_pow_right (by omega) Nu));have hRW:=AcY hs hn d3;rw[eD]at ta ⊢;generalize (D0:Rat)=D at *;clear eD d1 d2 d3;have Mp:(HP D a).length=n:=by rw[Anm];exact oy
 have ADQ : ∀ (i:Nat) (r:List Rat),a[i]? = some r->(HP D a)[i]? = some (r.map (· * D)):=λ i r hr=>Aw8 hr
 have Bi : ∀ i,Sq n (HP (KD D i) (HW n a i)):=λ i=>AgG _ (vE hs i)
 have Dr : ∀ i,i<=6->Ms 300000000 (HP (KD D i) (HW n a i)):=λ i hi r hr x hx=>((hRW i r hr x hx).le (by have:=AoD (k:=k) i (by omega);omega)).bt
 have ft : ∀ i,i<=6->Bt 300000000 (KD D i):=λ i hi=>((hDN i).le (by
  have:=(cT hi).1
  have:=zR (16*k) this
  omega)).bt
 have hCt:=λ(i:Nat) (q q':Bool) (hi:i<=6)=>Ats N q q' (HP (KD D i) (HW n a i)) (KD D i) n 300000000 300000000 (Bi i) (Dr i hi) (ft i hi) (by omega) (by omega) (by omega)
 have Xg:=λ(i:Nat) (q q':Bool) (hi:i<=6)=>Atu N q q' (HP (KD D i) (HW n a i)) n 300000000 (Bi i) (Dr i hi) hn (by omega)
 have hMD:=λ(i:Nat) (hi:i<=6)=>XT N.toa7 (ft i hi) (ft i hi) (by omega) (by omega)
 have o4 : ∀ i,QD (HP (KD D i) (HW n a i)) (HP (KD D i) (HW n a i)) n=HP (KD D (i+1)) (HW n a (i+1)):=λ i=>AnA n a D i
 have hci : ∀ i,(∀ r∈HP (KD D i) (HW n a i),FY r+FY r<=KD D i)↔KR (HW n a i)=true:=λ i=>Arp hDp
 have hLs:=λ(j:Nat) (hj:j<=128)=>XT N.toa7 (Acw Ef j) Ef (show j*(16*k)<2199023255552 by
  have:=zR (16*k) hj
  omega) (by omega)
 have Xy : ∀ (i:Nat) (q q':Bool),i<=6->Ev L 302 [.sl q (S1 q' (HP (KD D i) (HW n a i))),.agg (eQ (KD D i))] (.bool (KR (HW n a i))):=λ i q q' hi=>by
  have:=hCt i q q' hi
  rwa [show decide (∀ r∈HP (KD D i) (HW n a i),FY r+FY r<=KD D i)=KR (HW n a i) by rw[Bool.eq_iff_iff,decide_eq_true_iff];exact hci i]at this
 have Xf : ∀ (i:Nat) (q q':Bool),i<=6->Ev L 299 [.sl q (S1 q' (HP (KD D i) (HW n a i)))] (.sl false (eM (HP (KD D (i+1)) (HW n a (i+1))))):=λ i q q' hi=>by
  have:=Xg i q q' hi
  rwa [o4]at this
 have sf : ∀ i,i<=6->Ev L 99 [.agg (eQ (KD D i)),.agg (eQ (KD D i))] (.agg (eQ (KD D (i+1)))):=hMD;have hL2 : ∀ j:Nat,j<=128->Ev L 99 [.agg (eQ (D^j)),.agg (eQ D)] (.agg (eQ (D^(j+1)))):=λ j hj=>by
  have:=hLs j hj
  rwa [<-Rat.pow_succ]at this
 have Bz : ∀ q q':Bool,Ev L 302 [.sl q (S1 q' (HP D a)),.agg (eQ D)] (.bool (KR (HW n a 0))):=λ q q'=>Xy 0 q q' (by omega)
 have Xd : ∀ q q':Bool,Ev L 299 [.sl q (S1 q' (HP D a))] (.sl false (eM (HP (KD D 1) (HW n a 1)))):=λ q q'=>Xf 0 q q' (by omega)
 have Wy:Ev L 99 [.agg (eQ D),.agg (eQ D)] (.agg (eQ (KD D 1))):=sf 0 (by omega);clear hCt Xg hMD hLs o4 hci Dr ft Bi hRW hDN;refine Ev.xE N.iR rfl rfl ?_;by_cases h0:n=0
 ·obtain rfl:a=[]:=List.length_eq_zero_iff.1 (by omega)
  have hb:KR (HW n [] 0)=true:=rfl;have wh:=Bz false false;rw[hb]at wh;have hC2:Ev L 302 [.sl false [],.agg (eQ D)] (.bool true):=wh;have hP0:=hL2 0 (by omega);rw[Rat.pow_zero]at hP0;(repeat' ((first|apply C9|apply BL|refine BF (ta) ?_|refine BF (hO) ?_)<;>conv=>whnf))
  refine NJ ?_;(repeat' ((first|(apply B6<;>intro hc<;>try omega)|apply BL)<;>conv=>whnf))
  refine NJ ?_;(repeat' ((first|(apply F8;omega)|(apply NA;omega)|apply BL|refine BF (hC2) ?_)<;>conv=>whnf))
  refine NJ ?_;(repeat' ((first|(apply B6<;>intro hc<;>try omega)|(apply DD;omega)|apply BL|refine BF (hP0) ?_)<;>conv=>whnf))
  refine NJ ?_;(repeat' ((first|(apply B6<;>intro hc<;>try omega)|apply BL)<;>conv=>whnf))
  refine ⟨.j5 [.agg (S0 false [] D 1 (D^1)),.int .i64 0],?_,Or.inl ⟨0,by omega,⟨rfl,λ j hj=>absurd hj (by omega)⟩,rfl⟩⟩;exact DH rfl (AdY [] D 1 (D^1) 0)
 (repeat' ((first|apply C9|apply BL|refine BF (ta) ?_|refine BF (hO) ?_)<;>conv=>whnf))
 refine MR (λ i _=>n-i) (λ(i:Nat) (fl:Bool)=>i<=n/\fl=decide (i=0)) (λ i _=>[(15,.int .i64 i)]) (λ i fl=>bif fl then [] else [(4,4,.bx ([.row 1000 0 1 0 i]++eQ D++[.int .i64 1]++eQ 1)),(1000,26,.rw 1 (((HP D a).take i).map λ r=>[AV.sl false (r.map eQ)]))]) 0 true ⟨by omega,rfl⟩ ?_;intro i fl ⟨p1,p2⟩ ih;have ng:((HP D a).take i).length=i:=by rw[List.length_take];omega
 by_cases hi:i<n
 ·obtain ⟨r,hr⟩ : ∃ r,a[i]? = some r:=⟨_,zE (by omega)⟩
  have Ch:a[(i:Int).toNat]? = some r:=hr;have ni:=hs.at hr;have hTm:=λ q=>Uu N q r D k (16*k) (ha.at hr) Ef (by omega) (by omega) (by omega)
  have tz:=ADQ i r hr;generalize r.map (· * D)=w at *;cases fl
  ·have yj:i≠0:=by simpa using p2.symm
   (repeat' ((first|(apply B6<;>intro hc<;>try omega)|(refine E4 (by assumption) ?_ rfl ?_;omega)|apply KY|apply BL|refine BF (hTm _) ?_)<;>conv=>whnf))
   refine NL (l:=(HP D a).take i) (z:=1) (bytes:=24) (enc:=λ r:List Rat=>[AV.sl false (r.map eQ)]) w rfl ng.symm rfl (by omega) (by omega) ?_;(conv=>whnf)
   (repeat' ((first|(apply DD;omega)|fail)<;>conv=>whnf))
   rw[<-ZR tz,show ((HP D a).take (i+1)).length=i+1 by rw[List.length_take];omega];exact FV [(1000,26)] (ih (i+1) false (by omega) ⟨by omega,by simp⟩)
  ·have yj:i=0:=by simpa using p2.symm
   subst yj;(repeat' ((first|(apply B6<;>intro hc<;>try omega)|(refine E4 (by assumption) ?_ rfl ?_;omega)|apply KY|apply BL|refine BF (hTm _) ?_)<;>conv=>whnf))
   refine qX (enc:=λ r:List Rat=>[AV.sl false (r.map eQ)]) w rfl rfl (by omega) ?_;(conv=>whnf)
   (repeat' ((first|(apply DD;omega)|fail)<;>conv=>whnf))
   rw[show [w]=(HP D a).take (0+1) by rw[ZR tz];rfl];exact FV [(1000,26)] (ih 1 false (by omega) ⟨by omega,by simp⟩)
 have ei:i=n:=by omega
 obtain rfl:fl=false:=by rw[p2];simp;omega
 clear ih p2 ng;rw[ei,zT (by omega)];(repeat' ((first|(apply B6<;>intro hc<;>try omega)|apply BL)<;>conv=>whnf))
 refine MR (λ i _=>7-i) (λ(i:Nat) (fl:Bool)=>i<=6/\(fl=true->i=0) /\ ∀ j,j<i->KR (HW n a j)=false) (λ i fl=>[(7,bif fl then .row 1000 0 1 0 n else .sl false (eM (HP (KD D i) (HW n a i))))]) (λ i _=>[(8,8,.bx (eQ (KD D i))),(4,4,.bx ([.row 1000 0 1 0 n]++eQ D++[.int .i64 ((2^i:Nat):Int)]++eQ 1))]) 0 true ⟨by omega,λ_=>rfl,λ j hj=>absurd hj (by omega)⟩ ?_;intro i fl ⟨s1,s2,s3⟩ jh;obtain ⟨g1,g2,g3⟩:=cT s1;have Dg:((2^(i+1):Nat):Int)=((2^i:Nat):Int)*2:=by rw[Nat.pow_succ];omega
 have Yb:=λ q q'=>Xy i q q' s1
 have Jm:=λ q q'=>Xf i q q' s1
 have hmi:=sf i s1;cases hb:KR (HW n a i)
 ·rw[hb]at Yb
  by_cases h6:i=6
  ·have e64:((2^i:Nat):Int)=64:=by rw[h6];rfl
   have zr : ∀ j,j<=6->KR (HW n a j)=false:=λ j hj=>by
    by_cases h:j=6
    ·rw[h,<-h6];exact hb
    ·exact s3 j (by omega)
   cases fl
   ·rw[e64]
    (repeat' ((first|(apply B6<;>intro hc<;>try omega)|apply BL|refine BF (Yb _ _) ?_)<;>conv=>whnf))
    exact ⟨_,DH rfl (by simp [EA,GK,L3]),Or.inr ⟨zr,rfl⟩⟩
   ·exact absurd (s2 rfl) (by omega)
  ·have AWe:((2^i:Nat):Int)≠64:=λ e=>h6 (g2 (by omega))
   have oo : ∀ j,j<i+1->KR (HW n a j)=false:=λ j hj=>by
    by_cases h:j=i
    ·rw[h];exact hb
    ·exact s3 j (by omega)
   cases fl
   ·generalize 2^i=P at *
    (repeat' ((first|(apply B6<;>intro hc<;>try omega)|(apply NA;omega)|apply BL|refine BF (Yb _ _) ?_|refine BF (Jm _ _) ?_|refine BF (hmi) ?_)<;>conv=>whnf))
    rw[<-Dg];exact FV [] (jh (i+1) false (by omega) ⟨by omega,(λ h=>by cases h),oo⟩)
   ·obtain rfl:=s2 rfl
    have wh:=Bz;rw[hb]at wh;generalize 2^0=P at *;(repeat' (apply BL<;>conv=>whnf))
    refine J2 (enc:=λ r:List Rat=>[AV.sl false (r.map eQ)]) (λ_=>rfl) rfl Mp.symm ?_;(conv=>whnf)
    (repeat' ((first|(apply B6<;>intro hc<;>try omega)|refine BF (wh _ _) ?_)<;>conv=>whnf))
    refine J2 (enc:=λ r:List Rat=>[AV.sl false (r.map eQ)]) (λ_=>rfl) rfl Mp.symm ?_;(conv=>whnf)
    (repeat' ((first|(apply NA;omega)|refine BF (Xd _ _) ?_|refine BF (Wy) ?_)<;>conv=>whnf))
    rw[<-Dg];exact FV [] (jh (0+1) false (by omega) ⟨by omega,(λ h=>by cases h),oo⟩)
 ·rw[hb]at Yb
  have Eu:OQ n a i:=⟨hb,s3⟩;have da : ∀ r:AV,r = .j5 [.agg (S0 false (HP D a) D ((2^i:Nat):Int) (D^(2^i+2^i-1))),.int .i64 0]->((∃ i,i<=6/\OQ n a i/\r = .j5 [.agg (S0 false (HP D a) D ((2^i:Nat):Int) (D^(2^i+2^i-1))),.int .i64 0])\/((∀ j,j<=6->KR (HW n a j)=false)/\r = .j5 [.agg [.sl false [],.bool false,.sl false [],.sl false [],.int .i64 0,.bool false,.sl false [],.sl false []],.int .i64 14])):=λ r hr=>Or.inl ⟨i,s1,Eu,hr⟩
  clear Dg jh;generalize 2^i=P at *;cases fl
  ·(repeat' ((first|(apply F8;omega)|(apply NA;omega)|apply BL|refine BF (Yb _ _) ?_)<;>conv=>whnf))
   refine K4 (λ j=>P+P-1-j) (λ(j:Nat)=>j<=P+P-1) (λ j=>[(54,.int .i64 j)]) (λ j=>[(4,4,.bx ([.row 1000 0 1 0 n]++eQ D++[.int .i64 (P:Int)]++eQ (D^j)))]) [] [] 0 (by rw[Rat.pow_zero];exact (by (conv=>whnf);exact ⟨rfl,rfl,rfl⟩)) (by omega) ?_;intro j t1 kh;by_cases hj:j<P+P-1
   ·have hl:=hL2 j (by omega)
    (repeat' ((first|(apply B6<;>intro hc<;>try omega)|(apply DD;omega)|apply BL|refine BF (hl) ?_)<;>conv=>whnf))
    exact FV [] (kh (j+1) (by omega) (by omega))
   have ej:j=P+P-1:=by omega
   clear kh;rw[ej];(repeat' ((first|(apply B6<;>intro hc<;>try omega)|apply BL)<;>conv=>whnf))
   refine ⟨.j5 [.agg (S0 false (HP D a) D (P:Int) (D^(P+P-1))),.int .i64 0],?_,da _ rfl⟩;(conv=>whnf)
   refine J2 (enc:=λ r:List Rat=>[AV.sl false (r.map eQ)]) (λ_=>rfl) rfl Mp.symm ?_;(conv=>whnf)
   exact DH rfl (AdY _ _ _ _ 0)
  ·obtain rfl:=s2 rfl
   have wh:=Bz;rw[hb]at wh;(repeat' (apply BL<;>conv=>whnf))
   refine J2 (enc:=λ r:List Rat=>[AV.sl false (r.map eQ)]) (λ_=>rfl) rfl Mp.symm ?_;(conv=>whnf)
   (repeat' ((first|(apply F8;omega)|(apply NA;omega)|refine BF (wh _ _) ?_)<;>conv=>whnf))
   refine K4 (λ j=>P+P-1-j) (λ(j:Nat)=>j<=P+P-1) (λ j=>[(54,.int .i64 j)]) (λ j=>[(4,4,.bx ([.row 1000 0 1 0 n]++eQ D++[.int .i64 (P:Int)]++eQ (D^j)))]) [] [] 0 (by rw[Rat.pow_zero];exact (by (conv=>whnf);exact ⟨rfl,rfl,rfl⟩)) (by omega) ?_;intro j t1 kh;by_cases hj:j<P+P-1
   ·have hl:=hL2 j (by omega)
    (repeat' ((first|(apply B6<;>intro hc<;>try omega)|(apply DD;omega)|apply BL|refine BF (hl) ?_)<;>conv=>whnf))
    exact FV [] (kh (j+1) (by omega) (by omega))
   have ej:j=P+P-1:=by omega
   clear kh;rw[ej];(repeat' ((first|(apply B6<;>intro hc<;>try omega)|apply BL)<;>conv=>whnf))
   refine ⟨.j5 [.agg (S0 false (HP D a) D (P:Int) (D^(P+P-1))),.int .i64 0],?_,da _ rfl⟩;(conv=>whnf)
   refine J2 (enc:=λ r:List Rat=>[AV.sl false (r.map eQ)]) (λ_=>rfl) rfl Mp.symm ?_;(conv=>whnf)
   exact DH rfl (AdY _ _ _ _ 0)
theorem AuR {D:Rat} {f:Nat->Rat} {p j:Nat} (h:p<=j):LV D f (j+1-p)=LV D f (j-p)*D+f (j-p):=by
 rw[show j+1-p=(j-p)+1 by omega];rfl
abbrev rL (Z:List (List Rat)) (T:Rat):List AV:=[.sl false (eM Z)]++eQ T
theorem Aq1 (Z:List (List Rat)) (T:Rat):EA (.agg (rL Z T)):=by
 have h1:=Ad0 Z;have h3:=JB T;simp only[EA,GK,true_and,and_true,rL,List.cons_append,List.nil_append]at h1 h3 ⊢;exact ⟨h1,h3.1,h3.2⟩
theorem Aj3 (N:v5 L) (qr:Bool) (R:List (List Rat)) (D T:Rat) (z:Nat->List Rat) (n p kr kd kz:Nat) (hR:Sq n R) (Pl:Ms kr R) (hD:Bt kd D) (ot : ∀ j,j<=128->Bs kz (z j)) (Kb : ∀ j,(z j).length=n) (hz : ∀ j,z (j+1)=NV R (z j))
  (hn:n<=4) (hp:1<=p/\p<=64) (k1:kr<=1000000000) (k2:kd<=1000000000) (k3:kz<=1000000000) :
  Ev L 304 [.agg (S0 qr R D (p:Int) T),.sl false ((z 0).map eQ)] (.agg (rL ((List.range (p+p)).map z) (LV D (λ m=>H9 (z (p+m))) p))):=by
 have hO:=PW N.toa7 0 (by omega);rw[show ((0:Int):Rat)=0 from rfl]at hO;have da:=Aq1 ((List.range (p+p)).map z) (LV D (λ m=>H9 (z (p+m))) p);have Yz : ∀ j,(List.range (j+1)).map z=(List.range j).map z++[z j]:=λ j=>by rw[List.range_succ,List.map_append];rfl
 have ng : ∀ j,((List.range j).map z).length=j:=λ j=>by simp
 have Pm : ∀ m,m<=64->Bt (64*(kd+kz+1)) (LV D (λ m=>H9 (z (p+m))) m):=λ m hm=>(uH hD m λ j hj=>oD (ot (p+j) (by omega))).le (zR _ hm)
 refine Ev.x N.iI rfl rfl ?_;(repeat' ((first|(apply NA;omega)|apply BL|refine BF (hO) ?_)<;>conv=>whnf))
 refine MR (λ j _=>p+p-j) (λ(j:Nat) (fl:Bool)=>j<=p+p/\fl=decide (j=0)) (λ j _=>[(14,.int .i64 j),(6,.sl false ((z (j-1)).map eQ))]) (λ j fl=>bif fl then [] else [(5,5,.bx ([.row 1000 0 1 0 j]++eQ (LV D (λ m=>H9 (z (p+m))) (j-p)))),(1000,27,.rw 1 (((List.range j).map z).map λ r=>[AV.sl false (r.map eQ)]))]) 0 true ⟨by omega,rfl⟩ ?_;intro j fl ⟨p1,p2⟩ ih;by_cases hj:j<p+p
 ·have hA:=λ q1 q2=>Atr N q1 q2 qr R (z (j-1)) n kr kz hR (Kb _) Pl (ot _ (by omega)) hn k1 k3
  have hG:=λ q=>Att N q (z j) kz (ot j (by omega)) (by rw[Kb];omega) (by omega)
  have hs:=Yz j;have hl:=ng j;have na:=ng (j+1);cases fl
  ·have Yh:j≠0:=by simpa using p2.symm
   have hzj:NV R (z (j-1))=z j:=by rw[<-hz];congr 1;omega
   rw[hzj]at hA;by_cases hjp:p<=j
   ·have h1:=XT N.toa7 (Pm (j-p) (by omega)) hD (by omega) (by omega)
    have h2:=YT N.toa7 ((Pm (j-p) (by omega)).mul hD) (oD (ot j (by omega))) (by omega) (by omega);have he:LV D (λ m=>H9 (z (p+m))) (j-p)*D+H9 (z j)=LV D (λ m=>H9 (z (p+m))) (j+1-p):=by
     rw[AuR hjp,show p+(j-p)=j by omega]
    rw[he]at h2;have e1:z (j+1-1)=z j:=rfl;rw[<-e1]at hG hA hs h2 hzj;generalize (List.range j).map z=Z at *;(repeat' ((first|(apply B6<;>intro hc<;>try omega)|apply KY|apply BL|refine BF (hA _ _) ?_)<;>conv=>whnf))
    refine NL (l:=Z) (z:=1) (bytes:=24) (enc:=λ r:List Rat=>[AV.sl false (r.map eQ)]) (z (j+1-1)) rfl hl.symm rfl (by omega) (by omega) ?_;rw[<-hs,na];(conv=>whnf)
    (repeat' ((first|(apply B6<;>intro hc<;>try omega)|(apply DD;omega)|refine BF (h1) ?_|refine BF (hG _) ?_|refine BF (h2) ?_)<;>conv=>whnf))
    exact FV [(1000,27)] (ih (j+1) false (by omega) ⟨by omega,by simp⟩)
   ·have ez:j-p=j+1-p:=by omega
    have e1:z (j+1-1)=z j:=rfl;rw[<-e1]at hA hs hzj;rw[ez];generalize (List.range j).map z=Z at *;(repeat' ((first|(apply B6<;>intro hc<;>try omega)|apply KY|apply BL|refine BF (hA _ _) ?_)<;>conv=>whnf))
    refine NL (l:=Z) (z:=1) (bytes:=24) (enc:=λ r:List Rat=>[AV.sl false (r.map eQ)]) (z (j+1-1)) rfl hl.symm rfl (by omega) (by omega) ?_;rw[<-hs,na];(conv=>whnf)
    (repeat' ((first|(apply B6<;>intro hc<;>try omega)|(apply DD;omega))<;>conv=>whnf))
    exact FV [(1000,27)] (ih (j+1) false (by omega) ⟨by omega,by simp⟩)
  ·have Yh:j=0:=by simpa using p2.symm
   subst Yh;have ez:LV D (λ m=>H9 (z (p+m))) (0+1-p)=0:=by rw[show 0+1-p=0 by omega];rfl
   (repeat' ((first|(apply B6<;>intro hc<;>try omega)|apply KY|apply BL)<;>conv=>whnf))
   refine qX (enc:=λ r:List Rat=>[AV.sl false (r.map eQ)]) (z 0) rfl rfl (by omega) ?_;(conv=>whnf)
   (repeat' ((first|(apply B6<;>intro hc<;>try omega)|(apply DD;omega))<;>conv=>whnf))
   rw[show [z 0]=(List.range (0+1)).map z from rfl];rw[<-ez];exact FV [(1000,27)] (ih (0+1) false (by omega) ⟨by omega,by simp⟩)
 have ej:j=p+p:=by omega
 obtain rfl:fl=false:=by rw[p2];simp;omega
 clear ih p2;have hl:=ng j;rw[show j-p=p by omega];rw[<-ej]at da ⊢;(repeat' ((first|(apply B6<;>intro hc<;>try omega)|(refine J2 (λ_=>rfl) rfl ?_ ?_;(first|rfl|simp))|apply BL)<;>conv=>whnf))
 exact DH rfl da
abbrev pV (m:List (List Rat)):List (List AV):=m.map λ r=>[AV.sl true (r.map (YR true))]
theorem AlJ (Z:List (List Rat)) (T:Rat):cL (.agg (rL Z T)) = .agg ([.sl true (pV Z)]++YR true T):=by
 have hd : ∀ l:List Nat,aO (l.map C3)=l.map C3:=λ l=>by
  induction l with
  | nil=>rfl
  | cons x l ih=>rw[List.map_cons,aO,ih];rfl
 have hq : ∀ x:Rat,W6 (eQ x)=YR true x:=λ x=>by
  show W6 [.bool _,.sl false _,.sl false _]=_;simp only[W6,P2,hd]
 have hr : ∀ r:List Rat,aO (r.map eQ)=r.map (YR true):=λ r=>by
  induction r with
  | nil=>rfl
  | cons x r ih=>rw[List.map_cons,aO,ih,hq];rfl
 have hz : ∀ Z:List (List Rat),aO (eM Z)=pV Z:=λ Z=>by
  induction Z with
  | nil=>rfl
  | cons r Z ih =>
   have Zq:aO (Z.map λ r=>[AV.sl false (r.map eQ)])=Z.map λ r=>[AV.sl true (r.map (YR true))]:=ih
   show aO ([AV.sl false (r.map eQ)]::Z.map λ r=>[AV.sl false (r.map eQ)])=_;rw[aO,Zq];simp only[W6,P2,hr];rfl
 show AV.agg (W6 (AV.sl false (eM Z)::eQ T))=_;rw[W6,hq];simp only[P2,hz];rfl
theorem AjZ (N:v5 L) (qr q:Bool) (R:List (List Rat)) (D T U:Rat) (P:Int) (c:List Rat) (z:Nat->List Rat) (n m kd kc kz kt:Nat) (hD:Bt kd D) (hc:Bs kc c) (ag:c.length=n) (ot : ∀ j,j<=128->Bs kz (z j)) (Kb : ∀ j,(z j).length=n) (hT:Bt kt T)
  (hn:n<=4) (hm:m<=128) (k1:kc<=100000000) (k2:kd<=100000000) (k3:kz<=100000000) (k4:kt<=100000000000) :
  Ev L 305 [.agg (S0 qr R D P U),.sl q (c.map eQ),.agg ([.sl true (pV ((List.range m).map z))]++YR true T)] (.agg (eQ (LV D (λ j=>G1 (GG c (z j))) m+FY c*T))):=by
 have hO:=PW N.toa7 0 (by omega);rw[show ((0:Int):Rat)=0 from rfl]at hO;have ng:((List.range m).map z).length=m:=by simp
 have hra : ∀ j,j<m->((List.range m).map z)[j]? = some (z j):=λ j hj=>by rw[List.getElem?_map,List.getElem?_range hj];rfl
 have ft : ∀ j,j<=128->Bt (4*(kc+kz+1)) (GG c (z j)):=λ j hj=>(hc.dot (ot j hj)).le (zR _ (by omega))
 have hH : ∀ t,t<=128->Bt (128*(kd+4*(kc+kz+1)+1)) (LV D (λ j=>G1 (GG c (z j))) t):=λ t ht=>(uH hD t λ j hj=>RR (ft j (by omega))).le (zR _ ht)
 have Jr:Bt (4*(kc+1)) (FY c):=(oQ hc).le (zR _ (by omega));generalize (List.range m).map z=Z at *;refine Ev.x N.iH rfl rfl ?_;(repeat' ((first|apply C9|apply BL|refine BF (hO) ?_)<;>conv=>whnf))
 refine K7 (λ j=>m-j) (λ(j:Nat)=>j<=m) (λ j=>[(14,.int .i64 j)]) (λ j=>[(7,7,.bx (eQ (LV D (λ j=>G1 (GG c (z j))) j)))]) 0 (by omega) ?_;intro j p1 ih;by_cases hj:j<m
 ·have hr:=hra j hj
  have Ch:Z[(j:Int).toNat]? = some (z j):=hr;have h1:=XT N.toa7 (hH j (by omega)) hD (by omega) (by omega);have hd:=λ q q'=>AjY N q q' true c (z j) kc kz (by rw[ag,Kb]) hc (ot j (by omega)) (by omega) (by omega) (by omega)
  have ha:=Uh N.tofp (ft j (by omega)) (by omega);have h2:=YT N.toa7 ((hH j (by omega)).mul hD) (RR (ft j (by omega))) (by omega) (by omega);have Lz:Ev L 98 [.agg (eQ (LV D (λ j=>G1 (GG c (z j))) j*D)),.agg (eQ (G1 (GG c (z j))))] (.agg (eQ (LV D (λ j=>G1 (GG c (z j))) (j+1)))):=h2;clear h2 ft hH Jr;(repeat' ((first|(apply B6<;>intro hc<;>try omega)|(apply DD;omega)|(refine E4 (by assumption) ?_ rfl ?_;omega)|apply BL|refine BF (h1) ?_|refine BF (hd _ _) ?_|refine BF (ha) ?_|refine BF (Lz) ?_)<;>conv=>whnf))
  exact FV [] (ih (j+1) (by omega) (by omega))
 have ej:j=m:=by omega
 clear ih;rw[ej];have hS:=λ q=>Aj2 N q c kc hc (by omega) (by omega)
 have h1:=AjQ N.toa7 true Jr hT (by omega) (by omega);have h2:=YT N.toa7 (hH m hm) (Jr.mul hT) (by omega) (by omega);(repeat' ((first|(apply B6<;>intro hc<;>try omega)|apply BL|refine BF (hS _) ?_|refine BF (h1) ?_|refine BF (h2) ?_)<;>conv=>whnf))
 exact DH rfl (JB _)
theorem AmC {Z:List (List Rat)} {T:Rat} (h:Z≠[]) : ¬ YD (.agg (rL Z T)):=by
 intro hf;have h1:=hf (.sl false (eM Z)) (by simp);cases Z with
 | nil=>exact h rfl
 | cons r Z =>
  have h2:=h1 [.sl false (r.map eQ)] (by simp) (.sl false (r.map eQ)) (by simp);simp [AfQ]at h2
theorem Ahu {n k j:Nat} (hn:n<=4) (hj:j<=128):vN n k j<=5*k+128*(17*k+4):=by
 have h1:n*n<=4*4:=Nat.mul_le_mul hn hn;have h2:n*n*k<=16*k:=zR k h1;have h3:n*k<=4*k:=zR k hn;have h4:j*((k+n*n*k)+n)<=128*(17*k+4):=Nat.mul_le_mul hj (by omega);rw[vN];omega
theorem Vo (b:List Rat):[b].flatten=b:=by simp
theorem Atv (N:v5 L) (S:NN) (n k:Nat) (hS:S.Ok n k) (hn:n<=4) (hk:k<=1000) :
  ∃ v,Ev L 307 [.agg (eS S)] v/\((∃ i,i<=6/\OQ n S.a i/\v = .j5 [.agg (eQ (M4 S (2^i))),.int .i64 0])\/((∀ j,j<=6->KR (HW n S.a j)=false)/\v = .j5 [.agg [.bool false,.sl false [],.sl false []],.int .i64 14])):=by
 have Zb:=As1 N.todn S n k hS (by omega);have Qd:=hS.la;have Qe:=hS.lb;have su:=hS.lc;have Gv:Sq n S.a:=⟨hS.la,hS.lr⟩;obtain ⟨v,Mj,hv⟩:=Aj1 N false false S.a n k Gv hS.ba hn (by omega);have Ph:=Us N true false [S.b] k (λ r hr=>by obtain rfl:=List.mem_singleton.1 hr;exact hS.bb) (by rw[Vo];omega) (by simp) (by omega);have Bz:=Us N true false [S.c] k (λ r hr=>by obtain rfl:=List.mem_singleton.1 hr;exact hS.bc) (by rw[Vo];omega) (by simp) (by omega);rw[Vo]at Ph Bz;refine Ev.xE N.gP rfl rfl ?_;rcases hv with ⟨i,h1,h2,rfl⟩|⟨h1,rfl⟩
 ·obtain ⟨D,eD,d1,d2,d3⟩:=Tk Gv hS.ba
  obtain ⟨E,eE,e1,e2,e3⟩:=Rs hS.lb hS.bb;obtain ⟨O,Wj,o1,o2,o3⟩:=Rs hS.lc hS.bc;obtain ⟨g1,_,g3⟩:=cT h1;have Fk:n*n<=4*4:=Nat.mul_le_mul hn hn;have Nu:n*n*k<=16*k:=zR k Fk;have AWh:n*k<=4*k:=zR k hn;have bD:Bt 16000 (D:Rat):=(uM d2).le (by omega);have bE:Bt 4000 (E:Rat):=(uM e2).le (by omega);have bO:Bt 4000 (O:Rat):=(uM o2).le (by omega);have pD:=oH d1;have pE:=oH e1;have pO:=oH o1;have hzw:=Ahv Gv d3 e3;have ot : ∀ j,j<=128->Bs 3000000 (JL S.a S.b (D:Rat) (E:Rat) j):=λ j hj x hx=>((hzw j x hx).le (by have:=Ahu (n:=n) (k:=k) hn hj;omega)).bt
  have wx:Bs 5000 (S.c.map (· * (O:Rat))):=λ x hx=>((o3 x hx).le (by omega)).bt
  have Pl:Ms 17000 (HP (D:Rat) S.a):=λ r hr x hx=>((d3 r hr x hx).le (by omega)).bt
  have Ai:=An8 (S:=S) (p:=2^i) g3 pD pE pO;have Lm:M4 S (2^i)=G1 S.d+(PP (YV S.a S.b S.c) (2^i+2^i)+FY S.c*PP (λ j=>cK S.a S.b (2^i+j)) (2^i)):=rfl;rw[<-Ai]at Lm;rw[eD]at Mj;rw[eE]at Ph;rw[Wj]at Bz;clear eD eE Wj hzw d1 d2 d3 e1 e2 e3 o1 o2 o3 Ai;generalize (D:Rat)=D at *;generalize (E:Rat)=E at *;generalize (O:Rat)=O at *;have hTc:=λ q=>Uu N q S.c O k 4000 hS.bc bO (by omega) (by omega) (by omega)
  have hTb:=λ q=>Uu N q S.b E k 4000 hS.bb bE (by omega) (by omega) (by omega)
  have Kb : ∀ j,(JL S.a S.b D E j).length=n:=λ j=>by rw[JL,List.length_map,Adb Qd Qe]
  have hW:=Aj3 N false (HP D S.a) D (D^(2^i+2^i-1)) (JL S.a S.b D E) n (2^i) 17000 16000 3000000 (AgG _ Gv) Pl bD ot Kb (Adc S.a S.b D E) hn ⟨g3,g1⟩ (by omega) (by omega) (by omega);rw[Add]at hW;have bt:Bt 200000000 (LV D (λ m=>H9 (JL S.a S.b D E (2^i+m))) (2^i)):=(uH bD _ λ j hj=>oD (ot (2^i+j) (by omega))).le (by
   have:=zR (16000+3000000+1) g1
   omega)
  have hG:=λ q=>AjZ N false q (HP D S.a) D (LV D (λ m=>H9 (JL S.a S.b D E (2^i+m))) (2^i)) (D^(2^i+2^i-1)) ((2^i:Nat):Int) (S.c.map (· * O)) (JL S.a S.b D E) n (2^i+2^i) 16000 5000 3000000 200000000 bD wx (by rw[List.length_map];exact su) ot Kb bt hn (by omega) (by omega) (by omega) (by omega) (by omega)
  have Lw:Bt 3000000000 (LV D (λ j=>G1 (GG (S.c.map (· * O)) (JL S.a S.b D E j))) (2^i+2^i)+FY (S.c.map (· * O))*LV D (λ m=>H9 (JL S.a S.b D E (2^i+m))) (2^i)):=by
   have q1 : ∀ j,j<2^i+2^i->Bt (4*(5000+3000000+1)) (G1 (GG (S.c.map (· * O)) (JL S.a S.b D E j))):=λ j hj=>RR ((wx.dot (ot j (by omega))).le (zR _ (by rw[List.length_map];omega)))
   have q2:=(uH bD (2^i+2^i) q1).le (zR _ (show 2^i+2^i<=128 by omega));have q3:Bt (4*(5000+1)) (FY (S.c.map (· * O))):=(oQ wx).le (zR _ (by rw[List.length_map];omega));exact (q2.add (q3.mul bt)).le (by omega)
  have blast:Bt 2100000 (D^(2^i+2^i-1)):=(Acw bD _).le (by
   have:=zR 16000 (show 2^i+2^i-1<=127 by omega)
   omega)
  have nx:=XT N.toa7 bE bO (by omega) (by omega);have sf:=XT N.toa7 blast (bE.mul bO) (by omega) (by omega);have u5:D^(2^i+2^i-1)*(E*O)≠0:=by
   have Od : ∀ j:Nat,0<D^j:=λ j=>by
    induction j with
    | zero=>rw[Rat.pow_zero];decide
    | succ j ih=>rw[Rat.pow_succ];exact Rat.mul_pos ih pD
   have:=Rat.mul_pos (Od (2^i+2^i-1)) (Rat.mul_pos pE pO)
   grind
  have hDv:=AbU N.toa7 Lw (blast.mul (bE.mul bO)) (by omega) (by omega) u5;have hAb:=Uh N.tofp hS.bd (by omega);have hAd:=YT N.toa7 (RR hS.bd) (Lw.zj (blast.mul (bE.mul bO))) (by omega) (by omega);rw[<-Lm]at hAd;have Xz : ¬ YD (.agg (rL ((List.range (2^i+2^i)).map (JL S.a S.b D E)) (LV D (λ m=>H9 (JL S.a S.b D E (2^i+m))) (2^i)))):=AmC (by
   intro e;have:=congrArg List.length e
   simp at this)
  have Nm:=AlJ ((List.range (2^i+2^i)).map (JL S.a S.b D E)) (LV D (λ m=>H9 (JL S.a S.b D E (2^i+m))) (2^i));have da : ∀ r:AV,r = .j5 [.agg (eQ (M4 S (2^i))),.int .i64 0]->((∃ i,i<=6/\OQ n S.a i/\r = .j5 [.agg (eQ (M4 S (2^i))),.int .i64 0])\/((∀ j,j<=6->KR (HW n S.a j)=false)/\r = .j5 [.agg [.bool false,.sl false [],.sl false []],.int .i64 14])):=λ r hr=>Or.inl ⟨i,h1,h2,hr⟩
  clear Lm Lw blast bt u5 ot wx Pl pD pE pO;generalize M4 S (2^i)=W at *;generalize LV D (λ j=>G1 (GG (S.c.map (· * O)) (JL S.a S.b D E j))) (2^i+2^i)+FY (S.c.map (· * O))*LV D (λ m=>H9 (JL S.a S.b D E (2^i+m))) (2^i)=U at *;generalize LV D (λ m=>H9 (JL S.a S.b D E (2^i+m))) (2^i)=T at *;generalize (List.range (2^i+2^i)).map (JL S.a S.b D E)=Z at *;generalize D^(2^i+2^i-1)=P at *;generalize 2^i=p at *;(repeat' ((first|(apply B6<;>intro hc<;>try omega)|apply C9|refine N9 rfl ?_|apply BL|refine BF (Zb) ?_|refine BF (Mj) ?_|refine BF (Ph) ?_|refine BF (Bz) ?_|refine BF (hTc _) ?_|refine BF (hTb _) ?_|refine BF (hW) ?_)<;>conv=>whnf))
  refine AhE Xz trivial ?_;rw[Nm];(conv=>whnf)
  (repeat' ((first|refine BF (hG _) ?_|refine BF (nx) ?_|refine BF (sf) ?_|refine BF (hDv) ?_|refine BF (hAb) ?_|refine BF (hAd) ?_)<;>conv=>whnf))
  exact ⟨_,DH rfl (tN _ 0),da _ rfl⟩
 ·(repeat' ((first|(apply B6<;>intro hc<;>try omega)|apply C9|apply BL|refine BF (Zb) ?_|refine BF (Mj) ?_)<;>conv=>whnf))
  exact ⟨_,DH rfl (by simp [EA,GK,L3]),Or.inr ⟨h1,rfl⟩⟩
theorem Asz (x:Rat):eQ (G1 x)=[.bool false,.sl false ((dg x.num.natAbs).map C3),.sl false ((dg x.den).map C3)]:=by
 unfold G1;by_cases h:x.num<0
 ·rw[if_pos h]
  show rQ false false (decide ((-x).num<0)) _ _=_;rw[Rat.neg_num,Int.natAbs_neg,Rat.neg_den,show decide (-x.num<0)=false from decide_eq_false (by omega)]
 ·rw[if_neg h]
  show rQ false false (decide (x.num<0)) _ _=_;rw[show decide (x.num<0)=false from decide_eq_false h]
theorem AbX (N:fh L) {x:Rat} {k:Nat} (hx:Bt k x) (hk:k<2199023255552):Ev L 309 [.agg (eQ x)] (.agg (eQ (G1 x))):=by
 have hT:=Akq N.toa8 hx hk;have hs:=hx.tn hk;have hR:=λ q=>PV N.toa8 (dg x.num.natAbs) q (K0 _) (by have:=hs.1.2;omega)
 rw[GO]at hR;have hA : ∀ b q,Ev L 308 [.agg [.bool b,.sl q ((dg x.num.natAbs).map C3)]] (.agg [.bool false,.sl false ((dg x.num.natAbs).map C3)]):=λ b q=>by
  refine Ev.x N.jZ rfl rfl ?_;(repeat' ((first|apply BL|refine BF (hR _) ?_)<;>conv=>whnf))
  exact DH rfl (Aiv _ _)
 have ag:=JB (G1 x);rw[Asz]at ag ⊢;refine Ev.x N.kR rfl rfl ?_;(repeat' ((first|apply BL|refine BF (hT) ?_|refine BF (hA _ _) ?_)<;>conv=>whnf))
 exact DH rfl ag
theorem AtM (N:fh L) (q q':Bool) (a:List (List Rat)) (n:Nat) (hs:Sq n a) (hn:n<=16):Ev L 310 [.sl q (S1 q' a)] (.bool true):=by
 have oy:=hs.l;refine Ev.x N.mF rfl rfl ?_;(repeat' (apply BL<;>conv=>whnf))
 refine K7 (λ i=>a.length-i) (λ(i:Nat)=>i<=a.length) (λ i=>[(3,.int .i64 i)]) (λ_=>[]) 0 (by omega) ?_;intro i p1 ih;by_cases hi:i<a.length
 ·obtain ⟨r,hr⟩ : ∃ r,a[i]? = some r:=⟨_,zE hi⟩
  have Ch:a[(i:Int).toNat]? = some r:=hr;have ng:=hs.at hr;(repeat' ((first|(apply B6<;>intro hc<;>try omega)|(apply DD;omega)|apply C9|(refine E4 (by assumption) ?_ rfl ?_;omega)|apply BL)<;>conv=>whnf))
  exact FV [] (ih (i+1) (by omega) (by omega))
 obtain rfl:i=a.length:=by omega
 clear ih;(repeat' ((first|(apply B6<;>intro hc<;>try omega)|apply C9|apply BL)<;>conv=>whnf))
 exact M9 rfl
theorem Akg (N:fh L) (q:Bool) (v:List Rat) (k:Nat) (hv:Bs k v) (hn:v.length<=1000) (hk:k<=1000000000):Ev L 311 [.sl q (v.map eQ)] (.agg (eQ (FY v))):=by
 have hO:=YU N.toa8 0 (by omega);rw[show ((0:Int):Rat)=0 from rfl]at hO;refine Ev.x N.mC rfl rfl ?_;(repeat' ((first|apply BL|refine BF (hO) ?_)<;>conv=>whnf))
 refine K4 (λ i=>v.length-i) (λ(i:Nat)=>i<=v.length) (λ i=>[(4,.int .i64 i)]) (λ i=>[(3,3,.bx (eQ (FY (v.take i))))]) [] [] 0 (by rw[show FY (v.take 0)=0 from rfl];exact (by (conv=>whnf);exact ⟨rfl,rfl,rfl⟩)) (by omega) ?_;intro i p1 ih;by_cases hi:i<v.length
 ·obtain ⟨x,hx⟩ : ∃ x,v[i]? = some x:=⟨_,zE hi⟩
  have yv:v[(i:Int).toNat]? = some x:=hx;have hA:=AbX N (hv.at hx) (by omega);have hz:Bt (1000*(k+1)) (FY (v.take i)):=(oQ (hv.take i)).le (zR _ (by rw[List.length_take];omega));have hP:=oA N.toa8 hz (RR (hv.at hx)) (by omega) (by omega);rw[<-Ank hx]at hP;generalize FY (v.take i)=w at *;generalize G1 x=y at *;(repeat' ((first|(apply B6<;>intro hc<;>try omega)|(apply DD;omega)|apply C9|(refine E4 (by assumption) ?_ rfl ?_;omega)|apply BL|refine BF (hA) ?_|refine BF (hP) ?_)<;>conv=>whnf))
  exact FV [] (ih (i+1) (by omega) (by omega))
 obtain rfl:i=v.length:=by omega
 clear ih;rw[zT (Nat.le_refl _)];(repeat' ((first|(apply B6<;>intro hc<;>try omega)|apply C9|apply BL)<;>conv=>whnf))
 exact DH rfl (JB _)
theorem AtH (N:fh L) (q:Bool) (v:List Rat) (k:Nat) (hv:Bs k v) (hn:v.length<=1000000) (hk:k<=1000000000000):Ev L 312 [.sl q (v.map eQ)] (.agg (eQ (H9 v))):=by
 have hO:=YU N.toa8 0 (by omega);rw[show ((0:Int):Rat)=0 from rfl]at hO;refine Ev.x N.lZ rfl rfl ?_;(repeat' ((first|apply BL|refine BF (hO) ?_)<;>conv=>whnf))
 refine K4 (λ i=>v.length-i) (λ(i:Nat)=>i<=v.length) (λ i=>[(4,.int .i64 i)]) (λ i=>[(3,3,.bx (eQ (H9 (v.take i))))]) [] [] 0 (by rw[show H9 (v.take 0)=0 from rfl];exact (by (conv=>whnf);exact ⟨rfl,rfl,rfl⟩)) (by omega) ?_;intro i p1 ih;by_cases hi:i<v.length
 ·obtain ⟨x,hx⟩ : ∃ x,v[i]? = some x:=⟨_,zE hi⟩
  have yv:v[(i:Int).toNat]? = some x:=hx;have hA:=AbX N (hv.at hx) (by omega);have hC:=rO N.toa8 (RR (hv.at hx)) (oD (hv.take i)) (by omega) (by omega);have hg:=mO (x:=G1 x) (y:=H9 (v.take i));have hs:H9 (v.take (i+1))=if H9 (v.take i)<G1 x then G1 x else H9 (v.take i):=Ak3 hx
  by_cases h:H9 (v.take i)<G1 x
  ·rw[if_pos h]at hs
   have h1:=hg.2 h;rw[<-hs]at hA hC h1;generalize w3 (H9 (v.take (i+1))-H9 (v.take i)).num=g at *;(repeat' ((first|(apply B6<;>intro hc<;>try omega)|(apply DD;omega)|apply C9|(refine E4 (by assumption) ?_ rfl ?_;omega)|apply BL|refine BF (hA) ?_|refine BF (hC) ?_)<;>conv=>whnf))
   exact FV [] (ih (i+1) (by omega) (by omega))
  ·rw[if_neg h]at hs
   have h1 : ¬ 0<w3 (G1 x-H9 (v.take i)).num:=λ e=>h (hg.1 e)
   rw[<-hs]at hC h1 ⊢;clear hg h hs;generalize w3 (G1 x-H9 (v.take (i+1))).num=g at *;generalize G1 x=y at *;(repeat' ((first|(apply B6<;>intro hc<;>try omega)|(apply DD;omega)|apply C9|(refine E4 (by assumption) ?_ rfl ?_;omega)|apply BL|refine BF (hA) ?_|refine BF (hC) ?_)<;>conv=>whnf))
   exact FV [] (ih (i+1) (by omega) (by omega))
 obtain rfl:i=v.length:=by omega
 clear ih;rw[zT (Nat.le_refl _)];(repeat' ((first|(apply B6<;>intro hc<;>try omega)|apply C9|apply BL)<;>conv=>whnf))
 exact DH rfl (JB _)
theorem AtN (N:fh L) (q q':Bool) (a:List (List Rat)) (n kk:Nat) (hs:Sq n a) (ha:Ms kk a) (hn:n<=4) (hk:kk<=1000000000):Ev L 313 [.sl q (S1 q' a)] (.sl false (eM (QD a a n))):=by
 have oy:=hs.l;have Xc:Sq n (QD a a n):=Sq.mul hs.l a;have hQa : ∀ (i:Nat) (r:List Rat),a[i]? = some r->(QD a a n)[i]? = some (NU r a n):=λ i r hr=>by rw[QD,List.getElem?_map,hr];rfl
 have hRa : ∀ (j:Nat) (r:List Rat),j<n->(NU r a n)[j]? = some (GG r (JX a j)):=λ j r hj=>by rw[NU,List.getElem?_map,List.getElem?_range hj];rfl
 have Mf:=Xc.l;have hQr:=Xc.r;have hO:=YU N.toa8 0 (by omega);rw[show ((0:Int):Rat)=0 from rfl]at hO;generalize QD a a n=Q at *;refine Ev.x N.mI rfl rfl ?_;(repeat' ((first|apply C9|apply BL)<;>conv=>whnf))
 unfold J9;refine ⟨⟨by omega,by omega,by simp only[NR];omega,by omega⟩,?_⟩;rw[Int.toNat_natCast,oy];(conv=>whnf)
 skip
 refine K4 (λ i=>n-i) (λ(i:Nat)=>i<=n) (λ i=>[(4,.int .i64 i)]) (λ i=>[(10,10,.mx (mz Q n i))]) [] [] 0 (by first|exact (by (conv=>whnf);exact ⟨rfl,rfl,rfl⟩)|(rw[<-AfO Q];exact (by (conv=>whnf);exact ⟨rfl,rfl,rfl⟩))) (by omega) ?_;intro i p1 ih;have Kb:=AfL (Q:=Q) p1;by_cases hi:i<n
 ·obtain ⟨rr,hr⟩ : ∃ r,a[i]? = some r:=⟨_,zE (by omega)⟩
  have Ch:a[(i:Int).toNat]? = some rr:=hr;have ng:=hs.at hr;have yp:=ha.at hr;have hq:=hQa i rr hr;have o4:=AfN hq hi;have Fm:(mz Q n i)[i]? = some none:=AvS Mf hi;have hql:(NU rr a n).length=n:=hQr _ (zM hq);have Bi:(NU rr a n).take 1=[GG rr (JX a 0)]:=by
   rw[ZR (hRa 0 rr (by omega))];rfl
  have hqj : ∀ j,j<n->(NU rr a n).take (j+1)=(NU rr a n).take j++[GG rr (JX a j)]:=λ j hj=>ZR (hRa j rr hj)
  generalize mz Q n i=R0 at *;generalize NU rr a n=qr at *;(repeat' ((first|(apply B6<;>intro hc<;>try omega)|apply C9|apply BL)<;>conv=>whnf))
  refine NJ ?_;(repeat' ((first|(apply B6<;>intro hc<;>try omega)|apply C9|apply BL|refine BF (hO) ?_)<;>conv=>whnf))
  refine K4 (λ k=>n-k) (λ(k:Nat)=>k<=n) (λ k=>[(7,.int .i64 k)]) (λ k=>[(6,6,.bx (eQ (GG (rr.take k) ((JX a 0).take k))))]) [] [] 0 (by rw[show GG (rr.take 0) ((JX a 0).take 0)=0 from rfl];exact (by (conv=>whnf);exact ⟨rfl,rfl,rfl⟩)) (by omega) ?_;intro k t1 kh;by_cases vh:k<n
  ·obtain ⟨x,hx⟩ : ∃ x,rr[k]? = some x:=⟨_,zE (by omega)⟩
   obtain ⟨s,om⟩ : ∃ s,a[k]? = some s:=⟨_,zE (by omega)⟩;have hsl:=hs.at om;obtain ⟨y,hy⟩ : ∃ y,s[0]? = some y:=⟨_,zE (by omega)⟩;have yv:rr[(k:Int).toNat]? = some x:=hx;have Dt:a[(k:Int).toNat]? = some s:=om;have Lq:s[((0:Nat):Int).toNat]? = some y:=hy;have Mv:=AiN om hy;have hM:=tX N.toa8 (yp.at hx) ((ha.at om).at hy) (by omega) (by omega);have hd:Bt (4*(kk+kk+1)) (GG (rr.take k) ((JX a 0).take k)):=((yp.take k).dot ((Ms.col ha 0).take k)).le (zR _ (by rw[List.length_take];omega));have hA:=oA N.toa8 hd ((yp.at hx).mul ((ha.at om).at hy)) (by omega) (by omega);rw[<-Tx hx Mv]at hA;generalize GG (rr.take k) ((JX a 0).take k)=w at *;generalize x*y=p at *;(repeat' ((first|(apply B6<;>intro hc<;>try omega)|(apply DD;omega)|apply C9|(refine E4 (by assumption) ?_ rfl ?_;omega)|apply BL|refine BF (hM) ?_|refine BF (hA) ?_)<;>conv=>whnf))
   exact FV [] (kh (k+1) (by omega) (by omega))
  have ek:k=n:=by omega
  clear kh;rw[ek,AbR ng];generalize GG rr (JX a 0)=y0 at *;(repeat' ((first|(apply B6<;>intro hc<;>try omega)|(apply EL;omega)|apply C9|apply BL)<;>conv=>whnf))
  refine Abi (r:=none) (by rw[Nat.zero_add,Int.toNat_natCast];exact Fm) ?_;(conv=>whnf)
  (repeat' (apply KY<;>conv=>whnf))
  refine qX (enc:=eQ) y0 rfl rfl (by omega) ?_;(conv=>whnf)
  (repeat' ((first|(apply EL;omega)|fail)<;>conv=>whnf))
  refine EL rfl ?_;refine zN (i:=i) (by omega) (by omega) ?_;(conv=>whnf)
  (repeat' ((first|(apply DD;omega)|fail)<;>conv=>whnf))
  refine K4 (λ j=>n-j) (λ(j:Nat)=>1<=j/\j<=n) (λ j=>[(5,.int .i64 j)]) (λ j=>[(10,10,.mx (R0.set i (some (3,(qr.take j).map eQ))))]) [] [] 1 (by first|exact (by (conv=>whnf);exact ⟨rfl,rfl,rfl⟩)|(rw[Bi];exact (by (conv=>whnf);exact ⟨rfl,rfl,rfl⟩))) (by omega) ?_;intro j ⟨r1,r2⟩ jh;have htj:(qr.take j).length=j:=by rw[List.length_take];omega
  by_cases hj:j<n
  ·have Jg:=hqj j hj
   have Ou:(qr.take (j+1)).length=j+1:=by rw[List.length_take];omega
   generalize qr.take j=W at *;(repeat' ((first|(apply B6<;>intro hc<;>try omega)|apply C9|apply BL|refine BF (hO) ?_)<;>conv=>whnf))
   refine K4 (λ k=>n-k) (λ(k:Nat)=>k<=n) (λ k=>[(7,.int .i64 k)]) (λ k=>[(6+1000000,6,.bx (eQ (GG (rr.take k) ((JX a j).take k))))]) [] [] 0 (by rw[show GG (rr.take 0) ((JX a j).take 0)=0 from rfl];exact (by (conv=>whnf);exact ⟨rfl,rfl,rfl⟩)) (by omega) ?_;intro k t1 kh;by_cases vh:k<n
   ·obtain ⟨x,hx⟩ : ∃ x,rr[k]? = some x:=⟨_,zE (by omega)⟩
    obtain ⟨s,om⟩ : ∃ s,a[k]? = some s:=⟨_,zE (by omega)⟩;have hsl:=hs.at om;obtain ⟨y,hy⟩ : ∃ y,s[j]? = some y:=⟨_,zE (by omega)⟩;have yv:rr[(k:Int).toNat]? = some x:=hx;have Dt:a[(k:Int).toNat]? = some s:=om;have Lq:s[((j:Nat):Int).toNat]? = some y:=hy;have Mv:=AiN om hy;have hM:=tX N.toa8 (yp.at hx) ((ha.at om).at hy) (by omega) (by omega);have hd:Bt (4*(kk+kk+1)) (GG (rr.take k) ((JX a j).take k)):=((yp.take k).dot ((Ms.col ha j).take k)).le (zR _ (by rw[List.length_take];omega));have hA:=oA N.toa8 hd ((yp.at hx).mul ((ha.at om).at hy)) (by omega) (by omega);rw[<-Tx hx Mv]at hA;generalize GG (rr.take k) ((JX a j).take k)=w at *;generalize x*y=p at *;(repeat' ((first|(apply B6<;>intro hc<;>try omega)|(apply DD;omega)|apply C9|(refine E4 (by assumption) ?_ rfl ?_;omega)|apply BL|refine BF (hM) ?_|refine BF (hA) ?_)<;>conv=>whnf))
    exact FV [] (kh (k+1) (by omega) (by omega))
   have ek:k=n:=by omega
   clear kh;rw[ek,AbR ng];generalize GG rr (JX a j)=y0 at *;(repeat' ((first|(apply B6<;>intro hc<;>try omega)|(apply EL;omega)|apply C9|apply BL)<;>conv=>whnf))
   refine AhN (by omega) (by omega) ?_;(conv=>whnf)
   (repeat' (apply KY<;>conv=>whnf))
   refine AhM (by omega) (by omega) ?_;(conv=>whnf)
   refine NL (enc:=eQ) y0 rfl (by rw[List.length_map]) rfl (by omega) (by omega) ?_;intro s' v;rw[<-Jg,Ou];(conv=>whnf)
   (repeat' ((first|(apply EL;omega)|fail)<;>conv=>whnf))
   refine EL ⟨rfl,by rw[List.length_map];omega⟩ ?_;refine zN (i:=i) (by omega) (by rw[List.length_set,List.length_set];omega) ?_;rw[show 0+((i:Int)).toNat=i by omega,List.set_set,List.set_set];(conv=>whnf)
   (repeat' ((first|(apply DD;omega)|fail)<;>conv=>whnf))
   exact FV [] (jh (j+1) (by omega) (by omega))
  have ej:j=n:=by omega
  clear jh;rw[ej,zT (by omega),o4];(repeat' ((first|(apply B6<;>intro hc<;>try omega)|(apply DD;omega)|apply C9|apply BL)<;>conv=>whnf))
  exact FV [] (ih (i+1) (by omega) (by omega))
 have ei:i=n:=by omega
 clear ih;rw[ei,AfK (by omega)];(repeat' ((first|(apply B6<;>intro hc<;>try omega)|apply C9|apply BL)<;>conv=>whnf))
 refine pN (λ_=>rfl) rfl (by omega) ?_;(conv=>whnf)
 exact DH rfl (Aix Q)
theorem Axi {n k:Nat} {a:List (List Rat)} (hs:Sq n a) (ha:Ms k a) (hn:n<=4) (hk:k<=100000) (i:Nat) (hi:i<=7):Ms 300000000 (HW n a i):=by
 obtain ⟨D,_,d1,d2,d3⟩:=Tk hs ha;have Fk:n*n<=4*4:=Nat.mul_le_mul hn hn;have Nu:n*n*k<=16*k:=zR k Fk;have hw:=AcY hs hn d3 i;have hwk:=AoD (k:=k) i hi;have h2:2^i<=2^7:=Nat.pow_le_pow_right (by omega) hi;have hdd:D^2^i<=2^(2^i*(16*k)):=by
  have h3:D<=2^(16*k):=Nat.le_trans d2 (Nat.pow_le_pow_right (by omega) Nu);have:=Nat.pow_le_pow_left h3 (2^i)
  rwa [<-Nat.pow_mul,Nat.mul_comm]at this
 have h4:2^i*(16*k)<=300000000:=Nat.le_trans (zR (16*k) h2) (by omega);have h5:M7 k i<=300000000:=by omega
 intro r hr x hx;generalize 300000000=K at *;refine Aim (S:=D^2^i) (Nat.pow_pos d1) (Nat.le_trans hdd (Nat.pow_le_pow_right (by omega) h4)) ?_;have:=hw (r.map (· * KD (D:Rat) i)) (List.mem_map.2 ⟨r,hr,rfl⟩) _ (List.mem_map.2 ⟨x,hx,rfl⟩)
 rw[Ai4]at this;exact this.le h5
theorem Akf (N:fh L) (q q':Bool) (a:List (List Rat)) (n k:Nat) (hs:Sq n a) (ha:Ms k a) (hn:n<=4) (hk:k<=100000) :
  ∃ v,Ev L 314 [.sl q (S1 q' a)] v/\((∃ i,i<=6/\OQ n a i/\v = .j5 [.int .i64 ((2^i:Nat):Int),.int .i64 0])\/((∀ j,j<=6->KR (HW n a j)=false)/\v = .j5 [.int .i64 0,.int .i64 14])):=by
 have oy:=hs.l;have hq:=AtM N q q' a n hs (by omega);have hF:=AbW N.toa8 1 2 (by omega) (by omega);have hb : ∀ i,i<=7->Ms 300000000 (HW n a i):=λ i hi=>Axi hs ha hn hk i hi
 have hZ:=λ(i:Nat) (q q':Bool) (hi:i<=6)=>AtN N q q' (HW n a i) n 300000000 (vE hs i) (hb i (by omega)) hn (by omega)
 have hh:Bt 2 (Rat.divInt 1 2):=Bt.mk (k:=2) (z:=1) (d:=2) (by decide) (by decide);have Ig:Rat.divInt 1 2=1/2:=by decide +kernel
 have hC : ∀ i r,i<=6->r∈HW n a i->Ev L 127 [.agg (eQ (FY r)),.agg (eQ (Rat.divInt 1 2))] (.int .i64 (w3 (FY r-1/2).num)):=λ i r hi hr=>by
  have hz:Bt (4*(300000000+1)) (FY r):=(oQ (hb i (by omega) r hr)).le (zR _ (by rw[(vE hs i).r r hr];exact hn));have:=rO N.toa8 hz hh (by omega) (by omega)
  rwa [Ig]at this ⊢
 refine Ev.xE N.mA rfl rfl ?_;(repeat' ((first|apply BL|refine BF (hq) ?_)<;>conv=>whnf))
 refine MR (λ i _=>7-i) (λ(i:Nat) (fl:Bool)=>i<=7/\(fl=true->i=0) /\ ∀ j,j<i->KR (HW n a j)=false) (λ i fl=>[(4,.int .i64 ((2^i:Nat):Int)),(0,bif fl then .sl q (S1 q' a) else .sl false (eM (HW n a i)))]) (λ_ _=>[]) 0 true ⟨by omega,λ_=>rfl,λ j hj=>absurd hj (by omega)⟩ ?_;intro i fl ⟨p1,p2,p3⟩ ih;by_cases h7:i=7
 ·have e7:((2^i:Nat):Int)=128:=by rw[h7];rfl
  rw[e7];have zr : ∀ j,j<=6->KR (HW n a j)=false:=λ j hj=>p3 j (by omega)
  (repeat' ((first|(apply B6<;>intro hc<;>try omega)|apply BL)<;>conv=>whnf))
  exact ⟨_,DH rfl (by simp [EA,GK]),Or.inr ⟨zr,rfl⟩⟩
 obtain ⟨g1,g2,g3⟩:=cT (i:=i) (by omega);have Dg:((2^(i+1):Nat):Int)=2*((2^i:Nat):Int):=by rw[Nat.pow_succ];omega
 have hsl:=(vE hs i).l;have Eu:KR (HW n a i)=true->OQ n a i:=λ h=>⟨h,p3⟩
 have oo:KR (HW n a i)=false -> ∀ j,j<i+1->KR (HW n a j)=false:=λ h j hj=>by
  by_cases e:j=i
  ·rw[e];exact h
  ·exact p3 j (by omega)
 have hCi:=λ r=>hC i r (by omega)
 have hZi:=λ q q'=>hZ i q q' (by omega)
 have Xh:=λ q r (hr:r∈HW n a i)=>Akg N q r 300000000 (hb i (by omega) r hr) (by rw[(vE hs i).r r hr];omega) (by omega)
 have da : ∀ r:AV,OQ n a i->r = .j5 [.int .i64 ((2^i:Nat):Int),.int .i64 0]->((∃ i,i<=6/\OQ n a i/\r = .j5 [.int .i64 ((2^i:Nat):Int),.int .i64 0])\/((∀ j,j<=6->KR (HW n a j)=false)/\r = .j5 [.int .i64 0,.int .i64 14])):=λ r h hr=>Or.inl ⟨i,by omega,h,hr⟩
 have yo : ∀ (m:Nat) (r:List Rat),(HW n a i)[m]? = some r->KR ((HW n a i).take (m+1))=(KR ((HW n a i).take m)&&decide (FY r<=1/2)):=λ m r hr=>by
  rw[ZR hr,KR,KR,List.all_append];simp
 cases fl
 ·skip
  generalize 2^i=P at *;(repeat' ((first|(apply B6<;>intro hc<;>try omega)|apply BL)<;>conv=>whnf))
  refine MR (λ m _=>n-m) (λ(m:Nat) (b:Bool)=>m<=n/\b=KR ((HW n a i).take m)) (λ m b=>[(6,.int .i64 m),(5,.bool b)]) (λ_ _=>[]) 0 true ⟨by omega,rfl⟩ ?_;intro m b ⟨r1,r2⟩ mh;by_cases hm:m<n
  ·obtain ⟨r,hr⟩ : ∃ r,(HW n a i)[m]? = some r:=⟨_,zE (by omega)⟩
   have Ch:(HW n a i)[(m:Int).toNat]? = some r:=hr;have uj:=zM hr;have ht:=yo m r hr;rw[<-r2]at ht;cases b
   ·(repeat' ((first|(apply B6<;>intro hc<;>try omega)|(apply DD;omega)|apply C9|apply BL)<;>conv=>whnf))
    exact FV [] (mh (m+1) false (by omega) ⟨by omega,by rw[ht];rfl⟩)
   ·have Gu:=λ q=>Xh q r uj
    have wh:=hCi r uj;have hg:=mO (x:=FY r) (y:=1/2);by_cases h:FY r<=1/2
    ·have h1 : ¬ 0<w3 (FY r-1/2).num:=λ e=>by have:=hg.1 e;grind
     rw[decide_eq_true h]at ht;clear hg;generalize w3 (FY r-1/2).num=g at *;(repeat' ((first|(apply B6<;>intro hc<;>try omega)|(apply DD;omega)|apply C9|(refine E4 (by assumption) ?_ rfl ?_;omega)|apply BL|refine BF (Gu _) ?_|refine BF (hF) ?_|refine BF (wh) ?_)<;>conv=>whnf))
     exact FV [] (mh (m+1) true (by omega) ⟨by omega,by rw[ht];rfl⟩)
    ·have h1:0<w3 (FY r-1/2).num:=hg.2 (by grind)
     rw[decide_eq_false h]at ht;clear hg;generalize w3 (FY r-1/2).num=g at *;(repeat' ((first|(apply B6<;>intro hc<;>try omega)|(apply DD;omega)|apply C9|(refine E4 (by assumption) ?_ rfl ?_;omega)|apply BL|refine BF (Gu _) ?_|refine BF (hF) ?_|refine BF (wh) ?_)<;>conv=>whnf))
     exact FV [] (mh (m+1) false (by omega) ⟨by omega,by rw[ht];rfl⟩)
  have em:m=n:=by omega
  clear mh;rw[em,zT (by omega)]at r2;cases b
  ·(repeat' ((first|(apply B6<;>intro hc<;>try omega)|(apply NA;omega)|apply C9|apply BL|refine BF (hZi _ _) ?_)<;>conv=>whnf))
   rw[<-Dg];exact FV [] (ih (i+1) false (by omega) ⟨by omega,(λ h=>by cases h),oo r2.symm⟩)
  ·(repeat' ((first|(apply B6<;>intro hc<;>try omega)|apply C9|apply BL)<;>conv=>whnf))
   exact ⟨_,DH rfl (by simp [EA,GK]),da _ (Eu r2.symm) rfl⟩
 ·obtain rfl:=p2 rfl
  have e0:HW n a 0=a:=rfl;rw[e0]at Eu oo hCi hZi Xh yo hsl;generalize 2^0=P at *;(repeat' ((first|(apply B6<;>intro hc<;>try omega)|apply BL)<;>conv=>whnf))
  refine MR (λ m _=>n-m) (λ(m:Nat) (b:Bool)=>m<=n/\b=KR (a.take m)) (λ m b=>[(6,.int .i64 m),(5,.bool b)]) (λ_ _=>[]) 0 true ⟨by omega,rfl⟩ ?_;intro m b ⟨r1,r2⟩ mh;by_cases hm:m<n
  ·obtain ⟨r,hr⟩ : ∃ r,a[m]? = some r:=⟨_,zE (by omega)⟩
   have Ch:a[(m:Int).toNat]? = some r:=hr;have uj:=zM hr;have ht:=yo m r hr;rw[<-r2]at ht;cases b
   ·(repeat' ((first|(apply B6<;>intro hc<;>try omega)|(apply DD;omega)|apply C9|apply BL)<;>conv=>whnf))
    exact FV [] (mh (m+1) false (by omega) ⟨by omega,by rw[ht];rfl⟩)
   ·have Gu:=λ q=>Xh q r uj
    have wh:=hCi r uj;have hg:=mO (x:=FY r) (y:=1/2);by_cases h:FY r<=1/2
    ·have h1 : ¬ 0<w3 (FY r-1/2).num:=λ e=>by have:=hg.1 e;grind
     rw[decide_eq_true h]at ht;clear hg;generalize w3 (FY r-1/2).num=g at *;(repeat' ((first|(apply B6<;>intro hc<;>try omega)|(apply DD;omega)|apply C9|(refine E4 (by assumption) ?_ rfl ?_;omega)|apply BL|refine BF (Gu _) ?_|refine BF (hF) ?_|refine BF (wh) ?_)<;>conv=>whnf))
     exact FV [] (mh (m+1) true (by omega) ⟨by omega,by rw[ht];rfl⟩)
    ·have h1:0<w3 (FY r-1/2).num:=hg.2 (by grind)
     rw[decide_eq_false h]at ht;clear hg;generalize w3 (FY r-1/2).num=g at *;(repeat' ((first|(apply B6<;>intro hc<;>try omega)|(apply DD;omega)|apply C9|(refine E4 (by assumption) ?_ rfl ?_;omega)|apply BL|refine BF (Gu _) ?_|refine BF (hF) ?_|refine BF (wh) ?_)<;>conv=>whnf))
     exact FV [] (mh (m+1) false (by omega) ⟨by omega,by rw[ht];rfl⟩)
  have em:m=n:=by omega
  clear mh;rw[em,zT (by omega)]at r2;cases b
  ·(repeat' ((first|(apply B6<;>intro hc<;>try omega)|(apply NA;omega)|apply C9|apply BL|refine BF (hZi _ _) ?_)<;>conv=>whnf))
   rw[<-Dg];exact FV [] (ih (0+1) false (by omega) ⟨by omega,(λ h=>by cases h),oo r2.symm⟩)
  ·(repeat' ((first|(apply B6<;>intro hc<;>try omega)|apply C9|apply BL)<;>conv=>whnf))
   exact ⟨_,DH rfl (by simp [EA,GK]),da _ (Eu r2.symm) rfl⟩
theorem Rb {k:Nat} {f:Nat->Rat} : ∀ m,(∀ j,j<m->Bt k (f j))->Bt (m*(k+1)) (PP f m)
 | 0,_=>Bt.zero _
 | m+1,h=>by
  have h1:=Rb m λ j hj=>h j (by omega)
  refine (h1.add (h m (by omega))).le ?_;rw[Nat.succ_mul];omega
def aF (S:NN) (p k:Nat):Rat:=G1 S.d+(PP (YV S.a S.b S.c) k+FY S.c*PP (λ j=>cK S.a S.b (p+j)) (k-p))
theorem Axx {S:NN} {p k:Nat} (h:k<p):aF S p k+YV S.a S.b S.c k=aF S p (k+1):=by
 rw[aF,aF,show k+1-p=0 by omega,show k-p=0 by omega];simp only[PP];grind
theorem Axw {S:NN} {p k:Nat} (h:p<=k):aF S p k+YV S.a S.b S.c k+FY S.c*H9 (O5 S.a S.b k)=aF S p (k+1):=by
 rw[aF,aF,show k+1-p=(k-p)+1 by omega];have e:cK S.a S.b (p+(k-p))=H9 (O5 S.a S.b k):=by rw[show p+(k-p)=k by omega];rfl
 simp only[PP,e];grind
theorem Axv (S:NN) (p:Nat):aF S p (p+p)=M4 S p:=by rw[aF,M4,show p+p-p=p by omega]
theorem Akh (N:fh L) (S:NN) (n k:Nat) (hS:S.Ok n k) (hn:n<=4) (hk:k<=40000) :
  ∃ v,Ev L 315 [.agg (eS S)] v/\((∃ i,i<=6/\OQ n S.a i/\v = .j5 [.agg (eQ (M4 S (2^i))),.int .i64 0])\/((∀ j,j<=6->KR (HW n S.a j)=false)/\v = .j5 [.agg [.bool false,.sl false [],.sl false []],.int .i64 14])):=by
 have Zb:=As2 N.todn S n k hS (by omega);have Qd:=hS.la;have Qe:=hS.lb;have su:=hS.lc;have Gv:Sq n S.a:=⟨hS.la,hS.lr⟩;obtain ⟨v,hP,hv⟩:=Akf N false false S.a n k Gv hS.ba hn (by omega);refine Ev.xE N.mD rfl rfl ?_;rcases hv with ⟨i,h1,h2,rfl⟩|⟨h1,rfl⟩
 ·obtain ⟨g1,_,g3⟩:=cT h1
  have hAd:=AbX N hS.bd (by omega);have da : ∀ r:AV,r = .j5 [.agg (eQ (M4 S (2^i))),.int .i64 0]->((∃ i,i<=6/\OQ n S.a i/\r = .j5 [.agg (eQ (M4 S (2^i))),.int .i64 0])\/((∀ j,j<=6->KR (HW n S.a j)=false)/\r = .j5 [.agg [.bool false,.sl false [],.sl false []],.int .i64 14])):=λ r hr=>Or.inl ⟨i,h1,h2,hr⟩
  have zx:=Axv S (2^i);generalize 2^i=p at *;have Hh : ∀ j,j<=128->Bs 90000000 (O5 S.a S.b j):=λ j hj=>(Aou Gv hS.lb hS.ba hS.bb j).le (by have:=Ahu (n:=n) (k:=k) hn hj;omega)
  have ti : ∀ j,(O5 S.a S.b j).length=n:=Adb Qd Qe;have ft : ∀ j,j<=128->Bt (4*(k+90000000+1)) (GG S.c (O5 S.a S.b j)):=λ j hj=>(hS.bc.dot (Hh j hj)).le (zR _ (by omega))
  have ot:Bt (4*(k+1)) (FY S.c):=(oQ hS.bc).le (zR _ (by omega));have hKb : ∀ j,j<=128->Bt 100000000000 (aF S p j):=λ j hj=>by
   have q1:=(Rb (f:=YV S.a S.b S.c) (k:=370000000) j λ t ht=>(RR (ft t (by omega))).le (by omega)).le (zR _ hj);have q2:=(Rb (f:=λ t=>cK S.a S.b (p+t)) (k:=90000000) (j-p) λ t ht=>oD (Hh (p+t) (by omega))).le (zR _ (show j-p<=128 by omega));exact ((RR hS.bd).add (q1.add (ot.mul q2))).le (by omega)
  have Xh:=λ q=>Akg N q S.c k hS.bc (by omega) (by omega)
  have Bg:aF S p 0=G1 S.d:=by rw[aF,show 0-p=0 by omega];simp only[PP];grind
  (repeat' ((first|(apply B6<;>intro hc<;>try omega)|apply C9|apply BL|refine BF (Zb) ?_|refine BF (hP) ?_|refine BF (hAd) ?_)<;>conv=>whnf))
  refine K4 (λ j=>p+p-j) (λ(j:Nat)=>j<=p+p) (λ j=>[(8,.int .i64 j),(7,.sl false ((O5 S.a S.b j).map eQ))]) (λ j=>[(6,6,.bx (eQ (aF S p j)))]) [] [] 0 (by rw[Bg];exact (by (conv=>whnf);exact ⟨rfl,rfl,rfl⟩)) (by omega) ?_;intro j t1 jh;by_cases hj:j<p+p
  ·have hI:=λ q q'=>Ajy N.todn S.c (O5 S.a S.b j) q q' k 90000000 (by rw[ti];exact su) hS.bc (Hh j (by omega)) (by rw[su];have:=zR (k+90000000+1) hn;omega) (by omega)
   have hA:=AbX N (ft j (by omega)) (by omega);have hP1:=oA N.toa8 (hKb j (by omega)) (RR (ft j (by omega))) (by omega) (by omega);have hT:=λ q1 q2 q3=>As3 N.todn S.a (O5 S.a S.b j) q1 q2 q3 n k 90000000 Gv (ti j) hS.ba (Hh j (by omega)) hn (by omega)
   have hT' : ∀ q1 q2 q3,Ev L 138 [.sl q1 (S1 q3 S.a),.sl q2 ((O5 S.a S.b j).map eQ)] (.sl false ((O5 S.a S.b (j+1)).map eQ)):=hT;clear hT;by_cases hjp:p<=j
   ·have hG:=λ q=>AtH N q (O5 S.a S.b j) 90000000 (Hh j (by omega)) (by rw[ti];omega) (by omega)
    have hM:=tX N.toa8 ot (oD (Hh j (by omega))) (by omega) (by omega);have hs:=Axw (S:=S) hjp;have hf:YV S.a S.b S.c j=G1 (GG S.c (O5 S.a S.b j)):=rfl;rw[hf]at hs;have hP2:=oA N.toa8 ((hKb j (by omega)).add (RR (ft j (by omega)))) (ot.mul (oD (Hh j (by omega)))) (by omega) (by omega);rw[hs]at hP2;(repeat' ((first|(apply B6<;>intro hc<;>try omega)|(apply DD;omega)|(apply NA;omega)|apply BL|refine BF (hI _ _) ?_|refine BF (hA) ?_|refine BF (hP1) ?_|refine BF (Xh _) ?_|refine BF (hG _) ?_|refine BF (hM) ?_|refine BF (hP2) ?_|refine BF (hT' _ _ _) ?_)<;>conv=>whnf))
    exact FV [] (jh (j+1) (by omega) (by omega))
   ·have hs:=Axx (S:=S) (p:=p) (k:=j) (by omega)
    have hf:YV S.a S.b S.c j=G1 (GG S.c (O5 S.a S.b j)):=rfl;rw[hf]at hs;rw[hs]at hP1;(repeat' ((first|(apply B6<;>intro hc<;>try omega)|(apply DD;omega)|(apply NA;omega)|apply BL|refine BF (hI _ _) ?_|refine BF (hA) ?_|refine BF (hP1) ?_|refine BF (hT' _ _ _) ?_)<;>conv=>whnf))
    exact FV [] (jh (j+1) (by omega) (by omega))
  have ej:j=p+p:=by omega
  clear jh;rw[ej,zx];(repeat' ((first|(apply B6<;>intro hc<;>try omega)|(apply NA;omega)|apply BL)<;>conv=>whnf))
  exact ⟨_,DH rfl (tN _ 0),da _ rfl⟩
 ·(repeat' ((first|(apply B6<;>intro hc<;>try omega)|apply C9|apply BL|refine BF (Zb) ?_|refine BF (hP) ?_)<;>conv=>whnf))
  exact ⟨_,DH rfl (by simp [EA,GK,L3]),Or.inr ⟨h1,rfl⟩⟩
end Go.c9
namespace Go.c9
theorem dC {es:List (List AV)} {i j n:Nat} {K:List AV->Prop} {cs ds:List AV} (h:es[i]? = some cs) (hp:part cs j n=some ds) (hk:K ds):FC es i j n K:=by
 unfold FC;exact ⟨cs,ds,h,hp,hk⟩
theorem rC {es:List (List AV)} {i j:Nat} {vs cs:List AV} {K:List (List AV)->Prop} (h:es[i]? = some cs) (hl:Nat.ble (j+vs.length) cs.length=true) (hk:K (es.set i (splice cs j vs))):E1 es i j vs K:=by
 unfold E1;exact ⟨cs,h,Nat.le_of_ble_eq_true hl,hk⟩
theorem nM {es:List (List AV)} {off len:Nat} {K:List (List AV)->Prop} (h:Nat.ble (off+len) es.length=true) (hz:es.all N0=true) (hk:K ((es.drop off).take len)):EF es off len K :=
 zO (Nat.le_of_ble_eq_true h) (λ e he=>List.all_eq_true.1 hz e he) hk
theorem Adr {es:List (List AV)} {K:Nat->Prop} (n:Nat) (hn:es.length=n) (h:K n):C8 es K:=⟨hn ▸ h⟩
theorem L0 {rows:List (Option (Nat × List (List AV)))} {len bytes:Nat} {r:Option (Nat × List (List AV))} {K:List (Option (Nat × List (List AV)))->Nat->Prop} (n:Nat) (hn:n=len+1) (hl:len=rows.length) (hr:Nat.ble (n*bytes) 140737488355328=true) (gy:Nat.ble n 9223372036854775807=true) (h:K (rows++[r]) n):GV rows len r bytes K:=by
 subst hn;exact ⟨hl,by simpa [NR] using Nat.le_of_ble_eq_true hr,Nat.le_of_ble_eq_true gy,h⟩
theorem XF {es ys:List (List AV)} {len z bytes:Nat} {K:List (List AV)->Nat->Prop} (n:Nat) (hn:n=len+ys.length) (hl:Nat.ble len es.length=true) (hz:ys.all (λ e=>Nat.beq e.length z)=true) (hr:Nat.ble (n*bytes) 140737488355328=true) (gy:Nat.ble n 9223372036854775807=true) (h:K (es.take len++ys) n):F9 es len ys z bytes K:=by
 subst hn;exact ⟨Nat.le_of_ble_eq_true hl,λ e he=>Nat.eq_of_beq_eq_true (List.all_eq_true.1 hz e he),by simpa [NR] using Nat.le_of_ble_eq_true hr,Nat.le_of_ble_eq_true gy,h⟩
theorem Ah4 {β:Type} {rows:List (Option (Nat × List (List AV)))} {z:Nat} {en:β->List AV} {q:Bool} {off len:Nat} {K:List (List AV)->Prop} (ll:List (List β)) (hr:rows=LW z en ll) (hz : ∀ x,N0 (en x)=true) (ho:off=0) (hl:len=ll.length) (h:K (ll.map λ r=>[AV.sl q (r.map en)])):IJ q rows off len K:=by
 subst hr;exact pN hz ho hl h
theorem N7 {es:List (List AV)} {a:Int} {z:Nat} {K:List AV->Prop} {cs:List AV} (i:Nat) (ha:a=i) (h:es[i]? = some cs) (hz:cs.length=z) (hk:K cs):DY es a z K:=by
 subst ha;unfold DY;exact ⟨by omega,cs,h,hz,hk⟩
end Go.c9

namespace Go.c9
open F
attribute [local irreducible] A0 B0 D8 BK IH DY FC E1 HI F9 IA LT GS EF HH H4 BD EU B9 pw IO H0 JM KX J9 GV IJ GT JW
variable {L:Lib}
set_option maxHeartbeats 8000000
set_option maxRecDepth 8000
theorem Ath (I:e8 L) (N:il L) (k v:List Int) (q1 q2:Bool) (c:Wd) (hc:WV c) (l1:k.length<=8) (l2:v.length=k.length+1) (hv : ∀ x∈v,FT c x) (hk : ∀ x∈k,FT c x/\FT c (-x)) (hu : ∀ x∈k,-pw c.f<x/\x<pw c.f) :
  Ev L 345 [.sl q1 (k.map IM),.sl q2 (v.map IM),.agg (OC c)] (.int .i64 0):=by
 have Qc : ∀ x∈k,-16777216<=x/\x<=16777216:=λ x hx=>by
  obtain ⟨_,e1,e2⟩:=(hk x hx).1;obtain ⟨h1,h2,h3,h4⟩:=sC hc;omega
 have cz:=hc;unfold WV at cz;have hpl:=aV (n:=c.f) (m:=23) (by omega);have Fp:pw 23=8388608:=by unfold pw;rfl
 have Dg:=O2 c.f;refine Ev.x N.eT rfl rfl ?_;(repeat' ((first|(apply B6<;>intro hc<;>try omega)|(apply DD;omega)|apply C9|apply BL|refine ML (pY ⟨_,_,_,_⟩ I) (λ hf => ?_) (λ hf => ?_))<;>conv=>whnf))
 all_goals try (exact absurd hc (by assumption))
 refine K7 (λ i=>v.length-i) (λ(i:Nat)=>i<=v.length) (λ i=>[(29,.int .i64 i)]) (λ_=>[]) 0 (by omega) ?_;intro i p1 ih;(repeat' ((first|(apply B6<;>intro hc<;>try omega)|(apply DD;omega)|apply C9|(refine bY ?_ (λ_=>rfl) (λ e he => ?_);omega)|apply BL|refine ML (tV ⟨_,_,_,_⟩ I _) (λ hf => ?_) (λ hf => ?_))<;>conv=>whnf))
 ·exact FV [] (ih (i+1) (by omega) (by omega))
 ·exact absurd (hv _ (zM he)) hf
 refine K7 (λ i=>k.length-i) (λ(i:Nat)=>i<=k.length) (λ i=>[(40,.int .i64 i)]) (λ_=>[]) 0 (by omega) ?_;intro i p1 ih;(repeat' ((first|(apply B6<;>intro hc<;>try omega)|apply C9|(refine bY ?_ (λ_=>rfl) (λ e he => ?_);omega)|apply BL|refine ML (tV ⟨_,_,_,_⟩ I _) (λ hf => ?_) (λ hf => ?_))<;>conv=>whnf))
 ·have hfe:=Qc _ (zM he)
  (repeat' ((first|(apply DD;omega)|(apply IH.neg;omega)|refine ML (tV ⟨_,_,_,_⟩ I _) (λ hf => ?_) (λ hf => ?_))<;>conv=>whnf))
  ·exact FV [] (ih (i+1) (by omega) (by omega))
  ·exact absurd (hk _ (zM he)).2 hf
 ·exact absurd (hk _ (zM he)).1 hf
 refine K7 (λ i=>k.length-i) (λ(i:Nat)=>i<=k.length) (λ i=>[(58,.int .i64 i)]) (λ_=>[]) 0 (by omega) ?_;intro i p1 ih;by_cases hi:i<k.length
 ·obtain ⟨x,hx⟩ : ∃ x,k[i]? = some x:=⟨_,zE hi⟩
  have yv:k[(i:Int).toNat]? = some x:=hx;have hfe:=Qc _ (zM hx);have hue:=hu _ (zM hx);(repeat' ((first|(apply B6<;>intro hc<;>try omega)|(apply DD;omega)|(refine NS ?_ (λ_ _ => ?_);omega)|(apply IH.neg;omega)|(refine E4 (by assumption) ?_ rfl ?_;omega)|apply BL)<;>conv=>whnf))
  all_goals exact FV [] (ih (i+1) (by omega) (by omega))
 ·(repeat' ((first|(apply B6<;>intro hc<;>try omega)|apply BL)<;>conv=>whnf))
  exact IC rfl
def MO (k v:List Int) (d c:Wd):Nt :=
 ⟨d,c,(k.length:Int),false,match k with
  | [x]=>[⟨false,[(0,pw c.f),(1,-x)]⟩,⟨false,[(2,x),(1,pw c.f)]⟩,⟨false,[(2,v.getD 0 0),(3,v.getD 1 0)]⟩]
  | [x,y]=>[⟨false,[(0,pw c.f),(2,-y)]⟩,⟨false,[(3,pw c.f),(1,-x)]⟩,⟨false,[(4,x),(1,pw c.f)]⟩,⟨false,[(3,y),(2,pw c.f)]⟩,⟨false,[(4,v.getD 0 0),(5,v.getD 1 0),(6,v.getD 2 0)]⟩]
  | _=>[⟨false,[(0,v.getD 0 0)]⟩],false,match k with
  | [_]=>[2]
  | [_,_]=>[4,5]
  | _=>[],3*(k.length:Int)+1⟩
theorem Atg (I:e8 L) (N:il L) (k v:List Int) (q1 q2:Bool) (d c:Wd) (hd:WV d) (hc:WV c) (l1:k.length<=2) (l2:v.length=k.length+1) (hv : ∀ x∈v,FT c x) (hk : ∀ x∈k,FT c x/\FT c (-x)) (hu : ∀ x∈k,-pw c.f<x/\x<pw c.f) :
  Ev L 346 [.sl q1 (k.map IM),.sl q2 (v.map IM),.agg (OC d),.agg (OC c)] (.j5 [.agg (HV (MO k v d c)),.int .i64 0]):=by
 have hw:=λ q q'=>Ath I N k v q q' c hc (by omega) l2 hv hk hu
 have cz:=hc;unfold WV at cz;have hpl:=aV (n:=c.f) (m:=23) (by omega);have Fp:pw 23=8388608:=by unfold pw;rfl
 have Dg:=O2 c.f;have Qc : ∀ x∈k,-16777216<=x/\x<=16777216:=λ x hx=>by
  obtain ⟨_,e1,e2⟩:=(hk x hx).1;obtain ⟨h1,h2,h3,h4⟩:=sC hc;omega
 refine Ev.x N.eN rfl rfl ?_;rcases k with _|⟨x,_|⟨y,_|⟨z,k⟩⟩⟩
 ·rcases v with _|⟨a,_|⟨b,v⟩⟩
  ·simp at l2
  ·simp only[List.map_cons,List.map_nil]at hw ⊢
   (repeat' ((first|(apply B6<;>intro hc<;>try omega)|apply BL|refine ML (pY ⟨_,_,_,_⟩ I) (λ hf => ?_) (λ hf => ?_)|refine BF (hw _ _) ?_)<;>conv=>whnf))
   all_goals try (exact absurd hd (by assumption))
   refine Adr 0 rfl ?_;(conv=>whnf)
   (repeat' ((first|(refine NS ?_ (λ_ _ => ?_);omega)|fail)<;>conv=>whnf))
   refine K9 (enc:=IM) 0 0 rfl (by omega) (by omega) ?_;(conv=>whnf)
   (repeat' ((first|(apply DD;omega)|(apply NA;omega))<;>conv=>whnf))
   refine K9 (enc:=IM) 0 1 rfl (by omega) (by omega) ?_;(conv=>whnf)
   skip
   refine NJ ?_;(repeat' ((first|(apply B6<;>intro hc<;>try omega)|(apply DD;omega)|apply BL)<;>conv=>whnf))
   refine K9 (enc:=IM) 0 1 rfl (by omega) (by omega) ?_;(conv=>whnf)
   (repeat' ((first|(apply EL;omega)|fail)<;>conv=>whnf))
   repeat (
    (repeat' ((first|(apply B6<;>intro hc<;>try omega)|(apply EL;omega)|apply BL)<;>conv=>whnf))
    (first|refine dC rfl rfl ?_|refine rC rfl rfl ?_|refine N7 0 (by omega) rfl rfl ?_|refine N7 1 (by omega) rfl rfl ?_|refine N7 2 (by omega) rfl rfl ?_|refine L0 2 rfl rfl rfl rfl ?_|refine L0 3 rfl rfl rfl rfl ?_|refine L0 4 rfl rfl rfl rfl ?_|refine L0 5 rfl rfl rfl rfl ?_|refine XF 2 rfl rfl rfl rfl rfl ?_|refine XF 3 rfl rfl rfl rfl rfl ?_|refine EL rfl ?_|refine EL ⟨rfl,by decide⟩ ?_|refine nM rfl rfl ?_|refine NJ ?_)
    (conv=>whnf))
   skip
   refine pN (z:=2) (en:=TS) (ll:=[[(0,a)]]) (λ_=>rfl) rfl rfl ?_;(conv=>whnf)
   repeat (
    (repeat' ((refine J2 (λ_=>rfl) rfl ?_ ?_;(first|rfl|simp))<;>conv=>whnf))
    (first|refine dC rfl rfl ?_|refine rC rfl rfl ?_|refine N7 0 (by omega) rfl rfl ?_|refine N7 1 (by omega) rfl rfl ?_|refine N7 2 (by omega) rfl rfl ?_|refine L0 2 rfl rfl rfl rfl ?_|refine L0 3 rfl rfl rfl rfl ?_|refine L0 4 rfl rfl rfl rfl ?_|refine L0 5 rfl rfl rfl rfl ?_|refine XF 2 rfl rfl rfl rfl rfl ?_|refine XF 3 rfl rfl rfl rfl rfl ?_|refine EL rfl ?_|refine EL ⟨rfl,by decide⟩ ?_|refine nM rfl rfl ?_|refine NJ ?_)
    (conv=>whnf))
   (repeat' ((refine J2 (λ_=>rfl) rfl ?_ ?_;(first|rfl|simp))<;>conv=>whnf))
   exact DH rfl (yB (MO [] [a] d c) rfl rfl (by simp [MO]))
  ·simp at l2
 ·rcases v with _|⟨a,_|⟨b,_|⟨e,v⟩⟩⟩
  ·simp at l2
  ·simp at l2
  ·have hx:=Qc x (by simp)
   simp only[List.map_cons,List.map_nil]at hw ⊢;(repeat' ((first|(apply B6<;>intro hc<;>try omega)|apply BL|refine ML (pY ⟨_,_,_,_⟩ I) (λ hf => ?_) (λ hf => ?_)|refine BF (hw _ _) ?_)<;>conv=>whnf))
   all_goals try (exact absurd hd (by assumption))
   refine Adr 1 rfl ?_;(conv=>whnf)
   (repeat' ((first|(refine NS ?_ (λ_ _ => ?_);omega)|fail)<;>conv=>whnf))
   refine K9 (enc:=IM) 0 1 rfl (by omega) (by omega) ?_;(conv=>whnf)
   (repeat' ((first|(apply DD;omega)|(apply NA;omega))<;>conv=>whnf))
   refine K9 (enc:=IM) 0 2 rfl (by omega) (by omega) ?_;(conv=>whnf)
   skip
   repeat (
    (repeat' ((first|(apply B6<;>intro hc<;>try omega)|(apply EL;omega)|(apply DD;omega)|(apply F8;omega)|(apply IH.neg;omega)|apply BL)<;>conv=>whnf))
    (first|refine dC rfl rfl ?_|refine rC rfl rfl ?_|refine N7 0 (by omega) rfl rfl ?_|refine N7 1 (by omega) rfl rfl ?_|refine N7 2 (by omega) rfl rfl ?_|refine L0 2 rfl rfl rfl rfl ?_|refine L0 3 rfl rfl rfl rfl ?_|refine L0 4 rfl rfl rfl rfl ?_|refine L0 5 rfl rfl rfl rfl ?_|refine XF 2 rfl rfl rfl rfl rfl ?_|refine XF 3 rfl rfl rfl rfl rfl ?_|refine EL rfl ?_|refine EL ⟨rfl,by decide⟩ ?_|refine nM rfl rfl ?_|refine NJ ?_)
    (conv=>whnf))
   (repeat' ((first|(apply B6<;>intro hc<;>try omega)|(apply DD;omega)|apply BL)<;>conv=>whnf))
   refine K9 (enc:=IM) 0 2 rfl (by omega) (by omega) ?_;(conv=>whnf)
   repeat (
    (repeat' ((first|(apply B6<;>intro hc<;>try omega)|(apply EL;omega)|(apply DD;omega)|(apply F8;omega)|(apply NA;omega)|apply KY|apply BL)<;>conv=>whnf))
    (first|refine dC rfl rfl ?_|refine rC rfl rfl ?_|refine N7 0 (by omega) rfl rfl ?_|refine N7 1 (by omega) rfl rfl ?_|refine N7 2 (by omega) rfl rfl ?_|refine L0 2 rfl rfl rfl rfl ?_|refine L0 3 rfl rfl rfl rfl ?_|refine L0 4 rfl rfl rfl rfl ?_|refine L0 5 rfl rfl rfl rfl ?_|refine XF 2 rfl rfl rfl rfl rfl ?_|refine XF 3 rfl rfl rfl rfl rfl ?_|refine EL rfl ?_|refine EL ⟨rfl,by decide⟩ ?_|refine nM rfl rfl ?_|refine NJ ?_)
    (conv=>whnf))
   skip
   refine pN (z:=2) (en:=TS) (ll:=[[(0,pw c.f),(1,-x)],[(2,x),(1,pw c.f)],[(2,a),(3,b)]]) (λ_=>rfl) rfl rfl ?_;(conv=>whnf)
   repeat (
    (repeat' (refine N9 rfl ?_<;>conv=>whnf))
    (first|refine dC rfl rfl ?_|refine rC rfl rfl ?_|refine N7 0 (by omega) rfl rfl ?_|refine N7 1 (by omega) rfl rfl ?_|refine N7 2 (by omega) rfl rfl ?_|refine L0 2 rfl rfl rfl rfl ?_|refine L0 3 rfl rfl rfl rfl ?_|refine L0 4 rfl rfl rfl rfl ?_|refine L0 5 rfl rfl rfl rfl ?_|refine XF 2 rfl rfl rfl rfl rfl ?_|refine XF 3 rfl rfl rfl rfl rfl ?_|refine EL rfl ?_|refine EL ⟨rfl,by decide⟩ ?_|refine nM rfl rfl ?_|refine NJ ?_)
    (conv=>whnf))
   (repeat' (refine N9 rfl ?_<;>conv=>whnf))
   exact DH rfl (yB (MO [x] [a,b] d c) rfl rfl (by simp [MO]))
  ·simp at l2
 ·rcases v with _|⟨a,_|⟨b,_|⟨e,_|⟨g,v⟩⟩⟩⟩
  ·simp at l2
  ·simp at l2
  ·simp at l2
  ·have hx:=Qc x (by simp)
   have hy:=Qc y (by simp);simp only[List.map_cons,List.map_nil]at hw ⊢;(repeat' ((first|(apply B6<;>intro hc<;>try omega)|apply BL|refine ML (pY ⟨_,_,_,_⟩ I) (λ hf => ?_) (λ hf => ?_)|refine BF (hw _ _) ?_)<;>conv=>whnf))
   all_goals try (exact absurd hd (by assumption))
   refine Adr 2 rfl ?_;(conv=>whnf)
   (repeat' ((first|(refine NS ?_ (λ_ _ => ?_);omega)|fail)<;>conv=>whnf))
   refine K9 (enc:=IM) 0 2 rfl (by omega) (by omega) ?_;(conv=>whnf)
   (repeat' ((first|(apply DD;omega)|(apply NA;omega))<;>conv=>whnf))
   refine K9 (enc:=IM) 0 3 rfl (by omega) (by omega) ?_;(conv=>whnf)
   skip
   repeat (
    (repeat' ((first|(apply B6<;>intro hc<;>try omega)|(apply EL;omega)|(apply DD;omega)|(apply F8;omega)|(apply IH.neg;omega)|apply BL)<;>conv=>whnf))
    (first|refine dC rfl rfl ?_|refine rC rfl rfl ?_|refine N7 0 (by omega) rfl rfl ?_|refine N7 1 (by omega) rfl rfl ?_|refine N7 2 (by omega) rfl rfl ?_|refine L0 2 rfl rfl rfl rfl ?_|refine L0 3 rfl rfl rfl rfl ?_|refine L0 4 rfl rfl rfl rfl ?_|refine L0 5 rfl rfl rfl rfl ?_|refine XF 2 rfl rfl rfl rfl rfl ?_|refine XF 3 rfl rfl rfl rfl rfl ?_|refine EL rfl ?_|refine EL ⟨rfl,by decide⟩ ?_|refine nM rfl rfl ?_|refine NJ ?_)
    (conv=>whnf))
   (repeat' ((first|(apply B6<;>intro hc<;>try omega)|(apply DD;omega)|apply BL)<;>conv=>whnf))
   refine K9 (enc:=IM) 0 3 rfl (by omega) (by omega) ?_;(conv=>whnf)
   repeat (
    (repeat' ((first|(apply B6<;>intro hc<;>try omega)|(apply EL;omega)|(apply DD;omega)|(apply F8;omega)|(apply NA;omega)|apply KY|apply BL)<;>conv=>whnf))
    (first|refine dC rfl rfl ?_|refine rC rfl rfl ?_|refine N7 0 (by omega) rfl rfl ?_|refine N7 1 (by omega) rfl rfl ?_|refine N7 2 (by omega) rfl rfl ?_|refine L0 2 rfl rfl rfl rfl ?_|refine L0 3 rfl rfl rfl rfl ?_|refine L0 4 rfl rfl rfl rfl ?_|refine L0 5 rfl rfl rfl rfl ?_|refine XF 2 rfl rfl rfl rfl rfl ?_|refine XF 3 rfl rfl rfl rfl rfl ?_|refine EL rfl ?_|refine EL ⟨rfl,by decide⟩ ?_|refine nM rfl rfl ?_|refine NJ ?_)
    (conv=>whnf))
   skip
   refine Ah4 (z:=2) (en:=TS) [[(0,pw c.f),(2,-y)],[(3,pw c.f),(1,-x)],[(4,x),(1,pw c.f)],[(3,y),(2,pw c.f)],[(4,a),(5,b),(6,e)]] (by simp [LW]) (λ_=>rfl) rfl rfl ?_;(conv=>whnf)
   repeat (
    (repeat' (refine Z3 rfl rfl ?_<;>conv=>whnf))
    (first|refine dC rfl rfl ?_|refine rC rfl rfl ?_|refine N7 0 (by omega) rfl rfl ?_|refine N7 1 (by omega) rfl rfl ?_|refine N7 2 (by omega) rfl rfl ?_|refine L0 2 rfl rfl rfl rfl ?_|refine L0 3 rfl rfl rfl rfl ?_|refine L0 4 rfl rfl rfl rfl ?_|refine L0 5 rfl rfl rfl rfl ?_|refine XF 2 rfl rfl rfl rfl rfl ?_|refine XF 3 rfl rfl rfl rfl rfl ?_|refine EL rfl ?_|refine EL ⟨rfl,by decide⟩ ?_|refine nM rfl rfl ?_|refine NJ ?_)
    (conv=>whnf))
   (repeat' (refine Z3 rfl rfl ?_<;>conv=>whnf))
   exact DH rfl (yB (MO [x,y] [a,b,e] d c) rfl rfl (by simp [MO]))
  ·simp at l2
 ·simp at l1
theorem AsS (N:ak L) {h:Rat} (hh:Bt 4 (-h)) (u5 : -h≠0):Ev L 207 [.agg [.sl true ([(1:Rat)].map eQ),.sl true ([1,-h].map eQ)]] (.j5 [.agg (eS ⟨[[h]],[1],[h],1⟩),.int .i64 0]):=by
 have hA:Bs 4 [1,-h]:=λ x hx=>by
  rcases List.mem_cons.1 hx with rfl|hx
  ·exact Bt.one 4
  ·obtain rfl:=List.mem_singleton.1 hx
   exact hh
 have hB:Bs 4 [(1:Rat)]:=λ x hx=>by
  obtain rfl:=List.mem_singleton.1 hx;exact Bt.one 4
 have tB:sN [(1:Rat)]=[1]:=by decide
 have tA:sN [1,-h]=[1,-h]:=by
  show List.take (if -h=0 then _ else 2) [1,-h]=_;rw[if_neg u5];rfl
 have hV:=AtP N true true [1] [1,-h] 4 hB hA (by first|omega|simp) (by first|omega|simp) (by first|omega|simp) rfl;have Ed:Ev L 204 [.sl true ([(1:Rat)].map eQ)] (.int .i64 0):=Akn N true [1] 4 tB hB (by omega) (by simp);have Ee:Ev L 204 [.sl true ([1,-h].map eQ)] (.int .i64 1):=Akn N true [1,-h] 4 tA hA (by omega) (by simp);have hO:=PW N.toa7 1 (by omega);have Ph:Ev L 205 [.sl true ([(1:Rat)].map eQ),.int .i64 0] (.agg (eQ 1)):=AeZ N true [1] 0 4 (by omega) hB (by omega) (by simp);have hB1:Ev L 205 [.sl true ([(1:Rat)].map eQ),.int .i64 (0+1)] (.agg (eQ 0)):=AeZ N true [1] (0+1) 4 (by omega) hB (by omega) (by simp);have hA1:Ev L 205 [.sl true ([1,-h].map eQ),.int .i64 (0+1)] (.agg (eQ (-h))):=AeZ N true [1,-h] (0+1) 4 (by omega) hA (by omega) (by simp);have hM:=XT N.toa7 (Bt.one 4) hh (by omega) (by omega);have hS:=AtX N.toer (Bt.zero 4) ((Bt.one 4).mul hh) (by omega) (by omega);have hN:=Atq N hh (by omega);rw[show (0:Rat)-1 * -h=h by grind]at hS;rw[Rat.neg_neg]at hN;rw[show ((1:Int):Rat)=1 from rfl]at hO;have hZ:=AtU N 1 (by omega);have da:=Aq3 ⟨[[h]],[1],[h],1⟩ 0;generalize -h=g at *;refine Ev.x N.mQ rfl rfl ?_;(repeat' ((first|(apply B6<;>intro hc<;>try omega)|apply BL|refine BF (hV) ?_|refine BF (Ed) ?_|refine BF (Ee) ?_|refine BF (Ph) ?_)<;>conv=>whnf))
 refine vR (enc:=eQ) 1 hZ rfl ?_;(conv=>whnf)
 (repeat' ((first|(apply B6<;>intro hc<;>try omega)|(apply EL;omega)|refine BF (hO) ?_)<;>conv=>whnf))
 refine Z4 (enc:=eQ) 0 1 rfl rfl (λ_=>rfl) (by simp) ?_;(conv=>whnf)
 skip
 refine NJ ?_;(repeat' ((first|(apply B6<;>intro hc<;>try omega)|apply BL)<;>conv=>whnf))
 refine vR (enc:=eQ) 1 hZ rfl ?_;(conv=>whnf)
 (repeat' ((first|(apply B6<;>intro hc<;>try omega)|fail)<;>conv=>whnf))
 refine NJ ?_;(repeat' ((first|(apply B6<;>intro hc<;>try omega)|(apply EL;omega)|(apply DD;omega)|apply BL|refine BF (hA1) ?_|refine BF (hN) ?_)<;>conv=>whnf))
 refine Z4 (enc:=eQ) 0 h rfl rfl (λ_=>rfl) (by simp) ?_;(conv=>whnf)
 (repeat' ((first|(apply DD;omega)|fail)<;>conv=>whnf))
 refine NJ ?_;(repeat' ((first|(apply B6<;>intro hc<;>try omega)|apply BL)<;>conv=>whnf))
 refine EL ⟨rfl,by omega⟩ ?_;(conv=>whnf)
 (repeat' ((first|(apply DD;omega)|apply KY|refine BF (Ph) ?_|refine BF (hB1) ?_|refine BF (hA1) ?_|refine BF (hM) ?_|refine BF (hS) ?_)<;>conv=>whnf))
 refine qX (enc:=eQ) h rfl rfl (by omega) ?_;(conv=>whnf)
 (repeat' ((first|(apply DD;omega)|fail)<;>conv=>whnf))
 refine NJ ?_;(repeat' ((first|(apply B6<;>intro hc<;>try omega)|apply BL)<;>conv=>whnf))
 refine Ah4 (en:=eQ) [[h]] rfl (λ_=>rfl) rfl rfl ?_;(conv=>whnf)
 refine nM rfl rfl ?_;(conv=>whnf)
 refine nM rfl rfl ?_;(conv=>whnf)
 exact DH rfl da
theorem Bt.ngK {k:Nat} {x:Rat} (h:Bt k x):Bt k (-x):=⟨by simpa using h.1,by simpa using h.2⟩
theorem Auv:Bt 4 (Rat.divInt 1 2):=(Bt.mk (k:=4) (z:=1) (d:=2) (by decide) (by decide))
theorem Atf (N:pz L):Ev L 318 [] (.bool true):=by
 have A:ak L:=N.tov5.tofp.toak;have hO:=YU A.toa8 1 (by omega);have hO2:=YU A.toa8 2 (by omega);have hF:=AbW A.toa8 1 2 (by omega) (by omega);have hh:=Auv;have u5 : -(Rat.divInt 1 2)≠0:=by decide
 have Xv:KR (HW 1 [[Rat.divInt 1 2]] 0)=true:=by decide +kernel
 have hval:M4 ⟨[[Rat.divInt 1 2]],[1],[Rat.divInt 1 2],1⟩ (2^0)=((2:Int):Rat):=by decide +kernel
 generalize Rat.divInt 1 2=h at *;have hN:=AjU A.todm hh (by omega);have hC:=AsS A hh.ngK u5;have hB:Bs 4 [(1:Rat)]:=λ x hx=>by
  obtain rfl:=List.mem_singleton.1 hx;exact Bt.one 4
 have m6:(⟨[[h]],[1],[h],1⟩:NN).Ok 1 80:=by
  refine ⟨rfl,λ r hr=>by obtain rfl:=List.mem_singleton.1 hr;rfl,rfl,rfl,λ r hr => ?_,hB.le (by omega),λ x hx => ?_,Bt.one 80⟩
  ·obtain rfl:=List.mem_singleton.1 hr
   intro x hx;obtain rfl:=List.mem_singleton.1 hx;exact hh.le (by omega)
  ·obtain rfl:=List.mem_singleton.1 hx
   exact hh.le (by omega)
 obtain ⟨v,hS,hv⟩:=Atv N.tov5 ⟨[[h]],[1],[h],1⟩ 1 80 m6 (by omega) (by omega);rcases hv with ⟨i,_,h2,rfl⟩|⟨h1,rfl⟩
 ·obtain rfl:i=0:=h2.uniq ⟨Xv,λ j hj=>absurd hj (by omega)⟩
  rw[hval]at hS;have h2b:Bt 2 ((2:Int):Rat):=⟨by decide,by decide⟩;have ta:=rO A.toa8 h2b h2b (by omega) (by omega);rw[AcL.2 rfl]at ta;refine Ev.x N.fD rfl rfl ?_;(repeat' ((first|(apply B6<;>intro hc<;>try omega)|refine N9 rfl ?_|refine Z3 rfl rfl ?_|apply BL|refine BF (hO) ?_|refine BF (hF) ?_|refine BF (hN) ?_|refine BF (hC) ?_|refine BF (hS) ?_|refine BF (hO2) ?_|refine BF (ta) ?_)<;>conv=>whnf))
  exact M9 rfl
 ·have:=h1 0 (by omega)
  rw[Xv]at this;cases this
end Go.c9

namespace Go.c9
open F
attribute [local irreducible] A0 B0 D8 BK IH DY FC E1 HI F9 IA LT GS EF HH H4 BD EU B9 pw IO H0 JM KX J9 GV IJ GT JW
variable {L:Lib} {b a:List Int} {d c:Wd}
set_option maxHeartbeats 16000000
theorem AmY (x fr:Int):K3 [x] 1 fr=[(fr,x)]:=by simp [K3]
def tK (b a:List Int) (c:Wd) (mx k:Nat):List (Int × Int):=(if k<b.length then [(0,b.getD k 0)] else [])++(if 1<=k/\k<=a.length then [((1:Int)+mx,-a.getD (k-1) 0)] else [])++(if k<mx then [((k:Int)+1,pw c.f)] else [])
theorem AwB (x fr:Int):K3 [x] (-1) fr=[(fr,-x)]:=by simp [K3]
theorem Aoe {l:List Int} {k:Nat} (h:k<l.length):(l.take (k+1)).drop k=[l.getD k 0]:=by
 have hg:l[k]? = some l[k]:=zE h;rw[List.take_add_one,hg,Option.toList_some,List.drop_append_of_le_length (by rw[List.length_take];omega),List.drop_of_length_le (by rw[List.length_take];omega),List.nil_append,List.getD_eq_getElem?_getD,hg];rfl
theorem Ahr (b a:List Int) (c:Wd) (mx k:Nat):oW b a c mx k=tK b a c mx k:=by
 unfold oW tK;congr 1
 ·congr 1
  ·by_cases h:k<b.length
   ·rw[if_pos h,if_pos h,Aoe h,AmY]
   ·rw[if_neg h,if_neg h]
  ·by_cases h:1<=k/\k<=a.length
   ·rw[if_pos h,if_pos h]
    obtain ⟨j,rfl⟩ : ∃ j,k=j+1:=⟨k-1,by omega⟩;rw[Nat.add_sub_cancel,Aoe (by omega),AwB,Int.add_comm 1 (mx:Int)]
   ·rw[if_neg h,if_neg h]
 ·by_cases h:k<mx
  ·rw[if_pos h,if_pos h,AmY]
  ·rw[if_neg h,if_neg h]
end Go.c9

namespace Go.c9
open F
attribute [local irreducible] A0 B0 D8 BK IH DY FC E1 HI F9 IA LT GS EF HH H4 BD EU B9 pw IO H0 JM KX J9 GV IJ GT JW
variable {L:Lib} {d c:Wd} {p:List Int}
set_option maxHeartbeats 1000000
theorem AxH {s:Int} {k:Nat} {fr:Int} (h:0<=fr/\fr<=s+k) : ∀ t∈K3 [pw c.f] 1 fr,ON c s k t=true:=by
 intro t ht;obtain ⟨i,v,hv,hi,rfl⟩:=uJ ht;simp only[List.mem_singleton]at hv;simp only[List.length_cons,List.length_nil]at hi;subst hv;exact decide_eq_true ⟨by simp only;omega,by simp only;omega,Or.inl (by simp)⟩
theorem Aog {s:Int} {k:Nat} {fr:Int} {l:List Int} (hl : ∀ v∈l,FT c v) (h:0<=fr/\fr+l.length<=s+k+1) : ∀ t∈K3 l 1 fr,ON c s k t=true:=by
 intro t ht;obtain ⟨i,v,hv,hi,rfl⟩:=uJ ht;exact decide_eq_true ⟨by simp only;omega,by simp only;omega,Or.inr (by simpa using hl v hv)⟩
theorem Amj {s:Int} {f:Nat->Nd} : ∀ (m k:Nat),(∀ i,k<=i->i<k+m->(f i).ts.length<=64 /\ ∀ t∈(f i).ts,ON c s i t=true)->O0 c s k ((List.range' k m).map f)=true
 | 0,_,_=>rfl
 | m+1,k,h=>by
  rw[List.range'_succ,List.map_cons,O0,Amj m (k+1) λ i h1 h2=>h i (by omega) (by omega)];have:=h k (by omega) (by omega)
  simp only[Bool.and_true,Bool.and_eq_true,decide_eq_true_eq,List.all_eq_true];exact this
end Go.c9

namespace Go.c9
open F
attribute [local irreducible] A0 B0 D8 BK IH DY FC E1 HI F9 IA LT GS EF HH H4 BD EU B9 pw IO H0 JM KX J9 GV IJ GT JW
set_option maxHeartbeats 8000000
variable {L:Lib}
section
variable {b a:List Int} {d c:Wd}
theorem AxG {s:Int} {k:Nat} {fr:Int} {l:List Int} (hl : ∀ v∈l,FT c (-v)) (h:0<=fr/\fr+l.length<=s+k+1) : ∀ t∈K3 l (-1) fr,ON c s k t=true:=by
 intro t ht;obtain ⟨i,v,hv,hi,rfl⟩:=uJ ht;exact decide_eq_true ⟨by simp only;omega,by simp only;omega,Or.inr (by simpa using hl v hv)⟩
theorem AxO (hd:WV d) (hc:WV c) (l1:1<=b.length/\b.length<=49) (l2:a.length<=8) (hb : ∀ v∈b,FT c v) (ha : ∀ v∈a,FT c v/\FT c (-v)):NF (OX b a d c)=true:=by
 have oa:b.length-1<=HZ b a:=Nat.le_max_left _ _;have od:a.length<=HZ b a:=Nat.le_max_right _ _;have hm3:HZ b a<=48:=by unfold HZ;omega
 rw[J6];refine ⟨hd,hc,⟨by simp only[OX];omega,by simp only[OX];omega,by simp [OX],by simp [OX,RU]⟩,?_,?_,by simp only[OX];omega,by simp only[OX,List.length_cons,List.length_nil];omega⟩
 ·simp only[OX,O0,Bool.and_true,Bool.and_eq_true,decide_eq_true_eq,List.all_eq_true]
  refine ⟨⟨by simp [bJ];omega,λ t ht => ?_⟩,by simp [bJ];omega,λ t ht => ?_⟩
  ·rcases List.mem_append.1 ht with h|h
   ·exact AxH (by omega) t h
   ·exact AxG (λ v hv=>(ha v hv).2) (by omega) t h
  ·rcases List.mem_append.1 ht with h|h
   ·exact Aog (λ v hv=>hb v (List.mem_of_mem_take hv)) (by simp only[List.length_take];omega) t h
   ·exact Aog (λ v hv=>hb v (List.mem_of_mem_drop hv)) (by simp only[List.length_drop];omega) t h
 ·simp only[OX,X2,List.all_eq_true,decide_eq_true_eq,List.length_cons,List.length_nil]
  intro k hk;rcases Al1 hk with rfl|⟨i,h1,h2,rfl⟩<;>(first|omega|(refine decide_eq_true ?_;omega))
theorem Aod {mx k:Nat} {t:Int × Int} (h:t∈tK b a c mx k):(k<b.length/\t.1=0/\t.2∈b)\/(1<=k/\k<=a.length/\t.1=1+(mx:Int) /\ -t.2∈a)\/(k<mx/\t.1=(k:Int)+1/\t.2=pw c.f):=by
 unfold tK at h;rcases List.mem_append.1 h with h|h
 ·rcases List.mem_append.1 h with h|h
  ·split at h
   ·rename_i hk
    obtain rfl:=List.mem_singleton.1 h;refine Or.inl ⟨hk,rfl,?_⟩;show b.getD k 0∈b;rw[List.getD_eq_getElem?_getD,zE hk];exact List.getElem_mem hk
   ·cases h
  ·split at h
   ·rename_i hk
    obtain rfl:=List.mem_singleton.1 h;refine Or.inr (Or.inl ⟨hk.1,hk.2,rfl,?_⟩);show - -(a.getD (k-1) 0)∈a;rw[Int.neg_neg,List.getD_eq_getElem?_getD,zE (show k-1<a.length by omega)];exact List.getElem_mem _
   ·cases h
 ·split at h
  ·rename_i hk
   obtain rfl:=List.mem_singleton.1 h;exact Or.inr (Or.inr ⟨hk,rfl,rfl⟩)
  ·cases h
theorem Ahj (mx k:Nat):(tK b a c mx k).length<=3:=by
 unfold tK;split<;>split<;>split<;>simp
theorem AxL (hd:WV d) (hc:WV c) (l1:1<=b.length/\b.length<=49) (l2:a.length<=8) (hb : ∀ v∈b,FT c v) (ha : ∀ v∈a,FT c v/\FT c (-v)):NF (O4 b a d c)=true:=by
 have oa:b.length-1<=HZ b a:=Nat.le_max_left _ _;have od:a.length<=HZ b a:=Nat.le_max_right _ _;have hm3:HZ b a<=48:=by unfold HZ;omega
 rw[J6];refine ⟨hd,hc,⟨by simp only[O4];omega,by simp only[O4];omega,by simp [O4,YA];omega,by simp [O4]⟩,?_,?_,by simp only[O4];omega,by simp [O4,YA];omega⟩
 ·simp only[O4,YA]
  rw[Aww];refine Amj _ _ λ i _ hi => ?_
  simp only[Ahr];refine ⟨by have:=Ahj (b:=b) (a:=a) (c:=c) (HZ b a) i;omega,λ t ht => ?_⟩;refine decide_eq_true ?_;rcases Aod ht with ⟨h1,h2,h3⟩|⟨h1,h2,h3,h4⟩|⟨h1,h2,h3⟩
  ·exact ⟨by omega,by omega,Or.inr (hb _ h3)⟩
  ·exact ⟨by omega,by omega,Or.inr (by simpa using (ha _ h4).2)⟩
  ·exact ⟨by omega,by omega,Or.inl h3⟩
 ·simp only[O4,YA,X2,List.all_eq_true,decide_eq_true_eq,List.mem_map,List.mem_range,List.length_map,List.length_range]
  rintro k ⟨i,hi,rfl⟩
  omega
theorem Af9 (hc:WV c):(pw c.f).natAbs<=2^24:=by
 unfold WV at hc;have hpl:=aV (n:=c.f) (m:=23) (by omega);have Fp:pw 23=8388608:=by unfold pw;rfl
 have:=O2 c.f
 show _<=16777216;omega
theorem Th {l:List Int} {sg fr:Int} (hs:sg=1\/sg = -1) (hl : ∀ v∈l,FT c v) : ∀ t∈K3 l sg fr,t.2.natAbs<=2^24:=by
 intro t ht;obtain ⟨i,v,hv,hi,rfl⟩:=uJ ht;have:=Abh (hl v hv)
 show (sg*v).natAbs<=16777216;rcases hs with rfl|rfl<;>omega
theorem AxU (hc:WV c) {fr:Int} : ∀ t∈K3 [pw c.f] 1 fr,t.2.natAbs<=2^24:=by
 intro t ht;obtain ⟨i,v,hv,hi,rfl⟩:=uJ ht;obtain rfl:=List.mem_singleton.1 hv;show (1*pw c.f).natAbs<=_;rw[Int.one_mul];exact Af9 hc
theorem Av3 (l1:b.length<=3) (l2:a.length<=2) (hb : ∀ v∈b,FT c v) (ha : ∀ v∈a,FT c v/\FT c (-v)):pM (II (OU b a d c)):=by
 constructor
 ·intro ts h
  simp only[II,OU,List.map_cons,List.map_nil,List.mem_singleton]at h;subst h;simp only[List.length_append,bJ];omega
 ·intro ts h
  simp only[II,OU,List.map_cons,List.map_nil,List.mem_singleton]at h;subst h;intro t ht;rcases List.mem_append.1 ht with h|h
  ·exact Th (Or.inl rfl) hb t h
  ·exact Th (Or.inr rfl) (λ v hv=>(ha v hv).1) t h
theorem AxP (hc:WV c) (l1:b.length<=3) (l2:a.length<=2) (hb : ∀ v∈b,FT c v) (ha : ∀ v∈a,FT c v/\FT c (-v)):pM (II (OX b a d c)):=by
 constructor
 ·intro ts h
  simp only[II,OX,List.map_cons,List.map_nil,List.mem_cons,List.not_mem_nil,or_false]at h;rcases h with rfl|rfl
  all_goals simp only[List.length_append,bJ,List.length_take,List.length_drop,List.length_cons,List.length_nil];omega
 ·intro ts h
  simp only[II,OX,List.map_cons,List.map_nil,List.mem_cons,List.not_mem_nil,or_false]at h;intro t ht;rcases h with rfl|rfl
  ·rcases List.mem_append.1 ht with h|h
   ·exact AxU hc t h
   ·exact Th (Or.inr rfl) (λ v hv=>(ha v hv).1) t h
  ·rcases List.mem_append.1 ht with h|h
   ·exact Th (Or.inl rfl) (λ v hv=>hb v (List.mem_of_mem_take hv)) t h
   ·exact Th (Or.inl rfl) (λ v hv=>hb v (List.mem_of_mem_drop hv)) t h
theorem AxM (hc:WV c) (hb : ∀ v∈b,FT c v) (ha : ∀ v∈a,FT c v/\FT c (-v)):pM (II (O4 b a d c)):=by
 have key : ∀ ts∈II (O4 b a d c),∃ i,ts=tK b a c (HZ b a) i:=by
  intro ts h;simp only[II,O4,YA,List.map_map,List.mem_map]at h;obtain ⟨i,_,rfl⟩:=h;exact ⟨i,Ahr _ _ _ _ _⟩
 constructor
 ·intro ts h
  obtain ⟨i,rfl⟩:=key ts h;have:=Ahj (b:=b) (a:=a) (c:=c) (HZ b a) i
  omega
 ·intro ts h t ht
  obtain ⟨i,rfl⟩:=key ts h;rcases Aod ht with ⟨h1,h2,h3⟩|⟨h1,h2,h3,h4⟩|⟨h1,h2,h3⟩
  ·have:=Abh (hb _ h3)
   show _<=16777216;omega
  ·have:=Abh (ha _ h4).1
   show _<=16777216;omega
  ·rw[h3];exact Af9 hc
end
end Go.c9

namespace Go.c9
open F
attribute [local irreducible] A0 B0 D8 BK IH DY FC E1 HI F9 IA LT GS EF HH H4 BD EU B9 pw IO H0 JM KX J9 GV IJ GT JW
set_option maxHeartbeats 8000000
set_option maxRecDepth 8000
variable {L:Lib}
structure IU (n:Nt):Prop where
 jb:NF n=true
 st:n.s<=4
 nl:n.nodes.length<=5
 cf : ∀ d∈n.nodes,∀ t∈d.ts,t.2.natAbs<=2^24
 tl:(∀ d∈n.nodes,d.ts.length<=3)\/(n.nodes.length<=1 /\ ∀ d∈n.nodes,d.ts.length<=5)
theorem Acc {n:Nt} {d:Nd} (h:d∈n.nodes):d.ts∈II n:=List.mem_map.2 ⟨d,h,rfl⟩
section
variable {b a:List Int} {d c:Wd}
theorem Av9 (hd:WV d) (hc:WV c) (l1:1<=b.length/\b.length<=3) (l2:a.length<=2) (hb : ∀ v∈b,FT c v) (ha : ∀ v∈a,FT c v/\FT c (-v)):IU (OU b a d c):=by
 have hs:=Av3 (d:=d) (by omega) l2 hb ha;refine ⟨At8 hd hc (by omega) (by omega) hb ha,by simp only[OU];omega,by simp [OU],λ x hx=>hs.cf _ (Acc hx),Or.inr ⟨by simp [OU],λ x hx=>hs.len _ (Acc hx)⟩⟩
theorem Awb (hd:WV d) (hc:WV c) (l1:1<=b.length/\b.length<=3) (l2:a.length<=2) (hb : ∀ v∈b,FT c v) (ha : ∀ v∈a,FT c v/\FT c (-v)):IU (OX b a d c):=by
 have hs:=AxP (d:=d) hc (by omega) l2 hb ha;have hm:HZ b a<=2:=by unfold HZ;omega
 refine ⟨AxO hd hc (by omega) (by omega) hb ha,by simp only[OX];omega,by simp [OX],λ x hx=>hs.cf _ (Acc hx),Or.inl λ x hx => ?_⟩;simp only[OX,List.mem_cons,List.not_mem_nil,or_false]at hx;rcases hx with rfl|rfl
 all_goals simp only[List.length_append,bJ,List.length_take,List.length_drop,List.length_cons,List.length_nil];omega
theorem Awa (hd:WV d) (hc:WV c) (l1:1<=b.length/\b.length<=3) (l2:a.length<=2) (hb : ∀ v∈b,FT c v) (ha : ∀ v∈a,FT c v/\FT c (-v)):IU (O4 b a d c):=by
 have hs:=AxM (d:=d) hc hb ha;have hm:HZ b a<=2:=by unfold HZ;omega
 refine ⟨AxL hd hc (by omega) (by omega) hb ha,by simp only[O4];omega,by simp [O4,YA];omega,λ x hx=>hs.cf _ (Acc hx),Or.inl λ x hx => ?_⟩;simp only[O4,YA,List.mem_map]at hx;obtain ⟨i,_,rfl⟩:=hx;simp only[Ahr];exact Ahj _ _
theorem Av8 {k v:List Int} (hd:WV d) (hc:WV c) (l1:k.length<=2) (l2:v.length=k.length+1) (hv : ∀ x∈v,FT c x) (hk : ∀ x∈k,FT c x/\FT c (-x)):IU (MO k v d c):=by
 have hp:=Af9 hc;have sm : ∀ x,FT c x->x.natAbs<=16777216:=λ x hx=>by have:=Abh hx;omega
 have hp':(pw c.f).natAbs<=16777216:=hp;rcases k with _|⟨x,_|⟨y,_|⟨z,k⟩⟩⟩
 ·rcases v with _|⟨a,_|⟨b,v⟩⟩
  ·simp at l2
  ·have h1:=hv a (by simp)
   have s1:=sm a h1;refine ⟨?_,by simp [MO],by simp [MO],?_,Or.inl ?_⟩
   ·simp [NF,MO,O0,X2,ON,hd,hc,h1]
   ·simp [MO];exact s1
   ·simp [MO]
  ·simp at l2
 ·rcases v with _|⟨a,_|⟨b,_|⟨e,v⟩⟩⟩
  ·simp at l2
  ·simp at l2
  ·have h1:=hv a (by simp)
   have h2:=hv b (by simp);obtain ⟨h3,h4⟩:=hk x (by simp);have s1:=sm a h1;have s2:=sm b h2;have s3:=sm x h3;refine ⟨?_,by simp [MO],by simp [MO],?_,Or.inl ?_⟩
   ·simp [NF,MO,O0,X2,ON,hd,hc,h1,h2,h3,h4]
   ·simp [MO]
    refine ⟨?_,?_,?_⟩<;>intro _ _ hh<;>omega
   ·simp [MO]
  ·simp at l2
 ·rcases v with _|⟨a,_|⟨b,_|⟨e,_|⟨g,v⟩⟩⟩⟩
  ·simp at l2
  ·simp at l2
  ·simp at l2
  ·have h1:=hv a (by simp)
   have h2:=hv b (by simp);have h5:=hv e (by simp);obtain ⟨h3,h4⟩:=hk x (by simp);obtain ⟨h6,h7⟩:=hk y (by simp);have s1:=sm a h1;have s2:=sm b h2;have s3:=sm x h3;have s4:=sm y h6;have s5:=sm e h5;refine ⟨?_,by simp [MO],by simp [MO],?_,Or.inl ?_⟩
   ·simp [NF,MO,O0,X2,ON,hd,hc,h1,h2,h3,h4,h5,h6,h7]
   ·simp [MO]
    refine ⟨?_,?_,?_,?_,?_⟩<;>intro _ _ hh<;>omega
   ·simp [MO]
  ·simp at l2
 ·simp at l1
end
theorem Awc {ck:Int} (l:List Int):(yF (HU ck) l).length<=2 /\ ∀ v∈yF (HU ck) l,FT (HU ck) v/\FT (HU ck) (-v):=by
 obtain ⟨hc,_,_⟩:=AiK ck;have hf:=AiJ ck;obtain ⟨h1,h2,h3,h4⟩:=sC hc;have cz:=hc;unfold WV at cz;have hp:=O2 (HU ck).f;have e1:=aV (n:=(HU ck).f+1) (m:=(HU ck).b-1) (by omega);have e2:pw ((HU ck).f+1)=2*pw (HU ck).f:=by
  unfold pw;rw[show ((HU ck).f+1).toNat=(HU ck).f.toNat+1 by omega,Int.pow_succ];omega
 have key : ∀ v:Int,-pw (HU ck).f<v/\v<pw (HU ck).f->FT (HU ck) v/\FT (HU ck) (-v):=λ v hv=>⟨⟨hc,by omega,by omega⟩,⟨hc,by omega,by omega⟩⟩
 have t1:=yU (b:=pw (HU ck).f*3/4) (by omega) (MS l 1);have t2:=yU (b:=pw (HU ck).f/2) (by omega) (MS l 1);have t3:=yU (b:=(pw (HU ck).f+dB (pw (HU ck).f/2) (MS l 1))/2) (by omega) (MS l 2);unfold yF;split
 ·simp
 split
 ·refine ⟨by simp,λ v hv => ?_⟩
  obtain rfl:=List.mem_singleton.1 hv;exact key _ (by omega)
 ·refine ⟨by simp,λ v hv => ?_⟩
  simp only[List.mem_cons,List.not_mem_nil,or_false]at hv;rcases hv with rfl|rfl
  ·exact key _ (by omega)
  ·exact key _ (by omega)
theorem Avk {k v:List Int} {d c:Wd} (l1:k.length<=2) : ∀ m∈(MO k v d c).nodes,m.q=false:=by
 rcases k with _|⟨x,_|⟨y,_|⟨z,k⟩⟩⟩
 ·simp [MO]
 ·simp [MO]
 ·simp [MO]
 ·simp at l1
theorem Aci (n:Nt) (h1:n.qn=false) (h2:n.qx=false) (h3 : ∀ m∈n.nodes,m.q=false):EA (.j5 [.agg (HV n),.bool true]):=by
 have h:=Ajq n h1 h2 h3;simp only[EA,GK,and_true,true_and]at h ⊢;exact h
theorem AsY (I:e8 L) (W:cj L) (N:il L) (kd dk ck:Int) (h0:LU kd) (h1:LU dk) (h2:LU ck) (b a:List Int) (q1 q2:Bool) (lb:b.length<9223372036854775808) (la:a.length<9223372036854775808) (oy : ∀ v∈a,LU v) :
  ∃ n:Nt,IU n/\Ev L 348 [.agg [.int .i64 kd,.int .i64 dk,.int .i64 ck,.sl q1 (b.map IM),.sl q2 (a.map IM)]] (.j5 [.agg (HV n),.bool true]):=by
 have D:w4 L:=N.tow4;obtain ⟨Kx,wz,Bh⟩:=ArC dk;obtain ⟨yf,Pu,Ek⟩:=AiK ck;have hk1:=oX (v:=(b.length:Int)) (m:=3) (by omega);have vh:=oX (v:=(a.length:Int)) (m:=3) (by omega);have hk0:=oX (v:=kd) (m:=4) (by omega);have hl:=sC yf;have hf:=AiJ ck;have cz:=yf;unfold WV at cz;have hp:=O2 (HU ck).f;have e1:=aV (n:=(HU ck).f+1) (m:=(HU ck).b-1) (by omega);have e2:pw ((HU ck).f+1)=2*pw (HU ck).f:=by
  unfold pw;rw[show ((HU ck).f+1).toNat=(HU ck).f.toNat+1 by omega,Int.pow_succ];omega
 have eb:=λ q=>AbZ W (pw ((HU ck).b-1)-1) (by omega) b q (1+J1 b.length 3).toNat (by omega)
 have ek:=λ q=>AbZ W (pw (HU ck).f*3/4) (by omega) a q (J1 a.length 3).toNat (by omega)
 have ev:=λ q=>AbZ W (pw ((HU ck).b-1)-1) (by omega) b q ((J1 a.length 3).toNat+1) (by omega)
 have eP:=λ q=>At0 W N (HU ck) yf a q oy
 obtain ⟨Mf,hQ⟩:=Awc (ck:=ck) a;rw[Int.toNat_of_nonneg (by omega)]at eb ek;have ev':((((J1 a.length 3).toNat+1:Nat)):Int)=J1 a.length 3+1:=by omega
 rw[ev']at ev;have w1:=tZ W b.length 3 (by unfold LU;omega) (by omega);have w2:=tZ W a.length 3 (by unfold LU;omega) (by omega);have w0:=tZ W kd 4 h0 (by omega);have hU:=At1 W (HU ck) yf;have lP:(WD (pw ((HU ck).b-1)-1) b (1+J1 b.length 3).toNat).length=(1+J1 b.length 3).toNat:=AdH _ _ _;have lV:(WD (pw ((HU ck).b-1)-1) b ((J1 a.length 3).toNat+1)).length=(J1 a.length 3).toNat+1:=AdH _ _ _;have lK:(WD (pw (HU ck).f*3/4) a (J1 a.length 3).toNat).length=(J1 a.length 3).toNat:=AdH _ _ _;have hP:=Aif yf b (1+J1 b.length 3).toNat;have hV:=Aif yf b ((J1 a.length 3).toNat+1);have hK : ∀ v∈WD (pw (HU ck).f*3/4) a (J1 a.length 3).toNat,-pw (HU ck).f<v/\v<pw (HU ck).f:=by
  intro v hv;simp only[WD,List.mem_map]at hv;obtain ⟨i,_,rfl⟩:=hv;have:=yU (b:=pw (HU ck).f*3/4) (by omega) (MS a i)
  omega
 have hKF : ∀ v∈WD (pw (HU ck).f*3/4) a (J1 a.length 3).toNat,FT (HU ck) v/\FT (HU ck) (-v):=λ v hv=>by
  have:=hK v hv
  exact ⟨⟨yf,by omega,by omega⟩,⟨yf,by omega,by omega⟩⟩
 generalize WD (pw ((HU ck).b-1)-1) b (1+J1 b.length 3).toNat=P at *;generalize WD (pw ((HU ck).b-1)-1) b ((J1 a.length 3).toNat+1)=V at *;generalize WD (pw (HU ck).f*3/4) a (J1 a.length 3).toNat=K at *;generalize yF (HU ck) a=Q at *;have f1:=λ q q'=>As5 I D P Q q q' (P0 dk) (HU ck) Kx yf (by omega) (by omega) (λ v h=>(hP v h).1) hQ
 have f2:=λ q q'=>As6 I D P Q q q' (P0 dk) (HU ck) Kx yf (by omega) (by omega) (λ v h=>(hP v h).1) hQ
 have f3:=λ q q'=>As7 I D P Q q q' (P0 dk) (HU ck) Kx yf (by omega) (by omega) (λ v h=>(hP v h).1) hQ
 have f4:=λ q q'=>Atg I N K V q q' (P0 dk) (HU ck) Kx yf (by omega) (by omega) (λ v h=>(hV v h).1) hKF hK
 have g1:=Av9 (d:=P0 dk) Kx yf (by omega) Mf (λ v h=>(hP v h).1) hQ;have g2:=Awb (d:=P0 dk) Kx yf (by omega) Mf (λ v h=>(hP v h).1) hQ;have g3:=Awa (d:=P0 dk) Kx yf (by omega) Mf (λ v h=>(hP v h).1) hQ;have g4:=Av8 (d:=P0 dk) (k:=K) (v:=V) Kx yf (by omega) (by omega) (λ v h=>(hV v h).1) hKF;have eD:=AtZ W dk h1;have eC:=AtY W ck h2;have hlK:((K.length:Nat):Int)+1=J1 a.length 3+1:=by omega
 by_cases k0:J1 kd 4=0
 ·refine ⟨_,g1,?_⟩
  have da:=Aci (OU P Q (P0 dk) (HU ck)) rfl rfl (by simp [OU]);generalize OU P Q (P0 dk) (HU ck)=n at *;refine Ev.x N.W5 rfl rfl ?_;(repeat' ((first|(apply B6<;>intro hc<;>try omega)|(apply DD;omega)|(apply F8;omega)|(refine NS ?_ (λ_ _ => ?_);omega)|(apply HN;omega)|apply C9|apply BL|refine BF (eD) ?_|refine BF (eC) ?_|refine BF (w1) ?_|refine BF (eb _) ?_|refine BF (eP _) ?_|refine BF (w0) ?_|refine BF (f1 _ _) ?_)<;>conv=>whnf))
  exact DH rfl da
 by_cases k1:J1 kd 4=1
 ·refine ⟨_,g2,?_⟩
  have da:=Aci (OX P Q (P0 dk) (HU ck)) rfl rfl (by simp [OX]);generalize OX P Q (P0 dk) (HU ck)=n at *;refine Ev.x N.W5 rfl rfl ?_;(repeat' ((first|(apply B6<;>intro hc<;>try omega)|(apply DD;omega)|(apply F8;omega)|(refine NS ?_ (λ_ _ => ?_);omega)|(apply HN;omega)|apply C9|apply BL|refine BF (eD) ?_|refine BF (eC) ?_|refine BF (w1) ?_|refine BF (eb _) ?_|refine BF (eP _) ?_|refine BF (w0) ?_|refine BF (f2 _ _) ?_)<;>conv=>whnf))
  exact DH rfl da
 by_cases k2:J1 kd 4=2
 ·refine ⟨_,g3,?_⟩
  have da:=Aci (O4 P Q (P0 dk) (HU ck)) rfl rfl (by simp [O4,YA]);generalize O4 P Q (P0 dk) (HU ck)=n at *;refine Ev.x N.W5 rfl rfl ?_;(repeat' ((first|(apply B6<;>intro hc<;>try omega)|(apply DD;omega)|(apply F8;omega)|(refine NS ?_ (λ_ _ => ?_);omega)|(apply HN;omega)|apply C9|apply BL|refine BF (eD) ?_|refine BF (eC) ?_|refine BF (w1) ?_|refine BF (eb _) ?_|refine BF (eP _) ?_|refine BF (w0) ?_|refine BF (f3 _ _) ?_)<;>conv=>whnf))
  exact DH rfl da
 ·refine ⟨_,g4,?_⟩
  have da:=Aci (MO K V (P0 dk) (HU ck)) rfl rfl (Avk (by omega));rw[<-hlK]at ev;generalize MO K V (P0 dk) (HU ck)=n at *;refine Ev.x N.W5 rfl rfl ?_;(repeat' ((first|(apply B6<;>intro hc<;>try omega)|(apply DD;omega)|(apply F8;omega)|(apply NA;omega)|(refine NS ?_ (λ_ _ => ?_);omega)|(refine Z2 ?_ ?_ (λ_ => ?_) (λ_ _ => ?_);omega;omega;all_goals try omega)|(apply HN;omega)|apply C9|apply BL|refine BF (eD) ?_|refine BF (eC) ?_|refine BF (w1) ?_|refine BF (w2) ?_|refine BF (eb _) ?_|refine BF (eP _) ?_|refine BF (w0) ?_|refine BF (hU) ?_|refine BF (ek _) ?_|refine BF (ev _) ?_|refine BF (f4 _ _) ?_)<;>conv=>whnf))
  exact DH rfl da
end Go.c9

namespace Go.c9
open F
attribute [local irreducible] A0 B0 D8 BK IH DY FC E1 HI F9 IA LT GS EF HH H4 BD EU B9 pw IO H0 JM KX J9 GV IJ GT JW
variable {L:Lib}
set_option maxHeartbeats 8000000
set_option maxRecDepth 8000
def OY (n:Nt) (fr:Nat):List Rat:=NP (Rat.divInt 1 (pw n.c.f)) ((fr:Int)-(n.s+1)) 0 (JF (n.s+1).toNat fr) (II n)
theorem At6 {l:List Rat} {m p:Nat} {x:Rat} (h:l[p]? = some x):(KE l m)[p]? = some (some x):=by
 have hi:=(zS h).1;rw[KE,List.getElem?_append_left (by rw[List.length_map];exact hi),List.getElem?_map,h];rfl
theorem AkD {l:List Rat} {m p:Nat} {x:Rat} (h:p<l.length):(KE l m).set p (some x)=KE (l.set p x) m:=by
 simp only[KE,List.length_set];rw[List.set_append,if_pos (by rw[List.length_map];exact h),List.map_set]
theorem AxR {m:Nat} {p:Int} (h:(m:Int)<=p):JF m p=List.replicate m 0:=by
 refine List.ext_getElem? λ i => ?_
 simp only[JF,List.getElem?_map,List.getElem?_replicate];by_cases hi:i<m
 ·rw[List.getElem?_range hi,if_pos hi]
  simp only[Option.map_some];rw[if_neg (by omega)]
 ·rw[List.getElem?_eq_none (by simpa using hi),if_neg hi];rfl
theorem AkV {n:Nt} (hn:IU n) {u:Rat} (hu:Bt 24 u) {ex:Int} {w:List Rat} (hw:Bs 0 w) : ∀ j,j<=n.nodes.length->Bs 40000 (NP u ex 0 w ((II n).take j)):=by
 intro j hj;have mf:=hn.nl;have o5:(II n).length=n.nodes.length:=by simp [II]
 have e:0+((II n).take j).length=j:=by rw[List.length_take,o5];omega
 have mem : ∀ ts∈(II n).take j,∃ d∈n.nodes,d.ts=ts:=λ ts h=>List.mem_map.1 (List.mem_of_mem_take h)
 rcases hn.tl with h|⟨h0,h⟩
 ·have h1:=Afa (ex:=ex) (m:=3) hu ((II n).take j) 0 w (λ ts ht=>by obtain ⟨d,hd,rfl⟩:=mem ts ht;exact h d hd) (λ ts ht=>by obtain ⟨d,hd,rfl⟩:=mem ts ht;exact hn.cf d hd) hw
  rw[e]at h1;intro x hx;refine (h1 x hx).le ?_;have:j<=5:=by omega
  rcases j with _|_|_|_|_|_|j
  all_goals first|decide|omega
 ·have h1:=Afa (ex:=ex) (m:=5) hu ((II n).take j) 0 w (λ ts ht=>by obtain ⟨d,hd,rfl⟩:=mem ts ht;exact h d hd) (λ ts ht=>by obtain ⟨d,hd,rfl⟩:=mem ts ht;exact hn.cf d hd) hw
  rw[e]at h1;intro x hx;refine (h1 x hx).le ?_;have:j<=1:=by omega
  rcases j with _|_|j
  all_goals first|decide|omega
theorem AkX (N:s8 L) (n:Nt) (fr:Nat) (hn:IU n) (hf:(fr:Int)<=n.s+n.nodes.length):A0 L [.code F.QN.body] (IQ 0 [.agg (HV n),.int .i64 (fr:Int)]) [] (λ tm M=>Adx F.QN 3 ((OY n fr).map eQ) tm M/\pK F.QN (.sl false ((OY n fr).map eQ)) tm M):=by
 obtain ⟨h1,h2,⟨h3a,h3b,h3c,h3d⟩,h4,h5,h6⟩:=(J6 n).1 hn.jb;have Lz:=h2;unfold WV at Lz;have o4:=hn.st;have mf:=hn.nl;obtain ⟨S,hS⟩ : ∃ S:Nat,n.s=(S:Int):=⟨n.s.toNat,by omega⟩;obtain ⟨T,hT⟩ : ∃ T:Nat,T=S+1+n.nodes.length:=⟨_,rfl⟩;have Dd:=PW N.toa7 0 (by omega);have zq:=PW N.toa7 1 (by omega);rw[show ((0:Int):Rat)=0 from rfl]at Dd;rw[show ((1:Int):Rat)=1 from rfl]at zq;have hF:=Ajw N.toer 1 (pw n.c.f) (by omega) (by have:=O2 n.c.f;have:=Af8 (n:=n.c.f) (by omega);omega) (by have:=O2 n.c.f;omega);have hu:Bt 24 (Rat.divInt 1 (pw n.c.f)):=by
  have e1:=O2 n.c.f;have e2:=aV (n:=n.c.f) (m:=23) (by omega);have e3:pw 23=8388608:=by unfold pw;rfl
  obtain ⟨e,he⟩:=Int.eq_ofNat_of_zero_le (show 0<=pw n.c.f by omega);rw[he]at e2 ⊢;rw[Rat.divInt_ofNat];refine Bt.mk (by decide) ?_;show _<=16777216;omega
 have o5:(II n).length=n.nodes.length:=by simp [II]
 have hlen : ∀ d∈n.nodes,d.ts.length<=5:=λ d hd=>by
  rcases hn.tl with h|⟨_,h⟩
  ·have:=h d hd;omega
  ·exact h d hd
 obtain ⟨ex,hex⟩ : ∃ ex:Int,ex=(fr:Int)-(n.s+1):=⟨_,rfl⟩;have hw:(JF (S+1) fr).length=S+1:=Vp _ _;have Zg : ∀ j,j<=n.nodes.length->Bs 40000 (NP (Rat.divInt 1 (pw n.c.f)) ex 0 (JF (S+1) fr) ((II n).take j)):=AkV hn hu (Bs.unit _ _ _);have ti : ∀ j,j<=n.nodes.length->(NP (Rat.divInt 1 (pw n.c.f)) ex 0 (JF (S+1) fr) ((II n).take j)).length=S+1+j:=λ j hj=>by
  rw[Afb,Vp,List.length_take,o5];omega
 have yh:=Auh (Rat.divInt 1 (pw n.c.f)) ex (JF (S+1) fr) (II n);have da:OY n fr=NP (Rat.divInt 1 (pw n.c.f)) ex 0 (JF (S+1) fr) ((II n).take n.nodes.length):=by
  rw[OY,hex,<-o5,List.take_length,hS];rfl
 rw[da];clear da;generalize Rat.divInt 1 (pw n.c.f)=u at *;refine id ?_;(repeat' ((first|(apply DD;omega)|apply C9|apply BL)<;>conv=>whnf))
 refine K9 (enc:=eO) none T rfl (by omega) (by omega) ?_;(conv=>whnf)
 skip
 refine K4 (λ i=>S+1-i) (λ(i:Nat)=>i<=S+1) (λ i=>[(24,.int .i64 i)]) (λ i=>[(22,22,.rw 3 ((KE (List.replicate i (0:Rat)) T).map eO))]) [] [] 0 (by rw[List.replicate_zero,xK];exact (by (conv=>whnf);exact ⟨rfl,rfl,rfl⟩)) (by omega) ?_;intro i p1 ih;by_cases hi:i<S+1
 ·have hs:=uB (l:=List.replicate i (0:Rat)) (m:=T) (x:=0) (by rw[List.length_replicate];omega)
  have hlf:=qC (l:=List.replicate i (0:Rat)) (m:=T) (by rw[List.length_replicate];omega);rw[List.length_replicate,<-List.replicate_succ']at hs;generalize KE (List.replicate i (0:Rat)) T=F0 at *;(repeat' ((first|(apply B6<;>intro hc<;>try omega)|(apply EL;omega)|apply BL|refine BF (Dd) ?_)<;>conv=>whnf))
  refine bZ (enc:=eO) (some 0) rfl (λ e=>by cases e<;>rfl) (by omega) ?_;(conv=>whnf)
  rw[hs];(repeat' ((first|(apply DD;omega)|fail)<;>conv=>whnf))
  exact FV [] (ih (i+1) (by omega) (by omega))
 have ei:i=S+1:=by omega
 clear ih;rw[ei];have hlf:=qC (l:=List.replicate (S+1) (0:Rat)) (m:=T) (by rw[List.length_replicate];omega);by_cases hfr:fr<S+1;focus
  have Hg:=AkD (l:=List.replicate (S+1) (0:Rat)) (m:=T) (x:=1) (p:=fr) (by rw[List.length_replicate];exact hfr);rw[AxT]at Hg;generalize KE (List.replicate (S+1) (0:Rat)) T=F0 at *;(repeat' ((first|(apply B6<;>intro hc<;>try omega)|(apply EL;omega)|apply BL|refine BF (zq) ?_)<;>conv=>whnf))
  refine bZ (enc:=eO) (some 1) rfl (λ e=>by cases e<;>rfl) (by omega) ?_;(conv=>whnf)
  rw[Hg]
 rotate_left
 focus
  rw[<-AxR (m:=S+1) (p:=fr) (by omega)]
 all_goals
  generalize JF (S+1) fr=w at *;(repeat' ((first|(apply B6<;>intro hc<;>try omega)|(refine NS ?_ (λ_ _ => ?_);omega)|apply C9|apply BL|refine BF (hF) ?_)<;>conv=>whnf))
  refine K7 (λ j=>n.nodes.length-j) (λ(j:Nat)=>j<=n.nodes.length) (λ j=>[(47,.int .i64 j)]) (λ j=>[(22,22,.rw 3 ((KE (NP u ex 0 w ((II n).take j)) T).map eO))]) 0 (by omega) ?_;clear p1;intro j p1 ih;by_cases hj:j<n.nodes.length
  ·obtain ⟨nd,hnd⟩ : ∃ nd,n.nodes[j]? = some nd:=⟨_,zE hj⟩
   have Io:n.nodes[(j:Int).toNat]? = some nd:=hnd;have vy:(II n)[j]? = some nd.ts:=by simp [II,hnd]
   have hbv:=Zg j p1;have pe:=ti j p1;have Ft:=yh j nd.ts vy;have Ql:=AfP h4 hnd;have hL:nd.ts.length<=5:=hlen _ (zM hnd);have hC:=hn.cf _ (zM hnd);generalize hV:NP u ex 0 w ((II n).take j)=V at *;have Hu:=qC (l:=V) (m:=T) (by omega);have ADy : ∀ (p:Nat) (x:Rat),V[p]? = some x->(KE V T)[p]? = some (some x):=λ p x h=>At6 h
   have hFs : ∀ x:Rat,(KE V T).set (S+1+j) (some x)=KE (V++[x]) T:=λ x=>by rw[<-pe];exact uB (by omega)
   have ADB : ∀ x y:Rat,(KE (V++[x]) T).set (S+1+j) (some y)=KE (V++[y]) T:=λ x y=>by
    rw[AkD (by rw[List.length_append,List.length_singleton];omega),<-pe,List.set_append,if_neg (by omega),Nat.sub_self];rfl
   have ADA : ∀ x:Rat,(KE (V++[x]) T).length=T:=λ x=>qC (by rw[List.length_append,List.length_singleton];omega)
   (repeat' ((first|(apply B6<;>intro hc<;>try omega)|apply C9|(refine E4 (by assumption) ?_ rfl ?_;omega)|apply BL|refine BF (Dd) ?_)<;>conv=>whnf))
   refine MR (λ t _=>nd.ts.length-t) (λ(t:Nat) (acc:Rat)=>t<=nd.ts.length/\acc=LJ V (nd.ts.take t)) (λ t acc=>[(56,.int .i64 t)]) (λ t acc=>[(11,11,.bx (eQ acc))]) 0 (0:Rat) ⟨by omega,rfl⟩ ?_;intro t acc ⟨p3,p4⟩ jh;have Ai:Bt 200125 acc:=by
    rw[p4];have a1:=hbv.sum (nd.ts.take t) (j:=24) (λ e he=>Bt.ofInt (hC e (List.mem_of_mem_take he)));refine a1.le (Nat.le_trans (zR _ (show (nd.ts.take t).length<=5 by rw[List.length_take];omega)) (by decide))
   by_cases ht:t<nd.ts.length
   ·obtain ⟨e,he⟩ : ∃ e,nd.ts[t]? = some e:=⟨_,zE ht⟩
    have oz:nd.ts[(t:Int).toNat]? = some e:=he;have Ym:=zM he;have m6:=List.all_eq_true.1 Ql e Ym;simp only[ON,decide_eq_true_eq]at m6;have hce:=hC e Ym;obtain ⟨x,hx⟩ : ∃ x,V[e.1.toNat]? = some x:=⟨_,zE (by omega)⟩;have hx2:=ADy _ _ hx;have Zj:((KE V T).map eO)[0+e.1.toNat]? = some (eO (some x)):=by rw[Nat.zero_add,List.getElem?_map,hx2];rfl
    have hxd:V.getD e.1.toNat 0=x:=by rw[List.getD_eq_getElem?_getD,hx];rfl
    have Ce:=hbv.at hx;have Oq:=An7 (vals:=V) he;rw[hxd]at Oq;have Hv:=xF N.toa7 Ce (by omega);have hE:=PW N.toa7 e.2 (by have:(2:Nat)^24=16777216:=rfl;omega);have hM:=XT N.toa7 Ce (Bt.ofInt hce) (by omega) (by omega);have hA:=YT N.toa7 Ai (Ce.mul (Bt.ofInt hce)) (by omega) (by omega);have z1:=sK (x:=x);generalize w3 x.num=sx at *;generalize KE V T=F0 at *;by_cases q2:sx=0
    ·have Am:=z1.1 q2
     (repeat' ((first|(apply B6<;>intro hc<;>try omega)|(apply EL;omega)|(refine E4 (by assumption) ?_ rfl ?_;omega)|apply BL)<;>conv=>whnf))
     refine dC Zj rfl ?_;(conv=>whnf)
     (repeat' ((first|(apply B6<;>intro hc<;>try omega)|(apply DD;omega)|refine BF (Hv) ?_)<;>conv=>whnf))
     have Qb:=jh (t+1) acc (by omega) ⟨by omega,by rw[Oq,Am,Rat.mul_zero,Rat.add_zero];exact p4⟩;exact GF [] (by (conv=>whnf);exact ⟨rfl,rfl,rfl⟩) Qb
    ·(repeat' ((first|(apply B6<;>intro hc<;>try omega)|(apply EL;omega)|(refine E4 (by assumption) ?_ rfl ?_;omega)|apply BL)<;>conv=>whnf))
     refine dC Zj rfl ?_;(conv=>whnf)
     (repeat' ((first|(apply B6<;>intro hc<;>try omega)|(apply EL;omega)|refine BF (Hv) ?_)<;>conv=>whnf))
     refine dC Zj rfl ?_;(conv=>whnf)
     (repeat' ((first|(apply DD;omega)|refine BF (hE) ?_|refine BF (hM) ?_|refine BF (hA) ?_)<;>conv=>whnf))
     have Qb:=jh (t+1) (acc+x*((e.2:Int):Rat)) (by omega) ⟨by omega,by rw[Oq,<-p4,Rat.mul_comm]⟩;exact GF [] (by (conv=>whnf);exact ⟨rfl,rfl,rfl⟩) Qb
   ·obtain rfl:t=nd.ts.length:=by omega
    clear jh;rw[List.take_length]at p4;have hMu:=XT N.toa7 Ai hu (by omega) (by omega);rw[<-p4]at Ft;have s1:=hFs (acc*u);have s2:=ADB (acc*u) 1;have l2:=ADA (acc*u);generalize KE V T=F0 at *;by_cases q5:(j:Int)=ex
    ·have q7:=q5
     first
     | (exfalso;omega)
     |(rw[if_pos q5]at Ft
       (repeat' ((first|(apply B6<;>intro hc<;>try omega)|(apply EL;omega)|(apply DD;omega)|apply BL|refine BF (hMu) ?_)<;>conv=>whnf))
       refine Z4 (enc:=eO) (S+1+j) (some (acc*u)) (by omega) rfl (λ e=>by cases e<;>rfl) (by omega) ?_;rw[s1];generalize KE (V++[acc*u]) T=F1 at *;(conv=>whnf)
       (repeat' ((first|(apply B6<;>intro hc<;>try omega)|(apply EL;omega)|(apply DD;omega)|refine BF (zq) ?_)<;>conv=>whnf))
       refine Z4 (enc:=eO) (S+1+j) (some 1) (by omega) rfl (λ e=>by cases e<;>rfl) (by omega) ?_;rw[s2,<-Ft];(conv=>whnf)
       (repeat' ((first|(apply DD;omega)|fail)<;>conv=>whnf))
       exact FV [] (ih (j+1) (by omega) (by omega)))
    ·rw[if_neg q5]at Ft
     (repeat' ((first|(apply B6<;>intro hc<;>try omega)|(apply EL;omega)|(apply DD;omega)|apply BL|refine BF (hMu) ?_)<;>conv=>whnf))
     refine Z4 (enc:=eO) (S+1+j) (some (acc*u)) (by omega) rfl (λ e=>by cases e<;>rfl) (by omega) ?_;rw[s1,<-Ft];(conv=>whnf)
     (repeat' ((first|(apply B6<;>intro hc<;>try omega)|(apply DD;omega))<;>conv=>whnf))
     exact FV [] (ih (j+1) (by omega) (by omega))
  ·obtain rfl:j=n.nodes.length:=by omega
   clear ih;have pe:=ti n.nodes.length p1;rw[xJ (by omega)];(repeat' ((first|(apply B6<;>intro hc<;>try omega)|apply BL)<;>conv=>whnf))
   refine ⟨⟨rfl,rfl,by rw[List.length_map];omega,rfl,aJ _⟩,?_⟩;(conv=>whnf)
   refine J2 (enc:=eQ) (λ_=>rfl) rfl (by omega) ?_;(conv=>whnf)
   exact DH rfl (by simp only[EA,true_and];exact aJ _)
theorem Atb (N:s8 L) (n:Nt) (fr:Nat) (hn:IU n) (hf:(fr:Int)<=n.s+n.nodes.length):aH L 351 [.agg (HV n),.int .i64 (fr:Int)] 3 ((OY n fr).map eQ):=aH.x N.QN rfl rfl (Ahx (AkX N n fr hn hf) λ_ _ h=>h.1)
theorem AjG (N:s8 L) (n:Nt) (fr:Nat) (hn:IU n) (hf:(fr:Int)<=n.s+n.nodes.length):Ev L 351 [.agg (HV n),.int .i64 (fr:Int)] (.sl false ((OY n fr).map eQ)):=Ev.x N.QN rfl rfl (Ahx (AkX N n fr hn hf) λ_ _ h=>h.2)
end Go.c9
