/-
  Gram of the program (layer 30).
-/
import Derived.Test.YtfnglkabkfmjcaaGreatB12
import Derived.Test.YtfnglkabkfmjcaaGreatB4
import Derived.Test.YtfnglkabkfmjcaaGreatB10
import Derived.Test.YtfnglkabkfmjcaaGreatB9
import Derived.Test.YtfnglkabkfmjcaaGreatB11
import Derived.Test.YtfnglkabkfmjcaaGreatB1
import Derived.Test.YtfnglkabkfmjcaaGreatB5
import Derived.Test.YtfnglkabkfmjcaaGreatB7
set_option linter.unusedSimpArgs false
set_option linter.unusedVariables false
set_option linter.unnecessarySimpa false
namespace Go.e8
open F
attribute [local irreducible] AA AF AP AD CB AU AW BA A6 B2 AM BO B8 C8 BN A3 BX B9 AB A8 AJ pw BK BI CJ CK CU CR CI BT CT
attribute [local irreducible] SH
variable {L:Lib}
set_option maxHeartbeats 16000000
set_option maxRecDepth 8000
theorem Akc {M:List (List (Option Rat))} {i j:Nat} {x:Rat} {r s:List (Option Rat)} (hr:M[i]? = some r) (hs:(M.set i (r.set j (some x)))[j]? = some s):aY M i j x=(M.set i (r.set j (some x))).set j (s.set i (some x)):=by
 have h1:M.getD i []=r:=by rw[List.getD_eq_getElem?_getD,hr];rfl
 have h2:(M.set i (r.set j (some x))).getD j []=s:=by rw[List.getD_eq_getElem?_getD,hs];rfl
 rw[aY,h1,h2]
theorem Ui {X:List Rat} {n:Nat} : ∀ u,u<=(BC n n).length->(S6 X n u).length=n /\ ∀ r∈S6 X n u,r.length=n
 | 0,_=>⟨by simp [S6],λ r hr=>by rw[List.eq_of_mem_replicate hr];simp⟩
 | u+1,h=>by
  have ih:=Ui (X:=X) (n:=n) u (by omega);obtain ⟨⟨i,j⟩,gb⟩ : ∃ p,(BC n n)[u]? = some p:=⟨_,zE (by omega)⟩;obtain ⟨g1,g2,g3⟩:=mX gb;have e:(BC n n).getD u (0,0)=(i,j):=by rw[List.getD_eq_getElem?_getD,gb];rfl
  rw[S6,e];exact Akd ih g1 g2
theorem Akb {X:List Rat} {n u i j:Nat} {x:Rat} (gb:(BC n n)[u]? = some (i,j)) (hx:X[u]? = some x):aY (S6 X n u) i j x=S6 X n (u+1):=by
 rw[S6,show (BC n n).getD u (0,0)=(i,j) by rw[List.getD_eq_getElem?_getD,gb];rfl,show X.getD u 0=x by rw[List.getD_eq_getElem?_getD,hx];rfl]
theorem AlZ (m:List (List Rat)):BJ 3 eO (m.map (·.map some))=BJ 3 eQ m:=by
 rw[BJ,BJ,List.map_map];refine List.map_congr_left λ r _ => ?_
 show some (3,(r.map some).map eO)=_;rw[List.map_map];rfl
structure W9 (A:List (List Rat)) (B:List Rat) (n k:Nat):Prop where
 sq:Sq n A
 lb:B.length=n
 ba:Ms k A
 bb:Bs k B
 mb:Ms 180 (gM A n)
 rb:Bs 180 (gR B n)
 sc : ∀ r∈CO (gM A n) ((gR B n).map λ x=>[x]),∀ j,Bt 180 (C1 (r.take j))
 wh:Ms 180 (whole (CO (gM A n) ((gR B n).map λ x=>[x])))
theorem Af7 {m:Nat} (h:1<=m/\m<=6):6^m*180<=1000000000000/\FD (6^m*180) m m<=1000000000000/\FD (6^m*180) m m+6^m*180<=1000000000000:=by
 rcases (show m=1\/m=2\/m=3\/m=4\/m=5\/m=6 by omega) with rfl|rfl|rfl|rfl|rfl|rfl<;>decide
theorem AiY (N:z8 L) (A:List (List Rat)) (B:List Rat) (n k:Nat) (h:W9 A B n k) (hk:k<=1000) (hn:n<=3) (q1 q2 q3:Bool) :
  ∃ v,Ev L 323 [.agg [.sl q1 (CN q2 A),.sl q3 (B.map eQ)]] v/\((¬ NS (BC n n).length (gM A n)/\v = .j9 [.sl false [],.int .i64 11])\/(NS (BC n n).length (gM A n) /\ ∃ X:List Rat,OT A B X n/\Bs 1000000000000 X/\v = .j9 [.sl false (eM (kM X n)),.int .i64 0])):=by
 have hlen:=mY hn;have cj:=h.sq.l;have hP:=λ q1 q2 q3=>Rk N q1 q2 q3 A B n cj hn
 have hE:=λ q1 q2 q3 p1 p2 h1 h2=>AiU N q1 q2 q3 A B n k p1 p2 h.sq h.lb h.ba h.bb (by omega) hn h1 h2
 refine Ev.xE N.UK rfl rfl ?_;(repeat' ((first|apply AR|apply AE)<;>conv=>whnf))
 unfold CU;refine ⟨⟨by omega,by omega,by simp only[EB];omega,by omega⟩,?_⟩;rw[Int.toNat_natCast,cj];(conv=>whnf)
 skip
 refine BQ (λ i=>n-i) (λ(i:Nat)=>i<=n) (λ i=>[(24,.int .i64 i)]) (λ i=>[(21,21,.mx (fz none ((BJ 3 eO (List.replicate n (List.replicate n none))).take i) n))]) [] [] 0 (by first|exact (by (conv=>whnf);exact ⟨rfl,rfl,rfl⟩)|(rw[List.take_zero,show fz (none:Option (Nat × List (List AV))) [] n=List.replicate n none by simp [fz]];exact (by (conv=>whnf);exact ⟨rfl,rfl,rfl⟩))) (by omega) ?_;intro i p1 ih;have fe:(BJ 3 eO (List.replicate n (List.replicate n (none:Option Rat)))).length=n:=by simp [BJ]
 have cp:((BJ 3 eO (List.replicate n (List.replicate n (none:Option Rat)))).take i).length=i:=by rw[List.length_take];omega
 have fo:=dI (z:=(none:Option (Nat × List (List AV)))) (l:=(BJ 3 eO (List.replicate n (List.replicate n (none:Option Rat)))).take i) (m:=n) (by omega);by_cases hi:i<n
 ·have js:=dJ (z:=(none:Option (Nat × List (List AV)))) (x:=some (3,(List.replicate n (none:Option Rat)).map eO)) (l:=(BJ 3 eO (List.replicate n (List.replicate n (none:Option Rat)))).take i) (m:=n) (by omega)
  rw[cp,<-Y6 (show (BJ 3 eO (List.replicate n (List.replicate n (none:Option Rat))))[i]? = some (some (3,(List.replicate n (none:Option Rat)).map eO)) by
   rw[BJ,List.getElem?_map,List.getElem?_replicate,if_pos hi];rfl)]at js
  generalize fz (none:Option (Nat × List (List AV))) ((BJ 3 eO (List.replicate n (List.replicate n (none:Option Rat)))).take i) n=J at *;(repeat' ((first|(apply AG<;>intro hc<;>try (exfalso;omega))|apply AR|apply AE)<;>conv=>whnf))
  refine EV (enc:=eO) none n rfl (by omega) (by omega) ?_;(conv=>whnf)
  (repeat' ((first|(apply AZ;omega)|fail)<;>conv=>whnf))
  unfold AP CJ;refine ⟨by simp,by omega,?_⟩;(conv=>whnf)
  rw[show 0+((i:Int)).toNat=i by omega,js];(repeat' ((first|(apply AY;omega)|fail)<;>conv=>whnf))
  exact BF [] (ih (i+1) (by omega) (by omega))
 have ei:i=n:=by omega
 clear ih fo;rw[ei,List.take_of_length_le (by omega),dH (by omega)];clear cp fe ei p1 hi i;by_cases vj:n=0
 ·subst vj
  have hz:(BC 0 0).length=0:=rfl;(repeat' ((first|(apply AG<;>intro hc<;>try (exfalso;omega))|apply AR|apply AE|refine AC (hP _ _ _) ?_)<;>conv=>whnf))
  refine ⟨.j9 [.sl false [],.int .i64 0],?_,Or.inr ⟨λ X hX _ j=>by rw[List.length_eq_zero_iff.1 hX];rfl,[],⟨rfl,λ i r s hr=>by cases hr⟩,⟨(λ x hx=>by cases hx),rfl⟩⟩⟩;(conv=>whnf)
  refine KR (z:=3) (en:=eQ) (ll:=([]:List (List Rat))) (λ_=>rfl) rfl rfl ?_;(conv=>whnf)
  exact AX rfl (IW [] 0)
 have xn:1<=(BC n n).length:=by
  rcases Y7 hn with rfl|rfl|rfl|rfl<;>first|omega|decide
 (repeat' ((first|(apply AG<;>intro hc<;>try (exfalso;omega))|apply AR|apply AE|refine AC (hP _ _ _) ?_)<;>conv=>whnf))
 refine BQ (λ u=>(BC n n).length-u) (λ(u:Nat)=>u<=(BC n n).length) (λ u=>[(45,.int .i64 u),(8,.row 8 0 1 0 u),(9,.row 9 0 3 0 u)]) (λ u=>[(8,8,.rw 1 (eM ((gM A n).take u))),(9,9,.rw 3 (((gR B n).take u).map eQ))]) [] [] 0 (by (conv=>whnf);exact ⟨rfl,rfl,rfl⟩) (by omega) ?_;intro u u1 uh;have Kz:(gM A n).length=(BC n n).length:=(dK A).l;have yi:=mD B n;by_cases hu:u<(BC n n).length
 ·obtain ⟨⟨i,j⟩,gb⟩ : ∃ p,(BC n n)[u]? = some p:=⟨_,zE hu⟩
  have Gz:(BC n n)[((u:Nat):Int).toNat]? = some (i,j):=gb;obtain ⟨g1,g2,g3⟩:=mX gb;have xo:(gM A n)[u]? = some (DY A n (i,j)):=by rw[gM,List.getElem?_map,gb];rfl
  have hrg:(gR B n)[u]? = some (bQ B i*bQ B j):=by rw[gR,List.getElem?_map,gb];rfl
  have Fc:=Y6 xo;have rm:=Y6 hrg;have Ka:((gM A n).take u).length=u:=by rw[List.length_take];omega
  have Pc:((gR B n).take u).length=u:=by rw[List.length_take];omega
  have Kw:=λ q1 q2 q3=>hE q1 q2 q3 i j g1 g2
  clear hE;generalize (gM A n).take u=G0 at *;generalize (gR B n).take u=R0 at *;generalize DY A n (i,j)=gr at *;generalize bQ B i*bQ B j=gy at *;(repeat' ((first|(apply AG<;>intro hc<;>try (exfalso;omega))|(apply AZ;omega)|(refine A9 (by assumption) ?_ rfl ?_;omega)|apply EE|apply AE|refine AC (Kw _ _ _) ?_)<;>conv=>whnf))
  refine ES (enc:=λ r:List Rat=>[AV.sl false (r.map eQ)]) gr rfl Ka.symm rfl (by omega) (by omega) ?_;(conv=>whnf)
  (repeat' (apply EE<;>conv=>whnf))
  refine ES (enc:=eQ) gy rfl Pc.symm rfl (by omega) (by omega) ?_;(conv=>whnf)
  rw[<-Fc,<-rm,show ((gM A n).take (u+1)).length=u+1 by rw[List.length_take];omega,show ((gR B n).take (u+1)).length=u+1 by rw[List.length_take];omega];(repeat' ((first|(apply AY;omega)|fail)<;>conv=>whnf))
  exact BF [(8,58),(9,62)] (uh (u+1) (by omega) (by omega))
 have eu:u=(BC n n).length:=by omega
 clear uh hE;rw[eu,List.take_of_length_le (by omega),List.take_of_length_le (by omega)];clear eu u1 hu u;obtain ⟨d1,d2,d3⟩:=Af7 (m:=(BC n n).length) ⟨xn,hlen⟩;have Lm:=λ q q1 q2=>AiK N.toah q q1 q2 (gM A n) (gR B n) (BC n n).length 180 180 (dK A).l (dK A).r yi (by omega) (by omega) (by omega) h.mb h.rb h.sc h.wh d1 d2 (B0:=1000000000000) d3
 have hGS : ∀ y:List Rat,y.length=(BC n n).length->(∀ (i:Nat) (r:List Rat) (s:Rat),(gM A n)[i]? = some r->(gR B n)[i]? = some s->A4 r y=s)->OT A B y n:=λ y h1 h2=>⟨h1,h2⟩
 generalize gM A n=G at *;generalize gR B n=R at *;(repeat' ((first|(apply AG<;>intro hc<;>try (exfalso;omega))|apply AE)<;>conv=>whnf))
 refine DH (enc:=λ r:List Rat=>[AV.sl false (r.map eQ)]) (λ_=>rfl) rfl Kz.symm ?_;(conv=>whnf)
 refine DH (enc:=eQ) (λ_=>rfl) rfl yi.symm ?_;(conv=>whnf)
 obtain ⟨v,hv,db⟩:=Lm true false true;rcases db with ⟨gl,rfl⟩|⟨gl,X,rfl,yo,zq,hX⟩
 ·(repeat' ((first|(apply AG<;>intro hc<;>try (exfalso;omega))|refine AC (hv) ?_)<;>conv=>whnf))
  refine ⟨.j9 [.sl false [],.int .i64 11],?_,Or.inl ⟨gl,rfl⟩⟩;(conv=>whnf)
  exact AX rfl (IW [] 11)
 ·have Gx:=hGS X yo hX
  clear hGS hX;(repeat' ((first|(apply AG<;>intro hc<;>try (exfalso;omega))|apply AR|refine AC (hv) ?_)<;>conv=>whnf))
  refine BQ (λ u=>(BC n n).length-u) (λ(u:Nat)=>u<=(BC n n).length) (λ u=>[(75,.int .i64 u)]) (λ u=>[(21,21,.mx (BJ 3 eO (S6 X n u)))]) [] [] 0 (by (conv=>whnf);exact ⟨rfl,rfl,rfl⟩) (by omega) ?_;intro u u1 uh;by_cases hu:u<(BC n n).length
  ·obtain ⟨⟨i,j⟩,gb⟩ : ∃ p,(BC n n)[u]? = some p:=⟨_,zE hu⟩
   have Gz:(BC n n)[((u:Nat):Int).toNat]? = some (i,j):=gb;obtain ⟨g1,g2,g3⟩:=mX gb;obtain ⟨x,hx⟩ : ∃ x,X[u]? = some x:=⟨_,zE (by omega)⟩;have gv:X[((u:Nat):Int).toNat]? = some x:=hx;have hT:=lZ N.tob7 (zq.at hx) (by omega);have Dq:=Akb gb hx;obtain ⟨f1,f2⟩:=Ui (X:=X) (n:=n) u (by omega);generalize S6 X n u=M0 at *;obtain ⟨r0,w8⟩ : ∃ r,M0[i]? = some r:=⟨_,zE (by omega)⟩;have dp:=f2 r0 (zM w8);obtain ⟨s0,fc⟩ : ∃ s,(M0.set i (r0.set j (some x)))[j]? = some s:=⟨_,zE (by rw[List.length_set];omega)⟩;have Bn:s0.length=n:=by
    rcases List.mem_or_eq_of_mem_set (zM fc) with hs|rfl
    ·exact f2 s0 hs
    ·rw[List.length_set];exact dp
   rw[Akc w8 fc]at Dq;have eb:(M0.set i (r0.set j (some x))).length=n:=by rw[List.length_set];exact f1
   (repeat' ((first|(apply AG<;>intro hc<;>try (exfalso;omega))|(apply AZ;omega)|(refine A9 (by assumption) ?_ rfl ?_;omega)|(refine FW ?_ (λ r hr => ?_);omega)|apply AE)<;>conv=>whnf))
   cases w8.symm.trans hr;(repeat' (refine AC (hT) ?_<;>conv=>whnf))
   refine AZ (by rw[List.length_map];exact (by omega)) ?_;(conv=>whnf)
   (repeat' ((first|refine GH (by assumption) ?_|fail)<;>conv=>whnf))
   refine FX (enc:=eO) (some x) rfl (λ e=>by cases e<;>rfl) (by omega) ?_;(conv=>whnf)
   refine oP (by rw[List.length_set]) ?_;(conv=>whnf)
   generalize M0.set i (r0.set j (some x))=M1 at *;(repeat' ((first|(apply AZ;omega)|(refine A9 (by assumption) ?_ rfl ?_;omega)|(refine FW ?_ (λ r hr => ?_);omega))<;>conv=>whnf))
   cases fc.symm.trans hr;(repeat' (refine AC (hT) ?_<;>conv=>whnf))
   refine AZ (by rw[List.length_map];exact (by omega)) ?_;(conv=>whnf)
   (repeat' ((first|refine GH (by assumption) ?_|fail)<;>conv=>whnf))
   refine FX (enc:=eO) (some x) rfl (λ e=>by cases e<;>rfl) (by omega) ?_;(conv=>whnf)
   refine oP (by rw[List.length_set]) ?_;rw[Dq];(conv=>whnf)
   (repeat' ((first|(apply AY;omega)|fail)<;>conv=>whnf))
   exact BF [] (uh (u+1) (by omega) (by omega))
  ·have eu:u=(BC n n).length:=by omega
   clear uh;have Ay:=(gX X n).l;rw[eu,Aka hn Gx.1,AlZ];generalize hQ:kM X n=Q at *;(repeat' ((first|(apply AG<;>intro hc<;>try (exfalso;omega))|apply AE)<;>conv=>whnf))
   refine ⟨.j9 [.sl false (eM Q),.int .i64 0],?_,Or.inr ⟨gl,X,Gx,zq,by rw[hQ]⟩⟩;(conv=>whnf)
   refine KR (λ_=>rfl) rfl Ay.symm ?_;(conv=>whnf)
   exact AX rfl (IW Q 0)
theorem AiI (N:z8 L) (A:List (List Rat)) (B:List Rat) (n k:Nat) (h:W9 A B n k) (hk:k<=1000) (hn:n<=3) (q1 q2 q3:Bool) :
  ∃ v,Ev L 324 [.sl q1 (CN q2 A),.sl q3 (B.map eQ)] v/\(((∀ j,j<=6->D6 (CF n A j)=false)/\v = .j9 [.sl false [],.int .i64 14])\/((∃ i,i<=6/\SI n A i)/\((¬ NS (BC n n).length (gM A n)/\v = .j9 [.sl false [],.int .i64 11])\/(NS (BC n n).length (gM A n) /\ ∃ X:List Rat,OT A B X n/\v = .j9 [.sl false (eM (kM X n)),.int .i64 0])))):=by
 have cj:=h.sq.l;have ic:=h.lb;obtain ⟨v,Cm,db⟩:=Ajj N.toae q1 q2 A n k h.sq h.ba (by omega) (by omega);obtain ⟨w,hF,Nv⟩:=AiY N A B n k h hk hn q1 q2 q3;refine Ev.xE N.UF rfl rfl ?_;(repeat' ((first|(apply AG<;>intro hc<;>try (exfalso;omega))|apply AR|apply AE)<;>conv=>whnf))
 refine BQ (λ i=>n-i) (λ(i:Nat)=>i<=n) (λ i=>[(22,.int .i64 i)]) (λ_=>[]) [] [] 0 (by (conv=>whnf);exact ⟨rfl,rfl,rfl⟩) (by omega) ?_;intro i p1 ih;by_cases hi:i<n
 ·obtain ⟨r,w8⟩ : ∃ r,A[i]? = some r:=⟨_,zE (by omega)⟩
  have ka:A[((i:Nat):Int).toNat]? = some r:=w8;have dp:=h.sq.at w8;(repeat' ((first|(apply AG<;>intro hc<;>try (exfalso;omega))|(apply AY;omega)|apply AR|(refine A9 (by assumption) ?_ rfl ?_;omega)|apply AE)<;>conv=>whnf))
  exact BF [] (ih (i+1) (by omega) (by omega))
 have ei:i=n:=by omega
 clear ih;rw[ei];rcases db with ⟨i0,i1,i2,rfl⟩|⟨i1,rfl⟩
 ·rcases Nv with ⟨gl,rfl⟩|⟨gl,X,hX,_,rfl⟩
  ·(repeat' ((first|(apply AG<;>intro hc<;>try (exfalso;omega))|apply AE|refine AC (Cm) ?_|refine AC (hF) ?_)<;>conv=>whnf))
   exact ⟨_,AX rfl (IW [] 11),Or.inr ⟨⟨i0,i1,i2⟩,Or.inl ⟨gl,rfl⟩⟩⟩
  ·generalize hQ:kM X n=Q at *
   (repeat' ((first|(apply AG<;>intro hc<;>try (exfalso;omega))|apply AE|refine AC (Cm) ?_|refine AC (hF) ?_)<;>conv=>whnf))
   exact ⟨_,AX rfl (IW Q 0),Or.inr ⟨⟨i0,i1,i2⟩,Or.inr ⟨gl,X,hX,by rw[hQ]⟩⟩⟩
 ·(repeat' ((first|(apply AG<;>intro hc<;>try (exfalso;omega))|apply AE|refine AC (Cm) ?_)<;>conv=>whnf))
  exact ⟨_,AX rfl (IW [] 14),Or.inl ⟨i1,rfl⟩⟩
end Go.e8
namespace Go.e8
open F
attribute [local irreducible] AA AF AP AD CB AU AW BA A6 B2 AM BO B8 C8 BN A3 BX B9 AB A8 AJ pw BK BI CJ CK CU CR CI BT CT
variable {L:Lib}
set_option maxHeartbeats 16000000
theorem AjI (N:jv L) (q q':Bool) (a:List (List Rat)) (n w:Nat) (hn:a.length=n) (hw : ∀ r∈a,r.length=w) (h1:1<=n/\n<=52) (h2:1<=w/\w<=52):Ev L 239 [.sl q (CN q' a)] (.bool true):=by
 obtain ⟨r0,w8⟩ : ∃ r,a[0]? = some r:=⟨_,zE (by omega)⟩;have Dt:a[(0:Int).toNat]? = some r0:=w8;have nn:=hw r0 (zM w8);refine Ev.x N.WA rfl rfl ?_;(repeat' ((first|(apply AG<;>intro hc<;>try (exfalso;omega))|apply AR|(refine A9 (by assumption) ?_ rfl ?_;omega)|apply AE)<;>conv=>whnf))
 refine BQ (λ i=>n-i) (λ(i:Nat)=>i<=n) (λ i=>[(29,.int .i64 i)]) (λ_=>[]) [] [] 0 (by (conv=>whnf);exact ⟨rfl,rfl,rfl⟩) (by omega) ?_;intro i p1 ih;by_cases hi:i<n
 ·obtain ⟨r,hr⟩ : ∃ r,a[i]? = some r:=⟨_,zE (by omega)⟩
  have ka:a[(i:Int).toNat]? = some r:=hr;have hl:=hw r (zM hr);(repeat' ((first|(apply AG<;>intro hc<;>try (exfalso;omega))|(apply AY;omega)|apply AR|(refine A9 (by assumption) ?_ rfl ?_;omega)|apply AE)<;>conv=>whnf))
  exact BF [] (ih (i+1) (by omega) (by omega))
 ·obtain rfl:i=n:=by omega
  clear ih;(repeat' ((first|(apply AG<;>intro hc<;>try (exfalso;omega))|apply AE)<;>conv=>whnf))
  exact GG rfl
theorem Ajo (N:dj L) {x y:Rat} {k l:Nat} (hx:Bt k x) (hy:Bt l y) (hk:k<2199023255552) (hl:l<2199023255552) (h0:y≠0):Ev L 276 [.agg (eQ x),.agg (eQ y)] (.agg (eQ (x/y))):=by
 have hD:=AiT N.tou9 hx hy hk hl h0;refine Ev.x N.V6 rfl rfl ?_;(repeat' ((first|(apply AG<;>intro hc<;>try (exfalso;omega))|apply AE|refine AC (hD) ?_)<;>conv=>whnf))
 exact AX rfl (DJ _)
theorem AeY {R:List (Option (Nat × List (List AV)))} {e:Nat} {r:Option (Nat × List (List AV))} {K:Option (Nat × List (List AV))->Prop} (h:R[e]? = some r) (hk:K r):BK R e K:=by
 unfold BK;exact ⟨r,h,hk⟩
theorem sY {α:Type} {a b:List α} {j:Nat} {x:α} (hl:a.length=b.length) (hx:b[j]? = some x):(a.take j++b.drop j)[j]? = some x:=by
 have h1:=(zS hx).1;have ht:(a.take j).length=j:=by rw[List.length_take];omega
 rw[List.getElem?_append_right (by omega),ht,Nat.sub_self,List.getElem?_drop];exact hx
theorem sZ {α:Type} {a b:List α} {j:Nat} {y:α} (hl:a.length=b.length) (hy:a[j]? = some y):(a.take j++b.drop j).set j y=a.take (j+1)++b.drop (j+1):=by
 have h1:=(zS hy).1;have ht:(a.take j).length=j:=by rw[List.length_take];omega
 rw[List.set_append_right _ _ (by omega),ht,Nat.sub_self,List.drop_eq_getElem_cons (by omega),List.set_cons_zero,List.take_add_one,hy,List.append_assoc];rfl
def E0 (k0:Nat):Nat->Nat
 | 0=>k0
 | c+1=>4*E0 k0 c+1
theorem Wc (k0:Nat) {c:Nat} : ∀ d,E0 k0 c<=E0 k0 (c+d)
 | 0=>Nat.le_refl _
 | d+1=>by
  have:=Wc k0 (c:=c) d
  show E0 k0 c<=4*E0 k0 (c+d)+1;omega
theorem We (N:dj L) (q1 q2 q3 q4:Bool) (a b T:List (List Rat)) (n W K:Nat) (hn:1<=n/\n<=10) (hW:1<=W/\W<=10) (hK:K<=10000000000) {m:List (List Rat)} {k c:Nat} {d:Rat} {t:List Rat} (hR:EK T b n W m k c) (hM:Ms K m) (Dk:k<n) (qf:c<n) (ht:m[k]? = some t) (hp:t.getD c 0≠0) {kk:List It} {Q:Tm->Mem->Prop}
  (bm : ∀ m2:List (List Rat),EK T b n W m2 (k+1) (c+1)->Ms (4*K+1) m2->AA L (.lp G1.l1 :: .j5 0::kk) ([(8,.int .i64 ((c+1:Nat):Int)),(6,.int .i64 ((k+1:Nat):Int)),(7,.ptr 901007 0 0 0),(5,.ptr 901005 0 0 0),(0,.row 277003 0 1 0 n),(0+1,.int .i64 n)]++[(1000+38,.int .i64 n),(1000+37,.sl q1 (CN q2 a)),(1000+36,.row 277003 0 1 0 n),(1000+20,.bool false),(1000+19,.int .i64 n),(1000+18,.int .i64 n),(1000+6,.row 277003 0 1 0 n),(1000+0,.sl q1 (CN q2 a)),(1000+(0+1),.sl q3 (CN q4 b))]) [(277003,277003,.mx (BJ 3 eQ m2)),(901007,901007,.bx (eQ d)),(901005,901005,.bx [.bool false,.nil,.nil])] Q) :
  AA L (.lp G1.l3 :: .j5 4 :: .code ((((BH.ops G1.fw false).dr [10,82,83,84,102] []).seq (BH.block 6 G1.l4.loop)).seq ((BH.ops G1.Ar false).dr [103,104,105,155,156] [])) :: .j5 1 :: .code ((BH.ops G1.r4 false).dr [9,25,26,48] []) :: .lp G1.l1 :: .j5 0::kk)
   ([(83,.int .i64 ((0:Nat):Int)),(82,.int .i64 ((n+W:Nat):Int)),(10,.ptr 901010 0 0 0),(8,.int .i64 c),(6,.int .i64 k),(7,.ptr 901007 0 0 0),(5,.ptr 901005 0 0 0),(0,.row 277003 0 1 0 n),(0+1,.int .i64 n)]++[(1000+38,.int .i64 n),(1000+37,.sl q1 (CN q2 a)),(1000+36,.row 277003 0 1 0 n),(1000+20,.bool false),(1000+19,.int .i64 n),(1000+18,.int .i64 n),(1000+6,.row 277003 0 1 0 n),(1000+0,.sl q1 (CN q2 a)),(1000+(0+1),.sl q3 (CN q4 b))])
   [(277003,277003,.mx (BJ 3 eQ m)),(901007,901007,.bx (eQ d)),(901010,901010,.bx (eQ (t.getD c 0))),(901005,901005,.bx [.bool false,.nil,.nil])] Q:=by
 have fe:=hR.len;have cp:=hR.wid t (zM ht);have yx:=hM.at ht;have hpb:=Bs.getD yx c;have Ba:=OV.start hR ht hp (λ q r hq=>hM.at hq);have Co:=YU (z:=3) ht;have Lj:(BJ 3 eQ m).length=n:=by simp only[BJ,List.length_map];omega
 have En:(BJ 3 eQ m).set k (some (3,(t.map (· / t.getD c 0)).map eQ))=BJ 3 eQ (m.set k (t.map (· / t.getD c 0))):=by simp only[BJ,List.map_set]
 have Gu:(t.map (· / t.getD c 0)).length=n+W:=by rw[List.length_map];exact cp
 have vg : ∀ (j:Nat) (x:Rat),t[j]? = some x->(t.map (· / t.getD c 0))[j]? = some (x/t.getD c 0):=λ j x hx=>by rw[List.getElem?_map,hx];rfl
 generalize t.map (· / t.getD c 0)=u at *;generalize t.getD c 0=p at *;refine bX (l:=[_,_]) rfl ?_;generalize BJ 3 eQ m=R0 at *;have zm:R0.set k (some (3,t.map eQ))=R0:=uU Co;refine BQ (λ j=>n+W-j) (λ(j:Nat)=>j<=n+W) (λ j=>[(83,.int .i64 j)]) (λ j=>[(277003,277003,.mx (R0.set k (some (3,(u.take j++t.drop j).map eQ))))]) [] [] 0 (by first|exact (by (conv=>whnf);exact ⟨rfl,rfl,rfl⟩)|(rw[List.take_zero,List.drop_zero,List.nil_append,zm];exact (by (conv=>whnf);exact ⟨rfl,rfl,rfl⟩))) (by omega) ?_;intro j j1 jh;have o4:(u.take j++t.drop j).length=n+W:=by rw[List.length_append,List.length_take,List.length_drop];omega
 by_cases hj:j<n+W
 ·obtain ⟨x,hx⟩ : ∃ x,t[j]? = some x:=⟨_,zE (by omega)⟩
  have Hi:=sY (a:=u) (by omega) hx;have mw:=sZ (a:=u) (b:=t) (by omega) (vg j x hx);have hO:=Ajo N (yx.at hx) hpb (by omega) (by omega) hp;generalize u.take j++t.drop j=cm at *;(repeat' ((first|(apply AG<;>intro hc<;>try (exfalso;omega))|(apply AZ;omega)|apply AE)<;>conv=>whnf))
  refine aE (by omega) (by omega) ?_;(conv=>whnf)
  (repeat' ((first|(apply AZ;omega)|fail)<;>conv=>whnf))
  refine aE (by omega) (by omega) ?_;(conv=>whnf)
  skip
  refine AZ (by rw[List.length_map];omega) ?_;(conv=>whnf)
  skip
  refine X7 (by omega) (by omega) ?_;(conv=>whnf)
  (repeat' ((first|(refine GI ?_ (λ_=>rfl) (λ v hv => ?_);omega)|fail)<;>conv=>whnf))
  cases Hi.symm.trans hv;(repeat' (refine AC (hO) ?_<;>conv=>whnf))
  refine AZ (by rw[List.length_map];omega) ?_;(conv=>whnf)
  skip
  refine X7 (by omega) (by omega) ?_;(conv=>whnf)
  refine FX (enc:=eQ) (x/p) rfl (λ_=>rfl) (by omega) ?_;rw[mw];(conv=>whnf)
  refine jZ (by omega) (by rw[List.length_map,List.length_map,<-mw,List.length_set]) ?_;(conv=>whnf)
  (repeat' ((first|(apply AY;omega)|fail)<;>conv=>whnf))
  exact BF [] (jh (j+1) (by omega) (by omega))
 ·have ej:j=n+W:=by omega
  clear jh;rw[ej,List.take_of_length_le (by omega),List.drop_of_length_le (by omega),List.append_nil,En];clear o4 hj j1 ej j En Co Lj zm vg Gu;have jk:=Ba.red.len;generalize m.set k u=m2 at *;(repeat' ((first|(apply AG<;>intro hc<;>try (exfalso;omega))|apply AE)<;>conv=>whnf))
  refine bX (l:=[_,_]) rfl ?_;clear ht hM yx hR fe hpb cp t hp;have lq:=Ba.red.wid u (zM Ba.ht);have pf:=Ba.bt;refine F8 (λ_ i=>n-i) (λ(m:List (List Rat)) (i:Nat)=>OV T b n W K k c u m i/\i<=n) (λ_ i=>[(104,.int .i64 i)]) (λ m _=>[(277003,277003,.mx (BJ 3 eQ m))]) [] [] m2 0 (by (conv=>whnf);exact ⟨rfl,rfl,rfl⟩) ⟨Ba,by omega⟩ ?_;clear Ba jk;intro m i ⟨hS,i1⟩ ih;have fe:=hS.red.len;by_cases hi:i<n
  ·obtain ⟨rq,gn⟩ : ∃ r,m[i]? = some r:=⟨_,zE (by omega)⟩
   have yu:=hS.red.wid rq (zM gn);have uo:Bs (2*K) rq:=by
    by_cases e:i=k
    ·have h1:=hS.ht
     rw[<-e]at h1;cases h1.symm.trans gn;exact pf
    ·exact λ y hy=>(hS.hi i rq (Nat.le_refl _) e gn y hy).le (by omega)
   have uq:rq[c]? = some (rq.getD c 0):=ZQ (by omega);have Gv:=uo.at uq;obtain ⟨sg,zo,hz⟩:=Qi N.tou9 Gv (by omega);by_cases pc:i=k
   ·have l9:=hS.same (λ h=>absurd pc h)
    generalize rq.getD c 0=f at *;(repeat' ((first|(apply AG<;>intro hc<;>try (exfalso;omega))|(apply AZ;omega)|(refine FW ?_ (λ r hr => ?_);omega)|apply AE)<;>conv=>whnf))
    cases gn.symm.trans hr;refine AZ (by rw[List.length_map];omega) ?_;(conv=>whnf)
    (repeat' ((first|(apply AG<;>intro hc<;>try (exfalso;omega))|(apply AY;omega)|(refine GI ?_ (λ_=>rfl) (λ v hv => ?_);omega)|refine GH (by assumption) ?_)<;>conv=>whnf))
    exact BF [] (ih m (i+1) (by omega) ⟨l9,by omega⟩)
   ·by_cases uy:sg=0
    ·have Mq:=hz.1 uy
     have l9:=hS.same (λ_ r h=>by cases gn.symm.trans h;exact Mq);generalize rq.getD c 0=f at *;(repeat' ((first|(apply AG<;>intro hc<;>try (exfalso;omega))|(apply AZ;omega)|(refine FW ?_ (λ r hr => ?_);omega)|apply AE)<;>conv=>whnf))
     cases gn.symm.trans hr;refine AZ (by rw[List.length_map];omega) ?_;(conv=>whnf)
     (repeat' ((first|(apply AG<;>intro hc<;>try (exfalso;omega))|(refine GI ?_ (λ_=>rfl) (λ v hv => ?_);omega)|refine GH (by assumption) ?_)<;>conv=>whnf))
     cases uq.symm.trans hv;(repeat' ((first|(apply AG<;>intro hc<;>try (exfalso;omega))|(apply AY;omega)|refine AC (zo) ?_)<;>conv=>whnf))
     exact BF [] (ih m (i+1) (by omega) ⟨l9,by omega⟩)
    ·have l9:=hS.step gn pc
     have Co:=YU (z:=3) gn;have hRk:=YU (z:=3) hS.ht;have Lj:(BJ 3 eQ m).length=n:=by simp only[BJ,List.length_map];omega
     have En:(BJ 3 eQ m).set i (some (3,(lv (rq.getD c 0) rq u).map eQ))=BJ 3 eQ (m.set i (lv (rq.getD c 0) rq u)):=by simp only[BJ,List.map_set]
     have o4:(lv (rq.getD c 0) rq u).length=n+W:=by rw[pQ (by omega)];exact yu
     have od : ∀ (j:Nat) (x y:Rat),rq[j]? = some x->u[j]? = some y->(lv (rq.getD c 0) rq u)[j]? = some (x-rq.getD c 0*y):=λ j x y h1 h2=>yS h1 h2
     generalize lv (rq.getD c 0) rq u=cb at *;generalize rq.getD c 0=f at *;(repeat' ((first|(apply AG<;>intro hc<;>try (exfalso;omega))|(apply AZ;omega)|(refine FW ?_ (λ r hr => ?_);omega)|apply AE)<;>conv=>whnf))
     cases gn.symm.trans hr;refine AZ (by rw[List.length_map];omega) ?_;(conv=>whnf)
     (repeat' ((first|(apply AG<;>intro hc<;>try (exfalso;omega))|(refine GI ?_ (λ_=>rfl) (λ v hv => ?_);omega)|refine GH (by assumption) ?_)<;>conv=>whnf))
     cases uq.symm.trans hv;(repeat' ((first|(apply AG<;>intro hc<;>try (exfalso;omega))|(apply AZ;omega)|(refine FW ?_ (λ r hr => ?_);omega)|refine AC (zo) ?_)<;>conv=>whnf))
     cases gn.symm.trans hr;rw[show (rq.map eQ).length=n+W by rw[List.length_map];exact yu];generalize BJ 3 eQ m=R1 at *;have zm:R1.set i (some (3,rq.map eQ))=R1:=uU Co;refine BQ (λ j=>n+W-j) (λ(j:Nat)=>j<=n+W) (λ j=>[(127,.int .i64 j)]) (λ j=>[(277003,277003,.mx (R1.set i (some (3,(cb.take j++rq.drop j).map eQ))))]) [] [] 0 (by first|exact (by (conv=>whnf);exact ⟨rfl,rfl,rfl⟩)|(rw[List.take_zero,List.drop_zero,List.nil_append,zm];exact (by (conv=>whnf);exact ⟨rfl,rfl,rfl⟩))) (by omega) ?_;intro j j1 jh;have Me:(cb.take j++rq.drop j).length=n+W:=by rw[List.length_append,List.length_take,List.length_drop];omega
     by_cases hj:j<n+W
     ·obtain ⟨x,hx⟩ : ∃ x,rq[j]? = some x:=⟨_,zE (by omega)⟩
      obtain ⟨y,hy⟩ : ∃ y,u[j]? = some y:=⟨_,zE (by omega)⟩;have Hi:=sY (a:=cb) (by omega) hx;have mw:=sZ (a:=cb) (b:=rq) (by omega) (od j x y hx hy);have Fw:=aV N.toc4 Gv (pf.at hy) (by omega) (by omega);have Gf:=Qj N.tou9 (uo.at hx) (Gv.mul (pf.at hy)) (by omega) (by omega);generalize cb.take j++rq.drop j=cm at *;have Gc:(R1.set i (some (3,cm.map eQ)))[k]? = some (some (3,u.map eQ)):=by rw[List.getElem?_set,if_neg pc];exact hRk
      (repeat' ((first|(apply AG<;>intro hc<;>try (exfalso;omega))|(apply AZ;omega)|apply AE)<;>conv=>whnf))
      refine aE (by omega) (by omega) ?_;(conv=>whnf)
      (repeat' ((first|(apply AZ;omega)|fail)<;>conv=>whnf))
      refine aE (by omega) (by omega) ?_;(conv=>whnf)
      skip
      refine AZ (by rw[List.length_map];omega) ?_;(conv=>whnf)
      skip
      refine X7 (by omega) (by omega) ?_;(conv=>whnf)
      (repeat' ((first|(apply AZ;omega)|(refine GI ?_ (λ_=>rfl) (λ v hv => ?_);omega))<;>conv=>whnf))
      cases Hi.symm.trans hv;skip
      refine AeY (r:=some (3,u.map eQ)) (by rw[show 0+((k:Nat):Int).toNat=k by omega];exact Gc) ?_;(conv=>whnf)
      skip
      refine AZ (by rw[List.length_map];omega) ?_;(conv=>whnf)
      skip
      refine jR (by rw[show 0+((k:Nat):Int).toNat=k by omega];exact Gc) ?_;(conv=>whnf)
      (repeat' ((first|(refine GI ?_ (λ_=>rfl) (λ v hv => ?_);omega)|fail)<;>conv=>whnf))
      cases hy.symm.trans hv;(repeat' ((first|refine AC (Fw) ?_|refine AC (Gf) ?_)<;>conv=>whnf))
      refine AZ (by rw[List.length_map];omega) ?_;(conv=>whnf)
      skip
      refine X7 (by omega) (by omega) ?_;(conv=>whnf)
      refine FX (enc:=eQ) (x-f*y) rfl (λ_=>rfl) (by omega) ?_;rw[mw];(conv=>whnf)
      refine jZ (by omega) (by rw[List.length_map,List.length_map,<-mw,List.length_set]) ?_;(conv=>whnf)
      (repeat' ((first|(apply AY;omega)|fail)<;>conv=>whnf))
      exact BF [] (jh (j+1) (by omega) (by omega))
     ·have ej:j=n+W:=by omega
      clear jh;rw[ej,List.take_of_length_le (by omega),List.drop_of_length_le (by omega),List.append_nil,En];(repeat' ((first|(apply AG<;>intro hc<;>try (exfalso;omega))|(apply AY;omega)|apply AE)<;>conv=>whnf))
      exact BF [] (ih (m.set i cb) (i+1) (by omega) ⟨l9,by omega⟩)
  ·have ei:i=n:=by omega
   rw[ei]at hS;obtain ⟨g1,g2⟩:=hS.fin qf;clear ih;(repeat' ((first|(apply AG<;>intro hc<;>try (exfalso;omega))|(apply AY;omega)|apply AE)<;>conv=>whnf))
   exact B1 [] (by (conv=>whnf);exact ⟨rfl,rfl,rfl⟩) (bm m g1 (λ r hr=>by
    obtain ⟨q,hq⟩:=List.getElem?_of_mem hr;exact g2 q r hq))
theorem AmB (N:dj L) (q1 q2 q3 q4:Bool) (a b T:List (List Rat)) (n W k0:Nat) (hn:1<=n/\n<=10) (hW:1<=W/\W<=10) (ic:b.length=n) (hB:10*E0 k0 n<=100000000000) (hT:Sq n T) {m0:List (List Rat)} (Gb:EK T b n W m0 0 0) (Lc:Ms k0 m0) {kk:List It} {Q:Tm->Mem->Prop}
  (bm : ∀ (m:List (List Rat)) (k c:Nat) (d:Rat),EK T b n W m k c->(k<n/\c=n\/k=n/\c=n)->Ms (E0 k0 n) m->Bt 100000000000 d->AA L kk ([(8,.int .i64 c),(6,.int .i64 k),(7,.ptr 901007 0 0 0),(5,.ptr 901005 0 0 0),(0,.row 277003 0 1 0 n),(0+1,.int .i64 n)]++[(1000+38,.int .i64 n),(1000+37,.sl q1 (CN q2 a)),(1000+36,.row 277003 0 1 0 n),(1000+20,.bool false),(1000+19,.int .i64 n),(1000+18,.int .i64 n),(1000+6,.row 277003 0 1 0 n),(1000+0,.sl q1 (CN q2 a)),(1000+(0+1),.sl q3 (CN q4 b))]) [(277003,277003,.mx (BJ 3 eQ m)),(901007,901007,.bx (eQ d)),(901005,901005,.bx [.bool false,.nil,.nil])] Q) :
  AA L (.lp G1.l1 :: .j5 0::kk) ([(8,.int .i64 ((0:Nat):Int)),(6,.int .i64 ((0:Nat):Int)),(7,.ptr 901007 0 0 0),(5,.ptr 901005 0 0 0),(0,.row 277003 0 1 0 n),(0+1,.int .i64 n)]++[(1000+38,.int .i64 n),(1000+37,.sl q1 (CN q2 a)),(1000+36,.row 277003 0 1 0 n),(1000+20,.bool false),(1000+19,.int .i64 n),(1000+18,.int .i64 n),(1000+6,.row 277003 0 1 0 n),(1000+0,.sl q1 (CN q2 a)),(1000+(0+1),.sl q3 (CN q4 b))]) [(277003,277003,.mx (BJ 3 eQ m0)),(901007,901007,.bx (eQ ((1:Int):Rat))),(901005,901005,.bx [.bool false,.nil,.nil])] Q:=by
 refine bX (l:=[_,_]) rfl ?_;refine oG (λ_ c _ _=>n-c) (λ(m:List (List Rat)) (c k:Nat) (d:Rat)=>EK T b n W m k c/\Ms (E0 k0 c) m/\Bt (c*E0 k0 n) d) (λ_ c k _=>[(8,.int .i64 c),(6,.int .i64 k)]) (λ m _ _ d=>[(277003,277003,.mx (BJ 3 eQ m)),(901007,901007,.bx (eQ d))]) [24] [] m0 0 0 ((1:Int):Rat) (by (conv=>whnf);exact ⟨rfl,rfl,rfl⟩) ⟨Gb,Lc,Bt.one _⟩ ?_;intro m c k d ⟨hR,hM,hd⟩ eh;have fe:=hR.len;have Nh:=hR.le;have Azq:=hR.cn;have hKc:=Wc k0 (c:=c) (n-c);rw[show c+(n-c)=n by omega]at hKc;have hcX:c*E0 k0 n<=10*E0 k0 n:=Nat.mul_le_mul_right _ (by omega);by_cases qf:c<n/\k<n
 ·(repeat' ((first|(apply AG<;>intro hc<;>try (exfalso;omega))|apply AE)<;>conv=>whnf))
  refine BQ (λ i=>n-i) (λ(i:Nat)=>k<=i/\i<=n /\ ∀ (q:Nat) (r:List Rat),k<=q->q<i->m[q]? = some r->r.getD c 0=0) (λ i=>[(9,.int .i64 i)]) (λ_=>[]) [] [] k (by (conv=>whnf);exact ⟨rfl,rfl,rfl⟩) ⟨Nat.le_refl _,by omega,λ q r h1 h2=>absurd h2 (by omega)⟩ ?_;intro i ⟨i1,i2,i3⟩ ih;by_cases hi:i<n
  ·obtain ⟨rp,w8⟩ : ∃ r,m[i]? = some r:=⟨_,zE (by omega)⟩
   have dp:=hR.wid rp (zM w8);have kv:rp[c]? = some (rp.getD c 0):=ZQ (by omega);obtain ⟨sg,zo,hz⟩:=Qi N.tou9 (hM.at w8 _ (zM kv)) (by omega);generalize pe:rp.getD c 0=rc at *;by_cases uy:sg=0
   ·(repeat' ((first|(apply AG<;>intro hc<;>try (exfalso;omega))|(apply AZ;omega)|(refine FW ?_ (λ r hr => ?_);omega)|apply AE)<;>conv=>whnf))
    cases w8.symm.trans hr;refine AZ (by rw[List.length_map];omega) ?_;(conv=>whnf)
    (repeat' ((first|(refine GI ?_ (λ_=>rfl) (λ v hv => ?_);omega)|refine GH (by assumption) ?_)<;>conv=>whnf))
    cases kv.symm.trans hv;(repeat' ((first|(apply AG<;>intro hc<;>try (exfalso;omega))|(apply AY;omega)|refine AC (zo) ?_)<;>conv=>whnf))
    have i4 : ∀ (q:Nat) (r:List Rat),k<=q->q<i+1->m[q]? = some r->r.getD c 0=0:=λ q r h1 h2 h3=>by
     by_cases e:q=i
     ·subst e
      cases w8.symm.trans h3;rw[pe];exact hz.1 uy
     ·exact i3 q r h1 (by omega) h3
    exact BF [] (ih (i+1) (by omega) ⟨by omega,by omega,i4⟩)
   ·clear ih i3
    have Hm:rc≠0:=λ e=>uy (hz.2 e)
    obtain ⟨t,yw⟩ : ∃ t,m[k]? = some t:=⟨_,zE (by omega)⟩;have zl:=hM.at w8 _ (zM kv);by_cases pc:i=k
    ·have Fw:=aV N.toc4 hd zl (by omega) (by omega)
     have Mj:Bt ((c+1)*E0 k0 n) (d*rc):=(hd.mul zl).le (by rw[Nat.succ_mul];omega);subst pc;(repeat' ((first|(apply AG<;>intro hc<;>try (exfalso;omega))|(apply AZ;omega)|(refine FW ?_ (λ r hr => ?_);omega)|apply AE)<;>conv=>whnf))
     cases w8.symm.trans hr;refine AZ (by rw[List.length_map];omega) ?_;(conv=>whnf)
     (repeat' ((first|(refine GI ?_ (λ_=>rfl) (λ v hv => ?_);omega)|refine GH (by assumption) ?_)<;>conv=>whnf))
     cases kv.symm.trans hv;(repeat' ((first|(apply AG<;>intro hc<;>try (exfalso;omega))|(apply AZ;omega)|(refine FW ?_ (λ r hr => ?_);omega)|refine AC (zo) ?_)<;>conv=>whnf))
     cases w8.symm.trans hr;refine AZ (by rw[List.length_map];omega) ?_;(conv=>whnf)
     (repeat' ((first|(refine GI ?_ (λ_=>rfl) (λ v hv => ?_);omega)|refine GH (by assumption) ?_)<;>conv=>whnf))
     cases kv.symm.trans hv;(repeat' ((first|(apply AZ;omega)|(refine FW ?_ (λ r hr => ?_);omega)|refine AC (Fw) ?_)<;>conv=>whnf))
     cases w8.symm.trans hr;rw[show (rp.map eQ).length=n+W by rw[List.length_map];exact dp];subst pe;exact B1 [] (by (conv=>whnf);exact ⟨rfl,rfl,rfl⟩) (We N q1 q2 q3 q4 a b T n W (E0 k0 c) hn hW (by omega) hR hM qf.2 qf.1 w8 Hm λ m2 g1 g2=>B1 [] (by (conv=>whnf);exact ⟨rfl,rfl,rfl⟩) (eh m2 (c+1) (i+1) _ (by omega) ⟨g1,g2,Mj⟩))
    ·have hNg:=lQ N.tou9 hd (by omega)
     have Fw:=aV N.toc4 (Bt.yd hd) zl (by omega) (by omega);have Mj:Bt ((c+1)*E0 k0 n) (-d*rc):=((Bt.yd hd).mul zl).le (by rw[Nat.succ_mul];omega);refine Aen 24 ?_;(conv=>whnf)
     (repeat' ((first|(apply AG<;>intro hc<;>try (exfalso;omega))|(apply AZ;omega)|(refine FW ?_ (λ r hr => ?_);omega))<;>conv=>whnf))
     cases w8.symm.trans hr;refine AZ (by rw[List.length_map];omega) ?_;(conv=>whnf)
     (repeat' ((first|(refine GI ?_ (λ_=>rfl) (λ v hv => ?_);omega)|refine GH (by assumption) ?_)<;>conv=>whnf))
     cases kv.symm.trans hv;(repeat' ((first|(apply AG<;>intro hc<;>try (exfalso;omega))|(apply AZ;omega)|(refine FW ?_ (λ r hr => ?_);omega)|refine GH (by assumption) ?_|refine AC (zo) ?_)<;>conv=>whnf))
     refine AZ ⟨rfl,by simp only[BJ,List.length_map];omega⟩ ?_;(conv=>whnf)
     (repeat' ((first|(apply AZ;omega)|refine GH (by assumption) ?_)<;>conv=>whnf))
     rw[show 0+((i:Nat):Int).toNat=i by omega,show 0+((k:Nat):Int).toNat=k by omega];refine AZ ⟨rfl,by simp only[BJ,List.length_map,List.length_set,List.length_range];omega,Zr (by simp only[BJ,List.length_map];omega)⟩ ?_;(conv=>whnf)
     refine wD (k:=277003) (i:=i) (j:=k) rfl (YU w8) (YU yw) rfl rfl ?_;rw[Wt];have Li:=hR.swap w8 yw i1;have fm:Ms (E0 k0 c) ((m.set i t).set k rp):=λ x hx=>by
      rcases List.mem_or_eq_of_mem_set hx with h|rfl
      ·rcases List.mem_or_eq_of_mem_set h with h|rfl
       ·exact hM x h
       ·exact hM.at yw
      ·exact hM.at w8
     have ln:((m.set i t).set k rp)[k]? = some rp:=by rw[List.getElem?_set,if_pos rfl,if_pos (by rw[List.length_set];omega)]
     have xh:=Li.len;generalize (m.set i t).set k rp=m1 at *;(repeat' ((first|(apply AZ;omega)|(refine FW ?_ (λ r hr => ?_);omega)|apply AE|refine AC (hNg) ?_)<;>conv=>whnf))
     cases ln.symm.trans hr;refine AZ (by rw[List.length_map];omega) ?_;(conv=>whnf)
     (repeat' ((first|(refine GI ?_ (λ_=>rfl) (λ v hv => ?_);omega)|refine GH (by assumption) ?_)<;>conv=>whnf))
     cases kv.symm.trans hv;(repeat' ((first|(apply AZ;omega)|(refine FW ?_ (λ r hr => ?_);omega)|refine AC (Fw) ?_)<;>conv=>whnf))
     cases ln.symm.trans hr;rw[show (rp.map eQ).length=n+W by rw[List.length_map];exact dp];subst pe;exact B1 [] (by (conv=>whnf);exact ⟨rfl,rfl,rfl⟩) (We N q1 q2 q3 q4 a b T n W (E0 k0 c) hn hW (by omega) Li fm qf.2 qf.1 ln Hm λ m2 g1 g2=>B1 [] (by (conv=>whnf);exact ⟨rfl,rfl,rfl⟩) (eh m2 (c+1) (k+1) _ (by omega) ⟨g1,g2,Mj⟩))
  ·have ei:i=n:=by omega
   clear ih;have i4 : ∀ (q:Nat) (r:List Rat),k<=q->m[q]? = some r->r.getD c 0=0:=λ q r h1 h3=>i3 q r h1 (by have:=(zS h3).1;omega) h3
   have hR9:=hR.skip hT ic qf.1 i4;clear i3 i4;(repeat' ((first|(apply AG<;>intro hc<;>try (exfalso;omega))|(apply AY;omega)|apply AE)<;>conv=>whnf))
   exact B1 [] (by (conv=>whnf);exact ⟨rfl,rfl,rfl⟩) (eh m (c+1) k d (by omega) ⟨hR9,hM.le (show E0 k0 c<=4*E0 k0 c+1 by omega),hd.le (Nat.mul_le_mul_right _ (by omega))⟩)
 ·clear eh
  have Hc:k<n/\c=n\/k=n/\c=n:=by omega
  (repeat' ((first|(apply AG<;>intro hc<;>try (exfalso;omega))|apply AE)<;>conv=>whnf))
  exact B1 [] (by (conv=>whnf);exact ⟨rfl,rfl,rfl⟩) (bm m k c d hR Hc (hM.le hKc) (hd.le (by omega)))
theorem AiQ (N:dj L) (q1 q2 q3 q4:Bool) (a b:List (List Rat)) (n W k:Nat) (hT:Sq n a) (ic:b.length=n) (uf : ∀ r∈b,r.length=W) (nk:Ms k b) (hn:1<=n/\n<=10) (hW:1<=W/\W<=10) (kj:Ms k a) (hk:k<=1000) (hB:10*E0 k n<=100000000000) :
  ∃ v,Ev L 278 [.sl q1 (CN q2 a),.sl q3 (CN q4 b)] v/\((¬ NS n a/\v = .j9 [.sl false [],.int .i64 11])\/(NS n a /\ ∃ m:List (List Rat),v = .j9 [.sl false (eM (m.map (·.drop n))),.int .i64 0]/\EK a b n W m n n/\Ms (E0 k n) m)):=by
 have cj:=hT.l;have nj : ∀ r∈a,r.length=n:=hT.r;have Gb:EK a b n W (CO a b) 0 0:=EK.start hT ic uf;have dm:(CO a b).length=n:=by simp [CO,cj,ic]
 obtain ⟨Js,Bj⟩:=Alo nj uf kj nk;have hI:=dD N.toc4 1 (by omega);refine Ev.xE N.WB rfl rfl ?_;(repeat' (apply AE<;>conv=>whnf))
 refine GF 1000 N.WC rfl rfl ?_;(repeat' ((first|apply AR|apply AE)<;>conv=>whnf))
 refine jK 277003 277003 rfl ?_;refine BQ (λ i=>n-i) (λ(i:Nat)=>i<=n) (λ i=>[(11,.int .i64 i),(3,.row 277003 0 1 0 i)]) (λ i=>[(277003,277003,.mx (BJ 3 eQ (a.take i)))]) [] [] 0 (by (conv=>whnf);exact ⟨rfl,rfl,rfl⟩) (by omega) ?_;intro i p1 ih;have Kb:(a.take i).length=i:=by rw[List.length_take];omega
 by_cases hi:i<n
 ·obtain ⟨r,hr⟩ : ∃ r,a[i]? = some r:=⟨_,zE (by omega)⟩
  have ka:a[(i:Int).toNat]? = some r:=hr;have dp:=nj r (zM hr);have kb:=kj.at hr;have hts:=eH hr;generalize a.take i=R0 at *;(repeat' ((first|(apply AG<;>intro hc<;>try (exfalso;omega))|apply AR|(refine A9 (by assumption) ?_ rfl ?_;omega)|apply AE)<;>conv=>whnf))
  refine BQ (λ j=>n-j) (λ(j:Nat)=>j<=n) (λ j=>[(17,.int .i64 j),(6,.row 277006 0 3 0 j)]) (λ j=>[(277006,277006,.rw 3 ((r.take j).map eQ))]) [] [] 0 (by (conv=>whnf);exact ⟨rfl,rfl,rfl⟩) (by omega) ?_;intro j p2 jh;have Dz:(r.take j).length=j:=by rw[List.length_take];omega
  by_cases hj:j<n
  ·obtain ⟨x,hx⟩ : ∃ x,r[j]? = some x:=⟨_,zE (by omega)⟩
   have gv:r[(j:Int).toNat]? = some x:=hx;have mw:=eH hx;have hT:=lU N.toc4 (kb.at hx) (by omega);generalize r.take j=M0 at *;(repeat' ((first|(apply AG<;>intro hc<;>try (exfalso;omega))|(refine A9 (by assumption) ?_ rfl ?_;omega)|apply EE|apply AE|refine AC (hT) ?_)<;>conv=>whnf))
   refine ES (enc:=eQ) x rfl Dz.symm rfl (by omega) (by omega) ?_;(conv=>whnf)
   (repeat' ((first|(apply AY;omega)|fail)<;>conv=>whnf))
   rw[<-mw,show (r.take (j+1)).length=j+1 by rw[List.length_take];omega];exact BF [(277006,277025)] (jh (j+1) (by omega) (by omega))
  ·obtain rfl:j=n:=by omega
   clear jh;rw[List.take_of_length_le (by omega)];(repeat' ((first|(apply AG<;>intro hc<;>try (exfalso;omega))|apply AE)<;>conv=>whnf))
   refine AZ (by rw[List.length_map,dp]) ?_;refine bZ (r:=r) (en:=eQ) Kb.symm (by omega) (by omega) ?_;rw[<-hts,show (a.take (i+1)).length=i+1 by rw[List.length_take];omega];(conv=>whnf)
   (repeat' ((first|(apply AY;omega)|fail)<;>conv=>whnf))
   exact BF [(277003,277030)] (ih (i+1) (by omega) (by omega))
 ·obtain rfl:i=n:=by omega
  clear ih;rw[List.take_of_length_le (by omega)];(repeat' ((first|(apply AG<;>intro hc<;>try (exfalso;omega))|apply AE)<;>conv=>whnf))
  refine ⟨rfl,_,rfl,?_⟩;(conv=>whnf)
  skip
  refine BQ (λ j=>i-j) (λ(j:Nat)=>j<=i) (λ j=>[(19,.int .i64 j)]) (λ j=>[(277003,277003,.mx (BJ 3 eQ ((CO a b).take j++a.drop j)))]) [] [] 0 (by first|exact (by (conv=>whnf);exact ⟨rfl,rfl,rfl⟩)|(rw[List.take_zero,List.drop_zero,List.nil_append];exact (by (conv=>whnf);exact ⟨rfl,rfl,rfl⟩))) (by omega) ?_;intro j p2 jh;have fe:((CO a b).take j++a.drop j).length=i:=by rw[List.length_append,List.length_take,List.length_drop];omega
  by_cases hj:j<i
  ·obtain ⟨r,w8⟩ : ∃ r,a[j]? = some r:=⟨_,zE (by omega)⟩
   obtain ⟨s,fc⟩ : ∃ s,b[j]? = some s:=⟨_,zE (by omega)⟩;have Om:b[(j:Int).toNat]? = some s:=fc;have dp:=nj r (zM w8);have Bn:=uf s (zM fc);have hRj:=sY (a:=CO a b) (by omega) w8;have hRs:=sZ (a:=CO a b) (b:=a) (by omega) (ZS w8 fc);generalize (CO a b).take j++a.drop j=R0 at *;(repeat' ((first|(apply AG<;>intro hc<;>try (exfalso;omega))|(apply AZ;omega)|(refine A9 (by assumption) ?_ rfl ?_;omega)|(refine FW ?_ (λ r hr => ?_);omega)|refine GH (by assumption) ?_|apply AE)<;>conv=>whnf))
   cases hRj.symm.trans hr;refine jM (enc:=eQ) (by rw[List.length_map]) (λ_=>rfl) (by omega) (by omega) ?_;intro s' v;(conv=>whnf)
   (repeat' ((first|(apply AZ;omega)|fail)<;>conv=>whnf))
   refine AZ ⟨rfl,by rw[List.length_map]⟩ ?_;refine cJ (i:=j) (by omega) (by rw[List.length_set];simp only[BJ,List.length_map];omega) ?_;rw[show 0+((j:Int)).toNat=j by omega,List.set_set,show (BJ 3 eQ R0).set j (some (3,(r++s).map eQ))=BJ 3 eQ (R0.set j (r++s)) by simp only[BJ,List.map_set],hRs];(conv=>whnf)
   (repeat' ((first|(apply AY;omega)|fail)<;>conv=>whnf))
   exact BF [] (jh (j+1) (by omega) (by omega))
  ·have ej:j=i:=by omega
   clear jh;rw[ej,List.take_of_length_le (by omega),List.drop_of_length_le (by omega),List.append_nil];(repeat' ((first|(apply AG<;>intro hc<;>try (exfalso;omega))|apply AR|apply AE)<;>conv=>whnf))
   rw[cj];refine FG 1000 N.G1 rfl rfl ?_;(repeat' ((first|apply AE|refine AC (hI) ?_)<;>conv=>whnf))
   refine B1 [] (by (conv=>whnf);exact ⟨rfl,rfl,rfl⟩) (AmB N q1 q2 q3 q4 a b a i W k hn hW ic hB hT Gb Bj (λ m k2 c2 d h1 h2 h3 h4 => ?_));by_cases ln:k2<i
   ·(repeat' (apply AE<;>conv=>whnf))
    refine ⟨rfl,?_⟩;(conv=>whnf)
    (repeat' ((first|(apply AG<;>intro hc<;>try (exfalso;omega))|apply AR)<;>conv=>whnf))
    exact ⟨_,AX rfl (by simp only[A0,CE,FH,true_and,and_true]),Or.inl ⟨h1.sk (by omega),rfl⟩⟩
   ·have Dk:k2=i/\c2=i:=by omega
    obtain ⟨rfl,rfl⟩:=Dk;(repeat' (apply AE<;>conv=>whnf))
    refine ⟨rfl,?_⟩;(conv=>whnf)
    (repeat' ((first|(apply AG<;>intro hc<;>try (exfalso;omega))|apply AR)<;>conv=>whnf))
    refine jK 10 10 rfl ?_;have xh:=h1.len;have gl:NS c2 a:=h1.nsT hT;have bm : ∀ r:AV,r = .j9 [.sl false (eM (m.map (·.drop c2))),.int .i64 0]->((¬ NS c2 a/\r = .j9 [.sl false [],.int .i64 11])\/(NS c2 a /\ ∃ m:List (List Rat),r = .j9 [.sl false (eM (m.map (·.drop c2))),.int .i64 0]/\EK a b c2 W m c2 c2/\Ms (E0 k c2) m)):=λ r hr=>Or.inr ⟨gl,m,hr,h1,h3⟩
    have Bb:(m.map (·.drop c2)).length=c2:=by rw[List.length_map];exact xh
    have Lq : ∀ (q:Nat) (r:List Rat),m[q]? = some r->(m.map (·.drop c2))[q]? = some (r.drop c2):=λ q r hq=>by rw[List.getElem?_map,hq];rfl
    generalize m.map (·.drop c2)=U at *;refine BQ (λ i=>c2-i) (λ(i:Nat)=>i<=c2) (λ i=>[(48,.int .i64 i),(10,.row 10 0 1 0 i)]) (λ i=>[(10,10,.mx (BJ 3 eQ (U.take i)))]) [] [] 0 (by (conv=>whnf);exact ⟨rfl,rfl,rfl⟩) (by omega) ?_;intro i i1 ih;have Pf:(U.take i).length=i:=by rw[List.length_take];omega
    by_cases uj:i<c2
    ·obtain ⟨rp,w8⟩ : ∃ r,m[i]? = some r:=⟨_,zE (by omega)⟩
     have dp:=h1.wid rp (zM w8);have kb:=h3.at w8;have hut:=eH (Lq i rp w8);have Gu:(rp.drop c2).length=W:=by rw[List.length_drop];omega
     have vg : ∀ (j:Nat),(rp.drop c2)[j]? = rp[c2+j]? := λ j=>by rw[List.getElem?_drop]
     generalize U.take i=R0 at *;(repeat' ((first|(apply AG<;>intro hc<;>try (exfalso;omega))|(apply AZ;omega)|apply AR|(refine FW ?_ (λ r hr => ?_);omega)|apply AE)<;>conv=>whnf))
     cases w8.symm.trans hr;refine AeP c2 (by omega) (by rw[List.length_map];omega) ?_;rw[List.length_map,show rp.length=c2+W from dp];(conv=>whnf)
     skip
     refine BQ (λ j=>W-j) (λ(j:Nat)=>j<=W) (λ j=>[(59,.int .i64 j),(12,.row 12 0 3 0 j)]) (λ j=>[(12,12,.rw 3 (((rp.drop c2).take j).map eQ))]) [] [] 0 (by (conv=>whnf);exact ⟨rfl,rfl,rfl⟩) (by omega) ?_;intro j j1 jh;have Dz:((rp.drop c2).take j).length=j:=by rw[List.length_take];omega
     by_cases hj:j<W
     ·obtain ⟨x,hx⟩ : ∃ x,(rp.drop c2)[j]? = some x:=⟨_,zE (by omega)⟩
      have gv:=hx;rw[vg]at gv;have mw:=eH hx;have Jf:=lU N.toc4 (kb.at gv) (by omega);generalize (rp.drop c2).take j=M0 at *;(repeat' ((first|(apply AG<;>intro hc<;>try (exfalso;omega))|(apply AZ;omega)|refine GH (by assumption) ?_|apply AE)<;>conv=>whnf))
      refine cG (enc:=eQ) (e:=x) (l:=rp) (by rw[show 0+c2+((j:Nat):Int).toNat=c2+j by omega];exact gv) rfl ?_;(conv=>whnf)
      (repeat' ((first|apply EE|refine AC (Jf) ?_)<;>conv=>whnf))
      refine ES (enc:=eQ) x rfl Dz.symm rfl (by omega) (by omega) ?_;(conv=>whnf)
      (repeat' ((first|(apply AY;omega)|fail)<;>conv=>whnf))
      rw[<-mw,show ((rp.drop c2).take (j+1)).length=j+1 by rw[List.length_take];omega];exact BF [(12,67)] (jh (j+1) (by omega) (by omega))
     ·have ej:j=W:=by omega
      clear jh;rw[ej,List.take_of_length_le (by omega)];(repeat' ((first|(apply AG<;>intro hc<;>try (exfalso;omega))|apply AE)<;>conv=>whnf))
      refine AZ (by rw[List.length_map,Gu]) ?_;refine bZ (r:=rp.drop c2) (en:=eQ) Pf.symm (by omega) (by omega) ?_;rw[<-hut,show (U.take (i+1)).length=i+1 by rw[List.length_take];omega];(conv=>whnf)
      (repeat' ((first|(apply AY;omega)|fail)<;>conv=>whnf))
      exact BF [(10,72)] (ih (i+1) (by omega) (by omega))
    ·have ei:i=c2:=by omega
     clear ih;rw[ei,List.take_of_length_le (by omega)];(repeat' ((first|(apply AG<;>intro hc<;>try (exfalso;omega))|apply AE)<;>conv=>whnf))
     refine ⟨.j9 [.sl false (eM U),.int .i64 0],?_,bm _ rfl⟩;(conv=>whnf)
     refine KR (λ_=>rfl) rfl Bb.symm ?_;(conv=>whnf)
     exact AX rfl (IW U 0)
end Go.e8











namespace Go.e8
open F
attribute [local irreducible] AA AF AP AD CB AU AW BA A6 B2 AM BO B8 C8 BN A3 BX B9 AB A8 AJ pw BK BI CJ CK CU CR CI BT CT
variable {L:Lib}
set_option maxHeartbeats 32000000
set_option maxRecDepth 8000
theorem Aim (x:Rat):eQ (FY x)=[.bool false,.sl false ((dg x.num.natAbs).map AL),.sl false ((dg x.den).map AL)]:=by
 unfold FY;by_cases h:x.num<0
 ·rw[if_pos h]
  show rQ false false (decide ((-x).num<0)) _ _=_;rw[Rat.neg_num,Int.natAbs_neg,Rat.neg_den,show decide (-x.num<0)=false from decide_eq_false (by omega)]
 ·rw[if_neg h]
  show rQ false false (decide (x.num<0)) _ _=_;rw[show decide (x.num<0)=false from decide_eq_false h]
theorem AjJ (N:eo L) {x:Rat} {k:Nat} (hx:Bt k x) (hk:k<2199023255552):Ev L 309 [.agg (eQ x)] (.agg (eQ (FY x))):=by
 have hT:=lU N.toc4 hx hk;have hs:=hx.lf hk;have hR:=λ q=>GC N.toc4 (dg x.num.natAbs) q (DW _) (by have:=hs.1.2;omega)
 rw[BW]at hR;have hA : ∀ b q,Ev L 308 [.agg [.bool b,.sl q ((dg x.num.natAbs).map AL)]] (.agg [.bool false,.sl false ((dg x.num.natAbs).map AL)]):=λ b q=>by
  refine Ev.x N.VN rfl rfl ?_;(repeat' ((first|apply AE|refine AC (hR _) ?_)<;>conv=>whnf))
  exact AX rfl (yB _ _)
 have o4:=DJ (FY x);rw[Aim]at o4 ⊢;refine Ev.x N.VY rfl rfl ?_;(repeat' ((first|apply AE|refine AC (hT) ?_|refine AC (hA _ _) ?_)<;>conv=>whnf))
 exact AX rfl o4
theorem AjQ (N:eo L) (q q':Bool) (a:List (List Rat)) (n:Nat) (hs:Sq n a) (hn:n<=16):Ev L 310 [.sl q (CN q' a)] (.bool true):=by
 have cj:=hs.l;refine Ev.x N.WG rfl rfl ?_;(repeat' (apply AE<;>conv=>whnf))
 refine BQ (λ i=>a.length-i) (λ(i:Nat)=>i<=a.length) (λ i=>[(3,.int .i64 i)]) (λ_=>[]) [] [] 0 (by (conv=>whnf);exact ⟨rfl,rfl,rfl⟩) (by omega) ?_;intro i p1 ih;by_cases hi:i<a.length
 ·obtain ⟨r,hr⟩ : ∃ r,a[i]? = some r:=⟨_,zE hi⟩
  have ka:a[(i:Int).toNat]? = some r:=hr;have dp:=hs.at hr;(repeat' ((first|(apply AG<;>intro hc<;>try (exfalso;omega))|(apply AY;omega)|apply AR|(refine A9 (by assumption) ?_ rfl ?_;omega)|apply AE)<;>conv=>whnf))
  exact BF [] (ih (i+1) (by omega) (by omega))
 obtain rfl:i=a.length:=by omega
 clear ih;(repeat' ((first|(apply AG<;>intro hc<;>try (exfalso;omega))|apply AR|apply AE)<;>conv=>whnf))
 exact GG rfl
theorem AjN (N:eo L) (q:Bool) (v:List Rat) (k:Nat) (hv:Bs k v) (hn:v.length<=1000) (hk:k<=1000000000):Ev L 311 [.sl q (v.map eQ)] (.agg (eQ (B4 v))):=by
 have hO:=dD N.toc4 0 (by omega);rw[show ((0:Int):Rat)=0 from rfl]at hO;refine Ev.x N.WF rfl rfl ?_;(repeat' ((first|apply AE|refine AC (hO) ?_)<;>conv=>whnf))
 refine BQ (λ i=>v.length-i) (λ(i:Nat)=>i<=v.length) (λ i=>[(4,.int .i64 i)]) (λ i=>[(3,3,.bx (eQ (B4 (v.take i))))]) [] [] 0 (by rw[show B4 (v.take 0)=0 from rfl];exact (by (conv=>whnf);exact ⟨rfl,rfl,rfl⟩)) (by omega) ?_;intro i p1 ih;by_cases hi:i<v.length
 ·obtain ⟨x,hx⟩ : ∃ x,v[i]? = some x:=⟨_,zE hi⟩
  have gv:v[(i:Int).toNat]? = some x:=hx;have hA:=AjJ N (hv.at hx) (by omega);have hz:Bt (1000*(k+1)) (B4 (v.take i)):=(iW (hv.take i)).le (Nat.mul_le_mul_right _ (by rw[List.length_take];omega));have hP:=lL N.toc4 hz (xG (hv.at hx)) (by omega) (by omega);rw[<-Yq hx]at hP;generalize B4 (v.take i)=w at *;generalize FY x=y at *;(repeat' ((first|(apply AG<;>intro hc<;>try (exfalso;omega))|(apply AY;omega)|apply AR|(refine A9 (by assumption) ?_ rfl ?_;omega)|apply AE|refine AC (hA) ?_|refine AC (hP) ?_)<;>conv=>whnf))
  exact BF [] (ih (i+1) (by omega) (by omega))
 obtain rfl:i=v.length:=by omega
 clear ih;rw[List.take_of_length_le (Nat.le_refl _)];(repeat' ((first|(apply AG<;>intro hc<;>try (exfalso;omega))|apply AR|apply AE)<;>conv=>whnf))
 exact AX rfl (DJ _)
theorem AjR (N:eo L) (q q':Bool) (a:List (List Rat)) (n kk:Nat) (hs:Sq n a) (ha:Ms kk a) (hn:n<=4) (hk:kk<=1000000000):Ev L 313 [.sl q (CN q' a)] (.sl false (eM (GM a a n))):=by
 have cj:=hs.l;have Az:Sq n (GM a a n):=Sq.mul hs.l a;have Ga : ∀ (i:Nat) (r:List Rat),a[i]? = some r->(GM a a n)[i]? = some (FF r a n):=λ i r hr=>by rw[GM,List.getElem?_map,hr];rfl
 have Cn : ∀ (j:Nat) (r:List Rat),j<n->(FF r a n)[j]? = some (A4 r (DE a j)):=λ j r hj=>by rw[FF,List.getElem?_map,List.getElem?_range hj];rfl
 have Ay:=Az.l;have Em:=Az.r;have hO:=dD N.toc4 0 (by omega);rw[show ((0:Int):Rat)=0 from rfl]at hO;generalize GM a a n=Q at *;refine Ev.x N.WH rfl rfl ?_;(repeat' ((first|apply AR|apply AE)<;>conv=>whnf))
 unfold CU;refine ⟨⟨by omega,by omega,by simp only[EB];omega,by omega⟩,?_⟩;rw[Int.toNat_natCast,cj];(conv=>whnf)
 skip
 refine BQ (λ i=>n-i) (λ(i:Nat)=>i<=n) (λ i=>[(4,.int .i64 i)]) (λ i=>[(10,10,.mx (mz Q n i))]) [] [] 0 (by first|exact (by (conv=>whnf);exact ⟨rfl,rfl,rfl⟩)|(rw[<-tK Q];exact (by (conv=>whnf);exact ⟨rfl,rfl,rfl⟩))) (by omega) ?_;intro i p1 ih;have hzl:=tH (Q:=Q) p1;by_cases hi:i<n
 ·obtain ⟨rr,hr⟩ : ∃ r,a[i]? = some r:=⟨_,zE (by omega)⟩
  have ka:a[(i:Int).toNat]? = some rr:=hr;have dp:=hs.at hr;have kb:=ha.at hr;have hq:=Ga i rr hr;have l9:=tJ hq hi;have pd:(mz Q n i)[i]? = some none:=Wu Ay hi;have yu:(FF rr a n).length=n:=Em _ (zM hq);have gn:(FF rr a n).take 1=[A4 rr (DE a 0)]:=by
   rw[KD (Cn 0 rr (by omega))];rfl
  have Ny : ∀ j,j<n->(FF rr a n).take (j+1)=(FF rr a n).take j++[A4 rr (DE a j)]:=λ j hj=>KD (Cn j rr hj)
  generalize mz Q n i=R0 at *;generalize FF rr a n=qr at *;(repeat' ((first|(apply AG<;>intro hc<;>try (exfalso;omega))|apply AR|apply AE)<;>conv=>whnf))
  refine G7 ?_;(repeat' ((first|(apply AG<;>intro hc<;>try (exfalso;omega))|apply AR|apply AE|refine AC (hO) ?_)<;>conv=>whnf))
  refine BQ (λ k=>n-k) (λ(k:Nat)=>k<=n) (λ k=>[(7,.int .i64 k)]) (λ k=>[(6,6,.bx (eQ (A4 (rr.take k) ((DE a 0).take k))))]) [] [] 0 (by rw[show A4 (rr.take 0) ((DE a 0).take 0)=0 from rfl];exact (by (conv=>whnf);exact ⟨rfl,rfl,rfl⟩)) (by omega) ?_;intro k t1 kh;by_cases ln:k<n
  ·obtain ⟨x,hx⟩ : ∃ x,rr[k]? = some x:=⟨_,zE (by omega)⟩
   obtain ⟨s,fc⟩ : ∃ s,a[k]? = some s:=⟨_,zE (by omega)⟩;have Bn:=hs.at fc;obtain ⟨y,hy⟩ : ∃ y,s[0]? = some y:=⟨_,zE (by omega)⟩;have gv:rr[(k:Int).toNat]? = some x:=hx;have uw:a[(k:Int).toNat]? = some s:=fc;have vt:s[((0:Nat):Int).toNat]? = some y:=hy;have Mh:=yX fc hy;have hM:=aV N.toc4 (kb.at hx) ((ha.at fc).at hy) (by omega) (by omega);have hd:Bt (4*(kk+kk+1)) (A4 (rr.take k) ((DE a 0).take k)):=((kb.take k).dot ((Ms.Iy ha 0).take k)).le (Nat.mul_le_mul_right _ (by rw[List.length_take];omega));have hA:=lL N.toc4 hd ((kb.at hx).mul ((ha.at fc).at hy)) (by omega) (by omega);rw[<-gD hx Mh]at hA;generalize A4 (rr.take k) ((DE a 0).take k)=w at *;generalize x*y=p at *;(repeat' ((first|(apply AG<;>intro hc<;>try (exfalso;omega))|(apply AY;omega)|apply AR|(refine A9 (by assumption) ?_ rfl ?_;omega)|apply AE|refine AC (hM) ?_|refine AC (hA) ?_)<;>conv=>whnf))
   exact BF [] (kh (k+1) (by omega) (by omega))
  have ek:k=n:=by omega
  clear kh;rw[ek,cT dp];generalize A4 rr (DE a 0)=y0 at *;(repeat' ((first|(apply AG<;>intro hc<;>try (exfalso;omega))|(apply AZ;omega)|apply AR|apply AE)<;>conv=>whnf))
  refine oK (r:=none) (by rw[Nat.zero_add,Int.toNat_natCast];exact pd) ?_;(conv=>whnf)
  (repeat' (apply EE<;>conv=>whnf))
  refine eT (enc:=eQ) y0 rfl rfl (by omega) ?_;(conv=>whnf)
  (repeat' ((first|(apply AZ;omega)|fail)<;>conv=>whnf))
  refine AZ rfl ?_;refine cJ (i:=i) (by omega) (by omega) ?_;(conv=>whnf)
  (repeat' ((first|(apply AY;omega)|fail)<;>conv=>whnf))
  refine BQ (λ j=>n-j) (λ(j:Nat)=>1<=j/\j<=n) (λ j=>[(5,.int .i64 j)]) (λ j=>[(10,10,.mx (R0.set i (some (3,(qr.take j).map eQ))))]) [] [] 1 (by first|exact (by (conv=>whnf);exact ⟨rfl,rfl,rfl⟩)|(rw[gn];exact (by (conv=>whnf);exact ⟨rfl,rfl,rfl⟩))) (by omega) ?_;intro j ⟨r1,r2⟩ jh;have Dz:(qr.take j).length=j:=by rw[List.length_take];omega
  by_cases hj:j<n
  ·have rm:=Ny j hj
   have Ea:(qr.take (j+1)).length=j+1:=by rw[List.length_take];omega
   generalize qr.take j=W at *;(repeat' ((first|(apply AG<;>intro hc<;>try (exfalso;omega))|apply AR|apply AE|refine AC (hO) ?_)<;>conv=>whnf))
   refine BQ (λ k=>n-k) (λ(k:Nat)=>k<=n) (λ k=>[(7,.int .i64 k)]) (λ k=>[(6+1000000,6,.bx (eQ (A4 (rr.take k) ((DE a j).take k))))]) [] [] 0 (by rw[show A4 (rr.take 0) ((DE a j).take 0)=0 from rfl];exact (by (conv=>whnf);exact ⟨rfl,rfl,rfl⟩)) (by omega) ?_;intro k t1 kh;by_cases ln:k<n
   ·obtain ⟨x,hx⟩ : ∃ x,rr[k]? = some x:=⟨_,zE (by omega)⟩
    obtain ⟨s,fc⟩ : ∃ s,a[k]? = some s:=⟨_,zE (by omega)⟩;have Bn:=hs.at fc;obtain ⟨y,hy⟩ : ∃ y,s[j]? = some y:=⟨_,zE (by omega)⟩;have gv:rr[(k:Int).toNat]? = some x:=hx;have uw:a[(k:Int).toNat]? = some s:=fc;have vt:s[((j:Nat):Int).toNat]? = some y:=hy;have Mh:=yX fc hy;have hM:=aV N.toc4 (kb.at hx) ((ha.at fc).at hy) (by omega) (by omega);have hd:Bt (4*(kk+kk+1)) (A4 (rr.take k) ((DE a j).take k)):=((kb.take k).dot ((Ms.Iy ha j).take k)).le (Nat.mul_le_mul_right _ (by rw[List.length_take];omega));have hA:=lL N.toc4 hd ((kb.at hx).mul ((ha.at fc).at hy)) (by omega) (by omega);rw[<-gD hx Mh]at hA;generalize A4 (rr.take k) ((DE a j).take k)=w at *;generalize x*y=p at *;(repeat' ((first|(apply AG<;>intro hc<;>try (exfalso;omega))|(apply AY;omega)|apply AR|(refine A9 (by assumption) ?_ rfl ?_;omega)|apply AE|refine AC (hM) ?_|refine AC (hA) ?_)<;>conv=>whnf))
    exact BF [] (kh (k+1) (by omega) (by omega))
   have ek:k=n:=by omega
   clear kh;rw[ek,cT dp];generalize A4 rr (DE a j)=y0 at *;(repeat' ((first|(apply AG<;>intro hc<;>try (exfalso;omega))|(apply AZ;omega)|apply AR|apply AE)<;>conv=>whnf))
   refine aE (by omega) (by omega) ?_;(conv=>whnf)
   (repeat' (apply EE<;>conv=>whnf))
   refine X7 (by omega) (by omega) ?_;(conv=>whnf)
   refine ES (enc:=eQ) y0 rfl (by rw[List.length_map]) rfl (by omega) (by omega) ?_;intro s' v;rw[<-rm,Ea];(conv=>whnf)
   (repeat' ((first|(apply AZ;omega)|fail)<;>conv=>whnf))
   refine AZ ⟨rfl,by rw[List.length_map];omega⟩ ?_;refine cJ (i:=i) (by omega) (by rw[List.length_set,List.length_set];omega) ?_;rw[show 0+((i:Int)).toNat=i by omega,List.set_set,List.set_set];(conv=>whnf)
   (repeat' ((first|(apply AY;omega)|fail)<;>conv=>whnf))
   exact BF [] (jh (j+1) (by omega) (by omega))
  have ej:j=n:=by omega
  clear jh;rw[ej,List.take_of_length_le (by omega),l9];(repeat' ((first|(apply AG<;>intro hc<;>try (exfalso;omega))|(apply AY;omega)|apply AR|apply AE)<;>conv=>whnf))
  exact BF [] (ih (i+1) (by omega) (by omega))
 have ei:i=n:=by omega
 clear ih;rw[ei,tG (by omega)];(repeat' ((first|(apply AG<;>intro hc<;>try (exfalso;omega))|apply AR|apply AE)<;>conv=>whnf))
 refine KR (λ_=>rfl) rfl (by omega) ?_;(conv=>whnf)
 exact AX rfl (yE Q)
theorem AjM (N:eo L) (q q':Bool) (a:List (List Rat)) (n k:Nat) (hs:Sq n a) (ha:Ms k a) (hn:n<=4) (hk:k<=100) :
  ∃ v,Ev L 314 [.sl q (CN q' a)] v/\((∃ i,i<=6/\SI n a i/\v = .j9 [.int .i64 ((2^i:Nat):Int),.int .i64 0])\/((∀ j,j<=6->D6 (CF n a j)=false)/\v = .j9 [.int .i64 0,.int .i64 14])):=by
 have cj:=hs.l;have hq:=AjQ N q q' a n hs (by omega);have hF:=lT N.toc4 1 2 (by omega) (by omega);have hb : ∀ i,i<=7->Ms 300000000 (CF n a i):=λ i hi=>(vJ hs ha hn i).le (by have:=Ann (k:=k) i hi;omega)
 have hZ:=λ(i:Nat) (q q':Bool) (hi:i<=6)=>AjR N q q' (CF n a i) n 300000000 (Z3 hs i) (hb i (by omega)) hn (by omega)
 have hh:Bt 2 (Rat.divInt 1 2):=Bt.mk (k:=2) (z:=1) (d:=2) (by decide) (by decide);have hhe:Rat.divInt 1 2=1/2:=by decide +kernel
 have hC : ∀ i r,i<=6->r∈CF n a i->Ev L 127 [.agg (eQ (B4 r)),.agg (eQ (Rat.divInt 1 2))] (.int .i64 (w9 (B4 r-1/2).num)):=λ i r hi hr=>by
  have hz:Bt (4*(300000000+1)) (B4 r):=(iW (hb i (by omega) r hr)).le (Nat.mul_le_mul_right _ (by rw[(Z3 hs i).r r hr];exact hn));have:=lM N.toc4 hz hh (by omega) (by omega)
  rwa [hhe]at this ⊢
 refine Ev.xE N.WE rfl rfl ?_;(repeat' ((first|apply AE|refine AC (hq) ?_)<;>conv=>whnf))
 refine F8 (λ i _=>7-i) (λ(i:Nat) (fl:Bool)=>i<=7/\(fl=true->i=0) /\ ∀ j,j<i->D6 (CF n a j)=false) (λ i fl=>[(4,.int .i64 ((2^i:Nat):Int)),(0,bif fl then .sl q (CN q' a) else .sl false (eM (CF n a i)))]) (λ_ _=>[]) [] [] 0 true (by (conv=>whnf);exact ⟨rfl,rfl,rfl⟩) ⟨by omega,λ_=>rfl,λ j hj=>absurd hj (by omega)⟩ ?_;intro i fl ⟨p1,p2,p3⟩ ih;by_cases h7:i=7
 ·have e7:((2^i:Nat):Int)=128:=by rw[h7];rfl
  rw[e7];have mc : ∀ j,j<=6->D6 (CF n a j)=false:=λ j hj=>p3 j (by omega)
  (repeat' ((first|(apply AG<;>intro hc<;>try (exfalso;omega))|apply AE)<;>conv=>whnf))
  exact ⟨_,AX rfl (by simp [A0,CE]),Or.inr ⟨mc,rfl⟩⟩
 obtain ⟨g1,g2,g3⟩:=tV (i:=i) (by omega);have Ey:((2^(i+1):Nat):Int)=2*((2^i:Nat):Int):=by rw[Nat.pow_succ];omega
 have Bn:=(Z3 hs i).l;have nm:D6 (CF n a i)=true->SI n a i:=λ h=>⟨h,p3⟩
 have jn:D6 (CF n a i)=false -> ∀ j,j<i+1->D6 (CF n a j)=false:=λ h j hj=>by
  by_cases e:j=i
  ·rw[e];exact h
  ·exact p3 j (by omega)
 have Ku:=λ r=>hC i r (by omega)
 have Lv:=λ q q'=>hZ i q q' (by omega)
 have Ln:=λ q r (hr:r∈CF n a i)=>AjN N q r 300000000 (hb i (by omega) r hr) (by rw[(Z3 hs i).r r hr];omega) (by omega)
 have bm : ∀ r:AV,SI n a i->r = .j9 [.int .i64 ((2^i:Nat):Int),.int .i64 0]->((∃ i,i<=6/\SI n a i/\r = .j9 [.int .i64 ((2^i:Nat):Int),.int .i64 0])\/((∀ j,j<=6->D6 (CF n a j)=false)/\r = .j9 [.int .i64 0,.int .i64 14])):=λ r h hr=>Or.inl ⟨i,by omega,h,hr⟩
 have w8 : ∀ (m:Nat) (r:List Rat),(CF n a i)[m]? = some r->D6 ((CF n a i).take (m+1))=(D6 ((CF n a i).take m)&&decide (B4 r<=1/2)):=λ m r hr=>by
  rw[KD hr,D6,D6,List.all_append];simp
 cases fl
 ·skip
  generalize 2^i=P at *;(repeat' ((first|(apply AG<;>intro hc<;>try (exfalso;omega))|apply AE)<;>conv=>whnf))
  refine F8 (λ m _=>n-m) (λ(m:Nat) (b:Bool)=>m<=n/\b=D6 ((CF n a i).take m)) (λ m b=>[(6,.int .i64 m),(5,.bool b)]) (λ_ _=>[]) [] [] 0 true (by (conv=>whnf);exact ⟨rfl,rfl,rfl⟩) ⟨by omega,rfl⟩ ?_;intro m b ⟨r1,r2⟩ mh;by_cases hm:m<n
  ·obtain ⟨r,hr⟩ : ∃ r,(CF n a i)[m]? = some r:=⟨_,zE (by omega)⟩
   have ka:(CF n a i)[(m:Int).toNat]? = some r:=hr;have jt:=zM hr;have ht:=w8 m r hr;rw[<-r2]at ht;cases b
   ·(repeat' ((first|(apply AG<;>intro hc<;>try (exfalso;omega))|(apply AY;omega)|apply AR|apply AE)<;>conv=>whnf))
    exact BF [] (mh (m+1) false (by omega) ⟨by omega,by rw[ht];rfl⟩)
   ·have yk:=λ q=>Ln q r jt
    have td:=Ku r jt;have hg:=uW (x:=B4 r) (y:=1/2);by_cases h:B4 r<=1/2
    ·have h1 : ¬ 0<w9 (B4 r-1/2).num:=λ e=>by have:=hg.1 e;grind
     rw[decide_eq_true h]at ht;clear hg;generalize w9 (B4 r-1/2).num=g at *;(repeat' ((first|(apply AG<;>intro hc<;>try (exfalso;omega))|(apply AY;omega)|apply AR|(refine A9 (by assumption) ?_ rfl ?_;omega)|apply AE|refine AC (yk _) ?_|refine AC (hF) ?_|refine AC (td) ?_)<;>conv=>whnf))
     exact BF [] (mh (m+1) true (by omega) ⟨by omega,by rw[ht];rfl⟩)
    ·have h1:0<w9 (B4 r-1/2).num:=hg.2 (by grind)
     rw[decide_eq_false h]at ht;clear hg;generalize w9 (B4 r-1/2).num=g at *;(repeat' ((first|(apply AG<;>intro hc<;>try (exfalso;omega))|(apply AY;omega)|apply AR|(refine A9 (by assumption) ?_ rfl ?_;omega)|apply AE|refine AC (yk _) ?_|refine AC (hF) ?_|refine AC (td) ?_)<;>conv=>whnf))
     exact BF [] (mh (m+1) false (by omega) ⟨by omega,by rw[ht];rfl⟩)
  have em:m=n:=by omega
  clear mh;rw[em,List.take_of_length_le (by omega)]at r2;cases b
  ·(repeat' ((first|(apply AG<;>intro hc<;>try (exfalso;omega))|(apply FN;omega)|apply AR|apply AE|refine AC (Lv _ _) ?_)<;>conv=>whnf))
   rw[<-Ey];exact BF [] (ih (i+1) false (by omega) ⟨by omega,(λ h=>by cases h),jn r2.symm⟩)
  ·(repeat' ((first|(apply AG<;>intro hc<;>try (exfalso;omega))|apply AR|apply AE)<;>conv=>whnf))
   exact ⟨_,AX rfl (by simp [A0,CE]),bm _ (nm r2.symm) rfl⟩
 ·obtain rfl:=p2 rfl
  have e0:CF n a 0=a:=rfl;rw[e0]at nm jn Ku Lv Ln w8 Bn;generalize 2^0=P at *;(repeat' ((first|(apply AG<;>intro hc<;>try (exfalso;omega))|apply AE)<;>conv=>whnf))
  refine F8 (λ m _=>n-m) (λ(m:Nat) (b:Bool)=>m<=n/\b=D6 (a.take m)) (λ m b=>[(6,.int .i64 m),(5,.bool b)]) (λ_ _=>[]) [] [] 0 true (by (conv=>whnf);exact ⟨rfl,rfl,rfl⟩) ⟨by omega,rfl⟩ ?_;intro m b ⟨r1,r2⟩ mh;by_cases hm:m<n
  ·obtain ⟨r,hr⟩ : ∃ r,a[m]? = some r:=⟨_,zE (by omega)⟩
   have ka:a[(m:Int).toNat]? = some r:=hr;have jt:=zM hr;have ht:=w8 m r hr;rw[<-r2]at ht;cases b
   ·(repeat' ((first|(apply AG<;>intro hc<;>try (exfalso;omega))|(apply AY;omega)|apply AR|apply AE)<;>conv=>whnf))
    exact BF [] (mh (m+1) false (by omega) ⟨by omega,by rw[ht];rfl⟩)
   ·have yk:=λ q=>Ln q r jt
    have td:=Ku r jt;have hg:=uW (x:=B4 r) (y:=1/2);by_cases h:B4 r<=1/2
    ·have h1 : ¬ 0<w9 (B4 r-1/2).num:=λ e=>by have:=hg.1 e;grind
     rw[decide_eq_true h]at ht;clear hg;generalize w9 (B4 r-1/2).num=g at *;(repeat' ((first|(apply AG<;>intro hc<;>try (exfalso;omega))|(apply AY;omega)|apply AR|(refine A9 (by assumption) ?_ rfl ?_;omega)|apply AE|refine AC (yk _) ?_|refine AC (hF) ?_|refine AC (td) ?_)<;>conv=>whnf))
     exact BF [] (mh (m+1) true (by omega) ⟨by omega,by rw[ht];rfl⟩)
    ·have h1:0<w9 (B4 r-1/2).num:=hg.2 (by grind)
     rw[decide_eq_false h]at ht;clear hg;generalize w9 (B4 r-1/2).num=g at *;(repeat' ((first|(apply AG<;>intro hc<;>try (exfalso;omega))|(apply AY;omega)|apply AR|(refine A9 (by assumption) ?_ rfl ?_;omega)|apply AE|refine AC (yk _) ?_|refine AC (hF) ?_|refine AC (td) ?_)<;>conv=>whnf))
     exact BF [] (mh (m+1) false (by omega) ⟨by omega,by rw[ht];rfl⟩)
  have em:m=n:=by omega
  clear mh;rw[em,List.take_of_length_le (by omega)]at r2;cases b
  ·(repeat' ((first|(apply AG<;>intro hc<;>try (exfalso;omega))|(apply FN;omega)|apply AR|apply AE|refine AC (Lv _ _) ?_)<;>conv=>whnf))
   rw[<-Ey];exact BF [] (ih (0+1) false (by omega) ⟨by omega,(λ h=>by cases h),jn r2.symm⟩)
  ·(repeat' ((first|(apply AG<;>intro hc<;>try (exfalso;omega))|apply AR|apply AE)<;>conv=>whnf))
   exact ⟨_,AX rfl (by simp [A0,CE]),bm _ (nm r2.symm) rfl⟩
theorem AmA {T:List (List Rat)} {b:List Rat} {n K:Nat} {m:List (List Rat)} (h:EK T (b.map λ x=>[x]) n 1 m n n) (hM:Ms K m):m.map (·.drop n)=(m.map λ r=>r.getD n 0).map (λ x=>[x])/\(m.map λ r=>r.getD n 0).length=n/\Bs K (m.map λ r=>r.getD n 0):=by
 refine ⟨?_,by rw[List.length_map];exact h.len,λ x hx => ?_⟩
 ·rw[List.map_map]
  refine List.map_congr_left λ r hr => ?_
  have hl:=h.wid r hr;show r.drop n=[r.getD n 0];rw[List.drop_eq_getElem_cons (by omega),List.drop_of_length_le (by omega),List.getD_eq_getElem?_getD,zE (by omega)];rfl
 ·obtain ⟨r,hr,rfl⟩:=List.mem_map.1 hx
  exact Bs.getD (hM r hr) n
theorem AjH (N:z8 L) (q1 q2 q3:Bool) (a:List (List Rat)) (b:List Rat) (n k:Nat) (hT:Sq n a) (ic:b.length=n) (nk:Bs k b) (hn:1<=n/\n<=10) (kj:Ms k a) (hk:k<=1000) (hB:10*E0 k n<=100000000000) :
  ∃ v,Ev L 327 [.sl q1 (CN q2 a),.sl q3 (b.map eQ)] v/\((¬ NS n a/\v = .j9 [.sl false [],.int .i64 11])\/(NS n a /\ ∃ y:List Rat,v = .j9 [.sl false (y.map eQ),.int .i64 0]/\y.length=n/\Bs (E0 k n) y /\ ∀ (i:Nat) (r:List Rat) (s:Rat),a[i]? = some r->b[i]? = some s->A4 r y=s)):=by
 have cj:=hT.l;have hV:=AjI N.tojv q1 q2 a n n cj hT.r (by omega) (by omega);obtain ⟨r0,w8⟩ : ∃ r,a[0]? = some r:=⟨_,zE (by omega)⟩;have Dt:a[(0:Int).toNat]? = some r0:=w8;have nn:=hT.at w8;have rh : ∀ r∈b.map (λ x=>[x]),r.length=1:=λ r hr=>by obtain ⟨x,_,rfl⟩:=List.mem_map.1 hr;rfl
 have hbm:Ms k (b.map λ x=>[x]):=λ r hr=>by
  obtain ⟨x,hx,rfl⟩:=List.mem_map.1 hr;intro z hz;obtain rfl:=List.mem_singleton.1 hz;exact nk z hx
 obtain ⟨v,Ks,db⟩:=AiQ N.todj q1 q2 true true a (b.map λ x=>[x]) n 1 k hT (by rw[List.length_map];exact ic) rh hbm hn (by omega) kj hk hB;refine Ev.xE N.V9 rfl rfl ?_;(repeat' ((first|(apply AG<;>intro hc<;>try (exfalso;omega))|apply AR|(refine A9 (by assumption) ?_ rfl ?_;omega)|apply AE|refine AC (hV) ?_)<;>conv=>whnf))
 refine jK 6 6 rfl ?_;refine BQ (λ i=>n-i) (λ(i:Nat)=>i<=n) (λ i=>[(35,.int .i64 i),(6,.row 6 0 1 0 i)]) (λ i=>[(6,6,.mx (BJ 3 eQ ((b.take i).map λ x=>[x])))]) [] [] 0 (by (conv=>whnf);exact ⟨rfl,rfl,rfl⟩) (by omega) ?_;intro i p1 ih;have cp:((b.take i).map λ x=>[x]).length=i:=by rw[List.length_map,List.length_take];omega
 by_cases hi:i<n
 ·obtain ⟨x,hx⟩ : ∃ x,b[i]? = some x:=⟨_,zE (by omega)⟩
  have gv:b[(i:Int).toNat]? = some x:=hx;have hs:(b.take (i+1)).map (λ x=>[x])=(b.take i).map (λ x=>[x])++[[x]]:=by rw[Y6 hx,List.map_append];rfl
  have Eb:((b.take (i+1)).map λ x=>[x]).length=i+1:=by rw[List.length_map,List.length_take];omega
  generalize (b.take i).map (λ x=>[x])=R0 at *;(repeat' ((first|(apply AG<;>intro hc<;>try (exfalso;omega))|(refine A9 (by assumption) ?_ rfl ?_;omega)|apply AE)<;>conv=>whnf))
  refine AZ rfl ?_;refine bZ (r:=[x]) (en:=eQ) cp.symm (by omega) (by omega) ?_;rw[<-hs,Eb];(conv=>whnf)
  (repeat' ((first|(apply AY;omega)|fail)<;>conv=>whnf))
  exact BF [(6,43)] (ih (i+1) (by omega) (by omega))
 have ei:i=n:=by omega
 clear ih;rw[ei,List.take_of_length_le (by omega)];(repeat' ((first|(apply AG<;>intro hc<;>try (exfalso;omega))|(refine KR (λ_=>rfl) rfl ?_ ?_;(first|rfl|simp))|apply AE)<;>conv=>whnf))
 ·exact ic.symm
 (conv=>whnf)
 rcases db with ⟨gl,rfl⟩|⟨gl,m,rfl,hR,hM⟩
 ·(repeat' (refine AC (Ks) ?_<;>conv=>whnf))
  refine AR (l:=([]:List Rat)) (enc:=eQ) ?_;rw[show ([]:List Rat).length=0 from rfl];(conv=>whnf)
  refine G7 ?_;(repeat' ((first|(apply AG<;>intro hc<;>try (exfalso;omega))|apply AE)<;>conv=>whnf))
  refine ⟨.j9 [.sl false [],.int .i64 11],?_,Or.inl ⟨gl,rfl⟩⟩;(conv=>whnf)
  refine Afg ?_;(conv=>whnf)
  exact AX rfl (IW [] 11)
 ·obtain ⟨c1,c2,c3⟩:=AmA hR hM
  have Ov:=hR.sol hT ic;rw[c1]at Ks;generalize (m.map λ r=>r.getD n 0)=y at *;have hYl:(y.map λ x=>[x]).length=n:=by rw[List.length_map];exact c2
  have Lu : ∀ (i:Nat) (x:Rat),y[i]? = some x->(y.map λ x=>[x])[((i:Nat):Int).toNat]? = some [x]:=λ i x hx=>by
   rw[Int.toNat_natCast,List.getElem?_map,hx];rfl
  have hY1 : ∀ x:Rat,([x]:List Rat)[(0:Int).toNat]? = some x:=λ x=>rfl
  generalize (y.map λ x=>[x])=Y at *;(repeat' ((first|apply AR|refine AC (Ks) ?_)<;>conv=>whnf))
  refine BQ (λ i=>n-i) (λ(i:Nat)=>i<=n) (λ i=>[(53,.int .i64 i),(11,.row 11 0 3 0 i)]) (λ i=>[(11,11,.rw 3 ((y.take i).map eQ))]) [] [] 0 (by (conv=>whnf);exact ⟨rfl,rfl,rfl⟩) (by omega) ?_;intro i p1 ih;have cp:(y.take i).length=i:=by rw[List.length_take];omega
  by_cases hi:i<n
  ·obtain ⟨x,hx⟩ : ∃ x,y[i]? = some x:=⟨_,zE (by omega)⟩
   have gv:=Lu i x hx;have hx1:=hY1 x;have hs:=Y6 hx;have Eb:(y.take (i+1)).length=i+1:=by rw[List.length_take];omega
   generalize y.take i=R0 at *;(repeat' ((first|(apply AG<;>intro hc<;>try (exfalso;omega))|(refine A9 (by assumption) ?_ rfl ?_;omega)|apply EE|apply AE)<;>conv=>whnf))
   refine ES (enc:=eQ) x rfl cp.symm rfl (by omega) (by omega) ?_;rw[<-hs,Eb];(conv=>whnf)
   (repeat' ((first|(apply AY;omega)|fail)<;>conv=>whnf))
   exact BF [(11,62)] (ih (i+1) (by omega) (by omega))
  have ei:i=n:=by omega
  clear ih;rw[ei,List.take_of_length_le (by omega)];(repeat' ((first|(apply AG<;>intro hc<;>try (exfalso;omega))|apply AE)<;>conv=>whnf))
  refine ⟨.j9 [.sl false (y.map eQ),.int .i64 0],?_,Or.inr ⟨gl,y,rfl,c2,c3,Ov⟩⟩;(conv=>whnf)
  refine DH (enc:=eQ) (λ_=>rfl) rfl (by omega) ?_;(conv=>whnf)
  exact AX rfl (yD y 0)
abbrev eP:Option Rat->List AV
 | none=>[.bool false,.sl false [],.sl false []]
 | some x=>eQ x
theorem Aj1 (N:u9 L) {o:Option Rat} {y:Rat} {k l:Nat} (hx:Bt k (o.getD 0)) (hy:Bt l y) (hk:k<2199023255552) (hl:l<2199023255552):Ev L 153 [.agg (eP o),.agg (eQ y)] (.agg (eQ (o.getD 0-y))):=by
 cases o with
 | some x=>exact Qj N hx hy hk hl
 | none =>
  have hn:Bt l (-y):=⟨by rw[Rat.neg_num,Int.natAbs_neg];exact hy.1,by rw[Rat.neg_den];exact hy.2⟩;have hN:=lQ N hy hl;have hA:=Qe N.toc4 68719476736 (by omega) false (decide ((-y).num<0)) false false [] [] (dg (-y).num.natAbs) (dg (-y).den) (nN _) (nN _) (hn.lf hl).1 (hn.lf hl).2;rw[EN,show qv false [] []=0 from by decide,<-Rat.sub_eq_add_neg]at hA;refine Ev.x N.N7 rfl rfl ?_;(repeat' ((first|apply AE|refine AC (hN) ?_|refine AC (hA) ?_)<;>conv=>whnf))
  exact AX rfl (DJ _)
theorem Ajq (N:z8 L) (n i j:Nat) (hn:n<=3) (gb:i<=j) (hj:j<n):Ev L 325 [.int .i64 (i:Int),.int .i64 (j:Int),.int .i64 (n:Int)] (.int .i64 ((fj n i j:Nat):Int)):=by
 rcases Y7 hn with rfl|rfl|rfl|rfl
 ·omega
 ·obtain ⟨rfl,rfl⟩:i=0/\j=0:=by omega
  refine Ev.x N.JQ rfl rfl ?_;(repeat' ((first|(apply AY;omega)|(apply B3;omega)|(apply FN;omega)|(refine IO ?_ ?_ (λ_ => ?_) (λ_ _ => ?_);omega;omega;all_goals try (exfalso;omega))|apply AE)<;>conv=>whnf))
  exact CX rfl
 ·obtain ⟨rfl,rfl⟩|⟨rfl,rfl⟩|⟨rfl,rfl⟩:(i=0/\j=0)\/(i=0/\j=1)\/(i=1/\j=1):=by omega
  all_goals
   refine Ev.x N.JQ rfl rfl ?_;(repeat' ((first|(apply AY;omega)|(apply B3;omega)|(apply FN;omega)|(refine IO ?_ ?_ (λ_ => ?_) (λ_ _ => ?_);omega;omega;all_goals try (exfalso;omega))|apply AE)<;>conv=>whnf))
   exact CX rfl
 ·obtain ⟨rfl,rfl⟩|⟨rfl,rfl⟩|⟨rfl,rfl⟩|⟨rfl,rfl⟩|⟨rfl,rfl⟩|⟨rfl,rfl⟩:(i=0/\j=0)\/(i=0/\j=1)\/(i=0/\j=2)\/(i=1/\j=1)\/(i=1/\j=2)\/(i=2/\j=2):=by omega
  all_goals
   refine Ev.x N.JQ rfl rfl ?_;(repeat' ((first|(apply AY;omega)|(apply B3;omega)|(apply FN;omega)|(refine IO ?_ ?_ (λ_ => ?_) (λ_ _ => ?_);omega;omega;all_goals try (exfalso;omega))|apply AE)<;>conv=>whnf))
   exact CX rfl
theorem Anl (r:List Rat):(r.map some).map eO=r.map eQ:=by rw[List.map_map];rfl
theorem AnE {n:Nat} (hn:n<=3):(0<=(n:Int)*((n:Int)+1)/\(n:Int)*((n:Int)+1)<=12)/\((n:Int)*((n:Int)+1))/2=((n*(n+1)/2:Nat):Int)/\n*(n+1)/2<=6:=by
 rcases Y7 hn with rfl|rfl|rfl|rfl<;>decide
theorem Amz {k m:Nat} (hk:k<=82) (hm:m<=6):10*E0 k m<=100000000000:=by
 rcases (show m=0\/m=1\/m=2\/m=3\/m=4\/m=5\/m=6 by omega) with rfl|rfl|rfl|rfl|rfl|rfl|rfl<;>simp only[E0]<;>omega
theorem Alp {X:List Rat} {n i:Nat} (hi:i<n):(kM X n)[i]? = some ((List.range n).map λ j=>X.getD (fj n (min i j) (max i j)) 0):=by rw[kM,List.getElem?_map,List.getElem?_range hi];rfl
theorem AjL (N:z8 L) (A:List (List Rat)) (B:List Rat) (n k:Nat) (hA:Sq n A) (hB:B.length=n) (ma:Ms k A) (Aw:Bs k B) (hk:k<=20) (hn:n<=3) (q1 q2 q3:Bool) :
  ∃ v,Ev L 326 [.sl q1 (CN q2 A),.sl q3 (B.map eQ)] v/\(((∀ j,j<=6->D6 (CF n A j)=false)/\v = .j9 [.sl false [],.int .i64 14])\/((∃ i,i<=6/\SI n A i)/\((¬ NS (BC n n).length (gM A n)/\v = .j9 [.sl false [],.int .i64 11])\/(NS (BC n n).length (gM A n) /\ ∃ X:List Rat,OT A B X n/\Bs (E0 (4*k+2) (BC n n).length) X/\v = .j9 [.sl false (eM (kM X n)),.int .i64 0])))):=by
 have cj:=hA.l;obtain ⟨v,Cm,db⟩:=AjM N.toeo q1 q2 A n k hA ma (by omega) (by omega);refine Ev.xE N.WJ rfl rfl ?_;rcases db with ⟨i0,i1,i2,rfl⟩|⟨i1,rfl⟩
 rotate_left
 ·(repeat' ((first|(apply AG<;>intro hc<;>try (exfalso;omega))|apply AR|apply AE|refine AC (Cm) ?_)<;>conv=>whnf))
  exact ⟨_,AX rfl (IW [] 14),Or.inl ⟨i1,rfl⟩⟩
 have nm : ∃ i,i<=6/\SI n A i:=⟨i0,i1,i2⟩;clear i1 i2;generalize ((2^i0:Nat):Int)=pw0 at *;clear i0;by_cases vj:n=0
 ·subst vj
  (repeat' ((first|(apply AG<;>intro hc<;>try (exfalso;omega))|apply AR|apply AE|refine AC (Cm) ?_)<;>conv=>whnf))
  refine ⟨_,AX rfl (IW [] 0),Or.inr ⟨nm,Or.inr ⟨λ X hX _ j => ?_,[],⟨rfl,λ i r s hr=>by cases hr⟩,(λ x hx=>by cases hx),rfl⟩⟩⟩;rw[List.length_eq_zero_iff.1 hX];rfl
 obtain ⟨⟨t1,t2⟩,t3,t4⟩:=AnE hn;have Hd:=Aml hn;have xn:1<=(BC n n).length:=by
  rcases Y7 hn with rfl|rfl|rfl|rfl<;>first|omega|decide
 have hO:=dD N.toc4 1 (by omega);have Ck:=λ i j h1 h2=>Ajq N n i j hn h1 h2
 (repeat' ((first|(apply AG<;>intro hc<;>try (exfalso;omega))|apply AR|apply AE|refine AC (Cm) ?_)<;>conv=>whnf))
 rw[cj];refine jK 9 9 rfl ?_;refine BQ (λ i=>n-i) (λ(i:Nat)=>i<=n) (λ i=>[(11,.int .i64 i),(9,.row 9 0 1 0 (BC n i).length),(10,.row 10 0 3 0 (BC n i).length)]) (λ i=>[(9,9,.mx (BJ 3 eQ ((BC n i).map (DY A n)))),(10,10,.rw 3 (((BC n i).map λ p=>bQ B p.1*bQ B p.2).map eQ))]) [] [] 0 (by (conv=>whnf);exact ⟨rfl,rfl,rfl⟩) (by omega) ?_;intro i p1 ih;by_cases hi:i<n
 ·have hS:=Vr hi
  obtain ⟨r1,bn,mf,ov⟩:=eB hA hi;have Du:A[((i:Nat):Int).toNat]? = some r1:=bn;have Dp:=mZ n (i:=i+1) (n-(i+1));rw[show i+1+(n-(i+1))=n by omega]at Dp;have zt:B[((i:Nat):Int).toNat]? = some (bQ B i):=SR hB hi;(repeat' ((first|(apply AG<;>intro hc<;>try (exfalso;omega))|apply AE)<;>conv=>whnf))
  refine BQ (λ t=>n-i-t) (λ(t:Nat)=>t<=n-i) (λ t=>[(12,.int .i64 ((i+t:Nat):Int)),(9,.row 9 0 1 0 ((BC n i).length+t)),(10,.row 10 0 3 0 ((BC n i).length+t))]) (λ t=>[(9,9,.mx (BJ 3 eQ ((BC n i++DN i t).map (DY A n)))),(10,10,.rw 3 (((BC n i++DN i t).map λ p=>bQ B p.1*bQ B p.2).map eQ))]) [] [] 0 (by first|exact (by (conv=>whnf);exact ⟨rfl,rfl,rfl⟩)|(rw[show DN i 0=[] from rfl,List.append_nil];exact (by (conv=>whnf);exact ⟨rfl,rfl,rfl⟩))) (by omega) ?_;intro t u1 th;by_cases ht:t<n-i
  ·obtain ⟨r2,dd,ja,rf⟩:=eB hA (show i+t<n by omega)
   have Ob:A[((i+t:Nat):Int).toNat]? = some r2:=dd;have Mb:B[((i+t:Nat):Int).toNat]? = some (bQ B (i+t)):=SR hB (by omega);have Le:=aV N.toc4 (Bs.at Aw (SR hB hi)) (Bs.at Aw (SR hB (show i+t<n by omega))) (by omega) (by omega);have Bc:BC n i++DN i (t+1)=(BC n i++DN i t)++[(i,i+t)]:=by rw[Vt,List.append_assoc]
   have Gj:(BC n i++DN i t).length=(BC n i).length+t:=by rw[List.length_append,dW]
   have Ac:(BC n i++DN i (t+1)).map (DY A n)=(BC n i++DN i t).map (DY A n)++[DY A n (i,i+t)]:=by rw[Bc,List.map_append];rfl
   have lk:((BC n i++DN i (t+1)).map λ p=>bQ B p.1*bQ B p.2)=((BC n i++DN i t).map λ p=>bQ B p.1*bQ B p.2)++[bQ B i*bQ B (i+t)]:=by rw[Bc,List.map_append];rfl
   have My:((BC n i++DN i t).map (DY A n)).length=(BC n i).length+t:=by rw[List.length_map];exact Gj
   have Mz:((BC n i++DN i t).map λ p=>bQ B p.1*bQ B p.2).length=(BC n i).length+t:=by rw[List.length_map];exact Gj
   have Mw:((BC n i++DN i (t+1)).map (DY A n)).length=(BC n i).length+(t+1):=by rw[List.length_map,List.length_append,dW]
   have Mx:((BC n i++DN i (t+1)).map λ p=>bQ B p.1*bQ B p.2).length=(BC n i).length+(t+1):=by rw[List.length_map,List.length_append,dW]
   have Lf:=Ck i (i+t) (by omega) (by omega);have vk:=nA hn hi (show i+t<n by omega);rw[show min i (i+t)=i by omega,show max i (i+t)=i+t by omega]at vk;have y7:Y0 n i (i+t)=(List.replicate (n*(n+1)/2) none).set (fj n i (i+t)) (some 1):=rfl;have iw:=AmC (A:=A) hn (show i<=i+t by omega) (show i+t<n by omega);have Og:(Y0 n i (i+t)).length=n*(n+1)/2:=by simp [Y0]
   have hob:=AmD n i (i+t);generalize (BC n i++DN i t).map (DY A n)=G0 at *;generalize ((BC n i++DN i t).map λ p=>bQ B p.1*bQ B p.2)=R0 at *;have AzD:(DY A n (i,i+t)).length=n*(n+1)/2:=by rw[DY,List.length_map,Hd]
   generalize DY A n (i,i+t)=gr at *;generalize bQ B i*bQ B (i+t)=gy at *;(repeat' ((first|(apply AG<;>intro hc<;>try (exfalso;omega))|(apply AY;omega)|(apply FN;omega)|(refine IO ?_ ?_ (λ_ => ?_) (λ_ _ => ?_);omega;omega;all_goals try (exfalso;omega))|apply AE)<;>conv=>whnf))
   refine EV (enc:=eO) none (n*(n+1)/2) rfl t3 (by rw[t3];omega) ?_;(conv=>whnf)
   (repeat' ((first|(apply AZ;omega)|refine AC (Lf) ?_|refine AC (hO) ?_)<;>conv=>whnf))
   refine FX (enc:=eO) (some 1) rfl (λ e=>by cases e<;>rfl) (by rw[List.length_replicate];exact vk) ?_;(conv=>whnf)
   rw[<-y7];generalize Y0 n i (i+t)=S0 at *;skip
   refine BQ (λ k=>n-k) (λ(k:Nat)=>k<=n) (λ k=>[(14,.int .i64 k)]) (λ k=>[(58,58,.rw 3 ((J6 n S0 (λ k h=>A2 A i k*A2 A (i+t) h) k).map eO))]) [] [] 0 (by (conv=>whnf);exact ⟨rfl,rfl,rfl⟩) (by omega) ?_;intro kk k1 kh;by_cases gk:kk<n
   ·have hx1:=ov kk gk
    have AAs:r1[((kk:Nat):Int).toNat]? = some (A2 A i kk):=hx1;have Nr:=Wg (n:=n) hob (λ a b=>(FC ma i a).mul (FC ma (i+t) b)) kk;have Hw:=Wf n S0 (λ k h=>A2 A i k*A2 A (i+t) h) kk;rw[Og]at Hw;have hKn:J6 n S0 (λ k h=>A2 A i k*A2 A (i+t) h) (kk+1)=JR n (J6 n S0 (λ k h=>A2 A i k*A2 A (i+t) h) kk) kk (λ h=>A2 A i kk*A2 A (i+t) h) n:=rfl;have hkb:kk*(n*(k+k+1))<=400:=by
     have h1:n*(k+k+1)<=3*41:=Nat.mul_le_mul hn (by omega);have h2:kk*(n*(k+k+1))<=3*(3*41):=Nat.mul_le_mul (by omega) h1;omega
    (repeat' ((first|(apply AG<;>intro hc<;>try (exfalso;omega))|apply AE)<;>conv=>whnf))
    refine BQ (λ h=>n-h) (λ(h:Nat)=>h<=n) (λ h=>[(15,.int .i64 h)]) (λ h=>[(58,58,.rw 3 ((JR n (J6 n S0 (λ k h=>A2 A i k*A2 A (i+t) h) kk) kk (λ h=>A2 A i kk*A2 A (i+t) h) h).map eO))]) [] [] 0 (by (conv=>whnf);exact ⟨rfl,rfl,rfl⟩) (by omega) ?_;intro hh h1 hhh;generalize J6 n S0 (λ k h=>A2 A i k*A2 A (i+t) h) kk=K0 at *;by_cases hhn:hh<n
    ·have hx2:=rf hh hhn
     have AAu:r2[((hh:Nat):Int).toNat]? = some (A2 A (i+t) hh):=hx2;have hM:=aV N.toc4 (FC ma i kk) (FC ma (i+t) hh) (by omega) (by omega);have te:=Ck (min kk hh) (max kk hh) (by omega) (by omega);have hpm:=nA hn gk hhn;have Nq:=uL (n:=n) (a:=kk) Nr (λ h=>(FC ma i kk).mul (FC ma (i+t) h)) hh;have hlh:=uK n K0 kk (λ h=>A2 A i kk*A2 A (i+t) h) hh;rw[Hw]at hlh;have hHn:JR n K0 kk (λ h=>A2 A i kk*A2 A (i+t) h) (hh+1)=ZX n (JR n K0 kk (λ h=>A2 A i kk*A2 A (i+t) h) hh) kk hh (A2 A i kk*A2 A (i+t) hh):=rfl;generalize JR n K0 kk (λ h=>A2 A i kk*A2 A (i+t) h) hh=H0 at *;obtain ⟨o,ho⟩ : ∃ o,H0[fj n (min kk hh) (max kk hh)]? = some o:=⟨_,zE (by omega)⟩;have hbo:=Nq.at (fj n (min kk hh) (max kk hh));rw[ZX,ho]at hHn;rw[ho]at hbo;have hhb:hh*(k+k+1)<=123:=Nat.mul_le_mul (show hh<=3 by omega) (show k+k+1<=41 by omega);have hSb:Ev L 153 [.agg (eP o),.agg (eQ (A2 A i kk*A2 A (i+t) hh))] (.agg (eQ (o.getD 0-A2 A i kk*A2 A (i+t) hh))):=Aj1 N.tou9 hbo ((FC ma i kk).mul (FC ma (i+t) hh)) (by omega) (by omega);generalize fj n (min kk hh) (max kk hh)=pp at *;generalize A2 A i kk*A2 A (i+t) hh=yy at *;have Lg:(hh<kk/\Ev L 325 [.int .i64 (hh:Int),.int .i64 (kk:Int),.int .i64 (n:Int)] (.int .i64 (pp:Int)))\/(kk<hh/\Ev L 325 [.int .i64 (kk:Int),.int .i64 (hh:Int),.int .i64 (n:Int)] (.int .i64 (pp:Int)))\/(kk=hh/\Ev L 325 [.int .i64 (kk:Int),.int .i64 (kk:Int),.int .i64 (n:Int)] (.int .i64 (pp:Int))):=by
      rcases Nat.lt_trichotomy hh kk with m7|me|me
      ·rw[Nat.min_eq_right (by omega),Nat.max_eq_left (by omega)]at te
       exact Or.inl ⟨m7,te⟩
      ·rw[Nat.min_eq_left (by omega),Nat.max_eq_left (by omega)]at te
       exact Or.inr (Or.inr ⟨me.symm,te⟩)
      ·rw[Nat.min_eq_left (by omega),Nat.max_eq_right (by omega)]at te
       exact Or.inr (Or.inl ⟨me,te⟩)
     clear te;have hHs:H0.set pp (some (o.getD 0-yy))=JR n K0 kk (λ h=>A2 A i kk*A2 A (i+t) h) (hh+1):=hHn.symm;generalize o.getD 0-yy=zz at *;rcases Lg with ⟨m7,te⟩|⟨m7,te⟩|⟨m7,te⟩
     all_goals cases o
     all_goals
      (repeat' ((first|(apply AG<;>intro hc<;>try (exfalso;omega))|(apply AZ;omega)|apply AE|refine AC (te) ?_)<;>conv=>whnf))
      refine cG (l:=H0) (enc:=eO) (by rw[Nat.zero_add,Int.toNat_natCast];exact ho) rfl ?_;(conv=>whnf)
      (repeat' ((first|(apply AZ;omega)|(refine A9 (by assumption) ?_ rfl ?_;omega)|refine AC (hM) ?_|refine AC (hSb) ?_)<;>conv=>whnf))
      refine FX (enc:=eO) (some zz) rfl (λ e=>by cases e<;>rfl) (by omega) ?_;(conv=>whnf)
      rw[hHs];(repeat' ((first|(apply AY;omega)|fail)<;>conv=>whnf))
      exact BF [] (hhh (hh+1) (by omega) (by omega))
    ·have eh:hh=n:=by omega
     clear hhh;rw[eh,<-hKn];(repeat' ((first|(apply AG<;>intro hc<;>try (exfalso;omega))|(apply AY;omega)|apply AE)<;>conv=>whnf))
     exact BF [] (kh (kk+1) (by omega) (by omega))
   ·have ek:kk=n:=by omega
    clear kh;rw[ek,iw,Anl];(repeat' ((first|(apply AG<;>intro hc<;>try (exfalso;omega))|apply AE)<;>conv=>whnf))
    refine AZ (by rw[List.length_map];omega) ?_;refine bZ (r:=gr) (en:=eQ) My.symm (by omega) (by omega) ?_;(conv=>whnf)
    rw[<-Ac,Mw];(repeat' ((first|(refine A9 (by assumption) ?_ rfl ?_;omega)|apply EE|refine AC (Le) ?_)<;>conv=>whnf))
    refine ES (enc:=eQ) gy rfl Mz.symm rfl (by omega) (by omega) ?_;(conv=>whnf)
    rw[<-lk,Mx];(repeat' ((first|(apply AY;omega)|fail)<;>conv=>whnf))
    exact BF [(9,110),(10,122)] (th (t+1) (by omega) (by omega))
  ·have et:t=n-i:=by omega
   clear th;have e1:BC n i++DN i t=BC n (i+1):=by rw[et];rfl
   have e2:(BC n i).length+t=(BC n (i+1)).length:=by rw[hS,et]
   rw[e1,e2];(repeat' ((first|(apply AG<;>intro hc<;>try (exfalso;omega))|(apply AY;omega)|apply AE)<;>conv=>whnf))
   exact BF [] (ih (i+1) (by omega) (by omega))
 have ei:i=n:=by omega
 clear ih;rw[ei];clear ei p1 hi i;obtain ⟨v,hSv,db⟩:=AjH N true true true (gM A n) (gR B n) (BC n n).length (4*k+2) (dK A) (mD B n) (Akk Aw n) ⟨xn,by omega⟩ (Aki ma n) (by omega) (Amz (by omega) (by omega));have Kz:(gM A n).length=(BC n n).length:=(dK A).l;have yi:=mD B n;have Gx : ∀ y:List Rat,y.length=(BC n n).length->(∀ (i:Nat) (r:List Rat) (s:Rat),(gM A n)[i]? = some r->(gR B n)[i]? = some s->A4 r y=s)->OT A B y n:=λ y h1 h2=>⟨h1,h2⟩
 rw[show (BC n n).map (DY A n)=gM A n from rfl,show ((BC n n).map λ p=>bQ B p.1*bQ B p.2)=gR B n from rfl];generalize gM A n=G at *;generalize gR B n=R at *;(repeat' ((first|(apply AG<;>intro hc<;>try (exfalso;omega))|apply AE)<;>conv=>whnf))
 refine KR (λ_=>rfl) rfl Kz.symm ?_;(conv=>whnf)
 refine DH (enc:=eQ) (λ_=>rfl) rfl yi.symm ?_;(conv=>whnf)
 rcases db with ⟨gl,rfl⟩|⟨gl,X,rfl,yo,zq,hX⟩
 ·(repeat' ((first|(apply AG<;>intro hc<;>try (exfalso;omega))|refine AC (hSv) ?_)<;>conv=>whnf))
  exact ⟨_,AX rfl (IW [] 11),Or.inr ⟨nm,Or.inl ⟨gl,rfl⟩⟩⟩
 have hgX:=Gx X yo hX;clear Gx hX;have Az:=gX X n;have Ay:=Az.l;have Em:=Az.r;have Ga : ∀ i,i<n->(kM X n)[i]? = some ((List.range n).map λ j=>X.getD (fj n (min i j) (max i j)) 0):=λ i hi=>Alp hi
 have Cn : ∀ i j,j<n->((List.range n).map λ j=>X.getD (fj n (min i j) (max i j)) 0)[j]? = some (X.getD (fj n (min i j) (max i j)) 0):=λ i j hj=>by rw[List.getElem?_map,List.getElem?_range hj];rfl
 have hXa : ∀ i j,i<n->j<n->X[(((fj n (min i j) (max i j)):Nat):Int).toNat]? = some (X.getD (fj n (min i j) (max i j)) 0):=λ i j hi hj=>by
  have:=nA hn hi hj
  rw[Int.toNat_natCast,List.getD_eq_getElem?_getD,zE (by omega)];rfl
 generalize hQQ:kM X n=Q at *;(repeat' ((first|(apply AG<;>intro hc<;>try (exfalso;omega))|refine AC (hSv) ?_)<;>conv=>whnf))
 unfold CU;refine ⟨⟨by omega,by omega,by simp only[EB];omega,by omega⟩,?_⟩;rw[Int.toNat_natCast];(conv=>whnf)
 skip
 refine BQ (λ i=>n-i) (λ(i:Nat)=>i<=n) (λ i=>[(20,.int .i64 i)]) (λ i=>[(133,133,.mx (mz Q n i))]) [] [] 0 (by first|exact (by (conv=>whnf);exact ⟨rfl,rfl,rfl⟩)|(rw[<-tK Q];exact (by (conv=>whnf);exact ⟨rfl,rfl,rfl⟩))) (by omega) ?_;intro i p1 ih;have hzl:=tH (Q:=Q) p1;by_cases hi:i<n
 ·have hq:=Ga i hi
  have l9:=tJ hq hi;have pd:(mz Q n i)[i]? = some none:=Wu Ay hi;have yu:=Em _ (zM hq);have gn:((List.range n).map λ j=>X.getD (fj n (min i j) (max i j)) 0).take 1=[X.getD (fj n (min i 0) (max i 0)) 0]:=by
   rw[Y6 (Cn i 0 (by omega))];rfl
  have Ny : ∀ j,j<n->((List.range n).map λ j=>X.getD (fj n (min i j) (max i j)) 0).take (j+1)=((List.range n).map λ j=>X.getD (fj n (min i j) (max i j)) 0).take j++[X.getD (fj n (min i j) (max i j)) 0]:=λ j hj=>Y6 (Cn i j hj)
  have te : ∀ j,j<n -> ∀ a b:Int,a=((min i j:Nat):Int)/\b=((max i j:Nat):Int)->Ev L 325 [.int .i64 a,.int .i64 b,.int .i64 (n:Int)] (.int .i64 ((fj n (min i j) (max i j):Nat):Int)):=λ j hj a b h=>by
   rw[h.1,h.2];exact Ck (min i j) (max i j) (by omega) (by omega)
  have hpc:=λ j (hj:j<n)=>nA hn hi hj
  generalize mz Q n i=Z0 at *;generalize ((List.range n).map λ j=>X.getD (fj n (min i j) (max i j)) 0)=qr at *;have Jc:=te 0 (by omega);have ym:=hXa i 0 hi (by omega);have um:=hpc 0 (by omega);generalize X.getD (fj n (min i 0) (max i 0)) 0=y0 at *;generalize fj n (min i 0) (max i 0)=pp at *;(repeat' ((first|(apply AG<;>intro hc<;>try (exfalso;omega))|apply AE)<;>conv=>whnf))
  refine G7 ?_;(repeat' ((first|(apply AG<;>intro hc<;>try (exfalso;omega))|(apply AZ;omega)|apply AE)<;>conv=>whnf))
  refine oK (r:=none) (by rw[Nat.zero_add,Int.toNat_natCast];exact pd) ?_;(conv=>whnf)
  (repeat' ((first|(apply AG<;>intro hc<;>try (exfalso;omega))|(refine A9 (by assumption) ?_ rfl ?_;omega)|apply EE|refine AC (Jc _ _ (by omega)) ?_)<;>conv=>whnf))
  all_goals
   refine eT (enc:=eQ) y0 rfl rfl (by omega) ?_;(conv=>whnf)
   (repeat' ((first|(apply AZ;omega)|fail)<;>conv=>whnf))
   refine AZ rfl ?_;refine cJ (i:=i) (by omega) (by omega) ?_;(conv=>whnf)
   (repeat' ((first|(apply AY;omega)|fail)<;>conv=>whnf))
   refine BQ (λ j=>n-j) (λ(j:Nat)=>1<=j/\j<=n) (λ j=>[(21,.int .i64 j)]) (λ j=>[(133,133,.mx (Z0.set i (some (3,(qr.take j).map eQ))))]) [] [] 1 (by first|exact (by (conv=>whnf);exact ⟨rfl,rfl,rfl⟩)|(rw[gn];exact (by (conv=>whnf);exact ⟨rfl,rfl,rfl⟩))) (by omega) ?_;intro j ⟨r1,r2⟩ jh;have Dz:(qr.take j).length=j:=by rw[List.length_take];omega
   by_cases hj:j<n
   ·have rm:=Ny j hj
    have Ea:(qr.take (j+1)).length=j+1:=by rw[List.length_take];omega
    have hPj:=te j hj;have Jl:=hXa i j hi hj;have hpj:=hpc j hj;generalize X.getD (fj n (min i j) (max i j)) 0=yj at *;generalize fj n (min i j) (max i j)=pj at *;generalize qr.take j=W at *;(repeat' ((first|(apply AG<;>intro hc<;>try (exfalso;omega))|(apply AZ;omega)|apply AE)<;>conv=>whnf))
    refine aE (by omega) (by omega) ?_;(conv=>whnf)
    (repeat' ((first|(apply AG<;>intro hc<;>try (exfalso;omega))|(refine A9 (by assumption) ?_ rfl ?_;omega)|apply EE|refine AC (hPj _ _ (by omega)) ?_)<;>conv=>whnf))
    all_goals
     refine X7 (by omega) (by omega) ?_;(conv=>whnf)
     refine ES (enc:=eQ) yj rfl (by rw[List.length_map]) rfl (by omega) (by omega) ?_;intro s' v;rw[<-rm,Ea];(conv=>whnf)
     (repeat' ((first|(apply AZ;omega)|fail)<;>conv=>whnf))
     refine AZ ⟨rfl,by rw[List.length_map];omega⟩ ?_;refine cJ (i:=i) (by omega) (by rw[List.length_set,List.length_set];omega) ?_;rw[show 0+((i:Int)).toNat=i by omega,List.set_set,List.set_set];(conv=>whnf)
     (repeat' ((first|(apply AY;omega)|fail)<;>conv=>whnf))
     exact BF [] (jh (j+1) (by omega) (by omega))
   ·have ej:j=n:=by omega
    clear jh;rw[ej,List.take_of_length_le (by omega),l9];(repeat' ((first|(apply AG<;>intro hc<;>try (exfalso;omega))|(apply AY;omega)|apply AE)<;>conv=>whnf))
    exact BF [] (ih (i+1) (by omega) (by omega))
 have ei:i=n:=by omega
 clear ih;rw[ei,tG (by omega)];(repeat' ((first|(apply AG<;>intro hc<;>try (exfalso;omega))|apply AE)<;>conv=>whnf))
 refine ⟨.j9 [.sl false (eM Q),.int .i64 0],?_,Or.inr ⟨nm,Or.inr ⟨gl,X,hgX,zq,by rw[hQQ]⟩⟩⟩;(conv=>whnf)
 refine KR (λ_=>rfl) rfl Ay.symm ?_;(conv=>whnf)
 exact AX rfl (IW Q 0)
end Go.e8

namespace Go.e8
set_option maxHeartbeats 16000000
def XU (K:List (List Rat)) (v:List Rat) (n:Nat):Rat:=B6 (λ i=>B6 (λ j=>A2 K i j*(bQ v i*bQ v j)) n) n
def OO (c:List Rat) (A:List (List Rat)) (n:Nat):List Rat:=(List.range n).map λ j=>B6 (λ i=>bQ c i*A2 A i j) n
def SG (c:List Rat) (A:List (List Rat)) (n:Nat):Nat->List Rat
 | 0=>c
 | k+1=>OO (SG c A n k) A n
def OK (S:GJ) (K:List (List Rat)) (n:Nat):Nat->Rat
 | 0=>S.d*S.d+XU K S.c n
 | k+1=>XU K (SG S.c S.a n k) n
theorem Xz (c:List Rat) (A:List (List Rat)) (n:Nat):(OO c A n).length=n:=by simp [OO]
theorem AnN {c:List Rat} {A:List (List Rat)} {n:Nat} (h:c.length=n) : ∀ k,(SG c A n k).length=n
 | 0=>h
 | k+1=>Xz _ _ _
theorem Z4 {k:Nat} {f:Nat->Rat} (h : ∀ j,Bt k (f j)) : ∀ m,Bt (m*(k+1)) (B6 f m)
 | 0=>Bt.zero _
 | m+1=>by
  rw[B6];exact ((Z4 h m).add (h m)).le (by rw[Nat.succ_mul];omega)
theorem H8 {k:Nat} {v:List Rat} (h:Bs k v) (i:Nat):Bt k (bQ v i):=Bs.getD h i
theorem AnM {k l:Nat} {c:List Rat} {A:List (List Rat)} (hc:Bs k c) (hA:Ms l A) (n:Nat):Bs (n*(k+l+1)) (OO c A n):=λ x hx=>by
 obtain ⟨j,_,rfl⟩:=List.mem_map.1 hx;exact Z4 (λ i=>(H8 hc i).mul (FC hA i j)) n
def Z8 (k l:Nat):Nat->Nat
 | 0=>k
 | t+1=>3*(Z8 k l t+l+1)
theorem Ya {k l n:Nat} {c:List Rat} {A:List (List Rat)} (hc:Bs k c) (hA:Ms l A) (hn:n<=3) : ∀ t,Bs (Z8 k l t) (SG c A n t)
 | 0=>hc
 | t+1=>(AnM (Ya hc hA hn t) hA n).le (Nat.mul_le_mul_right _ hn)
theorem Xy {k k' l l':Nat} (h:k<=k') (h':l<=l') : ∀ t,Z8 k l t<=Z8 k' l' t
 | 0=>h
 | t+1=>by
  have:=Xy h h' t
  rw[Z8,Z8];omega
theorem AnL {k t:Nat} (hk:k<=40) (h:t<=6):Z8 k k t<=100000:=by
 have : ∀ t,t<7->Z8 40 40 t<=100000:=by decide
 exact Nat.le_trans (Xy hk hk t) (this t (by omega))
end Go.e8

namespace Go.e8
open F
attribute [local irreducible] AA AF AP AD CB AU AW BA A6 B2 AM BO B8 C8 BN A3 BX B9 AB A8 AJ pw BK BI CJ CK CU CR CI BT CT
variable {L:Lib}
set_option maxHeartbeats 16000000
set_option maxRecDepth 8000
theorem rC (N:q5 L) (S:GJ) (n k:Nat) (h:S.Ok n k) (hn:n<=8):Ev L 328 [.agg (eS S)] (.bool true):=by
 have Ll:=AiL N.tofb S n k h (by omega);have hla:=h.la;refine Ev.x N.UM rfl rfl ?_;(repeat' ((first|(apply AG<;>intro hc<;>try (exfalso;omega))|apply AR|apply AE|refine AC (Ll) ?_)<;>conv=>whnf))
 exact GG rfl
theorem AjV (N:q5 L) (S:GJ) (n k:Nat) (h:S.Ok n k) (hn:n<=8):Ev L 333 [.agg (eS S)] (.bool true):=by
 have Ll:=AiM N.tofb S n k h (by omega);have hla:=h.la;refine Ev.x N.WK rfl rfl ?_;(repeat' ((first|(apply AG<;>intro hc<;>try (exfalso;omega))|apply AR|apply AE|refine AC (Ll) ?_)<;>conv=>whnf))
 exact GG rfl
theorem Qz (N:q5 L) (q1 q2 q3:Bool) (K:List (List Rat)) (v:List Rat) (n k l:Nat) (hK:Sq n K) (hv:v.length=n) (vf:Ms k K) (va:Bs l v) (hn:n<=3) (hk:k<=1000000000) (hl:l<=1000000000) :
  Ev L 329 [.sl q1 (CN q2 K),.sl q3 (v.map eQ)] (.agg (eQ (XU K v n))):=by
 have hO:=I2 N.tob7 0 (by omega);rw[show ((0:Int):Rat)=0 from rfl]at hO;have cj:=hK.l;have kb : ∀ i,Bt (n*((k+(l+l))+1)) (B6 (λ j=>A2 K i j*(bQ v i*bQ v j)) n):=λ i=>Z4 (λ j=>(FC vf i j).mul ((H8 va i).mul (H8 va j))) n
 have hB1:n*((k+(l+l))+1)<=3*((k+(l+l))+1):=Nat.mul_le_mul_right _ hn;refine Ev.x N.UH rfl rfl ?_;(repeat' ((first|apply AR|apply AE|refine AC (hO) ?_)<;>conv=>whnf))
 refine BQ (λ i=>n-i) (λ(i:Nat)=>i<=n) (λ i=>[(11,.int .i64 i)]) (λ i=>[(5,5,.bx (eQ (B6 (λ i=>B6 (λ j=>A2 K i j*(bQ v i*bQ v j)) n) i)))]) [] [] 0 (by (conv=>whnf);exact ⟨rfl,rfl,rfl⟩) (by omega) ?_;intro i p1 ih;have hib:=Z4 kb i;have hB2:i*(n*((k+(l+l))+1)+1)<=3*(3*((k+(l+l))+1)+1):=Nat.mul_le_mul (by omega) (by omega);by_cases hi:i<n
 ·obtain ⟨r1,bn,mf,ov⟩:=eB hK hi
  have Du:K[((i:Nat):Int).toNat]? = some r1:=bn;have Pk:v[((i:Nat):Int).toNat]? = some (bQ v i):=SR hv hi;have Ox:B6 (λ i=>B6 (λ j=>A2 K i j*(bQ v i*bQ v j)) n) (i+1)=B6 (λ i=>B6 (λ j=>A2 K i j*(bQ v i*bQ v j)) n) i+B6 (λ j=>A2 K i j*(bQ v i*bQ v j)) n:=rfl;generalize B6 (λ i=>B6 (λ j=>A2 K i j*(bQ v i*bQ v j)) n) i=s0 at *;(repeat' ((first|(apply AG<;>intro hc<;>try (exfalso;omega))|apply AR|(refine A9 (by assumption) ?_ rfl ?_;omega)|apply AE)<;>conv=>whnf))
  refine BQ (λ j=>n-j) (λ(j:Nat)=>j<=n) (λ j=>[(19,.int .i64 j)]) (λ j=>[(5,5,.bx (eQ (s0+B6 (λ j=>A2 K i j*(bQ v i*bQ v j)) j)))]) [] [] 0 (by first|exact (by (conv=>whnf);exact ⟨rfl,rfl,rfl⟩)|(rw[show s0+B6 (λ j=>A2 K i j*(bQ v i*bQ v j)) 0=s0 from Rat.add_zero s0];exact (by (conv=>whnf);exact ⟨rfl,rfl,rfl⟩))) (by omega) ?_;intro j j1 jh;have Bj:=hib.add (Z4 (λ j=>(FC vf i j).mul ((H8 va i).mul (H8 va j))) j);have hB3:j*((k+(l+l))+1)<=3*((k+(l+l))+1):=Nat.mul_le_mul_right _ (by omega);by_cases hj:j<n
  ·have gv:r1[((j:Nat):Int).toNat]? = some (A2 K i j):=ov j hj
   have hvj:v[((j:Nat):Int).toNat]? = some (bQ v j):=SR hv hj;have eb:=GT N.tob7 (H8 va i) (H8 va j) (by omega) (by omega);have fm:=GT N.tob7 (FC vf i j) ((H8 va i).mul (H8 va j)) (by omega) (by omega);have hA:=ZM N.tob7 Bj ((FC vf i j).mul ((H8 va i).mul (H8 va j))) (by omega) (by omega);have Ie:s0+B6 (λ j=>A2 K i j*(bQ v i*bQ v j)) j+A2 K i j*(bQ v i*bQ v j)=s0+B6 (λ j=>A2 K i j*(bQ v i*bQ v j)) (j+1):=Rat.add_assoc _ _ _;rw[Ie]at hA;generalize s0+B6 (λ j=>A2 K i j*(bQ v i*bQ v j)) j=s1 at *;generalize A2 K i j*(bQ v i*bQ v j)=p2 at *;generalize bQ v i*bQ v j=p3 at *;(repeat' ((first|(apply AG<;>intro hc<;>try (exfalso;omega))|(apply AY;omega)|(refine A9 (by assumption) ?_ rfl ?_;omega)|apply AE|refine AC (eb) ?_|refine AC (fm) ?_|refine AC (hA) ?_)<;>conv=>whnf))
   exact BF [] (jh (j+1) (by omega) (by omega))
  ·have ej:j=n:=by omega
   clear jh;rw[ej,<-Ox];(repeat' ((first|(apply AG<;>intro hc<;>try (exfalso;omega))|(apply AY;omega)|apply AE)<;>conv=>whnf))
   exact BF [] (ih (i+1) (by omega) (by omega))
 ·have ei:i=n:=by omega
  clear ih;rw[ei,show B6 (λ i=>B6 (λ j=>A2 K i j*(bQ v i*bQ v j)) n) n=XU K v n from rfl];generalize XU K v n=y at *;(repeat' ((first|(apply AG<;>intro hc<;>try (exfalso;omega))|apply AE)<;>conv=>whnf))
  exact AX rfl (DJ _)
theorem AiP (N:q5 L) (q1 q2 q3:Bool) (c:List Rat) (A:List (List Rat)) (n k l:Nat) (hA:Sq n A) (o4:c.length=n) (ma:Ms k A) (ug:Bs l c) (hn:n<=3) (hk:k<=1000000000) (hl:l<=1000000000) :
  Ev L 330 [.sl q1 (c.map eQ),.sl q2 (CN q3 A)] (.sl false ((OO c A n).map eQ)):=by
 have hO:=I2 N.tob7 0 (by omega);rw[show ((0:Int):Rat)=0 from rfl]at hO;have cj:=hA.l;have mn:=Xz c A n;refine Ev.x N.UG rfl rfl ?_;(repeat' ((first|apply AR|apply AE)<;>conv=>whnf))
 refine EV (enc:=eO) none n rfl (by omega) (by omega) ?_;(conv=>whnf)
 skip
 refine BQ (λ i=>n-i) (λ(i:Nat)=>i<=n) (λ i=>[(14,.int .i64 i)]) (λ i=>[(11,11,.rw 3 ((EM ((OO c A n).take i) n).map eO))]) [] [] 0 (by first|exact (by (conv=>whnf);exact ⟨rfl,rfl,rfl⟩)|(rw[List.take_zero,<-YM];exact (by (conv=>whnf);exact ⟨rfl,rfl,rfl⟩))) (by omega) ?_;intro i p1 ih;have cp:((OO c A n).take i).length=i:=by rw[List.length_take];omega
 have Hf:=XT (l:=(OO c A n).take i) (m:=n) (by omega);by_cases hi:i<n
 ·have hyx:(OO c A n)[i]? = some (B6 (λ a=>bQ c a*A2 A a i) n):=by rw[OO,List.getElem?_map,List.getElem?_range hi];rfl
  have l9:=YN (l:=(OO c A n).take i) (m:=n) (x:=B6 (λ a=>bQ c a*A2 A a i) n) (by omega);rw[cp,<-Y6 hyx]at l9;generalize EM ((OO c A n).take i) n=F0 at *;(repeat' ((first|(apply AG<;>intro hc<;>try (exfalso;omega))|apply AR|apply AE|refine AC (hO) ?_)<;>conv=>whnf))
  refine BQ (λ j=>n-j) (λ(j:Nat)=>j<=n) (λ j=>[(20,.int .i64 j)]) (λ j=>[(7,7,.bx (eQ (B6 (λ a=>bQ c a*A2 A a i) j)))]) [] [] 0 (by (conv=>whnf);exact ⟨rfl,rfl,rfl⟩) (by omega) ?_;intro j j1 jh;have Bj:=Z4 (λ a=>(H8 ug a).mul (FC ma a i)) j;have hB3:j*(l+k+1)<=3*(l+k+1):=Nat.mul_le_mul_right _ (by omega);by_cases hj:j<n
  ·obtain ⟨r1,bn,mf,ov⟩:=eB hA hj
   have Du:A[((j:Nat):Int).toNat]? = some r1:=bn;have gv:r1[((i:Nat):Int).toNat]? = some (A2 A j i):=ov i hi;have zw:c[((j:Nat):Int).toNat]? = some (bQ c j):=SR o4 hj;have eb:=GT N.tob7 (H8 ug j) (FC ma j i) (by omega) (by omega);have Ja:=ZM N.tob7 Bj ((H8 ug j).mul (FC ma j i)) (by omega) (by omega);rw[show B6 (λ a=>bQ c a*A2 A a i) j+bQ c j*A2 A j i=B6 (λ a=>bQ c a*A2 A a i) (j+1) from rfl]at Ja;generalize B6 (λ a=>bQ c a*A2 A a i) j=s1 at *;generalize bQ c j*A2 A j i=p2 at *;(repeat' ((first|(apply AG<;>intro hc<;>try (exfalso;omega))|(apply AY;omega)|(refine A9 (by assumption) ?_ rfl ?_;omega)|apply AE|refine AC (eb) ?_|refine AC (Ja) ?_)<;>conv=>whnf))
   exact BF [] (jh (j+1) (by omega) (by omega))
  ·have ej:j=n:=by omega
   clear jh;rw[ej];generalize B6 (λ a=>bQ c a*A2 A a i) n=y at *;(repeat' ((first|(apply AG<;>intro hc<;>try (exfalso;omega))|(apply AZ;omega)|apply AE)<;>conv=>whnf))
   refine FX (enc:=eO) (some y) rfl (λ e=>by cases e<;>rfl) (by omega) ?_;(conv=>whnf)
   rw[l9];(repeat' ((first|(apply AY;omega)|fail)<;>conv=>whnf))
   exact BF [] (ih (i+1) (by omega) (by omega))
 ·have ei:i=n:=by omega
  clear ih;rw[ei,List.take_of_length_le (by omega),YL mn];(repeat' ((first|(apply AG<;>intro hc<;>try (exfalso;omega))|apply AE)<;>conv=>whnf))
  refine DH (enc:=eQ) (λ_=>rfl) rfl (by omega) ?_;(conv=>whnf)
  refine AX rfl ?_;simp only[A0];exact ⟨trivial,IE _⟩
theorem Amy {k m:Nat} (hk:k<=82) (hm:m<=6):E0 k m<=340000:=by
 rcases (show m=0\/m=1\/m=2\/m=3\/m=4\/m=5\/m=6 by omega) with rfl|rfl|rfl|rfl|rfl|rfl|rfl<;>simp only[E0]<;>omega
def wN (A:List (List Rat)) (B:List Rat) (n:Nat) (v:AV):Prop :=
 (((∀ j,j<=6->D6 (CF n A j)=false) \/ ¬ NS (BC n n).length (gM A n)) /\ ∃ e:Int,e≠0/\v = .j9 [.sl false [],.int .i64 e])\/((∃ i,D6 (CF n A i)=true)/\NS (BC n n).length (gM A n) /\ ∃ X:List Rat,OT A B X n/\Bs 340000 X/\v = .j9 [.sl false (eM (kM X n)),.int .i64 0])
theorem Ut (N:z8 L) (A:List (List Rat)) (B:List Rat) (n:Nat) {k:Nat} (h:W9 A B n k) (hk:k<=20) (hn:n<=3) :
  ∃ v,Ev L 324 [.sl false (CN false A),.sl false (B.map eQ)] v/\Ev L 326 [.sl false (CN false A),.sl false (B.map eQ)] v/\wN A B n v:=by
 obtain ⟨v,h1,o1⟩:=AiI N A B n k h (by omega) hn false false false;obtain ⟨w,h2,o2⟩:=AjL N A B n k h.sq h.lb h.ba h.bb hk hn false false false;rcases o1 with ⟨c1,rfl⟩|⟨⟨i,i1,i2⟩,o1⟩
 ·rcases o2 with ⟨_,rfl⟩|⟨⟨j,j1,j2⟩,_⟩
  ·exact ⟨_,h1,h2,Or.inl ⟨Or.inl c1,14,by decide,rfl⟩⟩
  ·have:=c1 j j1
   rw[j2.1]at this;cases this
 ·rcases o2 with ⟨c2,_⟩|⟨_,o2⟩
  ·have:=c2 i i1
   rw[i2.1]at this;cases this
  ·rcases o1 with ⟨n1,rfl⟩|⟨n1,X,g1,rfl⟩
   ·rcases o2 with ⟨_,rfl⟩|⟨n2,_⟩
    ·exact ⟨_,h1,h2,Or.inl ⟨Or.inr n1,11,by decide,rfl⟩⟩
    ·exact absurd n2 n1
   ·rcases o2 with ⟨n2,_⟩|⟨n2,Y,g2,hY,rfl⟩
    ·exact absurd n1 n2
    ·obtain rfl:=g1.uniq g2 n1
     exact ⟨_,h1,h2,Or.inr ⟨⟨i,i2.1⟩,n1,X,g1,hY.le (Amy (by omega) (mY hn)),rfl⟩⟩
theorem AiO (N:q5 L) (S:GJ) (n m:Nat) {k:Nat} (hS:S.Ok n k) (hk:k<=1000) (hn:n<=3) (hm:m<=6) (e:Int) (he:e≠0) (hv:Ev L 324 [.sl false (CN false S.a),.sl false (S.b.map eQ)] (.j9 [.sl false [],.int .i64 e])) :
  Ev L 331 [.agg (eS S),.int .i64 (m:Int)] (.j9 [.agg [.bool false,.sl false [],.sl false []],.int .i64 e]):=by
 have Cq:=rC N S n k hS (by omega);refine Ev.x N.JB rfl rfl ?_;(repeat' ((first|(apply AG<;>intro hc<;>try (exfalso;omega))|apply AE|refine AC (Cq) ?_|refine AC (hv) ?_)<;>conv=>whnf))
 exact AX rfl (by simp [A0,CE,FH])
theorem Qu (N:q5 L) (S:GJ) (n:Nat) {k:Nat} (hS:S.Ok n k) (hk:k<=1000) (hn:n<=3) {kk:Nat} (K:List (List Rat)) (hK:Sq n K) (vf:Ms kk K) (gk:kk<=4000000) (hv:Ev L 324 [.sl false (CN false S.a),.sl false (S.b.map eQ)] (.j9 [.sl false (eM K),.int .i64 0])) :
  Ev L 331 [.agg (eS S),.int .i64 0] (.j9 [.agg (eQ (OK S K n 0)),.int .i64 0]):=by
 have Cq:=rC N S n k hS (by omega);have hA:Sq n S.a:=⟨hS.la,hS.lr⟩;have hF:=λ q1 q2 q3=>Qz N q1 q2 q3 K S.c n kk k hK hS.lc vf hS.bc hn (by omega) (by omega)
 have hM:=GT N.tob7 hS.bd hS.bd (by omega) (by omega);have Gv:Bt (3*(3*(kk+(k+k)+1)+1)) (XU K S.c n):=(Z4 (λ i=>(Z4 (λ j=>(FC vf i j).mul ((H8 hS.bc i).mul (H8 hS.bc j))) n).le (Nat.mul_le_mul_right _ hn)) n).le (Nat.mul_le_mul_right _ hn);have Ja:=ZM N.tob7 (hS.bd.mul hS.bd) Gv (by omega) (by omega);refine Ev.x N.JB rfl rfl ?_;(repeat' ((first|(apply AG<;>intro hc<;>try (exfalso;omega))|apply AE|refine AC (Cq) ?_|refine AC (hv) ?_|refine AC (hM) ?_|refine AC (hF _ _ _) ?_|refine AC (Ja) ?_)<;>conv=>whnf))
 exact AX rfl (by simp only[A0,CE,and_true,true_and];exact ⟨CQ _,CQ _⟩)
theorem AiN (N:q5 L) (S:GJ) (n m:Nat) {k:Nat} (hS:S.Ok n k) (hk:k<=40) (hn:n<=3) (hm:m<=6) {kk:Nat} (K:List (List Rat)) (hK:Sq n K) (vf:Ms kk K) (gk:kk<=4000000) (hv:Ev L 324 [.sl false (CN false S.a),.sl false (S.b.map eQ)] (.j9 [.sl false (eM K),.int .i64 0])) :
  Ev L 331 [.agg (eS S),.int .i64 (m:Int)] (.j9 [.agg (eQ (OK S K n m)),.int .i64 0]):=by
 have Cq:=rC N S n k hS (by omega);have hA:Sq n S.a:=⟨hS.la,hS.lr⟩;cases m with
 | zero=>exact Qu N S n hS (by omega) hn K hK vf gk hv
 | succ m =>
  refine Ev.x N.JB rfl rfl ?_;(repeat' ((first|(apply AG<;>intro hc<;>try (exfalso;omega))|(apply B3;omega)|apply AE|refine AC (Cq) ?_|refine AC (hv) ?_)<;>conv=>whnf))
  refine BQ (λ t=>m-t) (λ(t:Nat)=>t<=m) (λ t=>[(48,.int .i64 t),(8,.sl false ((SG S.c S.a n t).map eQ))]) (λ_=>[]) [] [] 0 (by (conv=>whnf);exact ⟨rfl,rfl,rfl⟩) (by omega) ?_;intro t p1 ih;have hb:=(Ya hS.bc hS.ba hn t).le (AnL hk (show t<=6 by omega));have hl:=AnN (A:=S.a) hS.lc t;by_cases ht:t<m
  ·have hBh:=λ q1 q2 q3=>AiP N q1 q2 q3 (SG S.c S.a n t) S.a n k 100000 hA hl hS.ba hb hn (by omega) (by omega)
   rw[show OO (SG S.c S.a n t) S.a n=SG S.c S.a n (t+1) from rfl]at hBh;(repeat' ((first|(apply AG<;>intro hc<;>try (exfalso;omega))|(apply AY;omega)|apply AE|refine AC (hBh _ _ _) ?_)<;>conv=>whnf))
   exact BF [] (ih (t+1) (by omega) (by omega))
  ·have et:t=m:=by omega
   clear ih;rw[et]at hb hl ⊢;have hF:=λ q1 q2 q3=>Qz N q1 q2 q3 K (SG S.c S.a n m) n kk 100000 hK hl vf hb hn (by omega) (by omega)
   rw[show XU K (SG S.c S.a n m) n=OK S K n (m+1) from rfl]at hF;generalize OK S K n (m+1)=y at *;generalize SG S.c S.a n m=c0 at *;(repeat' ((first|(apply AG<;>intro hc<;>try (exfalso;omega))|apply AE|refine AC (hF _ _ _) ?_)<;>conv=>whnf))
   exact AX rfl (by simp only[A0,CE,and_true,true_and];exact ⟨CQ _,CQ _⟩)
theorem AiG (N:q5 L) (S:GJ) (n:Nat) {k:Nat} (hS:S.Ok n k) (hk:k<=1000) (hn:n<=3) (e:Int) (he:e≠0) (hv:Ev L 324 [.sl false (CN false S.a),.sl false (S.b.map eQ)] (.j9 [.sl false [],.int .i64 e])) :
  Ev L 332 [.agg (eS S)] (.j9 [.agg [.bool false,.sl false [],.sl false []],.int .i64 e]):=by
 have hT:=AiO N S n 0 hS hk hn (by omega) e he hv;refine Ev.x N.L0 rfl rfl ?_;(repeat' ((first|apply AE|refine AC (hT) ?_)<;>conv=>whnf))
 exact AX rfl (by simp [A0,CE,FH])
theorem Qs (N:q5 L) (S:GJ) (n:Nat) {k:Nat} (hS:S.Ok n k) (hk:k<=1000) (hn:n<=3) {kk:Nat} (K:List (List Rat)) (hK:Sq n K) (vf:Ms kk K) (gk:kk<=4000000) (hv:Ev L 324 [.sl false (CN false S.a),.sl false (S.b.map eQ)] (.j9 [.sl false (eM K),.int .i64 0])) :
  Ev L 332 [.agg (eS S)] (.j9 [.agg (eQ (OK S K n 0)),.int .i64 0]):=by
 have hT:=Qu N S n hS hk hn K hK vf gk hv;refine Ev.x N.L0 rfl rfl ?_;(repeat' ((first|apply AE|refine AC (hT) ?_)<;>conv=>whnf))
 exact AX rfl (by simp only[A0,CE,and_true,true_and];exact ⟨CQ _,CQ _⟩)
theorem AjK (N:q5 L) (S:GJ) (n:Nat) {k:Nat} (hS:S.Ok n k) (hk:k<=1000) (hn:n<=3) (e:Int) (he:e≠0) (hv:Ev L 326 [.sl false (CN false S.a),.sl false (S.b.map eQ)] (.j9 [.sl false [],.int .i64 e])) :
  Ev L 334 [.agg (eS S)] (.j9 [.agg [.bool false,.sl false [],.sl false []],.int .i64 e]):=by
 have Cq:=AjV N S n k hS (by omega);refine Ev.x N.WI rfl rfl ?_;(repeat' ((first|(apply AG<;>intro hc<;>try (exfalso;omega))|apply AE|refine AC (Cq) ?_|refine AC (hv) ?_)<;>conv=>whnf))
 exact AX rfl (by simp [A0,CE,FH])
theorem Bt.ng {k:Nat} {x:Rat} (h:Bt k x):Bt k (-x):=⟨by simpa using h.1,by simpa using h.2⟩
theorem Akv:Bt 4 (Rat.divInt 1 2):=(Bt.mk (k:=4) (z:=1) (d:=2) (by decide) (by decide))
end Go.e8



namespace Go.e8
open F
attribute [local irreducible] AA AF AP AD CB AU AW BA A6 B2 AM BO B8 C8 BN A3 BX B9 AB A8 AJ pw BK BI CJ CK CU CR CI BT CT
variable {L:Lib}
set_option maxHeartbeats 32000000
set_option maxRecDepth 8000
theorem vZ {A:List (List Rat)} {k M:Nat} (h : ∀ r∈A,∀ x∈r,Wh k ((M:Rat)*x)) (i j:Nat):Wh k ((M:Rat)*A2 A i j):=by
 have h0:Wh k ((M:Rat)*0):=by rw[Rat.mul_zero];exact Wh.zero k
 cases e:A[i]? with
 | none =>
  rw[A2,show A.getD i []=[] by rw[List.getD_eq_getElem?_getD,e];rfl];exact h0
 | some r =>
  rw[OW e,List.getD_eq_getElem?_getD];cases e2:r[j]? with
  | none=>exact h0
  | some x=>exact h r (zM e) x (zM e2)
theorem rX {A:List (List Rat)} {B:List Rat} {n k M m l:Nat} (hn:n<=3) (hA:Sq n A) (hB:B.length=n) (ma:Ms k A) (Aw:Bs k B) (hM:1<=M) (fm:M<=2^m) (hm:2*m+2<=180) (hl:2*l<=180)
  (ha : ∀ i j,Wh m ((M:Rat)*A2 A i j)) (hb : ∀ i,Wh l ((M:Rat)*bQ B i)):W9 A B n k:=by
 have Ld:M*M<=2^(2*m):=by
  rw[Nat.two_mul,Nat.pow_add];exact Nat.mul_le_mul fm fm
 have eb:1<=M*M:=Nat.mul_le_mul hM hM;have hg:=Akj (A:=A) ha fm (n:=n);have vh : ∀ y∈gR B n,Wh 180 (((M*M:Nat):Rat)*y):=λ y hy=>by
  obtain ⟨p,_,rfl⟩:=List.mem_map.1 hy;have:=(hb p.1).mul (hb p.2)
  rw[show (M:Rat)*bQ B p.1*((M:Rat)*bQ B p.2)=((M*M:Nat):Rat)*(bQ B p.1*bQ B p.2) by rw[Rat.natCast_mul];grind]at this;exact this.le (by omega)
 have mc : ∀ r∈CO (gM A n) ((gR B n).map λ x=>[x]),∀ x∈r,Wh 180 (((M*M:Nat):Rat)*x):=by
  intro r hr;obtain ⟨i,hi⟩:=List.getElem?_of_mem hr;rw[CO,List.getElem?_zipWith]at hi;cases e1:(gM A n)[i]? with
  | none=>rw[e1]at hi;cases hi
  | some u =>
   rw[e1,List.getElem?_map]at hi;cases e2:(gR B n)[i]? with
   | none=>rw[e2]at hi;cases hi
   | some y =>
    rw[e2]at hi;obtain rfl:=Option.some.inj hi;intro x hx;rcases List.mem_append.1 hx with hx|hx
    ·exact (hg u (zM e1) x hx).le (by omega)
    ·obtain rfl:=List.mem_singleton.1 hx
     exact vh _ (zM e2)
 have bt : ∀ x:Rat,Wh 180 (((M*M:Nat):Rat)*x)->Bt 180 x:=λ x hx=>Age (S:=M*M) (by omega) (Nat.le_trans Ld (Nat.pow_le_pow_right (by omega) (by omega))) (by rw[Rat.mul_comm];exact hx)
 refine ⟨hA,hB,ma,Aw,λ r hr x hx=>bt x ((hg r hr x hx).le (by omega)),λ x hx=>bt x (vh x hx),λ r hr j => ?_,λ r hr => ?_⟩
 ·exact ((Vn eb Ld (k:=180) λ x hx=>mc r hr x (List.mem_of_mem_take hx)).1.bt).le (by omega)
 ·obtain ⟨s,hs,rfl⟩:=List.mem_map.1 hr
  intro x hx;obtain ⟨y,hy,rfl⟩:=List.mem_map.1 hx;exact ((Vn eb Ld (k:=180) λ x hx=>mc s hs x hx).2 y hy).bt
theorem Ai3 (N:gd L) (vh:W9 [[Rat.divInt 1 2]] [1] 1 10 -> ∃ v,Ev L 324 [.sl false (CN false [[Rat.divInt 1 2]]),.sl false ([(1:Rat)].map eQ)] v/\wN [[Rat.divInt 1 2]] [1] 1 v):Ev L 336 [] (.bool true):=by
 have A:q7 L:=N.toae.toew.toq7;have hO:=dD A.toc4 1 (by omega);have hF:=lT A.toc4 1 2 (by omega) (by omega);have hF2:=lT A.toc4 4 3 (by omega) (by omega);have hF3:=lT A.toc4 1 3 (by omega) (by omega);have hh:=Akv;have m9 : -(Rat.divInt 1 2)≠0:=by decide
 have Mg:D6 (CF 1 [[Rat.divInt 1 2]] 0)=true:=by decide +kernel
 have hG:W9 [[Rat.divInt 1 2]] [1] 1 10:=by
  refine rX (M:=2) (m:=16) (l:=30) (by omega) ⟨rfl,λ r hr=>by obtain rfl:=List.mem_singleton.1 hr;rfl⟩ rfl (λ r hr x hx => ?_) (λ x hx => ?_) (by omega) (by omega) (by omega) (by omega) (vZ λ r hr x hx => ?_) λ i => ?_
  ·obtain rfl:=List.mem_singleton.1 hr
   obtain rfl:=List.mem_singleton.1 hx;exact hh.le (by omega)
  ·obtain rfl:=List.mem_singleton.1 hx
   exact Bt.one _
  ·obtain rfl:=List.mem_singleton.1 hr
   obtain rfl:=List.mem_singleton.1 hx;exact ⟨1,by decide +kernel,by decide⟩
  ·cases i with
   | zero=>exact ⟨2,by decide +kernel,by decide⟩
   | succ i=>exact ⟨0,by rw[show bQ [1] (i+1)=0 from rfl,Rat.mul_zero];rfl,by decide⟩
 have gl:NS (BC 1 1).length (gM [[Rat.divInt 1 2]] 1):=by
  intro X hX hk j;match X,hX with
  | [x],_ =>
   have h1:=hk (DY [[Rat.divInt 1 2]] 1 (0,0)) (List.mem_singleton.2 rfl);have h2:(Rat.divInt 3 4)*x+0=0:=by
    have ua:gC [[Rat.divInt 1 2]] (0,0) (0,0)*x+0=0:=h1;rwa [show gC [[Rat.divInt 1 2]] (0,0) (0,0)=Rat.divInt 3 4 by decide +kernel]at ua
   have h3:x=0:=by
    have:(Rat.divInt 3 4:Rat)=3/4:=by decide +kernel
    grind
   cases j with
   | zero=>exact h3
   | succ j=>rfl
 have hval : ∀ X:List Rat,OT [[Rat.divInt 1 2]] [1] X 1->OK ⟨[[Rat.divInt 1 2]],[1],[Rat.divInt 1 2],1⟩ (kM X 1) 1 0=Rat.divInt 4 3/\OK ⟨[[Rat.divInt 1 2]],[1],[Rat.divInt 1 2],1⟩ (kM X 1) 1 1=Rat.divInt 1 3:=by
  intro X hX;have e12:(Rat.divInt 1 2:Rat)=1/2:=by decide +kernel
  have e43:(Rat.divInt 4 3:Rat)=4/3:=by decide +kernel
  have e13:(Rat.divInt 1 3:Rat)=1/3:=by decide +kernel
  have h1:=hX.eq (by omega) 0 0 (by omega) (by omega);have h2:A2 [[Rat.divInt 1 2]] 0 0=Rat.divInt 1 2:=rfl;have h3:bQ [1] 0=1:=rfl;have h4:bQ [Rat.divInt 1 2] 0=Rat.divInt 1 2:=rfl;simp only[XD,B6,h2,h3]at h1;simp only[OK,XU,B6,SG,h4];rw[e12]at h1 ⊢;rw[e43,e13];generalize A2 (kM X 1) 0 0=k at *;constructor<;>grind
 replace vh:=vh hG
 generalize Rat.divInt 1 2=h at *;have hN:=lQ A.tou9 hh (by omega);have hA:Bs 4 [1,-h]:=λ x hx=>by
  rcases List.mem_cons.1 hx with rfl|hx
  ·exact Bt.one 4
  ·obtain rfl:=List.mem_singleton.1 hx
   exact hh.ng
 have hB:Bs 4 [(1:Rat)]:=λ x hx=>by
  obtain rfl:=List.mem_singleton.1 hx;exact Bt.one 4
 have tB:C7 [(1:Rat)]=[1]:=by decide
 have tA:C7 [1,-h]=[1,-h]:=by
  show List.take (if -h=0 then _ else 2) [1,-h]=_;rw[if_neg m9];rfl
 have hC:=qV A true true [1] [1,-h] 1 4 tB tA hB hA (by simp) (by simp) rfl rfl (by omega);have e:B7 [1] [1,-h] 1=⟨[[h]],[1],[h],1⟩:=by
  have:B7 [1] [1,-h] 1=⟨[[- -h]],[1],[0-1 * -h],1⟩:=rfl
  rw[this,Rat.neg_neg,show 0-1 * -h=h by grind]
 rw[e]at hC;have k8:GJ.Ok ⟨[[h]],[1],[h],1⟩ 1 10:=⟨rfl,λ r hr=>by obtain rfl:=List.mem_singleton.1 hr;rfl,rfl,rfl,hG.ba,hG.bb,λ x hx=>by
  obtain rfl:=List.mem_singleton.1 hx;exact hh.le (by omega),Bt.one _⟩
 obtain ⟨v,h1,hv⟩:=vh;rcases hv with ⟨h3|h3,_⟩|⟨_,_,X,hX,zq,rfl⟩
 ·have:=h3 0 (by omega)
  rw[Mg]at this;cases this
 ·exact absurd gl h3
 obtain ⟨v1,v2⟩:=hval X hX;have hE:=Qs N.toq5 ⟨[[h]],[1],[h],1⟩ 1 k8 (by omega) (by omega) (kM X 1) (gX X 1) (sO zq 1) (by omega) h1;have hT:=AiN N.toq5 ⟨[[h]],[1],[h],1⟩ 1 1 k8 (by omega) (by omega) (by omega) (kM X 1) (gX X 1) (sO zq 1) (by omega) h1;rw[v1]at hE;rw[v2]at hT;have Kq:Bt 3 (Rat.divInt 4 3):=⟨by decide,by decide⟩;have Kp:Bt 3 (Rat.divInt 1 3):=⟨by decide,by decide⟩;have yh:=lM A.toc4 Kq Kq (by omega) (by omega);have Fu:=lM A.toc4 Kp Kp (by omega) (by omega);rw[uZ.2 rfl]at yh Fu;clear v1 v2 hval Kq Kp;generalize Rat.divInt 4 3=x43 at *;generalize Rat.divInt 1 3=x13 at *;refine Ev.x N.TK rfl rfl ?_;(repeat' ((first|(apply AG<;>intro hc<;>try (exfalso;omega))|refine JZ rfl ?_|refine aG rfl rfl ?_|apply AE|refine AC (hO) ?_|refine AC (hF) ?_|refine AC (hF2) ?_|refine AC (hF3) ?_|refine AC (hN) ?_|refine AC (hC) ?_|refine AC (hE) ?_|refine AC (hT) ?_|refine AC (yh) ?_|refine AC (Fu) ?_)<;>conv=>whnf))
 exact GG rfl
theorem Ai2 (N:gd L):Ev L 336 [] (.bool true):=Ai3 N λ hG=>by
 obtain ⟨v,h1,_,hv⟩:=Ut N.toz8 [[Rat.divInt 1 2]] [1] 1 hG (by omega) (by omega);exact ⟨v,h1,hv⟩
end Go.e8
