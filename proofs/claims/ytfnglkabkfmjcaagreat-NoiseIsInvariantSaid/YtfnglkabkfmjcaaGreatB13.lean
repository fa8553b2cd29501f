/-
  Gram of the program (layer 30).
-/
import Derived.Test.YtfnglkabkfmjcaaGreatB12
import Derived.Test.YtfnglkabkfmjcaaGreatB4
import Derived.Test.YtfnglkabkfmjcaaGreatB10
import Derived.Test.YtfnglkabkfmjcaaGreatB9
import Derived.Test.YtfnglkabkfmjcaaGreatB11
import Derived.Test.YtfnglkabkfmjcaaGreatB7
import Derived.Test.YtfnglkabkfmjcaaGreatB1
set_option linter.unusedSimpArgs false
set_option linter.unusedVariables false
set_option linter.unnecessarySimpa false
namespace Go.e9
open F
attribute [local irreducible] AA AF AM AC CK AR AW BD A7 BW AQ BT CD DB BP A4 BO CE AB A8 AJ pw B4 BK CF CI CN CX CJ BS CM
attribute [local irreducible] XG
variable {L:Lib}
set_option maxHeartbeats 16000000
set_option maxRecDepth 8000
theorem AmI {M:List (List (Option Rat))} {i j:Nat} {x:Rat} {r s:List (Option Rat)} (hr:M[i]? = some r) (hs:(M.set i (r.set j (some x)))[j]? = some s):gU M i j x=(M.set i (r.set j (some x))).set j (s.set i (some x)):=by
 have h1:M.getD i []=r:=by rw[List.getD_eq_getElem?_getD,hr];rfl
 have h2:(M.set i (r.set j (some x))).getD j []=s:=by rw[List.getD_eq_getElem?_getD,hs];rfl
 rw[gU,h1,h2]
theorem Adp {X:List Rat} {n:Nat} : ∀ u,u<=(BM n n).length->(XQ X n u).length=n /\ ∀ r∈XQ X n u,r.length=n
 | 0,_=>⟨by simp [XQ],λ r hr=>by rw[List.eq_of_mem_replicate hr];simp⟩
 | u+1,h=>by
  have ih:=Adp (X:=X) (n:=n) u (by omega);obtain ⟨⟨i,j⟩,iw⟩ : ∃ p,(BM n n)[u]? = some p:=⟨_,zE (by omega)⟩;obtain ⟨g1,g2,g3⟩:=sL iw;have e:(BM n n).getD u (0,0)=(i,j):=by rw[List.getD_eq_getElem?_getD,iw];rfl
  rw[XQ,e];exact AmJ ih g1 g2
theorem AmH {X:List Rat} {n u i j:Nat} {x:Rat} (iw:(BM n n)[u]? = some (i,j)) (hx:X[u]? = some x):gU (XQ X n u) i j x=XQ X n (u+1):=by
 rw[XQ,show (BM n n).getD u (0,0)=(i,j) by rw[List.getD_eq_getElem?_getD,iw];rfl,show X.getD u 0=x by rw[List.getD_eq_getElem?_getD,hx];rfl]
theorem AoH (m:List (List Rat)):B7 3 eO (m.map (·.map some))=B7 3 eQ m:=by
 rw[B7,B7,List.map_map];refine List.map_congr_left λ r _ => ?_
 show some (3,(r.map some).map eO)=_;rw[List.map_map];rfl
structure fX (A:List (List Rat)) (B:List Rat) (n k:Nat):Prop where
 sq:Sq n A
 lb:B.length=n
 ba:Ms k A
 bb:Bs k B
 mb:Ms 180 (gM A n)
 rb:Bs 180 (gR B n)
 sc : ∀ r∈DP (gM A n) ((gR B n).map λ x=>[x]),∀ j,Bt 180 (BF (r.take j))
 wh:Ms 180 (whole (DP (gM A n) ((gR B n).map λ x=>[x])))
theorem AiJ {m:Nat} (h:1<=m/\m<=6):6^m*180<=1000000000000/\EO (6^m*180) m m<=1000000000000/\EO (6^m*180) m m+6^m*180<=1000000000000:=by
 rcases (show m=1\/m=2\/m=3\/m=4\/m=5\/m=6 by omega) with rfl|rfl|rfl|rfl|rfl|rfl<;>decide
theorem AlI (N:dw L) (A:List (List Rat)) (B:List Rat) (n k:Nat) (h:fX A B n k) (hk:k<=1000) (hn:n<=3) (q1 q2 q3:Bool) :
  ∃ v,Ev L 323 [.agg [.sl q1 (CZ q2 A),.sl q3 (B.map eQ)]] v/\((¬ NS (BM n n).length (gM A n)/\v = .m9 [.sl false [],.int .i64 11])\/(NS (BM n n).length (gM A n) /\ ∃ X:List Rat,HD A B X n/\Bs 1000000000000 X/\v = .m9 [.sl false (eM (kM X n)),.int .i64 0])):=by
 have hlen:=sM hn;have dh:=h.sq.l;have hP:=λ q1 q2 q3=>Yc N q1 q2 q3 A B n dh hn
 have hE:=λ q1 q2 q3 p1 p2 h1 h2=>AlG N q1 q2 q3 A B n k p1 p2 h.sq h.lb h.ba h.bb (by omega) hn h1 h2
 refine Ev.xE N.Y4 rfl rfl ?_;(repeat' ((first|apply AU|apply AE)<;>conv=>whnf))
 unfold CN;refine ⟨⟨by omega,by omega,by simp only[DX];omega,by omega⟩,?_⟩;rw[Int.toNat_natCast,dh];(conv=>whnf)
 skip
 refine B6 (λ i=>n-i) (λ(i:Nat)=>i<=n) (λ i=>[(24,.int .i64 i)]) (λ i=>[(21,21,.mx (fz none ((B7 3 eO (List.replicate n (List.replicate n none))).take i) n))]) [] [] 0 (by first|exact (by (conv=>whnf);exact ⟨rfl,rfl,rfl⟩)|(rw[List.take_zero,show fz (none:Option (Nat × List (List AV))) [] n=List.replicate n none by simp [fz]];exact (by (conv=>whnf);exact ⟨rfl,rfl,rfl⟩))) (by omega) ?_;intro i p1 ih;have lf:(B7 3 eO (List.replicate n (List.replicate n (none:Option Rat)))).length=n:=by simp [B7]
 have fm:((B7 3 eO (List.replicate n (List.replicate n (none:Option Rat)))).take i).length=i:=by rw[List.length_take];omega
 have ik:=gW (z:=(none:Option (Nat × List (List AV)))) (l:=(B7 3 eO (List.replicate n (List.replicate n (none:Option Rat)))).take i) (m:=n) (by omega);by_cases hi:i<n
 ·have il:=gX (z:=(none:Option (Nat × List (List AV)))) (x:=some (3,(List.replicate n (none:Option Rat)).map eO)) (l:=(B7 3 eO (List.replicate n (List.replicate n (none:Option Rat)))).take i) (m:=n) (by omega)
  rw[fm,<-oJ (show (B7 3 eO (List.replicate n (List.replicate n (none:Option Rat))))[i]? = some (some (3,(List.replicate n (none:Option Rat)).map eO)) by
   rw[B7,List.getElem?_map,List.getElem?_replicate,if_pos hi];rfl)]at il
  generalize fz (none:Option (Nat × List (List AV))) ((B7 3 eO (List.replicate n (List.replicate n (none:Option Rat)))).take i) n=J at *;(repeat' ((first|(apply AG<;>intro hc<;>try (exfalso;omega))|apply AU|apply AE)<;>conv=>whnf))
  refine EK (enc:=eO) none n rfl (by omega) (by omega) ?_;(conv=>whnf)
  (repeat' ((first|(apply A0;omega)|fail)<;>conv=>whnf))
  unfold AM CF;refine ⟨by simp,by omega,?_⟩;(conv=>whnf)
  rw[show 0+((i:Int)).toNat=i by omega,il];(repeat' ((first|(apply AX;omega)|fail)<;>conv=>whnf))
  exact BL [] (ih (i+1) (by omega) (by omega))
 have ei:i=n:=by omega
 clear ih ik;rw[ei,List.take_of_length_le (by omega),gV (by omega)];clear fm lf ei p1 hi i;by_cases zf:n=0
 ·subst zf
  have hz:(BM 0 0).length=0:=rfl;(repeat' ((first|(apply AG<;>intro hc<;>try (exfalso;omega))|apply AU|apply AE|refine AD (hP _ _ _) ?_)<;>conv=>whnf))
  refine ⟨.m9 [.sl false [],.int .i64 0],?_,Or.inr ⟨λ X hX _ j=>by rw[List.length_eq_zero_iff.1 hX];rfl,[],⟨rfl,λ i r s hr=>by cases hr⟩,⟨(λ x hx=>by cases hx),rfl⟩⟩⟩;(conv=>whnf)
  refine UN (z:=3) (en:=eQ) (ll:=([]:List (List Rat))) (λ_=>rfl) rfl rfl ?_;(conv=>whnf)
  exact AY rfl (PM [] 0)
 have Fj:1<=(BM n n).length:=by
  rcases cD hn with rfl|rfl|rfl|rfl<;>first|omega|decide
 (repeat' ((first|(apply AG<;>intro hc<;>try (exfalso;omega))|apply AU|apply AE|refine AD (hP _ _ _) ?_)<;>conv=>whnf))
 refine B6 (λ u=>(BM n n).length-u) (λ(u:Nat)=>u<=(BM n n).length) (λ u=>[(45,.int .i64 u),(8,.row 8 0 1 0 u),(9,.row 9 0 3 0 u)]) (λ u=>[(8,8,.rw 1 (eM ((gM A n).take u))),(9,9,.rw 3 (((gR B n).take u).map eQ))]) [] [] 0 (by (conv=>whnf);exact ⟨rfl,rfl,rfl⟩) (by omega) ?_;intro u u1 uh;have hGl:(gM A n).length=(BM n n).length:=(gY A).l;have wm:=xW B n;by_cases hu:u<(BM n n).length
 ·obtain ⟨⟨i,j⟩,iw⟩ : ∃ p,(BM n n)[u]? = some p:=⟨_,zE hu⟩
  have Iu:(BM n n)[((u:Nat):Int).toNat]? = some (i,j):=iw;obtain ⟨g1,g2,g3⟩:=sL iw;have zl:(gM A n)[u]? = some (FW A n (i,j)):=by rw[gM,List.getElem?_map,iw];rfl
  have hrg:(gR B n)[u]? = some (bQ B i*bQ B j):=by rw[gR,List.getElem?_map,iw];rfl
  have Gw:=oJ zl;have vu:=oJ hrg;have Ly:((gM A n).take u).length=u:=by rw[List.length_take];omega
  have Tj:((gR B n).take u).length=u:=by rw[List.length_take];omega
  have xq:=λ q1 q2 q3=>hE q1 q2 q3 i j g1 g2
  clear hE;generalize (gM A n).take u=G0 at *;generalize (gR B n).take u=R0 at *;generalize FW A n (i,j)=gr at *;generalize bQ B i*bQ B j=gy at *;(repeat' ((first|(apply AG<;>intro hc<;>try (exfalso;omega))|(apply A0;omega)|(refine BH (by assumption) ?_ rfl ?_;omega)|apply EL|apply AE|refine AD (xq _ _ _) ?_)<;>conv=>whnf))
  refine E6 (enc:=λ r:List Rat=>[AV.sl false (r.map eQ)]) gr rfl Ly.symm rfl (by omega) (by omega) ?_;(conv=>whnf)
  (repeat' (apply EL<;>conv=>whnf))
  refine E6 (enc:=eQ) gy rfl Tj.symm rfl (by omega) (by omega) ?_;(conv=>whnf)
  rw[<-Gw,<-vu,show ((gM A n).take (u+1)).length=u+1 by rw[List.length_take];omega,show ((gR B n).take (u+1)).length=u+1 by rw[List.length_take];omega];(repeat' ((first|(apply AX;omega)|fail)<;>conv=>whnf))
  exact BL [(8,58),(9,62)] (uh (u+1) (by omega) (by omega))
 have eu:u=(BM n n).length:=by omega
 clear uh hE;rw[eu,List.take_of_length_le (by omega),List.take_of_length_le (by omega)];clear eu u1 hu u;obtain ⟨d1,d2,d3⟩:=AiJ (m:=(BM n n).length) ⟨Fj,hlen⟩;have Qd:=λ q q1 q2=>AlA N.tou5 q q1 q2 (gM A n) (gR B n) (BM n n).length 180 180 (gY A).l (gY A).r wm (by omega) (by omega) (by omega) h.mb h.rb h.sc h.wh d1 d2 (B0:=1000000000000) d3
 have hGS : ∀ y:List Rat,y.length=(BM n n).length->(∀ (i:Nat) (r:List Rat) (s:Rat),(gM A n)[i]? = some r->(gR B n)[i]? = some s->AZ r y=s)->HD A B y n:=λ y h1 h2=>⟨h1,h2⟩
 generalize gM A n=G at *;generalize gR B n=R at *;(repeat' ((first|(apply AG<;>intro hc<;>try (exfalso;omega))|apply AE)<;>conv=>whnf))
 refine DR (enc:=λ r:List Rat=>[AV.sl false (r.map eQ)]) (λ_=>rfl) rfl hGl.symm ?_;(conv=>whnf)
 refine DR (enc:=eQ) (λ_=>rfl) rfl wm.symm ?_;(conv=>whnf)
 obtain ⟨v,hv,fx⟩:=Qd true false true;rcases fx with ⟨fr,rfl⟩|⟨fr,X,rfl,vg,Eh,hX⟩
 ·(repeat' ((first|(apply AG<;>intro hc<;>try (exfalso;omega))|refine AD (hv) ?_)<;>conv=>whnf))
  refine ⟨.m9 [.sl false [],.int .i64 11],?_,Or.inl ⟨fr,rfl⟩⟩;(conv=>whnf)
  exact AY rfl (PM [] 11)
 ·have hgs:=hGS X vg hX
  clear hGS hX;(repeat' ((first|(apply AG<;>intro hc<;>try (exfalso;omega))|apply AU|refine AD (hv) ?_)<;>conv=>whnf))
  refine B6 (λ u=>(BM n n).length-u) (λ(u:Nat)=>u<=(BM n n).length) (λ u=>[(75,.int .i64 u)]) (λ u=>[(21,21,.mx (B7 3 eO (XQ X n u)))]) [] [] 0 (by (conv=>whnf);exact ⟨rfl,rfl,rfl⟩) (by omega) ?_;intro u u1 uh;by_cases hu:u<(BM n n).length
  ·obtain ⟨⟨i,j⟩,iw⟩ : ∃ p,(BM n n)[u]? = some p:=⟨_,zE hu⟩
   have Iu:(BM n n)[((u:Nat):Int).toNat]? = some (i,j):=iw;obtain ⟨g1,g2,g3⟩:=sL iw;obtain ⟨x,hx⟩ : ∃ x,X[u]? = some x:=⟨_,zE (by omega)⟩;have nq:X[((u:Nat):Int).toNat]? = some x:=hx;have hT:=gS N.toa5 (Eh.at hx) (by omega);have zj:=AmH iw hx;obtain ⟨f1,f2⟩:=Adp (X:=X) (n:=n) u (by omega);generalize XQ X n u=M0 at *;obtain ⟨r0,du⟩ : ∃ r,M0[i]? = some r:=⟨_,zE (by omega)⟩;have gm:=f2 r0 (zM du);obtain ⟨s0,sn⟩ : ∃ s,(M0.set i (r0.set j (some x)))[j]? = some s:=⟨_,zE (by rw[List.length_set];omega)⟩;have Jz:s0.length=n:=by
    rcases List.mem_or_eq_of_mem_set (zM sn) with hs|rfl
    ·exact f2 s0 hs
    ·rw[List.length_set];exact gm
   rw[AmI du sn]at zj;have fj:(M0.set i (r0.set j (some x))).length=n:=by rw[List.length_set];exact f1
   (repeat' ((first|(apply AG<;>intro hc<;>try (exfalso;omega))|(apply A0;omega)|(refine BH (by assumption) ?_ rfl ?_;omega)|(refine bI ?_ (λ r hr => ?_);omega)|apply AE)<;>conv=>whnf))
   cases du.symm.trans hr;(repeat' (refine AD (hT) ?_<;>conv=>whnf))
   refine A0 (by rw[List.length_map];exact (by omega)) ?_;(conv=>whnf)
   (repeat' ((first|refine dR (by assumption) ?_|fail)<;>conv=>whnf))
   refine FP (enc:=eO) (some x) rfl (λ e=>by cases e<;>rfl) (by omega) ?_;(conv=>whnf)
   refine uI (by rw[List.length_set]) ?_;(conv=>whnf)
   generalize M0.set i (r0.set j (some x))=M1 at *;(repeat' ((first|(apply A0;omega)|(refine BH (by assumption) ?_ rfl ?_;omega)|(refine bI ?_ (λ r hr => ?_);omega))<;>conv=>whnf))
   cases sn.symm.trans hr;(repeat' (refine AD (hT) ?_<;>conv=>whnf))
   refine A0 (by rw[List.length_map];exact (by omega)) ?_;(conv=>whnf)
   (repeat' ((first|refine dR (by assumption) ?_|fail)<;>conv=>whnf))
   refine FP (enc:=eO) (some x) rfl (λ e=>by cases e<;>rfl) (by omega) ?_;(conv=>whnf)
   refine uI (by rw[List.length_set]) ?_;rw[zj];(conv=>whnf)
   (repeat' ((first|(apply AX;omega)|fail)<;>conv=>whnf))
   exact BL [] (uh (u+1) (by omega) (by omega))
  ·have eu:u=(BM n n).length:=by omega
   clear uh;have Py:=(jZ X n).l;rw[eu,AmG hn hgs.1,AoH];generalize hQ:kM X n=Q at *;(repeat' ((first|(apply AG<;>intro hc<;>try (exfalso;omega))|apply AE)<;>conv=>whnf))
   refine ⟨.m9 [.sl false (eM Q),.int .i64 0],?_,Or.inr ⟨fr,X,hgs,Eh,by rw[hQ]⟩⟩;(conv=>whnf)
   refine UN (λ_=>rfl) rfl Py.symm ?_;(conv=>whnf)
   exact AY rfl (PM Q 0)
theorem Als (N:dw L) (A:List (List Rat)) (B:List Rat) (n k:Nat) (h:fX A B n k) (hk:k<=1000) (hn:n<=3) (q1 q2 q3:Bool) :
  ∃ v,Ev L 324 [.sl q1 (CZ q2 A),.sl q3 (B.map eQ)] v/\(((∀ j,j<=6->GI (DN n A j)=false)/\v = .m9 [.sl false [],.int .i64 14])\/((∃ i,i<=6/\lI n A i)/\((¬ NS (BM n n).length (gM A n)/\v = .m9 [.sl false [],.int .i64 11])\/(NS (BM n n).length (gM A n) /\ ∃ X:List Rat,HD A B X n/\v = .m9 [.sl false (eM (kM X n)),.int .i64 0])))):=by
 have dh:=h.sq.l;have jk:=h.lb;obtain ⟨v,Px,fx⟩:=Amc N.tocu q1 q2 A n k h.sq h.ba (by omega) (by omega);obtain ⟨w,hF,Sf⟩:=AlI N A B n k h hk hn q1 q2 q3;refine Ev.xE N.YX rfl rfl ?_;(repeat' ((first|(apply AG<;>intro hc<;>try (exfalso;omega))|apply AU|apply AE)<;>conv=>whnf))
 refine B6 (λ i=>n-i) (λ(i:Nat)=>i<=n) (λ i=>[(22,.int .i64 i)]) (λ_=>[]) [] [] 0 (by (conv=>whnf);exact ⟨rfl,rfl,rfl⟩) (by omega) ?_;intro i p1 ih;by_cases hi:i<n
 ·obtain ⟨r,du⟩ : ∃ r,A[i]? = some r:=⟨_,zE (by omega)⟩
  have ov:A[((i:Nat):Int).toNat]? = some r:=du;have gm:=h.sq.at du;(repeat' ((first|(apply AG<;>intro hc<;>try (exfalso;omega))|(apply AX;omega)|apply AU|(refine BH (by assumption) ?_ rfl ?_;omega)|apply AE)<;>conv=>whnf))
  exact BL [] (ih (i+1) (by omega) (by omega))
 have ei:i=n:=by omega
 clear ih;rw[ei];rcases fx with ⟨i0,i1,i2,rfl⟩|⟨i1,rfl⟩
 ·rcases Sf with ⟨fr,rfl⟩|⟨fr,X,hX,_,rfl⟩
  ·(repeat' ((first|(apply AG<;>intro hc<;>try (exfalso;omega))|apply AE|refine AD (Px) ?_|refine AD (hF) ?_)<;>conv=>whnf))
   exact ⟨_,AY rfl (PM [] 11),Or.inr ⟨⟨i0,i1,i2⟩,Or.inl ⟨fr,rfl⟩⟩⟩
  ·generalize hQ:kM X n=Q at *
   (repeat' ((first|(apply AG<;>intro hc<;>try (exfalso;omega))|apply AE|refine AD (Px) ?_|refine AD (hF) ?_)<;>conv=>whnf))
   exact ⟨_,AY rfl (PM Q 0),Or.inr ⟨⟨i0,i1,i2⟩,Or.inr ⟨fr,X,hX,by rw[hQ]⟩⟩⟩
 ·(repeat' ((first|(apply AG<;>intro hc<;>try (exfalso;omega))|apply AE|refine AD (Px) ?_)<;>conv=>whnf))
  exact ⟨_,AY rfl (PM [] 14),Or.inl ⟨i1,rfl⟩⟩
end Go.e9
namespace Go.e9
open F
attribute [local irreducible] AA AF AM AC CK AR AW BD A7 BW AQ BT CD DB BP A4 BO CE AB A8 AJ pw B4 BK CF CI CN CX CJ BS CM
variable {L:Lib}
set_option maxHeartbeats 32000000
set_option maxRecDepth 8000
theorem AmC (N:mi L) (S:E7) (n k:Nat) (h:S.Ok n k) (hn:n<=16):Ev L 281 [.agg (eS S)] (.bool true):=by
 have Qc:=Yw N.tojt S n k h (by omega);have hla:=h.la;refine Ev.x N.aX rfl rfl ?_;(repeat' ((first|(apply AG<;>intro hc<;>try (exfalso;omega))|apply AU|apply AE|refine AD (Qc) ?_)<;>conv=>whnf))
 exact JR rfl
end Go.e9

namespace Go.e9
set_option maxHeartbeats 16000000
theorem Agf (f g:Nat->Rat) : ∀ n,BC (λ i=>f i+g i) n=BC f n+BC g n
 | 0=>by simp only[BC];grind
 | n+1=>by
  have:=Agf f g n
  simp only[BC]at this ⊢;rw[this];grind
theorem Nb (f:Nat->Nat->Rat) (m:Nat) : ∀ n,BC (λ i=>BC (λ j=>f i j) m) n=BC (λ j=>BC (λ i=>f i j) n) m
 | 0=>by
  rw[BC];exact (iQ m λ j _=>rfl).symm
 | n+1=>by
  have e:(λ j=>BC (λ i=>f i j) (n+1))=λ j=>BC (λ i=>f i j) n+f n j:=rfl
  rw[e,Agf,<-Nb f m n];rfl
theorem xX {m:List (List Rat)} {i:Nat} {r:List Rat} (h:m[i]? = some r):m.getD i []=r:=by
 rw[List.getD_eq_getElem?_getD,h];rfl
theorem AoE {A B:List (List Rat)} {n i j:Nat} (hA:Sq n A) (hB:Sq n B) (hi:i<n) (hj:j<n):((C1 A B n).getD i []).getD j 0=BC (λ k=>(A.getD i []).getD k 0*(B.getD k []).getD j 0) n:=by
 obtain ⟨r,hr⟩ : ∃ r,A[i]? = some r:=⟨_,zE (by rw[hA.l];exact hi)⟩;have h1:(C1 A B n)[i]? = some (EU r B n):=by rw[C1,List.getElem?_map,hr];rfl
 rw[xX h1,xX hr,List.getD_eq_getElem?_getD,EU,List.getElem?_map,List.getElem?_range hj];show AZ r (CO B j)=_;rw[bT r (CO B j) n (by rw[hA.at hr];exact Nat.le_refl _)];refine G6 n λ k hk => ?_
 obtain ⟨s,hs⟩ : ∃ s,B[k]? = some s:=⟨_,zE (by rw[hB.l];exact hk)⟩;rw[xX hs,List.getD_eq_getElem?_getD (l:=CO B j),CO,List.getElem?_map,hs];rfl
theorem Aok {A B:List (List Rat)} {n:Nat} (hA:Sq n A) (hB:Sq n B) (h : ∀ v:List Rat,v.length=n->BX A v=BX B v):A=B:=by
 refine List.ext_getElem? λ i => ?_
 by_cases hi:i<n
 ·obtain ⟨r,hr⟩ : ∃ r,A[i]? = some r:=⟨_,zE (by rw[hA.l];exact hi)⟩
  obtain ⟨s,hs⟩ : ∃ s,B[i]? = some s:=⟨_,zE (by rw[hB.l];exact hi)⟩;rw[hr,hs];have gm:=hA.at hr;have Jz:=hB.at hs;congr 1;refine List.ext_getElem? λ j => ?_
  by_cases hj:j<n
  ·have e:=congrArg (λ l:List Rat=>l[i]?) (h (EZ n j) (oP _ _))
   simp only[BX,List.getElem?_map,hr,hs,Option.map_some,Option.some.injEq]at e;rw[FU,wG gm hj,FU,wG Jz hj]at e;rw[zE (by omega),zE (by omega)];rw[List.getD_eq_getElem?_getD,List.getD_eq_getElem?_getD,zE (by omega),zE (by omega)]at e;exact congrArg some e
  ·rw[List.getElem?_eq_none (by omega),List.getElem?_eq_none (by omega)]
 ·rw[List.getElem?_eq_none (by rw[hA.l];omega),List.getElem?_eq_none (by rw[hB.l];omega)]
theorem kU {a b c d e f g h i p q r x y z:Rat} (e1:p*a+q*d+r*g=x) (e2:p*b+q*e+r*h=y) (e3:p*c+q*f+r*i=z) :
  p*(a*(e*i-f*h)-b*(d*i-f*g)+c*(d*h-e*g))=x*(e*i-f*h)+y*(f*g-d*i)+z*(d*h-e*g) /\
  q*(a*(e*i-f*h)-b*(d*i-f*g)+c*(d*h-e*g))=x*(c*h-b*i)+y*(a*i-c*g)+z*(b*g-a*h) /\
  r*(a*(e*i-f*h)-b*(d*i-f*g)+c*(d*h-e*g))=x*(b*f-c*e)+y*(c*d-a*f)+z*(a*e-b*d):=by
 subst e1 e2 e3;refine ⟨by grind,by grind,by grind⟩
theorem Zn (a b c d e f g h i p q r s t u v w x:Rat) :
  (p*a+q*d+r*g)*((s*b+t*e+u*h)*(v*c+w*f+x*i)-(s*c+t*f+u*i)*(v*b+w*e+x*h))-(p*b+q*e+r*h)*((s*a+t*d+u*g)*(v*c+w*f+x*i)-(s*c+t*f+u*i)*(v*a+w*d+x*g))+(p*c+q*f+r*i)*((s*a+t*d+u*g)*(v*b+w*e+x*h)-(s*b+t*e+u*h)*(v*a+w*d+x*g))
  = (p*(t*x-u*w)-q*(s*x-u*v)+r*(s*w-t*v))*(a*(e*i-f*h)-b*(d*i-f*g)+c*(d*h-e*g)):=by grind
theorem AnS {T U:List (List Rat)} (hT:Sq 3 T) (hU:Sq 3 U) (hb:Ms 4 T) (gv : ∀ v:List Rat,v.length=3->BX U (BX T v)=v):Ms 82 U:=by
 obtain ⟨tl,tr⟩:=hT;obtain ⟨ul,ur⟩:=hU;match T,tl with
 | [t1,t2,t3],_ =>
  have l1:=tr t1 (by simp);have l2:=tr t2 (by simp);have l3:=tr t3 (by simp);match t1,t2,t3,l1,l2,l3 with
  | [a,b,c],[d,e,f],[g,h,i],_,_,_ =>
   match U,ul with
   | [u1,u2,u3],_ =>
    have m1:=ur u1 (by simp);have m2:=ur u2 (by simp);have m3:=ur u3 (by simp);match u1,u2,u3,m1,m2,m3 with
    | [p,q,r],[s,t,u],[v,w,x],_,_,_ =>
     have g1:=gv [1,0,0] rfl;have g2:=gv [0,1,0] rfl;have g3:=gv [0,0,1] rfl;simp only[BX,List.map_cons,List.map_nil,AZ,List.cons.injEq,and_true]at g1 g2 g3;obtain ⟨a1,a2,a3⟩:=g1;obtain ⟨b1,b2,b3⟩:=g2;obtain ⟨c1,c2,c3⟩:=g3;have ha:Bt 4 a:=hb [a,b,c] (by simp) a (by simp);have fw:Bt 4 b:=hb [a,b,c] (by simp) b (by simp);have bq:Bt 4 c:=hb [a,b,c] (by simp) c (by simp);have hd:Bt 4 d:=hb [d,e,f] (by simp) d (by simp);have sf:Bt 4 e:=hb [d,e,f] (by simp) e (by simp);have ub:Bt 4 f:=hb [d,e,f] (by simp) f (by simp);have hg:Bt 4 g:=hb [g,h,i] (by simp) g (by simp);have hh:Bt 4 h:=hb [g,h,i] (by simp) h (by simp);have hi:Bt 4 i:=hb [g,h,i] (by simp) i (by simp);have p1:p*a+q*d+r*g=1:=by grind
     have p2:p*b+q*e+r*h=0:=by grind
     have p3:p*c+q*f+r*i=0:=by grind
     have q1:s*a+t*d+u*g=0:=by grind
     have q2:s*b+t*e+u*h=1:=by grind
     have q3:s*c+t*f+u*i=0:=by grind
     have r1:v*a+w*d+x*g=0:=by grind
     have r2:v*b+w*e+x*h=0:=by grind
     have r3:v*c+w*f+x*i=1:=by grind
     clear a1 a2 a3 b1 b2 b3 c1 c2 c3 gv;have Eu:=Zn a b c d e f g h i p q r s t u v w x;rw[p1,p2,p3,q1,q2,q3,r1,r2,r3]at Eu;obtain ⟨j1,j2,j3⟩:=kU p1 p2 p3;obtain ⟨j4,j5,j6⟩:=kU q1 q2 q3;obtain ⟨j7,j8,j9⟩:=kU r1 r2 r3;have mn : ∀ {x1 x2 x3 x4:Rat},Bt 4 x1->Bt 4 x2->Bt 4 x3->Bt 4 x4->Bt 17 (x1*x2-x3*x4):=λ h1 h2 h3 h4=>(h1.mul h2).rn (h3.mul h4)
     have hD:Bt 65 (a*(e*i-f*h)-b*(d*i-f*g)+c*(d*h-e*g)):=((ha.mul (mn sf hi ub hh)).rn (fw.mul (mn hd hi ub hg))).add (bq.mul (mn hd hh sf hg));generalize a*(e*i-f*h)-b*(d*i-f*g)+c*(d*h-e*g)=D at *;have h0:D≠0:=λ e0=>by
      rw[e0,Rat.mul_zero]at Eu;grind
     have key : ∀ {x m:Rat},x*D=m->Bt 17 m->Bt 82 x:=λ{x m} h1 h2=>by
      have e:x=m/D:=by rw[<-h1,Rat.div_def,Rat.mul_assoc,Rat.mul_inv_cancel _ h0,Rat.mul_one]
      rw[e];exact h2.nr hD
     clear p1 p2 p3 q1 q2 q3 r1 r2 r3 Eu;simp only[Rat.one_mul,Rat.zero_mul,Rat.add_zero,Rat.zero_add]at j1 j2 j3 j4 j5 j6 j7 j8 j9;have k1:=key j1 (mn sf hi ub hh);have k2:=key j2 (mn bq hh fw hi);have k3:=key j3 (mn fw ub bq sf);have k4:=key j4 (mn ub hg hd hi);have k5:=key j5 (mn ha hi bq hg);have k6:=key j6 (mn bq hd ha ub);have k7:=key j7 (mn hd hh sf hg);have k8:=key j8 (mn fw hg ha hh);have k9:=key j9 (mn ha sf fw hd);intro y hy;simp only[List.mem_cons,List.not_mem_nil,or_false]at hy;rcases hy with rfl|rfl|rfl
     all_goals
      intro z hz;simp only[List.mem_cons,List.not_mem_nil,or_false]at hz;rcases hz with rfl|rfl|rfl
      all_goals assumption
theorem Aed {T U:List (List Rat)} {n:Nat} (hn:n<=3) (hT:Sq n T) (hU:Sq n U) (hb:Ms 4 T) (gv : ∀ v:List Rat,v.length=n->BX U (BX T v)=v):Ms 82 U:=by
 by_cases h:n=3
 ·subst h;exact AnS hT hU hb gv
 ·exact (AnR (by omega) hT hU hb gv).le (by omega)
theorem AeM {m:List (List Rat)} {b:List Rat} {n k l:Nat} (hs:Sq n m) (hm:Ms k m) (hb:Bs l b) (hn:n<=3):Bs (3*(k+l+1)) (BX m b):=λ x hx=>by
 obtain ⟨r,hr,rfl⟩:=List.mem_map.1 hx;refine ((hm r hr).dot hb).le ?_;rw[hs.r r hr];exact Nat.mul_le_mul_right _ hn
theorem AfM {T U:List (List Rat)} {S:E7} {n k:Nat} (hk:k<=10) (hS:S.Ok n k) (hT:Sq n T) (hU:Sq n U) (hb:Ms 4 T) (Gi:Ms 82 U) (hn:n<=3):(D7 T U S n).Ok n 400/\Ms 45 (C1 T S.a n):=by
 have h1:Ms 45 (C1 T S.a n):=(Ms.mul hb hT hS.ba).le (Nat.le_trans (Nat.mul_le_mul_right _ hn) (by omega));have s1:Sq n (C1 T S.a n):=Sq.mul hT.l _;have s2:Sq n (D7 T U S n).a:=Sq.mul s1.l _;refine ⟨⟨s2.l,s2.r,by show (BX T S.b).length=n;rw[kG,hT.l],by show (BX (S5 U) S.c).length=n;rw[kG,Nk,hU.l],?_,?_,?_,hS.bd.le (by omega)⟩,h1⟩
 ·exact (Ms.mul h1 s1 Gi).le (show n*(45+82+1)<=400 by omega)
 ·exact (AeM hT hb hS.bb hn).le (by omega)
 ·exact (AeM (Aqz hU) (Aqy Gi) hS.bc hn).le (by omega)
def IK (K:List (List Rat)) (v:List Rat) (n:Nat):Rat:=BC (λ i=>BC (λ j=>A5 K i j*(bQ v i*bQ v j)) n) n
def JL (c:List Rat) (A:List (List Rat)) (n:Nat):List Rat:=(List.range n).map λ j=>BC (λ i=>bQ c i*A5 A i j) n
def XF (c:List Rat) (A:List (List Rat)) (n:Nat):Nat->List Rat
 | 0=>c
 | k+1=>JL (XF c A n k) A n
def JJ (S:E7) (K:List (List Rat)) (n:Nat):Nat->Rat
 | 0=>S.d*S.d+IK K S.c n
 | k+1=>IK K (XF S.c S.a n k) n
theorem tY (c:List Rat) (A:List (List Rat)) (n:Nat):(JL c A n).length=n:=by simp [JL]
theorem AqG {c:List Rat} {A:List (List Rat)} {n:Nat} (h:c.length=n) : ∀ k,(XF c A n k).length=n
 | 0=>h
 | k+1=>tY _ _ _
theorem AgB (c:List Rat) (A:List (List Rat)) {n j:Nat} (hj:j<n):bQ (JL c A n) j=BC (λ i=>bQ c i*A5 A i j) n:=uS (by rw[JL,List.getElem?_map,List.getElem?_range hj];rfl)
theorem wF {a b:List Rat} {n:Nat} (ha:a.length=n):AZ a b=BC (λ i=>bQ a i*bQ b i) n:=by
 rw[bT a b n (by omega)];rfl
theorem Agh (c:Rat) (f:Nat->Rat) (n:Nat):c*BC f n=BC (λ i=>c*f i) n:=(Agg n).symm
theorem Aqj (c:Rat) (f:Nat->Rat) (n:Nat):BC f n*c=BC (λ i=>f i*c) n:=by
 rw[Rat.mul_comm,Agh];exact G6 n λ i _=>Rat.mul_comm _ _
theorem zL {A:List (List Rat)} {v:List Rat} {n i:Nat} (hA:Sq n A) (hi:i<n):bQ (BX A v) i=BC (λ j=>A5 A i j*bQ v j) n:=by
 obtain ⟨r,hr⟩ : ∃ r,A[i]? = some r:=⟨_,zE (by rw[hA.l];exact hi)⟩;rw[uS (x:=AZ r v) (by rw[BX,List.getElem?_map,hr];rfl),wF (hA.at hr)];refine G6 n λ j _ => ?_
 rw[OG hr];rfl
theorem AqF {c v:List Rat} {A:List (List Rat)} {n:Nat} (hA:Sq n A) (hc:c.length=n):AZ (JL c A n) v=AZ c (BX A v):=by
 rw[wF (tY c A n),wF hc,G6 n (g:=λ j=>BC (λ i=>bQ c i*(A5 A i j*bQ v j)) n) λ j hj=>by
  rw[AgB c A hj,Aqj];exact G6 n λ i _=>by grind,Nb]
 refine G6 n λ i hi => ?_
 rw[zL hA hi,Agh]
theorem Acz {v:List Rat} {n j:Nat} (hv:v.length=n) (hj:j<n):AZ v (EZ n (j:Int))=bQ v j:=by
 rw[FU];exact wG hv hj
theorem cB {k:Nat} {f:Nat->Rat} (h : ∀ j,Bt k (f j)) : ∀ m,Bt (m*(k+1)) (BC f m)
 | 0=>Bt.zero _
 | m+1=>by
  rw[BC];exact ((cB h m).add (h m)).le (by rw[Nat.succ_mul];omega)
theorem HE {k:Nat} {v:List Rat} (h:Bs k v) (i:Nat):Bt k (bQ v i):=Bs.getD h i
theorem AqE {k l:Nat} {c:List Rat} {A:List (List Rat)} (hc:Bs k c) (hA:Ms l A) (n:Nat):Bs (n*(k+l+1)) (JL c A n):=λ x hx=>by
 obtain ⟨j,_,rfl⟩:=List.mem_map.1 hx;exact cB (λ i=>(HE hc i).mul (OE hA i j)) n
def fR (k l:Nat):Nat->Nat
 | 0=>k
 | t+1=>3*(fR k l t+l+1)
theorem AgC {k l n:Nat} {c:List Rat} {A:List (List Rat)} (hc:Bs k c) (hA:Ms l A) (hn:n<=3) : ∀ t,Bs (fR k l t) (XF c A n t)
 | 0=>hc
 | t+1=>(AqE (AgC hc hA hn t) hA n).le (Nat.mul_le_mul_right _ hn)
theorem Agz {k k' l l':Nat} (h:k<=k') (h':l<=l') : ∀ t,fR k l t<=fR k' l' t
 | 0=>h
 | t+1=>by
  have:=Agz h h' t
  rw[fR,fR];omega
theorem AqD {k t:Nat} (hk:k<=40) (h:t<=6):fR k k t<=100000:=by
 have : ∀ t,t<7->fR 40 40 t<=100000:=by decide
 exact Nat.le_trans (Agz hk hk t) (this t (by omega))
end Go.e9

namespace Go.e9
open F
attribute [local irreducible] AA AF AM AC CK AR AW BD A7 BW AQ BT CD DB BP A4 BO CE AB A8 AJ pw B4 BK CF CI CN CX CJ BS CM
variable {L:Lib}
set_option maxHeartbeats 16000000
set_option maxRecDepth 8000
theorem wY (N:aj L) (S:E7) (n k:Nat) (h:S.Ok n k) (hn:n<=8):Ev L 328 [.agg (eS S)] (.bool true):=by
 have Qc:=Yw N.tojt S n k h (by omega);have hla:=h.la;refine Ev.x N.Y5 rfl rfl ?_;(repeat' ((first|(apply AG<;>intro hc<;>try (exfalso;omega))|apply AU|apply AE|refine AD (Qc) ?_)<;>conv=>whnf))
 exact JR rfl
theorem Zb (N:aj L) (q1 q2 q3:Bool) (K:List (List Rat)) (v:List Rat) (n k l:Nat) (hK:Sq n K) (hv:v.length=n) (xu:Ms k K) (xi:Bs l v) (hn:n<=3) (hk:k<=1000000000) (hl:l<=1000000000) :
  Ev L 329 [.sl q1 (CZ q2 K),.sl q3 (v.map eQ)] (.agg (eQ (IK K v n))):=by
 have hO:=HL N.toa5 0 (by omega);rw[show ((0:Int):Rat)=0 from rfl]at hO;have dh:=hK.l;have mo : ∀ i,Bt (n*((k+(l+l))+1)) (BC (λ j=>A5 K i j*(bQ v i*bQ v j)) n):=λ i=>cB (λ j=>(OE xu i j).mul ((HE xi i).mul (HE xi j))) n
 have hB1:n*((k+(l+l))+1)<=3*((k+(l+l))+1):=Nat.mul_le_mul_right _ hn;refine Ev.x N.Y1 rfl rfl ?_;(repeat' ((first|apply AU|apply AE|refine AD (hO) ?_)<;>conv=>whnf))
 refine B6 (λ i=>n-i) (λ(i:Nat)=>i<=n) (λ i=>[(11,.int .i64 i)]) (λ i=>[(5,5,.bx (eQ (BC (λ i=>BC (λ j=>A5 K i j*(bQ v i*bQ v j)) n) i)))]) [] [] 0 (by (conv=>whnf);exact ⟨rfl,rfl,rfl⟩) (by omega) ?_;intro i p1 ih;have hib:=cB mo i;have Kr:i*(n*((k+(l+l))+1)+1)<=3*(3*((k+(l+l))+1)+1):=Nat.mul_le_mul (by omega) (by omega);by_cases hi:i<n
 ·obtain ⟨r1,gi,oo,wq⟩:=sV hK hi
  have Jr:K[((i:Nat):Int).toNat]? = some r1:=gi;have Ua:v[((i:Nat):Int).toNat]? = some (bQ v i):=gF hv hi;have Tf:BC (λ i=>BC (λ j=>A5 K i j*(bQ v i*bQ v j)) n) (i+1)=BC (λ i=>BC (λ j=>A5 K i j*(bQ v i*bQ v j)) n) i+BC (λ j=>A5 K i j*(bQ v i*bQ v j)) n:=rfl;generalize BC (λ i=>BC (λ j=>A5 K i j*(bQ v i*bQ v j)) n) i=s0 at *;(repeat' ((first|(apply AG<;>intro hc<;>try (exfalso;omega))|apply AU|(refine BH (by assumption) ?_ rfl ?_;omega)|apply AE)<;>conv=>whnf))
  refine B6 (λ j=>n-j) (λ(j:Nat)=>j<=n) (λ j=>[(19,.int .i64 j)]) (λ j=>[(5,5,.bx (eQ (s0+BC (λ j=>A5 K i j*(bQ v i*bQ v j)) j)))]) [] [] 0 (by first|exact (by (conv=>whnf);exact ⟨rfl,rfl,rfl⟩)|(rw[show s0+BC (λ j=>A5 K i j*(bQ v i*bQ v j)) 0=s0 from Rat.add_zero s0];exact (by (conv=>whnf);exact ⟨rfl,rfl,rfl⟩))) (by omega) ?_;intro j j1 jh;have Bp:=hib.add (cB (λ j=>(OE xu i j).mul ((HE xi i).mul (HE xi j))) j);have hB3:j*((k+(l+l))+1)<=3*((k+(l+l))+1):=Nat.mul_le_mul_right _ (by omega);by_cases hj:j<n
  ·have nq:r1[((j:Nat):Int).toNat]? = some (A5 K i j):=wq j hj
   have hvj:v[((j:Nat):Int).toNat]? = some (bQ v j):=gF hv hj;have fj:=FV N.toa5 (HE xi i) (HE xi j) (by omega) (by omega);have jd:=FV N.toa5 (OE xu i j) ((HE xi i).mul (HE xi j)) (by omega) (by omega);have hA:=cW N.toa5 Bp ((OE xu i j).mul ((HE xi i).mul (HE xi j))) (by omega) (by omega);have wz:s0+BC (λ j=>A5 K i j*(bQ v i*bQ v j)) j+A5 K i j*(bQ v i*bQ v j)=s0+BC (λ j=>A5 K i j*(bQ v i*bQ v j)) (j+1):=Rat.add_assoc _ _ _;rw[wz]at hA;generalize s0+BC (λ j=>A5 K i j*(bQ v i*bQ v j)) j=s1 at *;generalize A5 K i j*(bQ v i*bQ v j)=p2 at *;generalize bQ v i*bQ v j=p3 at *;(repeat' ((first|(apply AG<;>intro hc<;>try (exfalso;omega))|(apply AX;omega)|(refine BH (by assumption) ?_ rfl ?_;omega)|apply AE|refine AD (fj) ?_|refine AD (jd) ?_|refine AD (hA) ?_)<;>conv=>whnf))
   exact BL [] (jh (j+1) (by omega) (by omega))
  ·have ej:j=n:=by omega
   clear jh;rw[ej,<-Tf];(repeat' ((first|(apply AG<;>intro hc<;>try (exfalso;omega))|(apply AX;omega)|apply AE)<;>conv=>whnf))
   exact BL [] (ih (i+1) (by omega) (by omega))
 ·have ei:i=n:=by omega
  clear ih;rw[ei,show BC (λ i=>BC (λ j=>A5 K i j*(bQ v i*bQ v j)) n) n=IK K v n from rfl];generalize IK K v n=y at *;(repeat' ((first|(apply AG<;>intro hc<;>try (exfalso;omega))|apply AE)<;>conv=>whnf))
  exact AY rfl (EE _)
theorem AlD (N:aj L) (q1 q2 q3:Bool) (c:List Rat) (A:List (List Rat)) (n k l:Nat) (hA:Sq n A) (z7:c.length=n) (Af:Ms k A) (og:Bs l c) (hn:n<=3) (hk:k<=1000000000) (hl:l<=1000000000) :
  Ev L 330 [.sl q1 (c.map eQ),.sl q2 (CZ q3 A)] (.sl false ((JL c A n).map eQ)):=by
 have hO:=HL N.toa5 0 (by omega);rw[show ((0:Int):Rat)=0 from rfl]at hO;have dh:=hA.l;have ow:=tY c A n;refine Ev.x N.Y0 rfl rfl ?_;(repeat' ((first|apply AU|apply AE)<;>conv=>whnf))
 refine EK (enc:=eO) none n rfl (by omega) (by omega) ?_;(conv=>whnf)
 skip
 refine B6 (λ i=>n-i) (λ(i:Nat)=>i<=n) (λ i=>[(14,.int .i64 i)]) (λ i=>[(11,11,.rw 3 ((DH ((JL c A n).take i) n).map eO))]) [] [] 0 (by first|exact (by (conv=>whnf);exact ⟨rfl,rfl,rfl⟩)|(rw[List.take_zero,<-OQ];exact (by (conv=>whnf);exact ⟨rfl,rfl,rfl⟩))) (by omega) ?_;intro i p1 ih;have fm:((JL c A n).take i).length=i:=by rw[List.length_take];omega
 have Db:=J3 (l:=(JL c A n).take i) (m:=n) (by omega);by_cases hi:i<n
 ·have hyx:(JL c A n)[i]? = some (BC (λ a=>bQ c a*A5 A a i) n):=by rw[JL,List.getElem?_map,List.getElem?_range hi];rfl
  have o9:=OR (l:=(JL c A n).take i) (m:=n) (x:=BC (λ a=>bQ c a*A5 A a i) n) (by omega);rw[fm,<-oJ hyx]at o9;generalize DH ((JL c A n).take i) n=F0 at *;(repeat' ((first|(apply AG<;>intro hc<;>try (exfalso;omega))|apply AU|apply AE|refine AD (hO) ?_)<;>conv=>whnf))
  refine B6 (λ j=>n-j) (λ(j:Nat)=>j<=n) (λ j=>[(20,.int .i64 j)]) (λ j=>[(7,7,.bx (eQ (BC (λ a=>bQ c a*A5 A a i) j)))]) [] [] 0 (by (conv=>whnf);exact ⟨rfl,rfl,rfl⟩) (by omega) ?_;intro j j1 jh;have Bp:=cB (λ a=>(HE og a).mul (OE Af a i)) j;have hB3:j*(l+k+1)<=3*(l+k+1):=Nat.mul_le_mul_right _ (by omega);by_cases hj:j<n
  ·obtain ⟨r1,gi,oo,wq⟩:=sV hA hj
   have Jr:A[((j:Nat):Int).toNat]? = some r1:=gi;have nq:r1[((i:Nat):Int).toNat]? = some (A5 A j i):=wq i hi;have Bk:c[((j:Nat):Int).toNat]? = some (bQ c j):=gF z7 hj;have fj:=FV N.toa5 (HE og j) (OE Af j i) (by omega) (by omega);have Cp:=cW N.toa5 Bp ((HE og j).mul (OE Af j i)) (by omega) (by omega);rw[show BC (λ a=>bQ c a*A5 A a i) j+bQ c j*A5 A j i=BC (λ a=>bQ c a*A5 A a i) (j+1) from rfl]at Cp;generalize BC (λ a=>bQ c a*A5 A a i) j=s1 at *;generalize bQ c j*A5 A j i=p2 at *;(repeat' ((first|(apply AG<;>intro hc<;>try (exfalso;omega))|(apply AX;omega)|(refine BH (by assumption) ?_ rfl ?_;omega)|apply AE|refine AD (fj) ?_|refine AD (Cp) ?_)<;>conv=>whnf))
   exact BL [] (jh (j+1) (by omega) (by omega))
  ·have ej:j=n:=by omega
   clear jh;rw[ej];generalize BC (λ a=>bQ c a*A5 A a i) n=y at *;(repeat' ((first|(apply AG<;>intro hc<;>try (exfalso;omega))|(apply A0;omega)|apply AE)<;>conv=>whnf))
   refine FP (enc:=eO) (some y) rfl (λ e=>by cases e<;>rfl) (by omega) ?_;(conv=>whnf)
   rw[o9];(repeat' ((first|(apply AX;omega)|fail)<;>conv=>whnf))
   exact BL [] (ih (i+1) (by omega) (by omega))
 ·have ei:i=n:=by omega
  clear ih;rw[ei,List.take_of_length_le (by omega),OO ow];(repeat' ((first|(apply AG<;>intro hc<;>try (exfalso;omega))|apply AE)<;>conv=>whnf))
  refine DR (enc:=eQ) (λ_=>rfl) rfl (by omega) ?_;(conv=>whnf)
  refine AY rfl ?_;simp only[A6];exact ⟨trivial,OK _⟩
def Wz (A:List (List Rat)) (B:List Rat) (n:Nat) (v:AV):Prop :=
 (((∀ j,j<=6->GI (DN n A j)=false) \/ ¬ NS (BM n n).length (gM A n)) /\ ∃ e:Int,e≠0/\v = .m9 [.sl false [],.int .i64 e])\/((∃ i,GI (DN n A i)=true)/\NS (BM n n).length (gM A n) /\ ∃ X:List Rat,HD A B X n/\Bs 340000 X/\v = .m9 [.sl false (eM (kM X n)),.int .i64 0])
theorem yA (N:dw L) (A:List (List Rat)) (B:List Rat) (n:Nat) {k:Nat} (h:fX A B n k) (Gx:NS (BM n n).length (gM A n) -> ∀ X:List Rat,HD A B X n->Bs 340000 X) (hk:k<=1000) (hn:n<=3) :
  ∃ v,Ev L 324 [.sl false (CZ false A),.sl false (B.map eQ)] v/\Wz A B n v:=by
 obtain ⟨v,h1,o1⟩:=Als N A B n k h hk hn false false false;rcases o1 with ⟨c1,rfl⟩|⟨⟨i,i1,i2⟩,⟨n1,rfl⟩|⟨n1,X,g1,rfl⟩⟩
 ·exact ⟨_,h1,Or.inl ⟨Or.inl c1,14,by decide,rfl⟩⟩
 ·exact ⟨_,h1,Or.inl ⟨Or.inr n1,11,by decide,rfl⟩⟩
 ·exact ⟨_,h1,Or.inr ⟨⟨i,i2.1⟩,n1,X,g1,Gx n1 X g1,rfl⟩⟩
theorem AlC (N:aj L) (S:E7) (n m:Nat) {k:Nat} (hS:S.Ok n k) (hk:k<=1000) (hn:n<=3) (hm:m<=6) (e:Int) (he:e≠0) (hv:Ev L 324 [.sl false (CZ false S.a),.sl false (S.b.map eQ)] (.m9 [.sl false [],.int .i64 e])) :
  Ev L 331 [.agg (eS S),.int .i64 (m:Int)] (.m9 [.agg [.bool false,.sl false [],.sl false []],.int .i64 e]):=by
 have Ec:=wY N S n k hS (by omega);refine Ev.x N.J7 rfl rfl ?_;(repeat' ((first|(apply AG<;>intro hc<;>try (exfalso;omega))|apply AE|refine AD (Ec) ?_|refine AD (hv) ?_)<;>conv=>whnf))
 exact AY rfl (by simp [A6,CW,F2])
theorem Yx (N:aj L) (S:E7) (n:Nat) {k:Nat} (hS:S.Ok n k) (hk:k<=1000) (hn:n<=3) {kk:Nat} (K:List (List Rat)) (hK:Sq n K) (xu:Ms kk K) (kv:kk<=4000000) (hv:Ev L 324 [.sl false (CZ false S.a),.sl false (S.b.map eQ)] (.m9 [.sl false (eM K),.int .i64 0])) :
  Ev L 331 [.agg (eS S),.int .i64 0] (.m9 [.agg (eQ (JJ S K n 0)),.int .i64 0]):=by
 have Ec:=wY N S n k hS (by omega);have hA:Sq n S.a:=⟨hS.la,hS.lr⟩;have hF:=λ q1 q2 q3=>Zb N q1 q2 q3 K S.c n kk k hK hS.lc xu hS.bc hn (by omega) (by omega)
 have hM:=FV N.toa5 hS.bd hS.bd (by omega) (by omega);have Rk:Bt (3*(3*(kk+(k+k)+1)+1)) (IK K S.c n):=(cB (λ i=>(cB (λ j=>(OE xu i j).mul ((HE hS.bc i).mul (HE hS.bc j))) n).le (Nat.mul_le_mul_right _ hn)) n).le (Nat.mul_le_mul_right _ hn);have Cp:=cW N.toa5 (hS.bd.mul hS.bd) Rk (by omega) (by omega);refine Ev.x N.J7 rfl rfl ?_;(repeat' ((first|(apply AG<;>intro hc<;>try (exfalso;omega))|apply AE|refine AD (Ec) ?_|refine AD (hv) ?_|refine AD (hM) ?_|refine AD (hF _ _ _) ?_|refine AD (Cp) ?_)<;>conv=>whnf))
 exact AY rfl (by simp only[A6,CW,and_true,true_and];exact ⟨CS _,CS _⟩)
theorem AlB (N:aj L) (S:E7) (n m:Nat) {k:Nat} (hS:S.Ok n k) (hk:k<=40) (hn:n<=3) (hm:m<=6) {kk:Nat} (K:List (List Rat)) (hK:Sq n K) (xu:Ms kk K) (kv:kk<=4000000) (hv:Ev L 324 [.sl false (CZ false S.a),.sl false (S.b.map eQ)] (.m9 [.sl false (eM K),.int .i64 0])) :
  Ev L 331 [.agg (eS S),.int .i64 (m:Int)] (.m9 [.agg (eQ (JJ S K n m)),.int .i64 0]):=by
 have Ec:=wY N S n k hS (by omega);have hA:Sq n S.a:=⟨hS.la,hS.lr⟩;cases m with
 | zero=>exact Yx N S n hS (by omega) hn K hK xu kv hv
 | succ m =>
  refine Ev.x N.J7 rfl rfl ?_;(repeat' ((first|(apply AG<;>intro hc<;>try (exfalso;omega))|(apply CB;omega)|apply AE|refine AD (Ec) ?_|refine AD (hv) ?_)<;>conv=>whnf))
  refine B6 (λ t=>m-t) (λ(t:Nat)=>t<=m) (λ t=>[(48,.int .i64 t),(8,.sl false ((XF S.c S.a n t).map eQ))]) (λ_=>[]) [] [] 0 (by (conv=>whnf);exact ⟨rfl,rfl,rfl⟩) (by omega) ?_;intro t p1 ih;have hb:=(AgC hS.bc hS.ba hn t).le (AqD hk (show t<=6 by omega));have hl:=AqG (A:=S.a) hS.lc t;by_cases ht:t<m
  ·have hBh:=λ q1 q2 q3=>AlD N q1 q2 q3 (XF S.c S.a n t) S.a n k 100000 hA hl hS.ba hb hn (by omega) (by omega)
   rw[show JL (XF S.c S.a n t) S.a n=XF S.c S.a n (t+1) from rfl]at hBh;(repeat' ((first|(apply AG<;>intro hc<;>try (exfalso;omega))|(apply AX;omega)|apply AE|refine AD (hBh _ _ _) ?_)<;>conv=>whnf))
   exact BL [] (ih (t+1) (by omega) (by omega))
  ·have et:t=m:=by omega
   clear ih;rw[et]at hb hl ⊢;have hF:=λ q1 q2 q3=>Zb N q1 q2 q3 K (XF S.c S.a n m) n kk 100000 hK hl xu hb hn (by omega) (by omega)
   rw[show IK K (XF S.c S.a n m) n=JJ S K n (m+1) from rfl]at hF;generalize JJ S K n (m+1)=y at *;generalize XF S.c S.a n m=c0 at *;(repeat' ((first|(apply AG<;>intro hc<;>try (exfalso;omega))|apply AE|refine AD (hF _ _ _) ?_)<;>conv=>whnf))
   exact AY rfl (by simp only[A6,CW,and_true,true_and];exact ⟨CS _,CS _⟩)
theorem wP (N:aj L) (S:E7) (n:Nat) {k:Nat} (hS:S.Ok n k) (hk:k<=1000) (hn:n<=3) (e:Int) (he:e≠0) (hv:Ev L 324 [.sl false (CZ false S.a),.sl false (S.b.map eQ)] (.m9 [.sl false [],.int .i64 e])) :
  Ev L 332 [.agg (eS S)] (.m9 [.agg [.bool false,.sl false [],.sl false []],.int .i64 e]):=by
 have hT:=AlC N S n 0 hS hk hn (by omega) e he hv;refine Ev.x N.QG rfl rfl ?_;(repeat' ((first|apply AE|refine AD (hT) ?_)<;>conv=>whnf))
 exact AY rfl (by simp [A6,CW,F2])
theorem qX (N:aj L) (S:E7) (n:Nat) {k:Nat} (hS:S.Ok n k) (hk:k<=1000) (hn:n<=3) {kk:Nat} (K:List (List Rat)) (hK:Sq n K) (xu:Ms kk K) (kv:kk<=4000000) (hv:Ev L 324 [.sl false (CZ false S.a),.sl false (S.b.map eQ)] (.m9 [.sl false (eM K),.int .i64 0])) :
  Ev L 332 [.agg (eS S)] (.m9 [.agg (eQ (JJ S K n 0)),.int .i64 0]):=by
 have hT:=Yx N S n hS hk hn K hK xu kv hv;refine Ev.x N.QG rfl rfl ?_;(repeat' ((first|apply AE|refine AD (hT) ?_)<;>conv=>whnf))
 exact AY rfl (by simp only[A6,CW,and_true,true_and];exact ⟨CS _,CS _⟩)
theorem Aly (N:dm L) (l:List Int) (q:Bool) (n:Nat) (hl : ∀ x∈l,GW x) (hn:n<=1000000):cI L 141 [.sl q (l.map cU),.int .i64 (n:Int)] 3 ((E9 l n).map eQ):=by
 have ji : ∀ i:Nat,GW (EY l (i:Int)):=λ i=>by
  unfold EY;split
  ·rw[List.getD_eq_getElem?_getD]
   cases e:l[((i:Int)).toNat]? with
   | none=>simp [GW]
   | some x=>exact hl x (zM e)
  ·simp [GW]
 refine cI.x N.TD rfl rfl ?_;(repeat' (apply AE<;>conv=>whnf))
 refine B6 (λ i=>n-i) (λ(i:Nat)=>i<=n) (λ i=>[(6,.int .i64 i),(5,.row 5 0 3 0 i)]) (λ i=>[(5,5,.rw 3 ((E9 l i).map eQ))]) [] [] 0 (by (conv=>whnf);exact ⟨rfl,rfl,rfl⟩) (by omega) ?_;intro i p1 ih;by_cases hi:i<n
 ·have Pl:=λ q=>xJ N.tobh l q (i:Int)
  have hW:=xK N.tobh (EY l (i:Int)) 2000 (ji i) (by omega);have hw0:0<=ES (EY l (i:Int)) 2000/\ES (EY l (i:Int)) 2000<2000:=by unfold ES;split<;>omega
  have rh:=Afj l i;have hlen:=fE l i;have hF:=jT N.tol7 (ES (EY l (i:Int)) 2000%25-12) (1+ES (EY l (i:Int)) 2000/25%8) (by omega) (by omega);have Po:Ev L 125 [.int .i64 (ES (EY l (i:Int)) 2000%25-12),.int .i64 (1+ES (EY l (i:Int)) 2000/25%8)] (.agg (eQ (fD (ES (EY l (i:Int)) 2000)))):=hF;clear hF;generalize fD (ES (EY l (i:Int)) 2000)=y at *;generalize ES (EY l (i:Int)) 2000=v at *;(repeat' ((first|(apply AG<;>intro hc<;>try (exfalso;omega))|(apply AX;omega)|(apply CB;omega)|(refine gA ?_ (λ_ _ _ => ?_) (λ_ _ _ _ => ?_);omega;all_goals try (exfalso;omega))|(refine dU ?_ ?_ (λ_ => ?_) (λ_ _ => ?_);omega;omega;all_goals try (exfalso;omega))|apply EL|apply AE|refine AD (Pl _) ?_|refine AD (hW) ?_|refine AD (Po) ?_)<;>conv=>whnf))
  refine E6 (enc:=eQ) y rfl hlen.symm rfl (by omega) (by omega) ?_;(conv=>whnf)
  (repeat' ((first|(apply AX;omega)|fail)<;>conv=>whnf))
  rw[show (E9 l i++[y]).length=i+1 by simp [hlen],<-rh];exact BL [(5,27)] (ih (i+1) (by omega) (by omega))
 ·obtain rfl:i=n:=by omega
  clear ih;have hlen:=fE l i;(repeat' ((first|(apply AG<;>intro hc<;>try (exfalso;omega))|apply AE)<;>conv=>whnf))
  exact ⟨rfl,rfl,by simp [hlen],rfl,OK _⟩
def UO (n:Nat):Rat:=Rat.divInt 1 (16*n)
def JX (l:List Int) (n:Nat):E7:=⟨CU (UO n) (cC l n).a,(cC l n).b,(cC l n).c,(cC l n).d⟩
theorem pC {es:List (List AV)} {i j n:Nat} {K:List AV->Prop} {cs ds:List AV} (h:es[i]? = some cs) (hp:part cs j n=some ds) (hk:K ds):BD es i j n K:=by
 unfold BD;exact ⟨cs,ds,h,hp,hk⟩
theorem pN {es:List (List AV)} {i j:Nat} {vs cs:List AV} {K:List (List AV)->Prop} (h:es[i]? = some cs) (hl:Nat.ble (j+vs.length) cs.length=true) (hk:K (es.set i (splice cs j vs))):A7 es i j vs K:=by
 unfold A7;exact ⟨cs,h,Nat.le_of_ble_eq_true hl,hk⟩
theorem pL {es:List (List AV)} {off len:Nat} {K:List (List AV)->Prop} (h:Nat.ble (off+len) es.length=true) (hz:es.all F7=true) (hk:K ((es.drop off).take len)):A4 es off len K :=
 lP (Nat.le_of_ble_eq_true h) (λ e he=>List.all_eq_true.1 hz e he) hk
theorem Alm (N:ia L) (l:List Int) (q:Bool) (n:Nat) (hl : ∀ x∈l,GW x) (hn:n<=3):Ev L 317 [.sl q (l.map cU),.int .i64 (n:Int)] (.agg (eS (JX l n))):=by
 have hR:=λ q=>Aly N.todm l q (n*n+2*n+1) hl (by have:n*n<=9:=Nat.mul_le_mul hn hn;omega)
 have vg:=fE l (n*n+2*n+1);have Eh:=Nx l (n*n+2*n+1);have hF:Ev L 125 [.int .i64 1,.int .i64 (16*n)] (.agg (eQ (UO n))):=jT N.tol7 1 (16*n) (by omega) (by omega);have og:Bt 6 (UO n):=by
  rw[UO,show (16*n:Int)=((16*n:Nat):Int) by omega,Rat.divInt_ofNat];refine Bt.mk (by decide) ?_;show _<=64;omega
 have hM : ∀ x∈E9 l (n*n+2*n+1),Ev L 128 [.agg (eQ x),.agg (eQ (UO n))] (.agg (eQ (x*UO n))):=λ x hx=>AlS N.tol7 (Eh x hx) og (by omega) (by omega)
 unfold JX cC;simp only[];generalize E9 l (n*n+2*n+1)=X at *;obtain rfl|rfl|rfl|rfl:n=0\/n=1\/n=2\/n=3:=by omega
 ·match X,vg with
  | [x0],_ =>
   refine Ev.x N.IU rfl rfl ?_;(repeat' (apply AE<;>conv=>whnf))
   refine FC 1000 N.IV rfl rfl ?_;(repeat' ((first|(apply AX;omega)|(apply E0;omega)|apply AE)<;>conv=>whnf))
   refine bG (enc:=eQ) 1 (hR _) rfl ?_;(conv=>whnf)
   (repeat' ((first|(apply A0;omega)|(apply AX;omega)|(apply E0;omega)|(refine O5 ?_ (λ_=>rfl) (λ v hv => ?_);omega)|(apply cH;omega))<;>conv=>whnf))
   obtain rfl:x0=v:=Option.some.inj hv;repeat (refine G9 ?_;(repeat' ((first|(apply AG<;>intro hc<;>try (exfalso;omega))|apply AE)<;>conv=>whnf)))
   refine ⟨rfl,?_⟩;(conv=>whnf)
   skip
   repeat (first|(refine G9 ?_;(repeat' ((first|(apply AG<;>intro hc<;>try (exfalso;omega))|apply AE)<;>conv=>whnf)))|(refine pC rfl rfl ?_;(conv=>whnf);skip)|(refine pN rfl rfl ?_;(conv=>whnf);skip))
   repeat (first|(refine A0 rfl ?_;(conv=>whnf))|(refine pL rfl rfl ?_;(conv=>whnf)))
   exact AY rfl (mA _)
 ·match X,vg with
  | [x0,x1,x2,x3],_ =>
   refine Ev.x N.IU rfl rfl ?_;(repeat' (apply AE<;>conv=>whnf))
   refine FC 1000 N.IV rfl rfl ?_;(repeat' ((first|(apply AX;omega)|(apply E0;omega)|apply AE)<;>conv=>whnf))
   refine bG (enc:=eQ) 4 (hR _) rfl ?_;(conv=>whnf)
   (repeat' ((first|(apply A0;omega)|(apply AX;omega)|(apply E0;omega)|(refine oX ?_ (λ_=>rfl) (λ v hv => ?_);omega)|(apply cH;omega))<;>conv=>whnf))
   obtain rfl:x3=v:=Option.some.inj hv;repeat (refine G9 ?_;(repeat' ((first|(apply AG<;>intro hc<;>try (exfalso;omega))|(apply A0;omega)|(apply AX;omega)|(apply E0;omega)|(apply cH;omega)|apply AE)<;>conv=>whnf)))
   refine ⟨rfl,?_⟩;(conv=>whnf)
   skip
   repeat (first|(refine G9 ?_;(repeat' ((first|(apply AG<;>intro hc<;>try (exfalso;omega))|(apply A0;omega)|(apply AX;omega)|apply AE)<;>conv=>whnf)))|(refine pC rfl rfl ?_;(conv=>whnf);(repeat' ((first|(apply A0;omega)|(apply E0;omega)|refine AD (hF) ?_|refine AD (hM _ (by simp)) ?_)<;>conv=>whnf)))|(refine pN rfl rfl ?_;(conv=>whnf);(repeat' ((first|(apply AX;omega)|fail)<;>conv=>whnf))))
   repeat (first|(refine A0 rfl ?_;(conv=>whnf))|(refine pL rfl rfl ?_;(conv=>whnf)))
   exact AY rfl (mA _)
 ·match X,vg with
  | [x0,x1,x2,x3,x4,x5,x6,x7,x8],_ =>
   refine Ev.x N.IU rfl rfl ?_;(repeat' (apply AE<;>conv=>whnf))
   refine FC 1000 N.IV rfl rfl ?_;(repeat' ((first|(apply AX;omega)|(apply E0;omega)|apply AE)<;>conv=>whnf))
   refine bG (enc:=eQ) 9 (hR _) rfl ?_;(conv=>whnf)
   (repeat' ((first|(apply A0;omega)|(apply AX;omega)|(apply E0;omega)|(refine oX ?_ (λ_=>rfl) (λ v hv => ?_);omega)|(apply cH;omega))<;>conv=>whnf))
   obtain rfl:x8=v:=Option.some.inj hv;repeat (refine G9 ?_;(repeat' ((first|(apply AG<;>intro hc<;>try (exfalso;omega))|(apply A0;omega)|(apply AX;omega)|(apply E0;omega)|(apply cH;omega)|apply AE)<;>conv=>whnf)))
   refine ⟨rfl,?_⟩;(conv=>whnf)
   skip
   repeat (first|(refine G9 ?_;(repeat' ((first|(apply AG<;>intro hc<;>try (exfalso;omega))|(apply A0;omega)|(apply AX;omega)|apply AE)<;>conv=>whnf)))|(refine pC rfl rfl ?_;(conv=>whnf);(repeat' ((first|(apply A0;omega)|(apply E0;omega)|refine AD (hF) ?_|refine AD (hM _ (by simp)) ?_)<;>conv=>whnf)))|(refine pN rfl rfl ?_;(conv=>whnf);(repeat' ((first|(apply AX;omega)|fail)<;>conv=>whnf))))
   repeat (first|(refine A0 rfl ?_;(conv=>whnf))|(refine pL rfl rfl ?_;(conv=>whnf)))
   exact AY rfl (mA _)
 ·match X,vg with
  | [x0,x1,x2,x3,x4,x5,x6,x7,x8,x9,xa,xb,xc,xd,xe,xf],_ =>
   refine Ev.x N.IU rfl rfl ?_;(repeat' (apply AE<;>conv=>whnf))
   refine FC 1000 N.IV rfl rfl ?_;(repeat' ((first|(apply AX;omega)|(apply E0;omega)|apply AE)<;>conv=>whnf))
   refine bG (enc:=eQ) 16 (hR _) rfl ?_;(conv=>whnf)
   (repeat' ((first|(apply A0;omega)|(apply AX;omega)|(apply E0;omega)|(refine oX ?_ (λ_=>rfl) (λ v hv => ?_);omega)|(apply cH;omega))<;>conv=>whnf))
   obtain rfl:xf=v:=Option.some.inj hv;repeat (refine G9 ?_;(repeat' ((first|(apply AG<;>intro hc<;>try (exfalso;omega))|(apply A0;omega)|(apply AX;omega)|(apply E0;omega)|(apply cH;omega)|apply AE)<;>conv=>whnf)))
   refine ⟨rfl,?_⟩;(conv=>whnf)
   skip
   repeat (first|(refine G9 ?_;(repeat' ((first|(apply AG<;>intro hc<;>try (exfalso;omega))|(apply A0;omega)|(apply AX;omega)|apply AE)<;>conv=>whnf)))|(refine pC rfl rfl ?_;(conv=>whnf);(repeat' ((first|(apply A0;omega)|(apply E0;omega)|refine AD (hF) ?_|refine AD (hM _ (by simp)) ?_)<;>conv=>whnf)))|(refine pN rfl rfl ?_;(conv=>whnf);(repeat' ((first|(apply AX;omega)|fail)<;>conv=>whnf))))
   repeat (first|(refine A0 rfl ?_;(conv=>whnf))|(refine pL rfl rfl ?_;(conv=>whnf)))
   exact AY rfl (mA _)
theorem Bt.ng {k:Nat} {x:Rat} (h:Bt k x):Bt k (-x):=⟨by simpa using h.1,by simpa using h.2⟩
theorem AmZ:Bt 4 (Rat.divInt 1 2):=(Bt.mk (k:=4) (z:=1) (d:=2) (by decide) (by decide))
end Go.e9



namespace Go.e9
open F
attribute [local irreducible] AA AF AM AC CK AR AW BD A7 BW AQ BT CD DB BP A4 BO CE AB A8 AJ pw B4 BK CF CI CN CX CJ BS CM
variable {L:Lib}
set_option maxHeartbeats 32000000
set_option maxRecDepth 8000
theorem AiU (n:Nat) (hn:n<=3):Bt 6 (UO n):=by
 rw[UO,show (16*n:Int)=((16*n:Nat):Int) by omega,Rat.divInt_ofNat];refine Bt.mk (by decide) ?_;show _<=64;omega
theorem Wb (l:List Int) (n:Nat) (hn:n<=3):(JX l n).Ok n 10:=by
 have h:=Aql l n;refine ⟨by rw[JX,Ov];exact h.la,oC _ h.lr,h.lb,h.lc,?_,h.bb.le (by omega),h.bc.le (by omega),h.bd.le (by omega)⟩;intro r hr x hx;obtain ⟨s,hs,rfl⟩:=List.mem_map.1 hr;obtain ⟨y,hy,rfl⟩:=List.mem_map.1 hx;exact (h.ba s hs y hy).mul (AiU n hn)
theorem Ny (l:List Int) (m:Nat) : ∀ x∈E9 l m,Wh 14 (((840:Nat):Rat)*x):=λ x hx=>by
 simp only[E9,List.mem_map]at hx;obtain ⟨i,_,rfl⟩:=hx;have:0<=ES (EY l (i:Int)) 2000:=by unfold ES;split<;>omega
 exact AqK (by omega) (by omega)
theorem AiW {n:Nat} (hn:1<=n):((16*n:Nat):Rat)*UO n=1:=by
 rw[UO,show (16*(n:Int))=((16*n:Nat):Int) by omega,Rat.divInt_ofNat,Rat.mkRat_eq_div,Rat.div_def,show ((1:Int):Rat)=1 from rfl,Rat.one_mul];refine Rat.mul_inv_cancel _ λ e => ?_
 have:=Rat.natCast_inj.1 (e.trans (show (0:Rat)=((0:Nat):Rat) from rfl))
 omega
theorem tZ {A:List (List Rat)} {k M:Nat} (h : ∀ r∈A,∀ x∈r,Wh k ((M:Rat)*x)) (i j:Nat):Wh k ((M:Rat)*A5 A i j):=by
 have h0:Wh k ((M:Rat)*0):=by rw[Rat.mul_zero];exact Wh.zero k
 cases e:A[i]? with
 | none =>
  rw[A5,show A.getD i []=[] by rw[List.getD_eq_getElem?_getD,e];rfl];exact h0
 | some r =>
  rw[OG e,List.getD_eq_getElem?_getD];cases e2:r[j]? with
  | none=>exact h0
  | some x=>exact h r (zM e) x (zM e2)
theorem xY {A:List (List Rat)} {B:List Rat} {n k M m l:Nat} (hn:n<=3) (hA:Sq n A) (hB:B.length=n) (Af:Ms k A) (Ks:Bs k B) (hM:1<=M) (jd:M<=2^m) (hm:2*m+2<=180) (hl:2*l<=180)
  (ha : ∀ i j,Wh m ((M:Rat)*A5 A i j)) (hb : ∀ i,Wh l ((M:Rat)*bQ B i)):fX A B n k:=by
 have Pr:M*M<=2^(2*m):=by
  rw[Nat.two_mul,Nat.pow_add];exact Nat.mul_le_mul jd jd
 have fj:1<=M*M:=Nat.mul_le_mul hM hM;have hg:=Adx (A:=A) ha jd (n:=n);have vn : ∀ y∈gR B n,Wh 180 (((M*M:Nat):Rat)*y):=λ y hy=>by
  obtain ⟨p,_,rfl⟩:=List.mem_map.1 hy;have:=(hb p.1).mul (hb p.2)
  rw[show (M:Rat)*bQ B p.1*((M:Rat)*bQ B p.2)=((M*M:Nat):Rat)*(bQ B p.1*bQ B p.2) by rw[Rat.natCast_mul];grind]at this;exact this.le (by omega)
 have qk : ∀ r∈DP (gM A n) ((gR B n).map λ x=>[x]),∀ x∈r,Wh 180 (((M*M:Nat):Rat)*x):=by
  intro r hr;obtain ⟨i,hi⟩:=List.getElem?_of_mem hr;rw[DP,List.getElem?_zipWith]at hi;cases e1:(gM A n)[i]? with
  | none=>rw[e1]at hi;cases hi
  | some u =>
   rw[e1,List.getElem?_map]at hi;cases e2:(gR B n)[i]? with
   | none=>rw[e2]at hi;cases hi
   | some y =>
    rw[e2]at hi;obtain rfl:=Option.some.inj hi;intro x hx;rcases List.mem_append.1 hx with hx|hx
    ·exact (hg u (zM e1) x hx).le (by omega)
    ·obtain rfl:=List.mem_singleton.1 hx
     exact vn _ (zM e2)
 have bt : ∀ x:Rat,Wh 180 (((M*M:Nat):Rat)*x)->Bt 180 x:=λ x hx=>AiQ (S:=M*M) (by omega) (Nat.le_trans Pr (Nat.pow_le_pow_right (by omega) (by omega))) (by rw[Rat.mul_comm];exact hx)
 refine ⟨hA,hB,Af,Ks,λ r hr x hx=>bt x ((hg r hr x hx).le (by omega)),λ x hx=>bt x (vn x hx),λ r hr j => ?_,λ r hr => ?_⟩
 ·exact ((AfI fj Pr (k:=180) λ x hx=>qk r hr x (List.mem_of_mem_take hx)).1.bt).le (by omega)
 ·obtain ⟨s,hs,rfl⟩:=List.mem_map.1 hr
  intro x hx;obtain ⟨y,hy,rfl⟩:=List.mem_map.1 hx;exact ((AfI fj Pr (k:=180) λ x hx=>qk s hs x hx).2 y hy).bt
theorem Wc (l:List Int) {n:Nat} (hn:1<=n) : ∀ r∈(JX l n).a,∀ x∈r,Wh 14 (((840*(16*n):Nat):Rat)*x):=λ r hr x hx=>by
 obtain ⟨s,hs,rfl⟩:=List.mem_map.1 hr;obtain ⟨y,hy,rfl⟩:=List.mem_map.1 hx;have hm:y∈E9 l (n*n+2*n+1):=by
  simp only[cC,HP,List.mem_map]at hs;obtain ⟨j,_,rfl⟩:=hs;exact List.mem_of_mem_take (List.mem_of_mem_drop hy)
 have h1:=Ny l _ y hm;have h2:=AiW hn;rw[Rat.natCast_mul,show ((840:Nat):Rat)*((16*n:Nat):Rat)*(y*UO n)=((840:Nat):Rat)*y*(((16*n:Nat):Rat)*UO n) by grind,h2,Rat.mul_one];exact h1
theorem We (l:List Int) (n:Nat) : ∀ x∈(JX l n).b,Wh 14 (((840:Nat):Rat)*x):=λ x hx=>Ny l (n*n+2*n+1) x (List.mem_of_mem_take (List.mem_of_mem_drop hx))
theorem Wf (l:List Int) {n:Nat} (hn:1<=n/\n<=3):(∀ i j,Wh 16 (((840*(16*n):Nat):Rat)*A5 (JX l n).a i j)) /\ ∀ i,Wh 30 (((840*(16*n):Nat):Rat)*bQ (JX l n).b i):=by
 refine ⟨tZ λ r hr x hx=>(Wc l hn.1 r hr x hx).le (by omega),λ i => ?_⟩;have Pj:Wh 6 (((16*n:Nat):Rat)):=⟨((16*n:Nat):Int),by rw[Rat.intCast_natCast],by rw[Int.natAbs_natCast];show _<=64;omega⟩;cases e:(JX l n).b[i]? with
 | none =>
  rw[bQ,List.getD_eq_getElem?_getD,e,show ((none:Option Rat).getD 0)=0 from rfl,Rat.mul_zero];exact Wh.zero _
 | some x =>
  have h1:=(We l n x (zM e)).mul Pj;rw[uS e,Rat.natCast_mul,show ((840:Nat):Rat)*((16*n:Nat):Rat)*x=((840:Nat):Rat)*x*((16*n:Nat):Rat) by grind];exact h1.le (by omega)
theorem AiV (l:List Int) {n:Nat} (hn:n<=3):fX (JX l n).a (JX l n).b n 10:=by
 have n7:=Wb l n (by omega);by_cases h0:n=0
 ·subst h0
  exact ⟨⟨n7.la,n7.lr⟩,n7.lb,n7.ba,n7.bb,λ r hr=>(by cases hr),λ r hr=>(by cases hr),λ r hr=>(by cases hr),λ r hr=>(by cases hr)⟩
 ·obtain ⟨h1,h2⟩:=Wf l (n:=n) (by omega)
  exact xY (M:=840*(16*n)) (m:=16) (l:=30) hn ⟨n7.la,n7.lr⟩ n7.lb n7.ba n7.bb (by omega) (by omega) (by omega) (by omega) h1 h2
theorem AlN (N:cn L) (vn:fX [[Rat.divInt 1 2]] [1] 1 10 -> ∃ v,Ev L 324 [.sl false (CZ false [[Rat.divInt 1 2]]),.sl false ([(1:Rat)].map eQ)] v/\Wz [[Rat.divInt 1 2]] [1] 1 v):Ev L 336 [] (.bool true):=by
 have A:al L:=N.tocu.toga.toal;have hO:=Amu A.tol7 1 (by omega);have hF:=jT A.tol7 1 2 (by omega) (by omega);have hF2:=jT A.tol7 4 3 (by omega) (by omega);have hF3:=jT A.tol7 1 3 (by omega) (by omega);have hh:=AmZ;have u7 : -(Rat.divInt 1 2)≠0:=by decide
 have Ra:GI (DN 1 [[Rat.divInt 1 2]] 0)=true:=by decide +kernel
 have hG:fX [[Rat.divInt 1 2]] [1] 1 10:=by
  refine xY (M:=2) (m:=16) (l:=30) (by omega) ⟨rfl,λ r hr=>by obtain rfl:=List.mem_singleton.1 hr;rfl⟩ rfl (λ r hr x hx => ?_) (λ x hx => ?_) (by omega) (by omega) (by omega) (by omega) (tZ λ r hr x hx => ?_) λ i => ?_
  ·obtain rfl:=List.mem_singleton.1 hr
   obtain rfl:=List.mem_singleton.1 hx;exact hh.le (by omega)
  ·obtain rfl:=List.mem_singleton.1 hx
   exact Bt.one _
  ·obtain rfl:=List.mem_singleton.1 hr
   obtain rfl:=List.mem_singleton.1 hx;exact ⟨1,by decide +kernel,by decide⟩
  ·cases i with
   | zero=>exact ⟨2,by decide +kernel,by decide⟩
   | succ i=>exact ⟨0,by rw[show bQ [1] (i+1)=0 from rfl,Rat.mul_zero];rfl,by decide⟩
 have fr:NS (BM 1 1).length (gM [[Rat.divInt 1 2]] 1):=by
  intro X hX hk j;match X,hX with
  | [x],_ =>
   have h1:=hk (FW [[Rat.divInt 1 2]] 1 (0,0)) (List.mem_singleton.2 rfl);have h2:(Rat.divInt 3 4)*x+0=0:=by
    have Bb:gC [[Rat.divInt 1 2]] (0,0) (0,0)*x+0=0:=h1;rwa [show gC [[Rat.divInt 1 2]] (0,0) (0,0)=Rat.divInt 3 4 by decide +kernel]at Bb
   have h3:x=0:=by
    have:(Rat.divInt 3 4:Rat)=3/4:=by decide +kernel
    grind
   cases j with
   | zero=>exact h3
   | succ j=>rfl
 have hval : ∀ X:List Rat,HD [[Rat.divInt 1 2]] [1] X 1->JJ ⟨[[Rat.divInt 1 2]],[1],[Rat.divInt 1 2],1⟩ (kM X 1) 1 0=Rat.divInt 4 3/\JJ ⟨[[Rat.divInt 1 2]],[1],[Rat.divInt 1 2],1⟩ (kM X 1) 1 1=Rat.divInt 1 3:=by
  intro X hX;have e12:(Rat.divInt 1 2:Rat)=1/2:=by decide +kernel
  have e43:(Rat.divInt 4 3:Rat)=4/3:=by decide +kernel
  have e13:(Rat.divInt 1 3:Rat)=1/3:=by decide +kernel
  have h1:=hX.eq (by omega) 0 0 (by omega) (by omega);have h2:A5 [[Rat.divInt 1 2]] 0 0=Rat.divInt 1 2:=rfl;have h3:bQ [1] 0=1:=rfl;have h4:bQ [Rat.divInt 1 2] 0=Rat.divInt 1 2:=rfl;simp only[JT,BC,h2,h3]at h1;simp only[JJ,IK,BC,XF,h4];rw[e12]at h1 ⊢;rw[e43,e13];generalize A5 (kM X 1) 0 0=k at *;constructor<;>grind
 replace vn:=vn hG
 generalize Rat.divInt 1 2=h at *;have hN:=Al1 A.toic hh (by omega);have hA:Bs 4 [1,-h]:=λ x hx=>by
  rcases List.mem_cons.1 hx with rfl|hx
  ·exact Bt.one 4
  ·obtain rfl:=List.mem_singleton.1 hx
   exact hh.ng
 have hB:Bs 4 [(1:Rat)]:=λ x hx=>by
  obtain rfl:=List.mem_singleton.1 hx;exact Bt.one 4
 have tB:cE [(1:Rat)]=[1]:=by decide
 have tA:cE [1,-h]=[1,-h]:=by
  show List.take (if -h=0 then _ else 2) [1,-h]=_;rw[if_neg u7];rfl
 have hC:=Alr A true true [1] [1,-h] 1 4 tB tA hB hA (by simp) (by simp) rfl rfl (by omega);have e:FK [1] [1,-h] 1=⟨[[h]],[1],[h],1⟩:=by
  have:FK [1] [1,-h] 1=⟨[[- -h]],[1],[0-1 * -h],1⟩:=rfl
  rw[this,Rat.neg_neg,show 0-1 * -h=h by grind]
 rw[e]at hC;have n7:E7.Ok ⟨[[h]],[1],[h],1⟩ 1 10:=⟨rfl,λ r hr=>by obtain rfl:=List.mem_singleton.1 hr;rfl,rfl,rfl,hG.ba,hG.bb,λ x hx=>by
  obtain rfl:=List.mem_singleton.1 hx;exact hh.le (by omega),Bt.one _⟩
 obtain ⟨v,h1,hv⟩:=vn;rcases hv with ⟨h3|h3,_⟩|⟨_,_,X,hX,Eh,rfl⟩
 ·have:=h3 0 (by omega)
  rw[Ra]at this;cases this
 ·exact absurd fr h3
 obtain ⟨v1,v2⟩:=hval X hX;have hE:=qX N.toaj ⟨[[h]],[1],[h],1⟩ 1 n7 (by omega) (by omega) (kM X 1) (jZ X 1) (jY Eh 1) (by omega) h1;have hT:=AlB N.toaj ⟨[[h]],[1],[h],1⟩ 1 1 n7 (by omega) (by omega) (by omega) (kM X 1) (jZ X 1) (jY Eh 1) (by omega) h1;rw[v1]at hE;rw[v2]at hT;have Pb:Bt 3 (Rat.divInt 4 3):=⟨by decide,by decide⟩;have Pa:Bt 3 (Rat.divInt 1 3):=⟨by decide,by decide⟩;have Bc:=wR A.tol7 Pb Pb (by omega) (by omega);have Hm:=wR A.tol7 Pa Pa (by omega) (by omega);rw[Oo.2 rfl]at Bc Hm;clear v1 v2 hval Pb Pa;generalize Rat.divInt 4 3=x43 at *;generalize Rat.divInt 1 3=x13 at *;refine Ev.x N.X0 rfl rfl ?_;(repeat' ((first|(apply AG<;>intro hc<;>try (exfalso;omega))|refine H6 rfl ?_|refine jE rfl rfl ?_|apply AE|refine AD (hO) ?_|refine AD (hF) ?_|refine AD (hF2) ?_|refine AD (hF3) ?_|refine AD (hN) ?_|refine AD (hC) ?_|refine AD (hE) ?_|refine AD (hT) ?_|refine AD (Bc) ?_|refine AD (Hm) ?_)<;>conv=>whnf))
 exact JR rfl
theorem An5 {m:Nat} (h:m<=6):2*KI m 180<=340000:=by
 rcases (show m=0\/m=1\/m=2\/m=3\/m=4\/m=5\/m=6 by omega) with rfl|rfl|rfl|rfl|rfl|rfl|rfl<;>decide
theorem xZ {A:List (List Rat)} {B:List Rat} {n M m l:Nat} (hn:n<=3) (hM:1<=M) (jd:M<=2^m) (hm:2*m+2<=180) (hl:2*l<=180)
  (ha : ∀ i j,Wh m ((M:Rat)*A5 A i j)) (hb : ∀ i,Wh l ((M:Rat)*bQ B i)):NS (BM n n).length (gM A n) -> ∀ X:List Rat,HD A B X n->Bs 340000 X:=by
 have fj:1<=M*M:=Nat.mul_le_mul hM hM;have hg:=Adx (A:=A) ha jd (n:=n);have vn : ∀ y∈gR B n,Wh 180 (((M*M:Nat):Rat)*y):=λ y hy=>by
  obtain ⟨p,_,rfl⟩:=List.mem_map.1 hy;have:=(hb p.1).mul (hb p.2)
  rw[show (M:Rat)*bQ B p.1*((M:Rat)*bQ B p.2)=((M*M:Nat):Rat)*(bQ B p.1*bQ B p.2) by rw[Rat.natCast_mul];grind]at this;exact this.le (by omega)
 intro fr X hX;have h0:((M*M:Nat):Rat)≠0:=λ e=>by
  have:=Rat.natCast_inj.1 (e.trans (show (0:Rat)=((0:Nat):Rat) from rfl))
  omega
 have Gx:=Ap6 (n:=(BM n n).length) (k:=180) (a:=(gM A n).map λ r=>r.map (((M*M:Nat):Rat) * ·)) (b:=(gR B n).map (((M*M:Nat):Rat) * ·)) (c:=X) (by rw[List.length_map];exact (gY A).l) (λ r hr=>by
  obtain ⟨s,hs,rfl⟩:=List.mem_map.1 hr;rw[List.length_map];exact (gY A).r s hs) (by rw[List.length_map];exact xW B n) (λ r hr x hx=>by
  obtain ⟨s,hs,rfl⟩:=List.mem_map.1 hr;obtain ⟨y,hy,rfl⟩:=List.mem_map.1 hx;exact (hg s hs y hy).le (by omega)) (λ x hx=>by
  obtain ⟨y,hy,rfl⟩:=List.mem_map.1 hx;exact vn y hy) (λ Y hY hk j=>fr Y hY (λ r hr=>by
  have:=hk (r.map (((M*M:Nat):Rat) * ·)) (List.mem_map.2 ⟨r,hr,rfl⟩)
  rw[jQ]at this;rcases Rat.mul_eq_zero.1 this with e|e
  ·exact absurd e h0
  ·exact e) j) hX.1 (λ i r s h1 h2=>by
  rw[List.getElem?_map]at h1 h2;cases e1:(gM A n)[i]? with
  | none=>rw[e1]at h1;cases h1
  | some u =>
   cases e2:(gR B n)[i]? with
   | none=>rw[e2]at h2;cases h2
   | some y =>
    rw[e1]at h1;rw[e2]at h2;obtain rfl:=Option.some.inj h1;obtain rfl:=Option.some.inj h2;rw[jQ,hX.2 i u y e1 e2])
 exact Gx.le (An5 (sM hn))
def rX (l:List Rat):Option (Nat × List (List AV)):=if l=[] then none else some (3,l.map eQ)
theorem Ae0:rX []=none:=if_pos rfl
theorem sG {l:List Rat} (h:0<l.length):rX l=some (3,l.map eQ):=if_neg (λ e=>by rw[e]at h;cases h)
theorem Ak0 {s t:Rat} (hs:s≠0) (ht:t≠0) (r c:List Rat):AZ (r.map (· * s)) (c.map (· * t))/(s*t)=AZ r c:=by
 rw[cT,FU,cT,FU];have h1:=Rat.mul_inv_cancel s hs;have h2:=Rat.mul_inv_cancel t ht;rw[Rat.div_def,Rat.inv_mul_rev];grind
theorem Aqt (N:u5 L) (q1 q2 q3 q4:Bool) (b:List (List Rat)) (a:List (List Rat)) (n WW k:Nat) {K:Nat} (dh:a.length=n) (gb : ∀ r∈a,r.length=WW) (hn:1<=n/\n<=52) (hW:WW<=104) (ij:Ms k a) (nw : ∀ r∈a,∀ j,Bt K (BF (r.take j))) (Fe:k<=K) (Ho:K<=1000000000000) {kk:List It} {Q:Tm->Mem->Prop}
  (fk:AA L kk ([(5,.row 231019 0 3 0 n),(4,.row 231016 0 1 0 n)]++[(1000+33,.sl q1 (CZ q2 a)),(1000+31,.bool false),(1000+0,.sl q1 (CZ q2 a)),(1000+(0+1),.sl q3 (CZ q4 b))]) ([(231016,231016,.mx (B7 3 eQ (whole a))),(231019,231019,.rw 3 ((a.map BF).map eQ))]++[]) Q) :
  AA L (.lp HN.l1 :: .m5 0::kk) ([(22,.int .i64 0),(21,.int .i64 n),(20,.sl q1 (CZ q2 a)),(5,.row 231019 0 3 0 n),(4,.row 231016 0 1 0 n)]++[(1000+33,.sl q1 (CZ q2 a)),(1000+31,.bool false),(1000+0,.sl q1 (CZ q2 a)),(1000+(0+1),.sl q3 (CZ q4 b))]) ([(231016,231016,.mx (List.replicate n none)),(231019,231019,.rw 3 ((List.replicate n none).map eO))]++[]) Q:=by
 have hI:=HL N.toa5 1 (by omega);refine lD (l:=[_,_]) rfl ?_;refine B6 (λ i=>n-i) (λ(i:Nat)=>i<=n) (λ i=>[(22,.int .i64 i)]) (λ i=>[(231016,231016,.mx (mz (whole a) n i)),(231019,231019,.rw 3 ((DH ((a.map BF).take i) n).map eO))]) [] [] 0 (by first|exact (by (conv=>whnf);exact ⟨rfl,rfl,rfl⟩)|(rw[<-kN (whole a),List.take_zero,<-OQ];exact (by (conv=>whnf);exact ⟨rfl,rfl,rfl⟩))) (by omega) ?_;intro i p1 ih;have Kj:=kK (Q:=whole a) p1;by_cases hi:i<n
 ·obtain ⟨r,hr⟩ : ∃ r,a[i]? = some r:=⟨_,zE (by omega)⟩
  have ov:a[(i:Int).toNat]? = some r:=hr;have gm:=gb r (zM hr);have mo:=ij.at hr;have o9:=kL (Q:=whole a) (i:=i) (n:=n) (row:=r.map (· * BF r)) (by simp [whole,hr]) hi;have zn:(a.map BF)[i]? = some (BF r):=by simp [hr]
  generalize mz (whole a) n i=R0 at *;have Dg : ∀ j,Bt K (BF (r.take j)):=nw r (zM hr);have rf:=Dg WW;rw[List.take_of_length_le (by omega)]at rf;(repeat' ((first|(apply AG<;>intro hc<;>try (exfalso;omega))|apply AU|(refine BH (by assumption) ?_ rfl ?_;omega)|apply AE|refine AD (hI) ?_)<;>conv=>whnf))
  try cases hr.symm.trans hv
  refine G8 (λ j _=>WW-j) (λ(j:Nat) (s:Rat)=>j<=WW/\s=BF (r.take j)) (λ j _=>[(30,.int .i64 j)]) (λ_ s=>[(231008,231008,.bx (eQ s))]) [] [] 0 ((1:Int):Rat) (by (conv=>whnf);exact ⟨rfl,rfl,rfl⟩) ⟨by omega,by rw[List.take_zero];rfl⟩ ?_;intro j s ⟨p2,p3⟩ jh;by_cases hj:j<WW
  ·obtain ⟨x,hx⟩ : ∃ x,r[j]? = some x:=⟨_,zE (by omega)⟩
   have nq:r[(j:Int).toNat]? = some x:=hx;have wz:Bt K s:=by rw[p3];exact Dg j
   have bx:=mo.at hx;have fj:=FV N.toa5 wz bx (by omega) (by omega);have jd:=wS N.toa5 true wz (wz.mul bx).2 (by omega) (by omega);have zj:BF (r.take (j+1))=s*(((s*x).den:Nat):Rat):=by rw[SZ hx,sZ,<-p3];rfl
   (repeat' ((first|(apply AG<;>intro hc<;>try (exfalso;omega))|(apply AX;omega)|(refine BH (by assumption) ?_ rfl ?_;omega)|refine H6 rfl ?_|apply AE|refine AD (fj) ?_|refine AD (jd) ?_)<;>conv=>whnf))
   exact B3 [] (by (conv=>whnf);exact ⟨rfl,rfl,rfl⟩) (jh (j+1) _ (by omega) ⟨by omega,zj.symm⟩)
  have ej:j=WW:=by omega
  clear jh;rw[List.take_of_length_le (by omega)]at p3;subst p3;(repeat' ((first|(apply AG<;>intro hc<;>try (exfalso;omega))|apply AU|apply AE)<;>conv=>whnf))
  rw[gm];refine EK (enc:=eO) none WW rfl (by omega) (by omega) ?_;(conv=>whnf)
  (repeat' ((first|(apply A0;omega)|fail)<;>conv=>whnf))
  refine A0 (by simp) ?_;refine dX (i:=i) (by omega) (by omega) ?_;(conv=>whnf)
  (repeat' (apply AU<;>conv=>whnf))
  refine B6 (λ j=>WW-j) (λ(j:Nat)=>j<=WW) (λ j=>[(53,.int .i64 j)]) (λ j=>[(231016,231016,.mx (R0.set i (some (3,(DH ((r.map (· * BF r)).take j) WW).map eO))))]) [] [] 0 (by first|exact (by (conv=>whnf);exact ⟨rfl,rfl,rfl⟩)|(rw[List.take_zero,<-OQ];exact (by (conv=>whnf);exact ⟨rfl,rfl,rfl⟩))) (by omega) ?_;intro j r2 jh;have Cc:((r.map (· * BF r)).take j).length=j:=by rw[List.length_take,List.length_map];omega
  have Db:=J3 (l:=(r.map (· * BF r)).take j) (m:=WW) (by omega);by_cases hj:j<WW
  ·obtain ⟨x,hx⟩ : ∃ x,r[j]? = some x:=⟨_,zE (by omega)⟩
   have nq:r[(j:Int).toNat]? = some x:=hx;have bx:=mo.at hx;have fj:=FV N.toa5 bx rf (by omega) (by omega);have hs:=OR (l:=(r.map (· * BF r)).take j) (m:=WW) (x:=x*BF r) (by omega);rw[Cc,<-SZ (show (r.map (· * BF r))[j]? = some (x*BF r) by rw[List.getElem?_map,hx];rfl)]at hs;generalize DH ((r.map (· * BF r)).take j) WW=W0 at *;(repeat' ((first|(apply AG<;>intro hc<;>try (exfalso;omega))|(apply A0;omega)|(refine BH (by assumption) ?_ rfl ?_;omega)|apply AE)<;>conv=>whnf))
   refine dS (by omega) (by omega) ?_;(conv=>whnf)
   (repeat' (refine AD (fj) ?_<;>conv=>whnf))
   refine A0 (by rw[List.length_map];omega) ?_;(conv=>whnf)
   skip
   refine cJ (by omega) (by omega) ?_;(conv=>whnf)
   refine FP (enc:=eO) (some (x*BF r)) rfl (λ e=>by cases e<;>rfl) (by omega) ?_;(conv=>whnf)
   rw[hs];refine jD (by omega) (by rw[List.length_map,List.length_map,<-hs,List.length_set]) ?_;(conv=>whnf)
   (repeat' ((first|(apply AX;omega)|fail)<;>conv=>whnf))
   exact BL [] (jh (j+1) (by omega) (by omega))
  have ej:j=WW:=by omega
  clear jh;rw[List.take_of_length_le (by rw[List.length_map];omega),OO (by rw[List.length_map];exact gm),o9];have td:((a.map BF).take i).length=i:=by rw[List.length_take,List.length_map];omega
  have hfi:=J3 (l:=(a.map BF).take i) (m:=n) (by omega);have il:=OR (l:=(a.map BF).take i) (m:=n) (x:=BF r) (by omega);rw[td,<-SZ zn]at il;generalize DH ((a.map BF).take i) n=W1 at *;(repeat' ((first|(apply AG<;>intro hc<;>try (exfalso;omega))|(apply A0;omega)|apply AE)<;>conv=>whnf))
  refine FP (enc:=eO) (some (BF r)) rfl (λ e=>by cases e<;>rfl) (by omega) ?_;(conv=>whnf)
  rw[il];(repeat' ((first|(apply AX;omega)|fail)<;>conv=>whnf))
  exact BL [] (ih (i+1) (by omega) (by omega))
 have ei:i=n:=by omega
 clear ih;rw[ei,kJ (by simp [whole,dh]),List.take_of_length_le (by rw[List.length_map];omega),OO (by rw[List.length_map];exact dh)];(repeat' ((first|(apply AG<;>intro hc<;>try (exfalso;omega))|apply AE)<;>conv=>whnf))
 exact B3 [] (by (conv=>whnf);exact ⟨rfl,rfl,rfl⟩) fk
theorem Aqu (N:u5 L) (q1 q2 q3 q4:Bool) (a0 b:List (List Rat)) (ss:List Rat) (p:Nat) (a:List (List Rat)) (n WW k:Nat) {K:Nat} (dh:a.length=n) (gb : ∀ r∈a,r.length=WW) (hn:1<=n/\n<=52) (hW:WW<=104) (ij:Ms k a) (nw : ∀ r∈a,∀ j,Bt K (BF (r.take j))) (Fe:k<=K) (Ho:K<=1000000000000) {kk:List It} {Q:Tm->Mem->Prop}
  (fk:AA L kk ([(5,.row 1231019 0 3 0 n),(4,.row 1231016 0 1 0 n)]++[(1000+39,.sl false (eM a)),(1000+38,.sl q3 (CZ q4 b)),(1000+7,.row 231019 0 3 0 p),(1000+6,.row 231016 0 1 0 p),(1000+(0+1),.sl q3 (CZ q4 b))]) ([(1231016,231016,.mx (B7 3 eQ (whole a))),(1231019,231019,.rw 3 ((a.map BF).map eQ))]++[(231016,231016,.mx (B7 3 eQ a0)),(231019,231019,.rw 3 (ss.map eQ))]) Q) :
  AA L (.lp HN.l1 :: .m5 0::kk) ([(22,.int .i64 0),(21,.int .i64 n),(20,.sl false (eM a)),(5,.row 1231019 0 3 0 n),(4,.row 1231016 0 1 0 n)]++[(1000+39,.sl false (eM a)),(1000+38,.sl q3 (CZ q4 b)),(1000+7,.row 231019 0 3 0 p),(1000+6,.row 231016 0 1 0 p),(1000+(0+1),.sl q3 (CZ q4 b))]) ([(1231016,231016,.mx (List.replicate n none)),(1231019,231019,.rw 3 ((List.replicate n none).map eO))]++[(231016,231016,.mx (B7 3 eQ a0)),(231019,231019,.rw 3 (ss.map eQ))]) Q:=by
 have hI:=HL N.toa5 1 (by omega);refine lD (l:=[_,_]) rfl ?_;refine B6 (λ i=>n-i) (λ(i:Nat)=>i<=n) (λ i=>[(22,.int .i64 i)]) (λ i=>[(1231016,231016,.mx (mz (whole a) n i)),(1231019,231019,.rw 3 ((DH ((a.map BF).take i) n).map eO))]) [] [] 0 (by first|exact (by (conv=>whnf);exact ⟨rfl,rfl,rfl⟩)|(rw[<-kN (whole a),List.take_zero,<-OQ];exact (by (conv=>whnf);exact ⟨rfl,rfl,rfl⟩))) (by omega) ?_;intro i p1 ih;have Kj:=kK (Q:=whole a) p1;by_cases hi:i<n
 ·obtain ⟨r,hr⟩ : ∃ r,a[i]? = some r:=⟨_,zE (by omega)⟩
  have ov:a[(i:Int).toNat]? = some r:=hr;have gm:=gb r (zM hr);have mo:=ij.at hr;have o9:=kL (Q:=whole a) (i:=i) (n:=n) (row:=r.map (· * BF r)) (by simp [whole,hr]) hi;have zn:(a.map BF)[i]? = some (BF r):=by simp [hr]
  generalize mz (whole a) n i=R0 at *;have Dg : ∀ j,Bt K (BF (r.take j)):=nw r (zM hr);have rf:=Dg WW;rw[List.take_of_length_le (by omega)]at rf;(repeat' ((first|(apply AG<;>intro hc<;>try (exfalso;omega))|apply AU|(refine BH (by assumption) ?_ rfl ?_;omega)|apply AE|refine AD (hI) ?_)<;>conv=>whnf))
  try cases hr.symm.trans hv
  refine G8 (λ j _=>WW-j) (λ(j:Nat) (s:Rat)=>j<=WW/\s=BF (r.take j)) (λ j _=>[(30,.int .i64 j)]) (λ_ s=>[(231008,231008,.bx (eQ s))]) [] [] 0 ((1:Int):Rat) (by (conv=>whnf);exact ⟨rfl,rfl,rfl⟩) ⟨by omega,by rw[List.take_zero];rfl⟩ ?_;intro j s ⟨p2,p3⟩ jh;by_cases hj:j<WW
  ·obtain ⟨x,hx⟩ : ∃ x,r[j]? = some x:=⟨_,zE (by omega)⟩
   have nq:r[(j:Int).toNat]? = some x:=hx;have wz:Bt K s:=by rw[p3];exact Dg j
   have bx:=mo.at hx;have fj:=FV N.toa5 wz bx (by omega) (by omega);have jd:=wS N.toa5 true wz (wz.mul bx).2 (by omega) (by omega);have zj:BF (r.take (j+1))=s*(((s*x).den:Nat):Rat):=by rw[SZ hx,sZ,<-p3];rfl
   (repeat' ((first|(apply AG<;>intro hc<;>try (exfalso;omega))|(apply AX;omega)|(refine BH (by assumption) ?_ rfl ?_;omega)|refine H6 rfl ?_|apply AE|refine AD (fj) ?_|refine AD (jd) ?_)<;>conv=>whnf))
   exact B3 [] (by (conv=>whnf);exact ⟨rfl,rfl,rfl⟩) (jh (j+1) _ (by omega) ⟨by omega,zj.symm⟩)
  have ej:j=WW:=by omega
  clear jh;rw[List.take_of_length_le (by omega)]at p3;subst p3;(repeat' ((first|(apply AG<;>intro hc<;>try (exfalso;omega))|apply AU|apply AE)<;>conv=>whnf))
  rw[gm];refine EK (enc:=eO) none WW rfl (by omega) (by omega) ?_;(conv=>whnf)
  (repeat' ((first|(apply A0;omega)|fail)<;>conv=>whnf))
  refine A0 (by simp) ?_;refine dX (i:=i) (by omega) (by omega) ?_;(conv=>whnf)
  (repeat' (apply AU<;>conv=>whnf))
  refine B6 (λ j=>WW-j) (λ(j:Nat)=>j<=WW) (λ j=>[(53,.int .i64 j)]) (λ j=>[(1231016,231016,.mx (R0.set i (some (3,(DH ((r.map (· * BF r)).take j) WW).map eO))))]) [] [] 0 (by first|exact (by (conv=>whnf);exact ⟨rfl,rfl,rfl⟩)|(rw[List.take_zero,<-OQ];exact (by (conv=>whnf);exact ⟨rfl,rfl,rfl⟩))) (by omega) ?_;intro j r2 jh;have Cc:((r.map (· * BF r)).take j).length=j:=by rw[List.length_take,List.length_map];omega
  have Db:=J3 (l:=(r.map (· * BF r)).take j) (m:=WW) (by omega);by_cases hj:j<WW
  ·obtain ⟨x,hx⟩ : ∃ x,r[j]? = some x:=⟨_,zE (by omega)⟩
   have nq:r[(j:Int).toNat]? = some x:=hx;have bx:=mo.at hx;have fj:=FV N.toa5 bx rf (by omega) (by omega);have hs:=OR (l:=(r.map (· * BF r)).take j) (m:=WW) (x:=x*BF r) (by omega);rw[Cc,<-SZ (show (r.map (· * BF r))[j]? = some (x*BF r) by rw[List.getElem?_map,hx];rfl)]at hs;generalize DH ((r.map (· * BF r)).take j) WW=W0 at *;(repeat' ((first|(apply AG<;>intro hc<;>try (exfalso;omega))|(apply A0;omega)|(refine BH (by assumption) ?_ rfl ?_;omega)|apply AE)<;>conv=>whnf))
   refine dS (by omega) (by omega) ?_;(conv=>whnf)
   (repeat' (refine AD (fj) ?_<;>conv=>whnf))
   refine A0 (by rw[List.length_map];omega) ?_;(conv=>whnf)
   skip
   refine cJ (by omega) (by omega) ?_;(conv=>whnf)
   refine FP (enc:=eO) (some (x*BF r)) rfl (λ e=>by cases e<;>rfl) (by omega) ?_;(conv=>whnf)
   rw[hs];refine jD (by omega) (by rw[List.length_map,List.length_map,<-hs,List.length_set]) ?_;(conv=>whnf)
   (repeat' ((first|(apply AX;omega)|fail)<;>conv=>whnf))
   exact BL [] (jh (j+1) (by omega) (by omega))
  have ej:j=WW:=by omega
  clear jh;rw[List.take_of_length_le (by rw[List.length_map];omega),OO (by rw[List.length_map];exact gm),o9];have td:((a.map BF).take i).length=i:=by rw[List.length_take,List.length_map];omega
  have hfi:=J3 (l:=(a.map BF).take i) (m:=n) (by omega);have il:=OR (l:=(a.map BF).take i) (m:=n) (x:=BF r) (by omega);rw[td,<-SZ zn]at il;generalize DH ((a.map BF).take i) n=W1 at *;(repeat' ((first|(apply AG<;>intro hc<;>try (exfalso;omega))|(apply A0;omega)|apply AE)<;>conv=>whnf))
  refine FP (enc:=eO) (some (BF r)) rfl (λ e=>by cases e<;>rfl) (by omega) ?_;(conv=>whnf)
  rw[il];(repeat' ((first|(apply AX;omega)|fail)<;>conv=>whnf))
  exact BL [] (ih (i+1) (by omega) (by omega))
 have ei:i=n:=by omega
 clear ih;rw[ei,kJ (by simp [whole,dh]),List.take_of_length_le (by rw[List.length_map];omega),OO (by rw[List.length_map];exact dh)];(repeat' ((first|(apply AG<;>intro hc<;>try (exfalso;omega))|apply AE)<;>conv=>whnf))
 exact B3 [] (by (conv=>whnf);exact ⟨rfl,rfl,rfl⟩) fk
theorem qZ (N:fi L) (q1 q2 q3 q4:Bool) (a b:List (List Rat)) (p n w k l:Nat) (dh:a.length=p) (gb : ∀ r∈a,r.length=n) (jk:b.length=n) (qo : ∀ r∈b,r.length=w) (hp:1<=p/\p<=52) (hn:1<=n/\n<=52) (hw:1<=w/\w<=52) (hk:1<=k) (hl:1<=l) (ij:Ms k a) (fw:Ms l b) (hB:n*(3^n*k+3^n*l+1)+3^n*k+3^n*l<=1000000000000) :
  Ev L 248 [.sl q1 (CZ q2 a),.sl q3 (CZ q4 b)] (.m9 [.sl false (eM (C1 a b w)),.int .i64 0]):=by
 have hVa:=rB N.tou5 q1 q2 a p n dh gb hp hn;have hVb:=rB N.tou5 q3 q4 b n w jk qo hn hw;have hO:=HL N.toa5 0 (by omega);have hT:=AlR N q3 q4 b n w l jk qo hn hw fw (by
  have:l<=3^n*l:=Nat.le_mul_of_pos_left l (Nat.pow_pos (by omega))
  omega)
 obtain ⟨r0,du⟩ : ∃ r,a[0]? = some r:=⟨_,zE (by omega)⟩;have Bw:a[(0:Int).toNat]? = some r0:=du;have ns:=gb r0 (zM du);refine Ev.x N.X6 rfl rfl ?_;(repeat' ((first|(apply AG<;>intro hc<;>try (exfalso;omega))|apply AU|(refine BH (by assumption) ?_ rfl ?_;omega)|apply AE|refine AD (hVa) ?_|refine AD (hVb) ?_)<;>conv=>whnf))
 refine FY 1000 N.HN rfl rfl ?_;(repeat' ((first|apply AU|apply AE)<;>conv=>whnf))
 unfold CN;refine ⟨⟨by omega,by omega,by simp only[DX];omega,by omega⟩,?_⟩;rw[Int.toNat_natCast];(conv=>whnf)
 (repeat' (apply AU<;>conv=>whnf))
 rw[dh];refine EK (enc:=eO) none p rfl (by omega) (by omega) ?_;(conv=>whnf)
 (repeat' (apply AU<;>conv=>whnf))
 rw[dh];refine B3 [] (by (conv=>whnf);exact ⟨rfl,rfl,rfl⟩) (Aqt N.tou5 q1 q2 q3 q4 b a p n k dh gb hp (by omega) ij (Ml hk gb ij) (Nq k n) (by omega) ?_);(repeat' (apply AE<;>conv=>whnf))
 refine ⟨rfl,_,rfl,?_⟩;(conv=>whnf)
 (repeat' (refine AD (hT) ?_<;>conv=>whnf))
 have fm:=Agq b w;have Gz:=Aqw (w:=w) jk;have Dk:Ms l (S4 b w):=λ r hr=>by
  obtain ⟨j,hj,rfl⟩:=List.mem_map.1 hr;intro x hx;obtain ⟨s,hs,rfl⟩:=List.mem_map.1 hx;obtain ⟨e,Bn⟩:=List.getElem?_of_mem hs;exact (fw.at Bn).at (eK (by rw[qo s hs];exact List.mem_range.1 hj))
 have AGa : ∀ j,j<w->(S4 b w)[j]? = some (CO b j):=λ j hj=>Agp hj
 have hQ:C1 a b w=a.map λ r=>(S4 b w).map λ c=>AZ r c:=by
  refine List.map_congr_left λ r _ => ?_
  rw[EU,S4,List.map_map];rfl
 rw[hQ];have z7 : ∀ j,(CO b j).length=n:=λ j=>by rw[qH];exact jk
 generalize S4 b w=T at *;clear hQ hT hVa hVb fw qo jk;refine FY 1000 N.HN rfl rfl ?_;(repeat' ((first|apply AU|apply AE)<;>conv=>whnf))
 unfold CN;refine ⟨⟨by omega,by omega,by simp only[DX];omega,by omega⟩,?_⟩;rw[Int.toNat_natCast];(conv=>whnf)
 (repeat' (apply AU<;>conv=>whnf))
 rw[fm];refine EK (enc:=eO) none w rfl (by omega) (by omega) ?_;(conv=>whnf)
 (repeat' (apply AU<;>conv=>whnf))
 rw[fm];refine B3 [] (by (conv=>whnf);exact ⟨rfl,rfl,rfl⟩) (Aqu N.tou5 q1 q2 q3 q4 (whole a) b (a.map BF) p T w n l fm Gz hw (by omega) Dk (Ml hl Gz Dk) (Nq l n) (by omega) ?_);(repeat' (apply AE<;>conv=>whnf))
 refine ⟨rfl,_,rfl,?_⟩;(conv=>whnf)
 skip
 have hbA:=Mk hk gb ij;have hbT:=Mk hl Gz Dk;have hwA:=Mj gb;have hwT:=Mj Gz;have Fs:(whole a).length=p:=by rw[whole,List.length_map];exact dh
 have AGm:(whole T).length=w:=by rw[whole,List.length_map];exact fm
 have hkA : ∀ r∈a,Bt (3^n*k) (BF r):=λ r hr=>(sY hk (ij r hr)).le (by rw[gb r hr];omega)
 have hkT : ∀ r∈T,Bt (3^n*l) (BF r):=λ r hr=>(sY hl (Dk r hr)).le (by rw[Gz r hr];omega)
 have Qp : ∀ (i:Nat) (r:List Rat),a[i]? = some r->(whole a)[i]? = some (r.map (· * BF r)):=λ i r hr=>by rw[whole,List.getElem?_map,hr];rfl
 have Qr : ∀ (i:Nat) (r:List Rat),T[i]? = some r->(whole T)[i]? = some (r.map (· * BF r)):=λ i r hr=>by rw[whole,List.getElem?_map,hr];rfl
 have Sy : ∀ (i:Nat) (r:List Rat),a[i]? = some r->(a.map BF)[i]? = some (BF r):=λ i r hr=>by rw[List.getElem?_map,hr];rfl
 have Sz : ∀ (i:Nat) (r:List Rat),T[i]? = some r->(T.map BF)[i]? = some (BF r):=λ i r hr=>by rw[List.getElem?_map,hr];rfl
 have Qq : ∀ (i:Nat) (r:List Rat),a[i]? = some r->(a.map λ r=>T.map λ c=>AZ r c)[i]? = some (T.map λ c=>AZ r c):=λ i r hr=>by rw[List.getElem?_map,hr];rfl
 have wm:(a.map λ r=>T.map λ c=>AZ r c).length=p:=by rw[List.length_map];exact dh
 have AF5:(a.map BF).length=p:=by rw[List.length_map];exact dh
 have AF8:(T.map BF).length=w:=by rw[List.length_map];exact fm
 generalize whole a=A at *;generalize whole T=B at *;generalize a.map BF=sa at *;generalize T.map BF=st at *;generalize (a.map λ r=>T.map λ c=>AZ r c)=R at *;generalize 3^n*k=KA at *;generalize 3^n*l=KT at *;unfold CN;refine ⟨⟨by omega,by omega,by simp only[DX];omega,by omega⟩,?_⟩;rw[Int.toNat_natCast];(conv=>whnf)
 skip
 refine B6 (λ i=>p-i) (λ(i:Nat)=>i<=p) (λ i=>[(48,.int .i64 i)]) (λ i=>[(45,45,.mx (mz R p i))]) [] [] 0 (by first|exact (by (conv=>whnf);exact ⟨rfl,rfl,rfl⟩)|(rw[<-kN R];exact (by (conv=>whnf);exact ⟨rfl,rfl,rfl⟩))) (by omega) ?_;intro i p1 ih;have Kj:=kK (Q:=R) p1;by_cases hi:i<p
 ·obtain ⟨rr,du⟩ : ∃ r,a[i]? = some r:=⟨_,zE (by omega)⟩
  have gm:=gb rr (zM du);have So:=Qp i rr du;have mo:=hbA.at So;have Gv:=hkA rr (zM du);have Jx:=Sy i rr du;have o9:=kL (Qq i rr du) hi;have nj:=AeP wm hi;have u7:=Oi rr;have Re:=λ(c:List Rat) (s:Rat) (hs:s≠0)=>Ak0 u7 hs rr c
  have lg:(rr.map (· * BF rr)).length=n:=by rw[List.length_map];exact gm
  have Ps : ∀ (j:Nat) (c:List Rat),T[j]? = some c->(T.map λ c=>AZ rr c)[j]? = some (AZ rr c):=λ j c hc=>by rw[List.getElem?_map,hc];rfl
  have hMl:(T.map λ c=>AZ rr c).length=w:=by rw[List.length_map];exact fm
  generalize mz R p i=R0 at *;generalize (T.map λ c=>AZ rr c)=M at *;generalize rr.map (· * BF rr)=u at *;generalize BF rr=su at *;(repeat' ((first|(apply AG<;>intro hc<;>try (exfalso;omega))|(apply A0;omega)|(refine bI ?_ (λ r hr => ?_);omega)|apply AE)<;>conv=>whnf))
  cases So.symm.trans hr;rw[show 0+((i:Nat):Int).toNat=i by omega,show (List.map eQ u).length=n by rw[List.length_map];exact lg];refine B6 (λ j=>w-j) (λ(j:Nat)=>j<=w) (λ j=>[(55,.int .i64 j)]) (λ j=>[(45,45,.mx (R0.set i (rX (M.take j))))]) [] [] 0 (by first|exact (by (conv=>whnf);exact ⟨rfl,rfl,rfl⟩)|(rw[List.take_zero,Ae0,Oj nj];exact (by (conv=>whnf);exact ⟨rfl,rfl,rfl⟩))) (by omega) ?_;intro j p2 jh;have Tl:(M.take j).length=j:=by rw[List.length_take];omega
  by_cases hj:j<w
  ·obtain ⟨c,gx⟩ : ∃ c,T[j]? = some c:=⟨_,zE (by omega)⟩
   have Ie:=Gz c (zM gx);have Qv:=Qr j c gx;have og:=hbT.at Qv;have kr:=hkT c (zM gx);have Te:=Sz j c gx;have Jf:=Oi c;have hdc:=Re c (BF c) Jf;have hts:=tP (Ps j c gx);have ow:(c.map (· * BF c)).length=n:=by rw[List.length_map];exact Ie
   generalize c.map (· * BF c)=v0 at *;generalize BF c=sv at *;generalize AZ rr c=dd at *;have To:(M.take (j+1)).length=j+1:=by rw[List.length_take];omega
   generalize Kv:M.take j=M0 at *;(repeat' ((first|(apply AG<;>intro hc<;>try (exfalso;omega))|(apply A0;omega)|(refine bI ?_ (λ r hr => ?_);omega)|apply AE|refine AD (hO) ?_)<;>conv=>whnf))
   cases Qv.symm.trans hr;rw[show 0+((j:Nat):Int).toNat=j by omega,show (List.map eQ v0).length=n by rw[List.length_map];exact ow];have Ky:=kI (z:=3) So;have hRj:=kI (z:=3) Qv;have kv:KA+KT+1<=n*(KA+KT+1):=Nat.le_mul_of_pos_left _ (by omega);refine B6 (λ t=>n-t) (λ(t:Nat)=>t<=n) (λ t=>[(63,.int .i64 t)]) (λ t=>[(15,15,.bx (eQ (AZ (u.take t) (v0.take t))))]) [] [] 0 (by first|exact (by (conv=>whnf);exact ⟨rfl,rfl,rfl⟩)|(rw[List.take_zero,List.take_zero];exact (by (conv=>whnf);exact ⟨rfl,rfl,rfl⟩))) (by omega) ?_;intro t p3 th;by_cases ht:t<n
   ·obtain ⟨x,hx⟩ : ∃ x,u[t]? = some x:=⟨_,zE (by omega)⟩
    obtain ⟨y,hy⟩ : ∃ x,v0[t]? = some x:=⟨_,zE (by omega)⟩;have Ij:=(mo.take t).dot (og.take t);rw[List.length_take,Nat.min_eq_left (by omega)]at Ij;have htn:t*(KA+KT+1)<=n*(KA+KT+1):=Nat.mul_le_mul_right _ (by omega);have Pu:=FV N.toa5 (mo.at hx) (og.at hy) (by omega) (by omega);have Cp:=cW N.toa5 Ij ((mo.at hx).mul (og.at hy)) (by omega) (by omega);rw[<-qU hx hy]at Cp;generalize AZ (u.take t) (v0.take t)=d0 at *;generalize se:AZ (u.take (t+1)) (v0.take (t+1))=d1 at Cp;generalize x*y=xy at *;(repeat' ((first|(apply AG<;>intro hc<;>try (exfalso;omega))|(apply A0;omega)|apply AE)<;>conv=>whnf))
    refine lJ Ky ?_;(conv=>whnf)
    (repeat' ((first|(apply A0;omega)|(refine O5 ?_ (λ_=>rfl) (λ v hv => ?_);omega))<;>conv=>whnf))
    cases hx.symm.trans hv;skip
    refine lJ hRj ?_;(conv=>whnf)
    (repeat' ((first|(refine O5 ?_ (λ_=>rfl) (λ v hv => ?_);omega)|fail)<;>conv=>whnf))
    cases hy.symm.trans hv;(repeat' ((first|(apply AX;omega)|refine AD (Pu) ?_|refine AD (Cp) ?_)<;>conv=>whnf))
    subst se;exact BL [] (th (t+1) (by omega) (by omega))
   ·have et:t=n:=by omega
    clear th;have Gm:=(mo.dot og);rw[lg]at Gm;rw[et,mJ lg];have Rw:su*sv≠0:=λ e=>by
     rcases Rat.mul_eq_zero.1 e with e|e
     ·exact u7 e
     ·exact Jf e
    have Pu:=FV N.toa5 Gv kr (by omega) (by omega);have Ku:=mN N.toa5 Gm (Gv.mul kr) (by omega) (by omega) Rw;rw[hdc]at Ku;(repeat' ((first|(apply AG<;>intro hc<;>try (exfalso;omega))|(apply A0;omega)|(refine O5 ?_ (λ_=>rfl) (λ v hv => ?_);omega)|apply AE)<;>conv=>whnf))
    rename_i vA hvA;cases Jx.symm.trans hvA;cases Te.symm.trans hv;(repeat' ((first|(apply A0;omega)|refine AD (Pu) ?_|refine AD (Ku) ?_)<;>conv=>whnf))
    by_cases Lp:j=0
    ·subst Lp
     rw[List.take_zero]at Kv;subst Kv;rw[Ae0,Oj nj];refine Xa (r:=none) (by rw[Nat.zero_add,Int.toNat_natCast];exact nj) ?_;(conv=>whnf)
     (repeat' (apply EL<;>conv=>whnf))
     refine lE (enc:=eQ) dd rfl rfl (by omega) ?_;(conv=>whnf)
     (repeat' ((first|(apply A0;omega)|fail)<;>conv=>whnf))
     refine A0 rfl ?_;refine dX (i:=i) (by omega) (by omega) ?_;(conv=>whnf)
     (repeat' ((first|(apply AX;omega)|fail)<;>conv=>whnf))
     have hq:(some (3,[dd].map eQ):Option (Nat × List (List AV)))=rX (M.take (0+1)):=by rw[hts];exact (sG (by simp)).symm
     rw[hq];exact BL [] (jh (0+1) (by omega) (by omega))
    ·rw[sG (by omega)]
     refine dS (by omega) (by omega) ?_;(conv=>whnf)
     (repeat' (apply EL<;>conv=>whnf))
     refine cJ (by omega) (by omega) ?_;(conv=>whnf)
     refine E6 (enc:=eQ) dd rfl (by rw[List.length_map]) rfl (by omega) (by omega) ?_;intro s' v;rw[<-hts,To];(conv=>whnf)
     (repeat' ((first|(apply A0;omega)|fail)<;>conv=>whnf))
     refine A0 ⟨rfl,by rw[List.length_map];omega⟩ ?_;refine dX (i:=i) (by omega) (by rw[List.length_set,List.length_set];omega) ?_;rw[show 0+((i:Int)).toNat=i by omega,List.set_set,List.set_set,<-sG (by omega)];(conv=>whnf)
     (repeat' ((first|(apply AX;omega)|fail)<;>conv=>whnf))
     exact BL [] (jh (j+1) (by omega) (by omega))
  ·have ej:j=w:=by omega
   clear jh;rw[ej,List.take_of_length_le (by omega),sG (by omega),o9];(repeat' ((first|(apply AG<;>intro hc<;>try (exfalso;omega))|(apply AX;omega)|apply AE)<;>conv=>whnf))
   exact BL [] (ih (i+1) (by omega) (by omega))
 ·have ei:i=p:=by omega
  clear ih;rw[ei,kJ wm];(repeat' ((first|(apply AG<;>intro hc<;>try (exfalso;omega))|apply AE)<;>conv=>whnf))
  refine UN (λ_=>rfl) rfl (by omega) ?_;(conv=>whnf)
  exact AY rfl (PM R 0)
theorem AlF (N:ig L) (n1:L.num 289=rL) (q:Bool) (b:List Rat) (n k:Nat) (jk:b.length=n) (hb:Bs k b) (hk:k<2199023255552) (hn:n<=100):Ev L 291 [.sl q (b.map eQ)] (.sl false (eM (b.map λ x=>[x]))):=by
 refine Ev.x N.aS rfl rfl ?_;(repeat' (apply AE<;>conv=>whnf))
 refine FY 1000 N.aW rfl rfl ?_;(repeat' ((first|apply AU|apply AE)<;>conv=>whnf))
 unfold CN;refine ⟨⟨by omega,by omega,by simp only[DX];omega,by omega⟩,?_⟩;rw[Int.toNat_natCast,jk];(conv=>whnf)
 (repeat' (apply AU<;>conv=>whnf))
 refine B6 (λ i=>n-i) (λ(i:Nat)=>i<=n) (λ i=>[(13,.int .i64 i)]) (λ i=>[(290010,290010,.mx (fz none ((b.take i).map GQ) n))]) [] [] 0 (by first|exact (by (conv=>whnf);exact ⟨rfl,rfl,rfl⟩)|(rw[List.take_zero];exact (by (conv=>whnf);exact ⟨rfl,rfl,rfl⟩))) (by omega) ?_;intro i p1 ih;have ik:=gW (z:=(none:Option (Nat × List (List AV)))) (l:=(b.take i).map GQ) (m:=n) (by rw[List.length_map,List.length_take];omega);by_cases hi:i<n
 ·obtain ⟨x,hx⟩ : ∃ x,b[i]? = some x:=⟨_,zE (by omega)⟩
  have nq:b[(i:Int).toNat]? = some x:=hx;have hT:=gS N.toa5 (hb.at hx) hk;have il:=gX (z:=(none:Option (Nat × List (List AV)))) (x:=GQ x) (l:=(b.take i).map GQ) (m:=n) (by rw[List.length_map,List.length_take];omega);rw[List.length_map,List.length_take,Nat.min_eq_left (by omega),show (b.take i).map GQ++[GQ x]=(b.take (i+1)).map GQ by rw[List.take_add_one,hx,List.map_append];rfl]at il;generalize fz (none:Option (Nat × List (List AV))) ((b.take i).map GQ) n=J at *;have Ez:J.set i (some (3,[[AV.bool (decide (x.num<0)),AV.sl false ((dg x.num.natAbs).map AL),AV.sl false ((dg x.den).map AL)]]))=fz none ((b.take (i+1)).map GQ) n:=il;(repeat' ((first|(apply AG<;>intro hc<;>try (exfalso;omega))|(apply A0;omega)|(refine BH (by assumption) ?_ rfl ?_;omega)|apply AE)<;>conv=>whnf))
  refine FY 1000 N.aT rfl rfl ?_;(repeat' ((first|apply AE|refine AD (hT) ?_)<;>conv=>whnf))
  refine ⟨rfl,_,rfl,?_⟩;(conv=>whnf)
  (repeat' ((first|(apply A0;omega)|fail)<;>conv=>whnf))
  unfold AM CF;refine ⟨by simp,by omega,?_⟩;(conv=>whnf)
  rw[show 0+((i:Int)).toNat=i by omega,Ez];(repeat' ((first|(apply AX;omega)|fail)<;>conv=>whnf))
  exact BL [] (ih (i+1) (by omega) (by omega))
 have ei:i=n:=by omega
 clear ih ik;rw[ei,List.take_of_length_le (by omega),gV (by rw[List.length_map];exact jk),show b.map GQ=B7 3 eQ (b.map λ x=>[x]) by rw[B7,List.map_map];rfl];(repeat' ((first|(apply AG<;>intro hc<;>try (exfalso;omega))|apply AE)<;>conv=>whnf))
 refine ⟨rfl,_,rfl,?_⟩;(conv=>whnf)
 (repeat' ((refine UN (λ_=>rfl) rfl ?_ ?_;(first|rfl|simp))<;>conv=>whnf))
 ·exact jk.symm
 (conv=>whnf)
 exact AY rfl (vH _)
theorem AlH (N:ig L) (q:Bool) (x:Rat):Ev L 287 [.sl q [eQ x]] (.agg (eQ x)):=by
 have xj:[x][(0:Int).toNat]? = some x:=rfl;suffices h:Ev L 287 [.sl q ([x].map eQ)] (.agg (eQ x)) from h
 refine Ev.x N.aQ rfl rfl ?_;(repeat' ((first|(refine BH (by assumption) ?_ rfl ?_;omega)|apply AE)<;>conv=>whnf))
 exact AY rfl (EE _)
theorem AiZ {n:Nat} (h1:1<=n) (hn:n<=3):6^n*(3^(n+n)*4)<=1000000000000/\EO (6^n*(3^(n+n)*4)) n n<=1000000000000/\EO (6^n*(3^(n+n)*4)) n n+6^n*(3^(n+n)*4)<=1000000000:=by
 obtain rfl|rfl|rfl:n=1\/n=2\/n=3:=by omega
 all_goals decide
theorem rN {n k l w:Nat} (h1:1<=n) (hn:n<=3) (hk:k<=100) (hl:l<=100) (hw:w=n):w*(3^n*k+3^n*l+1)+3^n*k+3^n*l<=1000000000000:=by
 subst hw;obtain rfl|rfl|rfl:w=1\/w=2\/w=3:=by omega
 all_goals omega
theorem AoD (T:List (List Rat)) (b:List Rat) (n:Nat) (hT : ∀ r∈T,r.length=n) (hb:b.length=n):C1 T (b.map λ x=>[x]) 1=(BX T b).map λ x=>[x]:=by
 rw[C1,BX,List.map_map];refine List.map_congr_left λ r _ => ?_
 show [AZ r (CO (b.map λ x=>[x]) 0)]=[AZ r b];rw[CO,List.map_map];have:b.map ((λ r:List Rat=>r.getD 0 0) ∘ λ x=>[x])=b:=by
  conv=>rhs;rw[<-List.map_id b]
  exact List.map_congr_left λ x _=>rfl
 rw[this]
theorem Alz (N:ig L) (n1:L.num 289=rL) (n2:L.num 287=yU) (S:E7) (T:List (List Rat)) (n:Nat) {k:Nat} (hk:1<=k/\k<=10) (hS:S.Ok n k) (hT:Sq n T) (Hy:Ms 4 T) (hn:n<=3) :
  ∃ v,Ev L 292 [.agg (eS S),.sl false (eM T)] v/\((¬ NS n T/\v = .m9 [.agg [.sl false [],.sl false [],.sl false [],.bool false,.sl false [],.sl false []],.int .i64 11])\/(NS n T /\ ∃ U:List (List Rat),Sq n U/\(∀ v:List Rat,v.length=n->BX U (BX T v)=v)/\(∀ v:List Rat,v.length=n->BX T (BX U v)=v)/\v = .m9 [.agg (eS (D7 T U S n)),.int .i64 0])):=by
 have Ec:=AmC N.tomi S n k hS (by omega);have hla:=hS.la;have fm:=hT.l;have Gf:=gS N.toa5 hS.bd (by omega);have Cr : ∀ i,i<n -> ∃ r,T[i]? = some r/\r.length=n:=λ i hi=>by
  obtain ⟨r,hr⟩ : ∃ r,T[i]? = some r:=⟨_,zE (by omega)⟩;exact ⟨r,hr,hT.r r (zM hr)⟩
 refine Ev.xE N.aP rfl rfl ?_;(repeat' ((first|(apply AG<;>intro hc<;>try (exfalso;omega))|apply AU|apply AE|refine AD (Ec) ?_)<;>conv=>whnf))
 refine B6 (λ i=>n-i) (λ(i:Nat)=>i<=n) (λ i=>[(34,.int .i64 i)]) (λ_=>[]) [] [] 0 (by (conv=>whnf);exact ⟨rfl,rfl,rfl⟩) (by omega) ?_;intro i i1 ih;by_cases hi:i<n
 ·obtain ⟨r,hr,gm⟩:=Cr i hi
  have ov:T[(i:Int).toNat]? = some r:=hr;(repeat' ((first|(apply AG<;>intro hc<;>try (exfalso;omega))|(apply AX;omega)|apply AU|(refine BH (by assumption) ?_ rfl ?_;omega)|apply AE)<;>conv=>whnf))
  exact BL [] (ih (i+1) (by omega) (by omega))
 have ei:i=n:=by omega
 clear ih i1 hi;by_cases h0:n=0
 ·(repeat' ((first|(apply AG<;>intro hc<;>try (exfalso;omega))|apply AE|refine AD (Gf) ?_)<;>conv=>whnf))
  have eS0:eS S=[.sl false [],.sl false [],.sl false []]++eQ S.d:=by
   have e1:S.a=[]:=List.length_eq_zero_iff.1 (by omega);have e2:S.b=[]:=List.length_eq_zero_iff.1 (by rw[hS.lb];omega);have e3:S.c=[]:=List.length_eq_zero_iff.1 (by rw[hS.lc];omega);rw[eS,e1,e2,e3];rfl
  have z7:=vG S 0;have Cr:T=[]:=List.length_eq_zero_iff.1 (by omega);have Ta:D7 T [] S n=S:=by
   have e1:S.a=[]:=List.length_eq_zero_iff.1 (by omega);have e2:S.b=[]:=List.length_eq_zero_iff.1 (by rw[hS.lb];omega);have e3:S.c=[]:=List.length_eq_zero_iff.1 (by rw[hS.lc];omega);rw[D7,Cr];show (⟨[],[],[],S.d⟩:E7)=S;cases S;simp only at e1 e2 e3;rw[e1,e2,e3]
  refine ⟨.m9 [.agg (eS S),.int .i64 0],?_,Or.inr ⟨λ X hX _ j=>by rw[List.length_eq_zero_iff.1 (hX.trans h0)];rfl,[],⟨by rw[h0];rfl,λ r hr=>by cases hr⟩,λ v hv=>by rw[List.length_eq_zero_iff.1 (hv.trans h0)];rfl,λ v hv=>by rw[List.length_eq_zero_iff.1 (hv.trans h0),Cr];rfl,by rw[Ta]⟩⟩;rw[eS0]at z7 ⊢;exact AY rfl z7
 ·obtain ⟨c1,c2,c3⟩:=AiZ (n:=n) (by omega) hn
  obtain ⟨v,hI,Tz⟩:=Alt N.tou5 false false T n 4 hT.l hT.r (by omega) (by omega) Hy c1 c2 c3;rcases Tz with ⟨fr,rfl⟩|⟨fr,U,rfl,Ah,Lf,_,Qf,Qg⟩
  ·(repeat' ((first|(apply AG<;>intro hc<;>try (exfalso;omega))|apply AE|refine AD (hI) ?_)<;>conv=>whnf))
   exact ⟨.m9 [.agg [.sl false [],.sl false [],.sl false [],.bool false,.sl false [],.sl false []],.int .i64 11],AY rfl (by simp [A6,CW,F2]),Or.inl ⟨fr,rfl⟩⟩
  ·have Ld:Sq n U:=⟨Ah,Lf⟩
   have gv : ∀ v:List Rat,v.length=n->BX U (BX T v)=v:=λ v hv=>by rw[<-kH _ _ _ hT.r,Qg,nI hv]
   have La : ∀ v:List Rat,v.length=n->BX T (BX U v)=v:=λ v hv=>by rw[<-kH _ _ _ Lf,Qf,nI hv]
   have Gi:=Aed hn hT Ld Hy gv;obtain ⟨hOk,fj⟩:=AfM hk.2 hS hT Ld Hy Gi hn;have Hw:=λ q1 q2 q3 q4=>qZ N.tofi q1 q2 q3 q4 T S.a n n n 4 k hT.l hT.r hS.la hS.lr (by omega) (by omega) (by omega) (by omega) (by omega) Hy hS.ba (rN (k:=4) (l:=k) (by omega) hn (by omega) (by omega) rfl)
   have Ge:=λ q1 q2 q3 q4=>qZ N.tofi q1 q2 q3 q4 (C1 T S.a n) U n n n 45 82 (Sq.mul hT.l S.a).l (Sq.mul hT.l S.a).r Ah Lf (by omega) (by omega) (by omega) (by omega) (by omega) fj Gi (rN (by omega) hn (by omega) (by omega) rfl)
   have hCo:=AlF N n1 false S.b n k hS.lb hS.bb (by omega) (by omega);have hbm:Ms k (S.b.map λ x=>[x]):=λ r hr=>by
    obtain ⟨x,hx,rfl⟩:=List.mem_map.1 hr;intro z hz;obtain rfl:=List.mem_singleton.1 hz;exact hS.bb z hx
   have Hx:=λ q1 q2 q3 q4=>qZ N.tofi q1 q2 q3 q4 T (S.b.map λ x=>[x]) n n 1 4 k hT.l hT.r (by rw[List.length_map];exact hS.lb) (λ r hr=>by obtain ⟨x,_,rfl⟩:=List.mem_map.1 hr;rfl) (by omega) (by omega) (by omega) (by omega) (by omega) Hy hbm (rN (k:=4) (l:=k) (by omega) hn (by omega) (by omega) rfl)
   have pf:Ms k [S.c]:=λ r hr=>by
    obtain rfl:=List.mem_singleton.1 hr;exact hS.bc
   have hT4:=λ q1 q2 q3 q4=>qZ N.tofi q1 q2 q3 q4 [S.c] U 1 n n k 82 rfl (λ r hr=>by obtain rfl:=List.mem_singleton.1 hr;exact hS.lc) Ah Lf (by omega) (by omega) (by omega) (by omega) (by omega) pf Gi (rN (k:=k) (l:=82) (by omega) hn (by omega) (by omega) rfl)
   rw[AoD T S.b n hT.r hS.lb]at Hx;rw[show C1 [S.c] U n=[BX (S5 U) S.c] by rw[Agu Ld];rfl]at hT4;have yu:(BX T S.b).length=n:=by rw[kG,fm]
   have fk:=vG (D7 T U S n) 0;have hE:eS (D7 T U S n)=[.sl false (eM (C1 (C1 T S.a n) U n)),.sl false ((BX T S.b).map eQ),.sl false ((BX (S5 U) S.c).map eQ)]++eQ S.d:=rfl;generalize C1 (C1 T S.a n) U n=A2 at *;generalize C1 T S.a n=A1 at *;generalize BX (S5 U) S.c=C2 at *;generalize BX T S.b=B2 at *;have Kt:[C2][(0:Int).toNat]? = some C2:=rfl;(repeat' ((first|(apply AG<;>intro hc<;>try (exfalso;omega))|refine H6 rfl ?_|apply AE|refine AD (hI) ?_|refine AD (Hw _ _ _ _) ?_|refine AD (Ge _ _ _ _) ?_|refine AD (hCo) ?_|refine AD (Hx _ _ _ _) ?_|refine AD (hT4 _ _ _ _) ?_)<;>conv=>whnf))
   refine FY 1000 N.aV rfl rfl ?_;(repeat' ((first|apply AU|apply AE)<;>conv=>whnf))
   have wm:(B2.map λ x=>[x]).length=n:=by rw[List.length_map];exact yu
   have Pz : ∀ (e:Nat) (x:Rat),B2[e]? = some x->(B2.map λ x=>[x])[e]? = some [x]:=λ e x hx=>by rw[List.getElem?_map,hx];rfl
   generalize (B2.map λ x=>[x])=R at *;rw[wm];refine EK (enc:=eO) none n rfl rfl (by omega) ?_;(conv=>whnf)
   (repeat' (apply AU<;>conv=>whnf))
   refine B6 (λ e=>n-e) (λ(e:Nat)=>e<=n) (λ e=>[(13,.int .i64 e)]) (λ e=>[(288010,288010,.rw 3 ((DH (B2.take e) n).map eO))]) [] [] 0 (by first|exact (by (conv=>whnf);exact ⟨rfl,rfl,rfl⟩)|(rw[List.take_zero,<-OQ];exact (by (conv=>whnf);exact ⟨rfl,rfl,rfl⟩))) (by omega) ?_;intro e p2 eh;have Db:=J3 (l:=B2.take e) (m:=n) (by rw[List.length_take];omega);by_cases he2:e<n
   ·obtain ⟨x,hx⟩ : ∃ x,B2[e]? = some x:=⟨_,zE (by omega)⟩
    have o9:=OR (l:=B2.take e) (m:=n) (x:=x) (by rw[List.length_take];omega);rw[List.length_take,Nat.min_eq_left (by omega),<-SZ hx]at o9;have Kx:=Pz e x hx;have Qa:R[(e:Int).toNat]? = some [x]:=Kx;have hF:=λ q=>AlH N q x
    generalize DH (B2.take e) n=F0 at *;(repeat' ((first|(apply AG<;>intro hc<;>try (exfalso;omega))|(apply A0;omega)|(refine BH (by assumption) ?_ rfl ?_;omega)|apply AE|refine AD (hF _) ?_)<;>conv=>whnf))
    refine FP (enc:=eO) (some x) rfl (λ e=>by cases e<;>rfl) (by omega) ?_;(conv=>whnf)
    rw[o9];(repeat' ((first|(apply AX;omega)|fail)<;>conv=>whnf))
    exact BL [] (eh (e+1) (by omega) (by omega))
   have ee:e=n:=by omega
   clear eh;rw[ee,List.take_of_length_le (by omega),OO yu];(repeat' ((first|(apply AG<;>intro hc<;>try (exfalso;omega))|apply AE)<;>conv=>whnf))
   refine ⟨rfl,_,rfl,?_⟩;(conv=>whnf)
   (repeat' ((first|(refine BH (by assumption) ?_ rfl ?_;omega)|refine AD (Gf) ?_)<;>conv=>whnf))
   refine ⟨.m9 [.agg (eS (D7 T U S n)),.int .i64 0],?_,Or.inr ⟨fr,U,Ld,gv,La,rfl⟩⟩;rw[hE]at fk ⊢;(conv=>whnf)
   refine DR (enc:=eQ) (λ_=>rfl) rfl yu.symm ?_;(conv=>whnf)
   exact AY rfl fk
def YF (l:List Int) (n:Nat):List (List Rat):=HP (E9 l (n*n)) n n
theorem Aol (l:List Int) (n:Nat):(YF l n).length=n:=by simp [YF,HP]
theorem Wm : ∀ m:List (List Rat),F2 (m.map λ r=>[AV.sl false (r.map eQ)])
 | []=>trivial
 | r::m=>⟨⟨by simp only[A6,true_and];exact OK r,trivial⟩,Wm m⟩
theorem Alw (N:mj L) (l:List Int) (q:Bool) (n:Nat) (hl : ∀ x∈l,GW x) (hn:n<=64):Ev L 280 [.sl q (l.map cU),.int .i64 (n:Int)] (.sl false ((YF l n).map λ r=>[AV.sl false (r.map eQ)])):=by
 have hnn:n*n<=4096:=Nat.mul_le_mul hn hn;have hR:=λ q=>Alx N.todm l q (n*n) hl (by omega)
 have vg:=fE l (n*n);have Bj:((n*n:Nat):Int)=(n:Int)*n:=by simp
 rw[Bj]at hR;unfold YF;generalize E9 l (n*n)=X at *;refine Ev.x N.bE rfl rfl ?_;(repeat' ((first|(apply E0;omega)|apply AE|refine AD (hR _) ?_)<;>conv=>whnf))
 refine B6 (λ i=>n-i) (λ(i:Nat)=>i<=n) (λ i=>[(7,.int .i64 i),(6,.row 6 0 1 0 i)]) (λ i=>[(6,6,.rw 1 ((HP X n i).map λ r=>[AV.sl false (r.map eQ)]))]) [] [] 0 (by (conv=>whnf);exact ⟨rfl,rfl,rfl⟩) (by omega) ?_;intro i p1 ih;have gm:(HP X n i).length=i:=by simp [HP]
 by_cases hi:i<n
 ·have h1:i*n+n<=n*n:=by
   have:=Nat.mul_le_mul_right n (show i+1<=n by omega)
   rw[Nat.succ_mul]at this;exact this
  have f1:((i:Int)*n).toNat=i*n:=by rw[<-Int.natCast_mul];rfl
  have f2:((i:Int)*n+n).toNat=i*n+n:=by rw[<-Int.natCast_mul];omega
  have f3:0<=(i:Int)*n:=by rw[<-Int.natCast_mul];omega
  have f4:(i:Int)*n+n<=X.length:=by rw[<-Int.natCast_mul];omega
  have f5:fI X n i=(X.take (i*n+n)).drop (i*n):=rfl;have rh:=Aps X n i;(repeat' ((first|(apply AG<;>intro hc<;>try (exfalso;omega))|(apply AX;omega)|(apply E0;omega)|(refine uK (λ_=>rfl) (cH ?_ ?_);omega)|apply EL|apply AE)<;>conv=>whnf))
  rw[f1,f2,<-f5];refine E6 (l:=HP X n i) (z:=1) (bytes:=24) (enc:=λ r:List Rat=>[AV.sl false (r.map eQ)]) (fI X n i) rfl gm.symm rfl (by omega) (by omega) ?_;(conv=>whnf)
  (repeat' ((first|(apply AX;omega)|fail)<;>conv=>whnf))
  rw[<-rh,show (HP X n (i+1)).length=i+1 by simp [HP]];exact BL [(6,30)] (ih (i+1) (by omega) (by omega))
 ·obtain rfl:i=n:=by omega
  clear ih;(repeat' ((first|(apply AG<;>intro hc<;>try (exfalso;omega))|apply AE)<;>conv=>whnf))
  refine DR (enc:=λ r:List Rat=>[AV.sl false (r.map eQ)]) (λ_=>rfl) rfl gm.symm ?_;(conv=>whnf)
  exact AY rfl (by simp only[A6,true_and];exact Wm _)
theorem Aom (l:List Int) (n:Nat):Sq n (YF l n)/\Ms 4 (YF l n):=by
 have hX:=fE l (n*n);have hb:=Nx l (n*n);have hr : ∀ r∈YF l n,∃ j,j<n/\r=fI (E9 l (n*n)) n j:=λ r hr=>by
  simp only[YF,HP,List.mem_map,List.mem_range]at hr;obtain ⟨j,h1,rfl⟩:=hr;exact ⟨j,h1,rfl⟩
 refine ⟨⟨Aol l n,?_⟩,?_⟩
 ·intro r h
  obtain ⟨j,h1,rfl⟩:=hr r h;refine Afv ?_;have:=Nat.mul_le_mul_right n (show j+1<=n by omega)
  rw[Nat.succ_mul]at this;omega
 ·intro r h x hx
  obtain ⟨j,h1,rfl⟩:=hr r h;exact hb x (List.mem_of_mem_take (List.mem_of_mem_drop hx))
end Go.e9

namespace Go.e9
set_option maxHeartbeats 8000000
end Go.e9





namespace Go.e9
open F
attribute [local irreducible] AA AF AM AC CK AR AW BD A7 BW AQ BT CD DB BP A4 BO CE AB A8 AJ pw B4 BK CF CI CN CX CJ BS CM
variable {L:Lib}
set_option maxHeartbeats 16000000
set_option maxRecDepth 8000
theorem AqL {M k:Nat} {l:List Rat} (h : ∀ x∈l,Wh k ((M:Rat)*x)) (i:Nat):Wh k ((M:Rat)*bQ l i):=by
 rw[bQ,List.getD_eq_getElem?_getD];cases e:l[i]? with
 | none=>rw[show ((none:Option Rat).getD 0)=0 from rfl,Rat.mul_zero];exact Wh.zero _
 | some x=>exact h x (zM e)
end Go.e9

namespace Go.e9
set_option maxHeartbeats 32000000
def EX (P K:Nat->Nat->Rat) (n i j:Nat):Rat:=BC (λ a=>BC (λ b=>P i a*P j b*K a b) n) n
def mF (P R:Nat->Nat->Rat) (n i j:Nat):Rat:=BC (λ a=>P i a*R a j) n
theorem Vq (P R K:Nat->Nat->Rat) {n:Nat} (hn:n<=3) (i j:Nat):EX P (EX R K n) n i j=EX (mF P R n) K n i j:=by
 rcases cD hn with rfl|rfl|rfl|rfl
 ·simp only[EX,BC]
 ·simp only[EX,mF,BC];grind
 ·simp only[EX,mF,BC];grind
 ·simp only[EX,mF,BC];grind
theorem AiC (P K:Nat->Nat->Rat) (x:Nat->Rat) {n:Nat} (hn:n<=3) (i j:Nat):EX P (λ a b=>x a*x b+K a b) n i j=BC (λ a=>P i a*x a) n*BC (λ a=>P j a*x a) n+EX P K n i j:=by
 rcases cD hn with rfl|rfl|rfl|rfl
 ·simp only[EX,BC];grind
 ·simp only[EX,BC];grind
 ·simp only[EX,BC];grind
 ·simp only[EX,BC];grind
theorem uO {P P' K K':Nat->Nat->Rat} {n i j:Nat} (hP : ∀ a,a<n->P i a=P' i a) (hQ : ∀ a,a<n->P j a=P' j a) (hK : ∀ a b,a<n->b<n->K a b=K' a b):EX P K n i j=EX P' K' n i j:=G6 n λ a ha=>G6 n λ b hb=>by rw[hP a ha,hQ b hb,hK a b ha hb]
theorem Vr (A K:List (List Rat)) (n i j:Nat):JT A K n i j=EX (A5 A) (A5 K) n i j:=rfl
def XD (T K:List (List Rat)) (n:Nat):List (List Rat):=(List.range n).map λ i=>(List.range n).map λ j=>JT T K n i j
theorem oO (T K:List (List Rat)) {n i j:Nat} (hi:i<n) (hj:j<n):A5 (XD T K n) i j=JT T K n i j:=by
 rw[OG (r:=(List.range n).map λ j=>JT T K n i j) (by rw[XD,List.getElem?_map,List.getElem?_range hi];rfl),List.getD_eq_getElem?_getD,List.getElem?_map,List.getElem?_range hj];rfl
theorem AeK {A B:List (List Rat)} {n i j:Nat} (hA:Sq n A) (hB:Sq n B) (hi:i<n) (hj:j<n):A5 (C1 A B n) i j=mF (A5 A) (A5 B) n i j:=AoE hA hB hi hj
theorem Aqq {A A2 T K:List (List Rat)} {B B2:List Rat} {n:Nat} (hn:n<=3) (hA:Sq n A) (yk:Sq n A2) (hT:Sq n T) (Kr:B2=BX T B) (Pm:C1 A2 T n=C1 T A n) (hK : ∀ i j,i<n->j<n->A5 K i j=bQ B i*bQ B j+JT A K n i j) :
  ∀ i j,i<n->j<n->A5 (XD T K n) i j=bQ B2 i*bQ B2 j+JT A2 (XD T K n) n i j:=by
 intro i j hi hj;rw[oO T K hi hj,Vr,Vr];have h1:EX (A5 T) (A5 K) n i j=EX (A5 T) (λ a b=>bQ B a*bQ B b+EX (A5 A) (A5 K) n a b) n i j:=uO (λ_ _=>rfl) (λ_ _=>rfl) λ a b ha hb=>hK a b ha hb
 have h2:EX (A5 A2) (A5 (XD T K n)) n i j=EX (A5 A2) (EX (A5 T) (A5 K) n) n i j:=uO (λ_ _=>rfl) (λ_ _=>rfl) λ a b ha hb=>oO T K ha hb
 have hm : ∀ r,r<n -> ∀ c,c<n->mF (A5 A2) (A5 T) n r c=mF (A5 T) (A5 A) n r c:=λ r hr c hc=>by
  rw[<-AeK yk hT hr hc,<-AeK hT hA hr hc,Pm]
 rw[h1,h2,AiC _ _ _ hn,Vq _ _ _ hn,Vq _ _ _ hn,Kr,zL hT hi,zL hT hj];congr 1;exact uO (λ a ha=>(hm i hi a ha).symm) (λ a ha=>(hm j hj a ha).symm) λ_ _ _ _=>rfl
theorem AiD {P K:Nat->Nat->Rat} {n i j:Nat} (hK : ∀ a b,a<n->b<n->K a b=K b a):EX P K n i j=EX P K n j i:=by
 rw[EX,Nb];exact G6 n λ a ha=>G6 n λ b hb=>by rw[hK b a hb ha];grind
theorem Aqs {T K:List (List Rat)} {n:Nat} (hK : ∀ a b,a<n->b<n->A5 K a b=A5 K b a) : ∀ i j,i<n->j<n->A5 (XD T K n) i j=A5 (XD T K n) j i:=by
 intro i j hi hj;rw[oO T K hi hj,oO T K hj hi];exact AiD hK
theorem Aqr {T K:List (List Rat)} {c c2:List Rat} {n:Nat} (hn:n<=3) (hc : ∀ a,a<n->BC (λ i=>bQ c2 i*A5 T i a) n=bQ c a):IK (XD T K n) c2 n=IK K c n:=by
 have h1:IK (XD T K n) c2 n=BC (λ i=>BC (λ j=>EX (A5 T) (A5 K) n i j*(bQ c2 i*bQ c2 j)) n) n:=G6 n λ i hi=>G6 n λ j hj=>by rw[oO T K hi hj];rfl
 have h2:IK K c n=BC (λ a=>BC (λ b=>A5 K a b*(BC (λ i=>bQ c2 i*A5 T i a) n*BC (λ i=>bQ c2 i*A5 T i b) n)) n) n:=G6 n λ i hi=>G6 n λ j hj=>by rw[hc i hi,hc j hj]
 rw[h1,h2];generalize A5 T=t;generalize A5 K=k;generalize bQ c2=v;rcases cD hn with rfl|rfl|rfl|rfl
 ·simp only[BC]
 ·simp only[BC,EX];grind
 ·simp only[BC,EX];grind
 ·simp only[BC,EX];grind
def iG (K:List (List Rat)) (n:Nat):List Rat:=(BM n n).map λ p=>A5 K p.1 p.2
theorem HD.of {A K:List (List Rat)} {B:List Rat} {n:Nat} (hn:n<=3) (hs : ∀ i j,i<n->j<n->A5 K i j=A5 K j i) (hK : ∀ i j,i<n->j<n->A5 K i j=bQ B i*bQ B j+JT A K n i j):HD A B (iG K n) n:=by
 refine ⟨by simp [iG],λ u r s hr ud => ?_⟩;obtain ⟨⟨i,j⟩,iw⟩ : ∃ p,(BM n n)[u]? = some p:=by
  have:=(zS hr).1
  exact ⟨_,zE (by rw[(gY A).l]at this;exact this)⟩
 have er:r=FW A n (i,j):=by
  rw[gM,List.getElem?_map,iw]at hr;exact (Option.some.inj hr).symm
 have es:s=bQ B i*bQ B j:=by
  rw[gR,List.getElem?_map,iw]at ud;exact (Option.some.inj ud).symm
 obtain ⟨g1,g2,g3⟩:=zZ (zM iw);have h1:=hK i j (by omega) g3;rw[er,es];clear hr ud er es iw hK;rcases cD hn with rfl|rfl|rfl|rfl
 ·omega
 ·obtain rfl:i=0:=by omega
  obtain rfl:j=0:=by omega
  simp only[JT,BC]at h1;simp [AZ,iG,FW,gC,BM,GD,List.range_succ];grind
 ·have Ko:=hs 0 1 (by omega) (by omega)
  simp only[JT,BC]at h1;obtain ⟨rfl,rfl⟩|⟨rfl,rfl⟩|⟨rfl,rfl⟩:(i=0/\j=0)\/(i=0/\j=1)\/(i=1/\j=1):=by omega
  all_goals simp [AZ,iG,FW,gC,BM,GD,List.range_succ]
  all_goals grind
 ·have Ko:=hs 0 1 (by omega) (by omega)
  have s02:=hs 0 2 (by omega) (by omega);have s12:=hs 1 2 (by omega) (by omega);simp only[JT,BC]at h1;clear hs;obtain ⟨rfl,rfl⟩|⟨rfl,rfl⟩|⟨rfl,rfl⟩|⟨rfl,rfl⟩|⟨rfl,rfl⟩|⟨rfl,rfl⟩:(i=0/\j=0)\/(i=0/\j=1)\/(i=0/\j=2)\/(i=1/\j=1)\/(i=1/\j=2)\/(i=2/\j=2):=by omega
  all_goals simp [AZ,iG,FW,gC,BM,GD,List.range_succ]
  all_goals grind
theorem Ao4 {K:List (List Rat)} {n:Nat} (hn:n<=3) (hK:Sq n K) (hs : ∀ i j,i<n->j<n->A5 K i j=A5 K j i) : ∀ i j,i<n->j<n->A5 (kM (iG K n) n) i j=A5 K i j:=by
 intro i j hi hj;rw[jX _ hi hj];rcases cD hn with rfl|rfl|rfl|rfl
 ·omega
 ·obtain rfl:i=0:=by omega
  obtain rfl:j=0:=by omega
  rfl
 ·have Ko:=hs 0 1 (by omega) (by omega)
  obtain rfl|rfl:i=0\/i=1:=by omega
  all_goals obtain rfl|rfl:j=0\/j=1:=by omega
  all_goals first|rfl|exact Ko
 ·have Ko:=hs 0 1 (by omega) (by omega)
  have s02:=hs 0 2 (by omega) (by omega);have s12:=hs 1 2 (by omega) (by omega);obtain rfl|rfl|rfl:i=0\/i=1\/i=2:=by omega
  all_goals obtain rfl|rfl|rfl:j=0\/j=1\/j=2:=by omega
  all_goals first|rfl|exact Ko|exact s02|exact s12
theorem AmL {K K':List (List Rat)} {n:Nat} (h : ∀ i j,i<n->j<n->A5 K i j=A5 K' i j) (v:List Rat):IK K v n=IK K' v n:=G6 n λ i hi=>G6 n λ j hj=>by rw[h i j hi hj]
end Go.e9
