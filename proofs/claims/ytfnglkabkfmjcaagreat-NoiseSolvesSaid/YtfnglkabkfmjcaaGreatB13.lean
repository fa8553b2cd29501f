/-
  Gram of the program (layer 30).
-/
import Derived.Test.YtfnglkabkfmjcaaGreatB12
import Derived.Test.YtfnglkabkfmjcaaGreatB4
import Derived.Test.YtfnglkabkfmjcaaGreatB10
import Derived.Test.YtfnglkabkfmjcaaGreatB9
import Derived.Test.YtfnglkabkfmjcaaGreatB11
import Derived.Test.YtfnglkabkfmjcaaGreatB1
import Derived.Test.YtfnglkabkfmjcaaGreatB5
import Derived.Test.YtfnglkabkfmjcaaGreatB7
set_option linter.unusedSimpArgs false
set_option linter.unusedVariables false
set_option linter.unnecessarySimpa false
namespace Go.c5
open F
attribute [local irreducible] AA AF AM AC CI AW AX A5 A6 B3 AQ BS B7 C5 BQ A2 BO B9 AB A9 AJ pw BN BG CH CM CT CP CE BU CK
attribute [local irreducible] KE
variable {L:Lib}
set_option maxHeartbeats 16000000
set_option maxRecDepth 8000
theorem Adr {M:List (List (Option Rat))} {i j:Nat} {x:Rat} {r s:List (Option Rat)} (hr:M[i]? = some r) (hs:(M.set i (r.set j (some x)))[j]? = some s):RO M i j x=(M.set i (r.set j (some x))).set j (s.set i (some x)):=by
 have h1:M.getD i []=r:=by rw[List.getD_eq_getElem?_getD,hr];rfl
 have h2:(M.set i (r.set j (some x))).getD j []=s:=by rw[List.getD_eq_getElem?_getD,hs];rfl
 rw[RO,h1,h2]
theorem oH {X:List Rat} {n:Nat} : ∀ u,u<=(BD n n).length->(KQ X n u).length=n /\ ∀ r∈KQ X n u,r.length=n
 | 0,_=>⟨by simp [KQ],λ r hr=>by rw[List.eq_of_mem_replicate hr];simp⟩
 | u+1,h=>by
  have ih:=oH (X:=X) (n:=n) u (by omega);obtain ⟨⟨i,j⟩,eg⟩ : ∃ p,(BD n n)[u]? = some p:=⟨_,zE (by omega)⟩;obtain ⟨g1,g2,g3⟩:=Y8 eg;have e:(BD n n).getD u (0,0)=(i,j):=by rw[List.getD_eq_getElem?_getD,eg];rfl
  rw[KQ,e];exact Ads ih g1 g2
theorem Adq {X:List Rat} {n u i j:Nat} {x:Rat} (eg:(BD n n)[u]? = some (i,j)) (hx:X[u]? = some x):RO (KQ X n u) i j x=KQ X n (u+1):=by
 rw[KQ,show (BD n n).getD u (0,0)=(i,j) by rw[List.getD_eq_getElem?_getD,eg];rfl,show X.getD u 0=x by rw[List.getD_eq_getElem?_getD,hx];rfl]
theorem Afh (m:List (List Rat)):BJ 3 eO (m.map (·.map some))=BJ 3 eQ m:=by
 rw[BJ,BJ,List.map_map];refine List.map_congr_left λ r _ => ?_
 show some (3,(r.map some).map eO)=_;rw[List.map_map];rfl
structure SM (A:List (List Rat)) (B:List Rat) (n k:Nat):Prop where
 sq:Sq n A
 lb:B.length=n
 ba:Ms k A
 bb:Bs k B
 sc : ∀ r∈CO (gM A n) ((gR B n).map λ x=>[x]),∀ j,Bt 100 (C1 (r.take j))
 wh:Ms 100 (whole (CO (gM A n) ((gR B n).map λ x=>[x])))
theorem zR {m:Nat} (h:1<=m/\m<=6):6^m*100<=1000000000000/\E8 (6^m*100) m m<=1000000000000/\E8 (6^m*100) m m+6^m*100<=1000000000000:=by
 rcases (show m=1\/m=2\/m=3\/m=4\/m=5\/m=6 by omega) with rfl|rfl|rfl|rfl|rfl|rfl<;>decide
theorem Yw (N:q8 L) (A:List (List Rat)) (B:List Rat) (n k:Nat) (h:SM A B n k) (hk:k<=20) (hn:n<=3) (q1 q2 q3:Bool) :
  ∃ v,Ev L 323 [.agg [.sl q1 (CX q2 A),.sl q3 (B.map eQ)]] v/\((¬ NS (BD n n).length (gM A n)/\v = .g7 [.sl false [],.int .i64 11])\/(NS (BD n n).length (gM A n) /\ ∃ X:List Rat,JT A B X n/\Bs 1000000000000 X/\v = .g7 [.sl false (eM (kM X n)),.int .i64 0])):=by
 have hlen:=Y9 hn;have z0:=h.sq.l;have hP:=λ q1 q2 q3=>nN N q1 q2 q3 A B n z0 hn
 have hE:=λ q1 q2 q3 p1 p2 h1 h2=>Yv N q1 q2 q3 A B n k p1 p2 h.sq h.lb h.ba h.bb (by omega) hn h1 h2
 refine Ev.xE N.LX rfl rfl ?_;(repeat' ((first|apply AR|apply AD)<;>conv=>whnf))
 unfold CT;refine ⟨⟨by omega,by omega,by simp only[DP];omega,by omega⟩,?_⟩;rw[Int.toNat_natCast,z0];(conv=>whnf)
 skip
 refine BR (λ i=>n-i) (λ(i:Nat)=>i<=n) (λ i=>[(24,.int .i64 i)]) (λ i=>[(21,21,.mx (fz none ((BJ 3 eO (List.replicate n (List.replicate n none))).take i) n))]) [] [] 0 (by first|exact (by (conv=>whnf);exact ⟨rfl,rfl,rfl⟩)|(rw[List.take_zero,show fz (none:Option (Nat × List (List AV))) [] n=List.replicate n none by simp [fz]];exact (by (conv=>whnf);exact ⟨rfl,rfl,rfl⟩))) (by omega) ?_;intro i p1 ih;have cu:(BJ 3 eO (List.replicate n (List.replicate n (none:Option Rat)))).length=n:=by simp [BJ]
 have aw:((BJ 3 eO (List.replicate n (List.replicate n (none:Option Rat)))).take i).length=i:=by rw[List.length_take];omega
 have df:=TK (z:=(none:Option (Nat × List (List AV)))) (l:=(BJ 3 eO (List.replicate n (List.replicate n (none:Option Rat)))).take i) (m:=n) (by omega);by_cases hi:i<n
 ·have gm:=TL (z:=(none:Option (Nat × List (List AV)))) (x:=some (3,(List.replicate n (none:Option Rat)).map eO)) (l:=(BJ 3 eO (List.replicate n (List.replicate n (none:Option Rat)))).take i) (m:=n) (by omega)
  rw[aw,<-PX (show (BJ 3 eO (List.replicate n (List.replicate n (none:Option Rat))))[i]? = some (some (3,(List.replicate n (none:Option Rat)).map eO)) by
   rw[BJ,List.getElem?_map,List.getElem?_replicate,if_pos hi];rfl)]at gm
  generalize fz (none:Option (Nat × List (List AV))) ((BJ 3 eO (List.replicate n (List.replicate n (none:Option Rat)))).take i) n=J at *;(repeat' ((first|(apply AG<;>intro hc<;>try (exfalso;omega))|apply AR|apply AD)<;>conv=>whnf))
  refine EX (enc:=eO) none n rfl (by omega) (by omega) ?_;(conv=>whnf)
  (repeat' ((first|(apply AY;omega)|fail)<;>conv=>whnf))
  unfold AM CH;refine ⟨by simp,by omega,?_⟩;(conv=>whnf)
  rw[show 0+((i:Int)).toNat=i by omega,gm];(repeat' ((first|(apply AU;omega)|fail)<;>conv=>whnf))
  exact BF [] (ih (i+1) (by omega) (by omega))
 have ei:i=n:=by omega
 clear ih df;rw[ei,List.take_of_length_le (by omega),TJ (by omega)];clear aw cu ei p1 hi i;by_cases ru:n=0
 ·subst ru
  have hz:(BD 0 0).length=0:=rfl;(repeat' ((first|(apply AG<;>intro hc<;>try (exfalso;omega))|apply AR|apply AD|refine AE (hP _ _ _) ?_)<;>conv=>whnf))
  refine ⟨.g7 [.sl false [],.int .i64 0],?_,Or.inr ⟨λ X hX _ j=>by rw[List.length_eq_zero_iff.1 hX];rfl,[],⟨rfl,λ i r s hr=>by cases hr⟩,⟨(λ x hx=>by cases hx),rfl⟩⟩⟩;(conv=>whnf)
  refine I2 (z:=3) (en:=eQ) (ll:=([]:List (List Rat))) (λ_=>rfl) rfl rfl ?_;(conv=>whnf)
  exact AZ rfl (HY [] 0)
 have qt:1<=(BD n n).length:=by
  rcases PY hn with rfl|rfl|rfl|rfl<;>first|omega|decide
 (repeat' ((first|(apply AG<;>intro hc<;>try (exfalso;omega))|apply AR|apply AD|refine AE (hP _ _ _) ?_)<;>conv=>whnf))
 refine BR (λ u=>(BD n n).length-u) (λ(u:Nat)=>u<=(BD n n).length) (λ u=>[(45,.int .i64 u),(8,.row 8 0 1 0 u),(9,.row 9 0 3 0 u)]) (λ u=>[(8,8,.rw 1 (eM ((gM A n).take u))),(9,9,.rw 3 (((gR B n).take u).map eQ))]) [] [] 0 (by (conv=>whnf);exact ⟨rfl,rfl,rfl⟩) (by omega) ?_;intro u u1 uh;have Iy:(gM A n).length=(BD n n).length:=(TM A).l;have ve:=YO B n;by_cases hu:u<(BD n n).length
 ·obtain ⟨⟨i,j⟩,eg⟩ : ∃ p,(BD n n)[u]? = some p:=⟨_,zE hu⟩
  have Er:(BD n n)[((u:Nat):Int).toNat]? = some (i,j):=eg;obtain ⟨g1,g2,g3⟩:=Y8 eg;have uj:(gM A n)[u]? = some (DX A n (i,j)):=by rw[gM,List.getElem?_map,eg];rfl
  have hrg:(gR B n)[u]? = some (bQ B i*bQ B j):=by rw[gR,List.getElem?_map,eg];rfl
  have Cv:=PX uj;have mn:=PX hrg;have Ht:((gM A n).take u).length=u:=by rw[List.length_take];omega
  have Mn:((gR B n).take u).length=u:=by rw[List.length_take];omega
  have Ix:=λ q1 q2 q3=>hE q1 q2 q3 i j g1 g2
  clear hE;generalize (gM A n).take u=G0 at *;generalize (gR B n).take u=R0 at *;generalize DX A n (i,j)=gr at *;generalize bQ B i*bQ B j=gy at *;(repeat' ((first|(apply AG<;>intro hc<;>try (exfalso;omega))|(apply AY;omega)|(refine BC (by assumption) ?_ rfl ?_;omega)|apply D9|apply AD|refine AE (Ix _ _ _) ?_)<;>conv=>whnf))
  refine EO (enc:=λ r:List Rat=>[AV.sl false (r.map eQ)]) gr rfl Ht.symm rfl (by omega) (by omega) ?_;(conv=>whnf)
  (repeat' (apply D9<;>conv=>whnf))
  refine EO (enc:=eQ) gy rfl Mn.symm rfl (by omega) (by omega) ?_;(conv=>whnf)
  rw[<-Cv,<-mn,show ((gM A n).take (u+1)).length=u+1 by rw[List.length_take];omega,show ((gR B n).take (u+1)).length=u+1 by rw[List.length_take];omega];(repeat' ((first|(apply AU;omega)|fail)<;>conv=>whnf))
  exact BF [(8,58),(9,62)] (uh (u+1) (by omega) (by omega))
 have eu:u=(BD n n).length:=by omega
 clear uh hE;rw[eu,List.take_of_length_le (by omega),List.take_of_length_le (by omega)];clear eu u1 hu u;obtain ⟨d1,d2,d3⟩:=zR (m:=(BD n n).length) ⟨qt,hlen⟩;have Ji:=λ q q1 q2=>Yp N.tou4 q q1 q2 (gM A n) (gR B n) (BD n n).length (4*k+2) 100 (TM A).l (TM A).r ve (by omega) (by omega) (by omega) (oO h.ba n) (oP h.bb n) h.sc h.wh d1 d2 (B0:=1000000000000) d3
 have Ob : ∀ y:List Rat,y.length=(BD n n).length->(∀ (i:Nat) (r:List Rat) (s:Rat),(gM A n)[i]? = some r->(gR B n)[i]? = some s->A3 r y=s)->JT A B y n:=λ y h1 h2=>⟨h1,h2⟩
 generalize gM A n=G at *;generalize gR B n=R at *;(repeat' ((first|(apply AG<;>intro hc<;>try (exfalso;omega))|apply AD)<;>conv=>whnf))
 refine DL (enc:=λ r:List Rat=>[AV.sl false (r.map eQ)]) (λ_=>rfl) rfl Iy.symm ?_;(conv=>whnf)
 refine DL (enc:=eQ) (λ_=>rfl) rfl ve.symm ?_;(conv=>whnf)
 obtain ⟨v,hv,z7⟩:=Ji true false true;rcases z7 with ⟨fc,rfl⟩|⟨fc,X,rfl,oe,tk,hX⟩
 ·(repeat' ((first|(apply AG<;>intro hc<;>try (exfalso;omega))|refine AE (hv) ?_)<;>conv=>whnf))
  refine ⟨.g7 [.sl false [],.int .i64 11],?_,Or.inl ⟨fc,rfl⟩⟩;(conv=>whnf)
  exact AZ rfl (HY [] 11)
 ·have Eo:=Ob X oe hX
  clear Ob hX;(repeat' ((first|(apply AG<;>intro hc<;>try (exfalso;omega))|apply AR|refine AE (hv) ?_)<;>conv=>whnf))
  refine BR (λ u=>(BD n n).length-u) (λ(u:Nat)=>u<=(BD n n).length) (λ u=>[(75,.int .i64 u)]) (λ u=>[(21,21,.mx (BJ 3 eO (KQ X n u)))]) [] [] 0 (by (conv=>whnf);exact ⟨rfl,rfl,rfl⟩) (by omega) ?_;intro u u1 uh;by_cases hu:u<(BD n n).length
  ·obtain ⟨⟨i,j⟩,eg⟩ : ∃ p,(BD n n)[u]? = some p:=⟨_,zE hu⟩
   have Er:(BD n n)[((u:Nat):Int).toNat]? = some (i,j):=eg;obtain ⟨g1,g2,g3⟩:=Y8 eg;obtain ⟨x,hx⟩ : ∃ x,X[u]? = some x:=⟨_,zE (by omega)⟩;have fm:X[((u:Nat):Int).toNat]? = some x:=hx;have hT:=cP N.toa8 (tk.at hx) (by omega);have Bi:=Adq eg hx;obtain ⟨f1,f2⟩:=oH (X:=X) (n:=n) u (by omega);generalize KQ X n u=M0 at *;obtain ⟨r0,o5⟩ : ∃ r,M0[i]? = some r:=⟨_,zE (by omega)⟩;have bp:=f2 r0 (zM o5);obtain ⟨s0,ck⟩ : ∃ s,(M0.set i (r0.set j (some x)))[j]? = some s:=⟨_,zE (by rw[List.length_set];omega)⟩;have zj:s0.length=n:=by
    rcases List.mem_or_eq_of_mem_set (zM ck) with hs|rfl
    ·exact f2 s0 hs
    ·rw[List.length_set];exact bp
   rw[Adr o5 ck]at Bi;have ay:(M0.set i (r0.set j (some x))).length=n:=by rw[List.length_set];exact f1
   (repeat' ((first|(apply AG<;>intro hc<;>try (exfalso;omega))|(apply AY;omega)|(refine BC (by assumption) ?_ rfl ?_;omega)|(refine FM ?_ (λ r hr => ?_);omega)|apply AD)<;>conv=>whnf))
   cases o5.symm.trans hr;(repeat' (refine AE (hT) ?_<;>conv=>whnf))
   refine AY (by rw[List.length_map];exact (by omega)) ?_;(conv=>whnf)
   (repeat' ((first|refine F6 (by assumption) ?_|fail)<;>conv=>whnf))
   refine FW (enc:=eO) (some x) rfl (λ e=>by cases e<;>rfl) (by omega) ?_;(conv=>whnf)
   refine aH (by rw[List.length_set]) ?_;(conv=>whnf)
   generalize M0.set i (r0.set j (some x))=M1 at *;(repeat' ((first|(apply AY;omega)|(refine BC (by assumption) ?_ rfl ?_;omega)|(refine FM ?_ (λ r hr => ?_);omega))<;>conv=>whnf))
   cases ck.symm.trans hr;(repeat' (refine AE (hT) ?_<;>conv=>whnf))
   refine AY (by rw[List.length_map];exact (by omega)) ?_;(conv=>whnf)
   (repeat' ((first|refine F6 (by assumption) ?_|fail)<;>conv=>whnf))
   refine FW (enc:=eO) (some x) rfl (λ e=>by cases e<;>rfl) (by omega) ?_;(conv=>whnf)
   refine aH (by rw[List.length_set]) ?_;rw[Bi];(conv=>whnf)
   (repeat' ((first|(apply AU;omega)|fail)<;>conv=>whnf))
   exact BF [] (uh (u+1) (by omega) (by omega))
  ·have eu:u=(BD n n).length:=by omega
   clear uh;have yk:=(VT X n).l;rw[eu,Adp hn Eo.1,Afh];generalize hQ:kM X n=Q at *;(repeat' ((first|(apply AG<;>intro hc<;>try (exfalso;omega))|apply AD)<;>conv=>whnf))
   refine ⟨.g7 [.sl false (eM Q),.int .i64 0],?_,Or.inr ⟨fc,X,Eo,tk,by rw[hQ]⟩⟩;(conv=>whnf)
   refine I2 (λ_=>rfl) rfl yk.symm ?_;(conv=>whnf)
   exact AZ rfl (HY Q 0)
theorem Yl (N:q8 L) (A:List (List Rat)) (B:List Rat) (n k:Nat) (h:SM A B n k) (hk:k<=20) (hn:n<=3) (q1 q2 q3:Bool) :
  ∃ v,Ev L 324 [.sl q1 (CX q2 A),.sl q3 (B.map eQ)] v/\(((∀ j,j<=6->D4 (CF n A j)=false)/\v = .g7 [.sl false [],.int .i64 14])\/((∃ i,i<=6/\KF n A i)/\((¬ NS (BD n n).length (gM A n)/\v = .g7 [.sl false [],.int .i64 11])\/(NS (BD n n).length (gM A n) /\ ∃ X:List Rat,JT A B X n/\v = .g7 [.sl false (eM (kM X n)),.int .i64 0])))):=by
 have z0:=h.sq.l;have fi:=h.lb;obtain ⟨v,Ai,z7⟩:=Xu N.toq9 q1 q2 A n k h.sq h.ba (by omega) (by omega);obtain ⟨w,hF,Lm⟩:=Yw N A B n k h hk hn q1 q2 q3;refine Ev.xE N.LS rfl rfl ?_;(repeat' ((first|(apply AG<;>intro hc<;>try (exfalso;omega))|apply AR|apply AD)<;>conv=>whnf))
 refine BR (λ i=>n-i) (λ(i:Nat)=>i<=n) (λ i=>[(22,.int .i64 i)]) (λ_=>[]) [] [] 0 (by (conv=>whnf);exact ⟨rfl,rfl,rfl⟩) (by omega) ?_;intro i p1 ih;by_cases hi:i<n
 ·obtain ⟨r,o5⟩ : ∃ r,A[i]? = some r:=⟨_,zE (by omega)⟩
  have iz:A[((i:Nat):Int).toNat]? = some r:=o5;have bp:=h.sq.at o5;(repeat' ((first|(apply AG<;>intro hc<;>try (exfalso;omega))|(apply AU;omega)|apply AR|(refine BC (by assumption) ?_ rfl ?_;omega)|apply AD)<;>conv=>whnf))
  exact BF [] (ih (i+1) (by omega) (by omega))
 have ei:i=n:=by omega
 clear ih;rw[ei];rcases z7 with ⟨i0,i1,i2,rfl⟩|⟨i1,rfl⟩
 ·rcases Lm with ⟨fc,rfl⟩|⟨fc,X,hX,_,rfl⟩
  ·(repeat' ((first|(apply AG<;>intro hc<;>try (exfalso;omega))|apply AD|refine AE (Ai) ?_|refine AE (hF) ?_)<;>conv=>whnf))
   exact ⟨_,AZ rfl (HY [] 11),Or.inr ⟨⟨i0,i1,i2⟩,Or.inl ⟨fc,rfl⟩⟩⟩
  ·generalize hQ:kM X n=Q at *
   (repeat' ((first|(apply AG<;>intro hc<;>try (exfalso;omega))|apply AD|refine AE (Ai) ?_|refine AE (hF) ?_)<;>conv=>whnf))
   exact ⟨_,AZ rfl (HY Q 0),Or.inr ⟨⟨i0,i1,i2⟩,Or.inr ⟨fc,X,hX,by rw[hQ]⟩⟩⟩
 ·(repeat' ((first|(apply AG<;>intro hc<;>try (exfalso;omega))|apply AD|refine AE (Ai) ?_)<;>conv=>whnf))
  exact ⟨_,AZ rfl (HY [] 14),Or.inl ⟨i1,rfl⟩⟩
end Go.c5
namespace Go.c5
open F
attribute [local irreducible] AA AF AM AC CI AW AX A5 A6 B3 AQ BS B7 C5 BQ A2 BO B9 AB A9 AJ pw BN BG CH CM CT CP CE BU CK
variable {L:Lib}
set_option maxHeartbeats 16000000
theorem Xc (N:gq L) (q q':Bool) (a:List (List Rat)) (n w:Nat) (hn:a.length=n) (hw : ∀ r∈a,r.length=w) (h1:1<=n/\n<=52) (h2:1<=w/\w<=52):Ev L 239 [.sl q (CX q' a)] (.bool true):=by
 obtain ⟨r0,o5⟩ : ∃ r,a[0]? = some r:=⟨_,zE (by omega)⟩;have Bl:a[(0:Int).toNat]? = some r0:=o5;have ka:=hw r0 (zM o5);refine Ev.x N.NL rfl rfl ?_;(repeat' ((first|(apply AG<;>intro hc<;>try (exfalso;omega))|apply AR|(refine BC (by assumption) ?_ rfl ?_;omega)|apply AD)<;>conv=>whnf))
 refine BR (λ i=>n-i) (λ(i:Nat)=>i<=n) (λ i=>[(29,.int .i64 i)]) (λ_=>[]) [] [] 0 (by (conv=>whnf);exact ⟨rfl,rfl,rfl⟩) (by omega) ?_;intro i p1 ih;by_cases hi:i<n
 ·obtain ⟨r,hr⟩ : ∃ r,a[i]? = some r:=⟨_,zE (by omega)⟩
  have iz:a[(i:Int).toNat]? = some r:=hr;have hl:=hw r (zM hr);(repeat' ((first|(apply AG<;>intro hc<;>try (exfalso;omega))|(apply AU;omega)|apply AR|(refine BC (by assumption) ?_ rfl ?_;omega)|apply AD)<;>conv=>whnf))
  exact BF [] (ih (i+1) (by omega) (by omega))
 ·obtain rfl:i=n:=by omega
  clear ih;(repeat' ((first|(apply AG<;>intro hc<;>try (exfalso;omega))|apply AD)<;>conv=>whnf))
  exact IZ rfl
theorem Xz (N:aq L) {x y:Rat} {k l:Nat} (hx:Bt k x) (hy:Bt l y) (hk:k<2199023255552) (hl:l<2199023255552) (h0:y≠0):Ev L 276 [.agg (eQ x),.agg (eQ y)] (.agg (eQ (x/y))):=by
 have hD:=Yu N.too3 hx hy hk hl h0;refine Ev.x N.NH rfl rfl ?_;(repeat' ((first|(apply AG<;>intro hc<;>try (exfalso;omega))|apply AD|refine AE (hD) ?_)<;>conv=>whnf))
 exact AZ rfl (DH _)
theorem wW {R:List (Option (Nat × List (List AV)))} {e:Nat} {r:Option (Nat × List (List AV))} {K:Option (Nat × List (List AV))->Prop} (h:R[e]? = some r) (hk:K r):BN R e K:=by
 unfold BN;exact ⟨r,h,hk⟩
theorem dU {α:Type} {a b:List α} {j:Nat} {x:α} (hl:a.length=b.length) (hx:b[j]? = some x):(a.take j++b.drop j)[j]? = some x:=by
 have h1:=(zS hx).1;have ht:(a.take j).length=j:=by rw[List.length_take];omega
 rw[List.getElem?_append_right (by omega),ht,Nat.sub_self,List.getElem?_drop];exact hx
theorem dV {α:Type} {a b:List α} {j:Nat} {y:α} (hl:a.length=b.length) (hy:a[j]? = some y):(a.take j++b.drop j).set j y=a.take (j+1)++b.drop (j+1):=by
 have h1:=(zS hy).1;have ht:(a.take j).length=j:=by rw[List.length_take];omega
 rw[List.set_append_right _ _ (by omega),ht,Nat.sub_self,List.drop_eq_getElem_cons (by omega),List.set_cons_zero,List.take_add_one,hy,List.append_assoc];rfl
def EU (k0:Nat):Nat->Nat
 | 0=>k0
 | c+1=>4*EU k0 c+1
theorem sE (k0:Nat) {c:Nat} : ∀ d,EU k0 c<=EU k0 (c+d)
 | 0=>Nat.le_refl _
 | d+1=>by
  have:=sE k0 (c:=c) d
  show EU k0 c<=4*EU k0 (c+d)+1;omega
theorem sF (N:aq L) (q1 q2 q3 q4:Bool) (a b T:List (List Rat)) (n W K:Nat) (hn:1<=n/\n<=10) (hW:1<=W/\W<=10) (hK:K<=10000000000) {m:List (List Rat)} {k c:Nat} {d:Rat} {t:List Rat} (hR:EG T b n W m k c) (hM:Ms K m) (Ex:k<n) (nf:c<n) (ht:m[k]? = some t) (hp:t.getD c 0≠0) {kk:List It} {Q:Tm->Mem->Prop}
  (u9 : ∀ m2:List (List Rat),EG T b n W m2 (k+1) (c+1)->Ms (4*K+1) m2->AA L (.lp GN.l1 :: .e8 0::kk) ([(8,.int .i64 ((c+1:Nat):Int)),(6,.int .i64 ((k+1:Nat):Int)),(7,.ptr 901007 0 0 0),(5,.ptr 901005 0 0 0),(0,.row 277003 0 1 0 n),(0+1,.int .i64 n)]++[(1000+38,.int .i64 n),(1000+37,.sl q1 (CX q2 a)),(1000+36,.row 277003 0 1 0 n),(1000+20,.bool false),(1000+19,.int .i64 n),(1000+18,.int .i64 n),(1000+6,.row 277003 0 1 0 n),(1000+0,.sl q1 (CX q2 a)),(1000+(0+1),.sl q3 (CX q4 b))]) [(277003,277003,.mx (BJ 3 eQ m2)),(901007,901007,.bx (eQ d)),(901005,901005,.bx [.bool false,.nil,.nil])] Q) :
  AA L (.lp GN.l3 :: .e8 4 :: .code ((((BI.ops GN.de false).dr [10,82,83,84,102] []).seq (BI.block 6 GN.l4.loop)).seq ((BI.ops GN.yd false).dr [103,104,105,155,156] [])) :: .e8 1 :: .code ((BI.ops GN.r4 false).dr [9,25,26,48] []) :: .lp GN.l1 :: .e8 0::kk)
   ([(83,.int .i64 ((0:Nat):Int)),(82,.int .i64 ((n+W:Nat):Int)),(10,.ptr 901010 0 0 0),(8,.int .i64 c),(6,.int .i64 k),(7,.ptr 901007 0 0 0),(5,.ptr 901005 0 0 0),(0,.row 277003 0 1 0 n),(0+1,.int .i64 n)]++[(1000+38,.int .i64 n),(1000+37,.sl q1 (CX q2 a)),(1000+36,.row 277003 0 1 0 n),(1000+20,.bool false),(1000+19,.int .i64 n),(1000+18,.int .i64 n),(1000+6,.row 277003 0 1 0 n),(1000+0,.sl q1 (CX q2 a)),(1000+(0+1),.sl q3 (CX q4 b))])
   [(277003,277003,.mx (BJ 3 eQ m)),(901007,901007,.bx (eQ d)),(901010,901010,.bx (eQ (t.getD c 0))),(901005,901005,.bx [.bool false,.nil,.nil])] Q:=by
 have cu:=hR.len;have aw:=hR.wid t (zM ht);have vq:=hM.at ht;have Qe:=Bs.getD vq c;have yn:=JV.start hR ht hp (λ q r hq=>hM.at hq);have Ak:=PO (z:=3) ht;have Jg:(BJ 3 eQ m).length=n:=by simp only[BJ,List.length_map];omega
 have Ch:(BJ 3 eQ m).set k (some (3,(t.map (· / t.getD c 0)).map eQ))=BJ 3 eQ (m.set k (t.map (· / t.getD c 0))):=by simp only[BJ,List.map_set]
 have El:(t.map (· / t.getD c 0)).length=n+W:=by rw[List.length_map];exact aw
 have rl : ∀ (j:Nat) (x:Rat),t[j]? = some x->(t.map (· / t.getD c 0))[j]? = some (x/t.getD c 0):=λ j x hx=>by rw[List.getElem?_map,hx];rfl
 generalize t.map (· / t.getD c 0)=u at *;generalize t.getD c 0=p at *;refine SG (l:=[_,_]) rfl ?_;generalize BJ 3 eQ m=R0 at *;have wk:R0.set k (some (3,t.map eQ))=R0:=gB Ak;refine BR (λ j=>n+W-j) (λ(j:Nat)=>j<=n+W) (λ j=>[(83,.int .i64 j)]) (λ j=>[(277003,277003,.mx (R0.set k (some (3,(u.take j++t.drop j).map eQ))))]) [] [] 0 (by first|exact (by (conv=>whnf);exact ⟨rfl,rfl,rfl⟩)|(rw[List.take_zero,List.drop_zero,List.nil_append,wk];exact (by (conv=>whnf);exact ⟨rfl,rfl,rfl⟩))) (by omega) ?_;intro j j1 jh;have m8:(u.take j++t.drop j).length=n+W:=by rw[List.length_append,List.length_take,List.length_drop];omega
 by_cases hj:j<n+W
 ·obtain ⟨x,hx⟩ : ∃ x,t[j]? = some x:=⟨_,zE (by omega)⟩
  have Fe:=dU (a:=u) (by omega) hx;have kb:=dV (a:=u) (b:=t) (by omega) (rl j x hx);have hO:=Xz N (vq.at hx) Qe (by omega) (by omega) hp;generalize u.take j++t.drop j=cm at *;(repeat' ((first|(apply AG<;>intro hc<;>try (exfalso;omega))|(apply AY;omega)|apply AD)<;>conv=>whnf))
  refine Q6 (by omega) (by omega) ?_;(conv=>whnf)
  (repeat' ((first|(apply AY;omega)|fail)<;>conv=>whnf))
  refine Q6 (by omega) (by omega) ?_;(conv=>whnf)
  skip
  refine AY (by rw[List.length_map];omega) ?_;(conv=>whnf)
  skip
  refine O4 (by omega) (by omega) ?_;(conv=>whnf)
  (repeat' ((first|(refine FU ?_ (λ_=>rfl) (λ v hv => ?_);omega)|fail)<;>conv=>whnf))
  cases Fe.symm.trans hv;(repeat' (refine AE (hO) ?_<;>conv=>whnf))
  refine AY (by rw[List.length_map];omega) ?_;(conv=>whnf)
  skip
  refine O4 (by omega) (by omega) ?_;(conv=>whnf)
  refine FW (enc:=eQ) (x/p) rfl (λ_=>rfl) (by omega) ?_;rw[kb];(conv=>whnf)
  refine XF (by omega) (by rw[List.length_map,List.length_map,<-kb,List.length_set]) ?_;(conv=>whnf)
  (repeat' ((first|(apply AU;omega)|fail)<;>conv=>whnf))
  exact BF [] (jh (j+1) (by omega) (by omega))
 ·have ej:j=n+W:=by omega
  clear jh;rw[ej,List.take_of_length_le (by omega),List.drop_of_length_le (by omega),List.append_nil,Ch];clear m8 hj j1 ej j Ch Ak Jg wk rl El;have gf:=yn.red.len;generalize m.set k u=m2 at *;(repeat' ((first|(apply AG<;>intro hc<;>try (exfalso;omega))|apply AD)<;>conv=>whnf))
  refine SG (l:=[_,_]) rfl ?_;clear ht hM vq hR cu Qe aw t hp;have ig:=yn.red.wid u (zM yn.ht);have mq:=yn.bt;refine F3 (λ_ i=>n-i) (λ(m:List (List Rat)) (i:Nat)=>JV T b n W K k c u m i/\i<=n) (λ_ i=>[(104,.int .i64 i)]) (λ m _=>[(277003,277003,.mx (BJ 3 eQ m))]) [] [] m2 0 (by (conv=>whnf);exact ⟨rfl,rfl,rfl⟩) ⟨yn,by omega⟩ ?_;clear yn gf;intro m i ⟨hS,i1⟩ ih;have cu:=hS.red.len;by_cases hi:i<n
  ·obtain ⟨rq,fe⟩ : ∃ r,m[i]? = some r:=⟨_,zE (by omega)⟩
   have vn:=hS.red.wid rq (zM fe);have qu:Bs (2*K) rq:=by
    by_cases e:i=k
    ·have h1:=hS.ht
     rw[<-e]at h1;cases h1.symm.trans fe;exact mq
    ·exact λ y hy=>(hS.hi i rq (Nat.le_refl _) e fe y hy).le (by omega)
   have qw:rq[c]? = some (rq.getD c 0):=QK (by omega);have Em:=qu.at qw;obtain ⟨sg,wo,hz⟩:=nX N.too3 Em (by omega);by_cases mg:i=k
   ·have j6:=hS.same (λ h=>absurd mg h)
    generalize rq.getD c 0=f at *;(repeat' ((first|(apply AG<;>intro hc<;>try (exfalso;omega))|(apply AY;omega)|(refine FM ?_ (λ r hr => ?_);omega)|apply AD)<;>conv=>whnf))
    cases fe.symm.trans hr;refine AY (by rw[List.length_map];omega) ?_;(conv=>whnf)
    (repeat' ((first|(apply AG<;>intro hc<;>try (exfalso;omega))|(apply AU;omega)|(refine FU ?_ (λ_=>rfl) (λ v hv => ?_);omega)|refine F6 (by assumption) ?_)<;>conv=>whnf))
    exact BF [] (ih m (i+1) (by omega) ⟨j6,by omega⟩)
   ·by_cases rb:sg=0
    ·have Kl:=hz.1 rb
     have j6:=hS.same (λ_ r h=>by cases fe.symm.trans h;exact Kl);generalize rq.getD c 0=f at *;(repeat' ((first|(apply AG<;>intro hc<;>try (exfalso;omega))|(apply AY;omega)|(refine FM ?_ (λ r hr => ?_);omega)|apply AD)<;>conv=>whnf))
     cases fe.symm.trans hr;refine AY (by rw[List.length_map];omega) ?_;(conv=>whnf)
     (repeat' ((first|(apply AG<;>intro hc<;>try (exfalso;omega))|(refine FU ?_ (λ_=>rfl) (λ v hv => ?_);omega)|refine F6 (by assumption) ?_)<;>conv=>whnf))
     cases qw.symm.trans hv;(repeat' ((first|(apply AG<;>intro hc<;>try (exfalso;omega))|(apply AU;omega)|refine AE (wo) ?_)<;>conv=>whnf))
     exact BF [] (ih m (i+1) (by omega) ⟨j6,by omega⟩)
    ·have j6:=hS.step fe mg
     have Ak:=PO (z:=3) fe;have hRk:=PO (z:=3) hS.ht;have Jg:(BJ 3 eQ m).length=n:=by simp only[BJ,List.length_map];omega
     have Ch:(BJ 3 eQ m).set i (some (3,(jk (rq.getD c 0) rq u).map eQ))=BJ 3 eQ (m.set i (jk (rq.getD c 0) rq u)):=by simp only[BJ,List.map_set]
     have m8:(jk (rq.getD c 0) rq u).length=n+W:=by rw[bF (by omega)];exact vn
     have lq : ∀ (j:Nat) (x y:Rat),rq[j]? = some x->u[j]? = some y->(jk (rq.getD c 0) rq u)[j]? = some (x-rq.getD c 0*y):=λ j x y h1 h2=>kO h1 h2
     generalize jk (rq.getD c 0) rq u=cb at *;generalize rq.getD c 0=f at *;(repeat' ((first|(apply AG<;>intro hc<;>try (exfalso;omega))|(apply AY;omega)|(refine FM ?_ (λ r hr => ?_);omega)|apply AD)<;>conv=>whnf))
     cases fe.symm.trans hr;refine AY (by rw[List.length_map];omega) ?_;(conv=>whnf)
     (repeat' ((first|(apply AG<;>intro hc<;>try (exfalso;omega))|(refine FU ?_ (λ_=>rfl) (λ v hv => ?_);omega)|refine F6 (by assumption) ?_)<;>conv=>whnf))
     cases qw.symm.trans hv;(repeat' ((first|(apply AG<;>intro hc<;>try (exfalso;omega))|(apply AY;omega)|(refine FM ?_ (λ r hr => ?_);omega)|refine AE (wo) ?_)<;>conv=>whnf))
     cases fe.symm.trans hr;rw[show (rq.map eQ).length=n+W by rw[List.length_map];exact vn];generalize BJ 3 eQ m=R1 at *;have wk:R1.set i (some (3,rq.map eQ))=R1:=gB Ak;refine BR (λ j=>n+W-j) (λ(j:Nat)=>j<=n+W) (λ j=>[(127,.int .i64 j)]) (λ j=>[(277003,277003,.mx (R1.set i (some (3,(cb.take j++rq.drop j).map eQ))))]) [] [] 0 (by first|exact (by (conv=>whnf);exact ⟨rfl,rfl,rfl⟩)|(rw[List.take_zero,List.drop_zero,List.nil_append,wk];exact (by (conv=>whnf);exact ⟨rfl,rfl,rfl⟩))) (by omega) ?_;intro j j1 jh;have Kb:(cb.take j++rq.drop j).length=n+W:=by rw[List.length_append,List.length_take,List.length_drop];omega
     by_cases hj:j<n+W
     ·obtain ⟨x,hx⟩ : ∃ x,rq[j]? = some x:=⟨_,zE (by omega)⟩
      obtain ⟨y,hy⟩ : ∃ y,u[j]? = some y:=⟨_,zE (by omega)⟩;have Fe:=dU (a:=cb) (by omega) hx;have kb:=dV (a:=cb) (b:=rq) (by omega) (lq j x y hx hy);have Dm:=KP N.toa9 Em (mq.at hy) (by omega) (by omega);have Dx:=nY N.too3 (qu.at hx) (Em.mul (mq.at hy)) (by omega) (by omega);generalize cb.take j++rq.drop j=cm at *;have Dt:(R1.set i (some (3,cm.map eQ)))[k]? = some (some (3,u.map eQ)):=by rw[List.getElem?_set,if_neg mg];exact hRk
      (repeat' ((first|(apply AG<;>intro hc<;>try (exfalso;omega))|(apply AY;omega)|apply AD)<;>conv=>whnf))
      refine Q6 (by omega) (by omega) ?_;(conv=>whnf)
      (repeat' ((first|(apply AY;omega)|fail)<;>conv=>whnf))
      refine Q6 (by omega) (by omega) ?_;(conv=>whnf)
      skip
      refine AY (by rw[List.length_map];omega) ?_;(conv=>whnf)
      skip
      refine O4 (by omega) (by omega) ?_;(conv=>whnf)
      (repeat' ((first|(apply AY;omega)|(refine FU ?_ (λ_=>rfl) (λ v hv => ?_);omega))<;>conv=>whnf))
      cases Fe.symm.trans hv;skip
      refine wW (r:=some (3,u.map eQ)) (by rw[show 0+((k:Nat):Int).toNat=k by omega];exact Dt) ?_;(conv=>whnf)
      skip
      refine AY (by rw[List.length_map];omega) ?_;(conv=>whnf)
      skip
      refine W4 (by rw[show 0+((k:Nat):Int).toNat=k by omega];exact Dt) ?_;(conv=>whnf)
      (repeat' ((first|(refine FU ?_ (λ_=>rfl) (λ v hv => ?_);omega)|fail)<;>conv=>whnf))
      cases hy.symm.trans hv;(repeat' ((first|refine AE (Dm) ?_|refine AE (Dx) ?_)<;>conv=>whnf))
      refine AY (by rw[List.length_map];omega) ?_;(conv=>whnf)
      skip
      refine O4 (by omega) (by omega) ?_;(conv=>whnf)
      refine FW (enc:=eQ) (x-f*y) rfl (λ_=>rfl) (by omega) ?_;rw[kb];(conv=>whnf)
      refine XF (by omega) (by rw[List.length_map,List.length_map,<-kb,List.length_set]) ?_;(conv=>whnf)
      (repeat' ((first|(apply AU;omega)|fail)<;>conv=>whnf))
      exact BF [] (jh (j+1) (by omega) (by omega))
     ·have ej:j=n+W:=by omega
      clear jh;rw[ej,List.take_of_length_le (by omega),List.drop_of_length_le (by omega),List.append_nil,Ch];(repeat' ((first|(apply AG<;>intro hc<;>try (exfalso;omega))|(apply AU;omega)|apply AD)<;>conv=>whnf))
      exact BF [] (ih (m.set i cb) (i+1) (by omega) ⟨j6,by omega⟩)
  ·have ei:i=n:=by omega
   rw[ei]at hS;obtain ⟨g1,g2⟩:=hS.fin nf;clear ih;(repeat' ((first|(apply AG<;>intro hc<;>try (exfalso;omega))|(apply AU;omega)|apply AD)<;>conv=>whnf))
   exact BZ [] (by (conv=>whnf);exact ⟨rfl,rfl,rfl⟩) (u9 m g1 (λ r hr=>by
    obtain ⟨q,hq⟩:=List.getElem?_of_mem hr;exact g2 q r hq))
theorem AfR (N:aq L) (q1 q2 q3 q4:Bool) (a b T:List (List Rat)) (n W k0:Nat) (hn:1<=n/\n<=10) (hW:1<=W/\W<=10) (fi:b.length=n) (hB:10*EU k0 n<=100000000000) (hT:Sq n T) {m0:List (List Rat)} (Ds:EG T b n W m0 0 0) (Jb:Ms k0 m0) {kk:List It} {Q:Tm->Mem->Prop}
  (u9 : ∀ (m:List (List Rat)) (k c:Nat) (d:Rat),EG T b n W m k c->(k<n/\c=n\/k=n/\c=n)->Ms (EU k0 n) m->Bt 100000000000 d->AA L kk ([(8,.int .i64 c),(6,.int .i64 k),(7,.ptr 901007 0 0 0),(5,.ptr 901005 0 0 0),(0,.row 277003 0 1 0 n),(0+1,.int .i64 n)]++[(1000+38,.int .i64 n),(1000+37,.sl q1 (CX q2 a)),(1000+36,.row 277003 0 1 0 n),(1000+20,.bool false),(1000+19,.int .i64 n),(1000+18,.int .i64 n),(1000+6,.row 277003 0 1 0 n),(1000+0,.sl q1 (CX q2 a)),(1000+(0+1),.sl q3 (CX q4 b))]) [(277003,277003,.mx (BJ 3 eQ m)),(901007,901007,.bx (eQ d)),(901005,901005,.bx [.bool false,.nil,.nil])] Q) :
  AA L (.lp GN.l1 :: .e8 0::kk) ([(8,.int .i64 ((0:Nat):Int)),(6,.int .i64 ((0:Nat):Int)),(7,.ptr 901007 0 0 0),(5,.ptr 901005 0 0 0),(0,.row 277003 0 1 0 n),(0+1,.int .i64 n)]++[(1000+38,.int .i64 n),(1000+37,.sl q1 (CX q2 a)),(1000+36,.row 277003 0 1 0 n),(1000+20,.bool false),(1000+19,.int .i64 n),(1000+18,.int .i64 n),(1000+6,.row 277003 0 1 0 n),(1000+0,.sl q1 (CX q2 a)),(1000+(0+1),.sl q3 (CX q4 b))]) [(277003,277003,.mx (BJ 3 eQ m0)),(901007,901007,.bx (eQ ((1:Int):Rat))),(901005,901005,.bx [.bool false,.nil,.nil])] Q:=by
 refine SG (l:=[_,_]) rfl ?_;refine Z8 (λ_ c _ _=>n-c) (λ(m:List (List Rat)) (c k:Nat) (d:Rat)=>EG T b n W m k c/\Ms (EU k0 c) m/\Bt (c*EU k0 n) d) (λ_ c k _=>[(8,.int .i64 c),(6,.int .i64 k)]) (λ m _ _ d=>[(277003,277003,.mx (BJ 3 eQ m)),(901007,901007,.bx (eQ d))]) [24] [] m0 0 0 ((1:Int):Rat) (by (conv=>whnf);exact ⟨rfl,rfl,rfl⟩) ⟨Ds,Jb,Bt.one _⟩ ?_;intro m c k d ⟨hR,hM,hd⟩ eh;have cu:=hR.len;have La:=hR.le;have AlK:=hR.cn;have Od:=sE k0 (c:=c) (n-c);rw[show c+(n-c)=n by omega]at Od;have hcX:c*EU k0 n<=10*EU k0 n:=Nat.mul_le_mul_right _ (by omega);by_cases nf:c<n/\k<n
 ·(repeat' ((first|(apply AG<;>intro hc<;>try (exfalso;omega))|apply AD)<;>conv=>whnf))
  refine BR (λ i=>n-i) (λ(i:Nat)=>k<=i/\i<=n /\ ∀ (q:Nat) (r:List Rat),k<=q->q<i->m[q]? = some r->r.getD c 0=0) (λ i=>[(9,.int .i64 i)]) (λ_=>[]) [] [] k (by (conv=>whnf);exact ⟨rfl,rfl,rfl⟩) ⟨Nat.le_refl _,by omega,λ q r h1 h2=>absurd h2 (by omega)⟩ ?_;intro i ⟨i1,i2,i3⟩ ih;by_cases hi:i<n
  ·obtain ⟨rp,o5⟩ : ∃ r,m[i]? = some r:=⟨_,zE (by omega)⟩
   have bp:=hR.wid rp (zM o5);have ja:rp[c]? = some (rp.getD c 0):=QK (by omega);obtain ⟨sg,wo,hz⟩:=nX N.too3 (hM.at o5 _ (zM ja)) (by omega);generalize ml:rp.getD c 0=rc at *;by_cases rb:sg=0
   ·(repeat' ((first|(apply AG<;>intro hc<;>try (exfalso;omega))|(apply AY;omega)|(refine FM ?_ (λ r hr => ?_);omega)|apply AD)<;>conv=>whnf))
    cases o5.symm.trans hr;refine AY (by rw[List.length_map];omega) ?_;(conv=>whnf)
    (repeat' ((first|(refine FU ?_ (λ_=>rfl) (λ v hv => ?_);omega)|refine F6 (by assumption) ?_)<;>conv=>whnf))
    cases ja.symm.trans hv;(repeat' ((first|(apply AG<;>intro hc<;>try (exfalso;omega))|(apply AU;omega)|refine AE (wo) ?_)<;>conv=>whnf))
    have i4 : ∀ (q:Nat) (r:List Rat),k<=q->q<i+1->m[q]? = some r->r.getD c 0=0:=λ q r h1 h2 h3=>by
     by_cases e:q=i
     ·subst e
      cases o5.symm.trans h3;rw[ml];exact hz.1 rb
     ·exact i3 q r h1 (by omega) h3
    exact BF [] (ih (i+1) (by omega) ⟨by omega,by omega,i4⟩)
   ·clear ih i3
    have Fi:rc≠0:=λ e=>rb (hz.2 e)
    obtain ⟨t,vp⟩ : ∃ t,m[k]? = some t:=⟨_,zE (by omega)⟩;have wj:=hM.at o5 _ (zM ja);by_cases mg:i=k
    ·have Dm:=KP N.toa9 hd wj (by omega) (by omega)
     have Ke:Bt ((c+1)*EU k0 n) (d*rc):=(hd.mul wj).le (by rw[Nat.succ_mul];omega);subst mg;(repeat' ((first|(apply AG<;>intro hc<;>try (exfalso;omega))|(apply AY;omega)|(refine FM ?_ (λ r hr => ?_);omega)|apply AD)<;>conv=>whnf))
     cases o5.symm.trans hr;refine AY (by rw[List.length_map];omega) ?_;(conv=>whnf)
     (repeat' ((first|(refine FU ?_ (λ_=>rfl) (λ v hv => ?_);omega)|refine F6 (by assumption) ?_)<;>conv=>whnf))
     cases ja.symm.trans hv;(repeat' ((first|(apply AG<;>intro hc<;>try (exfalso;omega))|(apply AY;omega)|(refine FM ?_ (λ r hr => ?_);omega)|refine AE (wo) ?_)<;>conv=>whnf))
     cases o5.symm.trans hr;refine AY (by rw[List.length_map];omega) ?_;(conv=>whnf)
     (repeat' ((first|(refine FU ?_ (λ_=>rfl) (λ v hv => ?_);omega)|refine F6 (by assumption) ?_)<;>conv=>whnf))
     cases ja.symm.trans hv;(repeat' ((first|(apply AY;omega)|(refine FM ?_ (λ r hr => ?_);omega)|refine AE (Dm) ?_)<;>conv=>whnf))
     cases o5.symm.trans hr;rw[show (rp.map eQ).length=n+W by rw[List.length_map];exact bp];subst ml;exact BZ [] (by (conv=>whnf);exact ⟨rfl,rfl,rfl⟩) (sF N q1 q2 q3 q4 a b T n W (EU k0 c) hn hW (by omega) hR hM nf.2 nf.1 o5 Fi λ m2 g1 g2=>BZ [] (by (conv=>whnf);exact ⟨rfl,rfl,rfl⟩) (eh m2 (c+1) (i+1) _ (by omega) ⟨g1,g2,Ke⟩))
    ·have hNg:=YI N.too3 hd (by omega)
     have Dm:=KP N.toa9 (Bt.uz hd) wj (by omega) (by omega);have Ke:Bt ((c+1)*EU k0 n) (-d*rc):=((Bt.uz hd).mul wj).le (by rw[Nat.succ_mul];omega);refine vL 24 ?_;(conv=>whnf)
     (repeat' ((first|(apply AG<;>intro hc<;>try (exfalso;omega))|(apply AY;omega)|(refine FM ?_ (λ r hr => ?_);omega))<;>conv=>whnf))
     cases o5.symm.trans hr;refine AY (by rw[List.length_map];omega) ?_;(conv=>whnf)
     (repeat' ((first|(refine FU ?_ (λ_=>rfl) (λ v hv => ?_);omega)|refine F6 (by assumption) ?_)<;>conv=>whnf))
     cases ja.symm.trans hv;(repeat' ((first|(apply AG<;>intro hc<;>try (exfalso;omega))|(apply AY;omega)|(refine FM ?_ (λ r hr => ?_);omega)|refine F6 (by assumption) ?_|refine AE (wo) ?_)<;>conv=>whnf))
     refine AY ⟨rfl,by simp only[BJ,List.length_map];omega⟩ ?_;(conv=>whnf)
     (repeat' ((first|(apply AY;omega)|refine F6 (by assumption) ?_)<;>conv=>whnf))
     rw[show 0+((i:Nat):Int).toNat=i by omega,show 0+((k:Nat):Int).toNat=k by omega];refine AY ⟨rfl,by simp only[BJ,List.length_map,List.length_set,List.length_range];omega,vA (by simp only[BJ,List.length_map];omega)⟩ ?_;(conv=>whnf)
     refine iJ (k:=277003) (i:=i) (j:=k) rfl (PO o5) (PO vp) rfl rfl ?_;rw[qQ];have Jf:=hR.swap o5 vp i1;have cr:Ms (EU k0 c) ((m.set i t).set k rp):=λ x hx=>by
      rcases List.mem_or_eq_of_mem_set hx with h|rfl
      ·rcases List.mem_or_eq_of_mem_set h with h|rfl
       ·exact hM x h
       ·exact hM.at vp
      ·exact hM.at o5
     have ia:((m.set i t).set k rp)[k]? = some rp:=by rw[List.getElem?_set,if_pos rfl,if_pos (by rw[List.length_set];omega)]
     have ue:=Jf.len;generalize (m.set i t).set k rp=m1 at *;(repeat' ((first|(apply AY;omega)|(refine FM ?_ (λ r hr => ?_);omega)|apply AD|refine AE (hNg) ?_)<;>conv=>whnf))
     cases ia.symm.trans hr;refine AY (by rw[List.length_map];omega) ?_;(conv=>whnf)
     (repeat' ((first|(refine FU ?_ (λ_=>rfl) (λ v hv => ?_);omega)|refine F6 (by assumption) ?_)<;>conv=>whnf))
     cases ja.symm.trans hv;(repeat' ((first|(apply AY;omega)|(refine FM ?_ (λ r hr => ?_);omega)|refine AE (Dm) ?_)<;>conv=>whnf))
     cases ia.symm.trans hr;rw[show (rp.map eQ).length=n+W by rw[List.length_map];exact bp];subst ml;exact BZ [] (by (conv=>whnf);exact ⟨rfl,rfl,rfl⟩) (sF N q1 q2 q3 q4 a b T n W (EU k0 c) hn hW (by omega) Jf cr nf.2 nf.1 ia Fi λ m2 g1 g2=>BZ [] (by (conv=>whnf);exact ⟨rfl,rfl,rfl⟩) (eh m2 (c+1) (k+1) _ (by omega) ⟨g1,g2,Ke⟩))
  ·have ei:i=n:=by omega
   clear ih;have i4 : ∀ (q:Nat) (r:List Rat),k<=q->m[q]? = some r->r.getD c 0=0:=λ q r h1 h3=>i3 q r h1 (by have:=(zS h3).1;omega) h3
   have hR9:=hR.skip hT fi nf.1 i4;clear i3 i4;(repeat' ((first|(apply AG<;>intro hc<;>try (exfalso;omega))|(apply AU;omega)|apply AD)<;>conv=>whnf))
   exact BZ [] (by (conv=>whnf);exact ⟨rfl,rfl,rfl⟩) (eh m (c+1) k d (by omega) ⟨hR9,hM.le (show EU k0 c<=4*EU k0 c+1 by omega),hd.le (Nat.mul_le_mul_right _ (by omega))⟩)
 ·clear eh
  have Ez:k<n/\c=n\/k=n/\c=n:=by omega
  (repeat' ((first|(apply AG<;>intro hc<;>try (exfalso;omega))|apply AD)<;>conv=>whnf))
  exact BZ [] (by (conv=>whnf);exact ⟨rfl,rfl,rfl⟩) (u9 m k c d hR Ez (hM.le Od) (hd.le (by omega)))
theorem Ys (N:aq L) (q1 q2 q3 q4:Bool) (a b:List (List Rat)) (n W k:Nat) (hT:Sq n a) (fi:b.length=n) (qm : ∀ r∈b,r.length=W) (gl:Ms k b) (hn:1<=n/\n<=10) (hW:1<=W/\W<=10) (gk:Ms k a) (hk:k<=1000) (hB:10*EU k n<=100000000000) :
  ∃ v,Ev L 278 [.sl q1 (CX q2 a),.sl q3 (CX q4 b)] v/\((¬ NS n a/\v = .g7 [.sl false [],.int .i64 11])\/(NS n a /\ ∃ m:List (List Rat),v = .g7 [.sl false (eM (m.map (·.drop n))),.int .i64 0]/\EG a b n W m n n/\Ms (EU k n) m)):=by
 have z0:=hT.l;have kn : ∀ r∈a,r.length=n:=hT.r;have Ds:EG a b n W (CO a b) 0 0:=EG.start hT fi qm;have aj:(CO a b).length=n:=by simp [CO,z0,fi]
 obtain ⟨Hk,zd⟩:=AeH kn qm gk gl;have hI:=VE N.toa9 1 (by omega);refine Ev.xE N.NM rfl rfl ?_;(repeat' (apply AD<;>conv=>whnf))
 refine GF 1000 N.NN rfl rfl ?_;(repeat' ((first|apply AR|apply AD)<;>conv=>whnf))
 refine WU 277003 277003 rfl ?_;refine BR (λ i=>n-i) (λ(i:Nat)=>i<=n) (λ i=>[(11,.int .i64 i),(3,.row 277003 0 1 0 i)]) (λ i=>[(277003,277003,.mx (BJ 3 eQ (a.take i)))]) [] [] 0 (by (conv=>whnf);exact ⟨rfl,rfl,rfl⟩) (by omega) ?_;intro i p1 ih;have Hu:(a.take i).length=i:=by rw[List.length_take];omega
 by_cases hi:i<n
 ·obtain ⟨r,hr⟩ : ∃ r,a[i]? = some r:=⟨_,zE (by omega)⟩
  have iz:a[(i:Int).toNat]? = some r:=hr;have bp:=kn r (zM hr);have ic:=gk.at hr;have hts:=UA hr;generalize a.take i=R0 at *;(repeat' ((first|(apply AG<;>intro hc<;>try (exfalso;omega))|apply AR|(refine BC (by assumption) ?_ rfl ?_;omega)|apply AD)<;>conv=>whnf))
  refine BR (λ j=>n-j) (λ(j:Nat)=>j<=n) (λ j=>[(17,.int .i64 j),(6,.row 277006 0 3 0 j)]) (λ j=>[(277006,277006,.rw 3 ((r.take j).map eQ))]) [] [] 0 (by (conv=>whnf);exact ⟨rfl,rfl,rfl⟩) (by omega) ?_;intro j p2 jh;have Br:(r.take j).length=j:=by rw[List.length_take];omega
  by_cases hj:j<n
  ·obtain ⟨x,hx⟩ : ∃ x,r[j]? = some x:=⟨_,zE (by omega)⟩
   have fm:r[(j:Int).toNat]? = some x:=hx;have kb:=UA hx;have hT:=YK N.toa9 (ic.at hx) (by omega);generalize r.take j=M0 at *;(repeat' ((first|(apply AG<;>intro hc<;>try (exfalso;omega))|(refine BC (by assumption) ?_ rfl ?_;omega)|apply D9|apply AD|refine AE (hT) ?_)<;>conv=>whnf))
   refine EO (enc:=eQ) x rfl Br.symm rfl (by omega) (by omega) ?_;(conv=>whnf)
   (repeat' ((first|(apply AU;omega)|fail)<;>conv=>whnf))
   rw[<-kb,show (r.take (j+1)).length=j+1 by rw[List.length_take];omega];exact BF [(277006,277025)] (jh (j+1) (by omega) (by omega))
  ·obtain rfl:j=n:=by omega
   clear jh;rw[List.take_of_length_le (by omega)];(repeat' ((first|(apply AG<;>intro hc<;>try (exfalso;omega))|apply AD)<;>conv=>whnf))
   refine AY (by rw[List.length_map,bp]) ?_;refine SI (r:=r) (en:=eQ) Hu.symm (by omega) (by omega) ?_;rw[<-hts,show (a.take (i+1)).length=i+1 by rw[List.length_take];omega];(conv=>whnf)
   (repeat' ((first|(apply AU;omega)|fail)<;>conv=>whnf))
   exact BF [(277003,277030)] (ih (i+1) (by omega) (by omega))
 ·obtain rfl:i=n:=by omega
  clear ih;rw[List.take_of_length_le (by omega)];(repeat' ((first|(apply AG<;>intro hc<;>try (exfalso;omega))|apply AD)<;>conv=>whnf))
  refine ⟨rfl,_,rfl,?_⟩;(conv=>whnf)
  skip
  refine BR (λ j=>i-j) (λ(j:Nat)=>j<=i) (λ j=>[(19,.int .i64 j)]) (λ j=>[(277003,277003,.mx (BJ 3 eQ ((CO a b).take j++a.drop j)))]) [] [] 0 (by first|exact (by (conv=>whnf);exact ⟨rfl,rfl,rfl⟩)|(rw[List.take_zero,List.drop_zero,List.nil_append];exact (by (conv=>whnf);exact ⟨rfl,rfl,rfl⟩))) (by omega) ?_;intro j p2 jh;have cu:((CO a b).take j++a.drop j).length=i:=by rw[List.length_append,List.length_take,List.length_drop];omega
  by_cases hj:j<i
  ·obtain ⟨r,o5⟩ : ∃ r,a[j]? = some r:=⟨_,zE (by omega)⟩
   obtain ⟨s,ck⟩ : ∃ s,b[j]? = some s:=⟨_,zE (by omega)⟩;have Mc:b[(j:Int).toNat]? = some s:=ck;have bp:=kn r (zM o5);have zj:=qm s (zM ck);have hRj:=dU (a:=CO a b) (by omega) o5;have hRs:=dV (a:=CO a b) (b:=a) (by omega) (QM o5 ck);generalize (CO a b).take j++a.drop j=R0 at *;(repeat' ((first|(apply AG<;>intro hc<;>try (exfalso;omega))|(apply AY;omega)|(refine BC (by assumption) ?_ rfl ?_;omega)|(refine FM ?_ (λ r hr => ?_);omega)|refine F6 (by assumption) ?_|apply AD)<;>conv=>whnf))
   cases hRj.symm.trans hr;refine WY (enc:=eQ) (by rw[List.length_map]) (λ_=>rfl) (by omega) (by omega) ?_;intro s' v;(conv=>whnf)
   (repeat' ((first|(apply AY;omega)|fail)<;>conv=>whnf))
   refine AY ⟨rfl,by rw[List.length_map]⟩ ?_;refine SS (i:=j) (by omega) (by rw[List.length_set];simp only[BJ,List.length_map];omega) ?_;rw[show 0+((j:Int)).toNat=j by omega,List.set_set,show (BJ 3 eQ R0).set j (some (3,(r++s).map eQ))=BJ 3 eQ (R0.set j (r++s)) by simp only[BJ,List.map_set],hRs];(conv=>whnf)
   (repeat' ((first|(apply AU;omega)|fail)<;>conv=>whnf))
   exact BF [] (jh (j+1) (by omega) (by omega))
  ·have ej:j=i:=by omega
   clear jh;rw[ej,List.take_of_length_le (by omega),List.drop_of_length_le (by omega),List.append_nil];(repeat' ((first|(apply AG<;>intro hc<;>try (exfalso;omega))|apply AR|apply AD)<;>conv=>whnf))
   rw[z0];refine EW 1000 N.GN rfl rfl ?_;(repeat' ((first|apply AD|refine AE (hI) ?_)<;>conv=>whnf))
   refine BZ [] (by (conv=>whnf);exact ⟨rfl,rfl,rfl⟩) (AfR N q1 q2 q3 q4 a b a i W k hn hW fi hB hT Ds zd (λ m k2 c2 d h1 h2 h3 h4 => ?_));by_cases ia:k2<i
   ·(repeat' (apply AD<;>conv=>whnf))
    refine ⟨rfl,?_⟩;(conv=>whnf)
    (repeat' ((first|(apply AG<;>intro hc<;>try (exfalso;omega))|apply AR)<;>conv=>whnf))
    exact ⟨_,AZ rfl (by simp only[A4,CW,F5,true_and,and_true]),Or.inl ⟨h1.sk (by omega),rfl⟩⟩
   ·have Ex:k2=i/\c2=i:=by omega
    obtain ⟨rfl,rfl⟩:=Ex;(repeat' (apply AD<;>conv=>whnf))
    refine ⟨rfl,?_⟩;(conv=>whnf)
    (repeat' ((first|(apply AG<;>intro hc<;>try (exfalso;omega))|apply AR)<;>conv=>whnf))
    refine WU 10 10 rfl ?_;have ue:=h1.len;have fc:NS c2 a:=h1.nsT hT;have u9 : ∀ r:AV,r = .g7 [.sl false (eM (m.map (·.drop c2))),.int .i64 0]->((¬ NS c2 a/\r = .g7 [.sl false [],.int .i64 11])\/(NS c2 a /\ ∃ m:List (List Rat),r = .g7 [.sl false (eM (m.map (·.drop c2))),.int .i64 0]/\EG a b c2 W m c2 c2/\Ms (EU k c2) m)):=λ r hr=>Or.inr ⟨fc,m,hr,h1,h3⟩
    have yp:(m.map (·.drop c2)).length=c2:=by rw[List.length_map];exact ue
    have Jn : ∀ (q:Nat) (r:List Rat),m[q]? = some r->(m.map (·.drop c2))[q]? = some (r.drop c2):=λ q r hq=>by rw[List.getElem?_map,hq];rfl
    generalize m.map (·.drop c2)=U at *;refine BR (λ i=>c2-i) (λ(i:Nat)=>i<=c2) (λ i=>[(48,.int .i64 i),(10,.row 10 0 1 0 i)]) (λ i=>[(10,10,.mx (BJ 3 eQ (U.take i)))]) [] [] 0 (by (conv=>whnf);exact ⟨rfl,rfl,rfl⟩) (by omega) ?_;intro i i1 ih;have Mo:(U.take i).length=i:=by rw[List.length_take];omega
    by_cases kp:i<c2
    ·obtain ⟨rp,o5⟩ : ∃ r,m[i]? = some r:=⟨_,zE (by omega)⟩
     have bp:=h1.wid rp (zM o5);have ic:=h3.at o5;have hut:=UA (Jn i rp o5);have El:(rp.drop c2).length=W:=by rw[List.length_drop];omega
     have rl : ∀ (j:Nat),(rp.drop c2)[j]? = rp[c2+j]? := λ j=>by rw[List.getElem?_drop]
     generalize U.take i=R0 at *;(repeat' ((first|(apply AG<;>intro hc<;>try (exfalso;omega))|(apply AY;omega)|apply AR|(refine FM ?_ (λ r hr => ?_);omega)|apply AD)<;>conv=>whnf))
     cases o5.symm.trans hr;refine wM c2 (by omega) (by rw[List.length_map];omega) ?_;rw[List.length_map,show rp.length=c2+W from bp];(conv=>whnf)
     skip
     refine BR (λ j=>W-j) (λ(j:Nat)=>j<=W) (λ j=>[(59,.int .i64 j),(12,.row 12 0 3 0 j)]) (λ j=>[(12,12,.rw 3 (((rp.drop c2).take j).map eQ))]) [] [] 0 (by (conv=>whnf);exact ⟨rfl,rfl,rfl⟩) (by omega) ?_;intro j j1 jh;have Br:((rp.drop c2).take j).length=j:=by rw[List.length_take];omega
     by_cases hj:j<W
     ·obtain ⟨x,hx⟩ : ∃ x,(rp.drop c2)[j]? = some x:=⟨_,zE (by omega)⟩
      have fm:=hx;rw[rl]at fm;have kb:=UA hx;have Gy:=YK N.toa9 (ic.at fm) (by omega);generalize (rp.drop c2).take j=M0 at *;(repeat' ((first|(apply AG<;>intro hc<;>try (exfalso;omega))|(apply AY;omega)|refine F6 (by assumption) ?_|apply AD)<;>conv=>whnf))
      refine SP (enc:=eQ) (e:=x) (l:=rp) (by rw[show 0+c2+((j:Nat):Int).toNat=c2+j by omega];exact fm) rfl ?_;(conv=>whnf)
      (repeat' ((first|apply D9|refine AE (Gy) ?_)<;>conv=>whnf))
      refine EO (enc:=eQ) x rfl Br.symm rfl (by omega) (by omega) ?_;(conv=>whnf)
      (repeat' ((first|(apply AU;omega)|fail)<;>conv=>whnf))
      rw[<-kb,show ((rp.drop c2).take (j+1)).length=j+1 by rw[List.length_take];omega];exact BF [(12,67)] (jh (j+1) (by omega) (by omega))
     ·have ej:j=W:=by omega
      clear jh;rw[ej,List.take_of_length_le (by omega)];(repeat' ((first|(apply AG<;>intro hc<;>try (exfalso;omega))|apply AD)<;>conv=>whnf))
      refine AY (by rw[List.length_map,El]) ?_;refine SI (r:=rp.drop c2) (en:=eQ) Mo.symm (by omega) (by omega) ?_;rw[<-hut,show (U.take (i+1)).length=i+1 by rw[List.length_take];omega];(conv=>whnf)
      (repeat' ((first|(apply AU;omega)|fail)<;>conv=>whnf))
      exact BF [(10,72)] (ih (i+1) (by omega) (by omega))
    ·have ei:i=c2:=by omega
     clear ih;rw[ei,List.take_of_length_le (by omega)];(repeat' ((first|(apply AG<;>intro hc<;>try (exfalso;omega))|apply AD)<;>conv=>whnf))
     refine ⟨.g7 [.sl false (eM U),.int .i64 0],?_,u9 _ rfl⟩;(conv=>whnf)
     refine I2 (λ_=>rfl) rfl yp.symm ?_;(conv=>whnf)
     exact AZ rfl (HY U 0)
end Go.c5











namespace Go.c5
open F
attribute [local irreducible] AA AF AM AC CI AW AX A5 A6 B3 AQ BS B7 C5 BQ A2 BO B9 AB A9 AJ pw BN BG CH CM CT CP CE BU CK
variable {L:Lib}
set_option maxHeartbeats 32000000
set_option maxRecDepth 8000
theorem Vn (x:Rat):eQ (FN x)=[.bool false,.sl false ((dg x.num.natAbs).map AL),.sl false ((dg x.den).map AL)]:=by
 unfold FN;by_cases h:x.num<0
 ·rw[if_pos h]
  show rQ false false (decide ((-x).num<0)) _ _=_;rw[Rat.neg_num,Int.natAbs_neg,Rat.neg_den,show decide (-x.num<0)=false from decide_eq_false (by omega)]
 ·rw[if_neg h]
  show rQ false false (decide (x.num<0)) _ _=_;rw[show decide (x.num<0)=false from decide_eq_false h]
theorem Xd (N:cf L) {x:Rat} {k:Nat} (hx:Bt k x) (hk:k<2199023255552):Ev L 309 [.agg (eQ x)] (.agg (eQ (FN x))):=by
 have hT:=YK N.toa9 hx hk;have hs:=hx.jd hk;have hR:=λ q=>FX N.toa9 (dg x.num.natAbs) q (DU _) (by have:=hs.1.2;omega)
 rw[B1]at hR;have hA : ∀ b q,Ev L 308 [.agg [.bool b,.sl q ((dg x.num.natAbs).map AL)]] (.agg [.bool false,.sl false ((dg x.num.natAbs).map AL)]):=λ b q=>by
  refine Ev.x N.MV rfl rfl ?_;(repeat' ((first|apply AD|refine AE (hR _) ?_)<;>conv=>whnf))
  exact AZ rfl (kC _ _)
 have m8:=DH (FN x);rw[Vn]at m8 ⊢;refine Ev.x N.M9 rfl rfl ?_;(repeat' ((first|apply AD|refine AE (hT) ?_|refine AE (hA _ _) ?_)<;>conv=>whnf))
 exact AZ rfl m8
theorem Add (N:cf L) (q q':Bool) (a:List (List Rat)) (n:Nat) (hs:Sq n a) (hn:n<=16):Ev L 310 [.sl q (CX q' a)] (.bool true):=by
 have z0:=hs.l;refine Ev.x N.NT rfl rfl ?_;(repeat' (apply AD<;>conv=>whnf))
 refine BR (λ i=>a.length-i) (λ(i:Nat)=>i<=a.length) (λ i=>[(3,.int .i64 i)]) (λ_=>[]) [] [] 0 (by (conv=>whnf);exact ⟨rfl,rfl,rfl⟩) (by omega) ?_;intro i p1 ih;by_cases hi:i<a.length
 ·obtain ⟨r,hr⟩ : ∃ r,a[i]? = some r:=⟨_,zE hi⟩
  have iz:a[(i:Int).toNat]? = some r:=hr;have bp:=hs.at hr;(repeat' ((first|(apply AG<;>intro hc<;>try (exfalso;omega))|(apply AU;omega)|apply AR|(refine BC (by assumption) ?_ rfl ?_;omega)|apply AD)<;>conv=>whnf))
  exact BF [] (ih (i+1) (by omega) (by omega))
 obtain rfl:i=a.length:=by omega
 clear ih;(repeat' ((first|(apply AG<;>intro hc<;>try (exfalso;omega))|apply AR|apply AD)<;>conv=>whnf))
 exact IZ rfl
theorem Adc (N:cf L) (q:Bool) (v:List Rat) (k:Nat) (hv:Bs k v) (hn:v.length<=1000) (hk:k<=1000000000):Ev L 311 [.sl q (v.map eQ)] (.agg (eQ (B4 v))):=by
 have hO:=VE N.toa9 0 (by omega);rw[show ((0:Int):Rat)=0 from rfl]at hO;refine Ev.x N.NR rfl rfl ?_;(repeat' ((first|apply AD|refine AE (hO) ?_)<;>conv=>whnf))
 refine BR (λ i=>v.length-i) (λ(i:Nat)=>i<=v.length) (λ i=>[(4,.int .i64 i)]) (λ i=>[(3,3,.bx (eQ (B4 (v.take i))))]) [] [] 0 (by rw[show B4 (v.take 0)=0 from rfl];exact (by (conv=>whnf);exact ⟨rfl,rfl,rfl⟩)) (by omega) ?_;intro i p1 ih;by_cases hi:i<v.length
 ·obtain ⟨x,hx⟩ : ∃ x,v[i]? = some x:=⟨_,zE hi⟩
  have fm:v[(i:Int).toNat]? = some x:=hx;have hA:=Xd N (hv.at hx) (by omega);have hz:Bt (1000*(k+1)) (B4 (v.take i)):=(WJ (hv.take i)).le (Nat.mul_le_mul_right _ (by rw[List.length_take];omega));have hP:=U9 N.toa9 hz (jJ (hv.at hx)) (by omega) (by omega);rw[<-tJ hx]at hP;generalize B4 (v.take i)=w at *;generalize FN x=y at *;(repeat' ((first|(apply AG<;>intro hc<;>try (exfalso;omega))|(apply AU;omega)|apply AR|(refine BC (by assumption) ?_ rfl ?_;omega)|apply AD|refine AE (hA) ?_|refine AE (hP) ?_)<;>conv=>whnf))
  exact BF [] (ih (i+1) (by omega) (by omega))
 obtain rfl:i=v.length:=by omega
 clear ih;rw[List.take_of_length_le (Nat.le_refl _)];(repeat' ((first|(apply AG<;>intro hc<;>try (exfalso;omega))|apply AR|apply AD)<;>conv=>whnf))
 exact AZ rfl (DH _)
theorem Ade (N:cf L) (q q':Bool) (a:List (List Rat)) (n kk:Nat) (hs:Sq n a) (ha:Ms kk a) (hn:n<=4) (hk:kk<=1000000000):Ev L 313 [.sl q (CX q' a)] (.sl false (eM (F9 a a n))):=by
 have z0:=hs.l;have ym:Sq n (F9 a a n):=Sq.mul hs.l a;have Dr : ∀ (i:Nat) (r:List Rat),a[i]? = some r->(F9 a a n)[i]? = some (FB r a n):=λ i r hr=>by rw[F9,List.getElem?_map,hr];rfl
 have Aj : ∀ (j:Nat) (r:List Rat),j<n->(FB r a n)[j]? = some (A3 r (DD a j)):=λ j r hj=>by rw[FB,List.getElem?_map,List.getElem?_range hj];rfl
 have yk:=ym.l;have Cg:=ym.r;have hO:=VE N.toa9 0 (by omega);rw[show ((0:Int):Rat)=0 from rfl]at hO;generalize F9 a a n=Q at *;refine Ev.x N.NU rfl rfl ?_;(repeat' ((first|apply AR|apply AD)<;>conv=>whnf))
 unfold CT;refine ⟨⟨by omega,by omega,by simp only[DP];omega,by omega⟩,?_⟩;rw[Int.toNat_natCast,z0];(conv=>whnf)
 skip
 refine BR (λ i=>n-i) (λ(i:Nat)=>i<=n) (λ i=>[(4,.int .i64 i)]) (λ i=>[(10,10,.mx (mz Q n i))]) [] [] 0 (by first|exact (by (conv=>whnf);exact ⟨rfl,rfl,rfl⟩)|(rw[<-eF Q];exact (by (conv=>whnf);exact ⟨rfl,rfl,rfl⟩))) (by omega) ?_;intro i p1 ih;have Qt:=eC (Q:=Q) p1;by_cases hi:i<n
 ·obtain ⟨rr,hr⟩ : ∃ r,a[i]? = some r:=⟨_,zE (by omega)⟩
  have iz:a[(i:Int).toNat]? = some rr:=hr;have bp:=hs.at hr;have ic:=ha.at hr;have hq:=Dr i rr hr;have j6:=eE hq hi;have mj:(mz Q n i)[i]? = some none:=qR yk hi;have vn:(FB rr a n).length=n:=Cg _ (zM hq);have fe:(FB rr a n).take 1=[A3 rr (DD a 0)]:=by
   rw[IX (Aj 0 rr (by omega))];rfl
  have Lr : ∀ j,j<n->(FB rr a n).take (j+1)=(FB rr a n).take j++[A3 rr (DD a j)]:=λ j hj=>IX (Aj j rr hj)
  generalize mz Q n i=R0 at *;generalize FB rr a n=qr at *;(repeat' ((first|(apply AG<;>intro hc<;>try (exfalso;omega))|apply AR|apply AD)<;>conv=>whnf))
  refine F4 ?_;(repeat' ((first|(apply AG<;>intro hc<;>try (exfalso;omega))|apply AR|apply AD|refine AE (hO) ?_)<;>conv=>whnf))
  refine BR (λ k=>n-k) (λ(k:Nat)=>k<=n) (λ k=>[(7,.int .i64 k)]) (λ k=>[(6,6,.bx (eQ (A3 (rr.take k) ((DD a 0).take k))))]) [] [] 0 (by rw[show A3 (rr.take 0) ((DD a 0).take 0)=0 from rfl];exact (by (conv=>whnf);exact ⟨rfl,rfl,rfl⟩)) (by omega) ?_;intro k t1 kh;by_cases ia:k<n
  ·obtain ⟨x,hx⟩ : ∃ x,rr[k]? = some x:=⟨_,zE (by omega)⟩
   obtain ⟨s,ck⟩ : ∃ s,a[k]? = some s:=⟨_,zE (by omega)⟩;have zj:=hs.at ck;obtain ⟨y,hy⟩ : ∃ y,s[0]? = some y:=⟨_,zE (by omega)⟩;have fm:rr[(k:Int).toNat]? = some x:=hx;have qy:a[(k:Int).toNat]? = some s:=ck;have rf:s[((0:Nat):Int).toNat]? = some y:=hy;have Kd:=kT ck hy;have hM:=KP N.toa9 (ic.at hx) ((ha.at ck).at hy) (by omega) (by omega);have hd:Bt (4*(kk+kk+1)) (A3 (rr.take k) ((DD a 0).take k)):=((ic.take k).dot ((Ms.Gq ha 0).take k)).le (Nat.mul_le_mul_right _ (by rw[List.length_take];omega));have hA:=U9 N.toa9 hd ((ic.at hx).mul ((ha.at ck).at hy)) (by omega) (by omega);rw[<-U4 hx Kd]at hA;generalize A3 (rr.take k) ((DD a 0).take k)=w at *;generalize x*y=p at *;(repeat' ((first|(apply AG<;>intro hc<;>try (exfalso;omega))|(apply AU;omega)|apply AR|(refine BC (by assumption) ?_ rfl ?_;omega)|apply AD|refine AE (hM) ?_|refine AE (hA) ?_)<;>conv=>whnf))
   exact BF [] (kh (k+1) (by omega) (by omega))
  have ek:k=n:=by omega
  clear kh;rw[ek,S8 bp];generalize A3 rr (DD a 0)=y0 at *;(repeat' ((first|(apply AG<;>intro hc<;>try (exfalso;omega))|(apply AY;omega)|apply AR|apply AD)<;>conv=>whnf))
  refine aC (r:=none) (by rw[Nat.zero_add,Int.toNat_natCast];exact mj) ?_;(conv=>whnf)
  (repeat' (apply D9<;>conv=>whnf))
  refine UF (enc:=eQ) y0 rfl rfl (by omega) ?_;(conv=>whnf)
  (repeat' ((first|(apply AY;omega)|fail)<;>conv=>whnf))
  refine AY rfl ?_;refine SS (i:=i) (by omega) (by omega) ?_;(conv=>whnf)
  (repeat' ((first|(apply AU;omega)|fail)<;>conv=>whnf))
  refine BR (λ j=>n-j) (λ(j:Nat)=>1<=j/\j<=n) (λ j=>[(5,.int .i64 j)]) (λ j=>[(10,10,.mx (R0.set i (some (3,(qr.take j).map eQ))))]) [] [] 1 (by first|exact (by (conv=>whnf);exact ⟨rfl,rfl,rfl⟩)|(rw[fe];exact (by (conv=>whnf);exact ⟨rfl,rfl,rfl⟩))) (by omega) ?_;intro j ⟨r1,r2⟩ jh;have Br:(qr.take j).length=j:=by rw[List.length_take];omega
  by_cases hj:j<n
  ·have mn:=Lr j hj
   have Bu:(qr.take (j+1)).length=j+1:=by rw[List.length_take];omega
   generalize qr.take j=W at *;(repeat' ((first|(apply AG<;>intro hc<;>try (exfalso;omega))|apply AR|apply AD|refine AE (hO) ?_)<;>conv=>whnf))
   refine BR (λ k=>n-k) (λ(k:Nat)=>k<=n) (λ k=>[(7,.int .i64 k)]) (λ k=>[(6+1000000,6,.bx (eQ (A3 (rr.take k) ((DD a j).take k))))]) [] [] 0 (by rw[show A3 (rr.take 0) ((DD a j).take 0)=0 from rfl];exact (by (conv=>whnf);exact ⟨rfl,rfl,rfl⟩)) (by omega) ?_;intro k t1 kh;by_cases ia:k<n
   ·obtain ⟨x,hx⟩ : ∃ x,rr[k]? = some x:=⟨_,zE (by omega)⟩
    obtain ⟨s,ck⟩ : ∃ s,a[k]? = some s:=⟨_,zE (by omega)⟩;have zj:=hs.at ck;obtain ⟨y,hy⟩ : ∃ y,s[j]? = some y:=⟨_,zE (by omega)⟩;have fm:rr[(k:Int).toNat]? = some x:=hx;have qy:a[(k:Int).toNat]? = some s:=ck;have rf:s[((j:Nat):Int).toNat]? = some y:=hy;have Kd:=kT ck hy;have hM:=KP N.toa9 (ic.at hx) ((ha.at ck).at hy) (by omega) (by omega);have hd:Bt (4*(kk+kk+1)) (A3 (rr.take k) ((DD a j).take k)):=((ic.take k).dot ((Ms.Gq ha j).take k)).le (Nat.mul_le_mul_right _ (by rw[List.length_take];omega));have hA:=U9 N.toa9 hd ((ic.at hx).mul ((ha.at ck).at hy)) (by omega) (by omega);rw[<-U4 hx Kd]at hA;generalize A3 (rr.take k) ((DD a j).take k)=w at *;generalize x*y=p at *;(repeat' ((first|(apply AG<;>intro hc<;>try (exfalso;omega))|(apply AU;omega)|apply AR|(refine BC (by assumption) ?_ rfl ?_;omega)|apply AD|refine AE (hM) ?_|refine AE (hA) ?_)<;>conv=>whnf))
    exact BF [] (kh (k+1) (by omega) (by omega))
   have ek:k=n:=by omega
   clear kh;rw[ek,S8 bp];generalize A3 rr (DD a j)=y0 at *;(repeat' ((first|(apply AG<;>intro hc<;>try (exfalso;omega))|(apply AY;omega)|apply AR|apply AD)<;>conv=>whnf))
   refine Q6 (by omega) (by omega) ?_;(conv=>whnf)
   (repeat' (apply D9<;>conv=>whnf))
   refine O4 (by omega) (by omega) ?_;(conv=>whnf)
   refine EO (enc:=eQ) y0 rfl (by rw[List.length_map]) rfl (by omega) (by omega) ?_;intro s' v;rw[<-mn,Bu];(conv=>whnf)
   (repeat' ((first|(apply AY;omega)|fail)<;>conv=>whnf))
   refine AY ⟨rfl,by rw[List.length_map];omega⟩ ?_;refine SS (i:=i) (by omega) (by rw[List.length_set,List.length_set];omega) ?_;rw[show 0+((i:Int)).toNat=i by omega,List.set_set,List.set_set];(conv=>whnf)
   (repeat' ((first|(apply AU;omega)|fail)<;>conv=>whnf))
   exact BF [] (jh (j+1) (by omega) (by omega))
  have ej:j=n:=by omega
  clear jh;rw[ej,List.take_of_length_le (by omega),j6];(repeat' ((first|(apply AG<;>intro hc<;>try (exfalso;omega))|(apply AU;omega)|apply AR|apply AD)<;>conv=>whnf))
  exact BF [] (ih (i+1) (by omega) (by omega))
 have ei:i=n:=by omega
 clear ih;rw[ei,eB (by omega)];(repeat' ((first|(apply AG<;>intro hc<;>try (exfalso;omega))|apply AR|apply AD)<;>conv=>whnf))
 refine I2 (λ_=>rfl) rfl (by omega) ?_;(conv=>whnf)
 exact AZ rfl (kE Q)
theorem Adb (N:cf L) (q q':Bool) (a:List (List Rat)) (n k:Nat) (hs:Sq n a) (ha:Ms k a) (hn:n<=4) (hk:k<=100) :
  ∃ v,Ev L 314 [.sl q (CX q' a)] v/\((∃ i,i<=6/\KF n a i/\v = .g7 [.int .i64 ((2^i:Nat):Int),.int .i64 0])\/((∀ j,j<=6->D4 (CF n a j)=false)/\v = .g7 [.int .i64 0,.int .i64 14])):=by
 have z0:=hs.l;have hq:=Add N q q' a n hs (by omega);have hF:=TF N.toa9 1 2 (by omega) (by omega);have hb : ∀ i,i<=7->Ms 300000000 (CF n a i):=λ i hi=>(gT hs ha hn i).le (by have:=AgD (k:=k) i hi;omega)
 have hZ:=λ(i:Nat) (q q':Bool) (hi:i<=6)=>Ade N q q' (CF n a i) n 300000000 (QX hs i) (hb i (by omega)) hn (by omega)
 have hh:Bt 2 (Rat.divInt 1 2):=Bt.mk (k:=2) (z:=1) (d:=2) (by decide) (by decide);have hhe:Rat.divInt 1 2=1/2:=by decide +kernel
 have hC : ∀ i r,i<=6->r∈CF n a i->Ev L 127 [.agg (eQ (B4 r)),.agg (eQ (Rat.divInt 1 2))] (.int .i64 (o8 (B4 r-1/2).num)):=λ i r hi hr=>by
  have hz:Bt (4*(300000000+1)) (B4 r):=(WJ (hb i (by omega) r hr)).le (Nat.mul_le_mul_right _ (by rw[(QX hs i).r r hr];exact hn));have:=VB N.toa9 hz hh (by omega) (by omega)
  rwa [hhe]at this ⊢
 refine Ev.xE N.NQ rfl rfl ?_;(repeat' ((first|apply AD|refine AE (hq) ?_)<;>conv=>whnf))
 refine F3 (λ i _=>7-i) (λ(i:Nat) (fl:Bool)=>i<=7/\(fl=true->i=0) /\ ∀ j,j<i->D4 (CF n a j)=false) (λ i fl=>[(4,.int .i64 ((2^i:Nat):Int)),(0,bif fl then .sl q (CX q' a) else .sl false (eM (CF n a i)))]) (λ_ _=>[]) [] [] 0 true (by (conv=>whnf);exact ⟨rfl,rfl,rfl⟩) ⟨by omega,λ_=>rfl,λ j hj=>absurd hj (by omega)⟩ ?_;intro i fl ⟨p1,p2,p3⟩ ih;by_cases h7:i=7
 ·have e7:((2^i:Nat):Int)=128:=by rw[h7];rfl
  rw[e7];have jn : ∀ j,j<=6->D4 (CF n a j)=false:=λ j hj=>p3 j (by omega)
  (repeat' ((first|(apply AG<;>intro hc<;>try (exfalso;omega))|apply AD)<;>conv=>whnf))
  exact ⟨_,AZ rfl (by simp [A4,CW]),Or.inr ⟨jn,rfl⟩⟩
 obtain ⟨g1,g2,g3⟩:=eT (i:=i) (by omega);have Cr:((2^(i+1):Nat):Int)=2*((2^i:Nat):Int):=by rw[Nat.pow_succ];omega
 have zj:=(QX hs i).l;have ko:D4 (CF n a i)=true->KF n a i:=λ h=>⟨h,p3⟩
 have gi:D4 (CF n a i)=false -> ∀ j,j<i+1->D4 (CF n a j)=false:=λ h j hj=>by
  by_cases e:j=i
  ·rw[e];exact h
  ·exact p3 j (by omega)
 have Iv:=λ r=>hC i r (by omega)
 have Js:=λ q q'=>hZ i q q' (by omega)
 have Jk:=λ q r (hr:r∈CF n a i)=>Adc N q r 300000000 (hb i (by omega) r hr) (by rw[(QX hs i).r r hr];omega) (by omega)
 have u9 : ∀ r:AV,KF n a i->r = .g7 [.int .i64 ((2^i:Nat):Int),.int .i64 0]->((∃ i,i<=6/\KF n a i/\r = .g7 [.int .i64 ((2^i:Nat):Int),.int .i64 0])\/((∀ j,j<=6->D4 (CF n a j)=false)/\r = .g7 [.int .i64 0,.int .i64 14])):=λ r h hr=>Or.inl ⟨i,by omega,h,hr⟩
 have o5 : ∀ (m:Nat) (r:List Rat),(CF n a i)[m]? = some r->D4 ((CF n a i).take (m+1))=(D4 ((CF n a i).take m)&&decide (B4 r<=1/2)):=λ m r hr=>by
  rw[IX hr,D4,D4,List.all_append];simp
 cases fl
 ·skip
  generalize 2^i=P at *;(repeat' ((first|(apply AG<;>intro hc<;>try (exfalso;omega))|apply AD)<;>conv=>whnf))
  refine F3 (λ m _=>n-m) (λ(m:Nat) (b:Bool)=>m<=n/\b=D4 ((CF n a i).take m)) (λ m b=>[(6,.int .i64 m),(5,.bool b)]) (λ_ _=>[]) [] [] 0 true (by (conv=>whnf);exact ⟨rfl,rfl,rfl⟩) ⟨by omega,rfl⟩ ?_;intro m b ⟨r1,r2⟩ mh;by_cases hm:m<n
  ·obtain ⟨r,hr⟩ : ∃ r,(CF n a i)[m]? = some r:=⟨_,zE (by omega)⟩
   have iz:(CF n a i)[(m:Int).toNat]? = some r:=hr;have gn:=zM hr;have ht:=o5 m r hr;rw[<-r2]at ht;cases b
   ·(repeat' ((first|(apply AG<;>intro hc<;>try (exfalso;omega))|(apply AU;omega)|apply AR|apply AD)<;>conv=>whnf))
    exact BF [] (mh (m+1) false (by omega) ⟨by omega,by rw[ht];rfl⟩)
   ·have vf:=λ q=>Jk q r gn
    have po:=Iv r gn;have hg:=gE (x:=B4 r) (y:=1/2);by_cases h:B4 r<=1/2
    ·have h1 : ¬ 0<o8 (B4 r-1/2).num:=λ e=>by have:=hg.1 e;grind
     rw[decide_eq_true h]at ht;clear hg;generalize o8 (B4 r-1/2).num=g at *;(repeat' ((first|(apply AG<;>intro hc<;>try (exfalso;omega))|(apply AU;omega)|apply AR|(refine BC (by assumption) ?_ rfl ?_;omega)|apply AD|refine AE (vf _) ?_|refine AE (hF) ?_|refine AE (po) ?_)<;>conv=>whnf))
     exact BF [] (mh (m+1) true (by omega) ⟨by omega,by rw[ht];rfl⟩)
    ·have h1:0<o8 (B4 r-1/2).num:=hg.2 (by grind)
     rw[decide_eq_false h]at ht;clear hg;generalize o8 (B4 r-1/2).num=g at *;(repeat' ((first|(apply AG<;>intro hc<;>try (exfalso;omega))|(apply AU;omega)|apply AR|(refine BC (by assumption) ?_ rfl ?_;omega)|apply AD|refine AE (vf _) ?_|refine AE (hF) ?_|refine AE (po) ?_)<;>conv=>whnf))
     exact BF [] (mh (m+1) false (by omega) ⟨by omega,by rw[ht];rfl⟩)
  have em:m=n:=by omega
  clear mh;rw[em,List.take_of_length_le (by omega)]at r2;cases b
  ·(repeat' ((first|(apply AG<;>intro hc<;>try (exfalso;omega))|(apply EF;omega)|apply AR|apply AD|refine AE (Js _ _) ?_)<;>conv=>whnf))
   rw[<-Cr];exact BF [] (ih (i+1) false (by omega) ⟨by omega,(λ h=>by cases h),gi r2.symm⟩)
  ·(repeat' ((first|(apply AG<;>intro hc<;>try (exfalso;omega))|apply AR|apply AD)<;>conv=>whnf))
   exact ⟨_,AZ rfl (by simp [A4,CW]),u9 _ (ko r2.symm) rfl⟩
 ·obtain rfl:=p2 rfl
  have e0:CF n a 0=a:=rfl;rw[e0]at ko gi Iv Js Jk o5 zj;generalize 2^0=P at *;(repeat' ((first|(apply AG<;>intro hc<;>try (exfalso;omega))|apply AD)<;>conv=>whnf))
  refine F3 (λ m _=>n-m) (λ(m:Nat) (b:Bool)=>m<=n/\b=D4 (a.take m)) (λ m b=>[(6,.int .i64 m),(5,.bool b)]) (λ_ _=>[]) [] [] 0 true (by (conv=>whnf);exact ⟨rfl,rfl,rfl⟩) ⟨by omega,rfl⟩ ?_;intro m b ⟨r1,r2⟩ mh;by_cases hm:m<n
  ·obtain ⟨r,hr⟩ : ∃ r,a[m]? = some r:=⟨_,zE (by omega)⟩
   have iz:a[(m:Int).toNat]? = some r:=hr;have gn:=zM hr;have ht:=o5 m r hr;rw[<-r2]at ht;cases b
   ·(repeat' ((first|(apply AG<;>intro hc<;>try (exfalso;omega))|(apply AU;omega)|apply AR|apply AD)<;>conv=>whnf))
    exact BF [] (mh (m+1) false (by omega) ⟨by omega,by rw[ht];rfl⟩)
   ·have vf:=λ q=>Jk q r gn
    have po:=Iv r gn;have hg:=gE (x:=B4 r) (y:=1/2);by_cases h:B4 r<=1/2
    ·have h1 : ¬ 0<o8 (B4 r-1/2).num:=λ e=>by have:=hg.1 e;grind
     rw[decide_eq_true h]at ht;clear hg;generalize o8 (B4 r-1/2).num=g at *;(repeat' ((first|(apply AG<;>intro hc<;>try (exfalso;omega))|(apply AU;omega)|apply AR|(refine BC (by assumption) ?_ rfl ?_;omega)|apply AD|refine AE (vf _) ?_|refine AE (hF) ?_|refine AE (po) ?_)<;>conv=>whnf))
     exact BF [] (mh (m+1) true (by omega) ⟨by omega,by rw[ht];rfl⟩)
    ·have h1:0<o8 (B4 r-1/2).num:=hg.2 (by grind)
     rw[decide_eq_false h]at ht;clear hg;generalize o8 (B4 r-1/2).num=g at *;(repeat' ((first|(apply AG<;>intro hc<;>try (exfalso;omega))|(apply AU;omega)|apply AR|(refine BC (by assumption) ?_ rfl ?_;omega)|apply AD|refine AE (vf _) ?_|refine AE (hF) ?_|refine AE (po) ?_)<;>conv=>whnf))
     exact BF [] (mh (m+1) false (by omega) ⟨by omega,by rw[ht];rfl⟩)
  have em:m=n:=by omega
  clear mh;rw[em,List.take_of_length_le (by omega)]at r2;cases b
  ·(repeat' ((first|(apply AG<;>intro hc<;>try (exfalso;omega))|(apply EF;omega)|apply AR|apply AD|refine AE (Js _ _) ?_)<;>conv=>whnf))
   rw[<-Cr];exact BF [] (ih (0+1) false (by omega) ⟨by omega,(λ h=>by cases h),gi r2.symm⟩)
  ·(repeat' ((first|(apply AG<;>intro hc<;>try (exfalso;omega))|apply AR|apply AD)<;>conv=>whnf))
   exact ⟨_,AZ rfl (by simp [A4,CW]),u9 _ (ko r2.symm) rfl⟩
theorem AfQ {T:List (List Rat)} {b:List Rat} {n K:Nat} {m:List (List Rat)} (h:EG T (b.map λ x=>[x]) n 1 m n n) (hM:Ms K m):m.map (·.drop n)=(m.map λ r=>r.getD n 0).map (λ x=>[x])/\(m.map λ r=>r.getD n 0).length=n/\Bs K (m.map λ r=>r.getD n 0):=by
 refine ⟨?_,by rw[List.length_map];exact h.len,λ x hx => ?_⟩
 ·rw[List.map_map]
  refine List.map_congr_left λ r hr => ?_
  have hl:=h.wid r hr;show r.drop n=[r.getD n 0];rw[List.drop_eq_getElem_cons (by omega),List.drop_of_length_le (by omega),List.getD_eq_getElem?_getD,zE (by omega)];rfl
 ·obtain ⟨r,hr,rfl⟩:=List.mem_map.1 hx
  exact Bs.getD (hM r hr) n
theorem Xb (N:q8 L) (q1 q2 q3:Bool) (a:List (List Rat)) (b:List Rat) (n k:Nat) (hT:Sq n a) (fi:b.length=n) (gl:Bs k b) (hn:1<=n/\n<=10) (gk:Ms k a) (hk:k<=1000) (hB:10*EU k n<=100000000000) :
  ∃ v,Ev L 327 [.sl q1 (CX q2 a),.sl q3 (b.map eQ)] v/\((¬ NS n a/\v = .g7 [.sl false [],.int .i64 11])\/(NS n a /\ ∃ y:List Rat,v = .g7 [.sl false (y.map eQ),.int .i64 0]/\y.length=n/\Bs (EU k n) y /\ ∀ (i:Nat) (r:List Rat) (s:Rat),a[i]? = some r->b[i]? = some s->A3 r y=s)):=by
 have z0:=hT.l;have hV:=Xc N.togq q1 q2 a n n z0 hT.r (by omega) (by omega);obtain ⟨r0,o5⟩ : ∃ r,a[0]? = some r:=⟨_,zE (by omega)⟩;have Bl:a[(0:Int).toNat]? = some r0:=o5;have ka:=hT.at o5;have og : ∀ r∈b.map (λ x=>[x]),r.length=1:=λ r hr=>by obtain ⟨x,_,rfl⟩:=List.mem_map.1 hr;rfl
 have hbm:Ms k (b.map λ x=>[x]):=λ r hr=>by
  obtain ⟨x,hx,rfl⟩:=List.mem_map.1 hr;intro z hz;obtain rfl:=List.mem_singleton.1 hz;exact gl z hx
 obtain ⟨v,Is,z7⟩:=Ys N.toaq q1 q2 true true a (b.map λ x=>[x]) n 1 k hT (by rw[List.length_map];exact fi) og hbm hn (by omega) gk hk hB;refine Ev.xE N.NK rfl rfl ?_;(repeat' ((first|(apply AG<;>intro hc<;>try (exfalso;omega))|apply AR|(refine BC (by assumption) ?_ rfl ?_;omega)|apply AD|refine AE (hV) ?_)<;>conv=>whnf))
 refine WU 6 6 rfl ?_;refine BR (λ i=>n-i) (λ(i:Nat)=>i<=n) (λ i=>[(35,.int .i64 i),(6,.row 6 0 1 0 i)]) (λ i=>[(6,6,.mx (BJ 3 eQ ((b.take i).map λ x=>[x])))]) [] [] 0 (by (conv=>whnf);exact ⟨rfl,rfl,rfl⟩) (by omega) ?_;intro i p1 ih;have aw:((b.take i).map λ x=>[x]).length=i:=by rw[List.length_map,List.length_take];omega
 by_cases hi:i<n
 ·obtain ⟨x,hx⟩ : ∃ x,b[i]? = some x:=⟨_,zE (by omega)⟩
  have fm:b[(i:Int).toNat]? = some x:=hx;have hs:(b.take (i+1)).map (λ x=>[x])=(b.take i).map (λ x=>[x])++[[x]]:=by rw[PX hx,List.map_append];rfl
  have Bv:((b.take (i+1)).map λ x=>[x]).length=i+1:=by rw[List.length_map,List.length_take];omega
  generalize (b.take i).map (λ x=>[x])=R0 at *;(repeat' ((first|(apply AG<;>intro hc<;>try (exfalso;omega))|(refine BC (by assumption) ?_ rfl ?_;omega)|apply AD)<;>conv=>whnf))
  refine AY rfl ?_;refine SI (r:=[x]) (en:=eQ) aw.symm (by omega) (by omega) ?_;rw[<-hs,Bv];(conv=>whnf)
  (repeat' ((first|(apply AU;omega)|fail)<;>conv=>whnf))
  exact BF [(6,43)] (ih (i+1) (by omega) (by omega))
 have ei:i=n:=by omega
 clear ih;rw[ei,List.take_of_length_le (by omega)];(repeat' ((first|(apply AG<;>intro hc<;>try (exfalso;omega))|(refine I2 (λ_=>rfl) rfl ?_ ?_;(first|rfl|simp))|apply AD)<;>conv=>whnf))
 ·exact fi.symm
 (conv=>whnf)
 rcases z7 with ⟨fc,rfl⟩|⟨fc,m,rfl,hR,hM⟩
 ·(repeat' (refine AE (Is) ?_<;>conv=>whnf))
  refine AR (l:=([]:List Rat)) (enc:=eQ) ?_;rw[show ([]:List Rat).length=0 from rfl];(conv=>whnf)
  refine F4 ?_;(repeat' ((first|(apply AG<;>intro hc<;>try (exfalso;omega))|apply AD)<;>conv=>whnf))
  refine ⟨.g7 [.sl false [],.int .i64 11],?_,Or.inl ⟨fc,rfl⟩⟩;(conv=>whnf)
  refine xP ?_;(conv=>whnf)
  exact AZ rfl (HY [] 11)
 ·obtain ⟨c1,c2,c3⟩:=AfQ hR hM
  have Mi:=hR.sol hT fi;rw[c1]at Is;generalize (m.map λ r=>r.getD n 0)=y at *;have hYl:(y.map λ x=>[x]).length=n:=by rw[List.length_map];exact c2
  have Jr : ∀ (i:Nat) (x:Rat),y[i]? = some x->(y.map λ x=>[x])[((i:Nat):Int).toNat]? = some [x]:=λ i x hx=>by
   rw[Int.toNat_natCast,List.getElem?_map,hx];rfl
  have hY1 : ∀ x:Rat,([x]:List Rat)[(0:Int).toNat]? = some x:=λ x=>rfl
  generalize (y.map λ x=>[x])=Y at *;(repeat' ((first|apply AR|refine AE (Is) ?_)<;>conv=>whnf))
  refine BR (λ i=>n-i) (λ(i:Nat)=>i<=n) (λ i=>[(53,.int .i64 i),(11,.row 11 0 3 0 i)]) (λ i=>[(11,11,.rw 3 ((y.take i).map eQ))]) [] [] 0 (by (conv=>whnf);exact ⟨rfl,rfl,rfl⟩) (by omega) ?_;intro i p1 ih;have aw:(y.take i).length=i:=by rw[List.length_take];omega
  by_cases hi:i<n
  ·obtain ⟨x,hx⟩ : ∃ x,y[i]? = some x:=⟨_,zE (by omega)⟩
   have fm:=Jr i x hx;have Qo:=hY1 x;have hs:=PX hx;have Bv:(y.take (i+1)).length=i+1:=by rw[List.length_take];omega
   generalize y.take i=R0 at *;(repeat' ((first|(apply AG<;>intro hc<;>try (exfalso;omega))|(refine BC (by assumption) ?_ rfl ?_;omega)|apply D9|apply AD)<;>conv=>whnf))
   refine EO (enc:=eQ) x rfl aw.symm rfl (by omega) (by omega) ?_;rw[<-hs,Bv];(conv=>whnf)
   (repeat' ((first|(apply AU;omega)|fail)<;>conv=>whnf))
   exact BF [(11,62)] (ih (i+1) (by omega) (by omega))
  have ei:i=n:=by omega
  clear ih;rw[ei,List.take_of_length_le (by omega)];(repeat' ((first|(apply AG<;>intro hc<;>try (exfalso;omega))|apply AD)<;>conv=>whnf))
  refine ⟨.g7 [.sl false (y.map eQ),.int .i64 0],?_,Or.inr ⟨fc,y,rfl,c2,c3,Mi⟩⟩;(conv=>whnf)
  refine DL (enc:=eQ) (λ_=>rfl) rfl (by omega) ?_;(conv=>whnf)
  exact AZ rfl (kD y 0)
abbrev eP:Option Rat->List AV
 | none=>[.bool false,.sl false [],.sl false []]
 | some x=>eQ x
theorem Adl (N:o3 L) {o:Option Rat} {y:Rat} {k l:Nat} (hx:Bt k (o.getD 0)) (hy:Bt l y) (hk:k<2199023255552) (hl:l<2199023255552):Ev L 153 [.agg (eP o),.agg (eQ y)] (.agg (eQ (o.getD 0-y))):=by
 cases o with
 | some x=>exact nY N hx hy hk hl
 | none =>
  have hn:Bt l (-y):=⟨by rw[Rat.neg_num,Int.natAbs_neg];exact hy.1,by rw[Rat.neg_den];exact hy.2⟩;have hN:=YI N hy hl;have hA:=nT N.toa9 68719476736 (by omega) false (decide ((-y).num<0)) false false [] [] (dg (-y).num.natAbs) (dg (-y).den) (ZP _) (ZP _) (hn.jd hl).1 (hn.jd hl).2;rw[EJ,show qv false [] []=0 from by decide,<-Rat.sub_eq_add_neg]at hA;refine Ev.x N.JG rfl rfl ?_;(repeat' ((first|apply AD|refine AE (hN) ?_|refine AE (hA) ?_)<;>conv=>whnf))
  exact AZ rfl (DH _)
theorem Ya (N:q8 L) (n i j:Nat) (hn:n<=3) (eg:i<=j) (hj:j<n):Ev L 325 [.int .i64 (i:Int),.int .i64 (j:Int),.int .i64 (n:Int)] (.int .i64 ((dd n i j:Nat):Int)):=by
 rcases PY hn with rfl|rfl|rfl|rfl
 ·omega
 ·obtain ⟨rfl,rfl⟩:i=0/\j=0:=by omega
  refine Ev.x N.ID rfl rfl ?_;(repeat' ((first|(apply AU;omega)|(apply B6;omega)|(apply EF;omega)|(refine KG ?_ ?_ (λ_ => ?_) (λ_ _ => ?_);omega;omega;all_goals try (exfalso;omega))|apply AD)<;>conv=>whnf))
  exact C2 rfl
 ·obtain ⟨rfl,rfl⟩|⟨rfl,rfl⟩|⟨rfl,rfl⟩:(i=0/\j=0)\/(i=0/\j=1)\/(i=1/\j=1):=by omega
  all_goals
   refine Ev.x N.ID rfl rfl ?_;(repeat' ((first|(apply AU;omega)|(apply B6;omega)|(apply EF;omega)|(refine KG ?_ ?_ (λ_ => ?_) (λ_ _ => ?_);omega;omega;all_goals try (exfalso;omega))|apply AD)<;>conv=>whnf))
   exact C2 rfl
 ·obtain ⟨rfl,rfl⟩|⟨rfl,rfl⟩|⟨rfl,rfl⟩|⟨rfl,rfl⟩|⟨rfl,rfl⟩|⟨rfl,rfl⟩:(i=0/\j=0)\/(i=0/\j=1)\/(i=0/\j=2)\/(i=1/\j=1)\/(i=1/\j=2)\/(i=2/\j=2):=by omega
  all_goals
   refine Ev.x N.ID rfl rfl ?_;(repeat' ((first|(apply AU;omega)|(apply B6;omega)|(apply EF;omega)|(refine KG ?_ ?_ (λ_ => ?_) (λ_ _ => ?_);omega;omega;all_goals try (exfalso;omega))|apply AD)<;>conv=>whnf))
   exact C2 rfl
theorem AgB (r:List Rat):(r.map some).map eO=r.map eQ:=by rw[List.map_map];rfl
theorem AgU {n:Nat} (hn:n<=3):(0<=(n:Int)*((n:Int)+1)/\(n:Int)*((n:Int)+1)<=12)/\((n:Int)*((n:Int)+1))/2=((n*(n+1)/2:Nat):Int)/\n*(n+1)/2<=6:=by
 rcases PY hn with rfl|rfl|rfl|rfl<;>decide
theorem AfP {k m:Nat} (hk:k<=82) (hm:m<=6):10*EU k m<=100000000000:=by
 rcases (show m=0\/m=1\/m=2\/m=3\/m=4\/m=5\/m=6 by omega) with rfl|rfl|rfl|rfl|rfl|rfl|rfl<;>simp only[EU]<;>omega
theorem AeI {X:List Rat} {n i:Nat} (hi:i<n):(kM X n)[i]? = some ((List.range n).map λ j=>X.getD (dd n (min i j) (max i j)) 0):=by rw[kM,List.getElem?_map,List.getElem?_range hi];rfl
theorem Ada (N:q8 L) (A:List (List Rat)) (B:List Rat) (n k:Nat) (hA:Sq n A) (hB:B.length=n) (jl:Ms k A) (yh:Bs k B) (hk:k<=20) (hn:n<=3) (q1 q2 q3:Bool) :
  ∃ v,Ev L 326 [.sl q1 (CX q2 A),.sl q3 (B.map eQ)] v/\(((∀ j,j<=6->D4 (CF n A j)=false)/\v = .g7 [.sl false [],.int .i64 14])\/((∃ i,i<=6/\KF n A i)/\((¬ NS (BD n n).length (gM A n)/\v = .g7 [.sl false [],.int .i64 11])\/(NS (BD n n).length (gM A n) /\ ∃ X:List Rat,JT A B X n/\Bs (EU (4*k+2) (BD n n).length) X/\v = .g7 [.sl false (eM (kM X n)),.int .i64 0])))):=by
 have z0:=hA.l;obtain ⟨v,Ai,z7⟩:=Adb N.tocf q1 q2 A n k hA jl (by omega) (by omega);refine Ev.xE N.NV rfl rfl ?_;rcases z7 with ⟨i0,i1,i2,rfl⟩|⟨i1,rfl⟩
 rotate_left
 ·(repeat' ((first|(apply AG<;>intro hc<;>try (exfalso;omega))|apply AR|apply AD|refine AE (Ai) ?_)<;>conv=>whnf))
  exact ⟨_,AZ rfl (HY [] 14),Or.inl ⟨i1,rfl⟩⟩
 have ko : ∃ i,i<=6/\KF n A i:=⟨i0,i1,i2⟩;clear i1 i2;generalize ((2^i0:Nat):Int)=pw0 at *;clear i0;by_cases ru:n=0
 ·subst ru
  (repeat' ((first|(apply AG<;>intro hc<;>try (exfalso;omega))|apply AR|apply AD|refine AE (Ai) ?_)<;>conv=>whnf))
  refine ⟨_,AZ rfl (HY [] 0),Or.inr ⟨ko,Or.inr ⟨λ X hX _ j => ?_,[],⟨rfl,λ i r s hr=>by cases hr⟩,(λ x hx=>by cases hx),rfl⟩⟩⟩;rw[List.length_eq_zero_iff.1 hX];rfl
 obtain ⟨⟨t1,t2⟩,t3,t4⟩:=AgU hn;have Fa:=Afz hn;have qt:1<=(BD n n).length:=by
  rcases PY hn with rfl|rfl|rfl|rfl<;>first|omega|decide
 have hO:=VE N.toa9 1 (by omega);have Ah:=λ i j h1 h2=>Ya N n i j hn h1 h2
 (repeat' ((first|(apply AG<;>intro hc<;>try (exfalso;omega))|apply AR|apply AD|refine AE (Ai) ?_)<;>conv=>whnf))
 rw[z0];refine WU 9 9 rfl ?_;refine BR (λ i=>n-i) (λ(i:Nat)=>i<=n) (λ i=>[(11,.int .i64 i),(9,.row 9 0 1 0 (BD n i).length),(10,.row 10 0 3 0 (BD n i).length)]) (λ i=>[(9,9,.mx (BJ 3 eQ ((BD n i).map (DX A n)))),(10,10,.rw 3 (((BD n i).map λ p=>bQ B p.1*bQ B p.2).map eQ))]) [] [] 0 (by (conv=>whnf);exact ⟨rfl,rfl,rfl⟩) (by omega) ?_;intro i p1 ih;by_cases hi:i<n
 ·have hS:=rP hi
  obtain ⟨r1,w8,ji,jo⟩:=NZ hA hi;have xm:A[((i:Nat):Int).toNat]? = some r1:=w8;have Bh:=ZA n (i:=i+1) (n-(i+1));rw[show i+1+(n-(i+1))=n by omega]at Bh;have wu:B[((i:Nat):Int).toNat]? = some (bQ B i):=I3 hB hi;(repeat' ((first|(apply AG<;>intro hc<;>try (exfalso;omega))|apply AD)<;>conv=>whnf))
  refine BR (λ t=>n-i-t) (λ(t:Nat)=>t<=n-i) (λ t=>[(12,.int .i64 ((i+t:Nat):Int)),(9,.row 9 0 1 0 ((BD n i).length+t)),(10,.row 10 0 3 0 ((BD n i).length+t))]) (λ t=>[(9,9,.mx (BJ 3 eQ ((BD n i++DK i t).map (DX A n)))),(10,10,.rw 3 (((BD n i++DK i t).map λ p=>bQ B p.1*bQ B p.2).map eQ))]) [] [] 0 (by first|exact (by (conv=>whnf);exact ⟨rfl,rfl,rfl⟩)|(rw[show DK i 0=[] from rfl,List.append_nil];exact (by (conv=>whnf);exact ⟨rfl,rfl,rfl⟩))) (by omega) ?_;intro t u1 th;by_cases ht:t<n-i
  ·obtain ⟨r2,ae,fj,km⟩:=NZ hA (show i+t<n by omega)
   have Fq:A[((i+t:Nat):Int).toNat]? = some r2:=ae;have Jy:B[((i+t:Nat):Int).toNat]? = some (bQ B (i+t)):=I3 hB (by omega);have Dl:=KP N.toa9 (Bs.at yh (I3 hB hi)) (Bs.at yh (I3 hB (show i+t<n by omega))) (by omega) (by omega);have yq:BD n i++DK i (t+1)=(BD n i++DK i t)++[(i,i+t)]:=by rw[rS,List.append_assoc]
   have Ea:(BD n i++DK i t).length=(BD n i).length+t:=by rw[List.length_append,TY]
   have xg:(BD n i++DK i (t+1)).map (DX A n)=(BD n i++DK i t).map (DX A n)++[DX A n (i,i+t)]:=by rw[yq,List.map_append];rfl
   have jg:((BD n i++DK i (t+1)).map λ p=>bQ B p.1*bQ B p.2)=((BD n i++DK i t).map λ p=>bQ B p.1*bQ B p.2)++[bQ B i*bQ B (i+t)]:=by rw[yq,List.map_append];rfl
   have Ks:((BD n i++DK i t).map (DX A n)).length=(BD n i).length+t:=by rw[List.length_map];exact Ea
   have Kt:((BD n i++DK i t).map λ p=>bQ B p.1*bQ B p.2).length=(BD n i).length+t:=by rw[List.length_map];exact Ea
   have Kq:((BD n i++DK i (t+1)).map (DX A n)).length=(BD n i).length+(t+1):=by rw[List.length_map,List.length_append,TY]
   have Kr:((BD n i++DK i (t+1)).map λ p=>bQ B p.1*bQ B p.2).length=(BD n i).length+(t+1):=by rw[List.length_map,List.length_append,TY]
   have Jc:=Ah i (i+t) (by omega) (by omega);have ry:=ZB hn hi (show i+t<n by omega);rw[show min i (i+t)=i by omega,show max i (i+t)=i+t by omega]at ry;have q6:PS n i (i+t)=(List.replicate (n*(n+1)/2) none).set (dd n i (i+t)) (some 1):=rfl;have fq:=AfS (A:=A) hn (show i<=i+t by omega) (show i+t<n by omega);have Lx:(PS n i (i+t)).length=n*(n+1)/2:=by simp [PS]
   have Qc:=AfT n i (i+t);generalize (BD n i++DK i t).map (DX A n)=G0 at *;generalize ((BD n i++DK i t).map λ p=>bQ B p.1*bQ B p.2)=R0 at *;have AlW:(DX A n (i,i+t)).length=n*(n+1)/2:=by rw[DX,List.length_map,Fa]
   generalize DX A n (i,i+t)=gr at *;generalize bQ B i*bQ B (i+t)=gy at *;(repeat' ((first|(apply AG<;>intro hc<;>try (exfalso;omega))|(apply AU;omega)|(apply EF;omega)|(refine KG ?_ ?_ (λ_ => ?_) (λ_ _ => ?_);omega;omega;all_goals try (exfalso;omega))|apply AD)<;>conv=>whnf))
   refine EX (enc:=eO) none (n*(n+1)/2) rfl t3 (by rw[t3];omega) ?_;(conv=>whnf)
   (repeat' ((first|(apply AY;omega)|refine AE (Jc) ?_|refine AE (hO) ?_)<;>conv=>whnf))
   refine FW (enc:=eO) (some 1) rfl (λ e=>by cases e<;>rfl) (by rw[List.length_replicate];exact ry) ?_;(conv=>whnf)
   rw[<-q6];generalize PS n i (i+t)=S0 at *;skip
   refine BR (λ k=>n-k) (λ(k:Nat)=>k<=n) (λ k=>[(14,.int .i64 k)]) (λ k=>[(58,58,.rw 3 ((IQ n S0 (λ k h=>A0 A i k*A0 A (i+t) h) k).map eO))]) [] [] 0 (by (conv=>whnf);exact ⟨rfl,rfl,rfl⟩) (by omega) ?_;intro kk k1 kh;by_cases ib:kk<n
   ·have Qo:=jo kk ib
    have AmQ:r1[((kk:Nat):Int).toNat]? = some (A0 A i kk):=Qo;have Lj:=sH (n:=n) Qc (λ a b=>(DE jl i a).mul (DE jl (i+t) b)) kk;have Fv:=sG n S0 (λ k h=>A0 A i k*A0 A (i+t) h) kk;rw[Lx]at Fv;have hKn:IQ n S0 (λ k h=>A0 A i k*A0 A (i+t) h) (kk+1)=IE n (IQ n S0 (λ k h=>A0 A i k*A0 A (i+t) h) kk) kk (λ h=>A0 A i kk*A0 A (i+t) h) n:=rfl;have hkb:kk*(n*(k+k+1))<=400:=by
     have h1:n*(k+k+1)<=3*41:=Nat.mul_le_mul hn (by omega);have h2:kk*(n*(k+k+1))<=3*(3*41):=Nat.mul_le_mul (by omega) h1;omega
    (repeat' ((first|(apply AG<;>intro hc<;>try (exfalso;omega))|apply AD)<;>conv=>whnf))
    refine BR (λ h=>n-h) (λ(h:Nat)=>h<=n) (λ h=>[(15,.int .i64 h)]) (λ h=>[(58,58,.rw 3 ((IE n (IQ n S0 (λ k h=>A0 A i k*A0 A (i+t) h) kk) kk (λ h=>A0 A i kk*A0 A (i+t) h) h).map eO))]) [] [] 0 (by (conv=>whnf);exact ⟨rfl,rfl,rfl⟩) (by omega) ?_;intro hh h1 Pl;generalize IQ n S0 (λ k h=>A0 A i k*A0 A (i+t) h) kk=K0 at *;by_cases Pm:hh<n
    ·have hx2:=km hh Pm
     have AmS:r2[((hh:Nat):Int).toNat]? = some (A0 A (i+t) hh):=hx2;have hM:=KP N.toa9 (DE jl i kk) (DE jl (i+t) hh) (by omega) (by omega);have pq:=Ah (min kk hh) (max kk hh) (by omega) (by omega);have hpm:=ZB hn ib Pm;have Li:=fQ (n:=n) (a:=kk) Lj (λ h=>(DE jl i kk).mul (DE jl (i+t) h)) hh;have Py:=fP n K0 kk (λ h=>A0 A i kk*A0 A (i+t) h) hh;rw[Fv]at Py;have Oc:IE n K0 kk (λ h=>A0 A i kk*A0 A (i+t) h) (hh+1)=QR n (IE n K0 kk (λ h=>A0 A i kk*A0 A (i+t) h) hh) kk hh (A0 A i kk*A0 A (i+t) hh):=rfl;generalize IE n K0 kk (λ h=>A0 A i kk*A0 A (i+t) h) hh=H0 at *;obtain ⟨o,ho⟩ : ∃ o,H0[dd n (min kk hh) (max kk hh)]? = some o:=⟨_,zE (by omega)⟩;have Oy:=Li.at (dd n (min kk hh) (max kk hh));rw[QR,ho]at Oc;rw[ho]at Oy;have hhb:hh*(k+k+1)<=123:=Nat.mul_le_mul (show hh<=3 by omega) (show k+k+1<=41 by omega);have hSb:Ev L 153 [.agg (eP o),.agg (eQ (A0 A i kk*A0 A (i+t) hh))] (.agg (eQ (o.getD 0-A0 A i kk*A0 A (i+t) hh))):=Adl N.too3 Oy ((DE jl i kk).mul (DE jl (i+t) hh)) (by omega) (by omega);generalize dd n (min kk hh) (max kk hh)=pp at *;generalize A0 A i kk*A0 A (i+t) hh=yy at *;have Jd:(hh<kk/\Ev L 325 [.int .i64 (hh:Int),.int .i64 (kk:Int),.int .i64 (n:Int)] (.int .i64 (pp:Int)))\/(kk<hh/\Ev L 325 [.int .i64 (kk:Int),.int .i64 (hh:Int),.int .i64 (n:Int)] (.int .i64 (pp:Int)))\/(kk=hh/\Ev L 325 [.int .i64 (kk:Int),.int .i64 (kk:Int),.int .i64 (n:Int)] (.int .i64 (pp:Int))):=by
      rcases Nat.lt_trichotomy hh kk with k7|jq|jq
      ·rw[Nat.min_eq_right (by omega),Nat.max_eq_left (by omega)]at pq
       exact Or.inl ⟨k7,pq⟩
      ·rw[Nat.min_eq_left (by omega),Nat.max_eq_left (by omega)]at pq
       exact Or.inr (Or.inr ⟨jq.symm,pq⟩)
      ·rw[Nat.min_eq_left (by omega),Nat.max_eq_right (by omega)]at pq
       exact Or.inr (Or.inl ⟨jq,pq⟩)
     clear pq;have hHs:H0.set pp (some (o.getD 0-yy))=IE n K0 kk (λ h=>A0 A i kk*A0 A (i+t) h) (hh+1):=Oc.symm;generalize o.getD 0-yy=zz at *;rcases Jd with ⟨k7,pq⟩|⟨k7,pq⟩|⟨k7,pq⟩
     all_goals cases o
     all_goals
      (repeat' ((first|(apply AG<;>intro hc<;>try (exfalso;omega))|(apply AY;omega)|apply AD|refine AE (pq) ?_)<;>conv=>whnf))
      refine SP (l:=H0) (enc:=eO) (by rw[Nat.zero_add,Int.toNat_natCast];exact ho) rfl ?_;(conv=>whnf)
      (repeat' ((first|(apply AY;omega)|(refine BC (by assumption) ?_ rfl ?_;omega)|refine AE (hM) ?_|refine AE (hSb) ?_)<;>conv=>whnf))
      refine FW (enc:=eO) (some zz) rfl (λ e=>by cases e<;>rfl) (by omega) ?_;(conv=>whnf)
      rw[hHs];(repeat' ((first|(apply AU;omega)|fail)<;>conv=>whnf))
      exact BF [] (Pl (hh+1) (by omega) (by omega))
    ·have eh:hh=n:=by omega
     clear Pl;rw[eh,<-hKn];(repeat' ((first|(apply AG<;>intro hc<;>try (exfalso;omega))|(apply AU;omega)|apply AD)<;>conv=>whnf))
     exact BF [] (kh (kk+1) (by omega) (by omega))
   ·have ek:kk=n:=by omega
    clear kh;rw[ek,fq,AgB];(repeat' ((first|(apply AG<;>intro hc<;>try (exfalso;omega))|apply AD)<;>conv=>whnf))
    refine AY (by rw[List.length_map];omega) ?_;refine SI (r:=gr) (en:=eQ) Ks.symm (by omega) (by omega) ?_;(conv=>whnf)
    rw[<-xg,Kq];(repeat' ((first|(refine BC (by assumption) ?_ rfl ?_;omega)|apply D9|refine AE (Dl) ?_)<;>conv=>whnf))
    refine EO (enc:=eQ) gy rfl Kt.symm rfl (by omega) (by omega) ?_;(conv=>whnf)
    rw[<-jg,Kr];(repeat' ((first|(apply AU;omega)|fail)<;>conv=>whnf))
    exact BF [(9,110),(10,122)] (th (t+1) (by omega) (by omega))
  ·have et:t=n-i:=by omega
   clear th;have e1:BD n i++DK i t=BD n (i+1):=by rw[et];rfl
   have e2:(BD n i).length+t=(BD n (i+1)).length:=by rw[hS,et]
   rw[e1,e2];(repeat' ((first|(apply AG<;>intro hc<;>try (exfalso;omega))|(apply AU;omega)|apply AD)<;>conv=>whnf))
   exact BF [] (ih (i+1) (by omega) (by omega))
 have ei:i=n:=by omega
 clear ih;rw[ei];clear ei p1 hi i;obtain ⟨v,Oq,z7⟩:=Xb N true true true (gM A n) (gR B n) (BD n n).length (4*k+2) (TM A) (YO B n) (oP yh n) ⟨qt,by omega⟩ (oO jl n) (by omega) (AfP (by omega) (by omega));have Iy:(gM A n).length=(BD n n).length:=(TM A).l;have ve:=YO B n;have Eo : ∀ y:List Rat,y.length=(BD n n).length->(∀ (i:Nat) (r:List Rat) (s:Rat),(gM A n)[i]? = some r->(gR B n)[i]? = some s->A3 r y=s)->JT A B y n:=λ y h1 h2=>⟨h1,h2⟩
 rw[show (BD n n).map (DX A n)=gM A n from rfl,show ((BD n n).map λ p=>bQ B p.1*bQ B p.2)=gR B n from rfl];generalize gM A n=G at *;generalize gR B n=R at *;(repeat' ((first|(apply AG<;>intro hc<;>try (exfalso;omega))|apply AD)<;>conv=>whnf))
 refine I2 (λ_=>rfl) rfl Iy.symm ?_;(conv=>whnf)
 refine DL (enc:=eQ) (λ_=>rfl) rfl ve.symm ?_;(conv=>whnf)
 rcases z7 with ⟨fc,rfl⟩|⟨fc,X,rfl,oe,tk,hX⟩
 ·(repeat' ((first|(apply AG<;>intro hc<;>try (exfalso;omega))|refine AE (Oq) ?_)<;>conv=>whnf))
  exact ⟨_,AZ rfl (HY [] 11),Or.inr ⟨ko,Or.inl ⟨fc,rfl⟩⟩⟩
 have hgX:=Eo X oe hX;clear Eo hX;have ym:=VT X n;have yk:=ym.l;have Cg:=ym.r;have Dr : ∀ i,i<n->(kM X n)[i]? = some ((List.range n).map λ j=>X.getD (dd n (min i j) (max i j)) 0):=λ i hi=>AeI hi
 have Aj : ∀ i j,j<n->((List.range n).map λ j=>X.getD (dd n (min i j) (max i j)) 0)[j]? = some (X.getD (dd n (min i j) (max i j)) 0):=λ i j hj=>by rw[List.getElem?_map,List.getElem?_range hj];rfl
 have Ow : ∀ i j,i<n->j<n->X[(((dd n (min i j) (max i j)):Nat):Int).toNat]? = some (X.getD (dd n (min i j) (max i j)) 0):=λ i j hi hj=>by
  have:=ZB hn hi hj
  rw[Int.toNat_natCast,List.getD_eq_getElem?_getD,zE (by omega)];rfl
 generalize hQQ:kM X n=Q at *;(repeat' ((first|(apply AG<;>intro hc<;>try (exfalso;omega))|refine AE (Oq) ?_)<;>conv=>whnf))
 unfold CT;refine ⟨⟨by omega,by omega,by simp only[DP];omega,by omega⟩,?_⟩;rw[Int.toNat_natCast];(conv=>whnf)
 skip
 refine BR (λ i=>n-i) (λ(i:Nat)=>i<=n) (λ i=>[(20,.int .i64 i)]) (λ i=>[(133,133,.mx (mz Q n i))]) [] [] 0 (by first|exact (by (conv=>whnf);exact ⟨rfl,rfl,rfl⟩)|(rw[<-eF Q];exact (by (conv=>whnf);exact ⟨rfl,rfl,rfl⟩))) (by omega) ?_;intro i p1 ih;have Qt:=eC (Q:=Q) p1;by_cases hi:i<n
 ·have hq:=Dr i hi
  have j6:=eE hq hi;have mj:(mz Q n i)[i]? = some none:=qR yk hi;have vn:=Cg _ (zM hq);have fe:((List.range n).map λ j=>X.getD (dd n (min i j) (max i j)) 0).take 1=[X.getD (dd n (min i 0) (max i 0)) 0]:=by
   rw[PX (Aj i 0 (by omega))];rfl
  have Lr : ∀ j,j<n->((List.range n).map λ j=>X.getD (dd n (min i j) (max i j)) 0).take (j+1)=((List.range n).map λ j=>X.getD (dd n (min i j) (max i j)) 0).take j++[X.getD (dd n (min i j) (max i j)) 0]:=λ j hj=>PX (Aj i j hj)
  have pq : ∀ j,j<n -> ∀ a b:Int,a=((min i j:Nat):Int)/\b=((max i j:Nat):Int)->Ev L 325 [.int .i64 a,.int .i64 b,.int .i64 (n:Int)] (.int .i64 ((dd n (min i j) (max i j):Nat):Int)):=λ j hj a b h=>by
   rw[h.1,h.2];exact Ah (min i j) (max i j) (by omega) (by omega)
  have Qf:=λ j (hj:j<n)=>ZB hn hi hj
  generalize mz Q n i=Z0 at *;generalize ((List.range n).map λ j=>X.getD (dd n (min i j) (max i j)) 0)=qr at *;have Gv:=pq 0 (by omega);have vh:=Ow i 0 hi (by omega);have Ln:=Qf 0 (by omega);generalize X.getD (dd n (min i 0) (max i 0)) 0=y0 at *;generalize dd n (min i 0) (max i 0)=pp at *;(repeat' ((first|(apply AG<;>intro hc<;>try (exfalso;omega))|apply AD)<;>conv=>whnf))
  refine F4 ?_;(repeat' ((first|(apply AG<;>intro hc<;>try (exfalso;omega))|(apply AY;omega)|apply AD)<;>conv=>whnf))
  refine aC (r:=none) (by rw[Nat.zero_add,Int.toNat_natCast];exact mj) ?_;(conv=>whnf)
  (repeat' ((first|(apply AG<;>intro hc<;>try (exfalso;omega))|(refine BC (by assumption) ?_ rfl ?_;omega)|apply D9|refine AE (Gv _ _ (by omega)) ?_)<;>conv=>whnf))
  all_goals
   refine UF (enc:=eQ) y0 rfl rfl (by omega) ?_;(conv=>whnf)
   (repeat' ((first|(apply AY;omega)|fail)<;>conv=>whnf))
   refine AY rfl ?_;refine SS (i:=i) (by omega) (by omega) ?_;(conv=>whnf)
   (repeat' ((first|(apply AU;omega)|fail)<;>conv=>whnf))
   refine BR (λ j=>n-j) (λ(j:Nat)=>1<=j/\j<=n) (λ j=>[(21,.int .i64 j)]) (λ j=>[(133,133,.mx (Z0.set i (some (3,(qr.take j).map eQ))))]) [] [] 1 (by first|exact (by (conv=>whnf);exact ⟨rfl,rfl,rfl⟩)|(rw[fe];exact (by (conv=>whnf);exact ⟨rfl,rfl,rfl⟩))) (by omega) ?_;intro j ⟨r1,r2⟩ jh;have Br:(qr.take j).length=j:=by rw[List.length_take];omega
   by_cases hj:j<n
   ·have mn:=Lr j hj
    have Bu:(qr.take (j+1)).length=j+1:=by rw[List.length_take];omega
    have hPj:=pq j hj;have Hd:=Ow i j hi hj;have hpj:=Qf j hj;generalize X.getD (dd n (min i j) (max i j)) 0=yj at *;generalize dd n (min i j) (max i j)=pj at *;generalize qr.take j=W at *;(repeat' ((first|(apply AG<;>intro hc<;>try (exfalso;omega))|(apply AY;omega)|apply AD)<;>conv=>whnf))
    refine Q6 (by omega) (by omega) ?_;(conv=>whnf)
    (repeat' ((first|(apply AG<;>intro hc<;>try (exfalso;omega))|(refine BC (by assumption) ?_ rfl ?_;omega)|apply D9|refine AE (hPj _ _ (by omega)) ?_)<;>conv=>whnf))
    all_goals
     refine O4 (by omega) (by omega) ?_;(conv=>whnf)
     refine EO (enc:=eQ) yj rfl (by rw[List.length_map]) rfl (by omega) (by omega) ?_;intro s' v;rw[<-mn,Bu];(conv=>whnf)
     (repeat' ((first|(apply AY;omega)|fail)<;>conv=>whnf))
     refine AY ⟨rfl,by rw[List.length_map];omega⟩ ?_;refine SS (i:=i) (by omega) (by rw[List.length_set,List.length_set];omega) ?_;rw[show 0+((i:Int)).toNat=i by omega,List.set_set,List.set_set];(conv=>whnf)
     (repeat' ((first|(apply AU;omega)|fail)<;>conv=>whnf))
     exact BF [] (jh (j+1) (by omega) (by omega))
   ·have ej:j=n:=by omega
    clear jh;rw[ej,List.take_of_length_le (by omega),j6];(repeat' ((first|(apply AG<;>intro hc<;>try (exfalso;omega))|(apply AU;omega)|apply AD)<;>conv=>whnf))
    exact BF [] (ih (i+1) (by omega) (by omega))
 have ei:i=n:=by omega
 clear ih;rw[ei,eB (by omega)];(repeat' ((first|(apply AG<;>intro hc<;>try (exfalso;omega))|apply AD)<;>conv=>whnf))
 refine ⟨.g7 [.sl false (eM Q),.int .i64 0],?_,Or.inr ⟨ko,Or.inr ⟨fc,X,hgX,tk,by rw[hQQ]⟩⟩⟩;(conv=>whnf)
 refine I2 (λ_=>rfl) rfl yk.symm ?_;(conv=>whnf)
 exact AZ rfl (HY Q 0)
end Go.c5

namespace Go.c5
set_option maxHeartbeats 16000000
def QH (K:List (List Rat)) (v:List Rat) (n:Nat):Rat:=BW (λ i=>BW (λ j=>A0 K i j*(bQ v i*bQ v j)) n) n
def JO (c:List Rat) (A:List (List Rat)) (n:Nat):List Rat:=(List.range n).map λ j=>BW (λ i=>bQ c i*A0 A i j) n
def KD (c:List Rat) (A:List (List Rat)) (n:Nat):Nat->List Rat
 | 0=>c
 | k+1=>JO (KD c A n k) A n
def R9 (S:HM) (K:List (List Rat)) (n:Nat):Nat->Rat
 | 0=>S.d*S.d+QH K S.c n
 | k+1=>QH K (KD S.c S.a n k) n
theorem uX (c:List Rat) (A:List (List Rat)) (n:Nat):(JO c A n).length=n:=by simp [JO]
theorem Ag1 {c:List Rat} {A:List (List Rat)} {n:Nat} (h:c.length=n) : ∀ k,(KD c A n k).length=n
 | 0=>h
 | k+1=>uX _ _ _
theorem N6 {k:Nat} {f:Nat->Rat} (h : ∀ j,Bt k (f j)) : ∀ m,Bt (m*(k+1)) (BW f m)
 | 0=>Bt.zero _
 | m+1=>by
  rw[BW];exact ((N6 h m).add (h m)).le (by rw[Nat.succ_mul];omega)
theorem F7 {k:Nat} {v:List Rat} (h:Bs k v) (i:Nat):Bt k (bQ v i):=Bs.getD h i
theorem Ag0 {k l:Nat} {c:List Rat} {A:List (List Rat)} (hc:Bs k c) (hA:Ms l A) (n:Nat):Bs (n*(k+l+1)) (JO c A n):=λ x hx=>by
 obtain ⟨j,_,rfl⟩:=List.mem_map.1 hx;exact N6 (λ i=>(F7 hc i).mul (DE hA i j)) n
def Q1 (k l:Nat):Nat->Nat
 | 0=>k
 | t+1=>3*(Q1 k l t+l+1)
theorem uY {k l n:Nat} {c:List Rat} {A:List (List Rat)} (hc:Bs k c) (hA:Ms l A) (hn:n<=3) : ∀ t,Bs (Q1 k l t) (KD c A n t)
 | 0=>hc
 | t+1=>(Ag0 (uY hc hA hn t) hA n).le (Nat.mul_le_mul_right _ hn)
theorem uW {k k' l l':Nat} (h:k<=k') (h':l<=l') : ∀ t,Q1 k l t<=Q1 k' l' t
 | 0=>h
 | t+1=>by
  have:=uW h h' t
  rw[Q1,Q1];omega
theorem AgZ {k t:Nat} (hk:k<=40) (h:t<=6):Q1 k k t<=100000:=by
 have : ∀ t,t<7->Q1 40 40 t<=100000:=by decide
 exact Nat.le_trans (uW hk hk t) (this t (by omega))
end Go.c5

namespace Go.c5
open F
attribute [local irreducible] AA AF AM AC CI AW AX A5 A6 B3 AQ BS B7 C5 BQ A2 BO B9 AB A9 AJ pw BN BG CH CM CT CP CE BU CK
variable {L:Lib}
set_option maxHeartbeats 16000000
set_option maxRecDepth 8000
theorem Xo (N:w5 L) (S:HM) (n k:Nat) (h:S.Ok n k) (hn:n<=8):Ev L 328 [.agg (eS S)] (.bool true):=by
 have hSd:=Yq N.togu S n k h (by omega);have hla:=h.la;refine Ev.x N.LY rfl rfl ?_;(repeat' ((first|(apply AG<;>intro hc<;>try (exfalso;omega))|apply AR|apply AD|refine AE (hSd) ?_)<;>conv=>whnf))
 exact IZ rfl
theorem nC (N:w5 L) (q1 q2 q3:Bool) (K:List (List Rat)) (v:List Rat) (n k l:Nat) (hK:Sq n K) (hv:v.length=n) (kj:Ms k K) (re:Bs l v) (hn:n<=3) (hk:k<=1000000000) (hl:l<=1000000000) :
  Ev L 329 [.sl q1 (CX q2 K),.sl q3 (v.map eQ)] (.agg (eQ (QH K v n))):=by
 have hO:=I7 N.toa8 0 (by omega);rw[show ((0:Int):Rat)=0 from rfl]at hO;have z0:=hK.l;have ic : ∀ i,Bt (n*((k+(l+l))+1)) (BW (λ j=>A0 K i j*(bQ v i*bQ v j)) n):=λ i=>N6 (λ j=>(DE kj i j).mul ((F7 re i).mul (F7 re j))) n
 have hB1:n*((k+(l+l))+1)<=3*((k+(l+l))+1):=Nat.mul_le_mul_right _ hn;refine Ev.x N.LU rfl rfl ?_;(repeat' ((first|apply AR|apply AD|refine AE (hO) ?_)<;>conv=>whnf))
 refine BR (λ i=>n-i) (λ(i:Nat)=>i<=n) (λ i=>[(11,.int .i64 i)]) (λ i=>[(5,5,.bx (eQ (BW (λ i=>BW (λ j=>A0 K i j*(bQ v i*bQ v j)) n) i)))]) [] [] 0 (by (conv=>whnf);exact ⟨rfl,rfl,rfl⟩) (by omega) ?_;intro i p1 ih;have Pn:=N6 ic i;have Ir:i*(n*((k+(l+l))+1)+1)<=3*(3*((k+(l+l))+1)+1):=Nat.mul_le_mul (by omega) (by omega);by_cases hi:i<n
 ·obtain ⟨r1,w8,ji,jo⟩:=NZ hK hi
  have xm:K[((i:Nat):Int).toNat]? = some r1:=w8;have Mt:v[((i:Nat):Int).toNat]? = some (bQ v i):=I3 hv hi;have Bq:BW (λ i=>BW (λ j=>A0 K i j*(bQ v i*bQ v j)) n) (i+1)=BW (λ i=>BW (λ j=>A0 K i j*(bQ v i*bQ v j)) n) i+BW (λ j=>A0 K i j*(bQ v i*bQ v j)) n:=rfl;generalize BW (λ i=>BW (λ j=>A0 K i j*(bQ v i*bQ v j)) n) i=s0 at *;(repeat' ((first|(apply AG<;>intro hc<;>try (exfalso;omega))|apply AR|(refine BC (by assumption) ?_ rfl ?_;omega)|apply AD)<;>conv=>whnf))
  refine BR (λ j=>n-j) (λ(j:Nat)=>j<=n) (λ j=>[(19,.int .i64 j)]) (λ j=>[(5,5,.bx (eQ (s0+BW (λ j=>A0 K i j*(bQ v i*bQ v j)) j)))]) [] [] 0 (by first|exact (by (conv=>whnf);exact ⟨rfl,rfl,rfl⟩)|(rw[show s0+BW (λ j=>A0 K i j*(bQ v i*bQ v j)) 0=s0 from Rat.add_zero s0];exact (by (conv=>whnf);exact ⟨rfl,rfl,rfl⟩))) (by omega) ?_;intro j j1 jh;have zd:=Pn.add (N6 (λ j=>(DE kj i j).mul ((F7 re i).mul (F7 re j))) j);have Nv:j*((k+(l+l))+1)<=3*((k+(l+l))+1):=Nat.mul_le_mul_right _ (by omega);by_cases hj:j<n
  ·have fm:r1[((j:Nat):Int).toNat]? = some (A0 K i j):=jo j hj
   have hvj:v[((j:Nat):Int).toNat]? = some (bQ v j):=I3 hv hj;have ay:=GY N.toa8 (F7 re i) (F7 re j) (by omega) (by omega);have cr:=GY N.toa8 (DE kj i j) ((F7 re i).mul (F7 re j)) (by omega) (by omega);have hA:=QC N.toa8 zd ((DE kj i j).mul ((F7 re i).mul (F7 re j))) (by omega) (by omega);have Ga:s0+BW (λ j=>A0 K i j*(bQ v i*bQ v j)) j+A0 K i j*(bQ v i*bQ v j)=s0+BW (λ j=>A0 K i j*(bQ v i*bQ v j)) (j+1):=Rat.add_assoc _ _ _;rw[Ga]at hA;generalize s0+BW (λ j=>A0 K i j*(bQ v i*bQ v j)) j=s1 at *;generalize A0 K i j*(bQ v i*bQ v j)=p2 at *;generalize bQ v i*bQ v j=p3 at *;(repeat' ((first|(apply AG<;>intro hc<;>try (exfalso;omega))|(apply AU;omega)|(refine BC (by assumption) ?_ rfl ?_;omega)|apply AD|refine AE (ay) ?_|refine AE (cr) ?_|refine AE (hA) ?_)<;>conv=>whnf))
   exact BF [] (jh (j+1) (by omega) (by omega))
  ·have ej:j=n:=by omega
   clear jh;rw[ej,<-Bq];(repeat' ((first|(apply AG<;>intro hc<;>try (exfalso;omega))|(apply AU;omega)|apply AD)<;>conv=>whnf))
   exact BF [] (ih (i+1) (by omega) (by omega))
 ·have ei:i=n:=by omega
  clear ih;rw[ei,show BW (λ i=>BW (λ j=>A0 K i j*(bQ v i*bQ v j)) n) n=QH K v n from rfl];generalize QH K v n=y at *;(repeat' ((first|(apply AG<;>intro hc<;>try (exfalso;omega))|apply AD)<;>conv=>whnf))
  exact AZ rfl (DH _)
theorem Yr (N:w5 L) (q1 q2 q3:Bool) (c:List Rat) (A:List (List Rat)) (n k l:Nat) (hA:Sq n A) (m8:c.length=n) (jl:Ms k A) (oh:Bs l c) (hn:n<=3) (hk:k<=1000000000) (hl:l<=1000000000) :
  Ev L 330 [.sl q1 (c.map eQ),.sl q2 (CX q3 A)] (.sl false ((JO c A n).map eQ)):=by
 have hO:=I7 N.toa8 0 (by omega);rw[show ((0:Int):Rat)=0 from rfl]at hO;have z0:=hA.l;have ju:=uX c A n;refine Ev.x N.LT rfl rfl ?_;(repeat' ((first|apply AR|apply AD)<;>conv=>whnf))
 refine EX (enc:=eO) none n rfl (by omega) (by omega) ?_;(conv=>whnf)
 skip
 refine BR (λ i=>n-i) (λ(i:Nat)=>i<=n) (λ i=>[(14,.int .i64 i)]) (λ i=>[(11,11,.rw 3 ((EM ((JO c A n).take i) n).map eO))]) [] [] 0 (by first|exact (by (conv=>whnf);exact ⟨rfl,rfl,rfl⟩)|(rw[List.take_zero,<-QF];exact (by (conv=>whnf);exact ⟨rfl,rfl,rfl⟩))) (by omega) ?_;intro i p1 ih;have aw:((JO c A n).take i).length=i:=by rw[List.length_take];omega
 have Hl:=PJ (l:=(JO c A n).take i) (m:=n) (by omega);by_cases hi:i<n
 ·have hyx:(JO c A n)[i]? = some (BW (λ a=>bQ c a*A0 A a i) n):=by rw[JO,List.getElem?_map,List.getElem?_range hi];rfl
  have j6:=QG (l:=(JO c A n).take i) (m:=n) (x:=BW (λ a=>bQ c a*A0 A a i) n) (by omega);rw[aw,<-PX hyx]at j6;generalize EM ((JO c A n).take i) n=F0 at *;(repeat' ((first|(apply AG<;>intro hc<;>try (exfalso;omega))|apply AR|apply AD|refine AE (hO) ?_)<;>conv=>whnf))
  refine BR (λ j=>n-j) (λ(j:Nat)=>j<=n) (λ j=>[(20,.int .i64 j)]) (λ j=>[(7,7,.bx (eQ (BW (λ a=>bQ c a*A0 A a i) j)))]) [] [] 0 (by (conv=>whnf);exact ⟨rfl,rfl,rfl⟩) (by omega) ?_;intro j j1 jh;have zd:=N6 (λ a=>(F7 oh a).mul (DE jl a i)) j;have Nv:j*(l+k+1)<=3*(l+k+1):=Nat.mul_le_mul_right _ (by omega);by_cases hj:j<n
  ·obtain ⟨r1,w8,ji,jo⟩:=NZ hA hj
   have xm:A[((j:Nat):Int).toNat]? = some r1:=w8;have fm:r1[((i:Nat):Int).toNat]? = some (A0 A j i):=jo i hi;have wx:c[((j:Nat):Int).toNat]? = some (bQ c j):=I3 m8 hj;have ay:=GY N.toa8 (F7 oh j) (DE jl j i) (by omega) (by omega);have Ae:=QC N.toa8 zd ((F7 oh j).mul (DE jl j i)) (by omega) (by omega);rw[show BW (λ a=>bQ c a*A0 A a i) j+bQ c j*A0 A j i=BW (λ a=>bQ c a*A0 A a i) (j+1) from rfl]at Ae;generalize BW (λ a=>bQ c a*A0 A a i) j=s1 at *;generalize bQ c j*A0 A j i=p2 at *;(repeat' ((first|(apply AG<;>intro hc<;>try (exfalso;omega))|(apply AU;omega)|(refine BC (by assumption) ?_ rfl ?_;omega)|apply AD|refine AE (ay) ?_|refine AE (Ae) ?_)<;>conv=>whnf))
   exact BF [] (jh (j+1) (by omega) (by omega))
  ·have ej:j=n:=by omega
   clear jh;rw[ej];generalize BW (λ a=>bQ c a*A0 A a i) n=y at *;(repeat' ((first|(apply AG<;>intro hc<;>try (exfalso;omega))|(apply AY;omega)|apply AD)<;>conv=>whnf))
   refine FW (enc:=eO) (some y) rfl (λ e=>by cases e<;>rfl) (by omega) ?_;(conv=>whnf)
   rw[j6];(repeat' ((first|(apply AU;omega)|fail)<;>conv=>whnf))
   exact BF [] (ih (i+1) (by omega) (by omega))
 ·have ei:i=n:=by omega
  clear ih;rw[ei,List.take_of_length_le (by omega),QE ju];(repeat' ((first|(apply AG<;>intro hc<;>try (exfalso;omega))|apply AD)<;>conv=>whnf))
  refine DL (enc:=eQ) (λ_=>rfl) rfl (by omega) ?_;(conv=>whnf)
  refine AZ rfl ?_;simp only[A4];exact ⟨trivial,JY _⟩
theorem AfO {k m:Nat} (hk:k<=82) (hm:m<=6):EU k m<=340000:=by
 rcases (show m=0\/m=1\/m=2\/m=3\/m=4\/m=5\/m=6 by omega) with rfl|rfl|rfl|rfl|rfl|rfl|rfl<;>simp only[EU]<;>omega
def wV (A:List (List Rat)) (B:List Rat) (n:Nat) (v:AV):Prop :=
 (((∀ j,j<=6->D4 (CF n A j)=false) \/ ¬ NS (BD n n).length (gM A n)) /\ ∃ e:Int,e≠0/\v = .g7 [.sl false [],.int .i64 e])\/((∃ i,D4 (CF n A i)=true) /\ ∃ X:List Rat,JT A B X n/\Bs 340000 X/\v = .g7 [.sl false (eM (kM X n)),.int .i64 0])
theorem oV (N:q8 L) (A:List (List Rat)) (B:List Rat) (n:Nat) {k:Nat} (h:SM A B n k) (hk:k<=20) (hn:n<=3) :
  ∃ v,Ev L 324 [.sl false (CX false A),.sl false (B.map eQ)] v/\Ev L 326 [.sl false (CX false A),.sl false (B.map eQ)] v/\wV A B n v:=by
 obtain ⟨v,h1,o1⟩:=Yl N A B n k h hk hn false false false;obtain ⟨w,h2,o2⟩:=Ada N A B n k h.sq h.lb h.ba h.bb hk hn false false false;rcases o1 with ⟨c1,rfl⟩|⟨⟨i,i1,i2⟩,o1⟩
 ·rcases o2 with ⟨_,rfl⟩|⟨⟨j,j1,j2⟩,_⟩
  ·exact ⟨_,h1,h2,Or.inl ⟨Or.inl c1,14,by decide,rfl⟩⟩
  ·have:=c1 j j1
   rw[j2.1]at this;cases this
 ·rcases o2 with ⟨c2,_⟩|⟨_,o2⟩
  ·have:=c2 i i1
   rw[i2.1]at this;cases this
  ·rcases o1 with ⟨n1,rfl⟩|⟨n1,X,g1,rfl⟩
   ·rcases o2 with ⟨_,rfl⟩|⟨n2,_⟩
    ·exact ⟨_,h1,h2,Or.inl ⟨Or.inr n1,11,by decide,rfl⟩⟩
    ·exact absurd n2 n1
   ·rcases o2 with ⟨n2,_⟩|⟨n2,Y,g2,hY,rfl⟩
    ·exact absurd n1 n2
    ·obtain rfl:=g1.uniq g2 n1
     exact ⟨_,h1,h2,Or.inr ⟨⟨i,i2.1⟩,X,g1,hY.le (AfO (by omega) (Y9 hn)),rfl⟩⟩
theorem mY (N:w5 L) (S:HM) (n m:Nat) {k:Nat} (hS:S.Ok n k) (hk:k<=40) (hn:n<=3) (hm:m<=6) (K:List (List Rat)) (hK:Sq n K) (kj:Ms 340000 K) (hv:Ev L 324 [.sl false (CX false S.a),.sl false (S.b.map eQ)] (.g7 [.sl false (eM K),.int .i64 0])) :
  Ev L 331 [.agg (eS S),.int .i64 (m:Int)] (.g7 [.agg (eQ (R9 S K n m)),.int .i64 0]):=by
 have On:=Xo N S n k hS (by omega);have hA:Sq n S.a:=⟨hS.la,hS.lr⟩;cases m with
 | zero =>
  have hF:=λ q1 q2 q3=>nC N q1 q2 q3 K S.c n 340000 k hK hS.lc kj hS.bc hn (by omega) (by omega)
  have hM:=GY N.toa8 hS.bd hS.bd (by omega) (by omega);have Em:Bt (3*(3*(340000+(k+k)+1)+1)) (QH K S.c n):=(N6 (λ i=>(N6 (λ j=>(DE kj i j).mul ((F7 hS.bc i).mul (F7 hS.bc j))) n).le (Nat.mul_le_mul_right _ hn)) n).le (Nat.mul_le_mul_right _ hn);have Ae:=QC N.toa8 (hS.bd.mul hS.bd) Em (by omega) (by omega);refine Ev.x N.JA rfl rfl ?_;(repeat' ((first|(apply AG<;>intro hc<;>try (exfalso;omega))|apply AD|refine AE (On) ?_|refine AE (hv) ?_|refine AE (hM) ?_|refine AE (hF _ _ _) ?_|refine AE (Ae) ?_)<;>conv=>whnf))
  exact AZ rfl (by simp only[A4,CW,and_true,true_and];exact ⟨CQ _,CQ _⟩)
 | succ m =>
  refine Ev.x N.JA rfl rfl ?_;(repeat' ((first|(apply AG<;>intro hc<;>try (exfalso;omega))|(apply B6;omega)|apply AD|refine AE (On) ?_|refine AE (hv) ?_)<;>conv=>whnf))
  refine BR (λ t=>m-t) (λ(t:Nat)=>t<=m) (λ t=>[(48,.int .i64 t),(8,.sl false ((KD S.c S.a n t).map eQ))]) (λ_=>[]) [] [] 0 (by (conv=>whnf);exact ⟨rfl,rfl,rfl⟩) (by omega) ?_;intro t p1 ih;have hb:=(uY hS.bc hS.ba hn t).le (AgZ hk (show t<=6 by omega));have hl:=Ag1 (A:=S.a) hS.lc t;by_cases ht:t<m
  ·have Nw:=λ q1 q2 q3=>Yr N q1 q2 q3 (KD S.c S.a n t) S.a n k 100000 hA hl hS.ba hb hn (by omega) (by omega)
   rw[show JO (KD S.c S.a n t) S.a n=KD S.c S.a n (t+1) from rfl]at Nw;(repeat' ((first|(apply AG<;>intro hc<;>try (exfalso;omega))|(apply AU;omega)|apply AD|refine AE (Nw _ _ _) ?_)<;>conv=>whnf))
   exact BF [] (ih (t+1) (by omega) (by omega))
  ·have et:t=m:=by omega
   clear ih;rw[et]at hb hl ⊢;have hF:=λ q1 q2 q3=>nC N q1 q2 q3 K (KD S.c S.a n m) n 340000 100000 hK hl kj hb hn (by omega) (by omega)
   rw[show QH K (KD S.c S.a n m) n=R9 S K n (m+1) from rfl]at hF;generalize R9 S K n (m+1)=y at *;generalize KD S.c S.a n m=c0 at *;(repeat' ((first|(apply AG<;>intro hc<;>try (exfalso;omega))|apply AD|refine AE (hF _ _ _) ?_)<;>conv=>whnf))
   exact AZ rfl (by simp only[A4,CW,and_true,true_and];exact ⟨CQ _,CQ _⟩)
theorem Yk (N:w5 L) (S:HM) (n:Nat) {k:Nat} (hS:S.Ok n k) (hk:k<=40) (hn:n<=3) (K:List (List Rat)) (hK:Sq n K) (kj:Ms 340000 K) (hv:Ev L 324 [.sl false (CX false S.a),.sl false (S.b.map eQ)] (.g7 [.sl false (eM K),.int .i64 0])) :
  Ev L 332 [.agg (eS S)] (.g7 [.agg (eQ (R9 S K n 0)),.int .i64 0]):=by
 have hT:=mY N S n 0 hS hk hn (by omega) K hK kj hv;refine Ev.x N.LR rfl rfl ?_;(repeat' ((first|apply AD|refine AE (hT) ?_)<;>conv=>whnf))
 exact AZ rfl (by simp only[A4,CW,and_true,true_and];exact ⟨CQ _,CQ _⟩)
theorem Yn (N:cg L) (l:List Int) (q:Bool) (n:Nat) (hl : ∀ x∈l,I0 x) (hn:n<=1000000):O3 L 141 [.sl q (l.map TC),.int .i64 (n:Int)] 3 ((FP l n).map eQ):=by
 have dz : ∀ i:Nat,I0 (G8 l (i:Int)):=λ i=>by
  unfold G8;split
  ·rw[List.getD_eq_getElem?_getD]
   cases e:l[((i:Int)).toNat]? with
   | none=>simp [I0]
   | some x=>exact hl x (zM e)
  ·simp [I0]
 refine O3.x N.N9 rfl rfl ?_;(repeat' (apply AD<;>conv=>whnf))
 refine BR (λ i=>n-i) (λ(i:Nat)=>i<=n) (λ i=>[(6,.int .i64 i),(5,.row 5 0 3 0 i)]) (λ i=>[(5,5,.rw 3 ((FP l i).map eQ))]) [] [] 0 (by (conv=>whnf);exact ⟨rfl,rfl,rfl⟩) (by omega) ?_;intro i p1 ih;by_cases hi:i<n
 ·have hA':=λ q=>Adm N.tov8 l q (i:Int)
  have hW:=nZ N.tov8 (G8 l (i:Int)) 2000 (dz i) (by omega);have hw0:0<=F2 (G8 l (i:Int)) 2000/\F2 (G8 l (i:Int)) 2000<2000:=by unfold F2;split<;>omega
  have Gd:=AfN l i;have hlen:=ZD l i;have hF:=TF N.toa9 (F2 (G8 l (i:Int)) 2000%25-12) (1+F2 (G8 l (i:Int)) 2000/25%8) (by omega) (by omega);have hF':Ev L 125 [.int .i64 (F2 (G8 l (i:Int)) 2000%25-12),.int .i64 (1+F2 (G8 l (i:Int)) 2000/25%8)] (.agg (eQ (TZ (F2 (G8 l (i:Int)) 2000)))):=hF;clear hF;generalize TZ (F2 (G8 l (i:Int)) 2000)=y at *;generalize F2 (G8 l (i:Int)) 2000=v at *;(repeat' ((first|(apply AG<;>intro hc<;>try (exfalso;omega))|(apply AU;omega)|(apply B6;omega)|(refine SR ?_ (λ_ _ _ => ?_) (λ_ _ _ _ => ?_);omega;all_goals try (exfalso;omega))|(refine KG ?_ ?_ (λ_ => ?_) (λ_ _ => ?_);omega;omega;all_goals try (exfalso;omega))|apply D9|apply AD|refine AE (hA' _) ?_|refine AE (hW) ?_|refine AE (hF') ?_)<;>conv=>whnf))
  refine EO (enc:=eQ) y rfl hlen.symm rfl (by omega) (by omega) ?_;(conv=>whnf)
  (repeat' ((first|(apply AU;omega)|fail)<;>conv=>whnf))
  rw[show (FP l i++[y]).length=i+1 by simp [hlen],<-Gd];exact BF [(5,27)] (ih (i+1) (by omega) (by omega))
 ·obtain rfl:i=n:=by omega
  clear ih;have hlen:=ZD l i;(repeat' ((first|(apply AG<;>intro hc<;>try (exfalso;omega))|apply AD)<;>conv=>whnf))
  exact ⟨rfl,rfl,by simp [hlen],rfl,JY _⟩
def JX (n:Nat):Rat:=Rat.divInt 1 (16*n)
def OI (l:List Int) (n:Nat):HM:=⟨C0 (JX n) (KC l n).a,(KC l n).b,(KC l n).c,(KC l n).d⟩
theorem W7 {es:List (List AV)} {i j n:Nat} {K:List AV->Prop} {cs ds:List AV} (h:es[i]? = some cs) (hp:part cs j n=some ds) (hk:K ds):A5 es i j n K:=by
 unfold A5;exact ⟨cs,ds,h,hp,hk⟩
theorem XM {es:List (List AV)} {i j:Nat} {vs cs:List AV} {K:List (List AV)->Prop} (h:es[i]? = some cs) (hl:Nat.ble (j+vs.length) cs.length=true) (hk:K (es.set i (splice cs j vs))):A6 es i j vs K:=by
 unfold A6;exact ⟨cs,h,Nat.le_of_ble_eq_true hl,hk⟩
theorem XJ {es:List (List AV)} {off len:Nat} {K:List (List AV)->Prop} (h:Nat.ble (off+len) es.length=true) (hz:es.all FJ=true) (hk:K ((es.drop off).take len)):A2 es off len K :=
 UP (Nat.le_of_ble_eq_true h) (λ e he=>List.all_eq_true.1 hz e he) hk
theorem Yf (N:bz L) (l:List Int) (q:Bool) (n:Nat) (hl : ∀ x∈l,I0 x) (hn:n<=3):Ev L 317 [.sl q (l.map TC),.int .i64 (n:Int)] (.agg (eS (OI l n))):=by
 have hR:=λ q=>Yn N.tocg l q (n*n+2*n+1) hl (by have:n*n<=9:=Nat.mul_le_mul hn hn;omega)
 have oe:=ZD l (n*n+2*n+1);have tk:=sB l (n*n+2*n+1);have hF:Ev L 125 [.int .i64 1,.int .i64 (16*n)] (.agg (eQ (JX n))):=TF N.toa9 1 (16*n) (by omega) (by omega);have oh:Bt 6 (JX n):=by
  rw[JX,show (16*n:Int)=((16*n:Nat):Int) by omega,Rat.divInt_ofNat];refine Bt.mk (by decide) ?_;show _<=64;omega
 have hM : ∀ x∈FP l (n*n+2*n+1),Ev L 128 [.agg (eQ x),.agg (eQ (JX n))] (.agg (eQ (x*JX n))):=λ x hx=>KP N.toa9 (tk x hx) oh (by omega) (by omega)
 unfold OI KC;simp only[];generalize FP l (n*n+2*n+1)=X at *;obtain rfl|rfl|rfl|rfl:n=0\/n=1\/n=2\/n=3:=by omega
 ·match X,oe with
  | [x0],_ =>
   refine Ev.x N.HI rfl rfl ?_;(repeat' (apply AD<;>conv=>whnf))
   refine EW 1000 N.HJ rfl rfl ?_;(repeat' ((first|(apply AU;omega)|(apply EF;omega)|apply AD)<;>conv=>whnf))
   refine OC (enc:=eQ) 1 (hR _) rfl ?_;(conv=>whnf)
   (repeat' ((first|(apply AY;omega)|(apply AU;omega)|(apply EF;omega)|(refine FU ?_ (λ_=>rfl) (λ v hv => ?_);omega)|(apply P1;omega))<;>conv=>whnf))
   obtain rfl:x0=v:=Option.some.inj hv;repeat (refine F4 ?_;(repeat' ((first|(apply AG<;>intro hc<;>try (exfalso;omega))|apply AD)<;>conv=>whnf)))
   refine ⟨rfl,?_⟩;(conv=>whnf)
   skip
   repeat (first|(refine F4 ?_;(repeat' ((first|(apply AG<;>intro hc<;>try (exfalso;omega))|apply AD)<;>conv=>whnf)))|(refine W7 rfl rfl ?_;(conv=>whnf);skip)|(refine XM rfl rfl ?_;(conv=>whnf);skip))
   repeat (first|(refine AY rfl ?_;(conv=>whnf))|(refine XJ rfl rfl ?_;(conv=>whnf)))
   exact AZ rfl (UW _)
 ·match X,oe with
  | [x0,x1,x2,x3],_ =>
   refine Ev.x N.HI rfl rfl ?_;(repeat' (apply AD<;>conv=>whnf))
   refine EW 1000 N.HJ rfl rfl ?_;(repeat' ((first|(apply AU;omega)|(apply EF;omega)|apply AD)<;>conv=>whnf))
   refine OC (enc:=eQ) 4 (hR _) rfl ?_;(conv=>whnf)
   (repeat' ((first|(apply AY;omega)|(apply AU;omega)|(apply EF;omega)|(refine W6 ?_ (λ_=>rfl) (λ v hv => ?_);omega)|(apply P1;omega))<;>conv=>whnf))
   obtain rfl:x3=v:=Option.some.inj hv;repeat (refine F4 ?_;(repeat' ((first|(apply AG<;>intro hc<;>try (exfalso;omega))|(apply AY;omega)|(apply AU;omega)|(apply EF;omega)|(apply P1;omega)|apply AD)<;>conv=>whnf)))
   refine ⟨rfl,?_⟩;(conv=>whnf)
   skip
   repeat (first|(refine F4 ?_;(repeat' ((first|(apply AG<;>intro hc<;>try (exfalso;omega))|(apply AY;omega)|(apply AU;omega)|apply AD)<;>conv=>whnf)))|(refine W7 rfl rfl ?_;(conv=>whnf);(repeat' ((first|(apply AY;omega)|(apply EF;omega)|refine AE (hF) ?_|refine AE (hM _ (by simp)) ?_)<;>conv=>whnf)))|(refine XM rfl rfl ?_;(conv=>whnf);(repeat' ((first|(apply AU;omega)|fail)<;>conv=>whnf))))
   repeat (first|(refine AY rfl ?_;(conv=>whnf))|(refine XJ rfl rfl ?_;(conv=>whnf)))
   exact AZ rfl (UW _)
 ·match X,oe with
  | [x0,x1,x2,x3,x4,x5,x6,x7,x8],_ =>
   refine Ev.x N.HI rfl rfl ?_;(repeat' (apply AD<;>conv=>whnf))
   refine EW 1000 N.HJ rfl rfl ?_;(repeat' ((first|(apply AU;omega)|(apply EF;omega)|apply AD)<;>conv=>whnf))
   refine OC (enc:=eQ) 9 (hR _) rfl ?_;(conv=>whnf)
   (repeat' ((first|(apply AY;omega)|(apply AU;omega)|(apply EF;omega)|(refine W6 ?_ (λ_=>rfl) (λ v hv => ?_);omega)|(apply P1;omega))<;>conv=>whnf))
   obtain rfl:x8=v:=Option.some.inj hv;repeat (refine F4 ?_;(repeat' ((first|(apply AG<;>intro hc<;>try (exfalso;omega))|(apply AY;omega)|(apply AU;omega)|(apply EF;omega)|(apply P1;omega)|apply AD)<;>conv=>whnf)))
   refine ⟨rfl,?_⟩;(conv=>whnf)
   skip
   repeat (first|(refine F4 ?_;(repeat' ((first|(apply AG<;>intro hc<;>try (exfalso;omega))|(apply AY;omega)|(apply AU;omega)|apply AD)<;>conv=>whnf)))|(refine W7 rfl rfl ?_;(conv=>whnf);(repeat' ((first|(apply AY;omega)|(apply EF;omega)|refine AE (hF) ?_|refine AE (hM _ (by simp)) ?_)<;>conv=>whnf)))|(refine XM rfl rfl ?_;(conv=>whnf);(repeat' ((first|(apply AU;omega)|fail)<;>conv=>whnf))))
   repeat (first|(refine AY rfl ?_;(conv=>whnf))|(refine XJ rfl rfl ?_;(conv=>whnf)))
   exact AZ rfl (UW _)
 ·match X,oe with
  | [x0,x1,x2,x3,x4,x5,x6,x7,x8,x9,xa,xb,xc,xd,xe,xf],_ =>
   refine Ev.x N.HI rfl rfl ?_;(repeat' (apply AD<;>conv=>whnf))
   refine EW 1000 N.HJ rfl rfl ?_;(repeat' ((first|(apply AU;omega)|(apply EF;omega)|apply AD)<;>conv=>whnf))
   refine OC (enc:=eQ) 16 (hR _) rfl ?_;(conv=>whnf)
   (repeat' ((first|(apply AY;omega)|(apply AU;omega)|(apply EF;omega)|(refine W6 ?_ (λ_=>rfl) (λ v hv => ?_);omega)|(apply P1;omega))<;>conv=>whnf))
   obtain rfl:xf=v:=Option.some.inj hv;repeat (refine F4 ?_;(repeat' ((first|(apply AG<;>intro hc<;>try (exfalso;omega))|(apply AY;omega)|(apply AU;omega)|(apply EF;omega)|(apply P1;omega)|apply AD)<;>conv=>whnf)))
   refine ⟨rfl,?_⟩;(conv=>whnf)
   skip
   repeat (first|(refine F4 ?_;(repeat' ((first|(apply AG<;>intro hc<;>try (exfalso;omega))|(apply AY;omega)|(apply AU;omega)|apply AD)<;>conv=>whnf)))|(refine W7 rfl rfl ?_;(conv=>whnf);(repeat' ((first|(apply AY;omega)|(apply EF;omega)|refine AE (hF) ?_|refine AE (hM _ (by simp)) ?_)<;>conv=>whnf)))|(refine XM rfl rfl ?_;(conv=>whnf);(repeat' ((first|(apply AU;omega)|fail)<;>conv=>whnf))))
   repeat (first|(refine AY rfl ?_;(conv=>whnf))|(refine XJ rfl rfl ?_;(conv=>whnf)))
   exact AZ rfl (UW _)
theorem Bt.ng {k:Nat} {x:Rat} (h:Bt k x):Bt k (-x):=⟨by simpa using h.1,by simpa using h.2⟩
theorem Zw:Bt 4 (Rat.divInt 1 2):=(Bt.mk (k:=4) (z:=1) (d:=2) (by decide) (by decide))
end Go.c5



namespace Go.c5
open F
attribute [local irreducible] AA AF AM AC CI AW AX A5 A6 B3 AQ BS B7 C5 BQ A2 BO B9 AB A9 AJ pw BN BG CH CM CT CP CE BU CK
variable {L:Lib}
set_option maxHeartbeats 8000000
set_option maxRecDepth 8000
theorem Th (n:Nat) (hn:n<=3):Bt 6 (JX n):=by
 rw[JX,show (16*n:Int)=((16*n:Nat):Int) by omega,Rat.divInt_ofNat];refine Bt.mk (by decide) ?_;show _<=64;omega
theorem jW (l:List Int) (n:Nat) (hn:n<=3):(OI l n).Ok n 10:=by
 have h:=AgO l n;refine ⟨by rw[OI,gJ];exact h.la,gK _ h.lr,h.lb,h.lc,?_,h.bb.le (by omega),h.bc.le (by omega),h.bd.le (by omega)⟩;intro r hr x hx;obtain ⟨s,hs,rfl⟩:=List.mem_map.1 hr;obtain ⟨y,hy,rfl⟩:=List.mem_map.1 hx;exact (h.ba s hs y hy).mul (Th n hn)
end Go.c5
