/-
  Powers and sums (layer 29): the program's Power and Sum.
-/
import Derived.Test.YtplhdlbnneoobaaGreatB11
import Derived.Test.YtplhdlbnneoobaaGreatB10
import Derived.Test.YtplhdlbnneoobaaGreatB1
import Derived.Test.YtplhdlbnneoobaaGreatB4
import Derived.Test.YtplhdlbnneoobaaGreatB7
set_option linter.unusedSimpArgs false
set_option linter.unusedVariables false
set_option linter.unnecessarySimpa false
namespace Go.b7
open F
attribute [local irreducible] AA AF AM AC BT AQ A5 AZ BG A9 BS CN BH AU BI BR AB A1 AJ pw B1 BQ B9 CM CH BF BV BB B5
variable {L:Lib}
set_option maxHeartbeats 16000000
set_option maxRecDepth 8000
theorem Vq {D:Rat} {f:Nat->Rat} {p j:Nat} (h:p<=j):DZ D f (j+1-p)=DZ D f (j-p)*D+f (j-p):=by
 rw[show j+1-p=(j-p)+1 by omega];rfl
abbrev QJ (Z:List (List Rat)) (T:Rat):List AV:=[.sl false (eM Z)]++eQ T
theorem Ox (Z:List (List Rat)) (T:Rat):A4 (.agg (QJ Z T)):=by
 have h1:=aQ Z;have h3:=DH T;simp only[A4,CB,true_and,and_true,QJ,List.cons_append,List.nil_append]at h1 h3 ⊢;exact ⟨h1,h3.1,h3.2⟩
theorem nL (N:l7 L) (qr:Bool) (R:List (List Rat)) (D T:Rat) (z:Nat->List Rat) (n p kr kd kz:Nat) (hR:Sq n R) (Dm:Ms kr R) (hD:Bt kd D) (gu : ∀ j,j<=128->Bs kz (z j)) (vl : ∀ j,(z j).length=n) (hz : ∀ j,z (j+1)=GY R (z j))
  (hn:n<=4) (hp:1<=p/\p<=64) (k1:kr<=1000000000) (k2:kd<=1000000000) (k3:kz<=1000000000) :
  Ev L 304 [.agg (HA qr R D (p:Int) T),.sl false ((z 0).map eQ)] (.agg (QJ ((List.range (p+p)).map z) (DZ D (λ m=>C8 (z (p+m))) p))):=by
 have hO:=E2 N.toa6 0 (by omega);rw[show ((0:Int):Rat)=0 from rfl]at hO;have v5:=Ox ((List.range (p+p)).map z) (DZ D (λ m=>C8 (z (p+m))) p);have Cr : ∀ j,(List.range (j+1)).map z=(List.range j).map z++[z j]:=λ j=>by rw[List.range_succ,List.map_append];rfl
 have gp : ∀ j,((List.range j).map z).length=j:=λ j=>by simp
 have yy : ∀ m,m<=64->Bt (64*(kd+kz+1)) (DZ D (λ m=>C8 (z (p+m))) m):=λ m hm=>(RW hD m λ j hj=>VM (gu (p+j) (by omega))).le (Nat.mul_le_mul_right _ hm)
 refine Ev.x N.MK rfl rfl ?_;(repeat' ((first|(apply FY;omega)|apply AE|refine AD (hO) ?_)<;>conv=>whnf))
 refine EX (λ j _=>p+p-j) (λ(j:Nat) (fl:Bool)=>j<=p+p/\fl=decide (j=0)) (λ j _=>[(14,.int .i64 j),(6,.sl false ((z (j-1)).map eQ))]) (λ j fl=>bif fl then [] else [(5,5,.bx ([.row 1000 0 1 0 j]++eQ (DZ D (λ m=>C8 (z (p+m))) (j-p)))),(1000,27,.rw 1 (((List.range j).map z).map λ r=>[AV.sl false (r.map eQ)]))]) [] [] 0 true (by (conv=>whnf);exact ⟨rfl,rfl,rfl⟩) ⟨by omega,rfl⟩ ?_;intro j fl ⟨p1,p2⟩ ih;by_cases hj:j<p+p
 ·have hA:=λ q1 q2=>Su N q1 q2 qr R (z (j-1)) n kr kz hR (vl _) Dm (gu _ (by omega)) hn k1 k3
  have hG:=λ q=>Sw N q (z j) kz (gu j (by omega)) (by rw[vl];omega) (by omega)
  have hs:=Cr j;have hl:=gp j;have ch:=gp (j+1);cases fl
  ·have Bw:j≠0:=by simpa using p2.symm
   have Jf:GY R (z (j-1))=z j:=by rw[<-hz];congr 1;omega
   rw[Jf]at hA;by_cases hjp:p<=j
   ·have h1:=F3 N.toa6 (yy (j-p) (by omega)) hD (by omega) (by omega)
    have h2:=HD N.toa6 ((yy (j-p) (by omega)).mul hD) (VM (gu j (by omega))) (by omega) (by omega);have he:DZ D (λ m=>C8 (z (p+m))) (j-p)*D+C8 (z j)=DZ D (λ m=>C8 (z (p+m))) (j+1-p):=by
     rw[Vq hjp,show p+(j-p)=j by omega]
    rw[he]at h2;have e1:z (j+1-1)=z j:=rfl;rw[<-e1]at hG hA hs h2 Jf;generalize (List.range j).map z=Z at *;(repeat' ((first|(apply AG<;>intro hc<;>try (exfalso;omega))|apply EF|apply AE|refine AD (hA _ _) ?_)<;>conv=>whnf))
    refine FV (l:=Z) (z:=1) (bytes:=24) (enc:=λ r:List Rat=>[AV.sl false (r.map eQ)]) (z (j+1-1)) rfl hl.symm rfl (by omega) (by omega) ?_;rw[<-hs,ch];(conv=>whnf)
    (repeat' ((first|(apply AG<;>intro hc<;>try (exfalso;omega))|(apply AR;omega)|refine AD (h1) ?_|refine AD (hG _) ?_|refine AD (h2) ?_)<;>conv=>whnf))
    exact BO [(1000,27)] (ih (j+1) false (by omega) ⟨by omega,by simp⟩)
   ·have ez:j-p=j+1-p:=by omega
    have e1:z (j+1-1)=z j:=rfl;rw[<-e1]at hA hs Jf;rw[ez];generalize (List.range j).map z=Z at *;(repeat' ((first|(apply AG<;>intro hc<;>try (exfalso;omega))|apply EF|apply AE|refine AD (hA _ _) ?_)<;>conv=>whnf))
    refine FV (l:=Z) (z:=1) (bytes:=24) (enc:=λ r:List Rat=>[AV.sl false (r.map eQ)]) (z (j+1-1)) rfl hl.symm rfl (by omega) (by omega) ?_;rw[<-hs,ch];(conv=>whnf)
    (repeat' ((first|(apply AG<;>intro hc<;>try (exfalso;omega))|(apply AR;omega))<;>conv=>whnf))
    exact BO [(1000,27)] (ih (j+1) false (by omega) ⟨by omega,by simp⟩)
  ·have Bw:j=0:=by simpa using p2.symm
   subst Bw;have ez:DZ D (λ m=>C8 (z (p+m))) (0+1-p)=0:=by rw[show 0+1-p=0 by omega];rfl
   (repeat' ((first|(apply AG<;>intro hc<;>try (exfalso;omega))|apply EF|apply AE)<;>conv=>whnf))
   refine SU (enc:=λ r:List Rat=>[AV.sl false (r.map eQ)]) (z 0) rfl rfl (by omega) ?_;(conv=>whnf)
   (repeat' ((first|(apply AG<;>intro hc<;>try (exfalso;omega))|(apply AR;omega))<;>conv=>whnf))
   rw[show [z 0]=(List.range (0+1)).map z from rfl];rw[<-ez];exact BO [(1000,27)] (ih (0+1) false (by omega) ⟨by omega,by simp⟩)
 have ej:j=p+p:=by omega
 obtain rfl:fl=false:=by rw[p2];simp;omega
 clear ih p2;have hl:=gp j;rw[show j-p=p by omega];rw[<-ej]at v5 ⊢;(repeat' ((first|(apply AG<;>intro hc<;>try (exfalso;omega))|(refine C3 (λ_=>rfl) rfl ?_ ?_;(first|rfl|simp))|apply AE)<;>conv=>whnf))
 exact AW rfl v5
abbrev PO (m:List (List Rat)):List (List AV):=m.map λ r=>[AV.sl true (r.map (IQ true))]
theorem dO (Z:List (List Rat)) (T:Rat):KG (.agg (QJ Z T)) = .agg ([.sl true (PO Z)]++IQ true T):=by
 have hd : ∀ l:List Nat,JR (l.map AL)=l.map AL:=λ l=>by
  induction l with
  | nil=>rfl
  | cons x l ih=>rw[List.map_cons,JR,ih];rfl
 have hq : ∀ x:Rat,HR (eQ x)=IQ true x:=λ x=>by
  show HR [.bool _,.sl false _,.sl false _]=_;simp only[HR,GM,hd]
 have hr : ∀ r:List Rat,JR (r.map eQ)=r.map (IQ true):=λ r=>by
  induction r with
  | nil=>rfl
  | cons x r ih=>rw[List.map_cons,JR,ih,hq];rfl
 have hz : ∀ Z:List (List Rat),JR (eM Z)=PO Z:=λ Z=>by
  induction Z with
  | nil=>rfl
  | cons r Z ih =>
   have Dd:JR (Z.map λ r=>[AV.sl false (r.map eQ)])=Z.map λ r=>[AV.sl true (r.map (IQ true))]:=ih
   show JR ([AV.sl false (r.map eQ)]::Z.map λ r=>[AV.sl false (r.map eQ)])=_;rw[JR,Dd];simp only[HR,GM,hr];rfl
 show AV.agg (HR (AV.sl false (eM Z)::eQ T))=_;rw[HR,hq];simp only[GM,hz];rfl
theorem nH (N:l7 L) (qr q:Bool) (R:List (List Rat)) (D T U:Rat) (P:Int) (c:List Rat) (z:Nat->List Rat) (n m kd kc kz kt:Nat) (hD:Bt kd D) (hc:Bs kc c) (n6:c.length=n) (gu : ∀ j,j<=128->Bs kz (z j)) (vl : ∀ j,(z j).length=n) (hT:Bt kt T)
  (hn:n<=4) (hm:m<=128) (k1:kc<=100000000) (k2:kd<=100000000) (k3:kz<=100000000) (k4:kt<=100000000000) :
  Ev L 305 [.agg (HA qr R D P U),.sl q (c.map eQ),.agg ([.sl true (PO ((List.range m).map z))]++IQ true T)] (.agg (eQ (DZ D (λ j=>CJ (CE c (z j))) m+B0 c*T))):=by
 have hO:=E2 N.toa6 0 (by omega);rw[show ((0:Int):Rat)=0 from rfl]at hO;have gp:((List.range m).map z).length=m:=by simp
 have Lm : ∀ j,j<m->((List.range m).map z)[j]? = some (z j):=λ j hj=>by rw[List.getElem?_map,List.getElem?_range hj];rfl
 have x6 : ∀ j,j<=128->Bt (4*(kc+kz+1)) (CE c (z j)):=λ j hj=>(hc.dot (gu j hj)).le (Nat.mul_le_mul_right _ (by omega))
 have hH : ∀ t,t<=128->Bt (128*(kd+4*(kc+kz+1)+1)) (DZ D (λ j=>CJ (CE c (z j))) t):=λ t ht=>(RW hD t λ j hj=>OM (x6 j (by omega))).le (Nat.mul_le_mul_right _ ht)
 have ua:Bt (4*(kc+1)) (B0 c):=(T4 hc).le (Nat.mul_le_mul_right _ (by omega));generalize (List.range m).map z=Z at *;refine Ev.x N.MJ rfl rfl ?_;(repeat' ((first|apply AY|apply AE|refine AD (hO) ?_)<;>conv=>whnf))
 refine CK (λ j=>m-j) (λ(j:Nat)=>j<=m) (λ j=>[(14,.int .i64 j)]) (λ j=>[(7,7,.bx (eQ (DZ D (λ j=>CJ (CE c (z j))) j)))]) [] [] 0 (by (conv=>whnf);exact ⟨rfl,rfl,rfl⟩) (by omega) ?_;intro j p1 ih;by_cases hj:j<m
 ·have hr:=Lm j hj
  have yh:Z[(j:Int).toNat]? = some (z j):=hr;have h1:=F3 N.toa6 (hH j (by omega)) hD (by omega) (by omega);have hd:=λ q q'=>nG N q q' true c (z j) kc kz (by rw[n6,vl]) hc (gu j (by omega)) (by omega) (by omega) (by omega)
  have ha:=U4 N.tov9 (x6 j (by omega)) (by omega);have h2:=HD N.toa6 ((hH j (by omega)).mul hD) (OM (x6 j (by omega))) (by omega) (by omega);have vy:Ev L 98 [.agg (eQ (DZ D (λ j=>CJ (CE c (z j))) j*D)),.agg (eQ (CJ (CE c (z j))))] (.agg (eQ (DZ D (λ j=>CJ (CE c (z j))) (j+1)))):=h2;clear h2 x6 hH ua;(repeat' ((first|(apply AG<;>intro hc<;>try (exfalso;omega))|(apply AR;omega)|(refine BC (by assumption) ?_ rfl ?_;omega)|apply AE|refine AD (h1) ?_|refine AD (hd _ _) ?_|refine AD (ha) ?_|refine AD (vy) ?_)<;>conv=>whnf))
  exact BO [] (ih (j+1) (by omega) (by omega))
 have ej:j=m:=by omega
 clear ih;rw[ej];have hS:=λ q=>nK N q c kc hc (by omega) (by omega)
 have h1:=nA N.toa6 true ua hT (by omega) (by omega);have h2:=HD N.toa6 (hH m hm) (ua.mul hT) (by omega) (by omega);(repeat' ((first|(apply AG<;>intro hc<;>try (exfalso;omega))|apply AE|refine AD (hS _) ?_|refine AD (h1) ?_|refine AD (h2) ?_)<;>conv=>whnf))
 exact AW rfl (DH _)
theorem eU {Z:List (List Rat)} {T:Rat} (h:Z≠[]) : ¬ IE (.agg (QJ Z T)):=by
 intro hf;have h1:=hf (.sl false (eM Z)) (by simp);cases Z with
 | nil=>exact h rfl
 | cons r Z =>
  have h2:=h1 [.sl false (r.map eQ)] (by simp) (.sl false (r.map eQ)) (by simp);simp [eB]at h2
theorem AgJ {n k j:Nat} (hn:n<=4) (hj:j<=128):WO n k j<=5*k+128*(17*k+4):=by
 have h1:n*n<=4*4:=Nat.mul_le_mul hn hn;have h2:n*n*k<=16*k:=Nat.mul_le_mul_right k h1;have h3:n*k<=4*k:=Nat.mul_le_mul_right k hn;have h4:j*((k+n*n*k)+n)<=128*(17*k+4):=Nat.mul_le_mul hj (by omega);rw[WO];omega
theorem VF (b:List Rat):[b].flatten=b:=by simp
theorem Sy (N:l7 L) (S:IH) (n k:Nat) (hS:S.Ok n k) (hn:n<=4) (hk:k<=1000) :
  ∃ v,Ev L 307 [.agg (eS S)] v/\((∃ i,i<=6/\KS n S.a i/\v = .g8 [.agg (eQ (KQ S (2^i))),.int .i64 0])\/((∀ j,j<=6->GD (DF n S.a j)=false)/\v = .g8 [.agg [.bool false,.sl false [],.sl false []],.int .i64 14])):=by
 have Lp:=Qg N.todt S n k hS (by omega);have hla:=hS.la;have hlb:=hS.lb;have iu:=hS.lc;have Dq:Sq n S.a:=⟨hS.la,hS.lr⟩;obtain ⟨v,wj,hv⟩:=nJ N false false S.a n k Dq hS.ba hn (by omega);have ov:=U7 N true false [S.b] k (λ r hr=>by obtain rfl:=List.mem_singleton.1 hr;exact hS.bb) (by rw[VF];omega) (by simp) (by omega);have nc:=U7 N true false [S.c] k (λ r hr=>by obtain rfl:=List.mem_singleton.1 hr;exact hS.bc) (by rw[VF];omega) (by simp) (by omega);rw[VF]at ov nc;refine Ev.xE N.MA rfl rfl ?_;rcases hv with ⟨i,h1,h2,rfl⟩|⟨h1,rfl⟩
 ·obtain ⟨D,eD,d1,d2,d3⟩:=gE Dq hS.ba
  obtain ⟨E,eE,e1,e2,e3⟩:=X9 hS.lb hS.bb;obtain ⟨O,Aj,o1,o2,o3⟩:=X9 hS.lc hS.bc;obtain ⟨g1,_,g3⟩:=R8 h1;have yc:n*n<=4*4:=Nat.mul_le_mul hn hn;have Cc:n*n*k<=16*k:=Nat.mul_le_mul_right k yc;have Ai1:n*k<=4*k:=Nat.mul_le_mul_right k hn;have bD:Bt 16000 (D:Rat):=(R4 d2).le (by omega);have bE:Bt 4000 (E:Rat):=(R4 e2).le (by omega);have bO:Bt 4000 (O:Rat):=(R4 o2).le (by omega);have pD:=OZ d1;have pE:=OZ e1;have pO:=OZ o1;have Mb:=vG Dq d3 e3;have gu : ∀ j,j<=128->Bs 3000000 (C2 S.a S.b (D:Rat) (E:Rat) j):=λ j hj x hx=>((Mb j x hx).le (by have:=AgJ (n:=n) (k:=k) hn hj;omega)).bt
  have ji:Bs 5000 (S.c.map (· * (O:Rat))):=λ x hx=>((o3 x hx).le (by omega)).bt
  have Dm:Ms 17000 (B6 (D:Rat) S.a):=λ r hr x hx=>((d3 r hr x hx).le (by omega)).bt
  have aj:=uG (S:=S) (p:=2^i) g3 pD pE pO;have ve:KQ S (2^i)=CJ S.d+(IA (QN S.a S.b S.c) (2^i+2^i)+B0 S.c*IA (λ j=>QQ S.a S.b (2^i+j)) (2^i)):=rfl;rw[<-aj]at ve;rw[eD]at wj;rw[eE]at ov;rw[Aj]at nc;clear eD eE Aj Mb d1 d2 d3 e1 e2 e3 o1 o2 o3 aj;generalize (D:Rat)=D at *;generalize (E:Rat)=E at *;generalize (O:Rat)=O at *;have Ge:=λ q=>U8 N q S.c O k 4000 hS.bc bO (by omega) (by omega) (by omega)
  have Gd:=λ q=>U8 N q S.b E k 4000 hS.bb bE (by omega) (by omega) (by omega)
  have vl : ∀ j,(C2 S.a S.b D E j).length=n:=λ j=>by rw[C2,List.length_map,iC hla hlb]
  have hW:=nL N false (B6 D S.a) D (D^(2^i+2^i-1)) (C2 S.a S.b D E) n (2^i) 17000 16000 3000000 (gC _ Dq) Dm bD gu vl (ZM S.a S.b D E) hn ⟨g3,g1⟩ (by omega) (by omega) (by omega);rw[ZN]at hW;have bt:Bt 200000000 (DZ D (λ m=>C8 (C2 S.a S.b D E (2^i+m))) (2^i)):=(RW bD _ λ j hj=>VM (gu (2^i+j) (by omega))).le (by
   have:=Nat.mul_le_mul_right (16000+3000000+1) g1
   omega)
  have hG:=λ q=>nH N false q (B6 D S.a) D (DZ D (λ m=>C8 (C2 S.a S.b D E (2^i+m))) (2^i)) (D^(2^i+2^i-1)) ((2^i:Nat):Int) (S.c.map (· * O)) (C2 S.a S.b D E) n (2^i+2^i) 16000 5000 3000000 200000000 bD ji (by rw[List.length_map];exact iu) gu vl bt hn (by omega) (by omega) (by omega) (by omega) (by omega)
  have vp:Bt 3000000000 (DZ D (λ j=>CJ (CE (S.c.map (· * O)) (C2 S.a S.b D E j))) (2^i+2^i)+B0 (S.c.map (· * O))*DZ D (λ m=>C8 (C2 S.a S.b D E (2^i+m))) (2^i)):=by
   have q1 : ∀ j,j<2^i+2^i->Bt (4*(5000+3000000+1)) (CJ (CE (S.c.map (· * O)) (C2 S.a S.b D E j))):=λ j hj=>OM ((ji.dot (gu j (by omega))).le (Nat.mul_le_mul_right _ (by rw[List.length_map];omega)))
   have q2:=(RW bD (2^i+2^i) q1).le (Nat.mul_le_mul_right _ (show 2^i+2^i<=128 by omega));have q3:Bt (4*(5000+1)) (B0 (S.c.map (· * O))):=(T4 ji).le (Nat.mul_le_mul_right _ (by rw[List.length_map];omega));exact (q2.add (q3.mul bt)).le (by omega)
  have blast:Bt 2100000 (D^(2^i+2^i-1)):=(YR bD _).le (by
   have:=Nat.mul_le_mul_right 16000 (show 2^i+2^i-1<=127 by omega)
   omega)
  have gd:=F3 N.toa6 bE bO (by omega) (by omega);have il:=F3 N.toa6 blast (bE.mul bO) (by omega) (by omega);have l9:D^(2^i+2^i-1)*(E*O)≠0:=by
   have yf : ∀ j:Nat,0<D^j:=λ j=>by
    induction j with
    | zero=>rw[Rat.pow_zero];decide
    | succ j ih=>rw[Rat.pow_succ];exact Rat.mul_pos ih pD
   have:=Rat.mul_pos (yf (2^i+2^i-1)) (Rat.mul_pos pE pO)
   grind
  have Fp:=XV N.toa6 vp (blast.mul (bE.mul bO)) (by omega) (by omega) l9;have Dj:=U4 N.tov9 hS.bd (by omega);have Jx:=HD N.toa6 (OM hS.bd) (vp.na (blast.mul (bE.mul bO))) (by omega) (by omega);rw[<-ve]at Jx;have Bn : ¬ IE (.agg (QJ ((List.range (2^i+2^i)).map (C2 S.a S.b D E)) (DZ D (λ m=>C8 (C2 S.a S.b D E (2^i+m))) (2^i)))):=eU (by
   intro e;have:=congrArg List.length e
   simp at this)
  have xx:=dO ((List.range (2^i+2^i)).map (C2 S.a S.b D E)) (DZ D (λ m=>C8 (C2 S.a S.b D E (2^i+m))) (2^i));have v5 : ∀ r:AV,r = .g8 [.agg (eQ (KQ S (2^i))),.int .i64 0]->((∃ i,i<=6/\KS n S.a i/\r = .g8 [.agg (eQ (KQ S (2^i))),.int .i64 0])\/((∀ j,j<=6->GD (DF n S.a j)=false)/\r = .g8 [.agg [.bool false,.sl false [],.sl false []],.int .i64 14])):=λ r hr=>Or.inl ⟨i,h1,h2,hr⟩
  clear ve vp blast bt l9 gu ji Dm pD pE pO;generalize KQ S (2^i)=W at *;generalize DZ D (λ j=>CJ (CE (S.c.map (· * O)) (C2 S.a S.b D E j))) (2^i+2^i)+B0 (S.c.map (· * O))*DZ D (λ m=>C8 (C2 S.a S.b D E (2^i+m))) (2^i)=U at *;generalize DZ D (λ m=>C8 (C2 S.a S.b D E (2^i+m))) (2^i)=T at *;generalize (List.range (2^i+2^i)).map (C2 S.a S.b D E)=Z at *;generalize D^(2^i+2^i-1)=P at *;generalize 2^i=p at *;(repeat' ((first|(apply AG<;>intro hc<;>try (exfalso;omega))|apply AY|refine FF rfl ?_|apply AE|refine AD (Lp) ?_|refine AD (wj) ?_|refine AD (ov) ?_|refine AD (nc) ?_|refine AD (Ge _) ?_|refine AD (Gd _) ?_|refine AD (hW) ?_)<;>conv=>whnf))
  refine ZT Bn trivial ?_;rw[xx];(conv=>whnf)
  (repeat' ((first|refine AD (hG _) ?_|refine AD (gd) ?_|refine AD (il) ?_|refine AD (Fp) ?_|refine AD (Dj) ?_|refine AD (Jx) ?_)<;>conv=>whnf))
  exact ⟨_,AW rfl (kG _ 0),v5 _ rfl⟩
 ·(repeat' ((first|(apply AG<;>intro hc<;>try (exfalso;omega))|apply AY|apply AE|refine AD (Lp) ?_|refine AD (wj) ?_)<;>conv=>whnf))
  exact ⟨_,AW rfl (by simp [A4,CB,EN]),Or.inr ⟨h1,rfl⟩⟩
end Go.b7
namespace Go.b7
def ED (u:Rat) (ex:Int):Nat->List Rat->List (List (Int × Int))->List Rat
 | _,vals,[]=>vals
 | k,vals,ts::r=>ED u ex (k+1) (vals++[if (k:Int)=ex then 1 else I6 vals ts*u]) r
theorem X5 (u:Rat) (ex:Int) : ∀ (k:Nat) (vals:List Rat) (l:List (List (Int × Int))),(ED u ex k vals l).length=vals.length+l.length
 | _,vals,[]=>by simp [ED]
 | k,vals,ts::r=>by rw[ED,X5 u ex (k+1)];simp;omega
theorem oU (u:Rat) (ex:Int) (vals:List Rat) (l:List (List (Int × Int))) (i:Nat) (ts:List (Int × Int)) (h:l[i]? = some ts):ED u ex 0 vals (l.take (i+1))=ED u ex 0 vals (l.take i)++[if (i:Int)=ex then 1 else I6 (ED u ex 0 vals (l.take i)) ts*u]:=by
 have key : ∀ (l:List (List (Int × Int))) (k:Nat) (vals:List Rat) (ts:List (Int × Int)),ED u ex k vals (l++[ts])=ED u ex k vals l++[if ((k+l.length:Nat):Int)=ex then 1 else I6 (ED u ex k vals l) ts*u]:=by
  intro l;induction l with
  | nil=>intro k vals ts;simp [ED]
  | cons a l ih =>
   intro k vals ts;rw[List.cons_append,ED,ih,ED,List.length_cons,show k+1+l.length=k+(l.length+1) by omega]
 have hi:=(zS h).1;rw[List.take_add_one,h,Option.toList_some,key,List.length_take,Nat.min_eq_left (by omega),Nat.zero_add]
def PV (m:Nat):Nat->Nat
 | 0=>0
 | i+1=>m*(PV m i+25)+PV m i+24
theorem dA {u:Rat} {ex:Int} {m:Nat} (hu:Bt 24 u) : ∀ (l:List (List (Int × Int))) (k:Nat) (vals:List Rat),(∀ ts∈l,ts.length<=m)->(∀ ts∈l,∀ t∈ts,t.2.natAbs<=2^24)->Bs (PV m k) vals->Bs (PV m (k+l.length)) (ED u ex k vals l)
 | [],k,vals,_,_,hv=>hv
 | ts::l,k,vals,h1,h2,hv=>by
  rw[ED,List.length_cons,show k+(l.length+1)=k+1+l.length by omega];refine dA hu l (k+1) _ (λ t ht=>h1 t (by simp [ht])) (λ t ht=>h2 t (by simp [ht])) ?_;intro x hx;rcases List.mem_append.1 hx with hx|hx
  ·exact (hv x hx).le (by rw[PV];omega)
  ·simp only[List.mem_singleton]at hx
   subst hx;split
   ·exact Bt.one _
   ·have a1:=hv.sum ts (j:=24) (λ t ht=>Bt.ofInt (h2 ts (by simp) t ht))
    have a2:=Nat.mul_le_mul_right (24+PV m k+1) (h1 ts (by simp));refine ((a1.le a2).mul hu).le ?_;rw[PV,show 24+PV m k+1=PV m k+25 by omega];omega
end Go.b7

namespace Go.b7
open F
attribute [local irreducible] AA AF AM AC BT AQ A5 AZ BG A9 BS CN BH AU BI BR AB A1 AJ pw B1 BQ B9 CM CH BF BV BB B5
variable {L:Lib}
set_option maxHeartbeats 4000000
end Go.b7



namespace Go.b7
open F
attribute [local irreducible] AA AF AM AC BT AQ A5 AZ BG A9 BS CN BH AU BI BR AB A1 AJ pw B1 BQ B9 CM CH BF BV BB B5
variable {L:Lib} (n:Nt)
set_option maxHeartbeats 1000000
end Go.b7

namespace Go.b7
open F
attribute [local irreducible] AA AF AM AC BT AQ A5 AZ BG A9 BS CN BH AU BI BR AB A1 AJ pw B1 BQ B9 CM CH BF BV BB B5
set_option maxHeartbeats 4000000
variable {L:Lib}
section
variable (n:Nt)
end
end Go.b7

namespace Go.b7
theorem WR {w:Wd} {v:Int} (h:FT w v) : -8388608<=v/\v<=8388608:=by
 obtain ⟨hw,e1,e2⟩:=h;obtain ⟨h1,h2,h3,h4⟩:=QS hw;omega
theorem RZ {l:List Int} {sg fr:Int} {t:Int × Int} (h:t∈DQ l sg fr) : ∃ i:Nat,∃ v∈l,i<l.length/\t=(fr+i,sg*v):=by
 simp only[DQ,List.mem_map,List.mem_range]at h;obtain ⟨i,hi,rfl⟩:=h;exact ⟨i,l[i],List.getElem_mem hi,hi,by simp [List.getD_eq_getElem?_getD,zE hi]⟩
theorem qK {n:Nat} {a b k:Int} (h:k∈G9 n a b):k=b \/ ∃ i:Nat,1<=i/\i<n/\k=a+i-1:=by
 simp only[G9,List.mem_map,List.mem_range]at h;obtain ⟨i,hi,rfl⟩:=h;by_cases h0:i=0
 ·exact Or.inl (by rw[if_pos h0])
 ·exact Or.inr ⟨i,by omega,hi,by rw[if_neg h0]⟩
variable {b a:List Int} {d c:Wd}
theorem Sp (hd:WV d) (hc:WV c) (l1:1<=b.length/\b.length<=49) (l2:a.length<=8) (hb : ∀ v∈b,FT c v) (ha : ∀ v∈a,FT c v/\FT c (-v)):O0 (FP b a d c)=true:=by
 rw[GN];refine ⟨hd,hc,⟨by simp only[FP];omega,by simp only[FP];omega,by simp [FP],by simp [FP,G9]⟩,?_,?_,by simp only[FP];omega,by simp only[FP,List.length_cons,List.length_nil];omega⟩
 ·simp only[FP,HE,Bool.and_true,Bool.and_eq_true,decide_eq_true_eq,List.all_eq_true]
  refine ⟨by simp [J2];omega,λ t ht => ?_⟩;simp only[GQ,decide_eq_true_eq];rcases List.mem_append.1 ht with h|h
  ·obtain ⟨i,v,hv,hi,rfl⟩:=RZ h
   exact ⟨by simp only;omega,by simp only;omega,Or.inr (by simpa using hb v hv)⟩
  ·obtain ⟨i,v,hv,hi,rfl⟩:=RZ h
   exact ⟨by simp only;omega,by simp only;omega,Or.inr (by simpa using (ha v hv).2)⟩
 ·simp only[FP,KJ,List.all_eq_true,decide_eq_true_eq,List.length_cons,List.length_nil]
  intro k hk;rcases List.mem_append.1 hk with h|h
  all_goals (rcases qK h with rfl|⟨i,h1,h2,rfl⟩<;>refine decide_eq_true ?_<;>omega)
end Go.b7

namespace Go.b7
end Go.b7



namespace Go.b7
open F
attribute [local irreducible] AA AF AM AC BT AQ A5 AZ BG A9 BS CN BH AU BI BR AB A1 AJ pw B1 BQ B9 CM CH BF BV BB B5
variable {L:Lib}
set_option maxHeartbeats 1000000
theorem T8 {b:Int} (hb:0<=b) (v:Int) : -b<=KR b v/\KR b v<=b:=by
 have:=PA (v:=IntKind.i64.wrap (v+b)) (m:=2*b+1) (by omega)
 unfold KR;omega
theorem jN {c:Wd} (hc:WV c) (l:List Int) (n:Nat) : ∀ v∈HJ (pw (c.b-1)-1) l n,FT c v/\FT c (-v):=by
 intro v hv;obtain ⟨h1,h2,h3,h4⟩:=QS hc;simp only[HJ,List.mem_map]at hv;obtain ⟨i,_,rfl⟩:=hv;have:=T8 (b:=pw (c.b-1)-1) (by omega) (EP l i)
 exact ⟨⟨hc,by omega,by omega⟩,⟨hc,by omega,by omega⟩⟩
theorem aH (b:Int) (l:List Int) (n:Nat):(HJ b l n).length=n:=by simp [HJ]
end Go.b7

namespace Go.b7
variable {d c:Wd} {p:List Int}
end Go.b7

namespace Go.b7
open F
attribute [local irreducible] AA AF AM AC BT AQ A5 AZ BG A9 BS CN BH AU BI BR AB A1 AJ pw B1 BQ B9 CM CH BF BV BB B5
variable {L:Lib}
set_option maxHeartbeats 4000000
theorem kS (k:Int):(B8 k).f<=(B8 k).b-2:=by
 have hr:=PA (v:=k) (m:=1099511627776) (by omega);have h1:0<=DC k 1099511627776%(9-6+1):=Int.emod_nonneg _ (by omega);simp only[B8,P5];generalize DC k 1099511627776/(9-6+1)=d;omega
def TV (c:Wd) (l:List Int):List Int :=
 if DC (EP l 0) 3=0 then [] else
 if DC (EP l 0) 3=1 then [KR (pw c.f*3/4) (EP l 1)] else
 [KR ((pw c.f+KR (pw c.f/2) (EP l 1))/2) (EP l 2),KR (pw c.f/2) (EP l 1)]
theorem zT (b x:Int):HJ b [x] 1=[KR b x]:=rfl
theorem zF {l:List Int} (h : ∀ v∈l,EJ v) (i:Int):EJ (EP l i):=by
 unfold EP;split
 ·rw[List.getD_eq_getElem?_getD]
  cases he:l[i.toNat]? with
  | none=>exact ⟨by show _<=(0:Int);decide,by show (0:Int)<=_;decide⟩
  | some v=>exact h v (zM he)
 ·exact ⟨by decide,by decide⟩
theorem Sk (W:o5 L) (N:y7 L) (c:Wd) (hc:WV c) (l:List Int) (q:Bool) (hl : ∀ v∈l,EJ v):Ev L 347 [.agg (F2 c),.sl q (l.map CQ)] (.sl false ((TV c l).map CQ)):=by
 have hp:=GF c.f;have ye:pw c.f<=8388608:=by
  have q6:=hc;unfold WV at q6;have:=JI (n:=c.f) (m:=23) (by omega)
  have qj:pw 23=8388608:=by unfold pw;rfl
  omega
 have hA:=oA W l;have hW:=RQ W (EP l 0) 3 (zF hl 0) (by omega);have hr:=PA (v:=EP l 0) (m:=3) (by omega);have hB:=λ(b:Int) (x:Int) (hb:0<=b/\b<=1000000000000)=>XX W b hb [x] true 1 (by omega)
 simp only[zT,List.map_cons,List.map_nil]at hB;have q6:=hc;unfold WV at q6;refine Ev.x N.OE rfl rfl ?_;have hz:=T8 (b:=pw c.f/2) (by omega) (EP l 1);have b1:=hB (pw c.f*3/4) (EP l 1) (by omega);have b2:=hB (pw c.f/2) (EP l 1) (by omega);have b3:=hB ((pw c.f+KR (pw c.f/2) (EP l 1))/2) (EP l 2) (by omega);unfold TV;by_cases h0:DC (EP l 0) 3=0
 ·rw[if_pos h0]
  (repeat' ((first|(apply AG<;>intro hc<;>try (exfalso;omega))|(refine FN ?_ (λ_ _ => ?_);omega)|(apply B7;omega)|apply AE|refine AD (hA _ _) ?_|refine AD (hW) ?_)<;>conv=>whnf))
  exact AW rfl (by simp [A4,CB,EN])
 rw[if_neg h0];by_cases h1:DC (EP l 0) 3=1
 ·rw[if_pos h1]
  (repeat' ((first|(apply AG<;>intro hc<;>try (exfalso;omega))|(apply FY;omega)|(refine FN ?_ (λ_ _ => ?_);omega)|(refine KA ?_ ?_ (λ_ => ?_) (λ_ _ => ?_);omega;omega;all_goals try (exfalso;omega))|(apply B7;omega)|refine FF rfl ?_|apply AE|refine AD (hA _ _) ?_|refine AD (hW) ?_|refine AD (b1) ?_)<;>conv=>whnf))
  exact AW rfl (by simp [A4,CB,EN])
 rw[if_neg h1];generalize KR (pw c.f/2) (EP l 1)=z at *;(repeat' ((first|(apply AG<;>intro hc<;>try (exfalso;omega))|(refine FN ?_ (λ_ _ => ?_);omega)|(refine KA ?_ ?_ (λ_ => ?_) (λ_ _ => ?_);omega;omega;all_goals try (exfalso;omega))|(apply B7;omega)|refine FF rfl ?_|apply AE|refine AD (hA _ _) ?_|refine AD (hW) ?_|refine AD (b2) ?_)<;>conv=>whnf))
 refine BC (l:=[_]) (enc:=CQ) (a:=0) rfl (by decide) rfl ?_;(conv=>whnf)
 (repeat' ((first|(apply AR;omega)|(refine KA ?_ ?_ (λ_ => ?_) (λ_ _ => ?_);omega;omega;all_goals try (exfalso;omega))|refine FF rfl ?_|refine AD (hA _ _) ?_|refine AD (b3) ?_)<;>conv=>whnf))
 refine BC (l:=[_]) (enc:=CQ) (a:=0) rfl (by decide) rfl ?_;(conv=>whnf)
 (repeat' (refine I9 rfl rfl ?_<;>conv=>whnf))
 exact AW rfl (by simp [A4,CB,EN])
end Go.b7

namespace Go.b7
theorem GG {es:List (List AV)} {i j n:Nat} {K:List AV->Prop} {cs ds:List AV} (h:es[i]? = some cs) (hp:part cs j n=some ds) (hk:K ds):A5 es i j n K:=by
 unfold A5;exact ⟨cs,ds,h,hp,hk⟩
theorem QF {es:List (List AV)} {i j:Nat} {vs cs:List AV} {K:List (List AV)->Prop} (h:es[i]? = some cs) (hl:Nat.ble (j+vs.length) cs.length=true) (hk:K (es.set i (splice cs j vs))):AZ es i j vs K:=by
 unfold AZ;exact ⟨cs,h,Nat.le_of_ble_eq_true hl,hk⟩
theorem QE {es:List (List AV)} {off len:Nat} {K:List (List AV)->Prop} (h:Nat.ble (off+len) es.length=true) (hz:es.all FA=true) (hk:K ((es.drop off).take len)):AU es off len K :=
 UO (Nat.le_of_ble_eq_true h) (λ e he=>List.all_eq_true.1 hz e he) hk
theorem ZZ {es:List (List AV)} {K:Nat->Prop} (n:Nat) (hn:es.length=n) (h:K n):AX es K:=⟨hn ▸ h⟩
theorem D7 {rows:List (Option (Nat × List (List AV)))} {len bytes:Nat} {r:Option (Nat × List (List AV))} {K:List (Option (Nat × List (List AV)))->Nat->Prop} (n:Nat) (hn:n=len+1) (hl:len=rows.length) (hr:Nat.ble (n*bytes) 140737488355328=true) (ae:Nat.ble n 9223372036854775807=true) (h:K (rows++[r]) n):BF rows len r bytes K:=by
 subst hn;exact ⟨hl,by simpa [EZ] using Nat.le_of_ble_eq_true hr,Nat.le_of_ble_eq_true ae,h⟩
theorem HY {es ys:List (List AV)} {len z bytes:Nat} {K:List (List AV)->Nat->Prop} (n:Nat) (hn:n=len+ys.length) (hl:Nat.ble len es.length=true) (hz:ys.all (λ e=>Nat.beq e.length z)=true) (hr:Nat.ble (n*bytes) 140737488355328=true) (ae:Nat.ble n 9223372036854775807=true) (h:K (es.take len++ys) n):A9 es len ys z bytes K:=by
 subst hn;exact ⟨Nat.le_of_ble_eq_true hl,λ e he=>Nat.eq_of_beq_eq_true (List.all_eq_true.1 hz e he),by simpa [EZ] using Nat.le_of_ble_eq_true hr,Nat.le_of_ble_eq_true ae,h⟩
theorem xR {β:Type} {rows:List (Option (Nat × List (List AV)))} {z:Nat} {en:β->List AV} {q:Bool} {off len:Nat} {K:List (List AV)->Prop} (ll:List (List β)) (hr:rows=ET z en ll) (hz : ∀ x,FA (en x)=true) (ho:off=0) (hl:len=ll.length) (h:K (ll.map λ r=>[AV.sl q (r.map en)])):BV q rows off len K:=by
 subst hr;exact PI hz ho hl h
theorem FE {es:List (List AV)} {a:Int} {z:Nat} {K:List AV->Prop} {cs:List AV} (i:Nat) (ha:a=i) (h:es[i]? = some cs) (hz:cs.length=z) (hk:K cs):AQ es a z K:=by
 subst ha;unfold AQ;exact ⟨by omega,cs,h,hz,hk⟩
end Go.b7

namespace Go.b7
open F
attribute [local irreducible] AA AF AM AC BT AQ A5 AZ BG A9 BS CN BH AU BI BR AB A1 AJ pw B1 BQ B9 CM CH BF BV BB B5
variable {L:Lib}
set_option maxHeartbeats 8000000
set_option maxRecDepth 8000
theorem Uh (I:j4 L) (N:y7 L) (k v:List Int) (q1 q2:Bool) (c:Wd) (hc:WV c) (l1:k.length<=8) (l2:v.length=k.length+1) (hv : ∀ x∈v,FT c x) (hk : ∀ x∈k,FT c x/\FT c (-x)) (hu : ∀ x∈k,-pw c.f<x/\x<pw c.f) :
  Ev L 345 [.sl q1 (k.map CQ),.sl q2 (v.map CQ),.agg (F2 c)] (.int .i64 0):=by
 have zn : ∀ x∈k,-16777216<=x/\x<=16777216:=λ x hx=>by
  obtain ⟨_,e1,e2⟩:=(hk x hx).1;obtain ⟨h1,h2,h3,h4⟩:=QS hc;omega
 have q6:=hc;unfold WV at q6;have En:=JI (n:=c.f) (m:=23) (by omega);have qj:pw 23=8388608:=by unfold pw;rfl
 have uy:=GF c.f;refine Ev.x N.LJ rfl rfl ?_;(repeat' ((first|(apply AG<;>intro hc<;>try (exfalso;omega))|(apply AR;omega)|apply AY|apply AE|refine F9 (PR ⟨_,_,_,_⟩ I) (λ hf => ?_) (λ hf => ?_))<;>conv=>whnf))
 all_goals try (exact absurd hc (by assumption))
 refine CK (λ i=>v.length-i) (λ(i:Nat)=>i<=v.length) (λ i=>[(29,.int .i64 i)]) (λ_=>[]) [] [] 0 (by (conv=>whnf);exact ⟨rfl,rfl,rfl⟩) (by omega) ?_;intro i p1 ih;(repeat' ((first|(apply AG<;>intro hc<;>try (exfalso;omega))|(apply AR;omega)|apply AY|(refine PH ?_ (λ_=>rfl) (λ e he => ?_);omega)|apply AE|refine F9 (RO ⟨_,_,_,_⟩ I _) (λ hf => ?_) (λ hf => ?_))<;>conv=>whnf))
 ·exact BO [] (ih (i+1) (by omega) (by omega))
 ·exact absurd (hv _ (zM he)) hf
 refine CK (λ i=>k.length-i) (λ(i:Nat)=>i<=k.length) (λ i=>[(40,.int .i64 i)]) (λ_=>[]) [] [] 0 (by (conv=>whnf);exact ⟨rfl,rfl,rfl⟩) (by omega) ?_;intro i p1 ih;(repeat' ((first|(apply AG<;>intro hc<;>try (exfalso;omega))|apply AY|(refine PH ?_ (λ_=>rfl) (λ e he => ?_);omega)|apply AE|refine F9 (RO ⟨_,_,_,_⟩ I _) (λ hf => ?_) (λ hf => ?_))<;>conv=>whnf))
 ·have Kv:=zn _ (zM he)
  (repeat' ((first|(apply AR;omega)|(apply BT.neg;omega)|refine F9 (RO ⟨_,_,_,_⟩ I _) (λ hf => ?_) (λ hf => ?_))<;>conv=>whnf))
  ·exact BO [] (ih (i+1) (by omega) (by omega))
  ·exact absurd (hk _ (zM he)).2 hf
 ·exact absurd (hk _ (zM he)).1 hf
 refine CK (λ i=>k.length-i) (λ(i:Nat)=>i<=k.length) (λ i=>[(58,.int .i64 i)]) (λ_=>[]) [] [] 0 (by (conv=>whnf);exact ⟨rfl,rfl,rfl⟩) (by omega) ?_;intro i p1 ih;by_cases hi:i<k.length
 ·obtain ⟨x,hx⟩ : ∃ x,k[i]? = some x:=⟨_,zE hi⟩
  have rn:k[(i:Int).toNat]? = some x:=hx;have Kv:=zn _ (zM hx);have hue:=hu _ (zM hx);(repeat' ((first|(apply AG<;>intro hc<;>try (exfalso;omega))|(apply AR;omega)|(refine FN ?_ (λ_ _ => ?_);omega)|(apply BT.neg;omega)|(refine BC (by assumption) ?_ rfl ?_;omega)|apply AE)<;>conv=>whnf))
  all_goals exact BO [] (ih (i+1) (by omega) (by omega))
 ·(repeat' ((first|(apply AG<;>intro hc<;>try (exfalso;omega))|apply AE)<;>conv=>whnf))
  exact CP rfl
def EL (k v:List Int) (d c:Wd):Nt :=
 ⟨d,c,(k.length:Int),false,match k with
  | [x]=>[⟨false,[(0,pw c.f),(1,-x)]⟩,⟨false,[(2,x),(1,pw c.f)]⟩,⟨false,[(2,v.getD 0 0),(3,v.getD 1 0)]⟩]
  | [x,y]=>[⟨false,[(0,pw c.f),(2,-y)]⟩,⟨false,[(3,pw c.f),(1,-x)]⟩,⟨false,[(4,x),(1,pw c.f)]⟩,⟨false,[(3,y),(2,pw c.f)]⟩,⟨false,[(4,v.getD 0 0),(5,v.getD 1 0),(6,v.getD 2 0)]⟩]
  | _=>[⟨false,[(0,v.getD 0 0)]⟩],false,match k with
  | [_]=>[2]
  | [_,_]=>[4,5]
  | _=>[],3*(k.length:Int)+1⟩
theorem Ug (I:j4 L) (N:y7 L) (k v:List Int) (q1 q2:Bool) (d c:Wd) (hd:WV d) (hc:WV c) (l1:k.length<=2) (l2:v.length=k.length+1) (hv : ∀ x∈v,FT c x) (hk : ∀ x∈k,FT c x/\FT c (-x)) (hu : ∀ x∈k,-pw c.f<x/\x<pw c.f) :
  Ev L 346 [.sl q1 (k.map CQ),.sl q2 (v.map CQ),.agg (F2 d),.agg (F2 c)] (.g8 [.agg (D9 (EL k v d c)),.int .i64 0]):=by
 have hw:=λ q q'=>Uh I N k v q q' c hc (by omega) l2 hv hk hu
 have q6:=hc;unfold WV at q6;have En:=JI (n:=c.f) (m:=23) (by omega);have qj:pw 23=8388608:=by unfold pw;rfl
 have uy:=GF c.f;have zn : ∀ x∈k,-16777216<=x/\x<=16777216:=λ x hx=>by
  obtain ⟨_,e1,e2⟩:=(hk x hx).1;obtain ⟨h1,h2,h3,h4⟩:=QS hc;omega
 refine Ev.x N.LI rfl rfl ?_;rcases k with _|⟨x,_|⟨y,_|⟨z,k⟩⟩⟩
 ·rcases v with _|⟨a,_|⟨b,v⟩⟩
  ·simp at l2
  ·simp only[List.map_cons,List.map_nil]at hw ⊢
   (repeat' ((first|(apply AG<;>intro hc<;>try (exfalso;omega))|apply AE|refine F9 (PR ⟨_,_,_,_⟩ I) (λ hf => ?_) (λ hf => ?_)|refine AD (hw _ _) ?_)<;>conv=>whnf))
   all_goals try (exact absurd hd (by assumption))
   refine ZZ 0 rfl ?_;(conv=>whnf)
   (repeat' ((first|(refine FN ?_ (λ_ _ => ?_);omega)|fail)<;>conv=>whnf))
   refine DP (enc:=CQ) 0 0 rfl (by omega) (by omega) ?_;(conv=>whnf)
   (repeat' ((first|(apply AR;omega)|(apply FY;omega))<;>conv=>whnf))
   refine DP (enc:=CQ) 0 1 rfl (by omega) (by omega) ?_;(conv=>whnf)
   skip
   refine FB ?_;(repeat' ((first|(apply AG<;>intro hc<;>try (exfalso;omega))|(apply AR;omega)|apply AE)<;>conv=>whnf))
   refine DP (enc:=CQ) 0 1 rfl (by omega) (by omega) ?_;(conv=>whnf)
   (repeat' ((first|(apply A3;omega)|fail)<;>conv=>whnf))
   repeat (
    (repeat' ((first|(apply AG<;>intro hc<;>try (exfalso;omega))|(apply A3;omega)|apply AE)<;>conv=>whnf))
    (first|refine GG rfl rfl ?_|refine QF rfl rfl ?_|refine FE 0 (by omega) rfl rfl ?_|refine FE 1 (by omega) rfl rfl ?_|refine FE 2 (by omega) rfl rfl ?_|refine D7 2 rfl rfl rfl rfl ?_|refine D7 3 rfl rfl rfl rfl ?_|refine D7 4 rfl rfl rfl rfl ?_|refine D7 5 rfl rfl rfl rfl ?_|refine HY 2 rfl rfl rfl rfl rfl ?_|refine HY 3 rfl rfl rfl rfl rfl ?_|refine A3 rfl ?_|refine A3 ⟨rfl,by decide⟩ ?_|refine QE rfl rfl ?_|refine FB ?_)
    (conv=>whnf))
   skip
   refine PI (z:=2) (en:=HB) (ll:=[[(0,a)]]) (λ_=>rfl) rfl rfl ?_;(conv=>whnf)
   repeat (
    (repeat' ((refine C3 (λ_=>rfl) rfl ?_ ?_;(first|rfl|simp))<;>conv=>whnf))
    (first|refine GG rfl rfl ?_|refine QF rfl rfl ?_|refine FE 0 (by omega) rfl rfl ?_|refine FE 1 (by omega) rfl rfl ?_|refine FE 2 (by omega) rfl rfl ?_|refine D7 2 rfl rfl rfl rfl ?_|refine D7 3 rfl rfl rfl rfl ?_|refine D7 4 rfl rfl rfl rfl ?_|refine D7 5 rfl rfl rfl rfl ?_|refine HY 2 rfl rfl rfl rfl rfl ?_|refine HY 3 rfl rfl rfl rfl rfl ?_|refine A3 rfl ?_|refine A3 ⟨rfl,by decide⟩ ?_|refine QE rfl rfl ?_|refine FB ?_)
    (conv=>whnf))
   (repeat' ((refine C3 (λ_=>rfl) rfl ?_ ?_;(first|rfl|simp))<;>conv=>whnf))
   exact AW rfl (TS (EL [] [a] d c) rfl rfl (by simp [EL]))
  ·simp at l2
 ·rcases v with _|⟨a,_|⟨b,_|⟨e,v⟩⟩⟩
  ·simp at l2
  ·simp at l2
  ·have hx:=zn x (by simp)
   simp only[List.map_cons,List.map_nil]at hw ⊢;(repeat' ((first|(apply AG<;>intro hc<;>try (exfalso;omega))|apply AE|refine F9 (PR ⟨_,_,_,_⟩ I) (λ hf => ?_) (λ hf => ?_)|refine AD (hw _ _) ?_)<;>conv=>whnf))
   all_goals try (exact absurd hd (by assumption))
   refine ZZ 1 rfl ?_;(conv=>whnf)
   (repeat' ((first|(refine FN ?_ (λ_ _ => ?_);omega)|fail)<;>conv=>whnf))
   refine DP (enc:=CQ) 0 1 rfl (by omega) (by omega) ?_;(conv=>whnf)
   (repeat' ((first|(apply AR;omega)|(apply FY;omega))<;>conv=>whnf))
   refine DP (enc:=CQ) 0 2 rfl (by omega) (by omega) ?_;(conv=>whnf)
   skip
   repeat (
    (repeat' ((first|(apply AG<;>intro hc<;>try (exfalso;omega))|(apply A3;omega)|(apply AR;omega)|(apply BM;omega)|(apply BT.neg;omega)|apply AE)<;>conv=>whnf))
    (first|refine GG rfl rfl ?_|refine QF rfl rfl ?_|refine FE 0 (by omega) rfl rfl ?_|refine FE 1 (by omega) rfl rfl ?_|refine FE 2 (by omega) rfl rfl ?_|refine D7 2 rfl rfl rfl rfl ?_|refine D7 3 rfl rfl rfl rfl ?_|refine D7 4 rfl rfl rfl rfl ?_|refine D7 5 rfl rfl rfl rfl ?_|refine HY 2 rfl rfl rfl rfl rfl ?_|refine HY 3 rfl rfl rfl rfl rfl ?_|refine A3 rfl ?_|refine A3 ⟨rfl,by decide⟩ ?_|refine QE rfl rfl ?_|refine FB ?_)
    (conv=>whnf))
   (repeat' ((first|(apply AG<;>intro hc<;>try (exfalso;omega))|(apply AR;omega)|apply AE)<;>conv=>whnf))
   refine DP (enc:=CQ) 0 2 rfl (by omega) (by omega) ?_;(conv=>whnf)
   repeat (
    (repeat' ((first|(apply AG<;>intro hc<;>try (exfalso;omega))|(apply A3;omega)|(apply AR;omega)|(apply BM;omega)|(apply FY;omega)|apply EF|apply AE)<;>conv=>whnf))
    (first|refine GG rfl rfl ?_|refine QF rfl rfl ?_|refine FE 0 (by omega) rfl rfl ?_|refine FE 1 (by omega) rfl rfl ?_|refine FE 2 (by omega) rfl rfl ?_|refine D7 2 rfl rfl rfl rfl ?_|refine D7 3 rfl rfl rfl rfl ?_|refine D7 4 rfl rfl rfl rfl ?_|refine D7 5 rfl rfl rfl rfl ?_|refine HY 2 rfl rfl rfl rfl rfl ?_|refine HY 3 rfl rfl rfl rfl rfl ?_|refine A3 rfl ?_|refine A3 ⟨rfl,by decide⟩ ?_|refine QE rfl rfl ?_|refine FB ?_)
    (conv=>whnf))
   skip
   refine PI (z:=2) (en:=HB) (ll:=[[(0,pw c.f),(1,-x)],[(2,x),(1,pw c.f)],[(2,a),(3,b)]]) (λ_=>rfl) rfl rfl ?_;(conv=>whnf)
   repeat (
    (repeat' (refine FF rfl ?_<;>conv=>whnf))
    (first|refine GG rfl rfl ?_|refine QF rfl rfl ?_|refine FE 0 (by omega) rfl rfl ?_|refine FE 1 (by omega) rfl rfl ?_|refine FE 2 (by omega) rfl rfl ?_|refine D7 2 rfl rfl rfl rfl ?_|refine D7 3 rfl rfl rfl rfl ?_|refine D7 4 rfl rfl rfl rfl ?_|refine D7 5 rfl rfl rfl rfl ?_|refine HY 2 rfl rfl rfl rfl rfl ?_|refine HY 3 rfl rfl rfl rfl rfl ?_|refine A3 rfl ?_|refine A3 ⟨rfl,by decide⟩ ?_|refine QE rfl rfl ?_|refine FB ?_)
    (conv=>whnf))
   (repeat' (refine FF rfl ?_<;>conv=>whnf))
   exact AW rfl (TS (EL [x] [a,b] d c) rfl rfl (by simp [EL]))
  ·simp at l2
 ·rcases v with _|⟨a,_|⟨b,_|⟨e,_|⟨g,v⟩⟩⟩⟩
  ·simp at l2
  ·simp at l2
  ·simp at l2
  ·have hx:=zn x (by simp)
   have hy:=zn y (by simp);simp only[List.map_cons,List.map_nil]at hw ⊢;(repeat' ((first|(apply AG<;>intro hc<;>try (exfalso;omega))|apply AE|refine F9 (PR ⟨_,_,_,_⟩ I) (λ hf => ?_) (λ hf => ?_)|refine AD (hw _ _) ?_)<;>conv=>whnf))
   all_goals try (exact absurd hd (by assumption))
   refine ZZ 2 rfl ?_;(conv=>whnf)
   (repeat' ((first|(refine FN ?_ (λ_ _ => ?_);omega)|fail)<;>conv=>whnf))
   refine DP (enc:=CQ) 0 2 rfl (by omega) (by omega) ?_;(conv=>whnf)
   (repeat' ((first|(apply AR;omega)|(apply FY;omega))<;>conv=>whnf))
   refine DP (enc:=CQ) 0 3 rfl (by omega) (by omega) ?_;(conv=>whnf)
   skip
   repeat (
    (repeat' ((first|(apply AG<;>intro hc<;>try (exfalso;omega))|(apply A3;omega)|(apply AR;omega)|(apply BM;omega)|(apply BT.neg;omega)|apply AE)<;>conv=>whnf))
    (first|refine GG rfl rfl ?_|refine QF rfl rfl ?_|refine FE 0 (by omega) rfl rfl ?_|refine FE 1 (by omega) rfl rfl ?_|refine FE 2 (by omega) rfl rfl ?_|refine D7 2 rfl rfl rfl rfl ?_|refine D7 3 rfl rfl rfl rfl ?_|refine D7 4 rfl rfl rfl rfl ?_|refine D7 5 rfl rfl rfl rfl ?_|refine HY 2 rfl rfl rfl rfl rfl ?_|refine HY 3 rfl rfl rfl rfl rfl ?_|refine A3 rfl ?_|refine A3 ⟨rfl,by decide⟩ ?_|refine QE rfl rfl ?_|refine FB ?_)
    (conv=>whnf))
   (repeat' ((first|(apply AG<;>intro hc<;>try (exfalso;omega))|(apply AR;omega)|apply AE)<;>conv=>whnf))
   refine DP (enc:=CQ) 0 3 rfl (by omega) (by omega) ?_;(conv=>whnf)
   repeat (
    (repeat' ((first|(apply AG<;>intro hc<;>try (exfalso;omega))|(apply A3;omega)|(apply AR;omega)|(apply BM;omega)|(apply FY;omega)|apply EF|apply AE)<;>conv=>whnf))
    (first|refine GG rfl rfl ?_|refine QF rfl rfl ?_|refine FE 0 (by omega) rfl rfl ?_|refine FE 1 (by omega) rfl rfl ?_|refine FE 2 (by omega) rfl rfl ?_|refine D7 2 rfl rfl rfl rfl ?_|refine D7 3 rfl rfl rfl rfl ?_|refine D7 4 rfl rfl rfl rfl ?_|refine D7 5 rfl rfl rfl rfl ?_|refine HY 2 rfl rfl rfl rfl rfl ?_|refine HY 3 rfl rfl rfl rfl rfl ?_|refine A3 rfl ?_|refine A3 ⟨rfl,by decide⟩ ?_|refine QE rfl rfl ?_|refine FB ?_)
    (conv=>whnf))
   skip
   refine xR (z:=2) (en:=HB) [[(0,pw c.f),(2,-y)],[(3,pw c.f),(1,-x)],[(4,x),(1,pw c.f)],[(3,y),(2,pw c.f)],[(4,a),(5,b),(6,e)]] (by simp [ET]) (λ_=>rfl) rfl rfl ?_;(conv=>whnf)
   repeat (
    (repeat' (refine I9 rfl rfl ?_<;>conv=>whnf))
    (first|refine GG rfl rfl ?_|refine QF rfl rfl ?_|refine FE 0 (by omega) rfl rfl ?_|refine FE 1 (by omega) rfl rfl ?_|refine FE 2 (by omega) rfl rfl ?_|refine D7 2 rfl rfl rfl rfl ?_|refine D7 3 rfl rfl rfl rfl ?_|refine D7 4 rfl rfl rfl rfl ?_|refine D7 5 rfl rfl rfl rfl ?_|refine HY 2 rfl rfl rfl rfl rfl ?_|refine HY 3 rfl rfl rfl rfl rfl ?_|refine A3 rfl ?_|refine A3 ⟨rfl,by decide⟩ ?_|refine QE rfl rfl ?_|refine FB ?_)
    (conv=>whnf))
   (repeat' (refine I9 rfl rfl ?_<;>conv=>whnf))
   exact AW rfl (TS (EL [x,y] [a,b,e] d c) rfl rfl (by simp [EL]))
  ·simp at l2
 ·simp at l1
end Go.b7

namespace Go.b7
open F
attribute [local irreducible] AA AF AM AC BT AQ A5 AZ BG A9 BS CN BH AU BI BR AB A1 AJ pw B1 BQ B9 CM CH BF BV BB B5
variable {L:Lib} {b a:List Int} {d c:Wd}
set_option maxHeartbeats 16000000
theorem sI (x fr:Int):DQ [x] 1 fr=[(fr,x)]:=by simp [DQ]
def tK (b a:List Int) (c:Wd) (mx k:Nat):List (Int × Int):=(if k<b.length then [(0,b.getD k 0)] else [])++(if 1<=k/\k<=a.length then [((1:Int)+mx,-a.getD (k-1) 0)] else [])++(if k<mx then [((k:Int)+1,pw c.f)] else [])
theorem Afs (x fr:Int):DQ [x] (-1) fr=[(fr,-x)]:=by simp [DQ]
theorem uI {l:List Int} {k:Nat} (h:k<l.length):(l.take (k+1)).drop k=[l.getD k 0]:=by
 have hg:l[k]? = some l[k]:=zE h;rw[List.take_add_one,hg,Option.toList_some,List.drop_append_of_le_length (by rw[List.length_take];omega),List.drop_of_length_le (by rw[List.length_take];omega),List.nil_append,List.getD_eq_getElem?_getD,hg];rfl
theorem iA (b a:List Int) (c:Wd) (mx k:Nat):O8 b a c mx k=tK b a c mx k:=by
 unfold O8 tK;congr 1
 ·congr 1
  ·by_cases h:k<b.length
   ·rw[if_pos h,if_pos h,uI h,sI]
   ·rw[if_neg h,if_neg h]
  ·by_cases h:1<=k/\k<=a.length
   ·rw[if_pos h,if_pos h]
    obtain ⟨j,rfl⟩ : ∃ j,k=j+1:=⟨k-1,by omega⟩;rw[Nat.add_sub_cancel,uI (by omega),Afs,Int.add_comm 1 (mx:Int)]
   ·rw[if_neg h,if_neg h]
 ·by_cases h:k<mx
  ·rw[if_pos h,if_pos h,sI]
  ·rw[if_neg h,if_neg h]
end Go.b7

namespace Go.b7
variable {d c:Wd} {p:List Int}
theorem Afm (n:Nat):List.range n=List.range' 0 n:=List.range_eq_range'
end Go.b7

namespace Go.b7
open F
attribute [local irreducible] AA AF AM AC BT AQ A5 AZ BG A9 BS CN BH AU BI BR AB A1 AJ pw B1 BQ B9 CM CH BF BV BB B5
variable {L:Lib} {d c:Wd} {p:List Int}
set_option maxHeartbeats 1000000
theorem Agj {s:Int} {k:Nat} {fr:Int} (h:0<=fr/\fr<=s+k) : ∀ t∈DQ [pw c.f] 1 fr,GQ c s k t=true:=by
 intro t ht;obtain ⟨i,v,hv,hi,rfl⟩:=RZ ht;simp only[List.mem_singleton]at hv;simp only[List.length_cons,List.length_nil]at hi;subst hv;exact decide_eq_true ⟨by simp only;omega,by simp only;omega,Or.inl (by simp)⟩
theorem uL {s:Int} {k:Nat} {fr:Int} {l:List Int} (hl : ∀ v∈l,FT c v) (h:0<=fr/\fr+l.length<=s+k+1) : ∀ t∈DQ l 1 fr,GQ c s k t=true:=by
 intro t ht;obtain ⟨i,v,hv,hi,rfl⟩:=RZ ht;exact decide_eq_true ⟨by simp only;omega,by simp only;omega,Or.inr (by simpa using hl v hv)⟩
theorem rE {s:Int} {f:Nat->Nd} : ∀ (m k:Nat),(∀ i,k<=i->i<k+m->(f i).ts.length<=64 /\ ∀ t∈(f i).ts,GQ c s i t=true)->HE c s k ((List.range' k m).map f)=true
 | 0,_,_=>rfl
 | m+1,k,h=>by
  rw[List.range'_succ,List.map_cons,HE,rE m (k+1) λ i h1 h2=>h i (by omega) (by omega)];have:=h k (by omega) (by omega)
  simp only[Bool.and_true,Bool.and_eq_true,decide_eq_true_eq,List.all_eq_true];exact this
end Go.b7

namespace Go.b7
open F
attribute [local irreducible] AA AF AM AC BT AQ A5 AZ BG A9 BS CN BH AU BI BR AB A1 AJ pw B1 BQ B9 CM CH BF BV BB B5
set_option maxHeartbeats 8000000
variable {L:Lib}
section
variable {b a:List Int} {d c:Wd}
theorem Agi {s:Int} {k:Nat} {fr:Int} {l:List Int} (hl : ∀ v∈l,FT c (-v)) (h:0<=fr/\fr+l.length<=s+k+1) : ∀ t∈DQ l (-1) fr,GQ c s k t=true:=by
 intro t ht;obtain ⟨i,v,hv,hi,rfl⟩:=RZ ht;exact decide_eq_true ⟨by simp only;omega,by simp only;omega,Or.inr (by simpa using hl v hv)⟩
theorem Agq (hd:WV d) (hc:WV c) (l1:1<=b.length/\b.length<=49) (l2:a.length<=8) (hb : ∀ v∈b,FT c v) (ha : ∀ v∈a,FT c v/\FT c (-v)):O0 (FQ b a d c)=true:=by
 have iw:b.length-1<=CF b a:=Nat.le_max_left _ _;have fh:a.length<=CF b a:=Nat.le_max_right _ _;have hm3:CF b a<=48:=by unfold CF;omega
 rw[GN];refine ⟨hd,hc,⟨by simp only[FQ];omega,by simp only[FQ];omega,by simp [FQ],by simp [FQ,G9]⟩,?_,?_,by simp only[FQ];omega,by simp only[FQ,List.length_cons,List.length_nil];omega⟩
 ·simp only[FQ,HE,Bool.and_true,Bool.and_eq_true,decide_eq_true_eq,List.all_eq_true]
  refine ⟨⟨by simp [J2];omega,λ t ht => ?_⟩,by simp [J2];omega,λ t ht => ?_⟩
  ·rcases List.mem_append.1 ht with h|h
   ·exact Agj (by omega) t h
   ·exact Agi (λ v hv=>(ha v hv).2) (by omega) t h
  ·rcases List.mem_append.1 ht with h|h
   ·exact uL (λ v hv=>hb v (List.mem_of_mem_take hv)) (by simp only[List.length_take];omega) t h
   ·exact uL (λ v hv=>hb v (List.mem_of_mem_drop hv)) (by simp only[List.length_drop];omega) t h
 ·simp only[FQ,KJ,List.all_eq_true,decide_eq_true_eq,List.length_cons,List.length_nil]
  intro k hk;rcases qK hk with rfl|⟨i,h1,h2,rfl⟩<;>(first|omega|(refine decide_eq_true ?_;omega))
theorem uH {mx k:Nat} {t:Int × Int} (h:t∈tK b a c mx k):(k<b.length/\t.1=0/\t.2∈b)\/(1<=k/\k<=a.length/\t.1=1+(mx:Int) /\ -t.2∈a)\/(k<mx/\t.1=(k:Int)+1/\t.2=pw c.f):=by
 unfold tK at h;rcases List.mem_append.1 h with h|h
 ·rcases List.mem_append.1 h with h|h
  ·split at h
   ·rename_i hk
    obtain rfl:=List.mem_singleton.1 h;refine Or.inl ⟨hk,rfl,?_⟩;show b.getD k 0∈b;rw[List.getD_eq_getElem?_getD,zE hk];exact List.getElem_mem hk
   ·cases h
  ·split at h
   ·rename_i hk
    obtain rfl:=List.mem_singleton.1 h;refine Or.inr (Or.inl ⟨hk.1,hk.2,rfl,?_⟩);show - -(a.getD (k-1) 0)∈a;rw[Int.neg_neg,List.getD_eq_getElem?_getD,zE (show k-1<a.length by omega)];exact List.getElem_mem _
   ·cases h
 ·split at h
  ·rename_i hk
   obtain rfl:=List.mem_singleton.1 h;exact Or.inr (Or.inr ⟨hk,rfl,rfl⟩)
  ·cases h
theorem gV (mx k:Nat):(tK b a c mx k).length<=3:=by
 unfold tK;split<;>split<;>split<;>simp
theorem Agn (hd:WV d) (hc:WV c) (l1:1<=b.length/\b.length<=49) (l2:a.length<=8) (hb : ∀ v∈b,FT c v) (ha : ∀ v∈a,FT c v/\FT c (-v)):O0 (FU b a d c)=true:=by
 have iw:b.length-1<=CF b a:=Nat.le_max_left _ _;have fh:a.length<=CF b a:=Nat.le_max_right _ _;have hm3:CF b a<=48:=by unfold CF;omega
 rw[GN];refine ⟨hd,hc,⟨by simp only[FU];omega,by simp only[FU];omega,by simp [FU,IC];omega,by simp [FU]⟩,?_,?_,by simp only[FU];omega,by simp [FU,IC];omega⟩
 ·simp only[FU,IC]
  rw[Afm];refine rE _ _ λ i _ hi => ?_
  simp only[iA];refine ⟨by have:=gV (b:=b) (a:=a) (c:=c) (CF b a) i;omega,λ t ht => ?_⟩;refine decide_eq_true ?_;rcases uH ht with ⟨h1,h2,h3⟩|⟨h1,h2,h3,h4⟩|⟨h1,h2,h3⟩
  ·exact ⟨by omega,by omega,Or.inr (hb _ h3)⟩
  ·exact ⟨by omega,by omega,Or.inr (by simpa using (ha _ h4).2)⟩
  ·exact ⟨by omega,by omega,Or.inl h3⟩
 ·simp only[FU,IC,KJ,List.all_eq_true,decide_eq_true_eq,List.mem_map,List.mem_range,List.length_map,List.length_range]
  rintro k ⟨i,hi,rfl⟩
  omega
theorem fE (hc:WV c):(pw c.f).natAbs<=2^24:=by
 unfold WV at hc;have En:=JI (n:=c.f) (m:=23) (by omega);have qj:pw 23=8388608:=by unfold pw;rfl
 have:=GF c.f
 show _<=16777216;omega
theorem V7 {l:List Int} {sg fr:Int} (hs:sg=1\/sg = -1) (hl : ∀ v∈l,FT c v) : ∀ t∈DQ l sg fr,t.2.natAbs<=2^24:=by
 intro t ht;obtain ⟨i,v,hv,hi,rfl⟩:=RZ ht;have:=WR (hl v hv)
 show (sg*v).natAbs<=16777216;rcases hs with rfl|rfl<;>omega
theorem Ags (hc:WV c) {fr:Int} : ∀ t∈DQ [pw c.f] 1 fr,t.2.natAbs<=2^24:=by
 intro t ht;obtain ⟨i,v,hv,hi,rfl⟩:=RZ ht;obtain rfl:=List.mem_singleton.1 hv;show (1*pw c.f).natAbs<=_;rw[Int.one_mul];exact fE hc
theorem Yk (l1:b.length<=3) (l2:a.length<=2) (hb : ∀ v∈b,FT c v) (ha : ∀ v∈a,FT c v/\FT c (-v)):Z7 (CW (FP b a d c)):=by
 constructor
 ·intro ts h
  simp only[CW,FP,List.map_cons,List.map_nil,List.mem_singleton]at h;subst h;simp only[List.length_append,J2];omega
 ·intro ts h
  simp only[CW,FP,List.map_cons,List.map_nil,List.mem_singleton]at h;subst h;intro t ht;rcases List.mem_append.1 ht with h|h
  ·exact V7 (Or.inl rfl) hb t h
  ·exact V7 (Or.inr rfl) (λ v hv=>(ha v hv).1) t h
theorem Agr (hc:WV c) (l1:b.length<=3) (l2:a.length<=2) (hb : ∀ v∈b,FT c v) (ha : ∀ v∈a,FT c v/\FT c (-v)):Z7 (CW (FQ b a d c)):=by
 constructor
 ·intro ts h
  simp only[CW,FQ,List.map_cons,List.map_nil,List.mem_cons,List.not_mem_nil,or_false]at h;rcases h with rfl|rfl
  all_goals simp only[List.length_append,J2,List.length_take,List.length_drop,List.length_cons,List.length_nil];omega
 ·intro ts h
  simp only[CW,FQ,List.map_cons,List.map_nil,List.mem_cons,List.not_mem_nil,or_false]at h;intro t ht;rcases h with rfl|rfl
  ·rcases List.mem_append.1 ht with h|h
   ·exact Ags hc t h
   ·exact V7 (Or.inr rfl) (λ v hv=>(ha v hv).1) t h
  ·rcases List.mem_append.1 ht with h|h
   ·exact V7 (Or.inl rfl) (λ v hv=>hb v (List.mem_of_mem_take hv)) t h
   ·exact V7 (Or.inl rfl) (λ v hv=>hb v (List.mem_of_mem_drop hv)) t h
theorem Ago (hc:WV c) (hb : ∀ v∈b,FT c v) (ha : ∀ v∈a,FT c v/\FT c (-v)):Z7 (CW (FU b a d c)):=by
 have key : ∀ ts∈CW (FU b a d c),∃ i,ts=tK b a c (CF b a) i:=by
  intro ts h;simp only[CW,FU,IC,List.map_map,List.mem_map]at h;obtain ⟨i,_,rfl⟩:=h;exact ⟨i,iA _ _ _ _ _⟩
 constructor
 ·intro ts h
  obtain ⟨i,rfl⟩:=key ts h;have:=gV (b:=b) (a:=a) (c:=c) (CF b a) i
  omega
 ·intro ts h t ht
  obtain ⟨i,rfl⟩:=key ts h;rcases uH ht with ⟨h1,h2,h3⟩|⟨h1,h2,h3,h4⟩|⟨h1,h2,h3⟩
  ·have:=WR (hb _ h3)
   show _<=16777216;omega
  ·have:=WR (ha _ h4).1
   show _<=16777216;omega
  ·rw[h3];exact fE hc
end
end Go.b7

namespace Go.b7
open F
attribute [local irreducible] AA AF AM AC BT AQ A5 AZ BG A9 BS CN BH AU BI BR AB A1 AJ pw B1 BQ B9 CM CH BF BV BB B5
set_option maxHeartbeats 8000000
set_option maxRecDepth 8000
variable {L:Lib}
structure EB (n:Nt):Prop where
 oh:O0 n=true
 st:n.s<=4
 nl:n.nodes.length<=5
 cf : ∀ d∈n.nodes,∀ t∈d.ts,t.2.natAbs<=2^24
 tl:(∀ d∈n.nodes,d.ts.length<=3)\/(n.nodes.length<=1 /\ ∀ d∈n.nodes,d.ts.length<=5)
theorem YB {n:Nt} {d:Nd} (h:d∈n.nodes):d.ts∈CW n:=List.mem_map.2 ⟨d,h,rfl⟩
section
variable {b a:List Int} {d c:Wd}
theorem Xg (hd:WV d) (hc:WV c) (l1:1<=b.length/\b.length<=3) (l2:a.length<=2) (hb : ∀ v∈b,FT c v) (ha : ∀ v∈a,FT c v/\FT c (-v)):EB (FP b a d c):=by
 have hs:=Yk (d:=d) (by omega) l2 hb ha;refine ⟨Sp hd hc (by omega) (by omega) hb ha,by simp only[FP];omega,by simp [FP],λ x hx=>hs.cf _ (YB hx),Or.inr ⟨by simp [FP],λ x hx=>hs.len _ (YB hx)⟩⟩
theorem Xi (hd:WV d) (hc:WV c) (l1:1<=b.length/\b.length<=3) (l2:a.length<=2) (hb : ∀ v∈b,FT c v) (ha : ∀ v∈a,FT c v/\FT c (-v)):EB (FQ b a d c):=by
 have hs:=Agr (d:=d) hc (by omega) l2 hb ha;have hm:CF b a<=2:=by unfold CF;omega
 refine ⟨Agq hd hc (by omega) (by omega) hb ha,by simp only[FQ];omega,by simp [FQ],λ x hx=>hs.cf _ (YB hx),Or.inl λ x hx => ?_⟩;simp only[FQ,List.mem_cons,List.not_mem_nil,or_false]at hx;rcases hx with rfl|rfl
 all_goals simp only[List.length_append,J2,List.length_take,List.length_drop,List.length_cons,List.length_nil];omega
theorem Xh (hd:WV d) (hc:WV c) (l1:1<=b.length/\b.length<=3) (l2:a.length<=2) (hb : ∀ v∈b,FT c v) (ha : ∀ v∈a,FT c v/\FT c (-v)):EB (FU b a d c):=by
 have hs:=Ago (d:=d) hc hb ha;have hm:CF b a<=2:=by unfold CF;omega
 refine ⟨Agn hd hc (by omega) (by omega) hb ha,by simp only[FU];omega,by simp [FU,IC];omega,λ x hx=>hs.cf _ (YB hx),Or.inl λ x hx => ?_⟩;simp only[FU,IC,List.mem_map]at hx;obtain ⟨i,_,rfl⟩:=hx;simp only[iA];exact gV _ _
theorem Yq {k v:List Int} (hd:WV d) (hc:WV c) (l1:k.length<=2) (l2:v.length=k.length+1) (hv : ∀ x∈v,FT c x) (hk : ∀ x∈k,FT c x/\FT c (-x)):EB (EL k v d c):=by
 have hp:=fE hc;have sm : ∀ x,FT c x->x.natAbs<=16777216:=λ x hx=>by have:=WR hx;omega
 have hp':(pw c.f).natAbs<=16777216:=hp;rcases k with _|⟨x,_|⟨y,_|⟨z,k⟩⟩⟩
 ·rcases v with _|⟨a,_|⟨b,v⟩⟩
  ·simp at l2
  ·have h1:=hv a (by simp)
   have s1:=sm a h1;refine ⟨?_,by simp [EL],by simp [EL],?_,Or.inl ?_⟩
   ·simp [O0,EL,HE,KJ,GQ,hd,hc,h1]
   ·simp [EL];exact s1
   ·simp [EL]
  ·simp at l2
 ·rcases v with _|⟨a,_|⟨b,_|⟨e,v⟩⟩⟩
  ·simp at l2
  ·simp at l2
  ·have h1:=hv a (by simp)
   have h2:=hv b (by simp);obtain ⟨h3,h4⟩:=hk x (by simp);have s1:=sm a h1;have s2:=sm b h2;have s3:=sm x h3;refine ⟨?_,by simp [EL],by simp [EL],?_,Or.inl ?_⟩
   ·simp [O0,EL,HE,KJ,GQ,hd,hc,h1,h2,h3,h4]
   ·simp [EL]
    refine ⟨?_,?_,?_⟩<;>intro _ _ hh<;>omega
   ·simp [EL]
  ·simp at l2
 ·rcases v with _|⟨a,_|⟨b,_|⟨e,_|⟨g,v⟩⟩⟩⟩
  ·simp at l2
  ·simp at l2
  ·simp at l2
  ·have h1:=hv a (by simp)
   have h2:=hv b (by simp);have h5:=hv e (by simp);obtain ⟨h3,h4⟩:=hk x (by simp);obtain ⟨h6,h7⟩:=hk y (by simp);have s1:=sm a h1;have s2:=sm b h2;have s3:=sm x h3;have s4:=sm y h6;have s5:=sm e h5;refine ⟨?_,by simp [EL],by simp [EL],?_,Or.inl ?_⟩
   ·simp [O0,EL,HE,KJ,GQ,hd,hc,h1,h2,h3,h4,h5,h6,h7]
   ·simp [EL]
    refine ⟨?_,?_,?_,?_,?_⟩<;>intro _ _ hh<;>omega
   ·simp [EL]
  ·simp at l2
 ·simp at l1
end
theorem Xj {ck:Int} (l:List Int):(TV (B8 ck) l).length<=2 /\ ∀ v∈TV (B8 ck) l,FT (B8 ck) v/\FT (B8 ck) (-v):=by
 obtain ⟨hc,_,_⟩:=kT ck;have hf:=kS ck;obtain ⟨h1,h2,h3,h4⟩:=QS hc;have q6:=hc;unfold WV at q6;have hp:=GF (B8 ck).f;have e1:=JI (n:=(B8 ck).f+1) (m:=(B8 ck).b-1) (by omega);have e2:pw ((B8 ck).f+1)=2*pw (B8 ck).f:=by
  unfold pw;rw[show ((B8 ck).f+1).toNat=(B8 ck).f.toNat+1 by omega,Int.pow_succ];omega
 have key : ∀ v:Int,-pw (B8 ck).f<v/\v<pw (B8 ck).f->FT (B8 ck) v/\FT (B8 ck) (-v):=λ v hv=>⟨⟨hc,by omega,by omega⟩,⟨hc,by omega,by omega⟩⟩
 have t1:=T8 (b:=pw (B8 ck).f*3/4) (by omega) (EP l 1);have t2:=T8 (b:=pw (B8 ck).f/2) (by omega) (EP l 1);have t3:=T8 (b:=(pw (B8 ck).f+KR (pw (B8 ck).f/2) (EP l 1))/2) (by omega) (EP l 2);unfold TV;split
 ·simp
 split
 ·refine ⟨by simp,λ v hv => ?_⟩
  obtain rfl:=List.mem_singleton.1 hv;exact key _ (by omega)
 ·refine ⟨by simp,λ v hv => ?_⟩
  simp only[List.mem_cons,List.not_mem_nil,or_false]at hv;rcases hv with rfl|rfl
  ·exact key _ (by omega)
  ·exact key _ (by omega)
theorem Yv {k v:List Int} {d c:Wd} (l1:k.length<=2) : ∀ m∈(EL k v d c).nodes,m.q=false:=by
 rcases k with _|⟨x,_|⟨y,_|⟨z,k⟩⟩⟩
 ·simp [EL]
 ·simp [EL]
 ·simp [EL]
 ·simp at l1
theorem YF (n:Nt) (h1:n.qn=false) (h2:n.qx=false) (h3 : ∀ m∈n.nodes,m.q=false):A4 (.g8 [.agg (D9 n),.bool true]):=by
 have h:=mK n h1 h2 h3;simp only[A4,CB,and_true,true_and]at h ⊢;exact h
theorem Qe (I:j4 L) (W:o5 L) (N:y7 L) (kd dk ck:Int) (h0:EJ kd) (h1:EJ dk) (h2:EJ ck) (b a:List Int) (q1 q2:Bool) (lb:b.length<9223372036854775808) (la:a.length<9223372036854775808) (df : ∀ v∈a,EJ v) :
  ∃ n:Nt,EB n/\Ev L 348 [.agg [.int .i64 kd,.int .i64 dk,.int .i64 ck,.sl q1 (b.map CQ),.sl q2 (a.map CQ)]] (.g8 [.agg (D9 n),.bool true]):=by
 have D:m4 L:=N.tom4;obtain ⟨uo,nk,re⟩:=Oh dk;obtain ⟨jz,ta,pd⟩:=kT ck;have hk1:=PA (v:=(b.length:Int)) (m:=3) (by omega);have ka:=PA (v:=(a.length:Int)) (m:=3) (by omega);have Hm:=PA (v:=kd) (m:=4) (by omega);have hl:=QS jz;have hf:=kS ck;have q6:=jz;unfold WV at q6;have hp:=GF (B8 ck).f;have e1:=JI (n:=(B8 ck).f+1) (m:=(B8 ck).b-1) (by omega);have e2:pw ((B8 ck).f+1)=2*pw (B8 ck).f:=by
  unfold pw;rw[show ((B8 ck).f+1).toNat=(B8 ck).f.toNat+1 by omega,Int.pow_succ];omega
 have eb:=λ q=>XX W (pw ((B8 ck).b-1)-1) (by omega) b q (1+DC b.length 3).toNat (by omega)
 have ek:=λ q=>XX W (pw (B8 ck).f*3/4) (by omega) a q (DC a.length 3).toNat (by omega)
 have ev:=λ q=>XX W (pw ((B8 ck).b-1)-1) (by omega) b q ((DC a.length 3).toNat+1) (by omega)
 have eP:=λ q=>Sk W N (B8 ck) jz a q df
 obtain ⟨Av,hQ⟩:=Xj (ck:=ck) a;rw[Int.toNat_of_nonneg (by omega)]at eb ek;have ev':((((DC a.length 3).toNat+1:Nat)):Int)=DC a.length 3+1:=by omega
 rw[ev']at ev;have w1:=RQ W b.length 3 (by unfold EJ;omega) (by omega);have w2:=RQ W a.length 3 (by unfold EJ;omega) (by omega);have w0:=RQ W kd 4 h0 (by omega);have hU:=Sl W (B8 ck) jz;have lP:(HJ (pw ((B8 ck).b-1)-1) b (1+DC b.length 3).toNat).length=(1+DC b.length 3).toNat:=aH _ _ _;have lV:(HJ (pw ((B8 ck).b-1)-1) b ((DC a.length 3).toNat+1)).length=(DC a.length 3).toNat+1:=aH _ _ _;have lK:(HJ (pw (B8 ck).f*3/4) a (DC a.length 3).toNat).length=(DC a.length 3).toNat:=aH _ _ _;have hP:=jN jz b (1+DC b.length 3).toNat;have hV:=jN jz b ((DC a.length 3).toNat+1);have hK : ∀ v∈HJ (pw (B8 ck).f*3/4) a (DC a.length 3).toNat,-pw (B8 ck).f<v/\v<pw (B8 ck).f:=by
  intro v hv;simp only[HJ,List.mem_map]at hv;obtain ⟨i,_,rfl⟩:=hv;have:=T8 (b:=pw (B8 ck).f*3/4) (by omega) (EP a i)
  omega
 have Ke : ∀ v∈HJ (pw (B8 ck).f*3/4) a (DC a.length 3).toNat,FT (B8 ck) v/\FT (B8 ck) (-v):=λ v hv=>by
  have:=hK v hv
  exact ⟨⟨jz,by omega,by omega⟩,⟨jz,by omega,by omega⟩⟩
 generalize HJ (pw ((B8 ck).b-1)-1) b (1+DC b.length 3).toNat=P at *;generalize HJ (pw ((B8 ck).b-1)-1) b ((DC a.length 3).toNat+1)=V at *;generalize HJ (pw (B8 ck).f*3/4) a (DC a.length 3).toNat=K at *;generalize TV (B8 ck) a=Q at *;have f1:=λ q q'=>Tw I D P Q q q' (GJ dk) (B8 ck) uo jz (by omega) (by omega) (λ v h=>(hP v h).1) hQ
 have f2:=λ q q'=>Acc I D P Q q q' (GJ dk) (B8 ck) uo jz (by omega) (by omega) (λ v h=>(hP v h).1) hQ
 have f3:=λ q q'=>Tx I D P Q q q' (GJ dk) (B8 ck) uo jz (by omega) (by omega) (λ v h=>(hP v h).1) hQ
 have f4:=λ q q'=>Ug I N K V q q' (GJ dk) (B8 ck) uo jz (by omega) (by omega) (λ v h=>(hV v h).1) Ke hK
 have g1:=Xg (d:=GJ dk) uo jz (by omega) Av (λ v h=>(hP v h).1) hQ;have g2:=Xi (d:=GJ dk) uo jz (by omega) Av (λ v h=>(hP v h).1) hQ;have g3:=Xh (d:=GJ dk) uo jz (by omega) Av (λ v h=>(hP v h).1) hQ;have g4:=Yq (d:=GJ dk) (k:=K) (v:=V) uo jz (by omega) (by omega) (λ v h=>(hV v h).1) Ke;have eD:=Sj W dk h1;have eC:=Si W ck h2;have hlK:((K.length:Nat):Int)+1=DC a.length 3+1:=by omega
 by_cases k0:DC kd 4=0
 ·refine ⟨_,g1,?_⟩
  have v5:=YF (FP P Q (GJ dk) (B8 ck)) rfl rfl (by simp [FP]);generalize FP P Q (GJ dk) (B8 ck)=n at *;refine Ev.x N.HQ rfl rfl ?_;(repeat' ((first|(apply AG<;>intro hc<;>try (exfalso;omega))|(apply AR;omega)|(apply BM;omega)|(refine FN ?_ (λ_ _ => ?_);omega)|(apply B7;omega)|apply AY|apply AE|refine AD (eD) ?_|refine AD (eC) ?_|refine AD (w1) ?_|refine AD (eb _) ?_|refine AD (eP _) ?_|refine AD (w0) ?_|refine AD (f1 _ _) ?_)<;>conv=>whnf))
  exact AW rfl v5
 by_cases k1:DC kd 4=1
 ·refine ⟨_,g2,?_⟩
  have v5:=YF (FQ P Q (GJ dk) (B8 ck)) rfl rfl (by simp [FQ]);generalize FQ P Q (GJ dk) (B8 ck)=n at *;refine Ev.x N.HQ rfl rfl ?_;(repeat' ((first|(apply AG<;>intro hc<;>try (exfalso;omega))|(apply AR;omega)|(apply BM;omega)|(refine FN ?_ (λ_ _ => ?_);omega)|(apply B7;omega)|apply AY|apply AE|refine AD (eD) ?_|refine AD (eC) ?_|refine AD (w1) ?_|refine AD (eb _) ?_|refine AD (eP _) ?_|refine AD (w0) ?_|refine AD (f2 _ _) ?_)<;>conv=>whnf))
  exact AW rfl v5
 by_cases k2:DC kd 4=2
 ·refine ⟨_,g3,?_⟩
  have v5:=YF (FU P Q (GJ dk) (B8 ck)) rfl rfl (by simp [FU,IC]);generalize FU P Q (GJ dk) (B8 ck)=n at *;refine Ev.x N.HQ rfl rfl ?_;(repeat' ((first|(apply AG<;>intro hc<;>try (exfalso;omega))|(apply AR;omega)|(apply BM;omega)|(refine FN ?_ (λ_ _ => ?_);omega)|(apply B7;omega)|apply AY|apply AE|refine AD (eD) ?_|refine AD (eC) ?_|refine AD (w1) ?_|refine AD (eb _) ?_|refine AD (eP _) ?_|refine AD (w0) ?_|refine AD (f3 _ _) ?_)<;>conv=>whnf))
  exact AW rfl v5
 ·refine ⟨_,g4,?_⟩
  have v5:=YF (EL K V (GJ dk) (B8 ck)) rfl rfl (Yv (by omega));rw[<-hlK]at ev;generalize EL K V (GJ dk) (B8 ck)=n at *;refine Ev.x N.HQ rfl rfl ?_;(repeat' ((first|(apply AG<;>intro hc<;>try (exfalso;omega))|(apply AR;omega)|(apply BM;omega)|(apply FY;omega)|(refine FN ?_ (λ_ _ => ?_);omega)|(refine KA ?_ ?_ (λ_ => ?_) (λ_ _ => ?_);omega;omega;all_goals try (exfalso;omega))|(apply B7;omega)|apply AY|apply AE|refine AD (eD) ?_|refine AD (eC) ?_|refine AD (w1) ?_|refine AD (w2) ?_|refine AD (eb _) ?_|refine AD (eP _) ?_|refine AD (w0) ?_|refine AD (hU) ?_|refine AD (ek _) ?_|refine AD (ev _) ?_|refine AD (f4 _ _) ?_)<;>conv=>whnf))
  exact AW rfl v5
end Go.b7

namespace Go.b7
open F
attribute [local irreducible] AA AF AM AC BT AQ A5 AZ BG A9 BS CN BH AU BI BR AB A1 AJ pw B1 BQ B9 CM CH BF BV BB B5
variable {L:Lib}
set_option maxHeartbeats 8000000
set_option maxRecDepth 8000
def H4 (n:Nt) (fr:Nat):List Rat:=ED (Rat.divInt 1 (pw n.c.f)) ((fr:Int)-(n.s+1)) 0 (D4 (n.s+1).toNat fr) (CW n)
theorem X0 {l:List Rat} {m p:Nat} {x:Rat} (h:l[p]? = some x):(BW l m)[p]? = some (some x):=by
 have hi:=(zS h).1;rw[BW,List.getElem?_append_left (by rw[List.length_map];exact hi),List.getElem?_map,h];rfl
theorem TH {l:List Rat} {m p:Nat} {x:Rat} (h:p<l.length):(BW l m).set p (some x)=BW (l.set p x) m:=by
 simp only[BW,List.length_set];rw[List.set_append,if_pos (by rw[List.length_map];exact h),List.map_set]
theorem uU {m:Nat} {p:Int} (h:(m:Int)<=p):D4 m p=List.replicate m 0:=by
 refine List.ext_getElem? λ i => ?_
 simp only[D4,List.getElem?_map,List.getElem?_replicate];by_cases hi:i<m
 ·rw[List.getElem?_range hi,if_pos hi]
  simp only[Option.map_some];rw[if_neg (by omega)]
 ·rw[List.getElem?_eq_none (by simpa using hi),if_neg hi];rfl
theorem cZ {n:Nt} (hn:EB n) {u:Rat} (hu:Bt 24 u) {ex:Int} {w:List Rat} (hw:Bs 0 w) : ∀ j,j<=n.nodes.length->Bs 40000 (ED u ex 0 w ((CW n).take j)):=by
 intro j hj;have ke:=hn.nl;have k6:(CW n).length=n.nodes.length:=by simp [CW]
 have e:0+((CW n).take j).length=j:=by rw[List.length_take,k6];omega
 have mem : ∀ ts∈(CW n).take j,∃ d∈n.nodes,d.ts=ts:=λ ts h=>List.mem_map.1 (List.mem_of_mem_take h)
 rcases hn.tl with h|⟨h0,h⟩
 ·have h1:=dA (ex:=ex) (m:=3) hu ((CW n).take j) 0 w (λ ts ht=>by obtain ⟨d,hd,rfl⟩:=mem ts ht;exact h d hd) (λ ts ht=>by obtain ⟨d,hd,rfl⟩:=mem ts ht;exact hn.cf d hd) hw
  rw[e]at h1;intro x hx;refine (h1 x hx).le ?_;have:j<=5:=by omega
  rcases j with _|_|_|_|_|_|j
  all_goals first|decide|omega
 ·have h1:=dA (ex:=ex) (m:=5) hu ((CW n).take j) 0 w (λ ts ht=>by obtain ⟨d,hd,rfl⟩:=mem ts ht;exact h d hd) (λ ts ht=>by obtain ⟨d,hd,rfl⟩:=mem ts ht;exact hn.cf d hd) hw
  rw[e]at h1;intro x hx;refine (h1 x hx).le ?_;have:j<=1:=by omega
  rcases j with _|_|j
  all_goals first|decide|omega
theorem mT (N:o0 L) (n:Nt) (fr:Nat) (hn:EB n) (hf:(fr:Int)<=n.s+n.nodes.length):Ev L 351 [.agg (D9 n),.int .i64 (fr:Int)] (.sl false ((H4 n fr).map eQ)):=by
 obtain ⟨h1,h2,⟨Jt,Ju,Jv,Jw⟩,h4,h5,h6⟩:=(GN n).1 hn.oh;have vy:=h2;unfold WV at vy;have j9:=hn.st;have ke:=hn.nl;obtain ⟨S,hS⟩ : ∃ S:Nat,n.s=(S:Int):=⟨n.s.toNat,by omega⟩;obtain ⟨T,hT⟩ : ∃ T:Nat,T=S+1+n.nodes.length:=⟨_,rfl⟩;have lf:=E2 N.toa6 0 (by omega);have nh:=E2 N.toa6 1 (by omega);rw[show ((0:Int):Rat)=0 from rfl]at lf;rw[show ((1:Int):Rat)=1 from rfl]at nh;have hF:=bY N.tov3 1 (pw n.c.f) (by omega) (by have:=GF n.c.f;have:=YT (n:=n.c.f) (by omega);omega) (by have:=GF n.c.f;omega);have hu:Bt 24 (Rat.divInt 1 (pw n.c.f)):=by
  have e1:=GF n.c.f;have e2:=JI (n:=n.c.f) (m:=23) (by omega);have e3:pw 23=8388608:=by unfold pw;rfl
  obtain ⟨e,he⟩:=Int.eq_ofNat_of_zero_le (show 0<=pw n.c.f by omega);rw[he]at e2 ⊢;rw[Rat.divInt_ofNat];refine Bt.mk (by decide) ?_;show _<=16777216;omega
 have k6:(CW n).length=n.nodes.length:=by simp [CW]
 have hlen : ∀ d∈n.nodes,d.ts.length<=5:=λ d hd=>by
  rcases hn.tl with h|⟨_,h⟩
  ·have:=h d hd;omega
  ·exact h d hd
 obtain ⟨ex,hex⟩ : ∃ ex:Int,ex=(fr:Int)-(n.s+1):=⟨_,rfl⟩;have hw:(D4 (S+1) fr).length=S+1:=T9 _ _;have jr : ∀ j,j<=n.nodes.length->Bs 40000 (ED (Rat.divInt 1 (pw n.c.f)) ex 0 (D4 (S+1) fr) ((CW n).take j)):=cZ hn hu (Bs.unit _ _ _);have fj : ∀ j,j<=n.nodes.length->(ED (Rat.divInt 1 (pw n.c.f)) ex 0 (D4 (S+1) fr) ((CW n).take j)).length=S+1+j:=λ j hj=>by
  rw[X5,T9,List.length_take,k6];omega
 have gk:=oU (Rat.divInt 1 (pw n.c.f)) ex (D4 (S+1) fr) (CW n);have v5:H4 n fr=ED (Rat.divInt 1 (pw n.c.f)) ex 0 (D4 (S+1) fr) ((CW n).take n.nodes.length):=by
  rw[H4,hex,<-k6,List.take_length,hS];rfl
 rw[v5];clear v5;generalize Rat.divInt 1 (pw n.c.f)=u at *;refine Ev.x N.JU rfl rfl ?_;(repeat' ((first|(apply AR;omega)|apply AY|apply AE)<;>conv=>whnf))
 refine DP (enc:=eO) none T rfl (by omega) (by omega) ?_;(conv=>whnf)
 skip
 refine CK (λ i=>S+1-i) (λ(i:Nat)=>i<=S+1) (λ i=>[(24,.int .i64 i)]) (λ i=>[(22,22,.rw 3 ((BW (List.replicate i (0:Rat)) T).map eO))]) [] [] 0 (by rw[List.replicate_zero,RS];exact (by (conv=>whnf);exact ⟨rfl,rfl,rfl⟩)) (by omega) ?_;intro i p1 ih;by_cases hi:i<S+1
 ·have hs:=K5 (l:=List.replicate i (0:Rat)) (m:=T) (x:=0) (by rw[List.length_replicate];omega)
  have zo:=HO (l:=List.replicate i (0:Rat)) (m:=T) (by rw[List.length_replicate];omega);rw[List.length_replicate,<-List.replicate_succ']at hs;generalize BW (List.replicate i (0:Rat)) T=F0 at *;(repeat' ((first|(apply AG<;>intro hc<;>try (exfalso;omega))|(apply A3;omega)|apply AE|refine AD (lf) ?_)<;>conv=>whnf))
  refine JA (enc:=eO) (some 0) rfl (λ e=>by cases e<;>rfl) (by omega) ?_;(conv=>whnf)
  rw[hs];(repeat' ((first|(apply AR;omega)|fail)<;>conv=>whnf))
  exact BO [] (ih (i+1) (by omega) (by omega))
 have ei:i=S+1:=by omega
 clear ih;rw[ei];have zo:=HO (l:=List.replicate (S+1) (0:Rat)) (m:=T) (by rw[List.length_replicate];omega);by_cases He:fr<S+1
 ·have rl:=TH (l:=List.replicate (S+1) (0:Rat)) (m:=T) (x:=1) (p:=fr) (by rw[List.length_replicate];exact He)
  rw[UA]at rl;generalize BW (List.replicate (S+1) (0:Rat)) T=F0 at *;(repeat' ((first|(apply AG<;>intro hc<;>try (exfalso;omega))|(apply A3;omega)|apply AE|refine AD (nh) ?_)<;>conv=>whnf))
  refine JA (enc:=eO) (some 1) rfl (λ e=>by cases e<;>rfl) (by omega) ?_;(conv=>whnf)
  rw[rl];generalize D4 (S+1) fr=w at *;(repeat' ((first|(refine FN ?_ (λ_ _ => ?_);omega)|apply AY|refine AD (hF) ?_)<;>conv=>whnf))
  refine CK (λ j=>n.nodes.length-j) (λ(j:Nat)=>j<=n.nodes.length) (λ j=>[(47,.int .i64 j)]) (λ j=>[(22,22,.rw 3 ((BW (ED u ex 0 w ((CW n).take j)) T).map eO))]) [] [] 0 (by (conv=>whnf);exact ⟨rfl,rfl,rfl⟩) (by omega) ?_;clear p1;intro j p1 ih;by_cases hj:j<n.nodes.length
  ·obtain ⟨nd,hnd⟩ : ∃ nd,n.nodes[j]? = some nd:=⟨_,zE hj⟩
   have qg:n.nodes[(j:Int).toNat]? = some nd:=hnd;have iy:(CW n)[j]? = some nd.ts:=by simp [CW,hnd]
   have pc:=jr j p1;have z8:=fj j p1;have y8:=gk j nd.ts iy;have rm:=VT h4 hnd;have hL:nd.ts.length<=5:=hlen _ (zM hnd);have hC:=hn.cf _ (zM hnd);generalize hV:ED u ex 0 w ((CW n).take j)=V at *;have nw:=HO (l:=V) (m:=T) (by omega);have kp : ∀ (p:Nat) (x:Rat),V[p]? = some x->(BW V T)[p]? = some (some x):=λ p x h=>X0 h
   have wg : ∀ x:Rat,(BW V T).set (S+1+j) (some x)=BW (V++[x]) T:=λ x=>by rw[<-z8];exact K5 (by omega)
   have kv : ∀ x y:Rat,(BW (V++[x]) T).set (S+1+j) (some y)=BW (V++[y]) T:=λ x y=>by
    rw[TH (by rw[List.length_append,List.length_singleton];omega),<-z8,List.set_append,if_neg (by omega),Nat.sub_self];rfl
   have ku : ∀ x:Rat,(BW (V++[x]) T).length=T:=λ x=>HO (by rw[List.length_append,List.length_singleton];omega)
   (repeat' ((first|(apply AG<;>intro hc<;>try (exfalso;omega))|apply AY|(refine BC (by assumption) ?_ rfl ?_;omega)|apply AE|refine AD (lf) ?_)<;>conv=>whnf))
   refine EX (λ t _=>nd.ts.length-t) (λ(t:Nat) (acc:Rat)=>t<=nd.ts.length/\acc=I6 V (nd.ts.take t)) (λ t acc=>[(56,.int .i64 t)]) (λ t acc=>[(11,11,.bx (eQ acc))]) [] [] 0 (0:Rat) (by (conv=>whnf);exact ⟨rfl,rfl,rfl⟩) ⟨by omega,rfl⟩ ?_;intro t acc ⟨p3,p4⟩ jh;have aj:Bt 200125 acc:=by
    rw[p4];have a1:=pc.sum (nd.ts.take t) (j:=24) (λ e he=>Bt.ofInt (hC e (List.mem_of_mem_take he)));refine a1.le (Nat.le_trans (Nat.mul_le_mul_right _ (show (nd.ts.take t).length<=5 by rw[List.length_take];omega)) (by decide))
   by_cases ht:t<nd.ts.length
   ·obtain ⟨e,he⟩ : ∃ e,nd.ts[t]? = some e:=⟨_,zE ht⟩
    have cr:nd.ts[(t:Int).toNat]? = some e:=he;have qe:=zM he;have j6:=List.all_eq_true.1 rm e qe;simp only[GQ,decide_eq_true_eq]at j6;have pe:=hC e qe;obtain ⟨x,hx⟩ : ∃ x,V[e.1.toNat]? = some x:=⟨_,zE (by omega)⟩;have vh:=kp _ _ hx;have js:((BW V T).map eO)[0+e.1.toNat]? = some (eO (some x)):=by rw[Nat.zero_add,List.getElem?_map,vh];rfl
    have yn:V.getD e.1.toNat 0=x:=by rw[List.getD_eq_getElem?_getD,hx];rfl
    have jg:=pc.at hx;have ay:=ZG (vals:=V) he;rw[yn]at ay;have mi:=PT N.toa6 jg (by omega);have hE:=E2 N.toa6 e.2 (by have:(2:Nat)^24=16777216:=rfl;omega);have hM:=F3 N.toa6 jg (Bt.ofInt pe) (by omega) (by omega);have hA:=HD N.toa6 aj (jg.mul (Bt.ofInt pe)) (by omega) (by omega);have z1:=N4 (x:=x);generalize q9 x.num=sx at *;generalize BW V T=F0 at *;by_cases q2:sx=0
    ·have fv:=z1.1 q2
     (repeat' ((first|(apply AG<;>intro hc<;>try (exfalso;omega))|(apply A3;omega)|(refine BC (by assumption) ?_ rfl ?_;omega)|apply AE)<;>conv=>whnf))
     refine GG js rfl ?_;(conv=>whnf)
     (repeat' ((first|(apply AG<;>intro hc<;>try (exfalso;omega))|(apply AR;omega)|refine AD (mi) ?_)<;>conv=>whnf))
     have iq:=jh (t+1) acc (by omega) ⟨by omega,by rw[ay,fv,Rat.mul_zero,Rat.add_zero];exact p4⟩;exact BL [] (by (conv=>whnf);exact ⟨rfl,rfl,rfl⟩) iq
    ·(repeat' ((first|(apply AG<;>intro hc<;>try (exfalso;omega))|(apply A3;omega)|(refine BC (by assumption) ?_ rfl ?_;omega)|apply AE)<;>conv=>whnf))
     refine GG js rfl ?_;(conv=>whnf)
     (repeat' ((first|(apply AG<;>intro hc<;>try (exfalso;omega))|(apply A3;omega)|refine AD (mi) ?_)<;>conv=>whnf))
     refine GG js rfl ?_;(conv=>whnf)
     (repeat' ((first|(apply AR;omega)|refine AD (hE) ?_|refine AD (hM) ?_|refine AD (hA) ?_)<;>conv=>whnf))
     have iq:=jh (t+1) (acc+x*((e.2:Int):Rat)) (by omega) ⟨by omega,by rw[ay,<-p4,Rat.mul_comm]⟩;exact BL [] (by (conv=>whnf);exact ⟨rfl,rfl,rfl⟩) iq
   ·obtain rfl:t=nd.ts.length:=by omega
    clear jh;rw[List.take_length]at p4;have sn:=F3 N.toa6 aj hu (by omega) (by omega);rw[<-p4]at y8;have s1:=wg (acc*u);have s2:=kv (acc*u) 1;have l2:=ku (acc*u);generalize BW V T=F0 at *;by_cases q5:(j:Int)=ex
    ·have q7:=q5
     exfalso;omega
    ·rw[if_neg q5]at y8
     (repeat' ((first|(apply AG<;>intro hc<;>try (exfalso;omega))|(apply A3;omega)|(apply AR;omega)|apply AE|refine AD (sn) ?_)<;>conv=>whnf))
     refine GC (enc:=eO) (S+1+j) (some (acc*u)) (by omega) rfl (λ e=>by cases e<;>rfl) (by omega) ?_;rw[s1,<-y8];(conv=>whnf)
     (repeat' ((first|(apply AG<;>intro hc<;>try (exfalso;omega))|(apply AR;omega))<;>conv=>whnf))
     exact BO [] (ih (j+1) (by omega) (by omega))
  ·obtain rfl:j=n.nodes.length:=by omega
   clear ih;have z8:=fj n.nodes.length p1;rw[PU (by omega)];(repeat' ((first|(apply AG<;>intro hc<;>try (exfalso;omega))|apply AE)<;>conv=>whnf))
   refine C3 (enc:=eQ) (λ_=>rfl) rfl (by omega) ?_;(conv=>whnf)
   skip
   exact AW rfl (by simp only[A4,true_and];exact KC _)
 ·rw[<-uU (m:=S+1) (p:=fr) (by omega)]
  generalize D4 (S+1) fr=w at *;(repeat' ((first|(apply AG<;>intro hc<;>try (exfalso;omega))|(refine FN ?_ (λ_ _ => ?_);omega)|apply AY|apply AE|refine AD (hF) ?_)<;>conv=>whnf))
  refine CK (λ j=>n.nodes.length-j) (λ(j:Nat)=>j<=n.nodes.length) (λ j=>[(47,.int .i64 j)]) (λ j=>[(22,22,.rw 3 ((BW (ED u ex 0 w ((CW n).take j)) T).map eO))]) [] [] 0 (by (conv=>whnf);exact ⟨rfl,rfl,rfl⟩) (by omega) ?_;clear p1;intro j p1 ih;by_cases hj:j<n.nodes.length
  ·obtain ⟨nd,hnd⟩ : ∃ nd,n.nodes[j]? = some nd:=⟨_,zE hj⟩
   have qg:n.nodes[(j:Int).toNat]? = some nd:=hnd;have iy:(CW n)[j]? = some nd.ts:=by simp [CW,hnd]
   have pc:=jr j p1;have z8:=fj j p1;have y8:=gk j nd.ts iy;have rm:=VT h4 hnd;have hL:nd.ts.length<=5:=hlen _ (zM hnd);have hC:=hn.cf _ (zM hnd);generalize hV:ED u ex 0 w ((CW n).take j)=V at *;have nw:=HO (l:=V) (m:=T) (by omega);have kp : ∀ (p:Nat) (x:Rat),V[p]? = some x->(BW V T)[p]? = some (some x):=λ p x h=>X0 h
   have wg : ∀ x:Rat,(BW V T).set (S+1+j) (some x)=BW (V++[x]) T:=λ x=>by rw[<-z8];exact K5 (by omega)
   have kv : ∀ x y:Rat,(BW (V++[x]) T).set (S+1+j) (some y)=BW (V++[y]) T:=λ x y=>by
    rw[TH (by rw[List.length_append,List.length_singleton];omega),<-z8,List.set_append,if_neg (by omega),Nat.sub_self];rfl
   have ku : ∀ x:Rat,(BW (V++[x]) T).length=T:=λ x=>HO (by rw[List.length_append,List.length_singleton];omega)
   (repeat' ((first|(apply AG<;>intro hc<;>try (exfalso;omega))|apply AY|(refine BC (by assumption) ?_ rfl ?_;omega)|apply AE|refine AD (lf) ?_)<;>conv=>whnf))
   refine EX (λ t _=>nd.ts.length-t) (λ(t:Nat) (acc:Rat)=>t<=nd.ts.length/\acc=I6 V (nd.ts.take t)) (λ t acc=>[(56,.int .i64 t)]) (λ t acc=>[(11,11,.bx (eQ acc))]) [] [] 0 (0:Rat) (by (conv=>whnf);exact ⟨rfl,rfl,rfl⟩) ⟨by omega,rfl⟩ ?_;intro t acc ⟨p3,p4⟩ jh;have aj:Bt 200125 acc:=by
    rw[p4];have a1:=pc.sum (nd.ts.take t) (j:=24) (λ e he=>Bt.ofInt (hC e (List.mem_of_mem_take he)));refine a1.le (Nat.le_trans (Nat.mul_le_mul_right _ (show (nd.ts.take t).length<=5 by rw[List.length_take];omega)) (by decide))
   by_cases ht:t<nd.ts.length
   ·obtain ⟨e,he⟩ : ∃ e,nd.ts[t]? = some e:=⟨_,zE ht⟩
    have cr:nd.ts[(t:Int).toNat]? = some e:=he;have qe:=zM he;have j6:=List.all_eq_true.1 rm e qe;simp only[GQ,decide_eq_true_eq]at j6;have pe:=hC e qe;obtain ⟨x,hx⟩ : ∃ x,V[e.1.toNat]? = some x:=⟨_,zE (by omega)⟩;have vh:=kp _ _ hx;have js:((BW V T).map eO)[0+e.1.toNat]? = some (eO (some x)):=by rw[Nat.zero_add,List.getElem?_map,vh];rfl
    have yn:V.getD e.1.toNat 0=x:=by rw[List.getD_eq_getElem?_getD,hx];rfl
    have jg:=pc.at hx;have ay:=ZG (vals:=V) he;rw[yn]at ay;have mi:=PT N.toa6 jg (by omega);have hE:=E2 N.toa6 e.2 (by have:(2:Nat)^24=16777216:=rfl;omega);have hM:=F3 N.toa6 jg (Bt.ofInt pe) (by omega) (by omega);have hA:=HD N.toa6 aj (jg.mul (Bt.ofInt pe)) (by omega) (by omega);have z1:=N4 (x:=x);generalize q9 x.num=sx at *;generalize BW V T=F0 at *;by_cases q2:sx=0
    ·have fv:=z1.1 q2
     (repeat' ((first|(apply AG<;>intro hc<;>try (exfalso;omega))|(apply A3;omega)|(refine BC (by assumption) ?_ rfl ?_;omega)|apply AE)<;>conv=>whnf))
     refine GG js rfl ?_;(conv=>whnf)
     (repeat' ((first|(apply AG<;>intro hc<;>try (exfalso;omega))|(apply AR;omega)|refine AD (mi) ?_)<;>conv=>whnf))
     have iq:=jh (t+1) acc (by omega) ⟨by omega,by rw[ay,fv,Rat.mul_zero,Rat.add_zero];exact p4⟩;exact BL [] (by (conv=>whnf);exact ⟨rfl,rfl,rfl⟩) iq
    ·(repeat' ((first|(apply AG<;>intro hc<;>try (exfalso;omega))|(apply A3;omega)|(refine BC (by assumption) ?_ rfl ?_;omega)|apply AE)<;>conv=>whnf))
     refine GG js rfl ?_;(conv=>whnf)
     (repeat' ((first|(apply AG<;>intro hc<;>try (exfalso;omega))|(apply A3;omega)|refine AD (mi) ?_)<;>conv=>whnf))
     refine GG js rfl ?_;(conv=>whnf)
     (repeat' ((first|(apply AR;omega)|refine AD (hE) ?_|refine AD (hM) ?_|refine AD (hA) ?_)<;>conv=>whnf))
     have iq:=jh (t+1) (acc+x*((e.2:Int):Rat)) (by omega) ⟨by omega,by rw[ay,<-p4,Rat.mul_comm]⟩;exact BL [] (by (conv=>whnf);exact ⟨rfl,rfl,rfl⟩) iq
   ·obtain rfl:t=nd.ts.length:=by omega
    clear jh;rw[List.take_length]at p4;have sn:=F3 N.toa6 aj hu (by omega) (by omega);rw[<-p4]at y8;have s1:=wg (acc*u);have s2:=kv (acc*u) 1;have l2:=ku (acc*u);generalize BW V T=F0 at *;by_cases q5:(j:Int)=ex
    ·have q7:=q5
     rw[if_pos q5]at y8;(repeat' ((first|(apply AG<;>intro hc<;>try (exfalso;omega))|(apply A3;omega)|(apply AR;omega)|apply AE|refine AD (sn) ?_)<;>conv=>whnf))
     refine GC (enc:=eO) (S+1+j) (some (acc*u)) (by omega) rfl (λ e=>by cases e<;>rfl) (by omega) ?_;rw[s1];generalize BW (V++[acc*u]) T=F1 at *;(conv=>whnf)
     (repeat' ((first|(apply AG<;>intro hc<;>try (exfalso;omega))|(apply A3;omega)|(apply AR;omega)|refine AD (nh) ?_)<;>conv=>whnf))
     refine GC (enc:=eO) (S+1+j) (some 1) (by omega) rfl (λ e=>by cases e<;>rfl) (by omega) ?_;rw[s2,<-y8];(conv=>whnf)
     (repeat' ((first|(apply AR;omega)|fail)<;>conv=>whnf))
     exact BO [] (ih (j+1) (by omega) (by omega))
    ·rw[if_neg q5]at y8
     (repeat' ((first|(apply AG<;>intro hc<;>try (exfalso;omega))|(apply A3;omega)|(apply AR;omega)|apply AE|refine AD (sn) ?_)<;>conv=>whnf))
     refine GC (enc:=eO) (S+1+j) (some (acc*u)) (by omega) rfl (λ e=>by cases e<;>rfl) (by omega) ?_;rw[s1,<-y8];(conv=>whnf)
     (repeat' ((first|(apply AG<;>intro hc<;>try (exfalso;omega))|(apply AR;omega))<;>conv=>whnf))
     exact BO [] (ih (j+1) (by omega) (by omega))
  ·obtain rfl:j=n.nodes.length:=by omega
   clear ih;have z8:=fj n.nodes.length p1;rw[PU (by omega)];(repeat' ((first|(apply AG<;>intro hc<;>try (exfalso;omega))|apply AE)<;>conv=>whnf))
   refine C3 (enc:=eQ) (λ_=>rfl) rfl (by omega) ?_;(conv=>whnf)
   skip
   exact AW rfl (by simp only[A4,true_and];exact KC _)
theorem Ub (N:o0 L) (n:Nt) (fr:Nat) (hn:EB n) (hf:(fr:Int)<=n.s+n.nodes.length):OJ L 351 [.agg (D9 n),.int .i64 (fr:Int)] 3 ((H4 n fr).map eQ):=by
 obtain ⟨h1,h2,⟨Jt,Ju,Jv,Jw⟩,h4,h5,h6⟩:=(GN n).1 hn.oh;have vy:=h2;unfold WV at vy;have j9:=hn.st;have ke:=hn.nl;obtain ⟨S,hS⟩ : ∃ S:Nat,n.s=(S:Int):=⟨n.s.toNat,by omega⟩;obtain ⟨T,hT⟩ : ∃ T:Nat,T=S+1+n.nodes.length:=⟨_,rfl⟩;have lf:=E2 N.toa6 0 (by omega);have nh:=E2 N.toa6 1 (by omega);rw[show ((0:Int):Rat)=0 from rfl]at lf;rw[show ((1:Int):Rat)=1 from rfl]at nh;have hF:=bY N.tov3 1 (pw n.c.f) (by omega) (by have:=GF n.c.f;have:=YT (n:=n.c.f) (by omega);omega) (by have:=GF n.c.f;omega);have hu:Bt 24 (Rat.divInt 1 (pw n.c.f)):=by
  have e1:=GF n.c.f;have e2:=JI (n:=n.c.f) (m:=23) (by omega);have e3:pw 23=8388608:=by unfold pw;rfl
  obtain ⟨e,he⟩:=Int.eq_ofNat_of_zero_le (show 0<=pw n.c.f by omega);rw[he]at e2 ⊢;rw[Rat.divInt_ofNat];refine Bt.mk (by decide) ?_;show _<=16777216;omega
 have k6:(CW n).length=n.nodes.length:=by simp [CW]
 have hlen : ∀ d∈n.nodes,d.ts.length<=5:=λ d hd=>by
  rcases hn.tl with h|⟨_,h⟩
  ·have:=h d hd;omega
  ·exact h d hd
 obtain ⟨ex,hex⟩ : ∃ ex:Int,ex=(fr:Int)-(n.s+1):=⟨_,rfl⟩;have hw:(D4 (S+1) fr).length=S+1:=T9 _ _;have jr : ∀ j,j<=n.nodes.length->Bs 40000 (ED (Rat.divInt 1 (pw n.c.f)) ex 0 (D4 (S+1) fr) ((CW n).take j)):=cZ hn hu (Bs.unit _ _ _);have fj : ∀ j,j<=n.nodes.length->(ED (Rat.divInt 1 (pw n.c.f)) ex 0 (D4 (S+1) fr) ((CW n).take j)).length=S+1+j:=λ j hj=>by
  rw[X5,T9,List.length_take,k6];omega
 have gk:=oU (Rat.divInt 1 (pw n.c.f)) ex (D4 (S+1) fr) (CW n);have v5:H4 n fr=ED (Rat.divInt 1 (pw n.c.f)) ex 0 (D4 (S+1) fr) ((CW n).take n.nodes.length):=by
  rw[H4,hex,<-k6,List.take_length,hS];rfl
 rw[v5];clear v5;generalize Rat.divInt 1 (pw n.c.f)=u at *;refine OJ.x N.JU rfl rfl ?_;(repeat' ((first|(apply AR;omega)|apply AY|apply AE)<;>conv=>whnf))
 refine DP (enc:=eO) none T rfl (by omega) (by omega) ?_;(conv=>whnf)
 skip
 refine CK (λ i=>S+1-i) (λ(i:Nat)=>i<=S+1) (λ i=>[(24,.int .i64 i)]) (λ i=>[(22,22,.rw 3 ((BW (List.replicate i (0:Rat)) T).map eO))]) [] [] 0 (by rw[List.replicate_zero,RS];exact (by (conv=>whnf);exact ⟨rfl,rfl,rfl⟩)) (by omega) ?_;intro i p1 ih;by_cases hi:i<S+1
 ·have hs:=K5 (l:=List.replicate i (0:Rat)) (m:=T) (x:=0) (by rw[List.length_replicate];omega)
  have zo:=HO (l:=List.replicate i (0:Rat)) (m:=T) (by rw[List.length_replicate];omega);rw[List.length_replicate,<-List.replicate_succ']at hs;generalize BW (List.replicate i (0:Rat)) T=F0 at *;(repeat' ((first|(apply AG<;>intro hc<;>try (exfalso;omega))|(apply A3;omega)|apply AE|refine AD (lf) ?_)<;>conv=>whnf))
  refine JA (enc:=eO) (some 0) rfl (λ e=>by cases e<;>rfl) (by omega) ?_;(conv=>whnf)
  rw[hs];(repeat' ((first|(apply AR;omega)|fail)<;>conv=>whnf))
  exact BO [] (ih (i+1) (by omega) (by omega))
 have ei:i=S+1:=by omega
 clear ih;rw[ei];have zo:=HO (l:=List.replicate (S+1) (0:Rat)) (m:=T) (by rw[List.length_replicate];omega);by_cases He:fr<S+1
 ·have rl:=TH (l:=List.replicate (S+1) (0:Rat)) (m:=T) (x:=1) (p:=fr) (by rw[List.length_replicate];exact He)
  rw[UA]at rl;generalize BW (List.replicate (S+1) (0:Rat)) T=F0 at *;(repeat' ((first|(apply AG<;>intro hc<;>try (exfalso;omega))|(apply A3;omega)|apply AE|refine AD (nh) ?_)<;>conv=>whnf))
  refine JA (enc:=eO) (some 1) rfl (λ e=>by cases e<;>rfl) (by omega) ?_;(conv=>whnf)
  rw[rl];generalize D4 (S+1) fr=w at *;(repeat' ((first|(refine FN ?_ (λ_ _ => ?_);omega)|apply AY|refine AD (hF) ?_)<;>conv=>whnf))
  refine CK (λ j=>n.nodes.length-j) (λ(j:Nat)=>j<=n.nodes.length) (λ j=>[(47,.int .i64 j)]) (λ j=>[(22,22,.rw 3 ((BW (ED u ex 0 w ((CW n).take j)) T).map eO))]) [] [] 0 (by (conv=>whnf);exact ⟨rfl,rfl,rfl⟩) (by omega) ?_;clear p1;intro j p1 ih;by_cases hj:j<n.nodes.length
  ·obtain ⟨nd,hnd⟩ : ∃ nd,n.nodes[j]? = some nd:=⟨_,zE hj⟩
   have qg:n.nodes[(j:Int).toNat]? = some nd:=hnd;have iy:(CW n)[j]? = some nd.ts:=by simp [CW,hnd]
   have pc:=jr j p1;have z8:=fj j p1;have y8:=gk j nd.ts iy;have rm:=VT h4 hnd;have hL:nd.ts.length<=5:=hlen _ (zM hnd);have hC:=hn.cf _ (zM hnd);generalize hV:ED u ex 0 w ((CW n).take j)=V at *;have nw:=HO (l:=V) (m:=T) (by omega);have kp : ∀ (p:Nat) (x:Rat),V[p]? = some x->(BW V T)[p]? = some (some x):=λ p x h=>X0 h
   have wg : ∀ x:Rat,(BW V T).set (S+1+j) (some x)=BW (V++[x]) T:=λ x=>by rw[<-z8];exact K5 (by omega)
   have kv : ∀ x y:Rat,(BW (V++[x]) T).set (S+1+j) (some y)=BW (V++[y]) T:=λ x y=>by
    rw[TH (by rw[List.length_append,List.length_singleton];omega),<-z8,List.set_append,if_neg (by omega),Nat.sub_self];rfl
   have ku : ∀ x:Rat,(BW (V++[x]) T).length=T:=λ x=>HO (by rw[List.length_append,List.length_singleton];omega)
   (repeat' ((first|(apply AG<;>intro hc<;>try (exfalso;omega))|apply AY|(refine BC (by assumption) ?_ rfl ?_;omega)|apply AE|refine AD (lf) ?_)<;>conv=>whnf))
   refine EX (λ t _=>nd.ts.length-t) (λ(t:Nat) (acc:Rat)=>t<=nd.ts.length/\acc=I6 V (nd.ts.take t)) (λ t acc=>[(56,.int .i64 t)]) (λ t acc=>[(11,11,.bx (eQ acc))]) [] [] 0 (0:Rat) (by (conv=>whnf);exact ⟨rfl,rfl,rfl⟩) ⟨by omega,rfl⟩ ?_;intro t acc ⟨p3,p4⟩ jh;have aj:Bt 200125 acc:=by
    rw[p4];have a1:=pc.sum (nd.ts.take t) (j:=24) (λ e he=>Bt.ofInt (hC e (List.mem_of_mem_take he)));refine a1.le (Nat.le_trans (Nat.mul_le_mul_right _ (show (nd.ts.take t).length<=5 by rw[List.length_take];omega)) (by decide))
   by_cases ht:t<nd.ts.length
   ·obtain ⟨e,he⟩ : ∃ e,nd.ts[t]? = some e:=⟨_,zE ht⟩
    have cr:nd.ts[(t:Int).toNat]? = some e:=he;have qe:=zM he;have j6:=List.all_eq_true.1 rm e qe;simp only[GQ,decide_eq_true_eq]at j6;have pe:=hC e qe;obtain ⟨x,hx⟩ : ∃ x,V[e.1.toNat]? = some x:=⟨_,zE (by omega)⟩;have vh:=kp _ _ hx;have js:((BW V T).map eO)[0+e.1.toNat]? = some (eO (some x)):=by rw[Nat.zero_add,List.getElem?_map,vh];rfl
    have yn:V.getD e.1.toNat 0=x:=by rw[List.getD_eq_getElem?_getD,hx];rfl
    have jg:=pc.at hx;have ay:=ZG (vals:=V) he;rw[yn]at ay;have mi:=PT N.toa6 jg (by omega);have hE:=E2 N.toa6 e.2 (by have:(2:Nat)^24=16777216:=rfl;omega);have hM:=F3 N.toa6 jg (Bt.ofInt pe) (by omega) (by omega);have hA:=HD N.toa6 aj (jg.mul (Bt.ofInt pe)) (by omega) (by omega);have z1:=N4 (x:=x);generalize q9 x.num=sx at *;generalize BW V T=F0 at *;by_cases q2:sx=0
    ·have fv:=z1.1 q2
     (repeat' ((first|(apply AG<;>intro hc<;>try (exfalso;omega))|(apply A3;omega)|(refine BC (by assumption) ?_ rfl ?_;omega)|apply AE)<;>conv=>whnf))
     refine GG js rfl ?_;(conv=>whnf)
     (repeat' ((first|(apply AG<;>intro hc<;>try (exfalso;omega))|(apply AR;omega)|refine AD (mi) ?_)<;>conv=>whnf))
     have iq:=jh (t+1) acc (by omega) ⟨by omega,by rw[ay,fv,Rat.mul_zero,Rat.add_zero];exact p4⟩;exact BL [] (by (conv=>whnf);exact ⟨rfl,rfl,rfl⟩) iq
    ·(repeat' ((first|(apply AG<;>intro hc<;>try (exfalso;omega))|(apply A3;omega)|(refine BC (by assumption) ?_ rfl ?_;omega)|apply AE)<;>conv=>whnf))
     refine GG js rfl ?_;(conv=>whnf)
     (repeat' ((first|(apply AG<;>intro hc<;>try (exfalso;omega))|(apply A3;omega)|refine AD (mi) ?_)<;>conv=>whnf))
     refine GG js rfl ?_;(conv=>whnf)
     (repeat' ((first|(apply AR;omega)|refine AD (hE) ?_|refine AD (hM) ?_|refine AD (hA) ?_)<;>conv=>whnf))
     have iq:=jh (t+1) (acc+x*((e.2:Int):Rat)) (by omega) ⟨by omega,by rw[ay,<-p4,Rat.mul_comm]⟩;exact BL [] (by (conv=>whnf);exact ⟨rfl,rfl,rfl⟩) iq
   ·obtain rfl:t=nd.ts.length:=by omega
    clear jh;rw[List.take_length]at p4;have sn:=F3 N.toa6 aj hu (by omega) (by omega);rw[<-p4]at y8;have s1:=wg (acc*u);have s2:=kv (acc*u) 1;have l2:=ku (acc*u);generalize BW V T=F0 at *;by_cases q5:(j:Int)=ex
    ·have q7:=q5
     exfalso;omega
    ·rw[if_neg q5]at y8
     (repeat' ((first|(apply AG<;>intro hc<;>try (exfalso;omega))|(apply A3;omega)|(apply AR;omega)|apply AE|refine AD (sn) ?_)<;>conv=>whnf))
     refine GC (enc:=eO) (S+1+j) (some (acc*u)) (by omega) rfl (λ e=>by cases e<;>rfl) (by omega) ?_;rw[s1,<-y8];(conv=>whnf)
     (repeat' ((first|(apply AG<;>intro hc<;>try (exfalso;omega))|(apply AR;omega))<;>conv=>whnf))
     exact BO [] (ih (j+1) (by omega) (by omega))
  ·obtain rfl:j=n.nodes.length:=by omega
   clear ih;have z8:=fj n.nodes.length p1;rw[PU (by omega)];(repeat' ((first|(apply AG<;>intro hc<;>try (exfalso;omega))|apply AE)<;>conv=>whnf))
   exact ⟨rfl,rfl,by rw[List.length_map];omega,rfl,KC _⟩
 ·rw[<-uU (m:=S+1) (p:=fr) (by omega)]
  generalize D4 (S+1) fr=w at *;(repeat' ((first|(apply AG<;>intro hc<;>try (exfalso;omega))|(refine FN ?_ (λ_ _ => ?_);omega)|apply AY|apply AE|refine AD (hF) ?_)<;>conv=>whnf))
  refine CK (λ j=>n.nodes.length-j) (λ(j:Nat)=>j<=n.nodes.length) (λ j=>[(47,.int .i64 j)]) (λ j=>[(22,22,.rw 3 ((BW (ED u ex 0 w ((CW n).take j)) T).map eO))]) [] [] 0 (by (conv=>whnf);exact ⟨rfl,rfl,rfl⟩) (by omega) ?_;clear p1;intro j p1 ih;by_cases hj:j<n.nodes.length
  ·obtain ⟨nd,hnd⟩ : ∃ nd,n.nodes[j]? = some nd:=⟨_,zE hj⟩
   have qg:n.nodes[(j:Int).toNat]? = some nd:=hnd;have iy:(CW n)[j]? = some nd.ts:=by simp [CW,hnd]
   have pc:=jr j p1;have z8:=fj j p1;have y8:=gk j nd.ts iy;have rm:=VT h4 hnd;have hL:nd.ts.length<=5:=hlen _ (zM hnd);have hC:=hn.cf _ (zM hnd);generalize hV:ED u ex 0 w ((CW n).take j)=V at *;have nw:=HO (l:=V) (m:=T) (by omega);have kp : ∀ (p:Nat) (x:Rat),V[p]? = some x->(BW V T)[p]? = some (some x):=λ p x h=>X0 h
   have wg : ∀ x:Rat,(BW V T).set (S+1+j) (some x)=BW (V++[x]) T:=λ x=>by rw[<-z8];exact K5 (by omega)
   have kv : ∀ x y:Rat,(BW (V++[x]) T).set (S+1+j) (some y)=BW (V++[y]) T:=λ x y=>by
    rw[TH (by rw[List.length_append,List.length_singleton];omega),<-z8,List.set_append,if_neg (by omega),Nat.sub_self];rfl
   have ku : ∀ x:Rat,(BW (V++[x]) T).length=T:=λ x=>HO (by rw[List.length_append,List.length_singleton];omega)
   (repeat' ((first|(apply AG<;>intro hc<;>try (exfalso;omega))|apply AY|(refine BC (by assumption) ?_ rfl ?_;omega)|apply AE|refine AD (lf) ?_)<;>conv=>whnf))
   refine EX (λ t _=>nd.ts.length-t) (λ(t:Nat) (acc:Rat)=>t<=nd.ts.length/\acc=I6 V (nd.ts.take t)) (λ t acc=>[(56,.int .i64 t)]) (λ t acc=>[(11,11,.bx (eQ acc))]) [] [] 0 (0:Rat) (by (conv=>whnf);exact ⟨rfl,rfl,rfl⟩) ⟨by omega,rfl⟩ ?_;intro t acc ⟨p3,p4⟩ jh;have aj:Bt 200125 acc:=by
    rw[p4];have a1:=pc.sum (nd.ts.take t) (j:=24) (λ e he=>Bt.ofInt (hC e (List.mem_of_mem_take he)));refine a1.le (Nat.le_trans (Nat.mul_le_mul_right _ (show (nd.ts.take t).length<=5 by rw[List.length_take];omega)) (by decide))
   by_cases ht:t<nd.ts.length
   ·obtain ⟨e,he⟩ : ∃ e,nd.ts[t]? = some e:=⟨_,zE ht⟩
    have cr:nd.ts[(t:Int).toNat]? = some e:=he;have qe:=zM he;have j6:=List.all_eq_true.1 rm e qe;simp only[GQ,decide_eq_true_eq]at j6;have pe:=hC e qe;obtain ⟨x,hx⟩ : ∃ x,V[e.1.toNat]? = some x:=⟨_,zE (by omega)⟩;have vh:=kp _ _ hx;have js:((BW V T).map eO)[0+e.1.toNat]? = some (eO (some x)):=by rw[Nat.zero_add,List.getElem?_map,vh];rfl
    have yn:V.getD e.1.toNat 0=x:=by rw[List.getD_eq_getElem?_getD,hx];rfl
    have jg:=pc.at hx;have ay:=ZG (vals:=V) he;rw[yn]at ay;have mi:=PT N.toa6 jg (by omega);have hE:=E2 N.toa6 e.2 (by have:(2:Nat)^24=16777216:=rfl;omega);have hM:=F3 N.toa6 jg (Bt.ofInt pe) (by omega) (by omega);have hA:=HD N.toa6 aj (jg.mul (Bt.ofInt pe)) (by omega) (by omega);have z1:=N4 (x:=x);generalize q9 x.num=sx at *;generalize BW V T=F0 at *;by_cases q2:sx=0
    ·have fv:=z1.1 q2
     (repeat' ((first|(apply AG<;>intro hc<;>try (exfalso;omega))|(apply A3;omega)|(refine BC (by assumption) ?_ rfl ?_;omega)|apply AE)<;>conv=>whnf))
     refine GG js rfl ?_;(conv=>whnf)
     (repeat' ((first|(apply AG<;>intro hc<;>try (exfalso;omega))|(apply AR;omega)|refine AD (mi) ?_)<;>conv=>whnf))
     have iq:=jh (t+1) acc (by omega) ⟨by omega,by rw[ay,fv,Rat.mul_zero,Rat.add_zero];exact p4⟩;exact BL [] (by (conv=>whnf);exact ⟨rfl,rfl,rfl⟩) iq
    ·(repeat' ((first|(apply AG<;>intro hc<;>try (exfalso;omega))|(apply A3;omega)|(refine BC (by assumption) ?_ rfl ?_;omega)|apply AE)<;>conv=>whnf))
     refine GG js rfl ?_;(conv=>whnf)
     (repeat' ((first|(apply AG<;>intro hc<;>try (exfalso;omega))|(apply A3;omega)|refine AD (mi) ?_)<;>conv=>whnf))
     refine GG js rfl ?_;(conv=>whnf)
     (repeat' ((first|(apply AR;omega)|refine AD (hE) ?_|refine AD (hM) ?_|refine AD (hA) ?_)<;>conv=>whnf))
     have iq:=jh (t+1) (acc+x*((e.2:Int):Rat)) (by omega) ⟨by omega,by rw[ay,<-p4,Rat.mul_comm]⟩;exact BL [] (by (conv=>whnf);exact ⟨rfl,rfl,rfl⟩) iq
   ·obtain rfl:t=nd.ts.length:=by omega
    clear jh;rw[List.take_length]at p4;have sn:=F3 N.toa6 aj hu (by omega) (by omega);rw[<-p4]at y8;have s1:=wg (acc*u);have s2:=kv (acc*u) 1;have l2:=ku (acc*u);generalize BW V T=F0 at *;by_cases q5:(j:Int)=ex
    ·have q7:=q5
     rw[if_pos q5]at y8;(repeat' ((first|(apply AG<;>intro hc<;>try (exfalso;omega))|(apply A3;omega)|(apply AR;omega)|apply AE|refine AD (sn) ?_)<;>conv=>whnf))
     refine GC (enc:=eO) (S+1+j) (some (acc*u)) (by omega) rfl (λ e=>by cases e<;>rfl) (by omega) ?_;rw[s1];generalize BW (V++[acc*u]) T=F1 at *;(conv=>whnf)
     (repeat' ((first|(apply AG<;>intro hc<;>try (exfalso;omega))|(apply A3;omega)|(apply AR;omega)|refine AD (nh) ?_)<;>conv=>whnf))
     refine GC (enc:=eO) (S+1+j) (some 1) (by omega) rfl (λ e=>by cases e<;>rfl) (by omega) ?_;rw[s2,<-y8];(conv=>whnf)
     (repeat' ((first|(apply AR;omega)|fail)<;>conv=>whnf))
     exact BO [] (ih (j+1) (by omega) (by omega))
    ·rw[if_neg q5]at y8
     (repeat' ((first|(apply AG<;>intro hc<;>try (exfalso;omega))|(apply A3;omega)|(apply AR;omega)|apply AE|refine AD (sn) ?_)<;>conv=>whnf))
     refine GC (enc:=eO) (S+1+j) (some (acc*u)) (by omega) rfl (λ e=>by cases e<;>rfl) (by omega) ?_;rw[s1,<-y8];(conv=>whnf)
     (repeat' ((first|(apply AG<;>intro hc<;>try (exfalso;omega))|(apply AR;omega))<;>conv=>whnf))
     exact BO [] (ih (j+1) (by omega) (by omega))
  ·obtain rfl:j=n.nodes.length:=by omega
   clear ih;have z8:=fj n.nodes.length p1;rw[PU (by omega)];(repeat' ((first|(apply AG<;>intro hc<;>try (exfalso;omega))|apply AE)<;>conv=>whnf))
   exact ⟨rfl,rfl,by rw[List.length_map];omega,rfl,KC _⟩
theorem nZ (I:j4 L) (N:o0 L) (n:Nt) (hn:EB n):Ev L 349 [.agg (D9 n)] (.bool true):=by
 have hV:=Ut n I N.toef;rw[hn.oh]at hV;have:=hn.st
 refine Ev.x N.MT rfl rfl ?_;(repeat' ((first|(apply AG<;>intro hc<;>try (exfalso;omega))|apply AE|refine AD (hV) ?_)<;>conv=>whnf))
 exact G7 rfl
theorem mQ (N:o0 L) (a b:Rat) (v:Int) (k:Nat) (ha:Bt k a) (hb:Bt k b) (hk:k<=1000000000000) (hv:v.natAbs<=2^24):Ev L 353 [.agg (eQ a++eQ b),.int .i64 v] (.agg (eQ (a*(v:Rat)+b))):=by
 have hO:=E2 N.toa6 v (by have:(2:Nat)^24=16777216:=rfl;omega);have hM:=F3 N.toa6 ha (Bt.ofInt hv) (by omega) (by omega);have hA:=HD N.toa6 (ha.mul (Bt.ofInt hv)) hb (by omega) (by omega);refine Ev.x N.MC rfl rfl ?_;(repeat' ((first|apply AE|refine AD (hO) ?_|refine AD (hM) ?_|refine AD (hA) ?_)<;>conv=>whnf))
 exact AW rfl (DH _)
def EV (C:List (List Rat)) (v:Nat):List Rat:=C.map λ c=>c.getD v 0
theorem nI (N:o0 L) (q q':Bool) (C:List (List Rat)) (v:Nat) (hl:C.length<=1000000) (hv : ∀ c∈C,v<c.length):Ev L 352 [.sl q (KF q' C),.int .i64 (v:Int)] (.sl false ((EV C v).map eQ)):=by
 refine Ev.x N.MO rfl rfl ?_;(repeat' ((first|apply AY|apply AE)<;>conv=>whnf))
 refine DP (enc:=eO) none C.length rfl rfl (by omega) ?_;(conv=>whnf)
 (repeat' (apply AY<;>conv=>whnf))
 refine CK (λ i=>C.length-i) (λ(i:Nat)=>i<=C.length) (λ i=>[(12,.int .i64 i)]) (λ i=>[(9,9,.rw 3 ((BW ((EV C v).take i) C.length).map eO))]) [] [] 0 (by rw[List.take_zero,RS];exact (by (conv=>whnf);exact ⟨rfl,rfl,rfl⟩)) (by omega) ?_;intro i p1 ih;have gp:(EV C v).length=C.length:=List.length_map _;have ft:((EV C v).take i).length=i:=by rw[List.length_take,gp];omega
 have zo:=HO (l:=(EV C v).take i) (m:=C.length) (by omega);by_cases hi:i<C.length
 ·obtain ⟨c,hc⟩ : ∃ c,C[i]? = some c:=⟨_,zE hi⟩
  have q6:C[(i:Int).toNat]? = some c:=hc;have u6:=hv c (zM hc);obtain ⟨x,hx⟩ : ∃ x,c[v]? = some x:=⟨_,zE u6⟩;have rn:c[(v:Int).toNat]? = some x:=hx;have hy:(EV C v)[i]? = some x:=by rw[EV,List.getElem?_map,hc,Option.map_some,List.getD_eq_getElem?_getD,hx];rfl
  have hs:=K5 (l:=(EV C v).take i) (m:=C.length) (x:=x) (by omega);rw[ft,<-IB hy]at hs;generalize BW ((EV C v).take i) C.length=F0 at *;(repeat' ((first|(apply AG<;>intro hc<;>try (exfalso;omega))|(apply A3;omega)|(refine BC (by assumption) ?_ rfl ?_;omega)|apply AE)<;>conv=>whnf))
  refine JA (enc:=eO) (some x) rfl (λ e=>by cases e<;>rfl) (by omega) ?_;(conv=>whnf)
  rw[hs];(repeat' ((first|(apply AR;omega)|fail)<;>conv=>whnf))
  exact BO [] (ih (i+1) (by omega) (by omega))
 obtain rfl:i=C.length:=by omega
 clear ih;rw[List.take_of_length_le (by omega),PU gp];(repeat' ((first|(apply AG<;>intro hc<;>try (exfalso;omega))|apply AE)<;>conv=>whnf))
 refine C3 (enc:=eQ) (λ_=>rfl) rfl (by omega) ?_;(conv=>whnf)
 skip
 exact AW rfl (by simp only[A4,true_and];exact KC _)
def SP (n:Nt) (ts:List (Int × Int)):Bool:=ts.all λ t=>decide (t.2%pw n.c.f=0)
def GX (n:Nt) (nd:Nd):Rat:=if SP n nd.ts=true then 0 else if n.d.r=2 then Rat.divInt 1 2 else 1
theorem Agz {n:Nt} {ts:List (Int × Int)} {i:Nat} {t:Int × Int} (h:ts[i]? = some t):SP n (ts.take (i+1))=(SP n (ts.take i)&&decide (t.2%pw n.c.f=0)):=by
 rw[List.take_add_one,h,Option.toList_some,SP,List.all_append];simp [SP]
theorem Uj (N:o0 L) (n:Nt) (hn:EB n) (k:Nat) (nd:Nd) (hnd:n.nodes[k]? = some nd):Ev L 350 [.agg (D9 n),.int .i64 (k:Int)] (.agg (eQ (GX n nd))):=by
 obtain ⟨h1,h2,⟨Jt,Ju,Jv,Jw⟩,h4,h5,h6⟩:=(GN n).1 hn.oh;have vy:=h2;unfold WV at vy;have qg:n.nodes[(k:Int).toNat]? = some nd:=hnd;have lf:=E2 N.toa6 0 (by omega);have nh:=E2 N.toa6 1 (by omega);have hF:=bY N.tov3 1 2 (by omega) (by omega) (by omega);rw[show ((0:Int):Rat)=0 from rfl]at lf;rw[show ((1:Int):Rat)=1 from rfl]at nh;have uy:=GF n.c.f;have hC:=hn.cf _ (zM hnd);have hki:=(zS hnd).1;have hL:nd.ts.length<=5:=by
  rcases hn.tl with h|⟨_,h⟩
  ·have:=h _ (zM hnd);omega
  ·exact h _ (zM hnd)
 refine Ev.x N.MN rfl rfl ?_;(repeat' ((first|(refine FN ?_ (λ_ _ => ?_);omega)|apply AY|(refine BC (by assumption) ?_ rfl ?_;omega)|apply AE)<;>conv=>whnf))
 refine EX (λ i _=>nd.ts.length-i) (λ(i:Nat) (b:Bool)=>i<=nd.ts.length/\b=SP n (nd.ts.take i)) (λ i b=>[(20,.int .i64 i),(6,.bool b)]) (λ_ _=>[]) [] [] 0 true (by (conv=>whnf);exact ⟨rfl,rfl,rfl⟩) ⟨by omega,by simp [SP]⟩ ?_;intro i b ⟨p1,p2⟩ ih;by_cases hi:i<nd.ts.length
 ·obtain ⟨t,ht⟩ : ∃ t,nd.ts[i]? = some t:=⟨_,zE hi⟩
  have jq:nd.ts[(i:Int).toNat]? = some t:=ht;have hw:=Agz (n:=n) ht;rw[<-p2]at hw;by_cases hz:t.2%pw n.c.f=0
  ·rw[decide_eq_true hz,Bool.and_true]at hw
   (repeat' ((first|(apply AG<;>intro hc<;>try (exfalso;omega))|(apply AR;omega)|(refine QA ?_ (λ_ _ _ => ?_) (λ_ _ _ _ => ?_);omega;all_goals try (exfalso;omega))|(refine BC (by assumption) ?_ rfl ?_;omega)|apply AE)<;>conv=>whnf))
   exact BO [] (ih (i+1) b (by omega) ⟨by omega,hw.symm⟩)
  ·rw[decide_eq_false hz,Bool.and_false]at hw
   (repeat' ((first|(apply AG<;>intro hc<;>try (exfalso;omega))|(apply AR;omega)|(refine QA ?_ (λ_ _ _ => ?_) (λ_ _ _ _ => ?_);omega;all_goals try (exfalso;omega))|(refine BC (by assumption) ?_ rfl ?_;omega)|apply AE)<;>conv=>whnf))
   all_goals exact BO [] (ih (i+1) false (by omega) ⟨by omega,hw.symm⟩)
 have ei:i=nd.ts.length:=by omega
 clear ih;rw[ei,List.take_length]at p2;cases b
 ·by_cases hr:n.d.r=2
  ·have e:GX n nd=Rat.divInt 1 2:=by rw[GX,<-p2,if_neg (by decide),if_pos hr]
   rw[e];(repeat' ((first|(apply AG<;>intro hc<;>try (exfalso;omega))|apply AE|refine AD (hF) ?_)<;>conv=>whnf))
   exact AW rfl (DH _)
  ·have e:GX n nd=1:=by rw[GX,<-p2,if_neg (by decide),if_neg hr]
   rw[e];(repeat' ((first|(apply AG<;>intro hc<;>try (exfalso;omega))|apply AE|refine AD (nh) ?_)<;>conv=>whnf))
   exact AW rfl (DH _)
 ·have e:GX n nd=0:=by rw[GX,<-p2,if_pos rfl]
  rw[e];(repeat' ((first|(apply AG<;>intro hc<;>try (exfalso;omega))|apply AE|refine AD (lf) ?_)<;>conv=>whnf))
  exact AW rfl (DH _)
end Go.b7

namespace Go.b7
set_option maxHeartbeats 2000000
structure CI where
 g:List Rat
 l:Rat
 b:List Rat
def E8 (n:Nt):List (List Rat):=(List.range n.s.toNat).map λ j=>H4 n (1+j)
def aN (n:Nt):List (List Rat):=n.next.map λ v=>EV (E8 n) v.toNat
def S1 (n:Nt) (g:List Rat):List Rat:=n.next.map λ v=>g.getD v.toNat 0
def FL (n:Nt) (i:Nat) (l:Rat):CI:=⟨H4 n i,l,S1 n (H4 n i)⟩
def WC (n:Nt) (k:Nat):Option CI:=match n.nodes[k]? with
 | some nd=>if 0<GX n nd then some (FL n (1+n.s.toNat+k) (GX n nd)) else none
 | none=>none
def DK (n:Nt) (k:Nat):List CI:=(List.range k).filterMap (WC n)
def o6 (n:Nt):List CI:=FL n 0 1::DK n n.nodes.length
theorem tU (n:Nt) (k:Nat):DK n (k+1)=DK n k++(WC n k).toList:=by
 rw[DK,List.range_succ,List.filterMap_append];congr 1
theorem ZC (n:Nt) : ∀ k,(DK n k).length<=k
 | 0=>by simp [DK]
 | k+1=>by
  rw[tU,List.length_append];have:=ZC n k
  cases WC n k<;>simp<;>omega
theorem Yz (n:Nt) (nd:Nd):GX n nd=0\/GX n nd=Rat.divInt 1 2\/GX n nd=1:=by
 unfold GX;split
 ·exact Or.inl rfl
 ·split
  ·exact Or.inr (Or.inl rfl)
  ·exact Or.inr (Or.inr rfl)
theorem dL (n:Nt) (nd:Nd):Bt 1 (GX n nd)/\0<=GX n nd:=by
 rcases Yz n nd with h|h|h<;>rw[h]<;>exact ⟨⟨by decide,by decide⟩,by decide⟩
theorem X4 {n:Nt} (hn:EB n) (fr:Nat):(H4 n fr).length=n.s.toNat+1+n.nodes.length:=by
 obtain ⟨_,_,⟨h,_⟩,_⟩:=(GN n).1 hn.oh;rw[H4,X5,T9];simp [CW];omega
theorem oP {n:Nt} (hn:EB n) (fr:Nat):Bs 40000 (H4 n fr):=by
 obtain ⟨_,h2,⟨h,_⟩,_⟩:=(GN n).1 hn.oh;unfold WV at h2;have hu:Bt 24 (Rat.divInt 1 (pw n.c.f)):=by
  have e1:=GF n.c.f;have e2:=JI (n:=n.c.f) (m:=23) (by omega);have e3:pw 23=8388608:=by unfold pw;rfl
  obtain ⟨e,he⟩:=Int.eq_ofNat_of_zero_le (show 0<=pw n.c.f by omega);rw[he]at e2 ⊢;rw[Rat.divInt_ofNat];refine Bt.mk (by decide) ?_;show _<=16777216;omega
 have k6:(CW n).length=n.nodes.length:=by simp [CW]
 have:=cZ hn hu (ex:=(fr:Int)-(n.s+1)) (w:=D4 (n.s+1).toNat fr) (Bs.unit _ _ _) n.nodes.length (Nat.le_refl _)
 rwa [<-k6,List.take_length]at this
structure PJ (n:Nt) (s:CI):Prop where
 gl:s.g.length=n.s.toNat+1+n.nodes.length
 gb:Bs 40000 s.g
 lb:Bt 1 s.l
 l0:0<=s.l
 b:s.b=S1 n s.g
theorem tT {n:Nt} (hn:EB n) (i:Nat) {l:Rat} (hl:Bt 1 l) (h0:0<=l):PJ n (FL n i l):=⟨X4 hn i,oP hn i,hl,h0,rfl⟩
theorem Zs {n:Nt} (hn:EB n) {k:Nat} : ∀ s∈DK n k,PJ n s:=by
 intro s hs;simp only[DK,List.mem_filterMap,WC]at hs;obtain ⟨j,_,hj⟩:=hs;cases h:n.nodes[j]? with
 | none=>rw[h]at hj;cases hj
 | some nd =>
  simp only[h]at hj;by_cases hp:0<GX n nd
  ·rw[if_pos hp,Option.some.injEq]at hj
   rw[<-hj];exact tT hn _ (dL n nd).1 (dL n nd).2
  ·rw[if_neg hp]at hj;cases hj
theorem Zr {n:Nt} (hn:EB n):PJ n (FL n 0 1):=tT hn 0 ⟨by decide,by decide⟩ (by decide)
theorem T5 {n:Nt} (hn:EB n) : ∀ s∈o6 n,PJ n s:=by
 intro s hs;rcases List.mem_cons.1 hs with rfl|hs
 ·exact Zr hn
 ·exact Zs hn s hs
theorem tV {n:Nt} (hn:EB n):1<=(o6 n).length/\(o6 n).length<=6:=by
 have:=ZC n n.nodes.length
 have:=hn.nl
 simp only[o6,List.length_cons];omega
theorem VI {k:Nat} {l:List Rat} (h:Bs k l) (i:Nat):Bt k (l.getD i 0):=by
 rw[List.getD_eq_getElem?_getD];cases e:l[i]? with
 | none=>exact Bt.zero k
 | some x=>exact h.at e
theorem YG {n:Nt} (hn:EB n):n.next.length=n.s.toNat /\ ∀ v∈n.next,0<=v/\v.toNat<n.s.toNat+1+n.nodes.length:=by
 obtain ⟨_,_,⟨h1,h2,h3,h4⟩,_,h5,_⟩:=(GN n).1 hn.oh;refine ⟨by omega,λ v hv => ?_⟩;have:=of_decide_eq_true (List.all_eq_true.1 h5 v hv)
 omega
theorem zQ {n:Nt} (hn:EB n) (g:List Rat):(S1 n g).length=n.s.toNat:=by
 rw[S1,List.length_map];exact (YG hn).1
theorem zP {n:Nt} {k:Nat} {g:List Rat} (hg:Bs k g):Bs k (S1 n g):=by
 intro x hx;obtain ⟨v,_,rfl⟩:=List.mem_map.1 hx;exact VI hg _
theorem PJ.bl {n:Nt} {s:CI} (hn:EB n) (h:PJ n s):s.b.length=n.s.toNat:=by rw[h.b];exact zQ hn _
theorem PJ.bb {n:Nt} {s:CI} (h:PJ n s):Bs 40000 s.b:=by rw[h.b];exact zP h.gb
theorem XG (n:Nt):(E8 n).length=n.s.toNat:=by simp [E8]
theorem Pv {n:Nt} {j:Nat} (h:j<n.s.toNat):(E8 n)[j]? = some (H4 n (1+j)):=by
 rw[E8,List.getElem?_map,List.getElem?_range h];rfl
theorem kU {n:Nt} (hn:EB n) : ∀ c∈E8 n,c.length=n.s.toNat+1+n.nodes.length:=by
 intro c hc;obtain ⟨j,_,rfl⟩:=List.mem_map.1 hc;exact X4 hn _
theorem sK (n:Nt) (v:Nat):(EV (E8 n) v).length=n.s.toNat:=by rw[EV,List.length_map,XG]
theorem sJ {n:Nt} (hn:EB n) (v:Nat):Bs 40000 (EV (E8 n) v):=by
 intro x hx;obtain ⟨c,hc,rfl⟩:=List.mem_map.1 hx;obtain ⟨j,_,rfl⟩:=List.mem_map.1 hc;exact VI (oP hn _) _
theorem SZ {n:Nt} (hn:EB n):Sq n.s.toNat (aN n):=by
 refine ⟨by rw[aN,List.length_map];exact (YG hn).1,λ r hr => ?_⟩;obtain ⟨v,_,rfl⟩:=List.mem_map.1 hr;exact sK n _
theorem jF {n:Nt} (hn:EB n):Ms 40000 (aN n):=by
 intro r hr;obtain ⟨v,_,rfl⟩:=List.mem_map.1 hr;exact sJ hn _
theorem vH {n kA kB:Nat} {a:List (List Rat)} {b:List Rat} {D E:Rat} (hs:Sq n a) (hA : ∀ r∈B6 D a,∀ x∈r,Wh kA x) (hB : ∀ x∈b.map (· * E),Wh kB x) : ∀ j,∀ x∈C2 a b D E j,Wh (kB+j*(kA+n)) x
 | 0=>by
  rw[ZN];intro x hx;exact (hB x hx).le (by omega)
 | j+1=>by
  rw[ZM];intro x hx;refine (vA hA (Y6 _ hs.r) (vH hs hA hB j) x hx).le ?_;simp only[Nat.succ_mul];omega
theorem cR {n:Nat} : ∀ {ls:List (List Rat)},(∀ r∈ls,r.length=n)->ls.flatten.length=ls.length*n
 | [],_=>by simp
 | r::l,h=>by
  rw[List.flatten_cons,List.length_append,cR λ x hx=>h x (List.mem_cons_of_mem _ hx),h r List.mem_cons_self,List.length_cons,Nat.succ_mul,Nat.add_comm]
def S6 (n:Nt):Rat:=F7 ((o6 n).map (·.b)).flatten
theorem Pw {n:Nt} (hn:EB n) : ∃ E:Nat,S6 n=(E:Rat)/\0<E/\Bt 960000 (E:Rat) /\ ∀ s∈o6 n,∀ x∈s.b.map (· * (E:Rat)),Wh 1000000 x:=by
 have hl:((o6 n).map (·.b)).flatten.length<=24:=by
  have h1:=(tV hn).2;have h2:=hn.st;rw[cR (n:=n.s.toNat) (λ r hr=>by obtain ⟨s,hs,rfl⟩:=List.mem_map.1 hr;exact (T5 hn s hs).bl hn),List.length_map];exact Nat.le_trans (Nat.mul_le_mul h1 (show n.s.toNat<=4 by omega)) (by omega)
 have hb:Bs 40000 ((o6 n).map (·.b)).flatten:=by
  intro x hx;obtain ⟨r,hr,hx⟩:=List.mem_flatten.1 hx;obtain ⟨s,hs,rfl⟩:=List.mem_map.1 hr;exact (T5 hn s hs).bb x hx
 obtain ⟨E,e1,e2,e3,e4⟩:=X9 rfl hb;refine ⟨E,e1,e2,(R4 e3).le (by omega),λ s hs x hx => ?_⟩;obtain ⟨y,hy,rfl⟩:=List.mem_map.1 hx;exact (e4 _ (List.mem_map.2 ⟨y,List.mem_flatten.2 ⟨s.b,List.mem_map.2 ⟨s,hs,rfl⟩,hy⟩,rfl⟩)).le (by omega)
theorem sY {n:Nt} (hn:EB n) : ∃ D E:Nat,F7 (aN n).flatten=(D:Rat)/\S6 n=(E:Rat)/\0<D/\0<E/\Bt 640000 (D:Rat)/\Bt 960000 (E:Rat)/\Ms 680000 (B6 (D:Rat) (aN n)) /\ ∀ s∈o6 n,∀ j,j<=128->Bs 90000000 (C2 (aN n) s.b (D:Rat) (E:Rat) j):=by
 obtain ⟨D,d1,d2,d3,d4⟩:=gE (SZ hn) (jF hn);obtain ⟨E,e1,e2,e3,e4⟩:=Pw hn;have j9:=hn.st;have yc:n.s.toNat*n.s.toNat<=4*4:=Nat.mul_le_mul (by omega) (by omega);have Cc:n.s.toNat*n.s.toNat*40000<=640000:=Nat.le_trans (Nat.mul_le_mul_right 40000 yc) (by omega);refine ⟨D,E,d1,e1,d2,e2,(R4 d3).le Cc,e3,λ r hr x hx=>((d4 r hr x hx).le (by omega)).bt,λ s hs j hj x hx => ?_⟩;have hA : ∀ r∈B6 (D:Rat) (aN n),∀ x∈r,Wh 680000 x:=λ r hr x hx=>(d4 r hr x hx).le (by omega)
 refine ((vH (SZ hn) hA (e4 s hs) j x hx).le ?_).bt;have:=Nat.mul_le_mul hj (show 680000+n.s.toNat<=680004 by omega)
 omega
def w8 (f:CI->Rat) (l:List CI):Rat:=l.foldl (λ a s=>a+f s) 0
theorem Zi (f:CI->Rat) (l:List CI) (s:CI):w8 f (l++[s])=w8 f l+f s:=by rw[w8,List.foldl_append];rfl
theorem YA {f:CI->Rat} {l:List CI} {i:Nat} {s:CI} (h:l[i]? = some s):w8 f (l.take (i+1))=w8 f (l.take i)+f s:=by
 rw[List.take_add_one,h,Option.toList_some,Zi]
theorem Zg {f g:CI->Rat} {l:List CI} (h : ∀ s∈l,f s=g s):w8 f l=w8 g l:=by
 have : ∀ (l:List CI) (a:Rat),(∀ s∈l,f s=g s)->l.foldl (λ a s=>a+f s) a=l.foldl (λ a s=>a+g s) a:=by
  intro l;induction l with
  | nil=>intro a _;rfl
  | cons s l ih =>
   intro a h;rw[List.foldl_cons,List.foldl_cons,h s List.mem_cons_self];exact ih _ λ x hx=>h x (List.mem_cons_of_mem _ hx)
 exact this l 0 h
theorem Zh (f g:CI->Rat) (l:List CI) (d:Rat):w8 f l+w8 g l/d=w8 (λ s=>f s+g s/d) l:=by
 have : ∀ (l:List CI) (a b c:Rat),a+b/d=c->l.foldl (λ a s=>a+f s) a+l.foldl (λ a s=>a+g s) b/d=l.foldl (λ a s=>a+(f s+g s/d)) c:=by
  intro l;induction l with
  | nil=>intro a b c h;exact h
  | cons s l ih =>
   intro a b c h;refine ih _ _ _ ?_;show a+f s+(b+g s)/d=c+(f s+g s/d);rw[<-h,Rat.div_def,Rat.div_def,Rat.div_def,Rat.add_mul];grind
 exact this l 0 0 0 (by rw[Rat.div_def,Rat.zero_mul,Rat.add_zero])
theorem qH {f:CI->Rat} {k:Nat} {l:List CI} (h : ∀ s∈l,Bt k (f s)):Bt (l.length*(k+1)) (w8 f l):=by
 have : ∀ (l:List CI) (a:Rat) (m:Nat),(∀ s∈l,Bt k (f s))->Bt m a->Bt (m+l.length*(k+1)) (l.foldl (λ a s=>a+f s) a):=by
  intro l;induction l with
  | nil=>intro a m _ h;simpa using h
  | cons s l ih =>
   intro a m h1 h2;have:=ih (a+f s) (m+k+1) (λ x hx=>h1 x (List.mem_cons_of_mem _ hx)) (h2.add (h1 s List.mem_cons_self))
   exact this.le (by rw[List.length_cons,Nat.succ_mul];omega)
 have:=this l 0 0 h (Bt.zero 0)
 rwa [Nat.zero_add]at this
def O7 (n:Nt) (s:CI) (v:Nat):IH:=⟨aN n,s.b,EV (E8 n) v,s.g.getD v 0⟩
def JW (n:Nt) (p v:Nat):Rat:=KQ (O7 n (FL n 0 1) v) p
def H8 (n:Nt) (p v:Nat):Rat:=w8 (λ s=>s.l*KQ (O7 n s v) p) (DK n n.nodes.length)
theorem Age (S:IH) (p:Nat):0<=KQ S p:=by
 have h1:=aA S.d;have h2:=gU (f:=QN S.a S.b S.c) (λ j=>aA _) (p+p);have h3:=gU (f:=λ j=>QQ S.a S.b (p+j)) (λ j=>Wm _) p;have h4:=Rat.mul_nonneg (sW S.c) h3;rw[KQ];grind
theorem Afn (n:Nt) (p v:Nat):0<=JW n p v:=Age _ _
end Go.b7

namespace Go.b7
open F
set_option maxHeartbeats 8000000
variable {L:Lib}
def RA (M:Mem):Mem->Prop
 | []=>True
 | (k,s,c)::r=>c7 M k=some (s,c)/\RA M r
theorem RA.get {M:Mem} : ∀ {M0:Mem},RA M M0 -> ∀ k s c,c7 M0 k=some (s,c)->c7 M k=some (s,c)
 | [],_,_,_,_,e=>by cases e
 | (i,s0,c0)::r,h,k,s,c,e=>by
  simp only[c7]at e;cases hb:Nat.beq k i<;>simp only[hb,cond_true,cond_false]at e
  ·exact RA.get h.2 k s c e
  ·rw[BJ.1 hb,<-e];exact h.1
theorem IG.sub {σ:FG} {own:AH} {M M0:Mem} (h:IG σ own M) (hm:RA M M0):IG σ own M0:=by
 have hr : ∀ k t c,c5 M0 k t=some c->c5 M k t=some c:=λ k t c e=>by
  obtain ⟨s,c0,g,_⟩:=JG e;have g2:=hm.get k s c0 g;unfold c5 at e ⊢;rw[g]at e;rw[g2];exact e
 exact ⟨λ k s c e=>h.site k s c (hm.get k s c e),λ k t c e=>h.c9 k t c (hr k t c e),λ k t c e=>h.old k t c (hr k t c e),λ k t k' t' c c' e e'=>h.inj k t k' t' c c' (hr k t c e) (hr k' t' c' e'),λ k t c e=>h.low k t c (hr k t c e)⟩
theorem ZS {f:Nat} {vs:List AV} {tm:Tm} {M:Mem} {K:AV->Mem->Prop} (h:A1 L f vs tm M λ r M' => ∃ M1,RA M' M1/\K r M1):A1 L f vs tm M K:=by
 intro σ own hs;obtain ⟨r,l6,σ',M',h1,h2,h3,M1,h4,h5⟩:=h σ own hs;exact ⟨r,l6,σ',M1,h1,h2.sub h4,h3,h5⟩
def YM (ks:List Nat):AV->Bool
 | .row k t _ _ _=>Nat.beq t 0&&JS k ks
 | .ptr k t _ _=>Nat.beq t 0&&JS k ks
 | _=>true
def VY (ks:List Nat):List AV->Bool
 | []=>true
 | v::r=>YM ks v&&VY ks r
def eL (ks:List Nat):AV->Bool
 | .agg cs=>VY ks cs
 | .fn _ _ _ cs=>VY ks cs
 | v=>YM ks v
def YN (ks:List Nat):List AV->Bool
 | []=>true
 | v::r=>eL ks v&&YN ks r
def eN (ks:List Nat):AV->Bool
 | .g8 vs=>YN ks vs
 | v=>eL ks v
def YO (ks:List Nat):Tm->Bool
 | []=>true
 | (_,v)::r=>eN ks v&&YO ks r
theorem qJ {k:Nat} : ∀ {l:List Nat},JS k l=true->k∈l
 | [],h=>by cases h
 | j::r,h=>by
  simp only[JS]at h;cases hb:Nat.beq k j<;>simp only[hb,cond_true,cond_false]at h
  ·exact List.mem_cons_of_mem _ (qJ h)
  ·rw[BJ.1 hb];exact List.mem_cons_self
section
variable {ks:List Nat} {σ σ':FG} (hs : ∀ k∈ks,σ' k 0=σ k 0)
include hs
theorem WE {v:AV} (h:YM ks v=true):A6 σ' v=A6 σ v:=by
 cases v<;>try rfl
 all_goals
  simp only[YM,Bool.and_eq_true]at h;have h1:=BJ.1 h.1;have h2:=hs _ (qJ h.2);subst h1;simp only[A6,h2]
theorem gS : ∀ {l:List AV},VY ks l=true->l.map (A6 σ')=l.map (A6 σ)
 | [],_=>rfl
 | v::r,h=>by
  simp only[VY,Bool.and_eq_true]at h;rw[List.map_cons,List.map_cons,WE hs h.1,gS h.2]
theorem gQ {v:AV} (h:eL ks v=true):BK σ' v=BK σ v:=by
 cases v with
 | agg cs=>simp only[BK];rw[gS hs h]
 | fn p f g cs=>simp only[BK];rw[gS hs h]
 | row k t z o n=>exact WE hs (v := .row k t z o n) h
 | ptr k t i j=>exact WE hs (v := .ptr k t i j) h
 | _=>rfl
theorem tY : ∀ {l:List AV},YN ks l=true->l.map (BK σ')=l.map (BK σ)
 | [],_=>rfl
 | v::r,h=>by
  simp only[YN,Bool.and_eq_true]at h;rw[List.map_cons,List.map_cons,gQ hs h.1,tY h.2]
theorem Zu {v:AV} (h:eN ks v=true):A8 σ' v=A8 σ v:=by
 cases v with
 | g8 vs=>simp only[A8];rw[tY hs h]
 | agg cs=>exact gQ hs (v := .agg cs) h
 | fn p f g cs=>exact gQ hs (v := .fn p f g cs) h
 | row k t z o n=>exact WE hs (v := .row k t z o n) h
 | ptr k t i j=>exact WE hs (v := .ptr k t i j) h
 | _=>rfl
end
theorem rM {ks:List Nat} : ∀ {tm:Tm},YO ks tm=true -> ∀ j,eN ks (tg tm j)=true
 | [],_,_=>rfl
 | (i,v)::r,h,j=>by
  simp only[YO,Bool.and_eq_true]at h;simp only[tg];cases hb:Nat.beq j i<;>simp only[cond_true,cond_false]
  ·exact rM h.2 j
  ·exact h.1
def WM:Nat->List Nat->Tm
 | _,[]=>[]
 | i,k::r=>(i,.ptr k 0 0 0)::WM (i+1) r
abbrev WN (ks:List Nat):Tm:=WM 0 ks
theorem uM : ∀ {ks:List Nat} {i k:Nat},k∈ks -> ∃ j,i<=j/\tg (WM i ks) j = .ptr k 0 0 0
 | [],_,_,h=>by cases h
 | j::r,i,k,h=>by
  rcases List.mem_cons.1 h with rfl|e
  ·exact ⟨i,Nat.le_refl _,by simp [WM,tg]⟩
  ·obtain ⟨a,h1,h2⟩:=uM (i:=i+1) e
   refine ⟨a,by omega,?_⟩;simp only[WM,tg];rw[FH.2 (show a≠i by omega),cond_false];exact h2
theorem UF {f:Nat} {vs:List AV} {tm:Tm} {M:Mem} {K:AV->Mem->Prop} (ks:List Nat) (M0:Mem) (hm:RA M M0) (ht:YO ks tm=true) (h:A1 L f vs (WN ks) M0 K):A1 L f vs tm M K:=by
 intro σ own hs;obtain ⟨r,l6,σ',M',h1,h2,h3,h4⟩:=h σ own (hs.sub hm);refine ⟨r,l6,σ',M',h1,h2,λ j => ?_,h4⟩;refine Zu (λ k hk => ?_) (rM ht j);obtain ⟨j,_,hj⟩:=uM (i:=0) hk;have:=h3 j
 rw[show tg (WN ks) j=_ from hj]at this;simp only[A8,BK,A6,AV.ptr.injEq]at this;exact Prod.ext this.1 this.2.1
abbrev JE (w:Bool) (P:CI->List (List Rat) × Rat) (s:CI):List AV :=
 .sl false (s.g.map eQ) :: .bool (decide (s.l.num<0)) :: .sl false ((dg s.l.num.natAbs).map AL) :: .sl false ((dg s.l.den).map AL)::(bif w then .sl true (PO (P s).1)::IQ true (P s).2 else [.nil,.bool false,.nil,.nil])
def JF (ss:List CI) (P:CI->List (List Rat) × Rat) (i:Nat):List (List AV):=(ss.take i).map (JE true P)++(ss.drop i).map (JE false P)
theorem Zo (ss:List CI) (P:CI->List (List Rat) × Rat):JF ss P 0=ss.map (JE false P):=by simp [JF]
theorem Zn (ss:List CI) (P:CI->List (List Rat) × Rat):JF ss P ss.length=ss.map (JE true P):=by simp [JF]
theorem jA {ss:List CI} {P:CI->List (List Rat) × Rat} {i:Nat} {s:CI} {K:List (List AV)->Prop} (hs:ss[i]? = some s) (hk:K (JF ss P (i+1))):AZ (JF ss P i) (0+((i:Int)).toNat) 4 (.sl true (PO (P s).1)::IQ true (P s).2) K:=by
 have hi:=(zS hs).1;have hl:((ss.take i).map (JE true P)).length=i:=by rw[List.length_map,List.length_take];omega
 have hg:(JF ss P i)[i]? = some (JE false P s):=by
  rw[JF,List.getElem?_append_right (by rw[hl];omega),hl,Nat.sub_self,List.getElem?_map,List.getElem?_drop,Nat.add_zero,hs];rfl
 rw[Nat.zero_add,Int.toNat_natCast];refine ⟨_,hg,Nat.le_refl 8,?_⟩;have:(JF ss P i).set i (splice (JE false P s) 4 (.sl true (PO (P s).1)::IQ true (P s).2))=JF ss P (i+1):=by
  have e1:splice (JE false P s) 4 (.sl true (PO (P s).1)::IQ true (P s).2)=JE true P s:=rfl;rw[e1,JF,JF,List.set_append_right _ _ (by rw[hl];omega),hl,Nat.sub_self,List.take_add_one,hs,List.map_append,List.append_assoc];congr 1;rw[List.drop_eq_getElem_cons hi,List.map_cons,List.set_cons_zero];have:ss[i]=s:=(zS hs).2
  rw[<-this];rfl
 rw[this];exact hk
def FZ (S:Nat) (T:List (List Rat)) (i:Nat):List (Option (Nat × List (List AV))):=if S=0 then List.replicate T.length none else mz T T.length i
theorem zO (S:Nat) (T:List (List Rat)):FZ S T 0=List.replicate T.length none:=by
 unfold FZ;split
 ·rfl
 ·exact rB T _
theorem zI {S:Nat} {T:List (List Rat)} {i:Nat} (hi:i<=T.length):(FZ S T i).length=T.length:=by
 unfold FZ;split
 ·exact List.length_replicate
 ·exact qZ hi
theorem zK {S:Nat} {T:List (List Rat)} {i:Nat} (hi:i<T.length):(FZ S T i)[i]? = some none:=by
 unfold FZ;split
 ·rw[List.getElem?_replicate,if_pos hi]
 ·have hl:(ET 3 eQ (T.take i)).length=i:=by simp only[ET,List.length_map,List.length_take];omega
  have:=Sr (z:=(none:Option (Nat × List (List AV)))) (l:=ET 3 eQ (T.take i)) (m:=T.length) (by omega)
  rw[hl]at this;exact this
theorem zN {S:Nat} {T:List (List Rat)} {i:Nat} {r:List Rat} (h0:S≠0) (h:T[i]? = some r):(FZ S T i).set i (some (3,r.map eQ))=FZ S T (i+1):=by
 rw[FZ,if_neg h0,FZ,if_neg h0];exact rA h (zS h).1
theorem zL {T:List (List Rat)} (i j:Nat):FZ 0 T i=FZ 0 T j:=by rw[FZ,FZ,if_pos rfl,if_pos rfl]
theorem zH {S:Nat} {T:List (List Rat)} (h0:S≠0):FZ S T T.length=ET 3 eQ T:=by rw[FZ,if_neg h0];exact qY rfl
theorem zJ (T:List (List Rat)) (i:Nat):FZ 0 T i=List.replicate T.length none:=by rw[FZ,if_pos rfl]
theorem sM (q:Bool) : ∀ n:Nat,O2 q (List.replicate n none)=List.replicate n [.sl false []]
 | 0=>rfl
 | n+1=>by rw[List.replicate_succ,List.replicate_succ];simp only[O2];rw[sM q n]
theorem xS {q:Bool} {n off len:Nat} {K:List (List AV)->Prop} (ho:off=0) (hl:len=n) (h:K (List.replicate n [.sl false []])):BV q (List.replicate n none) off len K:=by
 refine ⟨ho,by rw[List.length_replicate];exact hl,λ z es hm => ?_,by rw[sM];exact h⟩;have:=List.eq_of_mem_replicate hm
 cases this
theorem Qt (q:Bool) {T:List (List Rat)} (h : ∀ r∈T,r=[]):KF q T=List.replicate T.length [.sl q []]:=by
 refine List.eq_replicate_iff.2 ⟨by rw[List.length_map],λ x hx => ?_⟩;obtain ⟨r,hr,rfl⟩:=List.mem_map.1 hx;rw[h r hr];rfl
end Go.b7
