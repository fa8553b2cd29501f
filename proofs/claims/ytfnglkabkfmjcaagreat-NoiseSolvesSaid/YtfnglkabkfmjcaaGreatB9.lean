/-
  The references of natural numbers (ref01): division.
-/
import Derived.Test.YtfnglkabkfmjcaaGreatB8
import Derived.Test.YtfnglkabkfmjcaaGreatB4
import Derived.Test.YtfnglkabkfmjcaaGreatB7
set_option linter.unusedSimpArgs false
set_option linter.unusedVariables false
set_option linter.unnecessarySimpa false
namespace Go.c5
open F
attribute [local irreducible] AA AF AM AC CI AW AX A5 A6 B3 AQ BS B7 C5 BQ A2 BO B9 AB A9 AJ pw BN BG CH CM CT CP CE BU CK
set_option maxHeartbeats 4000000
variable {L:Lib}
theorem Agt {V R y d t Q:Nat} (h:Q*y+R=V) (ht:t=R*4294967296+d):(t/y+4294967296*Q)*y+t%y=d+4294967296*V:=by
 have:=Nat.div_add_mod t y
 rw[<-h,Nat.add_mul];have e:t/y*y=y*(t/y):=Nat.mul_comm _ _;grind
theorem Wu (N:a9 L) (x:List Nat) (Y:Nat) (q:Bool) (d1:A1 x) (hx:x.length<=549755813888) (h0:Y≠0) (hY:Y<4294967296):Ev L 108 [.sl q (x.map AL),.int .u32 (Y:Int)] (.g7 [.sl false ((dg (val x/Y)).map AL),.int .u32 ((val x%Y:Nat):Int)]):=by
 refine Ev.x N.MU rfl rfl ?_;(repeat' ((first|apply AR|apply AD)<;>conv=>whnf))
 refine EX (enc:=AL) 0 x.length rfl (by omega) (by omega) ?_;(conv=>whnf)
 (repeat' ((first|(apply B6;omega)|apply AR)<;>conv=>whnf))
 refine GE (λ n _ _=>n) (λ(n:Nat) (o:List Nat) (r:Nat)=>n<=x.length/\o.length=x.length/\A1 o/\r<Y/\val (o.drop n)*Y+r=val (x.drop n)) (λ n o r=>[(7,.int .u64 (r:Int)),(8,.int .i64 ((n:Int)-1))]) (λ n o r=>[(11,11,.rw 1 (o.map AL))]) [] [] x.length (List.replicate x.length 0) 0 (by (conv=>whnf);exact ⟨rfl,rfl,rfl⟩) ⟨by omega,by simp,IO _,by omega,by rw[List.drop_of_length_le (Nat.le_refl _),List.drop_of_length_le (by simp)];simp [val]⟩ ?_;intro n o r ⟨p1,p2,p3,p4,p5⟩ ih;rcases n with _|n
 ·rw[List.drop_zero,List.drop_zero]at p5
  have hq:val x/Y=val o/\val x%Y=r:=by
   rw[<-p5];have e1:(val o*Y+r)/Y=val o:=by
    rw[Nat.mul_comm,Nat.mul_add_div (by omega),Nat.div_eq_of_lt p4,Nat.add_zero]
   have e2:(val o*Y+r)%Y=r:=by
    rw[Nat.mul_comm,Nat.mul_add_mod,Nat.mod_eq_of_lt p4]
   exact ⟨e1,e2⟩
  have hT:=λ q=>FX N o q p3 (by omega)
  rw[hq.1,hq.2,<-p2];clear ih hq p5;(repeat' ((first|(apply AG<;>intro hc<;>try (exfalso;omega))|(apply EE;omega)|(refine DL (λ_=>rfl) rfl ?_ ?_;(first|rfl|simp))|apply AD|refine AE (hT _) ?_)<;>conv=>whnf))
  refine AZ rfl ?_;simp only[A4,CW,and_true,true_and];exact CQ _
 ·have e1:((n+1:Nat):Int)-1=n:=by omega
  rw[e1];obtain ⟨d,hd⟩ : ∃ d,x[n]? = some d:=⟨_,zE (by omega)⟩;have bm:=d1.at hd;have hR:r*4294967296+d<Y*4294967296:=by omega
  have fe:(r*4294967296+d)/Y<4294967296:=(Nat.div_lt_iff_lt_mul (by omega)).2 (by omega);(repeat' ((first|(apply AG<;>intro hc<;>try (exfalso;omega))|(apply AY;omega)|(apply OE;omega)|(apply O6;omega)|(apply XB;omega;omega)|(apply CR;omega)|(apply EE;omega)|(refine BC (by assumption) ?_ rfl ?_;omega)|apply AD)<;>conv=>whnf))
  obtain ⟨t,ht⟩ : ∃ t,t=r*4294967296+d:=⟨_,rfl⟩;rw[<-ht]at hR fe ⊢;have hm:t%Y<Y:=Nat.mod_lt _ (by omega);have j6:=Agt p5 ht;rw[<-G4 hd]at j6;clear ht;skip
  refine E7 (by omega) ?_;(conv=>whnf)
  (repeat' ((first|(apply B6;omega)|(apply UK;omega)|(apply CR;omega))<;>conv=>whnf))
  generalize t/Y=tq at *;generalize t%Y=tr at *;refine BZ [] (by (conv=>whnf);exact ⟨rfl,rfl,rfl⟩) (ih n _ _ (by omega) ⟨by omega,by simpa using p2,p3.set _ (by omega),hm,?_⟩);rw[G4 (l:=o.set n tq) (d:=tq) (by rw[List.getElem?_set_self (by omega)]),List.drop_set_of_lt (by omega)];exact j6
theorem X0 (a b:List Nat) (e:Int):A4 (.g7 [.sl false (a.map AL),.sl false (b.map AL),.int .i64 e]):=by
 simp only[A4,CW,and_true,true_and];exact ⟨CQ a,CQ b⟩
abbrev Rw:List It:=[It.lp DS.l1,It.e8 0,
   It.code
    (((BI.ops DS.w4 false).dr [0,75,79,80] []).seq
     (((BI.ops DS.y9 false).dr [81,82,83,84,85] []).seq
      ((((BI.ops DS.ak false).dr [86,87,88,89,90] []).seq
         (BI.block 2 DS.l2.loop)).seq
       (((BI.ops DS.Nk true).dr [9,10,11,12,13,14,92,277,278,279,280,281,282,283,284]
          []).seq
        BI.ret))))]
abbrev YA:List It:=[It.lp DS.l2,It.e8 2,It.code
       (((BI.ops DS.Nk true).dr [9,10,11,12,13,14,92,277,278,279,280,281,282,283,284]
          []).seq
        BI.ret)]
abbrev YB (v:List Nat) (s ul m:Nat) (j:Int):Tm:=[(14,.int .i64 j),(13,.row 85 0 1 0 m),(12,.int .i64 v.length),(11,.sl false (v.map AL)),(10,.row 69 0 1 0 ul),(9,.int .i64 (s:Int))]
abbrev Rv:BI:=(((BI.ops DS.Ia false).dr [18,19,20,166,205,206,207] []).seq
                (((BI.ops DS.Qz false).dr [208,209,210,211,212,213,214] []).seq
                 ((BI.ops DS.Ra false).seq
                  ((((BI.ops DS.Rb false).dr [215,216] []).seq
                     (BI.cond 217
                      (((BI.ops DS.Rc false).dr [18,217,218,219] []).seq
                       (BI.ops DS.Re false))
                      BI.skip)).seq
                   (((BI.ops DS.Rf false).dr
                      [23,24,217,220,221,222,223,224,225,226,227,228] []).seq
                    ((((BI.ops DS.Rg false).dr [18,229] []).seq
                       (BI.cond 230
                        (((BI.ops DS.Rh false).dr [230,231,232] []).seq
                         ((BI.ops DS.Ri false).seq
                          (((BI.ops DS.Rj false).seq
                             (BI.block 8 DS.l5.loop)).seq
                           ((BI.ops DS.Rk false).dr
                            [25,26,235,262,263,264,265,266,267,268,269,270,271]
                            []))))
                        BI.skip)).seq
                     ((BI.ops DS.Rl false).dr [16,230,272,273,274,275,276]
                      [])))))))
abbrev Rx:List It:=It.lp DS.l4::It.e8 6::It.code Rv::It.e8 3::It.code ((BI.ops DS.bf false).dr [93,94] [])::YA
section
variable {A W C w y:List Nat} {j m s ul q:Nat} {Q:Tm->Mem->Prop}
theorem SE {e i n:Nat} (hi:i=A.length+n) (he:W[n]? = some e):(A++W++C)[i]? = some e:=by
 rw[vC hi (zS he).1];exact he
theorem bU (hA:A.length=j) (hW:W.length=y.length+1) (D2:A1 W) (ew:A1 y) (fw:2<=y.length) (ur:y.length<=549755813888) (y8:0<val y) (aj:j<=1099511627776)
  (ig:ul=j+(y.length+1)+C.length) (Hx:w.length=m) (Hj:j<m)
  (r1:q<4294967296) (r2:val W/val y<=q) (r3:q<=val W/val y+1)
  (hk : ∀ (W':List Nat) (q':Nat),W'.length=y.length+1->A1 W'->val W'=val W%val y->q'=val W/val y->AA L YA (YB y s ul m ((j:Int)-1)) [(69,101021,.rw 1 ((A++W'++C).map AL)),(85,85,.rw 1 ((w.set j q').map AL))] Q) :
  AA L Rx ([(20,.int .i64 0),(19,.int .u64 0),(18,.int .u64 0),(16,.int .u64 (q:Int))]++YB y s ul m (j:Int)) [(69,101021,.rw 1 ((A++W++C).map AL)),(85,85,.rw 1 (w.map AL))] Q:=by
 refine Z8 (λ i _ _ _=>y.length-i) (λ(i:Nat) (Z:List Nat) (c b:Nat)=>i<=y.length/\Z.length=y.length+1/\A1 Z/\c<4294967296/\b<=1/\Z.drop i=W.drop i/\val (Z.take i)+q*val (y.take i)=val (W.take i)+4294967296^i*(c+b)) (λ i Z c b=>[(20,.int .i64 i),(18,.int .u64 (b:Int)),(19,.int .u64 (c:Int))]) (λ i Z c b=>[(69,101021,.rw 1 ((A++Z++C).map AL))]) [] [] 0 W 0 0 (by (conv=>whnf);exact ⟨rfl,rfl,rfl⟩) ⟨by omega,hW,D2,by omega,by omega,rfl,by simp [val]⟩ ?_;intro i Z c b ⟨p1,p2,p3,p4,p5,p6,p7⟩ ih;by_cases hi:i<y.length
 ·obtain ⟨d,hd⟩ : ∃ d,y[i]? = some d:=⟨_,zE hi⟩
  obtain ⟨u,hu⟩ : ∃ u,Z[i]? = some u:=⟨_,zE (by omega)⟩;have bm:=ew.at hd;have mq:=p3.at hu;have Hr:(A++Z++C)[((i:Int)+(j:Int)).toNat]? = some u:=SE (by omega) hu;obtain ⟨pr,rz⟩ : ∃ pr,pr=c+q*d:=⟨_,rfl⟩;obtain ⟨m1,m2,m3⟩:=qO r1 bm p4 (show pr=q*d+c by omega);have wq:W[i]? = some u:=by
   have e1:(Z.drop i)[0]? = (W.drop i)[0]? := by rw[p6]
   simpa [hu] using e1.symm
  have om : ∀ w,(Z.set i w).drop (i+1)=W.drop (i+1):=λ w=>by
   rw[List.drop_set_of_lt (by omega)];have e1:(Z.drop i).drop 1=(W.drop i).drop 1:=by rw[p6]
   simpa using e1
  have j6 : ∀ have' take w bq,take=pr%4294967296+b->((have'=u/\bq=0/\take<=u)\/(have'=u+4294967296/\bq=1/\u<take))->w+take=have'->val ((Z.set i w).take (i+1))+q*val (y.take (i+1))=val (W.take (i+1))+4294967296^(i+1)*(pr/4294967296+bq):=λ have' take w bq a1 a2 a3=>by
   rw[FS (by omega),D8 hd,D8 wq,Nat.pow_succ];exact Ae9 p7 rz a1 a2 a3
  by_cases k7:u<pr%4294967296+b
  ·have h3:=j6 (u+4294967296) (pr%4294967296+b) (u+4294967296-(pr%4294967296+b)) 1 rfl (Or.inr ⟨rfl,rfl,k7⟩) (by omega)
   (repeat' ((first|(apply AG<;>intro hc<;>try (exfalso;omega))|(apply AY;omega)|(apply AU;omega)|(apply FV;omega)|(apply O5;omega)|(apply iX;omega)|(apply IK;omega;omega)|apply FC|(apply W9;omega)|(apply CR;omega)|(apply EE;omega)|(refine BC (by assumption) ?_ rfl ?_;omega)|refine I1 (by assumption) ?_|apply AD)<;>conv=>whnf))
   rw[<-rz];skip
   refine OG i (by omega) (by omega) ?_;(conv=>whnf)
   (repeat' ((first|(apply AU;omega)|fail)<;>conv=>whnf))
   exact BZ [] (by (conv=>whnf);exact ⟨rfl,rfl,rfl⟩) (ih (i+1) (Z.set i (u+4294967296-(pr%4294967296+b))) (pr/4294967296) 1 (by omega) ⟨by omega,by simpa using p2,p3.set _ (by omega),m1,by omega,om _,h3⟩)
  ·have h3:=j6 u (pr%4294967296+b) (u-(pr%4294967296+b)) 0 rfl (Or.inl ⟨rfl,rfl,by omega⟩) (by omega)
   (repeat' ((first|(apply AG<;>intro hc<;>try (exfalso;omega))|(apply AY;omega)|(apply AU;omega)|(apply FV;omega)|(apply O5;omega)|(apply iX;omega)|(apply IK;omega;omega)|apply FC|(apply CR;omega)|(apply EE;omega)|(refine BC (by assumption) ?_ rfl ?_;omega)|refine I1 (by assumption) ?_|apply AD)<;>conv=>whnf))
   rw[<-rz];skip
   refine OG i (by omega) (by omega) ?_;(conv=>whnf)
   (repeat' ((first|(apply AU;omega)|fail)<;>conv=>whnf))
   exact BZ [] (by (conv=>whnf);exact ⟨rfl,rfl,rfl⟩) (ih (i+1) (Z.set i (u-(pr%4294967296+b))) (pr/4294967296) 0 (by omega) ⟨by omega,by simpa using p2,p3.set _ (by omega),m1,by omega,om _,h3⟩)
 ·obtain rfl:i=y.length:=by omega
  clear ih;obtain ⟨u,hu⟩ : ∃ u,Z[y.length]? = some u:=⟨_,zE (by omega)⟩;have mq:=p3.at hu;have Hr:(A++Z++C)[((j:Int)+(y.length:Int)).toNat]? = some u:=SE (by omega) hu;have wq:W[y.length]? = some u:=by
   have e1:(Z.drop y.length)[0]? = (W.drop y.length)[0]? := by rw[p6]
   simpa [hu] using e1.symm
  rw[DC (Nat.le_refl y.length)]at p7;have eW:val W=val (W.take y.length)+4294967296^y.length*u:=by
   rw[<-D8 wq,DC (by omega)]
  have j6 : ∀ have' take w bq,take=c+b->((have'=u/\bq=0/\take<=u)\/(have'=u+4294967296/\bq=1/\u<take))->w+take=have'->val (Z.set y.length w)+q*val y=val W+4294967296^y.length*4294967296*bq:=λ have' take w bq a1 a2 a3=>by
   have h1:=Ae7 p7 a1 a2 a3;rw[<-eW,<-FS (show y.length<Z.length by omega),DC (by simp;omega)]at h1;exact h1
  by_cases k7:u<c+b
  ·have h3:=j6 (u+4294967296) (c+b) (u+4294967296-(c+b)) 1 rfl (Or.inr ⟨rfl,rfl,k7⟩) (by omega)
   have Dy:A1 (Z.set y.length (u+4294967296-(c+b))):=p3.set _ (by omega);have oe:(Z.set y.length (u+4294967296-(c+b))).length=y.length+1:=by simpa using p2
   rw[Nat.mul_one]at h3;have Ci:=E0 Dy;rw[oe,Nat.pow_succ]at Ci;obtain ⟨y1,y2,y3⟩:=lN y8 r3 Ci h3;(repeat' ((first|(apply AG<;>intro hc<;>try (exfalso;omega))|(apply AY;omega)|(apply AU;omega)|(apply FV;omega)|(apply IK;omega;omega)|(apply W9;omega)|(apply CR;omega)|(apply EE;omega)|refine I1 (by assumption) ?_|apply AD)<;>conv=>whnf))
   refine OG y.length (by omega) (by omega) ?_;(conv=>whnf)
   (repeat' ((first|(apply AG<;>intro hc<;>try (exfalso;omega))|(apply IK;omega;omega))<;>conv=>whnf))
   clear p7 p6 eW hu wq mq Hr p2 p3 j6;generalize Z.set y.length (u+4294967296-(c+b))=X at *;have hRV:val W%val y<val y:=Nat.mod_lt _ y8;have Am:=E0 ew;obtain ⟨xw,Bw⟩ : ∃ xw,X[y.length]? = some xw:=⟨_,zE (by omega)⟩;have eX:val X=val (X.take y.length)+4294967296^y.length*xw:=by
    rw[<-D8 Bw,DC (by omega)]
   have qu:q-1<4294967296:=by omega
   refine GE (λ i _ _=>y.length-i) (λ(i:Nat) (Z:List Nat) (c:Nat)=>i<=y.length/\Z.length=y.length+1/\A1 Z/\c<=1/\Z.drop i=X.drop i/\val (Z.take i)+4294967296^i*c=val (X.take i)+val (y.take i)) (λ i Z c=>[(26,.int .i64 i),(25,.int .u64 (c:Int))]) (λ i Z c=>[(69,101021,.rw 1 ((A++Z++C).map AL))]) [] [] 0 X 0 (by (conv=>whnf);exact ⟨rfl,rfl,rfl⟩) ⟨by omega,oe,Dy,by omega,rfl,by simp [val]⟩ ?_;intro i Z c ⟨p1,p2,p3,p4,p6,p7⟩ ih;by_cases hi:i<y.length
   ·obtain ⟨d,hd⟩ : ∃ d,y[i]? = some d:=⟨_,zE hi⟩
    obtain ⟨u,hu⟩ : ∃ u,Z[i]? = some u:=⟨_,zE (by omega)⟩;have bm:=ew.at hd;have mq:=p3.at hu;have Hr:(A++Z++C)[((i:Int)+(j:Int)).toNat]? = some u:=SE (by omega) hu;have lk:X[i]? = some u:=by
     have e1:(Z.drop i)[0]? = (X.drop i)[0]? := by rw[p6]
     simpa [hu] using e1.symm
    have gk:=jI (d:=d) (w:=u) (t:=c+(u+d)) p7 (by omega);(repeat' ((first|(apply AG<;>intro hc<;>try (exfalso;omega))|(apply AY;omega)|(apply AU;omega)|(apply FV;omega)|(apply CR;omega)|apply FK|(refine BC (by assumption) ?_ rfl ?_;omega)|refine I1 (by assumption) ?_|apply AD)<;>conv=>whnf))
    generalize Mn:c+(u+d)=t2 at *;refine OG i (by omega) (by omega) ?_;(conv=>whnf)
    (repeat' ((first|(apply AU;omega)|apply FC)<;>conv=>whnf))
    refine BZ [] (by (conv=>whnf);exact ⟨rfl,rfl,rfl⟩) (ih (i+1) (Z.set i (t2%4294967296)) (t2/4294967296) (by omega) ⟨by omega,by simpa using p2,p3.set _ (by omega),by omega,?_,?_⟩)
    ·rw[List.drop_set_of_lt (by omega)]
     have e1:(Z.drop i).drop 1=(X.drop i).drop 1:=by rw[p6]
     simpa using e1
    ·rw[FS (by omega),D8 hd,D8 lk,Nat.pow_succ]
     exact gk
   ·obtain rfl:i=y.length:=by omega
    clear ih;obtain ⟨u,hu⟩ : ∃ u,Z[y.length]? = some u:=⟨_,zE (by omega)⟩;have mq:=p3.at hu;have Hr:(A++Z++C)[((j:Int)+(y.length:Int)).toNat]? = some u:=SE (by omega) hu;have lk:X[y.length]? = some u:=by
     have e1:(Z.drop y.length)[0]? = (X.drop y.length)[0]? := by rw[p6]
     simpa [hu] using e1.symm
    rw[lk]at Bw;obtain rfl:u=xw:=by simpa using Bw
    rw[DC (Nat.le_refl y.length)]at p7;have Dz:=E0 (p3.take y.length);rw[List.length_take,Nat.min_eq_left (by omega)]at Dz;rw[eX]at y3;have fq:=jH p7 y3 (by omega) Dz;rw[<-FS (show y.length<Z.length by omega),DC (by simp;omega)]at fq;(repeat' ((first|(apply AG<;>intro hc<;>try (exfalso;omega))|(apply AY;omega)|(apply AU;omega)|apply iW|(apply EE;omega)|refine I1 (by assumption) ?_|apply AD)<;>conv=>whnf))
    refine OG y.length (by omega) (by omega) ?_;(conv=>whnf)
    (repeat' ((first|(apply AY;omega)|(apply EE;omega))<;>conv=>whnf))
    refine E7 (by omega) ?_;(conv=>whnf)
    (repeat' ((first|(apply B6;omega)|fail)<;>conv=>whnf))
    exact BZ [] (by (conv=>whnf);exact ⟨rfl,rfl,rfl⟩) (hk _ _ (by simpa using p2) (p3.set _ (by omega)) fq y1)
  ·have h3:=j6 u (c+b) (u-(c+b)) 0 rfl (Or.inl ⟨rfl,rfl,by omega⟩) (by omega)
   rw[Nat.mul_zero,Nat.add_zero]at h3;obtain ⟨y1,y2⟩:=lO y8 r2 h3;(repeat' ((first|(apply AG<;>intro hc<;>try (exfalso;omega))|(apply AY;omega)|(apply AU;omega)|(apply FV;omega)|(apply IK;omega;omega)|(apply CR;omega)|(apply EE;omega)|refine I1 (by assumption) ?_|apply AD)<;>conv=>whnf))
   refine OG y.length (by omega) (by omega) ?_;(conv=>whnf)
   (repeat' ((first|(apply AG<;>intro hc<;>try (exfalso;omega))|(apply AY;omega)|(apply EE;omega))<;>conv=>whnf))
   refine E7 (by omega) ?_;(conv=>whnf)
   (repeat' ((first|(apply B6;omega)|fail)<;>conv=>whnf))
   exact BZ [] (by (conv=>whnf);exact ⟨rfl,rfl,rfl⟩) (hk _ _ (by simpa using p2) (p3.set _ (by omega)) y2 y1)
theorem Ry (hA:A.length=j) (hW:W.length=y.length+1) (D2:A1 W) (ew:A1 y) (fw:2<=y.length) (ur:y.length<=549755813888) (y8:0<val y) (aj:j<=1099511627776)
  (n2:4294967296^(y.length-1)*2147483648<=val y) (g2:val W<4294967296*val y) (ig:ul=j+(y.length+1)+C.length) (Hx:w.length=m) (Hj:j<m)
  (hk : ∀ (W':List Nat) (q':Nat),W'.length=y.length+1->A1 W'->val W'=val W%val y->q'=val W/val y->AA L YA (YB y s ul m ((j:Int)-1)) [(69,101021,.rw 1 ((A++W'++C).map AL)),(85,85,.rw 1 ((w.set j q').map AL))] Q) :
  AA L (.code DS.l2::YA) (YB y s ul m (j:Int)) [(69,101021,.rw 1 ((A++W++C).map AL)),(85,85,.rw 1 (w.map AL))] Q:=by
 obtain ⟨UL,a1,a2⟩:=Z5 D2 (n:=y.length+1) (by omega) (by omega);obtain ⟨VL,b5,b6⟩:=uU ew (n:=y.length) fw (by omega);obtain ⟨u0,w0⟩ : ∃ d,W[y.length]? = some d:=⟨_,zE (by omega)⟩;obtain ⟨u1,w1⟩ : ∃ d,W[y.length-1]? = some d:=⟨_,zE (by omega)⟩;obtain ⟨u2,w2⟩ : ∃ d,W[y.length-2]? = some d:=⟨_,zE (by omega)⟩;obtain ⟨f1,x1⟩ : ∃ d,y[y.length-1]? = some d:=⟨_,zE (by omega)⟩;obtain ⟨f2,x2⟩ : ∃ d,y[y.length-2]? = some d:=⟨_,zE (by omega)⟩;rw[show y.length+1-3=y.length-2 by omega,show y.length+1-2=y.length-1 by omega,show y.length+1-1=y.length by omega,GK w0,GK w1,GK w2]at a2;rw[show y.length+1-3=y.length-2 by omega]at a1;rw[GK x1,GK x2]at b6;have tp:=uN ew (k:=y.length-1) (by omega) n2 x1;have k0:=D2.at w0;have k1:=D2.at w1;have k2:=D2.at w2;have k3:=ew.at x1;have k4:=ew.at x2;have z1:y[((y.length:Int)-1).toNat]? = some f1:=by rw[show ((y.length:Int)-1).toNat=y.length-1 by omega];exact x1
 have z2:y[((y.length:Int)-2).toNat]? = some f2:=by rw[show ((y.length:Int)-2).toNat=y.length-2 by omega];exact x2
 have o5:(A++W++C)[((j:Int)+(y.length:Int)).toNat]? = some u0:=SE (by omega) w0;(repeat' ((first|(apply AG<;>intro hc<;>try (exfalso;omega))|(apply AY;omega)|(apply AU;omega)|(apply B6;omega)|(apply OE;omega)|(apply CR;omega)|refine I1 (by assumption) ?_|apply AD)<;>conv=>whnf))
 have w8:(A++W++C)[((j:Int)+(y.length:Int)-1).toNat]? = some u1:=SE (by omega) w1;refine wX w8 ?_;(conv=>whnf)
 refine iQ (by omega) ?_;(conv=>whnf)
 refine O6 (by omega) ?_;(conv=>whnf)
 clear o5 w8;have ae:(A++W++C)[((j:Int)+(y.length:Int)-2).toNat]? = some u2:=SE (by omega) w2;generalize Mp:u0*4294967296+u1=top at *;have vq:top<=18446744073709551615:=by omega
 have hU:val W=UL+4294967296^(y.length-2)*(u2+4294967296*top):=by rw[a2,show u1+4294967296*u0=top by omega]
 (repeat' ((first|(apply B6;omega)|(apply UK;omega)|(apply XB;omega;omega)|(apply CR;omega)|(refine BC (by assumption) ?_ rfl ?_;omega))<;>conv=>whnf))
 refine F3 (λ q _=>q) (λ(q r:Nat)=>Gs (val W) (val y) f1 f2 u2 top q r) (λ q r=>[(16,.int .u64 (q:Int)),(17,.int .u64 (r:Int))]) (λ_ _=>[]) [] [] (top/f1) (top%f1) (by (conv=>whnf);exact ⟨rfl,rfl,rfl⟩) (Gs.start hU b6 a1 k2 y8 (by omega) k3) ?_;intro q r g nr;have hqt:q<=top:=by
  have h3:=g.hq;have h4:q*1<=q*f1:=Nat.mul_le_mul_left q (by omega);omega
 have hr:=g.hr;have jq:=g.ge;by_cases hb:4294967296<=q
 ·obtain ⟨y1,y2,y3⟩:=g.next hU b6 a1 y8 g2 (Or.inl hb)
  (repeat' ((first|(apply AG<;>intro hc<;>try (exfalso;omega))|(apply B6;omega)|(apply FV;omega)|(apply IK;omega;omega)|(apply CR;omega)|(refine BC (by assumption) ?_ rfl ?_;omega)|apply AD)<;>conv=>whnf))
  ·obtain ⟨t1,t2⟩:=TN hU b6 b5 tp k4 g2 y2 (Or.inr (by omega))
   exact BZ [] (by (conv=>whnf);exact ⟨rfl,rfl,rfl⟩) (bU (w:=w) (C:=C) hA hW D2 ew fw ur y8 aj ig Hx Hj t1 y3 t2 hk)
  ·exact BZ [] (by (conv=>whnf);exact ⟨rfl,rfl,rfl⟩) (nr (q-1) (r+f1) (by omega) ⟨y2,by omega,y3⟩)
 ·have hmq:=TU (show q<4294967296 by omega) k4
  by_cases q5:r*4294967296+u2<q*f2
  ·obtain ⟨y1,y2,y3⟩:=g.next hU b6 a1 y8 g2 (Or.inr q5)
   (repeat' ((first|(apply AG<;>intro hc<;>try (exfalso;omega))|(apply AY;omega)|(apply AU;omega)|(apply B6;omega)|(apply FV;omega)|(apply O5;omega)|(apply OE;omega)|(apply O6;omega)|(apply IK;omega;omega)|(apply CR;omega)|(refine BC (by assumption) ?_ rfl ?_;omega)|refine I1 (by assumption) ?_|apply AD)<;>conv=>whnf))
   ·obtain ⟨t1,t2⟩:=TN hU b6 b5 tp k4 g2 y2 (Or.inr (by omega))
    exact BZ [] (by (conv=>whnf);exact ⟨rfl,rfl,rfl⟩) (bU (w:=w) (C:=C) hA hW D2 ew fw ur y8 aj ig Hx Hj t1 y3 t2 hk)
   ·exact BZ [] (by (conv=>whnf);exact ⟨rfl,rfl,rfl⟩) (nr (q-1) (r+f1) (by omega) ⟨y2,by omega,y3⟩)
  ·obtain ⟨t1,t2⟩:=TN hU b6 b5 tp k4 g2 g.hq (Or.inl ⟨by omega,by omega⟩)
   (repeat' ((first|(apply AG<;>intro hc<;>try (exfalso;omega))|(apply AY;omega)|(apply AU;omega)|(apply B6;omega)|(apply O5;omega)|(apply OE;omega)|(apply O6;omega)|(apply CR;omega)|(refine BC (by assumption) ?_ rfl ?_;omega)|refine I1 (by assumption) ?_|apply AD)<;>conv=>whnf))
   exact BZ [] (by (conv=>whnf);exact ⟨rfl,rfl,rfl⟩) (bU (w:=w) (C:=C) hA hW D2 ew fw ur y8 aj ig Hx Hj t1 jq t2 hk)
end
theorem AgY {l:List Nat} (hD:A1 l) (h:l[l.length-1]? = some 0):val l<4294967296^(l.length-1):=by
 have hl:=(zS h).1;have h1:=JN l (l.length-1) (by omega);have h2:=G4 h;rw[List.drop_of_length_le (show l.length<=l.length-1+1 by omega),IJ]at h2;rw[h2]at h1;simp only[Nat.mul_zero,Nat.add_zero]at h1;have h3:=E0 (hD.take (l.length-1));rw[List.length_take,Nat.min_eq_left (by omega)]at h3;omega
theorem lR (N:a9 L) {X Y s:Nat} {x u y:List Nat} (hY:Y≠0) (da:s<=31) (Gz:A1 u) (Hb:val u=X*2^s) (hU0:u[u.length-1]? = some 0) (ig:x.length+1<=u.length/\u.length<=549755813888) (ew:A1 y) (Hc:val y=Y*2^s) (ju:2<=y.length/\y.length<=x.length) (n2:4294967296^(y.length-1)*2147483648<=val y) :
  AA L Rw [(10,.row 69 0 1 0 u.length),(11,.sl false (y.map AL)),(9,.int .i64 (s:Int)),(0,.sl false (x.map AL))] [(69,101021,.rw 1 (u.map AL))] (P5 DS (.g7 [.sl false ((dg (X/Y)).map AL),.sl false ((dg (X%Y)).map AL),.int .i64 0])):=by
 refine BR (λ(_:Nat)=>0) (λ_=>True) (λ_=>[]) (λ_=>[]) [] [] 0 (by (conv=>whnf);exact ⟨rfl,rfl,rfl⟩) trivial ?_;intro _ _ _;(repeat' ((first|(apply AG<;>intro hc<;>try (exfalso;omega))|(apply AU;omega)|(apply B6;omega)|apply AR|apply AD)<;>conv=>whnf))
 refine EX (enc:=AL) 0 (u.length-y.length) (by rfl) (by omega) (by omega) ?_;(conv=>whnf)
 (repeat' ((first|(apply B6;omega)|fail)<;>conv=>whnf))
 have y8:0<val y:=by
  have:=rW (y.length-1)
  omega
 have An:=E0 ew;generalize hm:u.length-y.length=m at *;have qa:val (u.drop m)<val y:=by
  have h1:(u.drop m).length=y.length:=by simp;omega
  have h2:=AgY (l:=u.drop m) (Gz.drop _) (by rw[h1,List.getElem?_drop,show m+(y.length-1)=u.length-1 by omega];exact hU0);rw[h1]at h2;omega
 rw[show (u.length:Int)-y.length-1=((m:Nat):Int)-1 by omega];refine GE (λ n _ _=>n) (λ(n:Nat) (o w:List Nat)=>n<=m/\o.length=u.length/\A1 o/\w.length=m/\A1 w/\val (o.drop n)<val y/\X*2^s=val (o.take n)+4294967296^n*(val (w.drop n)*val y+val (o.drop n))) (λ n o w=>[(14,.int .i64 ((n:Int)-1))]) (λ n o w=>[(69,101021,.rw 1 (o.map AL)),(85,85,.rw 1 (w.map AL))]) [] [] m u (List.replicate m 0) (by (conv=>whnf);exact ⟨rfl,rfl,rfl⟩) ⟨by omega,rfl,Gz,by simp,IO _,qa,by rw[<-Hb,List.drop_of_length_le (show (List.replicate m 0).length<=m by simp),IJ,Nat.zero_mul,Nat.zero_add];exact JN u m (by omega)⟩ ?_;intro n o w ⟨p1,p2,p3,p4,p5,p6,p7⟩ ih;rcases n with _|j
 ·clear ih
  rw[List.drop_zero]at p6;rw[List.take_zero,List.drop_zero,List.drop_zero,IJ,Nat.zero_add,Nat.pow_zero,Nat.one_mul]at p7;have om:val o=val (o.take y.length):=by
   have h1:=SC o y.length;rcases Nat.eq_zero_or_pos (val (o.drop y.length)) with h2|h2
   ·rw[h2,Nat.mul_zero,Nat.add_zero]at h1;exact h1
   ·have h3:4294967296^y.length*1<=4294967296^y.length*val (o.drop y.length):=Nat.mul_le_mul_left _ h2
    omega
  have vh:X/Y=val w/\X%Y=val o/2^s:=by
   obtain ⟨z1,z2⟩:=lQ (X:=X) (Y:=Y) (Nat.two_pow_pos s);rw[<-z1,<-z2,<-Hc,p7];have e1:(val w*val y+val o)/val y=val w:=by
    rw[Nat.mul_comm,Nat.mul_add_div y8,Nat.div_eq_of_lt p6,Nat.add_zero]
   have e2:(val w*val y+val o)%val y=val o:=by
    rw[Nat.mul_comm,Nat.mul_add_mod,Nat.mod_eq_of_lt p6]
   rw[e1,e2];exact ⟨rfl,rfl⟩
  rw[vh.1,vh.2,om];have hT:=λ q=>FX N w q p5 (by omega)
  have aw:(o.take y.length).length<=549755813888:=by rw[List.length_take];omega
  clear p7 vh qa;rw[<-p4];rcases Nat.eq_zero_or_pos s with h0|h0
  ·subst h0
   have hS:=λ q=>nQ N (o.take y.length) q 0 (p3.take _) aw (by omega)
   rw[Nat.pow_zero,Nat.mul_one]at hS;rw[Nat.pow_zero,Nat.div_one];(repeat' ((first|(apply AG<;>intro hc<;>try (exfalso;omega))|(refine DL (λ_=>rfl) rfl ?_ ?_;(first|rfl|simp))|apply AD|refine AE (hT _) ?_)<;>conv=>whnf))
   refine G5 y.length rfl (by omega) ?_;(conv=>whnf)
   refine CI.neg (by omega) ?_;(conv=>whnf)
   refine HL (enc:=AL) (λ_=>rfl) (by omega) ?_;(conv=>whnf)
   rw[List.drop_zero,Nat.sub_zero,show -((0:Nat):Int)=((0:Nat):Int) by omega];(repeat' (refine AE (hS _) ?_<;>conv=>whnf))
   exact AZ rfl (X0 _ _ _)
  ·have hS:=λ q=>Ye N (o.take y.length) q s (p3.take _) aw (by omega)
   (repeat' ((first|(apply AG<;>intro hc<;>try (exfalso;omega))|(refine DL (λ_=>rfl) rfl ?_ ?_;(first|rfl|simp))|apply AD|refine AE (hT _) ?_)<;>conv=>whnf))
   refine G5 y.length rfl (by omega) ?_;(conv=>whnf)
   refine CI.neg (by omega) ?_;(conv=>whnf)
   refine HL (enc:=AL) (λ_=>rfl) (by omega) ?_;(conv=>whnf)
   rw[List.drop_zero,Nat.sub_zero];(repeat' (refine AE (hS _) ?_<;>conv=>whnf))
   exact AZ rfl (X0 _ _ _)
 ·have e3:((j+1:Nat):Int)-1=j:=by omega
  rw[e3];obtain ⟨A,W,C,hA,hW,rfl⟩:=mL o j (y.length+1) (by omega);obtain ⟨g1,g2,g3⟩:=mN hA hW p3 p6 An;obtain ⟨D1,D2,D3⟩:=lM p3;have qu:val W/val y<4294967296:=(Nat.div_lt_iff_lt_mul y8).2 g2;have Jp:val W=val W/val y*val y+val W%val y:=by rw[Nat.mul_comm];exact (Nat.div_add_mod _ _).symm
  have Ao:val W%val y<val y:=Nat.mod_lt _ y8;have Al:X*2^s=val A+4294967296^j*val W+4294967296^j*4294967296*(val (w.drop (j+1))*val y):=by
   rw[p7,Nat.mul_add,<-g3,Nat.pow_succ];omega
  have pt:=mM Al Jp;have ou : ∀ q',q'=val W/val y->val ((w.set j q').drop j)=val W/val y+4294967296*val (w.drop (j+1)):=λ q' h=>by
   rw[G4 (l:=w.set j q') (d:=q') (by rw[List.getElem?_set_self (by omega)]),List.drop_set_of_lt (by omega),h]
  have hlen : ∀ W':List Nat,W'.length=y.length+1->(A++W'++C).length=u.length:=λ W' h=>by
   rw[<-p2];simp [h,hW]
  have Px:u.length=j+(y.length+1)+C.length:=by rw[<-p2];simp [hA,hW];omega
  refine BZ [] (by (conv=>whnf);exact ⟨rfl,rfl,rfl⟩) (Ry (m:=m) (s:=s) (ul:=u.length) (C:=C) hA hW D2 ew ju.1 (by omega) y8 (by omega) n2 g2 Px p4 (by omega) (λ W' q' z1 z2 z3 z4 => ?_));obtain ⟨t1,t2⟩:=cA (A:=A) (W:=W') (C:=C) (j:=j) hA g1;refine BZ [] (by (conv=>whnf);exact ⟨rfl,rfl,rfl⟩) (ih j (A++W'++C) (w.set j q') (by omega) ⟨by omega,hlen W' z1,(D1.append z2).append D3,by simpa using p4,p5.set _ (by omega),by omega,?_⟩);rw[t1,t2,ou q' z4,z3];exact pt
end Go.c5
namespace Go.c5
open F
attribute [local irreducible] AA AF AM AC CI AW AX A5 A6 B3 AQ BS B7 C5 BQ A2 BO B9 AB A9 AJ pw BN BG CH CM CT CP CE BU CK
variable {L:Lib}
set_option maxHeartbeats 8000000
theorem nP (N:a9 L) (a b:List Nat) (q1 q2:Bool) (hA:A1 a) (hB:A1 b) (la:a.length<=274877906944) (lb:b.length<=274877906944) (h0:val b≠0) :
  Ev L 109 [.sl q1 (a.map AL),.sl q2 (b.map AL)] (.g7 [.sl false ((dg (val a/val b)).map AL),.sl false ((dg (val a%val b)).map AL),.int .i64 0]):=by
 have t1:=λ q=>FX N a q hA (by omega)
 have t2:=λ q=>FX N b q hB (by omega)
 have l1:=ES hA;have l2:=ES hB;have k8:=λ q q'=>cI N (dg (val a)) (dg (val b)) q q' (DU _) (DU _) (by omega) (by omega)
 rw[B1,B1]at k8;generalize val a=X at *;generalize val b=Y at *;have d1:=DU X;have d2:=DU Y;have v1:=B1 X;have v2:=B1 Y;have hy1:=U3 h0;refine Ev.x N.DS rfl rfl ?_;by_cases h1:(dg Y).length=1
 ·obtain ⟨y0,ox⟩ : ∃ y0,dg Y=[y0]:=List.length_eq_one_iff.1 h1
  have oz:Y=y0:=by rw[<-v2,ox];simp [val]
  subst oz;have zp:Y<4294967296:=d2 Y (by rw[ox];simp);have hyg:(dg Y)[(0:Int).toNat]? = some Y:=by rw[ox];rfl
  have Qi:=λ q=>Wu N (dg X) Y q d1 (by omega) h0 zp
  rw[v1]at Qi;have ic:X%Y<4294967296:=Nat.lt_trans (Nat.mod_lt _ (by omega)) zp;have Gy:=λ q=>FX N [X%Y] q (HB ic) (by simp)
  rw[show val [X%Y]=X%Y by simp [val]]at Gy;clear ox v2;generalize dg Y=y at *;(repeat' ((first|(apply AG<;>intro hc<;>try (exfalso;omega))|apply AR|(refine BC (by assumption) ?_ rfl ?_;omega)|refine IL rfl ?_|apply AD|refine AE (t1 _) ?_|refine AE (t2 _) ?_|refine AE (Qi _) ?_|refine AE (Gy _) ?_)<;>conv=>whnf))
  exact AZ rfl (X0 _ _ _)
 by_cases k7:X<Y
 ·rw[<-HZ (by omega)]at k8
  (repeat' ((first|(apply AG<;>intro hc<;>try (exfalso;omega))|apply AR|apply AD|refine AE (t1 _) ?_|refine AE (t2 _) ?_|refine AE (k8 _ _) ?_)<;>conv=>whnf))
  refine AZ ?_ (X0 _ _ _);rw[Nat.div_eq_of_lt k7,Nat.mod_eq_of_lt k7,EY];rfl
 have jq:=X2 (show Y<=X by omega);generalize C9 X Y=cm at *;have Hn:2<=(dg Y).length:=by omega
 obtain ⟨yt,uv,xq⟩:=bR h0;have uw:=d2.at uv;obtain ⟨b1,b2,b3,b4⟩:=dR xq uw;have fi:=λ q=>Yb N yt q xq uw
 generalize hs:32-n7 yt=s at *;have da:s<=31:=by omega
 have Ml:=λ q=>nQ N (dg Y) q s d2 (by omega) (by omega)
 obtain ⟨n1,n2⟩:=dM d2 uv (by omega) da b3 b4;rw[v2]at Ml n1 n2;have om:(dg Y).drop ((dg Y).length-1)=[yt]:=by
  obtain ⟨hi,he⟩:=zS uv;rw[List.drop_eq_getElem_cons hi,he,List.drop_of_length_le (by omega)]
 have ju:(dg (Y*2^s)).length=(dg Y).length:=by
  have a1:=OO.2 n1;have a2 : ¬ (dg (Y*2^s)).length<=(dg Y).length-1:=λ h=>by
   have:=OO.1 h
   omega
  omega
 have Aly:(dg (X*2^s)).length<=(dg X).length+1:=by
  refine OO.2 ?_;have a1:X<4294967296^(dg X).length:=OO.1 (Nat.le_refl _);rw[Nat.pow_succ];have a2:=V8 (s:=s) (by omega);exact Nat.lt_of_lt_of_le (Nat.mul_lt_mul_of_pos_right a1 (Nat.two_pow_pos s)) (Nat.mul_le_mul_left _ a2)
 have oe:(dg X).length<=(dg (X*2^s)).length:=P9 (Nat.le_mul_of_pos_right _ (Nat.two_pow_pos s));have vk:=P9 (show Y<=X by omega);generalize hx:dg X=x at *;generalize hy:dg Y=y at *;have t3:=λ q=>FX N x q d1 (by omega)
 rw[v1,hx]at t3;(repeat' ((first|(apply AG<;>intro hc<;>try (exfalso;omega))|(apply B6;omega)|apply AR|apply AD|refine AE (t1 _) ?_|refine AE (t2 _) ?_|refine AE (k8 _ _) ?_)<;>conv=>whnf))
 rw[show (y.length:Int)-1=((y.length-1:Nat):Int) by omega];refine xO (k:=y.length-1) (λ_=>rfl) (by omega) ?_;(conv=>whnf)
 rw[om];(repeat' ((first|(apply B6;omega)|refine AE (fi _) ?_)<;>conv=>whnf))
 rw[show (32:Int)-(n7 yt:Nat)=((s:Nat):Int) by omega];refine GF 1000 N.IB rfl rfl ?_;have hsq:(s:Int)/32=((0:Nat):Int):=by omega
 have hsr:(s:Int)%32=((s:Nat):Int):=by omega
 (repeat' ((first|(apply AG<;>intro hc<;>try (exfalso;omega))|(refine KG ?_ ?_ (λ_ => ?_) (λ_ _ => ?_);omega;omega;all_goals try (exfalso;omega))|apply AR|apply AD|refine AE (t3 _) ?_)<;>conv=>whnf))
 rw[hsq];refine EX (enc:=AL) 0 0 rfl rfl (by omega) ?_;(conv=>whnf)
 skip
 refine GE (λ i _ _=>x.length-i) (λ(i:Nat) (o:List Nat) (c:Nat)=>i<=x.length/\o.length=i/\A1 o/\c<2^s/\val o+4294967296^i*c=val (x.take i)*2^s) (λ i o c=>[(10,.int .i64 i),(9,.int .u64 (c:Int)),(8,.row 107069 0 1 0 i)]) (λ i o c=>[(107069,107069,.rw 1 (o.map AL))]) [] [] 0 [] 0 (by (conv=>whnf);exact ⟨rfl,rfl,rfl⟩) ⟨by omega,rfl,S7,Nat.two_pow_pos _,by simp [val]⟩ ?_;intro i o c ⟨p1,p2,p3,p4,p5⟩ ih;have sd:=V8 (s:=s) (by omega);by_cases hi:i<x.length
 ·obtain ⟨d,hd⟩ : ∃ d,x[i]? = some d:=⟨_,zE hi⟩
  have bm:=d1.at hd;obtain ⟨f1,f2,f3,f4⟩:=R6 (s:=s) bm (by omega);have hr:=YX (show s<=64 by omega) f4;(repeat' ((first|(apply AG<;>intro hc<;>try (exfalso;omega))|(refine SR ?_ (λ_ _ _ => ?_) (λ_ _ _ _ => ?_);omega;all_goals try (exfalso;omega))|(apply CR;omega)|apply AR|(refine BC (by assumption) ?_ rfl ?_;omega)|apply AD)<;>conv=>whnf))
  rw[hsr];refine O8 (by omega) f4 ?_;(conv=>whnf)
  skip
  refine XA s (Nat.mul_mod_left _ _) p4 (by omega) ?_;(conv=>whnf)
  have j6:=uR (d:=d) (P:=1) (V:=val o) (p:=4294967296^i) (lo:=c) (X:=val (x.take i)) (s:=s) (by rw[Nat.one_mul,Nat.one_mul];exact p5) rfl;have px:(c+d*2^s)/4294967296<2^s:=by
   rw[Nat.div_lt_iff_lt_mul (by omega)];have:=Nat.mul_le_mul_right (2^s) (show d<=4294967295 by omega)
   omega
  generalize c+d*2^s=t at *;(repeat' ((first|apply FK|apply D9)<;>conv=>whnf))
  refine EO (enc:=AL) (t%4294967296) rfl p2.symm rfl (by omega) (by omega) ?_;(conv=>whnf)
  (repeat' ((first|(apply AU;omega)|apply FC)<;>conv=>whnf))
  rw[show (o++[t%4294967296]).length=i+1 by simp [p2]];refine BZ [(107069,107091)] (by (conv=>whnf);exact ⟨rfl,rfl,rfl⟩) (ih (i+1) (o++[t%4294967296]) (t/4294967296) (by omega) ⟨by omega,by simp;omega,p3.append (HB (by omega)),px,?_⟩);rw[N7,p2,D8 hd,Nat.pow_succ];rw[Nat.one_mul,Nat.one_mul]at j6;exact j6
 obtain rfl:i=x.length:=by omega
 clear ih;have oh:c<4294967296:=by omega
 have hOD:A1 (o++[c]):=p3.append (HB oh);have Dp:val (o++[c])=X*2^s:=by
  rw[N7,p2,p5,DC (Nat.le_refl _),v1]
 have Dn:(o++[c]).length=x.length+1:=by simp [p2]
 (repeat' ((first|(apply AG<;>intro hc<;>try (exfalso;omega))|(apply EE;omega)|apply AR|apply D9|apply AD)<;>conv=>whnf))
 refine EO (enc:=AL) c rfl p2.symm rfl (by omega) (by omega) ?_;(conv=>whnf)
 rw[Dn];generalize o++[c]=O at *;rw[<-Dn];clear p3 p4 p5;refine GF 1000 N.HG rfl rfl ?_;(repeat' (apply AD<;>conv=>whnf))
 refine BR (λ n=>n) (λ(n:Nat)=>n<=(O).length /\ ∀ i,n<=i->i<(O).length->(O)[i]? = some 0) (λ n=>[(3,.int .i64 n)]) (λ_=>[]) [] [] (O).length (by (conv=>whnf);exact ⟨rfl,rfl,rfl⟩) ⟨Nat.le_refl _,λ i h1 h2=>by omega⟩ ?_;intro n ⟨p1,p2⟩ ih;rcases n with _|n
 ·(repeat' ((first|(apply AG<;>intro hc<;>try (exfalso;omega))|apply AD)<;>conv=>whnf))
  refine G5 0 (by omega) (by omega) ?_;(conv=>whnf)
  have au:=F8 (l:=O) (by assumption) p1 p2 (Or.inl rfl);have m8:(List.take 0 O).length<=(O).length:=by rw[List.length_take];omega
  clear ih p2;refine XH (enc:=AL) (by omega) ?_;(conv=>whnf)
  rw[List.drop_zero,Nat.sub_zero];generalize Jl:List.take 0 O=T0 at *;refine P0 (enc:=AL) (λ_=>rfl) (by omega) (by omega) ?_;(conv=>whnf)
  refine ⟨rfl,_,rfl,?_⟩;(conv=>whnf)
  (refine ⟨rfl,_,rfl,?_⟩;(conv=>whnf);(repeat' ((first|apply D9|refine AE (Ml _) ?_)<;>conv=>whnf));refine EO (enc:=AL) 0 rfl rfl rfl (by omega) (by omega) ?_;(conv=>whnf);rw[Dp]at au;rw[au];exact BZ [] (by (conv=>whnf);exact ⟨rfl,rfl,rfl⟩) (lR N (x:=x) (X:=X) (Y:=Y) (s:=s) (u:=dg (X*2^s)++[0]) (y:=dg (Y*2^s)) h0 da ((DU _).append (HB (by omega))) (by rw[N7,B1,Nat.mul_zero,Nat.add_zero]) (by simp) (by simp;omega) (DU _) (B1 _) (by omega) (by rw[B1,ju];exact n2)))
 ·have e1:((n+1:Nat):Int)-1=n:=by omega
  (repeat' ((first|(apply AG<;>intro hc<;>try (exfalso;omega))|(apply AY;omega)|(apply B6;omega)|(refine Q7 (by assumption) ?_ (λ v hv hb => ?_);omega)|apply AD)<;>conv=>whnf))
  ·rw[e1]
   exact BF [] (ih n (by omega) ⟨by omega,λ i h1 h2=>by
    by_cases h:i=n
    ·subst h
     rw[e1,Int.toNat_natCast]at hv;rw[hv];congr 1;omega
    ·exact p2 i (by omega) h2⟩)
  ·refine G5 (n+1) (by omega) (by omega) ?_
   (conv=>whnf)
   rw[e1,Int.toNat_natCast]at hv;have au:=F8 (l:=O) (by assumption) p1 p2 (Or.inr ⟨_,hv,by omega⟩);have m8:(List.take (n+1) O).length<=(O).length:=by rw[List.length_take];omega
   clear ih p2 hv;(rw[jN (l:=O)];rotate_left;exact rfl;exact rfl);(conv=>whnf)
   refine XH (enc:=AL) (by omega) ?_;(conv=>whnf)
   rw[List.drop_zero,Nat.sub_zero];generalize Jl:List.take (n+1) O=T0 at *;refine P0 (enc:=AL) (λ_=>rfl) (by omega) (by omega) ?_;(conv=>whnf)
   refine ⟨rfl,_,rfl,?_⟩;(conv=>whnf)
   (refine ⟨rfl,_,rfl,?_⟩;(conv=>whnf);(repeat' ((first|apply D9|refine AE (Ml _) ?_)<;>conv=>whnf));refine EO (enc:=AL) 0 rfl rfl rfl (by omega) (by omega) ?_;(conv=>whnf);rw[Dp]at au;rw[au];exact BZ [] (by (conv=>whnf);exact ⟨rfl,rfl,rfl⟩) (lR N (x:=x) (X:=X) (Y:=Y) (s:=s) (u:=dg (X*2^s)++[0]) (y:=dg (Y*2^s)) h0 da ((DU _).append (HB (by omega))) (by rw[N7,B1,Nat.mul_zero,Nat.add_zero]) (by simp) (by simp;omega) (DU _) (B1 _) (by omega) (by rw[B1,ju];exact n2)))
theorem Yc (N:a9 L) (a b:List Nat) (q1 q2:Bool) (hA:A1 a) (hB:A1 b) (la:a.length<=274877906944) (lb:b.length<=274877906944) :
  Ev L 110 [.sl q1 (a.map AL),.sl q2 (b.map AL)] (.sl false ((dg (Nat.gcd (val a) (val b))).map AL)):=by
 have t1:=λ q=>FX N a q hA (by omega)
 have t2:=λ q=>FX N b q hB (by omega)
 have l1:=ES hA;have l2:=ES hB;generalize val a=X at *;generalize val b=Y at *;refine Ev.x N.MS rfl rfl ?_;(repeat' ((first|apply AD|refine AE (t1 _) ?_|refine AE (t2 _) ?_)<;>conv=>whnf))
 refine F3 (λ_ y=>y) (λ(x y:Nat)=>(dg x).length<=274877906944/\(dg y).length<=274877906944/\Nat.gcd x y=Nat.gcd X Y) (λ x y=>[(0,.sl false ((dg x).map AL)),(1,.sl false ((dg y).map AL))]) (λ_ _=>[]) [] [] X Y (by (conv=>whnf);exact ⟨rfl,rfl,rfl⟩) ⟨by omega,by omega,rfl⟩ ?_;intro x y ⟨p1,p2,p3⟩ ih;rw[<-p3];by_cases h0:y=0
 ·subst h0
  have ka:(dg 0).length=0:=by rw[EY];rfl
  clear ih;rw[Nat.gcd_zero_right];(repeat' ((first|(apply AG<;>intro hc<;>try (exfalso;omega))|apply AR|apply AD)<;>conv=>whnf))
  exact AZ rfl (I5 _)
 ·have hp:=U3 h0
  have hD:=λ q q'=>nP N (dg x) (dg y) q q' (DU _) (DU _) p1 p2 (by rw[B1];exact h0)
  rw[B1,B1]at hD;have k7:x%y<y:=Nat.mod_lt _ (by omega);have cu:=P9 (Nat.le_of_lt k7);(repeat' ((first|(apply AG<;>intro hc<;>try (exfalso;omega))|apply AR|apply AD|refine AE (hD _ _) ?_)<;>conv=>whnf))
  rw[p3];exact BF [] (ih y (x%y) k7 ⟨p2,by omega,by rw[VP];exact p3⟩)
theorem I6 (N:a9 L) (n q:Bool) (m:List Nat) (hm:Sm 274877906944 m):Ev L 111 [.agg (rZ q n m)] (.agg (eZ (zv n m))):=by
 have hT:=λ q=>FX N m q hm.1 (by have:=hm.2;omega)
 have hz:=H2 (val m);have ha:=EV n m;refine Ev.x N.M8 rfl rfl ?_;cases n
 ·rw[EL]at *
  (repeat' ((first|apply AD|refine AE (hT _) ?_)<;>conv=>whnf))
  exact AZ (EP ha.symm (GA (by omega))) (DM _)
 ·rw[O2]at *
  (repeat' ((first|(apply AG<;>intro hc<;>try (exfalso;omega))|apply AR|apply AD|refine AE (hT _) ?_)<;>conv=>whnf))
  ·exact AZ (EP ha.symm (N0 (by omega))) (DM _)
  ·exact AZ (EP ha.symm (GA (by omega))) (DM _)
theorem VD (N:a9 L) (n q:Bool) (m:List Nat) (hm:Sm 274877906944 m):Ev L 113 [.agg (rZ q n m)] (.int .i64 (o8 (zv n m))):=by
 have hT:=λ q=>I6 N n q m hm
 generalize zv n m=z at *;have hz:=H2 z.natAbs;refine Ev.x N.M6 rfl rfl ?_;(repeat' ((first|(apply AG<;>intro hc<;>try (exfalso;omega))|apply AR|apply AD|refine AE (hT _) ?_)<;>conv=>whnf))
 ·exact C2 (ZO (by omega))
 ·cases hd:decide (z<0)
  ·(conv=>whnf)
   exact C2 (gG (by have:=of_decide_eq_false hd;omega))
  ·(conv=>whnf)
   exact C2 (gF (of_decide_eq_true hd))
theorem cK (N:a9 L) (n q:Bool) (m:List Nat) (hm:Sm 274877906944 m):Ev L 114 [.agg (rZ q n m)] (.agg (eZ (-(zv n m)))):=by
 have hT:=λ q=>I6 N n q m hm
 generalize zv n m=z at *;have hz:=H2 z.natAbs;refine Ev.x N.M4 rfl rfl ?_;(repeat' ((first|apply AD|refine AE (hT _) ?_)<;>conv=>whnf))
 cases hd:decide (z<0)
 ·have h1:=of_decide_eq_false hd
  (conv=>whnf)
  (repeat' ((first|(apply AG<;>intro hc<;>try (exfalso;omega))|apply AR)<;>conv=>whnf))
  ·exact AZ (EP (by omega) (N0 (by omega))) (DM _)
  ·exact AZ (EP (by omega) (GA (by omega))) (DM _)
 ·have h1:=of_decide_eq_true hd
  (conv=>whnf)
  skip
  exact AZ (EP (by omega) (GA (by omega))) (DM _)
theorem PH (N:a9 L) (n1 n2 q1 q2:Bool) (a b:List Nat) (ha:A1 a) (hb:A1 b) (hl:a.length+b.length<=274877906944):Ev L 118 [.agg (rZ q1 n1 a),.agg (rZ q2 n2 b)] (.agg (eZ (zv n1 a*zv n2 b))):=by
 have h1:=λ q q'=>Yd N a b q q' ha hb (by omega)
 have sa:Sm a.length a:=⟨ha,Nat.le_refl _⟩;have sb:Sm b.length b:=⟨hb,Nat.le_refl _⟩;have hT:=λ n q=>I6 N n q (dg (val a*val b)) ((sa.mul sb rfl).le hl)
 have e : ∀ n,zv n (dg (val a*val b))=bif n then -((val a*val b:Nat):Int) else ((val a*val b:Nat):Int):=λ n=>by unfold zv;rw[B1]
 have e2:zv n1 a*zv n2 b=zv (n1 != n2) (dg (val a*val b)):=by
  rw[e];cases n1<;>cases n2<;>simp [EL,O2,Int.mul_neg,Int.neg_mul]
 rw[e2];refine Ev.x N.M3 rfl rfl ?_;cases n1<;>cases n2;all_goals
  (repeat' ((first|apply AD|refine AE (h1 _ _) ?_|refine AE (hT _ _) ?_)<;>conv=>whnf))
  exact AZ rfl (DM _)
theorem nR (N:a9 L) (n1 n2 q1 q2:Bool) (a b:List Nat) (ha:Sm 274877906943 a) (hb:Sm 274877906943 b):Ev L 115 [.agg (rZ q1 n1 a),.agg (rZ q2 n2 b)] (.agg (eZ (zv n1 a+zv n2 b))):=by
 have t1:=λ q=>I6 N n1 q a (ha.le (by omega))
 have t2:=λ q=>I6 N n2 q b (hb.le (by omega))
 have s1:Sm 274877906943 (dg (zv n1 a).natAbs):=by rw[EV];exact ha.vz
 have s2:Sm 274877906943 (dg (zv n2 b).natAbs):=by rw[EV];exact hb.vz
 generalize zv n1 a=x at *;generalize zv n2 b=y at *;have h1:=λ q q'=>nO N (dg x.natAbs) (dg y.natAbs) q q' s1.1 s2.1 (by have:=s1.2;omega) (by have:=s2.2;omega)
 have h2:=λ q q'=>cJ N (dg x.natAbs) (dg y.natAbs) q q' s1.1 s2.1 (by have:=s1.2;omega) (by have:=s2.2;omega)
 have h3:=λ q q'=>cJ N (dg y.natAbs) (dg x.natAbs) q q' s2.1 s1.1 (by have:=s2.2;omega) (by have:=s1.2;omega)
 have k8:=λ q q'=>cI N (dg x.natAbs) (dg y.natAbs) q q' s1.1 s2.1 (by have:=s1.2;omega) (by have:=s2.2;omega)
 rw[B1,B1]at h1 h2 h3 k8;have u1:=λ n q=>I6 N n q (dg (x.natAbs+y.natAbs)) (s1.add s2 (by rw[B1,B1];omega))
 have u2:=λ n q=>I6 N n q (dg (x.natAbs-y.natAbs)) ((s1.low (V:=x.natAbs-y.natAbs) (by rw[B1];omega)).le (by omega))
 have u3:=λ n q=>I6 N n q (dg (y.natAbs-x.natAbs)) ((s2.low (V:=y.natAbs-x.natAbs) (by rw[B1];omega)).le (by omega))
 have e : ∀ n V,zv n (dg V)=bif n then -(V:Int) else (V:Int):=λ n V=>by unfold zv;rw[B1]
 refine Ev.x N.MW rfl rfl ?_;(repeat' ((first|apply AD|refine AE (t1 _) ?_|refine AE (t2 _) ?_)<;>conv=>whnf))
 cases hx:decide (x<0)<;>cases hy:decide (y<0)
 ·have g1:=of_decide_eq_false hx
  have g2:=of_decide_eq_false hy;have hz:x+y=zv false (dg (x.natAbs+y.natAbs)):=by rw[e];simp only[cond_true,cond_false];omega
  rw[hz];(conv=>whnf)
  (repeat' ((first|refine AE (h1 _ _) ?_|refine AE (u1 _ _) ?_)<;>conv=>whnf))
  exact AZ rfl (DM _)
 ·have g1:=of_decide_eq_false hx
  have g2:=of_decide_eq_true hy;by_cases k7:x.natAbs<y.natAbs
  ·have hz:x+y=zv true (dg (y.natAbs-x.natAbs)):=by rw[e];simp only[cond_true,cond_false];omega
   rw[hz];rw[<-HZ (by omega)]at k8;(conv=>whnf)
   (repeat' ((first|(apply AG<;>intro hc<;>try (exfalso;omega))|refine AE (k8 _ _) ?_|refine AE (h3 _ _) ?_|refine AE (u3 _ _) ?_)<;>conv=>whnf))
   exact AZ rfl (DM _)
  ·have hz:x+y=zv false (dg (x.natAbs-y.natAbs)):=by rw[e];simp only[cond_true,cond_false];omega
   rw[hz];have jq:=X2 (show y.natAbs<=x.natAbs by omega);generalize C9 (x.natAbs:Nat) (y.natAbs:Nat)=cm at *;(conv=>whnf)
   (repeat' ((first|(apply AG<;>intro hc<;>try (exfalso;omega))|refine AE (k8 _ _) ?_|refine AE (h2 _ _) ?_|refine AE (u2 _ _) ?_)<;>conv=>whnf))
   exact AZ rfl (DM _)
 ·have g1:=of_decide_eq_true hx
  have g2:=of_decide_eq_false hy;by_cases k7:x.natAbs<y.natAbs
  ·have hz:x+y=zv false (dg (y.natAbs-x.natAbs)):=by rw[e];simp only[cond_true,cond_false];omega
   rw[hz];rw[<-HZ (by omega)]at k8;(conv=>whnf)
   (repeat' ((first|(apply AG<;>intro hc<;>try (exfalso;omega))|refine AE (k8 _ _) ?_|refine AE (h3 _ _) ?_|refine AE (u3 _ _) ?_)<;>conv=>whnf))
   exact AZ rfl (DM _)
  ·have hz:x+y=zv true (dg (x.natAbs-y.natAbs)):=by rw[e];simp only[cond_true,cond_false];omega
   rw[hz];have jq:=X2 (show y.natAbs<=x.natAbs by omega);generalize C9 (x.natAbs:Nat) (y.natAbs:Nat)=cm at *;(conv=>whnf)
   (repeat' ((first|(apply AG<;>intro hc<;>try (exfalso;omega))|refine AE (k8 _ _) ?_|refine AE (h2 _ _) ?_|refine AE (u2 _ _) ?_)<;>conv=>whnf))
   exact AZ rfl (DM _)
 ·have g1:=of_decide_eq_true hx
  have g2:=of_decide_eq_true hy;have hz:x+y=zv true (dg (x.natAbs+y.natAbs)):=by rw[e];simp only[cond_true,cond_false];omega
  rw[hz];(conv=>whnf)
  (repeat' ((first|refine AE (h1 _ _) ?_|refine AE (u1 _ _) ?_)<;>conv=>whnf))
  exact AZ rfl (DM _)
theorem Wx (N:a9 L) (n1 n2 q1 q2:Bool) (a b:List Nat) (ha:Sm 274877906943 a) (hb:Sm 274877906943 b):Ev L 116 [.agg (rZ q1 n1 a),.agg (rZ q2 n2 b)] (.agg (eZ (zv n1 a-zv n2 b))):=by
 have t2:=λ q=>cK N n2 q b (hb.le (by omega))
 have s2:Sm 274877906943 (dg (-(zv n2 b)).natAbs):=by rw[Int.natAbs_neg,EV];exact hb.vz
 have h1:=λ q q'=>nR N n1 (decide (-(zv n2 b)<0)) q q' a (dg (-(zv n2 b)).natAbs) ha s2
 rw[E2,<-Int.sub_eq_add_neg]at h1;refine Ev.x N.M7 rfl rfl ?_;(repeat' ((first|apply AD|refine AE (t2 _) ?_|refine AE (h1 _ _) ?_)<;>conv=>whnf))
 exact AZ rfl (DM _)
theorem Wv (N:a9 L) (n1 n2 q1 q2:Bool) (a b:List Nat) (ha:Sm 274877906943 a) (hb:Sm 274877906943 b):Ev L 117 [.agg (rZ q1 n1 a),.agg (rZ q2 n2 b)] (.int .i64 (o8 (zv n1 a-zv n2 b))):=by
 have h1:=λ q q'=>Wx N n1 n2 q q' a b ha hb
 have s1:Sm 274877906943 (dg (zv n1 a).natAbs):=by rw[EV];exact ha.vz
 have s2:Sm 274877906943 (dg (zv n2 b).natAbs):=by rw[EV];exact hb.vz
 have s3:Sm 274877906944 (dg (zv n1 a-zv n2 b).natAbs):=s1.add s2 (by rw[B1,B1];omega);have h2:=λ q=>VD N (decide (zv n1 a-zv n2 b<0)) q (dg (zv n1 a-zv n2 b).natAbs) s3
 rw[E2]at h2;refine Ev.x N.MX rfl rfl ?_;(repeat' ((first|apply AD|refine AE (h1 _ _) ?_|refine AE (h2 _) ?_)<;>conv=>whnf))
 exact C2 rfl
theorem cL (N:a9 L) (z:Int) (hz : -9223372036854775808<=z/\z<=9223372036854775807):Ev L 112 [.int .i64 z] (.agg (eZ z)):=by
 have two : ∀ k:Nat,k<18446744073709551616 -> ∀ n q,Ev L 111 [.agg [.bool n,.sl q [[.int .u32 ((k%4294967296:Nat):Int)],[.int .u32 ((k/4294967296:Nat):Int)]]]] (.agg (eZ (bif n then -(k:Int) else (k:Int)))):=λ k hk n q=>by
  have:=I6 N n q [k%4294967296,k/4294967296] ⟨(bM hk).2,by simp⟩
  unfold zv at this;rw[uV hk]at this;exact this
 refine Ev.x N.M5 rfl rfl ?_;by_cases h0:0<=z
 ·obtain ⟨k,rfl⟩:=Int.eq_ofNat_of_zero_le h0
  have hT:=two k (by omega);(repeat' ((first|(apply AG<;>intro hc<;>try (exfalso;omega))|apply FC|(apply CR;omega)|(apply EE;omega)|apply FK|refine ST rfl rfl ?_|apply AD)<;>conv=>whnf))
  generalize k%4294967296=lo at *;generalize k/4294967296=hi at *;(repeat' (refine AE (hT _ _) ?_<;>conv=>whnf))
  exact AZ rfl (DM _)
 ·obtain ⟨k,hk⟩:=Int.eq_ofNat_of_zero_le (show 0 <= -(z+1) by omega)
  have nq:z = -((k+1:Nat):Int):=by omega
  have hT:=two (k+1) (by omega);(repeat' ((first|(apply AG<;>intro hc<;>try (exfalso;omega))|(apply AU;omega)|apply xH|(apply CI.neg;omega)|(apply CR;omega)|apply AD)<;>conv=>whnf))
  rw[show IntKind.u64.wrap (-(z+1)+1)=((k+1:Nat):Int) by rw[IntWalk.u64_in _ (by omega)];omega];rw[nq];generalize k+1=k1 at *;(repeat' ((first|apply FC|(apply EE;omega)|apply FK|refine ST rfl rfl ?_)<;>conv=>whnf))
  generalize k1%4294967296=lo at *;generalize k1/4294967296=hi at *;(repeat' (refine AE (hT _ _) ?_<;>conv=>whnf))
  exact AZ rfl (DM _)
theorem Ww (N:a9 L) (n1 n2 q1 q2:Bool) (a b:List Nat) (ha:Sm 274877906944 a) (hb:Sm 274877906944 b):Ev L 120 [.agg (rZ q1 n1 a),.agg (rZ q2 n2 b)] (.agg (eZ ((Nat.gcd (val a) (val b):Nat):Int))):=by
 have h1:=λ q q'=>Yc N a b q q' ha.1 hb.1 ha.2 hb.2
 refine Ev.x N.MZ rfl rfl ?_;(repeat' ((first|apply AD|refine AE (h1 _ _) ?_)<;>conv=>whnf))
 exact AZ (EP (by omega) (GA (by omega))) (DM _)
theorem Vp (n1 n2:Bool) (A B:Nat) (hB:B≠0):(bif n1 then -(A:Int) else (A:Int))/(bif n2 then -(B:Int) else (B:Int))=(bif n1 != n2 then -((if n1=true/\A%B≠0 then A/B+1 else A/B:Nat):Int) else ((if n1=true/\A%B≠0 then A/B+1 else A/B:Nat):Int)) /\
  (bif n1 then -(A:Int) else (A:Int))%(bif n2 then -(B:Int) else (B:Int))=((if n1=true/\A%B≠0 then B-A%B else A%B:Nat):Int):=by
 have hBp:(0:Int)<B:=by omega
 have key : ∀ x:Int,x/(bif n2 then -(B:Int) else (B:Int))=(bif n2 then -(x/B) else x/B)/\x%(bif n2 then -(B:Int) else (B:Int))=x%B:=λ x=>by
  cases n2
  ·exact ⟨rfl,rfl⟩
  ·exact ⟨Int.ediv_neg x B,Int.emod_neg x B⟩
 rw[(key _).1,(key _).2];cases n1
 ·have h1:((A:Int))/B=((A/B:Nat):Int):=by simp
  have h2:((A:Int))%B=((A%B:Nat):Int):=by simp
  simp only[cond_false,h1,h2];cases n2<;>simp
 ·have hd:=Nat.div_add_mod A B
  have k7:=Nat.mod_lt A (show B>0 by omega);by_cases h0:A%B=0
  ·have e : -(A:Int)=(B:Int)*(-((A/B:Nat):Int)):=by
    rw[h0,Nat.add_zero]at hd;rw[Int.mul_neg,<-Int.natCast_mul,hd]
   have h1 : -(A:Int)/B = -((A/B:Nat):Int):=by rw[e,Int.mul_ediv_cancel_left _ (by omega)]
   have h2 : -(A:Int)%B=0:=by rw[e,Int.mul_emod_right]
   simp only[cond_true,h1,h2,h0];cases n2<;>simp
  ·have e : -(A:Int)=(B:Int)*(-((A/B+1:Nat):Int))+((B-A%B:Nat):Int):=by
    have h3:(B:Int)*((A/B:Nat):Int)+((A%B:Nat):Int)=A:=by rw[<-Int.natCast_mul,<-Int.natCast_add,hd]
    rw[Int.mul_neg,Int.natCast_add,Int.mul_add];omega
   have h1 : -(A:Int)/B = -((A/B+1:Nat):Int):=by
    rw[e,Int.mul_add_ediv_left _ _ (by omega),Int.ediv_eq_zero_of_lt (by omega) (by omega),Int.add_zero]
   have h2 : -(A:Int)%B=((B-A%B:Nat):Int):=by
    rw[e,Int.mul_add_emod_self_left,Int.emod_eq_of_lt (by omega) (by omega)]
   simp only[cond_true,h1,h2];cases n2<;>simp [h0]
theorem nS (N:a9 L) (n1 n2 q1 q2:Bool) (a b:List Nat) (ha:Sm 274877906943 a) (hb:Sm 274877906943 b) (h0:zv n2 b≠0):Ev L 119 [.agg (rZ q1 n1 a),.agg (rZ q2 n2 b)] (.g7 [.agg (eZ (zv n1 a/zv n2 b)),.agg (eZ (zv n1 a%zv n2 b)),.int .i64 0]):=by
 have t1:=λ q=>I6 N n1 q a (ha.le (by omega))
 have t2:=λ q=>I6 N n2 q b (hb.le (by omega))
 have s1:Sm 274877906943 (dg (zv n1 a).natAbs):=by rw[EV];exact ha.vz
 have s2:Sm 274877906943 (dg (zv n2 b).natAbs):=by rw[EV];exact hb.vz
 generalize zv n1 a=x at *;generalize zv n2 b=y at *;have Cf:=λ q q'=>nP N (dg x.natAbs) (dg y.natAbs) q q' s1.1 s2.1 (by have:=s1.2;omega) (by have:=s2.2;omega) (by rw[B1];omega)
 rw[B1,B1]at Cf;obtain ⟨e1,e2⟩:=Vp (decide (x<0)) (decide (y<0)) x.natAbs y.natAbs (by omega);have hx:(bif decide (x<0) then -(x.natAbs:Int) else (x.natAbs:Int))=x:=by have:=E2 x;unfold zv at this;rw[B1]at this;exact this
 have hy:(bif decide (y<0) then -(y.natAbs:Int) else (y.natAbs:Int))=y:=by have:=E2 y;unfold zv at this;rw[B1]at this;exact this
 rw[hx,hy]at e1 e2;rw[e1,e2];have l1:=s1.2;have l2:=s2.2;have hq:Sm 274877906943 (dg (x.natAbs/y.natAbs)):=s1.low (by rw[B1];exact Nat.div_le_self _ _);have hr:Sm 274877906943 (dg (x.natAbs%y.natAbs)):=s2.low (by rw[B1];exact Nat.le_of_lt (Nat.mod_lt _ (by omega)));have hrz:=H2 (x.natAbs%y.natAbs);have fu:Ev L 103 [.sl false ((dg (x.natAbs/y.natAbs)).map AL),.sl true [[.int .u32 1]]] (.sl false ((dg (x.natAbs/y.natAbs+1)).map AL)):=by
  have:=nO N (dg (x.natAbs/y.natAbs)) [1] false true (DU _) (HB (by omega)) (by have:=hq.2;omega) (by simp)
  rw[B1,show val [1]=1 from rfl]at this;exact this
 have xj:Sm 274877906944 (dg (x.natAbs/y.natAbs+1)):=hq.add (b:=[1]) (gL (by omega) (by omega)) (by rw[B1];simp [val]);have xp:=λ q q'=>cJ N (dg y.natAbs) (dg (x.natAbs%y.natAbs)) q q' s2.1 hr.1 (by omega) (by have:=hr.2;omega)
 rw[B1,B1]at xp;have u1:=λ n q=>I6 N n q (dg (x.natAbs/y.natAbs)) (hq.le (by omega))
 have u2:=λ n q=>I6 N n q (dg (x.natAbs/y.natAbs+1)) xj
 have ez : ∀ n V,zv n (dg V)=bif n then -(V:Int) else (V:Int):=λ n V=>by unfold zv;rw[B1]
 have fin : ∀ (z:Int) (V:Nat),AJ (.g7 [.agg (eZ z),.agg [.bool false,.sl false ((dg V).map AL)],.int .i64 0]) (.g7 [.agg (eZ z),.agg (eZ (V:Int)),.int .i64 0]):=λ z V=>by
  have e3:AV.agg (eZ (V:Int)) = .agg [.bool false,.sl false ((dg V).map AL)]:=(EP (by omega) (GA (by omega))).symm;rw[e3];refine AZ rfl ?_;simp only[A4,CW,and_true,true_and];exact ⟨CQ _,CQ _⟩
 clear e1 e2 hx hy;generalize x.natAbs/y.natAbs=qq at *;generalize x.natAbs%y.natAbs=rr at *;refine Ev.x N.MY rfl rfl ?_;(repeat' ((first|(apply AG<;>intro hc<;>try (exfalso;omega))|apply AD|refine AE (t1 _) ?_|refine AE (t2 _) ?_|refine AE (Cf _ _) ?_)<;>conv=>whnf))
 generalize decide (x<0)=p at *;generalize decide (y<0)=r at *;cases p
 ·rw[if_neg (by simp),if_neg (by simp),<-ez]
  cases r;all_goals
   (conv=>whnf)
   (repeat' (refine AE (u1 _ _) ?_<;>conv=>whnf))
   exact fin _ _
 ·by_cases o5:rr=0
  ·rw[if_neg (by simp [o5]),if_neg (by simp [o5]),<-ez]
   cases r;all_goals
    (conv=>whnf)
    (repeat' ((first|(apply AG<;>intro hc<;>try (exfalso;omega))|apply AR|refine AE (u1 _ _) ?_)<;>conv=>whnf))
    exact fin _ _
  ·rw[if_pos ⟨rfl,o5⟩,if_pos ⟨rfl,o5⟩,<-ez]
   cases r;all_goals
    (conv=>whnf)
    (repeat' ((first|(apply AG<;>intro hc<;>try (exfalso;omega))|apply AR|refine IL rfl ?_|refine AE (fu) ?_|refine AE (xp _ _) ?_|refine AE (u2 _ _) ?_)<;>conv=>whnf))
    exact fin _ _
end Go.c5

namespace Go.c5
abbrev rQ (q1 q2 n:Bool) (m d:List Nat):List AV:=[.bool n,.sl q1 (m.map AL),.sl q2 (d.map AL)]
abbrev eQ (x:Rat):List AV:=rQ false false (decide (x.num<0)) (dg x.num.natAbs) (dg x.den)
def qv (n:Bool) (m d:List Nat):Rat:=mkRat (zv n m) (val d)
theorem EJ (x:Rat):qv (decide (x.num<0)) (dg x.num.natAbs) (dg x.den)=x:=by
 unfold qv;rw[E2,B1,Rat.mkRat_self]
theorem oR {d:Nat} (z:Nat) (hd:d≠0):0<Nat.gcd d z:=Nat.gcd_pos_of_pos_left z (by omega)
theorem dY {z:Int} {d:Nat} (hd:d≠0):(mkRat z d).num.natAbs=z.natAbs/Nat.gcd d z.natAbs/\(mkRat z d).den=d/Nat.gcd d z.natAbs/\decide ((mkRat z d).num<0)=decide (z<0):=by
 have hg:=oR z.natAbs hd;have h1:=Rat.num_mkRat z d;have h2:=Rat.den_mkRat z d;rw[if_neg hd]at h1 h2;rw[h1,h2];obtain ⟨k,hk⟩:=Nat.gcd_dvd_right d z.natAbs;generalize hG:Nat.gcd d z.natAbs=g at *;have hz:z=(g:Int)*(z.sign*k):=by
  rw[<-Int.mul_assoc,Int.mul_comm (g:Int),Int.mul_assoc,<-Int.natCast_mul,<-hk,Int.sign_mul_natAbs]
 have e1:z/(g:Int)=z.sign*k:=by
  rw[hz,Int.mul_ediv_cancel_left _ (by omega),<-hz]
 refine ⟨?_,rfl,?_⟩
 ·rw[e1,Int.natAbs_mul,hk,Nat.mul_div_cancel_left _ hg]
  by_cases h0:z=0
  ·subst h0
   have:k=0:=by
    have h5:g*k=0:=hk.symm;rcases Nat.mul_eq_zero.1 h5 with h|h
    ·omega
    ·exact h
   subst this;simp
  ·rw[Int.natAbs_sign_of_ne_zero h0,Nat.one_mul];simp
 ·congr 1
  rw[eq_iff_iff];rw[Int.ediv_lt_iff_lt_mul (by omega),Int.zero_mul]
theorem DH (x:Rat):A4 (.agg (eQ x)):=by
 simp only[A4,CW,and_true,true_and];exact ⟨CQ _,CQ _⟩
theorem UV (b w:Bool) (m d:List Nat):A4 (.agg [.bool b,.sl false (m.map AL),.sl false (d.map AL),.bool w]):=by
 simp only[A4,CW,and_true,true_and];exact ⟨CQ _,CQ _⟩
theorem kC (b:Bool) (m:List Nat):A4 (.agg [.bool b,.sl false (m.map AL)]):=by
 simp only[A4,CW,and_true,true_and];exact CQ _
theorem XZ (b:Bool) (m d:List Nat):A4 (.agg [.bool b,.sl false (m.map AL),.sl false (d.map AL)]):=by
 simp only[A4,CW,and_true,true_and];exact ⟨CQ _,CQ _⟩
theorem VO (q:Bool) (l:List Nat):UI (.sl q (l.map AL)):=by
 intro e he c hc;obtain ⟨x,_,rfl⟩:=List.mem_map.1 he;simp at hc;subst hc;rfl
theorem aA {r:AV} {K:AV->Prop} (h:JS r) (hk:K (xv r)):BU r K:=⟨Or.inl h,by rw[dO h];exact hk⟩
theorem GV {b w q1 q2:Bool} {m d:List Nat} {K:AV->Prop} (hk:K (.agg [.bool b,.sl true (m.map AL),.sl true (d.map AL),.bool w])):BU (.agg [.bool b,.sl q1 (m.map AL),.sl q2 (d.map AL),.bool w]) K:=by
 refine aA ?_ hk;intro c hc;simp only[List.mem_cons,List.not_mem_nil,or_false]at hc;rcases hc with rfl|rfl|rfl|rfl
 ·trivial
 ·exact VO _ _
 ·exact VO _ _
 ·trivial
theorem iU {b q1 q2:Bool} {m d:List Nat} {K:AV->Prop} (hk:K (.agg [.bool b,.sl true (m.map AL),.sl true (d.map AL)])):BU (.agg [.bool b,.sl q1 (m.map AL),.sl q2 (d.map AL)]) K:=by
 refine aA ?_ hk;intro c hc;simp only[List.mem_cons,List.not_mem_nil,or_false]at hc;rcases hc with rfl|rfl|rfl
 ·trivial
 ·exact VO _ _
 ·exact VO _ _
theorem Q4 {b q1:Bool} {m:List Nat} {K:AV->Prop} (hk:K (.agg [.bool b,.sl true (m.map AL)])):BU (.agg [.bool b,.sl q1 (m.map AL)]) K:=by
 refine aA ?_ hk;intro c hc;simp only[List.mem_cons,List.not_mem_nil,or_false]at hc;rcases hc with rfl|rfl
 ·trivial
 ·exact VO _ _
theorem YU {a b:Int} {d e:Nat} (hd:d≠0) (he:e≠0):mkRat a d+mkRat b e=mkRat (a*e+b*d) (d*e):=Rat.mkRat_add_mkRat a b hd he
theorem qI {a b:Int} {d:Nat} (hd:d≠0):mkRat a d+mkRat b d=mkRat (a+b) d:=by
 rw[YU hd hd,<-Int.add_mul,Rat.mkRat_mul_right hd]
theorem dW (a b:Int) (d e:Nat):mkRat a d*mkRat b e=mkRat (a*b) (d*e):=Rat.mkRat_mul_mkRat a b d e
theorem qK (a:Int):mkRat a 1=(a:Rat):=by
 have h:=Rat.mkRat_self (a:Rat);rw[Rat.num_intCast,Rat.den_intCast]at h;exact h
theorem dX {z:Int} {d:Nat} (hd:d≠0):mkRat z d=0↔z=0:=Rat.mkRat_eq_zero hd
theorem qL {z:Int} {d:Nat} (hd:d≠0):o8 (mkRat z d).num=o8 z:=by
 obtain ⟨_,_,h⟩:=dY (z:=z) hd;have h0:(mkRat z d).num=0↔z=0:=by rw[Rat.num_eq_zero,dX hd]
 have h1:(mkRat z d).num<0↔z<0:=by simpa using h
 unfold o8;by_cases a:z<0
 ·rw[if_pos a,if_pos (h1.2 a)]
 ·rw[if_neg a,if_neg (λ h=>a (h1.1 h))]
  by_cases b:z=0
  ·rw[if_neg (by omega),if_neg (by have:=h0.2 b;omega)]
  ·rw[if_pos (by omega),if_pos (by have:=mt h0.1 b;have:=mt h1.1 a;omega)]
theorem Ae4 {a b:Int} {d e:Nat} (hd:d≠0) (he:e≠0) (hb:b≠0):mkRat a d/mkRat b e=mkRat (b.sign*(a*e)) (d*b.natAbs):=by
 have hbn:b.natAbs≠0:=by omega
 have h1:mkRat b e≠0:=λ h=>hb ((dX he).1 h)
 have key:mkRat (b.sign*(a*e)) (d*b.natAbs)*mkRat b e=mkRat a d:=by
  rw[dW];have e1:b.sign*(a*e)*b=a*((b.natAbs*e:Nat):Int):=by
   have:=Int.sign_mul_self b
   rw[Int.natCast_mul,<-this];grind
  rw[e1,show d*b.natAbs*e=d*(b.natAbs*e) by rw[Nat.mul_assoc]];exact Rat.mkRat_mul_right (Nat.mul_ne_zero hbn he)
 rw[<-key,Rat.mul_div_cancel h1]
theorem Ahh {x y:Int} (hy:y≠0):zv (decide (x<0) != decide (y<0)) (dg x.natAbs)=y.sign*x:=by
 unfold zv;rw[B1];rcases Int.lt_or_gt_of_ne hy with h|h
 ·rw[Int.sign_eq_neg_one_of_neg h]
  by_cases hx:x<0
  ·simp [hx,h];omega
  ·simp [hx,h];omega
 ·rw[Int.sign_eq_one_of_pos h]
  by_cases hx:x<0
  ·simp [hx,show ¬ y<0 by omega];omega
  ·simp [hx,show ¬ y<0 by omega];omega
end Go.c5

namespace Go.c5
open F
attribute [local irreducible] AA AF AM AC CI AW AX A5 A6 B3 AQ BS B7 C5 BQ A2 BO B9 AB A9 AJ pw BN BG CH CM CT CP CE BU CK
variable {L:Lib}
set_option maxHeartbeats 4000000
theorem lL:dg 1=[1]:=by rw[IM (by omega)];simp [EY]
theorem jM:AV.agg [.bool false,.sl false [],.sl false [[.int .u32 1]]] = .agg (eQ 0):=by
 show _=AV.agg (rQ _ _ _ _ _);rw[Rat.zero_num,Rat.zero_den,lL,show (0:Int).natAbs=0 from rfl,EY];rfl
theorem Tf {x y:Int} (hy:y≠0):(Rat.divInt x y).num=(if y<0 then -(x/((Nat.gcd x.natAbs y.natAbs:Nat):Int)) else x/((Nat.gcd x.natAbs y.natAbs:Nat):Int))/\(Rat.divInt x y).den=(y/((Nat.gcd x.natAbs y.natAbs:Nat):Int)).natAbs:=by
 have h1:=Rat.num_divInt x y;have h2:=Rat.den_divInt x y;rw[if_neg hy]at h2;have hg:Int.gcd y x=Nat.gcd x.natAbs y.natAbs:=by rw[Int.gcd,Nat.gcd_comm]
 rw[hg]at h1 h2;have Ku:0<Nat.gcd x.natAbs y.natAbs:=Nat.gcd_pos_of_pos_right _ (by omega);have dx:((Nat.gcd x.natAbs y.natAbs:Nat):Int) ∣ x:=Int.ofNat_dvd_left.2 (Nat.gcd_dvd_left _ _);have dy:((Nat.gcd x.natAbs y.natAbs:Nat):Int) ∣ y:=Int.ofNat_dvd_left.2 (Nat.gcd_dvd_right _ _);generalize Nat.gcd x.natAbs y.natAbs=g at *;rw[h1,h2];obtain ⟨u,rfl⟩:=dx;obtain ⟨v,rfl⟩:=dy;have Bd:(g:Int)≠0:=by omega
 refine ⟨?_,?_⟩
 ·rw[Int.mul_ediv_cancel_left _ Bd]
  split
  ·rename_i h
   rw[Int.sign_eq_neg_one_of_neg h,show -1*((g:Int)*u)=g*(-u) by rw[Int.mul_neg];omega,Int.mul_ediv_cancel_left _ Bd]
  ·rw[Int.sign_eq_one_of_pos (by omega),Int.one_mul,Int.mul_ediv_cancel_left _ Bd]
 ·rw[Int.mul_ediv_cancel_left _ Bd,Int.natAbs_mul,Int.natAbs_natCast,Nat.mul_div_cancel_left _ Ku]
theorem VF (N:a9 L) (n1 n2 q1 q2:Bool) (a b:List Nat) (ha:Sm 274877906943 a) (hb:Sm 274877906943 b):Ev L 121 [.agg (rZ q1 n1 a),.agg (rZ q2 n2 b)] (.agg (eQ (Rat.divInt (zv n1 a) (zv n2 b)))):=by
 have t1:=λ q=>VD N n1 q a (ha.le (by omega))
 have t2:=λ q=>VD N n2 q b (hb.le (by omega))
 by_cases h1:zv n1 a=0
 ·rw[h1,Rat.zero_divInt,<-jM]
  rw[h1,<-ZO rfl]at t1;refine Ev.x N.IC rfl rfl ?_;(repeat' ((first|(apply AG<;>intro hc<;>try (exfalso;omega))|refine IL rfl ?_|apply AD|refine AE (t1 _) ?_)<;>conv=>whnf))
  exact AZ rfl (XZ false [] [1])
 have s1:o8 (zv n1 a)≠0:=by unfold o8;split<;>(try split)<;>omega
 by_cases h2:zv n2 b=0
 ·rw[h2,Rat.divInt_zero,<-jM]
  rw[h2,<-ZO rfl]at t2;generalize o8 (zv n1 a)=sg at *;refine Ev.x N.IC rfl rfl ?_;(repeat' ((first|(apply AG<;>intro hc<;>try (exfalso;omega))|refine IL rfl ?_|apply AD|refine AE (t1 _) ?_|refine AE (t2 _) ?_)<;>conv=>whnf))
  exact AZ rfl (XZ false [] [1])
 have s2:o8 (zv n2 b)≠0:=by unfold o8;split<;>(try split)<;>omega
 obtain ⟨p1,p2⟩:=Tf (x:=zv n1 a) h2;have hG:=λ q q'=>Ww N n1 n2 q q' a b (ha.le (by omega)) (hb.le (by omega))
 have hle:Nat.gcd (val a) (val b)<=val b:=Nat.gcd_le_right _ (by have:=EV n2 b;omega);have Ku:0<Nat.gcd (val a) (val b):=Nat.gcd_pos_of_pos_right _ (by have:=EV n2 b;omega);have sg:Sm 274877906943 (dg (Nat.gcd (val a) (val b))):=hb.low hle;rw[EV,EV]at p1 p2;have hgf:decide (((Nat.gcd (val a) (val b):Nat):Int)<0)=false:=by simp
 have Rq:Sm 274877906943 (dg (((Nat.gcd (val a) (val b):Nat):Int)).natAbs):=by rw[Int.natAbs_natCast];exact sg
 have zg:zv (decide (((Nat.gcd (val a) (val b):Nat):Int)<0)) (dg (((Nat.gcd (val a) (val b):Nat):Int)).natAbs)=((Nat.gcd (val a) (val b):Nat):Int):=E2 _;have qi:=λ q q'=>nS N n1 _ q q' a _ ha Rq (by rw[zg];omega)
 have qj:=λ q q'=>nS N n2 _ q q' b _ hb Rq (by rw[zg];omega)
 rw[zg]at qi qj;have uf:Sm 274877906943 (dg (zv n1 a/((Nat.gcd (val a) (val b):Nat):Int)).natAbs):=ha.low (by
  have:(zv n1 a/((Nat.gcd (val a) (val b):Nat):Int)).natAbs<=(zv n1 a).natAbs:=Int.natAbs_ediv_le_natAbs _ _
  rw[EV]at this;exact this)
 have Bd:0<((Nat.gcd (val a) (val b):Nat):Int):=by omega
 generalize ((Nat.gcd (val a) (val b):Nat):Int)=g at *;generalize zv n1 a=x at *;generalize zv n2 b=y at *;generalize o8 x=sx at *;generalize o8 y=sy at *;have hN:=λ q=>cK N (decide (x/g<0)) q (dg (x/g).natAbs) (uf.le (by omega))
 rw[E2]at hN;have Cz:decide (y/g<0)=decide (y<0):=by
  congr 1;rw[eq_iff_iff,Int.ediv_lt_iff_lt_mul (by omega),Int.zero_mul]
 refine Ev.x N.IC rfl rfl ?_;(repeat' ((first|(apply AG<;>intro hc<;>try (exfalso;omega))|apply AD|refine AE (t1 _) ?_|refine AE (t2 _) ?_|refine AE (hG _ _) ?_|refine AE (qi _ _) ?_|refine AE (qj _ _) ?_)<;>conv=>whnf))
 cases Qs:decide (y/g<0)
 ·rw[Qs]at Cz
  rw[if_neg (of_decide_eq_false Cz.symm)]at p1;(conv=>whnf)
  skip
  refine AZ ?_ (DH _);show _=AV.agg (rQ _ _ _ _ _);rw[p1,p2]
 ·rw[Qs]at Cz
  rw[if_pos (of_decide_eq_true Cz.symm)]at p1;(conv=>whnf)
  (repeat' (refine AE (hN _) ?_<;>conv=>whnf))
  refine AZ ?_ (DH _);show _=AV.agg (rQ _ _ _ _ _);rw[p1,p2]
theorem Rt {z:Int} {d:List Nat}:Rat.divInt z (zv false d)=mkRat z (val d):=by rw[EL,Rat.divInt_ofNat]
def xI (n:Bool) (m d:List Nat) (n':Bool) (m' d':List Nat) (k:Nat):Prop:=Sm k m'/\Sm k d'/\val d'≠0/\qv n m d=mkRat (zv n' m') (val d')
theorem kG (n:Bool) (m d:List Nat):A4 (.g7 [.agg (rZ false n m),.agg (rZ false false d)]):=by
 simp only[A4,CW,and_true,true_and];exact ⟨CQ _,CQ _⟩
theorem OQ (N:a9 L) (n q:Bool) (m d:List Nat) (k:Nat) (hk:1<=k/\k<=274877906943) (hm:Sm k m) (hd:Sm k d) : ∃ n' m' d',Ev L 122 [.agg (rQ false q n m d)] (.g7 [.agg (rZ false n' m'),.agg (rZ false false d')])/\xI n m d n' m' d' k:=by
 have t1:=λ q=>FX N d q hd.1 (by have:=hd.2;omega)
 have hl:=H2 (val d);by_cases h0:val d=0
 ·refine ⟨false,[],[1],?_,ZP _,gL hk.1 (by omega),by decide,by unfold qv;rw[h0,Rat.mkRat_zero,vF,Rat.zero_mkRat]⟩
  refine Ev.x N.JH rfl rfl ?_;(repeat' ((first|(apply AG<;>intro hc<;>try (exfalso;omega))|apply AR|refine IL rfl ?_|apply AD|refine AE (t1 _) ?_)<;>conv=>whnf))
  exact AZ rfl (kG false [] [1])
 ·refine ⟨n,m,dg (val d),?_,hm,hd.vz,by rw[B1];exact h0,by rw[B1];rfl⟩
  refine Ev.x N.JH rfl rfl ?_;(repeat' ((first|(apply AG<;>intro hc<;>try (exfalso;omega))|apply AR|apply AD|refine AE (t1 _) ?_)<;>conv=>whnf))
  exact AZ rfl (kG _ _ _)
theorem Xa (N:a9 L) (n q:Bool) (m d:List Nat) (hm:Sm 274877906943 m) (hd:Sm 274877906943 d):Ev L 123 [.agg (rQ false q n m d)] (.agg (eQ (qv n m d))):=by
 obtain ⟨n',m',d',hp,s1,s2,s3,s4⟩:=OQ N n q m d 274877906943 (by omega) hm hd;have hr:=λ q q'=>VF N n' false q q' m' d' s1 s2
 rw[Rt,<-s4]at hr;refine Ev.x N.NJ rfl rfl ?_;(repeat' ((first|apply AD|refine AE (hp) ?_|refine AE (hr _ _) ?_)<;>conv=>whnf))
 exact AZ rfl (DH _)
theorem zI (z:Int):AV.agg [.bool (decide (z<0)),.sl false ((dg z.natAbs).map AL),.sl false [[.int .u32 1]]] = .agg (eQ (z:Rat)):=by
 show _=AV.agg (rQ _ _ _ _ _);rw[Rat.num_intCast,Rat.den_intCast,lL];rfl
theorem VE (N:a9 L) (z:Int) (hz : -9223372036854775808<=z/\z<=9223372036854775807):Ev L 124 [.int .i64 z] (.agg (eQ (z:Rat))):=by
 have h1:=cL N z hz;refine Ev.x N.NG rfl rfl ?_;(repeat' ((first|refine IL rfl ?_|apply AD|refine AE (h1) ?_)<;>conv=>whnf))
 exact AZ (zI z) (DH _)
theorem tK {z:Int} (hz : -9223372036854775808<=z/\z<=9223372036854775808):Sm 2 (dg z.natAbs):=Sm.dg (by omega)
theorem TF (N:a9 L) (x y:Int) (hx : -9223372036854775808<=x/\x<=9223372036854775807) (hy : -9223372036854775808<=y/\y<=9223372036854775807):Ev L 125 [.int .i64 x,.int .i64 y] (.agg (eQ (Rat.divInt x y))):=by
 have h1:=cL N x hx;have h2:=cL N y hy;have hr:=λ q q'=>VF N (decide (x<0)) (decide (y<0)) q q' _ _ ((tK (z:=x) (by omega)).le (by omega)) ((tK (z:=y) (by omega)).le (by omega))
 rw[E2,E2]at hr;refine Ev.x N.ND rfl rfl ?_;(repeat' ((first|apply AD|refine AE (h1) ?_|refine AE (h2) ?_|refine AE (hr _ _) ?_)<;>conv=>whnf))
 exact AZ rfl (DH _)
theorem PV {k l:Nat} {n1 n2:Bool} {a b:List Nat} (ha:Sm k a) (hb:Sm l b):Sm (k+l) (dg (zv n1 a*zv n2 b).natAbs):=ha.mul hb (by rw[Int.natAbs_mul,EV,EV])
theorem Agr {k:Nat} {x y:Int} (ha:Sm k (dg x.natAbs)) (hb:Sm k (dg y.natAbs)):Sm (k+1) (dg (x+y).natAbs):=ha.add hb (by rw[B1,B1];omega)
theorem nT (N:a9 L) (k:Nat) (hk:1<=k/\k<=68719476736) (n1 n2 q2 q4:Bool) (m1 d1 m2 d2:List Nat) (iy:Sm k m1) (nh:Sm k d1) (gf:Sm k m2) (ni:Sm k d2) :
  Ev L 126 [.agg (rQ false q2 n1 m1 d1),.agg (rQ false q4 n2 m2 d2)] (.agg (eQ (qv n1 m1 d1+qv n2 m2 d2))):=by
 obtain ⟨a1,a2,a3,w8,s1,s2,s3,s5⟩:=OQ N n1 q2 m1 d1 k (by omega) iy nh;obtain ⟨b1,b2,b3,ae,t1,t2,t3,t5⟩:=OQ N n2 q4 m2 d2 k (by omega) gf ni;have l1:=s1.2;have l2:=s2.2;have l3:=t1.2;have l4:=t2.2;rw[s5,t5,YU s3 t3,<-EL b3,<-EL a3];have ay:=λ q q'=>PH N a1 false q q' a2 b3 s1.1 t2.1 (by omega)
 have cr:=λ q q'=>PH N b1 false q q' b2 a3 t1.1 s2.1 (by omega)
 have qk:=λ q q'=>PH N false false q q' a3 b3 s2.1 t2.1 (by omega)
 have g1:Sm (k+k) (dg (zv a1 a2*zv false b3).natAbs):=PV s1 t2;have g2:Sm (k+k) (dg (zv b1 b2*zv false a3).natAbs):=PV t1 s2;have g3:=Agr g1 g2;have g4:Sm (k+k) (dg (zv false a3*zv false b3).natAbs):=PV s2 t2;have hA:=λ q q'=>nR N (decide (zv a1 a2*zv false b3<0)) (decide (zv b1 b2*zv false a3<0)) q q' _ _ (g1.le (by omega)) (g2.le (by omega))
 rw[E2,E2]at hA;have hR:=λ q q'=>VF N (decide (zv a1 a2*zv false b3+zv b1 b2*zv false a3<0)) (decide (zv false a3*zv false b3<0)) q q' _ _ (g3.le (by omega)) (g4.le (by omega))
 rw[E2,E2,show zv false a3*zv false b3=((val a3*val b3:Nat):Int) by rw[EL,EL];simp,Rat.divInt_ofNat]at hR;rw[show zv false a3*zv false b3=((val a3*val b3:Nat):Int) by rw[EL,EL];simp]at qk;refine Ev.x N.NA rfl rfl ?_;(repeat' ((first|apply AD|refine AE (w8) ?_|refine AE (ae) ?_|refine AE (ay _ _) ?_|refine AE (cr _ _) ?_|refine AE (hA _ _) ?_|refine AE (qk _ _) ?_|refine AE (hR _ _) ?_)<;>conv=>whnf))
 exact AZ rfl (DH _)
theorem Wz (N:a9 L) (k:Nat) (hk:1<=k/\k<=68719476736) (n1 n2 q2 q4:Bool) (m1 d1 m2 d2:List Nat) (iy:Sm k m1) (nh:Sm k d1) (gf:Sm k m2) (ni:Sm k d2) :
  Ev L 128 [.agg (rQ false q2 n1 m1 d1),.agg (rQ false q4 n2 m2 d2)] (.agg (eQ (qv n1 m1 d1*qv n2 m2 d2))):=by
 obtain ⟨a1,a2,a3,w8,s1,s2,s3,s5⟩:=OQ N n1 q2 m1 d1 k (by omega) iy nh;obtain ⟨b1,b2,b3,ae,t1,t2,t3,t5⟩:=OQ N n2 q4 m2 d2 k (by omega) gf ni;have l1:=s1.2;have l2:=s2.2;have l3:=t1.2;have l4:=t2.2;rw[s5,t5,dW];have ay:=λ q q'=>PH N a1 b1 q q' a2 b2 s1.1 t1.1 (by omega)
 have qk:=λ q q'=>PH N false false q q' a3 b3 s2.1 t2.1 (by omega)
 have g1:Sm (k+k) (dg (zv a1 a2*zv b1 b2).natAbs):=PV s1 t1;have g4:Sm (k+k) (dg (zv false a3*zv false b3).natAbs):=PV s2 t2;have hR:=λ q q'=>VF N (decide (zv a1 a2*zv b1 b2<0)) (decide (zv false a3*zv false b3<0)) q q' _ _ (g1.le (by omega)) (g4.le (by omega))
 rw[E2,E2,show zv false a3*zv false b3=((val a3*val b3:Nat):Int) by rw[EL,EL];simp,Rat.divInt_ofNat]at hR;rw[show zv false a3*zv false b3=((val a3*val b3:Nat):Int) by rw[EL,EL];simp]at qk;refine Ev.x N.NE rfl rfl ?_;(repeat' ((first|apply AD|refine AE (w8) ?_|refine AE (ae) ?_|refine AE (ay _ _) ?_|refine AE (qk _ _) ?_|refine AE (hR _ _) ?_)<;>conv=>whnf))
 exact AZ rfl (DH _)
theorem qJ {a b:Int} {d e:Nat} (hd:d≠0) (he:e≠0):o8 (a*e-b*d)=o8 (mkRat a d-mkRat b e).num:=by
 have h:mkRat a d-mkRat b e=mkRat (a*e-b*d) (d*e):=by
  rw[Rat.sub_eq_add_neg,Rat.neg_mkRat,YU hd he,Int.neg_mul,<-Int.sub_eq_add_neg]
 rw[h,qL (Nat.mul_ne_zero hd he)]
theorem Wy (N:a9 L) (k:Nat) (hk:1<=k/\k<=68719476736) (n1 n2 q2 q4:Bool) (m1 d1 m2 d2:List Nat) (iy:Sm k m1) (nh:Sm k d1) (gf:Sm k m2) (ni:Sm k d2) :
  Ev L 127 [.agg (rQ false q2 n1 m1 d1),.agg (rQ false q4 n2 m2 d2)] (.int .i64 (o8 (qv n1 m1 d1-qv n2 m2 d2).num)):=by
 obtain ⟨a1,a2,a3,w8,s1,s2,s3,s5⟩:=OQ N n1 q2 m1 d1 k (by omega) iy nh;obtain ⟨b1,b2,b3,ae,t1,t2,t3,t5⟩:=OQ N n2 q4 m2 d2 k (by omega) gf ni;have l1:=s1.2;have l2:=s2.2;have l3:=t1.2;have l4:=t2.2;rw[s5,t5,<-qJ s3 t3,<-EL b3,<-EL a3];have ay:=λ q q'=>PH N a1 false q q' a2 b3 s1.1 t2.1 (by omega)
 have cr:=λ q q'=>PH N b1 false q q' b2 a3 t1.1 s2.1 (by omega)
 have g1:Sm (k+k) (dg (zv a1 a2*zv false b3).natAbs):=PV s1 t2;have g2:Sm (k+k) (dg (zv b1 b2*zv false a3).natAbs):=PV t1 s2;have hC:=λ q q'=>Wv N (decide (zv a1 a2*zv false b3<0)) (decide (zv b1 b2*zv false a3<0)) q q' _ _ (g1.le (by omega)) (g2.le (by omega))
 rw[E2,E2]at hC;refine Ev.x N.NB rfl rfl ?_;(repeat' ((first|apply AD|refine AE (w8) ?_|refine AE (ae) ?_|refine AE (ay _ _) ?_|refine AE (cr _ _) ?_|refine AE (hC _ _) ?_)<;>conv=>whnf))
 exact C2 rfl
end Go.c5

namespace Go.c5
def Bt (k:Nat) (x:Rat):Prop:=x.num.natAbs<=2^k/\x.den<=2^k
theorem Bt.le {k l:Nat} {x:Rat} (h:Bt k x) (hl:k<=l):Bt l x:=by
 have:=Nat.pow_le_pow_right (show 0<2 by omega) hl
 exact ⟨Nat.le_trans h.1 this,Nat.le_trans h.2 this⟩
theorem Bt.mk {k:Nat} {z:Int} {d:Nat} (hz:z.natAbs<=2^k) (hd:d<=2^k):Bt k (mkRat z d):=by
 by_cases h0:d=0
 ·subst h0
  rw[Rat.mkRat_zero];exact ⟨by simp,by simp;exact Nat.one_le_two_pow⟩
 ·obtain ⟨e1,e2,_⟩:=dY (z:=z) h0
  unfold Bt;rw[e1,e2];exact ⟨Nat.le_trans (Nat.div_le_self _ _) hz,Nat.le_trans (Nat.div_le_self _ _) hd⟩
theorem Bt.add {k l:Nat} {x y:Rat} (hx:Bt k x) (hy:Bt l y):Bt (k+l+1) (x+y):=by
 rw[Rat.add_def'];refine Bt.mk ?_ ?_
 ·have h1:(x.num*y.den).natAbs<=2^k*2^l:=by rw[Int.natAbs_mul,Int.natAbs_natCast];exact Nat.mul_le_mul hx.1 hy.2
  have h2:(y.num*x.den).natAbs<=2^l*2^k:=by rw[Int.natAbs_mul,Int.natAbs_natCast];exact Nat.mul_le_mul hy.1 hx.2
  rw[Nat.mul_comm (2^l)]at h2;rw[Nat.pow_succ,Nat.pow_add];have h3:=Int.natAbs_add_le (x.num*y.den) (y.num*x.den);omega
 ·rw[Nat.pow_succ,Nat.pow_add]
  have:=Nat.mul_le_mul hx.2 hy.2
  omega
theorem Bt.mul {k l:Nat} {x y:Rat} (hx:Bt k x) (hy:Bt l y):Bt (k+l) (x*y):=by
 rw[Rat.mul_def'];refine Bt.mk ?_ ?_
 ·rw[Int.natAbs_mul,Nat.pow_add];exact Nat.mul_le_mul hx.1 hy.1
 ·rw[Nat.pow_add];exact Nat.mul_le_mul hx.2 hy.2
theorem Bt.zero (k:Nat):Bt k 0:=⟨by simp,by simp;exact Nat.one_le_two_pow⟩
theorem Bt.one (k:Nat):Bt k 1:=⟨by simp;exact Nat.one_le_two_pow,by simp;exact Nat.one_le_two_pow⟩
theorem Bt.Ns {k n:Nat} {x:Rat} (h:Bt k x) (hn:k<32*n):Sm n (dg x.num.natAbs)/\Sm n (dg x.den):=by
 have e:2^k<4294967296^n:=by
  rw[show 4294967296=2^32 from rfl,<-Nat.pow_mul];exact (Nat.pow_lt_pow_iff_right (by omega)).2 hn
 exact ⟨Sm.dg (Nat.lt_of_le_of_lt h.1 e),Sm.dg (Nat.lt_of_le_of_lt h.2 e)⟩
def Bs (k:Nat) (l:List Rat):Prop := ∀ x∈l,Bt k x
theorem Bs.at {k:Nat} {l:List Rat} (h:Bs k l) {i:Nat} {x:Rat} (hx:l[i]? = some x):Bt k x:=h x (zM hx)
theorem Bs.le {k j:Nat} {l:List Rat} (h:Bs k l) (hj:k<=j):Bs j l:=λ x hx=>(h x hx).le hj
theorem Bs.take {k:Nat} {l:List Rat} (h:Bs k l) (n:Nat):Bs k (l.take n):=λ x hx=>h x (List.mem_of_mem_take hx)
def A3:List Rat->List Rat->Rat
 | x::xs,y::ys=>x*y+A3 xs ys
 | _,_=>0
theorem S9 (l:List Rat):A3 l []=0:=by cases l<;>rfl
theorem mE : ∀ {a b:List Rat} {x y:Rat},a.length=b.length->A3 (a++[x]) (b++[y])=A3 a b+x*y
 | [],[],x,y,_=>by show x*y+0=0+x*y;rw[Rat.add_zero,Rat.zero_add]
 | p::a,q::b,x,y,h=>by
  show p*q+A3 (a++[x]) (b++[y])=p*q+A3 a b+x*y;rw[mE (by simpa using h),Rat.add_assoc]
theorem U4 {a b:List Rat} {i:Nat} {x y:Rat} (hx:a[i]? = some x) (hy:b[i]? = some y):A3 (a.take (i+1)) (b.take (i+1))=A3 (a.take i) (b.take i)+x*y:=by
 have h1:=(zS hx).1;have h2:=(zS hy).1;rw[List.take_add_one,List.take_add_one,hx,hy,Option.toList_some,Option.toList_some,mE (by rw[List.length_take,List.length_take];omega)]
theorem S8 {a b:List Rat} {n:Nat} (h:a.length=n):A3 (a.take n) (b.take n)=A3 a b:=by
 subst h;rw[List.take_of_length_le (Nat.le_refl _)];induction a generalizing b with
 | nil=>cases b<;>rfl
 | cons x a ih=>cases b with
  | nil=>rfl
  | cons y b=>simp only[List.length_cons,List.take_succ_cons,A3,ih]
theorem Bs.dot {k l:Nat} : ∀ {a b:List Rat},Bs k a->Bs l b->Bt (a.length*(k+l+1)) (A3 a b)
 | [],b,_,_=>by cases b<;>exact Bt.zero _
 | x::a,[],_,_=>Bt.zero _
 | x::a,y::b,ha,hb=>by
  have h1:=(ha x (by simp)).mul (hb y (by simp));have h2:=Bs.dot (a:=a) (b:=b) (λ z hz=>ha z (by simp [hz])) (λ z hz=>hb z (by simp [hz]));refine (h1.add h2).le ?_;rw[List.length_cons,Nat.succ_mul];omega
def SW (a b:List Rat):List Rat:=List.zipWith (· + ·) a b
theorem mB : ∀ {a u v:List Rat},u.length=v.length->A3 a (SW u v)=A3 a u+A3 a v
 | [],_,_,_=>by simp only[A3];rw[Rat.add_zero]
 | x::a,[],[],_=>by simp only[SW,List.zipWith_nil_left,A3];rw[Rat.add_zero]
 | x::a,p::u,q::v,h=>by
  show x*(p+q)+A3 a (SW u v)=_;rw[mB (by simpa using h)];simp only[A3];grind
structure HM where
 a:List (List Rat)
 b:List Rat
 c:List Rat
 d:Rat
structure HM.Ok (S:HM) (n k:Nat):Prop where
 la:S.a.length=n
 lr : ∀ r∈S.a,r.length=n
 lb:S.b.length=n
 lc:S.c.length=n
 ba : ∀ r∈S.a,Bs k r
 bb:Bs k S.b
 bc:Bs k S.c
 bd:Bt k S.d
def FZ (n:Nat) (j:Int):List Rat:=(List.range n).map λ i:Nat=>if (i:Int)=j then 1 else 0
theorem iF (n:Nat) (j:Int):(FZ n j).length=n:=by simp [FZ]
end Go.c5

namespace Go.c5
open F
attribute [local irreducible] AA AF AM AC CI AW AX A5 A6 B3 AQ BS B7 C5 BQ A2 BO B9 AB A9 AJ pw BN BG CH CM CT CP CE BU CK
variable {L:Lib}
set_option maxHeartbeats 4000000
theorem Bt.jd {k:Nat} {x:Rat} (h:Bt k x) (hk:k<2199023255552):Sm 68719476736 (dg x.num.natAbs)/\Sm 68719476736 (dg x.den):=h.Ns (by omega)
theorem U9 (N:a9 L) {x y:Rat} {k l:Nat} (hx:Bt k x) (hy:Bt l y) (hk:k<2199023255552) (hl:l<2199023255552):Ev L 126 [.agg (eQ x),.agg (eQ y)] (.agg (eQ (x+y))):=by
 have:=nT N 68719476736 (by omega) (decide (x.num<0)) (decide (y.num<0)) false false _ _ _ _ (hx.jd hk).1 (hx.jd hk).2 (hy.jd hl).1 (hy.jd hl).2
 rw[EJ,EJ]at this;exact this
theorem KP (N:a9 L) {x y:Rat} {k l:Nat} (hx:Bt k x) (hy:Bt l y) (hk:k<2199023255552) (hl:l<2199023255552):Ev L 128 [.agg (eQ x),.agg (eQ y)] (.agg (eQ (x*y))):=by
 have:=Wz N 68719476736 (by omega) (decide (x.num<0)) (decide (y.num<0)) false false _ _ _ _ (hx.jd hk).1 (hx.jd hk).2 (hy.jd hl).1 (hy.jd hl).2
 rw[EJ,EJ]at this;exact this
theorem YK (N:a9 L) {x:Rat} {k:Nat} (hx:Bt k x) (hk:k<2199023255552):Ev L 123 [.agg (eQ x)] (.agg (eQ x)):=by
 have:=Xa N (decide (x.num<0)) false _ _ ((hx.jd hk).1.le (by omega)) ((hx.jd hk).2.le (by omega))
 rw[EJ]at this;exact this
theorem VB (N:a9 L) {x y:Rat} {k l:Nat} (hx:Bt k x) (hy:Bt l y) (hk:k<2199023255552) (hl:l<2199023255552):Ev L 127 [.agg (eQ x),.agg (eQ y)] (.int .i64 (o8 (x-y).num)):=by
 have:=Wy N 68719476736 (by omega) (decide (x.num<0)) (decide (y.num<0)) false false _ _ _ _ (hx.jd hk).1 (hx.jd hk).2 (hy.jd hl).1 (hy.jd hl).2
 rw[EJ,EJ]at this;exact this
theorem ZN {x y:Rat}:o8 (x-y).num=0↔x=y:=by
 have h:o8 (x-y).num=0↔(x-y).num=0:=by unfold o8;split<;>(try split)<;>omega
 rw[h,Rat.num_eq_zero];constructor
 ·intro h;grind
 ·rintro rfl;exact Rat.sub_self
theorem Yo (N:a9 L) (a b:List Rat) (q1 q2:Bool) (k:Nat) (ha:Bs k a) (hb:Bs k b) (hk:k<2199023255552) (hl:a.length<=1099511627776):Ev L 129 [.sl q1 (a.map eQ),.sl q2 (b.map eQ)] (.bool (decide (a=b))):=by
 refine Ev.x N.NP rfl rfl ?_;by_cases hlen:a.length=b.length
 ·(repeat' ((first|(apply AG<;>intro hc<;>try (exfalso;omega))|apply AR|apply AD)<;>conv=>whnf))
  refine BR (λ i=>a.length-i) (λ(i:Nat)=>i<=a.length/\a.take i=b.take i) (λ i=>[(5,.int .i64 i)]) (λ_=>[]) [] [] 0 (by (conv=>whnf);exact ⟨rfl,rfl,rfl⟩) ⟨by omega,rfl⟩ ?_;intro i ⟨p1,p2⟩ ih;by_cases hi:i<a.length
  ·obtain ⟨x,hx⟩ : ∃ x,a[i]? = some x:=⟨_,zE hi⟩
   obtain ⟨y,hy⟩ : ∃ y,b[i]? = some y:=⟨_,zE (by omega)⟩;have fm:a[(i:Int).toNat]? = some x:=hx;have rf:b[(i:Int).toNat]? = some y:=hy;have Ny:=VB N (ha.at hx) (hb.at hy) hk hk;have hs:=ZN (x:=x) (y:=y);generalize o8 (x-y).num=sg at *;by_cases mr:x=y
   ·have h0:sg=0:=hs.2 mr
    (repeat' ((first|(apply AG<;>intro hc<;>try (exfalso;omega))|(apply AU;omega)|apply AR|(refine BC (by assumption) ?_ rfl ?_;omega)|apply AD|refine AE (Ny) ?_)<;>conv=>whnf))
    refine BZ [] (by (conv=>whnf);exact ⟨rfl,rfl,rfl⟩) (ih (i+1) (by omega) ⟨by omega,?_⟩);rw[List.take_add_one,List.take_add_one,p2,hx,hy,mr]
   ·have k9:sg≠0:=λ h=>mr (hs.1 h)
    (repeat' ((first|(apply AG<;>intro hc<;>try (exfalso;omega))|apply AR|(refine BC (by assumption) ?_ rfl ?_;omega)|apply AD|refine AE (Ny) ?_)<;>conv=>whnf))
    refine W3 (λ h=>mr ?_);rw[h,hy]at hx;exact (Option.some.inj hx).symm
  ·obtain rfl:i=a.length:=by omega
   clear ih;(repeat' ((first|(apply AG<;>intro hc<;>try (exfalso;omega))|apply AR|apply AD)<;>conv=>whnf))
   refine iT ?_;rw[List.take_of_length_le (Nat.le_refl _),List.take_of_length_le (by omega)]at p2;exact p2
 ·(repeat' ((first|(apply AG<;>intro hc<;>try (exfalso;omega))|apply AR|apply AD)<;>conv=>whnf))
  exact W3 (λ h=>hlen (by rw[h]))
theorem YI (N:o3 L) {x:Rat} {k:Nat} (hx:Bt k x) (hk:k<2199023255552):Ev L 152 [.agg (eQ x)] (.agg (eQ (-x))):=by
 have hT:=YK N.toa9 hx hk;have hN:=λ q=>cK N.toa9 (decide (x.num<0)) q (dg x.num.natAbs) ((hx.jd hk).1.le (by omega))
 rw[E2]at hN;refine Ev.x N.NF rfl rfl ?_;(repeat' ((first|apply AD|refine AE (hT) ?_|refine AE (hN _) ?_)<;>conv=>whnf))
 refine AZ ?_ (DH _);show _=AV.agg (rQ _ _ _ _ _);rw[Rat.neg_num,Rat.neg_den]
theorem nY (N:o3 L) {x y:Rat} {k l:Nat} (hx:Bt k x) (hy:Bt l y) (hk:k<2199023255552) (hl:l<2199023255552):Ev L 153 [.agg (eQ x),.agg (eQ y)] (.agg (eQ (x-y))):=by
 have hn:Bt l (-y):=⟨by rw[Rat.neg_num,Int.natAbs_neg];exact hy.1,by rw[Rat.neg_den];exact hy.2⟩;have hN:=YI N hy hl;have hA:=U9 N.toa9 hx hn hk hl;rw[<-Rat.sub_eq_add_neg]at hA;refine Ev.x N.JG rfl rfl ?_;(repeat' ((first|apply AD|refine AE (hN) ?_|refine AE (hA) ?_)<;>conv=>whnf))
 exact AZ rfl (DH _)
theorem Ae5 {a c:Int} {b d:Nat} (hb:b≠0) (hd:d≠0) (hc:c≠0):mkRat a b/mkRat c d=Rat.divInt (a*d) (b*c):=by
 rw[Rat.div_def,<-Rat.divInt_ofNat,<-Rat.divInt_ofNat,Rat.inv_divInt,Rat.divInt_mul_divInt]
theorem Yu (N:o3 L) {x y:Rat} {k l:Nat} (hx:Bt k x) (hy:Bt l y) (hk:k<2199023255552) (hl:l<2199023255552) (h0:y≠0):Ev L 154 [.agg (eQ x),.agg (eQ y)] (.g7 [.agg (eQ (x/y)),.int .i64 0]):=by
 obtain ⟨a1,a2,a3,w8,s1,s2,s3,s5⟩:=OQ N.toa9 (decide (x.num<0)) false (dg x.num.natAbs) (dg x.den) 68719476736 (by omega) (hx.jd hk).1 (hx.jd hk).2;obtain ⟨b1,b2,b3,ae,t1,t2,t3,t5⟩:=OQ N.toa9 (decide (y.num<0)) false (dg y.num.natAbs) (dg y.den) 68719476736 (by omega) (hy.jd hl).1 (hy.jd hl).2;have l1:=s1.2;have l2:=s2.2;have l3:=t1.2;have l4:=t2.2;rw[EJ]at s5 t5;have yv:zv b1 b2≠0:=λ h=>h0 (by rw[t5,h,Rat.zero_mkRat])
 have hS:=λ q=>VD N.toa9 b1 q b2 (t1.le (by omega))
 have rb:o8 (zv b1 b2)≠0:=by unfold o8;split<;>(try split)<;>omega
 have ay:=λ q q'=>PH N.toa9 a1 false q q' a2 b3 s1.1 t2.1 (by omega)
 have cr:=λ q q'=>PH N.toa9 false b1 q q' a3 b2 s2.1 t1.1 (by omega)
 have g1:Sm (68719476736+68719476736) (dg (zv a1 a2*zv false b3).natAbs):=PV s1 t2;have g2:Sm (68719476736+68719476736) (dg (zv false a3*zv b1 b2).natAbs):=PV s2 t1;have hR:=λ q q'=>VF N.toa9 (decide (zv a1 a2*zv false b3<0)) (decide (zv false a3*zv b1 b2<0)) q q' _ _ (g1.le (by omega)) (g2.le (by omega))
 rw[E2,E2]at hR;have he:x/y=Rat.divInt (zv a1 a2*zv false b3) (zv false a3*zv b1 b2):=by rw[s5,t5,Ae5 s3 t3 yv,EL,EL]
 rw[he];generalize o8 (zv b1 b2)=sg at *;refine Ev.x N.NC rfl rfl ?_;(repeat' ((first|(apply AG<;>intro hc<;>try (exfalso;omega))|apply AD|refine AE (w8) ?_|refine AE (ae) ?_|refine AE (hS _) ?_|refine AE (ay _ _) ?_|refine AE (cr _ _) ?_|refine AE (hR _ _) ?_)<;>conv=>whnf))
 exact AZ rfl (by simp only[A4,CW,and_true,true_and];exact ⟨CQ _,CQ _⟩)
end Go.c5

namespace Go.c5
abbrev eO:Option Rat->List AV
 | none=>[.bool false,.nil,.nil]
 | some x=>eQ x
def EM (l:List Rat) (m:Nat):List (Option Rat):=l.map some++List.replicate (m-l.length) none
theorem QF (m:Nat):EM [] m=List.replicate m none:=by simp [EM]
theorem PJ {l:List Rat} {m:Nat} (h:l.length<=m):(EM l m).length=m:=by simp [EM];omega
theorem QG {l:List Rat} {m:Nat} {x:Rat} (h:l.length<m):(EM l m).set l.length (some x)=EM (l++[x]) m:=by
 unfold EM;have e:m-l.length=(m-(l++[x]).length)+1:=by simp;omega
 rw[e,List.replicate_succ,List.set_append_right _ _ (by simp)];simp
theorem QE {l:List Rat} {m:Nat} (h:l.length=m):(EM l m).map eO=l.map eQ:=by
 unfold EM;rw[h,Nat.sub_self];simp [Function.comp_def]
abbrev eS (S:HM):List AV:=[.sl false (S.a.map λ r=>[AV.sl false (r.map eQ)]),.sl false (S.b.map eQ),.sl false (S.c.map eQ)]++eQ S.d
theorem JY (l:List Rat):F5 (l.map eQ):=S5 (λ x=>by simp only[CW,A4,and_true,true_and];exact ⟨CQ _,CQ _⟩) l
theorem T9 {l:List Rat} {i:Nat} {x:Rat} (h:l[i]? = some x):l.take (i+1)=l.take i++[x]:=by
 rw[List.take_add_one,h];rfl
theorem UW (S:HM):A4 (.agg (eS S)):=by
 have h:F5 (S.a.map λ r=>[AV.sl false (r.map eQ)]):=S5 (λ r=>by simp only[CW,A4,and_true,true_and];exact JY r) S.a;simp only[A4,List.cons_append,List.nil_append,CW,and_true,true_and];exact ⟨h,JY _,JY _,CQ _,CQ _⟩
end Go.c5

namespace Go.c5
open F
attribute [local irreducible] AA AF AM AC CI AW AX A5 A6 B3 AQ BS B7 C5 BQ A2 BO B9 AB A9 AJ pw BN BG CH CM CT CP CE BU CK
variable {L:Lib}
set_option maxHeartbeats 8000000
theorem nX (N:o3 L) {x:Rat} {k:Nat} (hx:Bt k x) (hk:k<2199023255552) : ∃ s:Int,Ev L 155 [.agg (eQ x)] (.int .i64 s)/\(s=0↔x=0):=by
 have hm:=hx.jd hk;obtain ⟨n',m',d',hp,s1,s2,s3,s4⟩:=OQ N.toa9 (decide (x.num<0)) false (dg x.num.natAbs) (dg x.den) 274877906943 (by omega) (hm.1.le (by omega)) (hm.2.le (by omega));have hS:=λ q=>VD N.toa9 n' q m' (s1.le (by omega))
 rw[EJ]at s4;have hz:o8 (zv n' m')=0↔x=0:=by
  rw[s4,Rat.mkRat_eq_zero s3];unfold o8;split<;>(try split)<;>omega
 generalize o8 (zv n' m')=s at *;refine ⟨s,?_,hz⟩;refine Ev.x N.NI rfl rfl ?_;(repeat' ((first|apply AD|refine AE (hp) ?_|refine AE (hS _) ?_)<;>conv=>whnf))
 exact C2 rfl
def HN (l:List Rat):Nat->Nat
 | 0=>0
 | n+1=>if l.getD n 0=0 then HN l n else n+1
theorem UZ (l:List Rat) : ∀ n,HN l n<=n
 | 0=>Nat.le_refl _
 | n+1=>by rw[HN];split;exact Nat.le_succ_of_le (UZ l n);exact Nat.le_refl _
def O1 (l:List Rat):List Rat:=l.take (HN l l.length)
theorem uQ (l:List Rat):(O1 l).length=HN l l.length:=by rw[O1,List.length_take];exact Nat.min_eq_left (UZ _ _)
end Go.c5

namespace Go.c5
open F
theorem Up {L:Lib} {f:Nat} {fn:AFn} {vs:List AV} {own l8:AH} {r:AV} (hL:L f=some fn) (Fw:HW fn.body=true) (h:GG L f vs own r l8):l8=own:=by
 obtain ⟨n,h⟩:=h;cases n with
 | zero=>simp [DN]at h
 | succ n =>
  rw[U7]at h;simp only[hL]at h;split at h
  ·split at h
   ·rename_i st j6
    split at h
    ·simp only[Option.some.injEq,Prod.mk.injEq]at h
     rw[<-h.2];exact II n (by simp [PK,Fw]) j6
    ·cases h
   ·cases h
  ·cases h
attribute [local irreducible] AA AF AM AC CI AW AX A5 A6 B3 AQ BS B7 C5 BQ A2 BO B9 AB A9 AJ pw BN BG CH CM CT CP CE BU CK
set_option maxHeartbeats 1000000
variable {L:Lib}
theorem Sk (N:c8 L) (l:List Nat) (s:Nat) (hD:A1 l) (hl:l.length<=1099511627776):A9 L 65 [.row 5 0 1 0 l.length] [(0,.row 5 0 1 0 l.length)] [(5,s,.rw 1 (l.map AL))] (λ r _=>r = .row 5 0 1 0 (dg (val l)).length):=by
 have hlen : ∀ n,n<=l.length->l.take n=dg (val l)->n=(dg (val l)).length:=λ n h1 h2=>by
  rw[<-h2,List.length_take];omega
 refine GF 1000 N.FI rfl rfl ?_;(repeat' (apply AD<;>conv=>whnf))
 refine BR (λ n=>n) (λ(n:Nat)=>n<=l.length /\ ∀ i,n<=i->i<l.length->l[i]? = some 0) (λ n=>[(3,.int .i64 n)]) (λ_=>[]) [] [] l.length (by (conv=>whnf);exact ⟨rfl,rfl,rfl⟩) ⟨Nat.le_refl _,λ i h1 h2=>by omega⟩ ?_;intro n ⟨p1,p2⟩ ih;rcases n with _|n
 ·(repeat' ((first|(apply AG<;>intro hc<;>try (exfalso;omega))|apply AD)<;>conv=>whnf))
  refine G5 0 (by omega) (by omega) ?_;(conv=>whnf)
  refine ⟨rfl,_,rfl,?_⟩;rw[<-hlen 0 p1 (F8 hD p1 p2 (Or.inl rfl))];rfl
 ·have e1:((n+1:Nat):Int)-1=n:=by omega
  (repeat' ((first|(apply AG<;>intro hc<;>try (exfalso;omega))|(apply AY;omega)|(apply B6;omega)|(refine Q7 (by assumption) ?_ (λ v hv hb => ?_);omega)|apply AD)<;>conv=>whnf))
  ·rw[e1]
   exact BF [] (ih n (by omega) ⟨by omega,λ i h1 h2=>by
    by_cases h:i=n
    ·subst h
     rw[e1,Int.toNat_natCast]at hv;rw[hv];congr 1;omega
    ·exact p2 i (by omega) h2⟩)
  ·refine G5 (n+1) (by omega) (by omega) ?_
   (conv=>whnf)
   refine ⟨rfl,_,rfl,?_⟩;rw[e1,Int.toNat_natCast]at hv;rw[<-hlen (n+1) p1 (F8 hD p1 p2 (Or.inr ⟨_,hv,by omega⟩))];rfl
theorem Sj (N:c8 L) (l:List Nat) (s t:Nat) (own:AH) (hD:A1 l) (hl:l.length<=1099511627776) (hb:(own s).e8 t=some ⟨1,l.map AL⟩) (ht:t<(own s).g9) (nk:EN s=true):GG L 65 [.row s t 1 0 l.length] own (.row s t 1 0 (dg (val l)).length) own:=by
 have hs:JU (λ_ _=>(s,t)) own [(5,s,.rw 1 (l.map AL))]:=by
  have key : ∀ k u c,b8 [(5,s,A7.rw 1 (l.map AL))] k u=some c->k=5/\u=0/\c = .rw 1 (l.map AL):=λ k u c e=>by
   simp only[b8,c6]at e;cases hk:Nat.beq k 5<;>simp only[hk,cond_true,cond_false]at e
   ·cases e
   ·cases u with
    | zero=>simp only[Option.some.injEq]at e;exact ⟨Nat.eq_of_beq_eq_true hk,rfl,e.symm⟩
    | succ u=>cases e
  refine ⟨λ k s' c e => ?_,λ k u c e => ?_,λ k u c e=>ht,λ k u k' u' c c' e e' _ => ?_,λ_ _ _ _ _=>nk⟩
  ·simp only[c6]at e
   cases hk:Nat.beq k 5<;>simp only[hk,cond_true,cond_false]at e
   ·cases e
   ·simp only[Option.some.injEq,Prod.mk.injEq]at e;exact e.1
  ·obtain ⟨_,_,rfl⟩:=key k u c e
   exact hb
  ·obtain ⟨rfl,rfl,_⟩:=key k u c e
   obtain ⟨rfl,rfl,_⟩:=key k' u' c' e';exact ⟨rfl,rfl⟩
 have hw:=Sk N l s hD hl;unfold A9 at hw;obtain ⟨r,l8,σ',M',h1,h2,h3,rfl⟩:=hw _ own hs;have ho:=Up N.FI (by decide +kernel) h1;subst ho;have h4:AV.row (σ' 5 0).1 (σ' 5 0).2 1 0 l.length=AV.row s t 1 0 l.length:=h3 0;simp only[AV.row.injEq]at h4;have h5:GG L 65 [.row s t 1 0 l.length] l8 (.row (σ' 5 0).1 (σ' 5 0).2 1 0 (dg (val l)).length) l8:=h1;rw[h4.1,h4.2.1]at h5;exact h5
theorem WZ (N:c8 L) {l:List Nat} {tm:Tm} {M:Mem} {K:AV->Mem->Prop} {key s len:Nat} (hD:A1 l) (hl:l.length<=1099511627776) (hm:c6 M key=some (s,.rw 1 (l.map AL))) (hlen:len=l.length) (hk:K (.row key 0 1 0 (dg (val l)).length) M):A9 L 65 [.row key 0 1 0 len] tm M K:=by
 subst hlen;unfold A9;intro σ own hs;have ff:=hs.site _ _ _ hm;have Ft:b8 M key 0=some (.rw 1 (l.map AL)):=by simp only[b8,hm]
 have hb:=hs.e8 _ _ _ Ft;have ht:=hs.old _ _ _ Ft;refine ⟨.row key 0 1 0 (dg (val l)).length,own,σ,M,?_,hs,λ_=>rfl,hk⟩;exact Sj N l (σ key 0).1 (σ key 0).2 own hD hl hb ht (hs.low _ _ _ (DJ hm) rfl)
end Go.c5

namespace Go.c5
open F
attribute [local irreducible] AA AF AM AC CI AW AX A5 A6 B3 AQ BS B7 C5 BQ A2 BO B9 AB A9 AJ pw BN BG CH CM CT CP CE BU CK
set_option maxHeartbeats 4000000
variable {L:Lib}
abbrev bZ (v:List Nat) (j m s xl:Nat):Tm:=[(102,AV.sl false (List.map AL v)),(101,AV.row 71012 0 1 j (v.length+1)),
           (100,AV.int IntKind.i64 (↑j + ↑v.length+1)),(99,AV.int IntKind.i64 (↑j + ↑v.length)),
           (98,AV.int IntKind.i64 ↑v.length),(97,AV.int IntKind.i64 ↑j),(96,AV.int IntKind.i64 ↑j),
           (95,AV.row 71012 0 1 0 (xl+1)),(94,AV.int IntKind.i64 ↑j),(93,AV.row 28 0 1 0 m),
           (90,AV.bool true),(14,AV.int IntKind.i64 ↑j),(13,AV.sl false (List.map AL v)),
           (12,AV.row 71012 0 1 0 (xl+1)),(11,AV.int IntKind.u64 ↑s),(7,AV.row 28 0 1 0 m),
           (6,AV.int IntKind.i64 ↑v.length)]
abbrev Vm:List It:=[It.lp FO.l2,It.e8 2,It.code
      (((BI.ops FO.bf false).dr [9,10,84,85,86,87,118,119,120,121,122,123,124,125,126]
         []).seq
       (((BI.ops FO.de false).dr [127,128,129,130,131] []).seq
        ((((BI.ops FO.ep false).dr [15,132,133] []).seq
           (BI.cond 134
            (((BI.ops FO.il false).dr [0,1,5,7,134,135,136] []).seq BI.ret)
            BI.skip)).seq
         (((BI.ops FO.jj false).dr [134] []).seq
          ((((BI.ops FO.kg false).dr [1] []).seq (BI.block 4 FO.l3.loop)).seq
           (((BI.ops FO.yd false).dr
              [0,5,9,137,138,139,140,162,163,164,165,166,167,168,169] []).seq
            (((BI.ops FO.zt false).dr [7,170,171,172] []).seq BI.ret)))))))]
section
variable {A W C w v:List Nat} {j m s xl q:Nat} {K:AV->Mem->Prop}
theorem bS (hA:A.length=j) (hW:W.length=v.length+1) (D2:A1 W) (ew:A1 v) (fw:2<=v.length) (ur:v.length<=549755813888) (y8:0<val v)
  (r1:q<4294967296) (r2:val W/val v<=q) (r3:q<=val W/val v+1)
  (hk : ∀ (W':List Nat) (o':List (List AV)) (q':Nat),W'.length=v.length+1->A1 W'->val W'=val W%val v->q'=val W/val v->K (.int .u32 (q':Int)) [(71012,71012,.rw 1 ((A++W'++C).map AL)),(28,28,.rw 1 (w.map AL)),(71012,71012,.rw 1 o')])
  (ia : ∀ (W':List Nat) (o':List (List AV)) (q':Nat),W'.length=v.length+1->A1 W'->val W'=val W%val v->q'=val W/val v->K (.int .u32 (q':Int)) [(71012,71012,.rw 1 ((A++W'++C).map AL)),(71012,71012,.rw 1 o'),(28,28,.rw 1 (w.map AL))]) :
  AA L Vm ([(86,.int .i64 0),(85,.int .i64 v.length),(84,.sl false (v.map AL)),(10,.int .u64 0),(9,.int .u64 0),(7,.int .u64 (q:Int)),(5,.int .i64 v.length),(0,AV.row 71012 0 1 j (v.length+1)),(1,AV.sl false (List.map AL v))]++GC 1000 (bZ v j m s xl))
   [(71012,71012,A7.rw 1 (List.map AL (A++W++C))),(28,28,A7.rw 1 (List.map AL w))] (jB 1000 FO (bZ v j m s xl) K):=by
 refine Z8 (λ i _ _ _=>v.length-i) (λ(i:Nat) (Z:List Nat) (c b:Nat)=>i<=v.length/\Z.length=v.length+1/\A1 Z/\c<4294967296/\b<=1/\Z.drop i=W.drop i/\val (Z.take i)+q*val (v.take i)=val (W.take i)+4294967296^i*(c+b)) (λ i Z c b=>[(86,.int .i64 i),(10,.int .u64 (b:Int)),(9,.int .u64 (c:Int))]) (λ i Z c b=>[(71012,71012,.rw 1 ((A++Z++C).map AL))]) [] [] 0 W 0 0 (by (conv=>whnf);exact ⟨rfl,rfl,rfl⟩) ⟨by omega,hW,D2,by omega,by omega,rfl,by simp [val]⟩ ?_;intro i Z c b ⟨p1,p2,p3,p4,p5,p6,p7⟩ ih;by_cases hi:i<v.length
 ·obtain ⟨d,hd⟩ : ∃ d,v[i]? = some d:=⟨_,zE hi⟩
  obtain ⟨u,hu⟩ : ∃ u,Z[i]? = some u:=⟨_,zE (by omega)⟩;have bm:=ew.at hd;have mq:=p3.at hu;obtain ⟨pr,rz⟩ : ∃ pr,pr=q*d+c:=⟨_,rfl⟩;obtain ⟨m1,m2,m3⟩:=qO r1 bm p4 rz;have wq:W[i]? = some u:=by
   have e1:(Z.drop i)[0]? = (W.drop i)[0]? := by rw[p6]
   simpa [hu] using e1.symm
  (repeat' ((first|(apply AG<;>intro hc<;>try (exfalso;omega))|(apply AY;omega)|(apply FV;omega)|(apply O5;omega)|apply FC|(apply CR;omega)|(refine BC (by assumption) ?_ rfl ?_;omega)|apply AD)<;>conv=>whnf))
  rw[<-rz];refine P3 i hu (by omega) ?_;(conv=>whnf)
  (repeat' ((first|(apply AY;omega)|(apply XD;omega)|(apply CR;omega)|apply FK)<;>conv=>whnf))
  obtain ⟨s1,s2⟩:=ZY mq (show pr%4294967296<4294967296 by omega) p5;have j6:=Ae8 p7 rz rfl mq p5;generalize EK (EK u (pr%4294967296)) b=t at *;refine OG i (by omega) (by omega) ?_;(conv=>whnf)
  (repeat' ((first|(apply AU;omega)|apply XC)<;>conv=>whnf))
  refine BZ [] (by (conv=>whnf);exact ⟨rfl,rfl,rfl⟩) (ih (i+1) _ _ _ (by omega) ⟨by omega,by simpa using p2,p3.set _ (by omega),m1,s2,?_,?_⟩)
  ·rw[List.drop_set_of_lt (by omega)]
   have e1:(Z.drop i).drop 1=(W.drop i).drop 1:=by rw[p6]
   simpa using e1
  ·rw[FS (by omega),D8 hd,D8 wq,Nat.pow_succ]
   exact j6
 ·obtain rfl:i=v.length:=by omega
  clear ih;obtain ⟨u,hu⟩ : ∃ u,Z[v.length]? = some u:=⟨_,zE (by omega)⟩;have mq:=p3.at hu;have wq:W[v.length]? = some u:=by
   have e1:(Z.drop v.length)[0]? = (W.drop v.length)[0]? := by rw[p6]
   simpa [hu] using e1.symm
  rw[DC (Nat.le_refl v.length)]at p7;obtain ⟨s1,s2⟩:=ZY mq p4 p5;have j6:=Ae6 p7 rfl mq p4 p5;have eW:val W=val (W.take v.length)+4294967296^v.length*u:=by
   rw[<-D8 wq,DC (by omega)]
  rw[<-eW,<-FS (show v.length<Z.length by omega),DC (by simp;omega)]at j6;(repeat' ((first|(apply AG<;>intro hc<;>try (exfalso;omega))|(apply AY;omega)|apply AD)<;>conv=>whnf))
  refine P3 v.length hu (by omega) ?_;(conv=>whnf)
  (repeat' ((first|(apply AY;omega)|(apply XD;omega)|(apply CR;omega)|apply FK)<;>conv=>whnf))
  generalize EK (EK u c) b=t at *;refine OG v.length (by omega) (by omega) ?_;(conv=>whnf)
  (repeat' ((first|(apply AG<;>intro hc<;>try (exfalso;omega))|apply XC|(apply EE;omega)|apply AR)<;>conv=>whnf))
  ·have vp:t/9223372036854775808=0:=by omega
   rw[vp,Nat.mul_zero,Nat.add_zero]at j6;obtain ⟨y1,y2⟩:=lO y8 r2 j6;exact ⟨rfl,_,rfl,hk _ _ _ (by simpa using p2) (p3.set _ (by omega)) y2 y1⟩
  ·have Ht:t/9223372036854775808=1:=by omega
   rw[Ht,Nat.mul_one]at j6;have Dy:A1 (Z.set v.length (t%4294967296)):=p3.set _ (by omega);have oe:(Z.set v.length (t%4294967296)).length=v.length+1:=by simpa using p2
   clear p7 p6 p4 p5 s1 s2 eW Ht hu wq mq p1 p2 p3;generalize Z.set v.length (t%4294967296)=X at *;have Ci:=E0 Dy;rw[oe,Nat.pow_succ]at Ci;obtain ⟨y1,y2,y3⟩:=lN y8 r3 Ci j6;have hRV:val W%val v<val v:=Nat.mod_lt _ y8;have Am:=E0 ew;obtain ⟨xw,Bw⟩ : ∃ xw,X[v.length]? = some xw:=⟨_,zE (by omega)⟩;have eX:val X=val (X.take v.length)+4294967296^v.length*xw:=by
    rw[<-D8 Bw,DC (by omega)]
   refine GE (λ i _ _=>v.length-i) (λ(i:Nat) (Z:List Nat) (c:Nat)=>i<=v.length/\Z.length=v.length+1/\A1 Z/\c<=1/\Z.drop i=X.drop i/\val (Z.take i)+4294967296^i*c=val (X.take i)+val (v.take i)) (λ i Z c=>[(139,.int .i64 i),(9,.int .u64 (c:Int))]) (λ i Z c=>[(71012,71012,.rw 1 ((A++Z++C).map AL))]) [] [] 0 X 0 (by (conv=>whnf);exact ⟨rfl,rfl,rfl⟩) ⟨by omega,oe,Dy,by omega,rfl,by simp [val]⟩ ?_;intro i Z c ⟨p1,p2,p3,p4,p6,p7⟩ ih;by_cases hi:i<v.length
   ·obtain ⟨d,hd⟩ : ∃ d,v[i]? = some d:=⟨_,zE hi⟩
    obtain ⟨u,hu⟩ : ∃ u,Z[i]? = some u:=⟨_,zE (by omega)⟩;have bm:=ew.at hd;have mq:=p3.at hu;have lk:X[i]? = some u:=by
     have e1:(Z.drop i)[0]? = (X.drop i)[0]? := by rw[p6]
     simpa [hu] using e1.symm
    have gk:=jI (d:=d) (w:=u) p7 rfl;(repeat' ((first|(apply AG<;>intro hc<;>try (exfalso;omega))|(apply AY;omega)|(refine BC (by assumption) ?_ rfl ?_;omega)|apply AD)<;>conv=>whnf))
    refine P3 i hu (by omega) ?_;(conv=>whnf)
    (repeat' ((first|(apply AY;omega)|(apply FV;omega)|(apply CR;omega)|apply FK)<;>conv=>whnf))
    generalize Mn:u+d+c=t2 at *;refine OG i (by omega) (by omega) ?_;(conv=>whnf)
    (repeat' ((first|(apply AU;omega)|apply FC)<;>conv=>whnf))
    refine BZ [] (by (conv=>whnf);exact ⟨rfl,rfl,rfl⟩) (ih (i+1) _ _ (by omega) ⟨by omega,by simpa using p2,p3.set _ (by omega),by omega,?_,?_⟩)
    ·rw[List.drop_set_of_lt (by omega)]
     have e1:(Z.drop i).drop 1=(X.drop i).drop 1:=by rw[p6]
     simpa using e1
    ·rw[FS (by omega),D8 hd,D8 lk,Nat.pow_succ]
     exact gk
   ·obtain rfl:i=v.length:=by omega
    clear ih;obtain ⟨u,hu⟩ : ∃ u,Z[v.length]? = some u:=⟨_,zE (by omega)⟩;have mq:=p3.at hu;have lk:X[v.length]? = some u:=by
     have e1:(Z.drop v.length)[0]? = (X.drop v.length)[0]? := by rw[p6]
     simpa [hu] using e1.symm
    rw[lk]at Bw;obtain rfl:u=xw:=by simpa using Bw
    rw[DC (Nat.le_refl v.length)]at p7;have Dz:=E0 (p3.take v.length);rw[List.length_take,Nat.min_eq_left (by omega)]at Dz;rw[eX]at y3;have fq:=jH p7 y3 (by omega) Dz;rw[<-FS (show v.length<Z.length by omega),DC (by simp;omega)]at fq;(repeat' ((first|(apply AG<;>intro hc<;>try (exfalso;omega))|(apply AY;omega)|apply AD)<;>conv=>whnf))
    refine P3 v.length hu (by omega) ?_;(conv=>whnf)
    (repeat' ((first|(apply AY;omega)|apply iW|(apply EE;omega))<;>conv=>whnf))
    refine OG v.length (by omega) (by omega) ?_;(conv=>whnf)
    (repeat' ((first|(apply IK;omega;omega)|(apply EE;omega))<;>conv=>whnf))
    exact ⟨rfl,_,rfl,ia _ _ _ (by simpa using p2) (p3.set _ (by omega)) fq y1⟩
theorem Te (N:c8 L) (hA:A.length=j) (hW:W.length=v.length+1) (D2:A1 W) (ew:A1 v) (fw:2<=v.length) (ur:v.length<=549755813888) (y8:0<val v)
  (n2:4294967296^(v.length-1)*2147483648<=val v) (g2:val W<4294967296*val v)
  (hk : ∀ (W':List Nat) (o':List (List AV)) (q':Nat),W'.length=v.length+1->A1 W'->val W'=val W%val v->q'=val W/val v->K (.int .u32 (q':Int)) [(71012,71012,.rw 1 ((A++W'++C).map AL)),(28,28,.rw 1 (w.map AL)),(71012,71012,.rw 1 o')])
  (ia : ∀ (W':List Nat) (o':List (List AV)) (q':Nat),W'.length=v.length+1->A1 W'->val W'=val W%val v->q'=val W/val v->K (.int .u32 (q':Int)) [(71012,71012,.rw 1 ((A++W'++C).map AL)),(71012,71012,.rw 1 o'),(28,28,.rw 1 (w.map AL))]) :
  A9 L 73 [AV.row 71012 0 1 j (v.length+1),AV.sl false (List.map AL v)] (bZ v j m s xl) [(71012,71012,A7.rw 1 (List.map AL (A++W++C))),(28,28,A7.rw 1 (List.map AL w))] K:=by
 obtain ⟨UL,a1,a2⟩:=Z5 D2 (n:=v.length+1) (by omega) (by omega);obtain ⟨VL,b5,b6⟩:=uU ew (n:=v.length) fw (by omega);obtain ⟨u0,w0⟩ : ∃ d,W[v.length]? = some d:=⟨_,zE (by omega)⟩;obtain ⟨u1,w1⟩ : ∃ d,W[v.length-1]? = some d:=⟨_,zE (by omega)⟩;obtain ⟨u2,w2⟩ : ∃ d,W[v.length-2]? = some d:=⟨_,zE (by omega)⟩;obtain ⟨f1,x1⟩ : ∃ d,v[v.length-1]? = some d:=⟨_,zE (by omega)⟩;obtain ⟨f2,x2⟩ : ∃ d,v[v.length-2]? = some d:=⟨_,zE (by omega)⟩;rw[show v.length+1-3=v.length-2 by omega,show v.length+1-2=v.length-1 by omega,show v.length+1-1=v.length by omega,GK w0,GK w1,GK w2]at a2;rw[show v.length+1-3=v.length-2 by omega]at a1;rw[GK x1,GK x2]at b6;have tp:=uN ew (k:=v.length-1) (by omega) n2 x1;have k0:=D2.at w0;have k1:=D2.at w1;have k2:=D2.at w2;have k3:=ew.at x1;have k4:=ew.at x2;have z1:v[((v.length:Int)-1).toNat]? = some f1:=by rw[show ((v.length:Int)-1).toNat=v.length-1 by omega];exact x1
 have z2:v[((v.length:Int)-2).toNat]? = some f2:=by rw[show ((v.length:Int)-2).toNat=v.length-2 by omega];exact x2
 refine GF 1000 N.FO rfl rfl ?_;(repeat' ((first|(apply AY;omega)|apply AR|apply AD)<;>conv=>whnf))
 refine P3 v.length w0 (by omega) ?_;(conv=>whnf)
 (repeat' ((first|(apply AY;omega)|(apply B6;omega)|(apply OE;omega)|(apply CR;omega))<;>conv=>whnf))
 refine P3 (v.length-1) w1 (by omega) ?_;(conv=>whnf)
 refine iQ (by omega) ?_;(conv=>whnf)
 refine O6 (by omega) ?_;(conv=>whnf)
 generalize Mp:u0*4294967296+u1=top at *;have vq:top<=18446744073709551615:=by omega
 have hU:val W=UL+4294967296^(v.length-2)*(u2+4294967296*top):=by rw[a2,show u1+4294967296*u0=top by omega]
 (repeat' ((first|(apply B6;omega)|(apply UK;omega)|(apply XB;omega;omega)|(apply CR;omega)|(refine BC (by assumption) ?_ rfl ?_;omega))<;>conv=>whnf))
 refine F3 (λ q _=>q) (λ(q r:Nat)=>Gs (val W) (val v) f1 f2 u2 top q r) (λ q r=>[(7,.int .u64 (q:Int)),(8,.int .u64 (r:Int))]) (λ_ _=>[]) [] [] (top/f1) (top%f1) (by (conv=>whnf);exact ⟨rfl,rfl,rfl⟩) (Gs.start hU b6 a1 k2 y8 (by omega) k3) ?_;intro q r g nr;have hqt:q<=top:=by
  have h3:=g.hq;have h4:q*1<=q*f1:=Nat.mul_le_mul_left q (by omega);omega
 have hr:=g.hr;have jq:=g.ge;by_cases hb:4294967296<=q
 ·obtain ⟨y1,y2,y3⟩:=g.next hU b6 a1 y8 g2 (Or.inl hb)
  (repeat' ((first|(apply AG<;>intro hc<;>try (exfalso;omega))|(apply B6;omega)|(apply FV;omega)|(apply IK;omega;omega)|(apply CR;omega)|apply AR|(refine BC (by assumption) ?_ rfl ?_;omega)|apply AD)<;>conv=>whnf))
  ·obtain ⟨t1,t2⟩:=TN hU b6 b5 tp k4 g2 y2 (Or.inr (by omega))
   exact BZ [] (by (conv=>whnf);exact ⟨rfl,rfl,rfl⟩) (bS (w:=w) (C:=C) hA hW D2 ew fw ur y8 t1 y3 t2 hk ia)
  ·exact BZ [] (by (conv=>whnf);exact ⟨rfl,rfl,rfl⟩) (nr (q-1) (r+f1) (by omega) ⟨y2,by omega,y3⟩)
 ·have hmq:=TU (show q<4294967296 by omega) k4
  by_cases q5:r*4294967296+u2<q*f2
  ·obtain ⟨y1,y2,y3⟩:=g.next hU b6 a1 y8 g2 (Or.inr q5)
   (repeat' ((first|(apply AG<;>intro hc<;>try (exfalso;omega))|(apply AY;omega)|(apply B6;omega)|(apply O5;omega)|(apply OE;omega)|(apply CR;omega)|(refine BC (by assumption) ?_ rfl ?_;omega)|apply AD)<;>conv=>whnf))
   refine P3 (v.length-2) w2 (by omega) ?_;(conv=>whnf)
   (repeat' ((first|(apply AG<;>intro hc<;>try (exfalso;omega))|(apply B6;omega)|(apply FV;omega)|(apply O6;omega)|(apply IK;omega;omega)|(apply CR;omega)|apply AR|(refine BC (by assumption) ?_ rfl ?_;omega))<;>conv=>whnf))
   ·obtain ⟨t1,t2⟩:=TN hU b6 b5 tp k4 g2 y2 (Or.inr (by omega))
    exact BZ [] (by (conv=>whnf);exact ⟨rfl,rfl,rfl⟩) (bS (w:=w) (C:=C) hA hW D2 ew fw ur y8 t1 y3 t2 hk ia)
   ·exact BZ [] (by (conv=>whnf);exact ⟨rfl,rfl,rfl⟩) (nr (q-1) (r+f1) (by omega) ⟨y2,by omega,y3⟩)
  ·obtain ⟨t1,t2⟩:=TN hU b6 b5 tp k4 g2 g.hq (Or.inl ⟨by omega,by omega⟩)
   (repeat' ((first|(apply AG<;>intro hc<;>try (exfalso;omega))|(apply AY;omega)|(apply B6;omega)|(apply O5;omega)|(apply OE;omega)|(apply CR;omega)|(refine BC (by assumption) ?_ rfl ?_;omega)|apply AD)<;>conv=>whnf))
   refine P3 (v.length-2) w2 (by omega) ?_;(conv=>whnf)
   (repeat' ((first|(apply AG<;>intro hc<;>try (exfalso;omega))|(apply O6;omega)|(apply CR;omega)|apply AR)<;>conv=>whnf))
   exact BZ [] (by (conv=>whnf);exact ⟨rfl,rfl,rfl⟩) (bS (w:=w) (C:=C) hA hW D2 ew fw ur y8 t1 jq t2 hk ia)
end
end Go.c5

namespace Go.c5
open F
attribute [local irreducible] AA AF AM AC CI AW AX A5 A6 B3 AQ BS B7 C5 BQ A2 BO B9 AB A9 AJ pw BN BG CH CM CT CP CE BU CK
variable {L:Lib}
set_option maxHeartbeats 4000000
theorem Ags {V R y d t Q:Nat} (h:Q*y+R=V) (ht:t=R*4294967296+d):(t/y+4294967296*Q)*y+t%y=d+4294967296*V:=by
 have:=Nat.div_add_mod t y
 rw[<-h,Nat.add_mul];have e:t/y*y=y*(t/y):=Nat.mul_comm _ _;grind
theorem UX (a b:List Nat):A4 (.g7 [.sl false (a.map AL),.sl false (b.map AL)]):=by
 simp only[A4,CW,and_true,true_and];exact ⟨CQ a,CQ b⟩
set_option maxHeartbeats 4000000 in
theorem cH (N:c8 L) (X Y:Nat) (q1 q2:Bool) (hY:Y≠0) (lx:(dg X).length<=549755813888) (ly:(dg Y).length<=549755813888):Ev L 74 [.sl q1 ((dg X).map AL),.sl q2 ((dg Y).map AL)] (.g7 [.sl false ((dg (X/Y)).map AL),.sl false ((dg (X%Y)).map AL)]):=by
 have k8:=λ q q'=>PG N (dg X) (dg Y) q q' (DU X) (DU Y) (by omega) (by omega)
 rw[B1,B1]at k8;have d1:=DU X;have d2:=DU Y;have v1:=B1 X;have v2:=B1 Y;have hy1:=U3 hY;refine Ev.x N.LL rfl rfl ?_;by_cases k7:X<Y
 ·have hn:C9 X Y = -1:=(HZ (by omega)).symm
  rw[hn]at k8;(repeat' ((first|(apply AG<;>intro hc<;>try (exfalso;omega))|apply AD|refine AE (k8 _ _) ?_|refine AE (mW N (dg X) _ (by omega)) ?_)<;>conv=>whnf))
  refine AZ ?_ (UX _ _);rw[Nat.div_eq_of_lt k7,Nat.mod_eq_of_lt k7,EY];rfl
 have jq:0<=C9 X Y:=by unfold C9;split<;>(try split)<;>omega
 have vk:=P9 (show Y<=X by omega);generalize C9 X Y=cm at *;by_cases h1:(dg Y).length=1
 ·-- one digit
  obtain ⟨y0,ox⟩ : ∃ y0,dg Y=[y0]:=List.length_eq_one_iff.1 h1;have oz:Y=y0:=by rw[<-v2,ox];simp [val]
  subst oz;have zp:Y<4294967296:=d2 Y (by rw[ox];simp);have hyg:(dg Y)[0]? = some Y:=by rw[ox];rfl
  clear ox v2;generalize dg Y=y at *;generalize hx:dg X=x at *;(repeat' ((first|(apply AG<;>intro hc<;>try (exfalso;omega))|(apply AU;omega)|(apply B6;omega)|apply AR|apply AD|refine AE (k8 _ _) ?_)<;>conv=>whnf))
  refine EX (enc:=AL) 0 x.length rfl (by omega) (by omega) ?_;(conv=>whnf)
  (repeat' ((first|(apply AG<;>intro hc<;>try (exfalso;omega))|(apply B6;omega)|apply AR)<;>conv=>whnf))
  refine GE (λ n _ _=>n) (λ(n:Nat) (o:List Nat) (r:Nat)=>n<=x.length/\o.length=x.length/\A1 o/\r<Y/\val (o.drop n)*Y+r=val (x.drop n)) (λ n o r=>[(8,.int .u64 (r:Int)),(9,.int .i64 ((n:Int)-1))]) (λ n o r=>[(28,28,.rw 1 (o.map AL))]) [] [] x.length (List.replicate x.length 0) 0 (by (conv=>whnf);exact ⟨rfl,rfl,rfl⟩) ⟨by omega,by simp,IO _,by omega,by rw[List.drop_of_length_le (Nat.le_refl _),List.drop_of_length_le (by simp)];simp [val]⟩ ?_;intro n o r ⟨p1,p2,p3,p4,p5⟩ ih;rcases n with _|n
  ·rw[List.drop_zero,List.drop_zero]at p5
   have hq:X/Y=val o/\X%Y=r:=by
    rw[<-v1,<-p5];have e1:(val o*Y+r)/Y=val o:=by
     rw[Nat.mul_comm,Nat.mul_add_div (by omega),Nat.div_eq_of_lt p4,Nat.add_zero]
    have e2:(val o*Y+r)%Y=r:=by
     rw[Nat.mul_comm,Nat.mul_add_mod,Nat.mod_eq_of_lt p4]
    exact ⟨e1,e2⟩
   rw[hq.1,hq.2,<-p2];clear ih hq p5;have ji:=ES p3;have w8:A1 [r]:=HB (by omega);have fj:=ES w8;have Hv:val [r]=r:=by simp [val]
   have Px:[r].length=1:=rfl;(repeat' ((first|(apply AG<;>intro hc<;>try (exfalso;omega))|(apply EE;omega)|apply AD|refine WZ N (by assumption) (by omega) rfl (by first|rfl|omega|assumption) ?_)<;>conv=>whnf))
   refine HL (enc:=AL) (λ_=>rfl) (by omega) ?_;(conv=>whnf)
   refine HL (enc:=AL) (l:=[r]) (λ_=>rfl) (by omega) ?_;(conv=>whnf)
   refine AZ ?_ (UX _ _);rw[List.drop_zero,List.drop_zero,WP p3,WP w8,Hv]
  ·have e1:((n+1:Nat):Int)-1=n:=by omega
   rw[e1];obtain ⟨d,hd⟩ : ∃ d,x[n]? = some d:=⟨_,zE (by omega)⟩;have bm:=d1.at hd;have hYb:Y<4294967296:=zp;have hR:r*4294967296+d<Y*4294967296:=by omega
   have fe:(r*4294967296+d)/Y<4294967296:=(Nat.div_lt_iff_lt_mul (by omega)).2 (by omega);(repeat' ((first|(apply AG<;>intro hc<;>try (exfalso;omega))|(apply AY;omega)|(apply OE;omega)|(apply O6;omega)|(apply XB;omega;omega)|(apply CR;omega)|(apply EE;omega)|(refine BC (by assumption) ?_ rfl ?_;omega)|apply AD)<;>conv=>whnf))
   obtain ⟨t,ht⟩ : ∃ t,t=r*4294967296+d:=⟨_,rfl⟩;rw[<-ht]at hR fe ⊢;have hm:t%Y<Y:=Nat.mod_lt _ (by omega);have j6:=Ags p5 ht;rw[<-G4 hd]at j6;clear ht;skip
   refine E7 (by omega) ?_;(conv=>whnf)
   (repeat' ((first|(apply B6;omega)|(apply UK;omega)|(apply CR;omega)|(refine BC (by assumption) ?_ rfl ?_;omega))<;>conv=>whnf))
   generalize t/Y=tq at *;generalize t%Y=tr at *;refine BZ [] (by (conv=>whnf);exact ⟨rfl,rfl,rfl⟩) (ih n _ _ (by omega) ⟨by omega,by simpa using p2,p3.set _ (by omega),hm,?_⟩);rw[G4 (l:=o.set n tq) (d:=tq) (by rw[List.getElem?_set_self (by omega)]),List.drop_set_of_lt (by omega)];exact j6
 ·-- two digits or more
  have Hn:2<=(dg Y).length:=by omega
  obtain ⟨yt,uv,xq⟩:=bR hY;have uw:=d2.at uv;obtain ⟨b1,b2,b3,b4⟩:=dR xq uw;have Fc:=mX N yt uw;generalize hs:32-n7 yt=s at *;have da:s<=31:=by omega
  generalize dg Y=y at *;generalize hx:dg X=x at *;have e1:((y.length:Int)-1).toNat=y.length-1:=by omega
  rw[<-e1]at uv;obtain ⟨rv,Qh,v,hV,ju,Lz⟩:=Xl N y q2 s y.length d2 da (by omega) (by omega);subst Lz;(repeat' ((first|(apply AG<;>intro hc<;>try (exfalso;omega))|(apply AU;omega)|(apply B6;omega)|apply AR|apply AD|refine AE (k8 _ _) ?_)<;>conv=>whnf))
  refine EX (enc:=AL) 0 (x.length-y.length+1) rfl (by omega) (by omega) ?_;(conv=>whnf)
  (repeat' ((first|(apply AG<;>intro hc<;>try (exfalso;omega))|(apply AU;omega)|(apply B6;omega)|(apply CR;omega)|apply AR|(refine BC (by assumption) ?_ rfl ?_;omega)|refine AE (Fc) ?_)<;>conv=>whnf))
  refine GF 1000 N.I9 rfl rfl ?_;(repeat' (apply AD<;>conv=>whnf))
  refine EX (enc:=AL) 0 (x.length+1) rfl (by omega) (by omega) ?_;(conv=>whnf)
  (repeat' (apply AR<;>conv=>whnf))
  have sd:=V8 (s:=s) (by omega);refine GE (λ i _ _=>x.length-i) (λ(i:Nat) (o:List Nat) (lo:Nat)=>i<=x.length/\o.length=x.length+1/\A1 o/\lo<2^s/\val (o.take i)+4294967296^i*lo=val (x.take i)*2^s) (λ i o lo=>[(8,.int .u32 (lo:Int)),(15,.int .i64 i)]) (λ i o lo=>[(71012,71012,.rw 1 (o.map AL))]) [] [] 0 (List.replicate (x.length+1) 0) 0 (by (conv=>whnf);exact ⟨rfl,rfl,rfl⟩) ⟨by omega,by simp,IO _,Nat.two_pow_pos s,by simp [val]⟩ ?_;intro i o lo ⟨p1,p2,p3,p4,p5⟩ ih;by_cases hi:i<x.length
  ·obtain ⟨d,hd⟩ : ∃ d,x[i]? = some d:=⟨_,zE hi⟩
   have bm:=d1.at hd;obtain ⟨f1,f2,f3,f4⟩:=R6 (s:=s) bm (by omega);(repeat' ((first|(apply AG<;>intro hc<;>try (exfalso;omega))|(refine BC (by assumption) ?_ rfl ?_;omega)|apply AD)<;>conv=>whnf))
   refine iZ (by omega) ?_;(conv=>whnf)
   skip
   refine aG s f1 p4 (by omega) ?_;(conv=>whnf)
   (repeat' ((first|(apply AY;omega)|fail)<;>conv=>whnf))
   refine E7 (by omega) ?_;(conv=>whnf)
   (repeat' ((first|(apply CR;omega)|fail)<;>conv=>whnf))
   refine O8 (by omega) f4 ?_;(conv=>whnf)
   (repeat' ((first|(apply AU;omega)|apply FC|(apply EE;omega))<;>conv=>whnf))
   rw[<-R5];refine BZ [] (by (conv=>whnf);exact ⟨rfl,rfl,rfl⟩) (ih (i+1) _ _ (by omega) ⟨by omega,by simpa using p2,p3.set _ (by omega),f2,?_⟩);rw[FS (by omega),D8 hd,Nat.pow_succ];exact pX p5
  obtain rfl:i=x.length:=by omega
  clear ih;(repeat' ((first|(apply AG<;>intro hc<;>try (exfalso;omega))|(apply AY;omega)|apply AR|apply AD)<;>conv=>whnf))
  refine E7 (by omega) ?_;(conv=>whnf)
  skip
  have hU:=pW p3 (by omega) p2 p5;have yp:(o.set x.length lo).length=x.length+1:=by simpa using p2
  clear p3 p4 p5 p2;generalize o.set x.length lo=u at *;refine ⟨rfl,_,rfl,?_⟩;(conv=>whnf)
  (repeat' ((first|(apply B6;omega)|apply AR|refine AE (Qh) ?_)<;>conv=>whnf))
  have Na:y[y.length-1]? = some yt:=by rw[<-e1];exact uv
  obtain ⟨n1,n2⟩:=dM d2 Na (by omega) da b3 b4;have Hc:val v=Y*2^s:=by rw[<-v2];exact hV.2.2 (by rw[ju];exact n1)
  have Hb:val u=X*2^s:=by
   rw[<-v1];refine hU.2.2 ?_;have h3:=E0 d1;rw[yp,Nat.pow_succ];exact Nat.lt_of_lt_of_le (Nat.mul_lt_mul_of_pos_right h3 (Nat.two_pow_pos s)) (Nat.mul_le_mul_left _ sd)
  have ew:=hV.1;have Gz:=hU.1;have An:=E0 ew;rw[v2,<-Hc]at n2;rw[<-ju]at n2;clear hV hU k8 Qh Fc;have fw:2<=v.length:=by omega
  have hvx:v.length<=x.length:=by omega
  have ur:v.length<=549755813888:=by omega
  have hxL:x.length<=549755813888:=by omega
  have hX:X<4294967296^x.length:=by rw[<-v1];exact E0 d1
  rw[<-ju];generalize hm:x.length-v.length+1=m at *;have y8:0<val v:=by
   have:=rW (v.length-1)
   omega
  have qa:val (u.drop m)<val v:=by
   have h1:=JN u m (by omega);rw[Hb]at h1;have h2:X*2^s<4294967296^x.length*2147483648:=Nat.lt_of_lt_of_le (Nat.mul_lt_mul_of_pos_right hX (Nat.two_pow_pos s)) (Nat.mul_le_mul_left _ (Nat.pow_le_pow_right (by omega) da));have h3:4294967296^x.length=4294967296^m*4294967296^(v.length-1):=by rw[<-Nat.pow_add];congr 1;omega
   rw[h3,Nat.mul_assoc]at h2;refine Nat.lt_of_lt_of_le ?_ n2;refine Nat.lt_of_mul_lt_mul_left (a:=4294967296^m) ?_;omega
  have e2:(x.length:Int)-v.length=((m:Nat):Int)-1:=by omega
  rw[e2];refine GE (λ n _ _=>n) (λ(n:Nat) (o w:List Nat)=>n<=m/\o.length=x.length+1/\A1 o/\w.length=m/\A1 w/\val (o.drop n)<val v/\X*2^s=val (o.take n)+4294967296^n*(val (w.drop n)*val v+val (o.drop n))) (λ n o w=>[(14,.int .i64 ((n:Int)-1))]) (λ n o w=>[(71012,71012,.rw 1 (o.map AL)),(28,28,.rw 1 (w.map AL))]) [] [] m u (List.replicate m 0) (by (conv=>whnf);exact ⟨rfl,rfl,rfl⟩) ⟨by omega,yp,Gz,by simp,IO _,qa,by rw[<-Hb,List.drop_of_length_le (show (List.replicate m 0).length<=m by simp),IJ,Nat.zero_mul,Nat.zero_add];exact JN u m (by omega)⟩ ?_;intro n o w ⟨p1,p2,p3,p4,p5,p6,p7⟩ ih;rcases n with _|j
  ·clear ih
   rw[List.drop_zero]at p6;rw[List.take_zero,List.drop_zero,List.drop_zero,IJ,Nat.zero_add,Nat.pow_zero,Nat.one_mul]at p7;have om:val o=val (o.take v.length):=by
    have h1:=SC o v.length;rcases Nat.eq_zero_or_pos (val (o.drop v.length)) with h2|h2
    ·rw[h2,Nat.mul_zero,Nat.add_zero]at h1;exact h1
    ·have h3:4294967296^v.length*1<=4294967296^v.length*val (o.drop v.length):=Nat.mul_le_mul_left _ h2
     omega
   have vh:X/Y=val w/\X%Y=val o/2^s:=by
    obtain ⟨z1,z2⟩:=lQ (X:=X) (Y:=Y) (Nat.two_pow_pos s);rw[<-z1,<-z2,<-Hc,p7];have e1:(val w*val v+val o)/val v=val w:=by
     rw[Nat.mul_comm,Nat.mul_add_div y8,Nat.div_eq_of_lt p6,Nat.add_zero]
    have e2:(val w*val v+val o)%val v=val o:=by
     rw[Nat.mul_comm,Nat.mul_add_mod,Nat.mod_eq_of_lt p6]
    rw[e1,e2];exact ⟨rfl,rfl⟩
   rw[vh.1,vh.2];have ji:=ES p5;obtain ⟨ro,Fw,o2,k1,k2,k3,k4⟩:=Xm N (o.take v.length) true s (p3.take _) da (by rw[List.length_take];omega);subst k4;rw[om,<-k3];have fj:=ES k1;rw[List.length_take]at k2;clear p7 vh qa;(repeat' ((first|(apply AG<;>intro hc<;>try (exfalso;omega))|apply AD|refine WZ N (by assumption) (by omega) rfl (by first|rfl|omega|assumption) ?_)<;>conv=>whnf))
   refine G5 v.length rfl (by omega) ?_;(conv=>whnf)
   refine HL (enc:=AL) (λ_=>rfl) (by omega) ?_;(conv=>whnf)
   rw[List.drop_zero,Nat.sub_zero];(repeat' ((first|refine AE (Fw) ?_|refine JR (J9 N o2 _ k1 (by omega)) ?_)<;>conv=>whnf))
   refine HL (enc:=AL) (λ_=>rfl) (by omega) ?_;(conv=>whnf)
   refine AZ ?_ (UX _ _);rw[List.drop_zero,WP p5]
  ·have e3:((j+1:Nat):Int)-1=j:=by omega
   rw[e3];have e4:(v.length:Int).toNat=v.length:=by omega
   obtain ⟨A,W,C,hA,hW,rfl⟩:=mL o j (v.length+1) (by omega);obtain ⟨g1,g2,g3⟩:=mN hA hW p3 p6 An;obtain ⟨D1,D2,D3⟩:=lM p3;have qu:val W/val v<4294967296:=(Nat.div_lt_iff_lt_mul y8).2 g2;have Jp:val W=val W/val v*val v+val W%val v:=by rw[Nat.mul_comm];exact (Nat.div_add_mod _ _).symm
   have Ao:val W%val v<val v:=Nat.mod_lt _ y8;have Al:X*2^s=val A+4294967296^j*val W+4294967296^j*4294967296*(val (w.drop (j+1))*val v):=by
    rw[p7,Nat.mul_add,<-g3,Nat.pow_succ];omega
   have pt:=mM Al Jp;have ou : ∀ q',q'=val W/val v->val ((w.set j q').drop j)=val W/val v+4294967296*val (w.drop (j+1)):=λ q' h=>by
    rw[G4 (l:=w.set j q') (d:=q') (by rw[List.getElem?_set_self (by omega)]),List.drop_set_of_lt (by omega),h]
   have hlen : ∀ W':List Nat,W'.length=v.length+1->(A++W'++C).length=x.length+1:=λ W' h=>by
    rw[<-p2];simp [h,hW]
   (repeat' ((first|(apply AG<;>intro hc<;>try (exfalso;omega))|(apply AU;omega)|(apply P1;omega)|apply AD)<;>conv=>whnf))
   rw[show ((j:Int)+v.length+1).toNat-(j:Int).toNat=v.length+1 by omega,show 0+(j:Int).toNat=j by omega];refine Te N hA hW D2 ew fw ur y8 n2 g2 (λ W' o' q' z1 z2 z3 z4 => ?_) (λ W' o' q' z1 z2 z3 z4 => ?_)
   ·(conv=>whnf)
    (repeat' ((first|(apply AY;omega)|fail)<;>conv=>whnf))
    refine E7 (by omega) ?_;(conv=>whnf)
    (repeat' ((first|(apply B6;omega)|fail)<;>conv=>whnf))
    obtain ⟨t1,t2⟩:=cA (A:=A) (W:=W') (C:=C) (j:=j) hA g1;refine BZ [] (by (conv=>whnf);exact ⟨rfl,rfl,rfl⟩) (ih j (A++W'++C) (w.set j q') (by omega) ⟨by omega,hlen W' z1,(D1.append z2).append D3,by simpa using p4,p5.set _ (by omega),by omega,?_⟩);rw[t1,t2,ou q' z4,z3];exact pt
   ·(conv=>whnf)
    (repeat' ((first|(apply AY;omega)|fail)<;>conv=>whnf))
    refine E7 (by omega) ?_;(conv=>whnf)
    (repeat' ((first|(apply B6;omega)|fail)<;>conv=>whnf))
    obtain ⟨t1,t2⟩:=cA (A:=A) (W:=W') (C:=C) (j:=j) hA g1;refine BZ [] (by (conv=>whnf);exact ⟨rfl,rfl,rfl⟩) (ih j (A++W'++C) (w.set j q') (by omega) ⟨by omega,hlen W' z1,(D1.append z2).append D3,by simpa using p4,p5.set _ (by omega),by omega,?_⟩);rw[t1,t2,ou q' z4,z3];exact pt
end Go.c5
