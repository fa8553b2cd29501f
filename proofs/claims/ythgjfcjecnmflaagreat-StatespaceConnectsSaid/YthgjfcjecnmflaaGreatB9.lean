/-
  The references of natural numbers (ref01): division.
-/
import Derived.Test.YthgjfcjecnmflaaGreatB8
import Derived.Test.YthgjfcjecnmflaaGreatB7
import Derived.Test.YthgjfcjecnmflaaGreatB1
set_option linter.unusedSimpArgs false
set_option linter.unusedVariables false
set_option linter.unnecessarySimpa false
namespace Go.e9
open F
attribute [local irreducible] AA AF AQ AD DW AW A9 BD CO AX BI FZ CE A4 CD C7 AB BA AJ pw D6 C3 E7 EH FE BP C4 B9 CF
set_option maxHeartbeats 4000000
variable {L:Lib}
theorem Vu {V R y d t Q:Nat} (h:Q*y+R=V) (ht:t=R*4294967296+d):(t/y+4294967296*Q)*y+t%y=d+4294967296*V:=by
 have:=Nat.div_add_mod t y
 rw[<-h,Nat.add_mul];have e:t/y*y=y*(t/y):=Nat.mul_comm _ _;grind
theorem Pf (N:b8 L) (x:List Nat) (Y:Nat) (q:Bool) (d1:AY x) (hx:x.length<=549755813888) (h0:Y≠0) (hY:Y<4294967296):Ev L 108 [.sl q (x.map AL),.int .u32 (Y:Int)] (.j4 [.sl false ((dg (val x/Y)).map AL),.int .u32 ((val x%Y:Nat):Int)]):=by
 refine Ev.x N.L4 rfl rfl ?_;(repeat' ((first|apply AR|apply AE)<;>conv=>whnf))
 refine EM (enc:=AL) 0 x.length rfl (by omega) (by omega) ?_;(conv=>whnf)
 (repeat' ((first|(apply BX;omega)|apply AR)<;>conv=>whnf))
 refine GH (λ n _ _=>n) (λ(n:Nat) (o:List Nat) (r:Nat)=>n<=x.length/\o.length=x.length/\AY o/\r<Y/\val (o.drop n)*Y+r=val (x.drop n)) (λ n o r=>[(7,.int .u64 (r:Int)),(8,.int .i64 ((n:Int)-1))]) (λ n o r=>[(11,11,.rw 1 (o.map AL))]) x.length (List.replicate x.length 0) 0 ⟨by omega,by simp,IK _,by omega,by rw[List.drop_of_length_le (Nat.le_refl _),List.drop_of_length_le (by simp)];simp [val]⟩ ?_;intro n o r ⟨p1,p2,p3,p4,p5⟩ ih;rcases n with _|n
 ·rw[List.drop_zero,List.drop_zero]at p5
  have hq:val x/Y=val o/\val x%Y=r:=by
   rw[<-p5];have e1:(val o*Y+r)/Y=val o:=by
    rw[Nat.mul_comm,Nat.mul_add_div (by omega),Nat.div_eq_of_lt p4,Nat.add_zero]
   have e2:(val o*Y+r)%Y=r:=by
    rw[Nat.mul_comm,Nat.mul_add_mod,Nat.mod_eq_of_lt p4]
   exact ⟨e1,e2⟩
  have hT:=λ q=>GD N o q p3 (by omega)
  rw[hq.1,hq.2,<-p2];clear ih hq p5;(repeat' ((first|(apply AG<;>intro hc<;>try omega)|(apply D9;omega)|(refine D4 (λ_=>rfl) rfl ?_ ?_;(first|rfl|simp))|apply AE|refine AC (hT _) ?_)<;>conv=>whnf))
  refine AU rfl ?_;simp only[A6,C6,and_true,true_and];exact CQ _
 ·have e1:((n+1:Nat):Int)-1=n:=by omega
  rw[e1];obtain ⟨d,hd⟩ : ∃ d,x[n]? = some d:=⟨_,zE (by omega)⟩;have bk:=d1.at hd;have hR:r*4294967296+d<Y*4294967296:=by omega
  have Fw:(r*4294967296+d)/Y<4294967296:=(Nat.div_lt_iff_lt_mul (by omega)).2 (by omega);(repeat' ((first|(apply AG<;>intro hc<;>try omega)|(apply A3;omega)|(apply NP;omega)|(apply OE;omega)|(apply VW;omega;omega)|(apply CH;omega)|(apply D9;omega)|(refine BL (by assumption) ?_ rfl ?_;omega)|apply AE)<;>conv=>whnf))
  obtain ⟨t,ht⟩ : ∃ t,t=r*4294967296+d:=⟨_,rfl⟩;rw[<-ht]at hR Fw ⊢;have hm:t%Y<Y:=Nat.mod_lt _ (by omega);have j7:=Vu p5 ht;rw[<-G3 hd]at j7;clear ht;skip
  refine E8 (by omega) ?_;(conv=>whnf)
  (repeat' ((first|(apply BX;omega)|(apply TB;omega)|(apply CH;omega))<;>conv=>whnf))
  generalize t/Y=tq at *;generalize t%Y=tr at *;refine B5 [] (by (conv=>whnf);exact ⟨rfl,rfl,rfl⟩) (ih n _ _ (by omega) ⟨by omega,by simpa using p2,p3.set _ (by omega),hm,?_⟩);rw[G3 (l:=o.set n tq) (d:=tq) (by rw[List.getElem?_set_self (by omega)]),List.drop_set_of_lt (by omega)];exact j7
theorem WD (a b:List Nat) (e:Int):A6 (.j4 [.sl false (a.map AL),.sl false (b.map AL),.int .i64 e]):=by
 simp only[A6,C6,and_true,true_and];exact ⟨CQ a,CQ b⟩
abbrev yZ:List It:=[It.lp DP.l1,It.e6 0,
   It.code
    (((BF.ops DP.cj false).dr [0,75,79,80] []).seq
     (((BF.ops DP.ea false).dr [81,82,83,84,85] []).seq
      ((((BF.ops DP.fq false).dr [86,87,88,89,90] []).seq
         (BF.block 2 DP.l2.loop)).seq
       (((BF.ops DP.Hg true).dr [9,10,11,12,13,14,92,277,278,279,280,281,282,283,284]
          []).seq
        BF.ret))))]
abbrev WN:List It:=[It.lp DP.l2,It.e6 2,It.code
       (((BF.ops DP.Hg true).dr [9,10,11,12,13,14,92,277,278,279,280,281,282,283,284]
          []).seq
        BF.ret)]
abbrev WO (v:List Nat) (s ul m:Nat) (j:Int):Tm:=[(14,.int .i64 j),(13,.row 85 0 1 0 m),(12,.int .i64 v.length),(11,.sl false (v.map AL)),(10,.row 69 0 1 0 ul),(9,.int .i64 (s:Int))]
abbrev yY:BF:=(((BF.ops DP.Ju false).dr [18,19,20,166,205,206,207] []).seq
                (((BF.ops DP.Jv false).dr [208,209,210,211,212,213,214] []).seq
                 ((BF.ops DP.Jw false).seq
                  ((((BF.ops DP.Jx false).dr [215,216] []).seq
                     (BF.cond 217
                      (((BF.ops DP.Jy false).dr [18,217,218,219] []).seq
                       (BF.ops DP.Jz false))
                      BF.skip)).seq
                   (((BF.ops DP.Ka false).dr
                      [23,24,217,220,221,222,223,224,225,226,227,228] []).seq
                    ((((BF.ops DP.Kb false).dr [18,229] []).seq
                       (BF.cond 230
                        (((BF.ops DP.Kc false).dr [230,231,232] []).seq
                         ((BF.ops DP.Kd false).seq
                          (((BF.ops DP.Ke false).seq
                             (BF.block 8 DP.l5.loop)).seq
                           ((BF.ops DP.Kf false).dr
                            [25,26,235,262,263,264,265,266,267,268,269,270,271]
                            []))))
                        BF.skip)).seq
                     ((BF.ops DP.Kg false).dr [16,230,272,273,274,275,276]
                      [])))))))
abbrev zA:List It:=It.lp DP.l4::It.e6 6::It.code yY::It.e6 3::It.code ((BF.ops DP.gq false).dr [93,94] [])::WN
section
variable {A W C w y:List Nat} {j m s ul q:Nat} {Q:Tm->Mem->Prop}
theorem RK {e i n:Nat} (hi:i=A.length+n) (he:W[n]? = some e):(A++W++C)[i]? = some e:=by
 rw[rP hi (zS he).1];exact he
theorem ZQ (hA:A.length=j) (hW:W.length=y.length+1) (D2:AY W) (dj:AY y) (er:2<=y.length) (qu:y.length<=549755813888) (ae:0<val y) (ek:j<=1099511627776)
  (jm:ul=j+(y.length+1)+C.length) (Db:w.length=m) (Cp:j<m)
  (r1:q<4294967296) (r2:val W/val y<=q) (r3:q<=val W/val y+1)
  (hk : ∀ (W':List Nat) (q':Nat),W'.length=y.length+1->AY W'->val W'=val W%val y->q'=val W/val y->AA L WN (WO y s ul m ((j:Int)-1)) [(69,101021,.rw 1 ((A++W'++C).map AL)),(85,85,.rw 1 ((w.set j q').map AL))] Q) :
  AA L zA ([(20,.int .i64 0),(19,.int .u64 0),(18,.int .u64 0),(16,.int .u64 (q:Int))]++WO y s ul m (j:Int)) [(69,101021,.rw 1 ((A++W++C).map AL)),(85,85,.rw 1 (w.map AL))] Q:=by
 refine dW (λ i _ _ _=>y.length-i) (λ(i:Nat) (Z:List Nat) (c b:Nat)=>i<=y.length/\Z.length=y.length+1/\AY Z/\c<4294967296/\b<=1/\Z.drop i=W.drop i/\val (Z.take i)+q*val (y.take i)=val (W.take i)+4294967296^i*(c+b)) (λ i Z c b=>[(20,.int .i64 i),(18,.int .u64 (b:Int)),(19,.int .u64 (c:Int))]) (λ i Z c b=>[(69,101021,.rw 1 ((A++Z++C).map AL))]) [] [] 0 W 0 0 (by (conv=>whnf);exact ⟨rfl,rfl,rfl⟩) ⟨by omega,hW,D2,by omega,by omega,rfl,by simp [val]⟩ ?_;intro i Z c b ⟨p1,p2,p3,p4,p5,p6,p7⟩ ih;by_cases hi:i<y.length
 ·obtain ⟨d,hd⟩ : ∃ d,y[i]? = some d:=⟨_,zE hi⟩
  obtain ⟨u,hu⟩ : ∃ u,Z[i]? = some u:=⟨_,zE (by omega)⟩;have bk:=dj.at hd;have og:=p3.at hu;have Cu:(A++Z++C)[((i:Int)+(j:Int)).toNat]? = some u:=RK (by omega) hu;obtain ⟨pr,ib⟩ : ∃ pr,pr=c+q*d:=⟨_,rfl⟩;obtain ⟨m1,m2,m3⟩:=nZ r1 bk p4 (show pr=q*d+c by omega);have se:W[i]? = some u:=by
   have e1:(Z.drop i)[0]? = (W.drop i)[0]? := by rw[p6]
   simpa [hu] using e1.symm
  have mw : ∀ w,(Z.set i w).drop (i+1)=W.drop (i+1):=λ w=>by
   rw[List.drop_set_of_lt (by omega)];have e1:(Z.drop i).drop 1=(W.drop i).drop 1:=by rw[p6]
   simpa using e1
  have j7 : ∀ have' take w bj,take=pr%4294967296+b->((have'=u/\bj=0/\take<=u)\/(have'=u+4294967296/\bj=1/\u<take))->w+take=have'->val ((Z.set i w).take (i+1))+q*val (y.take (i+1))=val (W.take (i+1))+4294967296^(i+1)*(pr/4294967296+bj):=λ have' take w bj a1 a2 a3=>by
   rw[FY (by omega),DY hd,DY se,Nat.pow_succ];exact Tl p7 ib a1 a2 a3
  by_cases l7:u<pr%4294967296+b
  ·have h3:=j7 (u+4294967296) (pr%4294967296+b) (u+4294967296-(pr%4294967296+b)) 1 rfl (Or.inr ⟨rfl,rfl,l7⟩) (by omega)
   (repeat' ((first|(apply AG<;>intro hc<;>try omega)|(apply A3;omega)|(apply AZ;omega)|(apply F2;omega)|(apply OD;omega)|(apply eK;omega)|(apply IG;omega;omega)|apply FF|(apply VU;omega)|(apply CH;omega)|(apply D9;omega)|(refine BL (by assumption) ?_ rfl ?_;omega)|refine IW (by assumption) ?_|apply AE)<;>conv=>whnf))
   rw[<-ib];skip
   refine NS i (by omega) (by omega) ?_;(conv=>whnf)
   (repeat' ((first|(apply AZ;omega)|fail)<;>conv=>whnf))
   exact B5 [] (by (conv=>whnf);exact ⟨rfl,rfl,rfl⟩) (ih (i+1) (Z.set i (u+4294967296-(pr%4294967296+b))) (pr/4294967296) 1 (by omega) ⟨by omega,by simpa using p2,p3.set _ (by omega),m1,by omega,mw _,h3⟩)
  ·have h3:=j7 u (pr%4294967296+b) (u-(pr%4294967296+b)) 0 rfl (Or.inl ⟨rfl,rfl,by omega⟩) (by omega)
   (repeat' ((first|(apply AG<;>intro hc<;>try omega)|(apply A3;omega)|(apply AZ;omega)|(apply F2;omega)|(apply OD;omega)|(apply eK;omega)|(apply IG;omega;omega)|apply FF|(apply CH;omega)|(apply D9;omega)|(refine BL (by assumption) ?_ rfl ?_;omega)|refine IW (by assumption) ?_|apply AE)<;>conv=>whnf))
   rw[<-ib];skip
   refine NS i (by omega) (by omega) ?_;(conv=>whnf)
   (repeat' ((first|(apply AZ;omega)|fail)<;>conv=>whnf))
   exact B5 [] (by (conv=>whnf);exact ⟨rfl,rfl,rfl⟩) (ih (i+1) (Z.set i (u-(pr%4294967296+b))) (pr/4294967296) 0 (by omega) ⟨by omega,by simpa using p2,p3.set _ (by omega),m1,by omega,mw _,h3⟩)
 ·obtain rfl:i=y.length:=by omega
  clear ih;obtain ⟨u,hu⟩ : ∃ u,Z[y.length]? = some u:=⟨_,zE (by omega)⟩;have og:=p3.at hu;have Cu:(A++Z++C)[((j:Int)+(y.length:Int)).toNat]? = some u:=RK (by omega) hu;have se:W[y.length]? = some u:=by
   have e1:(Z.drop y.length)[0]? = (W.drop y.length)[0]? := by rw[p6]
   simpa [hu] using e1.symm
  rw[DD (Nat.le_refl y.length)]at p7;have eW:val W=val (W.take y.length)+4294967296^y.length*u:=by
   rw[<-DY se,DD (by omega)]
  have j7 : ∀ have' take w bj,take=c+b->((have'=u/\bj=0/\take<=u)\/(have'=u+4294967296/\bj=1/\u<take))->w+take=have'->val (Z.set y.length w)+q*val y=val W+4294967296^y.length*4294967296*bj:=λ have' take w bj a1 a2 a3=>by
   have h1:=Qc p7 a1 a2 a3;rw[<-eW,<-FY (show y.length<Z.length by omega),DD (by simp;omega)]at h1;exact h1
  by_cases l7:u<c+b
  ·have h3:=j7 (u+4294967296) (c+b) (u+4294967296-(c+b)) 1 rfl (Or.inr ⟨rfl,rfl,l7⟩) (by omega)
   have Ab:AY (Z.set y.length (u+4294967296-(c+b))):=p3.set _ (by omega);have vy:(Z.set y.length (u+4294967296-(c+b))).length=y.length+1:=by simpa using p2
   rw[Nat.mul_one]at h3;have yf:=E2 Ab;rw[vy,Nat.pow_succ]at yf;obtain ⟨y1,y2,y3⟩:=iE ae r3 yf h3;(repeat' ((first|(apply AG<;>intro hc<;>try omega)|(apply A3;omega)|(apply AZ;omega)|(apply F2;omega)|(apply IG;omega;omega)|(apply VU;omega)|(apply CH;omega)|(apply D9;omega)|refine IW (by assumption) ?_|apply AE)<;>conv=>whnf))
   refine NS y.length (by omega) (by omega) ?_;(conv=>whnf)
   (repeat' ((first|(apply AG<;>intro hc<;>try omega)|(apply IG;omega;omega))<;>conv=>whnf))
   clear p7 p6 eW hu se og Cu p2 p3 j7;generalize Z.set y.length (u+4294967296-(c+b))=X at *;have Xm:val W%val y<val y:=Nat.mod_lt _ ae;have sd:=E2 dj;obtain ⟨xw,xo⟩ : ∃ xw,X[y.length]? = some xw:=⟨_,zE (by omega)⟩;have eX:val X=val (X.take y.length)+4294967296^y.length*xw:=by
    rw[<-DY xo,DD (by omega)]
   have yq:q-1<4294967296:=by omega
   refine GH (λ i _ _=>y.length-i) (λ(i:Nat) (Z:List Nat) (c:Nat)=>i<=y.length/\Z.length=y.length+1/\AY Z/\c<=1/\Z.drop i=X.drop i/\val (Z.take i)+4294967296^i*c=val (X.take i)+val (y.take i)) (λ i Z c=>[(26,.int .i64 i),(25,.int .u64 (c:Int))]) (λ i Z c=>[(69,101021,.rw 1 ((A++Z++C).map AL))]) 0 X 0 ⟨by omega,vy,Ab,by omega,rfl,by simp [val]⟩ ?_;intro i Z c ⟨p1,p2,p3,p4,p6,p7⟩ ih;by_cases hi:i<y.length
   ·obtain ⟨d,hd⟩ : ∃ d,y[i]? = some d:=⟨_,zE hi⟩
    obtain ⟨u,hu⟩ : ∃ u,Z[i]? = some u:=⟨_,zE (by omega)⟩;have bk:=dj.at hd;have og:=p3.at hu;have Cu:(A++Z++C)[((i:Int)+(j:Int)).toNat]? = some u:=RK (by omega) hu;have jr:X[i]? = some u:=by
     have e1:(Z.drop i)[0]? = (X.drop i)[0]? := by rw[p6]
     simpa [hu] using e1.symm
    have vz:=fE (d:=d) (w:=u) (t:=c+(u+d)) p7 (by omega);(repeat' ((first|(apply AG<;>intro hc<;>try omega)|(apply A3;omega)|(apply AZ;omega)|(apply F2;omega)|(apply CH;omega)|apply FP|(refine BL (by assumption) ?_ rfl ?_;omega)|refine IW (by assumption) ?_|apply AE)<;>conv=>whnf))
    generalize ht2:c+(u+d)=t2 at *;refine NS i (by omega) (by omega) ?_;(conv=>whnf)
    (repeat' ((first|(apply AZ;omega)|apply FF)<;>conv=>whnf))
    refine B5 [] (by (conv=>whnf);exact ⟨rfl,rfl,rfl⟩) (ih (i+1) (Z.set i (t2%4294967296)) (t2/4294967296) (by omega) ⟨by omega,by simpa using p2,p3.set _ (by omega),by omega,?_,?_⟩)
    ·rw[List.drop_set_of_lt (by omega)]
     have e1:(Z.drop i).drop 1=(X.drop i).drop 1:=by rw[p6]
     simpa using e1
    ·rw[FY (by omega),DY hd,DY jr,Nat.pow_succ]
     exact vz
   ·obtain rfl:i=y.length:=by omega
    clear ih;obtain ⟨u,hu⟩ : ∃ u,Z[y.length]? = some u:=⟨_,zE (by omega)⟩;have og:=p3.at hu;have Cu:(A++Z++C)[((j:Int)+(y.length:Int)).toNat]? = some u:=RK (by omega) hu;have jr:X[y.length]? = some u:=by
     have e1:(Z.drop y.length)[0]? = (X.drop y.length)[0]? := by rw[p6]
     simpa [hu] using e1.symm
    rw[jr]at xo;obtain rfl:u=xw:=by simpa using xo
    rw[DD (Nat.le_refl y.length)]at p7;have Ac:=E2 (p3.take y.length);rw[List.length_take,Nat.min_eq_left (by omega)]at Ac;rw[eX]at y3;have my:=fD p7 y3 (by omega) Ac;rw[<-FY (show y.length<Z.length by omega),DD (by simp;omega)]at my;(repeat' ((first|(apply AG<;>intro hc<;>try omega)|(apply A3;omega)|(apply AZ;omega)|apply eJ|(apply D9;omega)|refine IW (by assumption) ?_|apply AE)<;>conv=>whnf))
    refine NS y.length (by omega) (by omega) ?_;(conv=>whnf)
    (repeat' ((first|(apply A3;omega)|(apply D9;omega))<;>conv=>whnf))
    refine E8 (by omega) ?_;(conv=>whnf)
    (repeat' ((first|(apply BX;omega)|fail)<;>conv=>whnf))
    exact B5 [] (by (conv=>whnf);exact ⟨rfl,rfl,rfl⟩) (hk _ _ (by simpa using p2) (p3.set _ (by omega)) my y1)
  ·have h3:=j7 u (c+b) (u-(c+b)) 0 rfl (Or.inl ⟨rfl,rfl,by omega⟩) (by omega)
   rw[Nat.mul_zero,Nat.add_zero]at h3;obtain ⟨y1,y2⟩:=iF ae r2 h3;(repeat' ((first|(apply AG<;>intro hc<;>try omega)|(apply A3;omega)|(apply AZ;omega)|(apply F2;omega)|(apply IG;omega;omega)|(apply CH;omega)|(apply D9;omega)|refine IW (by assumption) ?_|apply AE)<;>conv=>whnf))
   refine NS y.length (by omega) (by omega) ?_;(conv=>whnf)
   (repeat' ((first|(apply AG<;>intro hc<;>try omega)|(apply A3;omega)|(apply D9;omega))<;>conv=>whnf))
   refine E8 (by omega) ?_;(conv=>whnf)
   (repeat' ((first|(apply BX;omega)|fail)<;>conv=>whnf))
   exact B5 [] (by (conv=>whnf);exact ⟨rfl,rfl,rfl⟩) (hk _ _ (by simpa using p2) (p3.set _ (by omega)) y2 y1)
theorem zB (hA:A.length=j) (hW:W.length=y.length+1) (D2:AY W) (dj:AY y) (er:2<=y.length) (qu:y.length<=549755813888) (ae:0<val y) (ek:j<=1099511627776)
  (n2:4294967296^(y.length-1)*2147483648<=val y) (g2:val W<4294967296*val y) (jm:ul=j+(y.length+1)+C.length) (Db:w.length=m) (Cp:j<m)
  (hk : ∀ (W':List Nat) (q':Nat),W'.length=y.length+1->AY W'->val W'=val W%val y->q'=val W/val y->AA L WN (WO y s ul m ((j:Int)-1)) [(69,101021,.rw 1 ((A++W'++C).map AL)),(85,85,.rw 1 ((w.set j q').map AL))] Q) :
  AA L (.code DP.l2::WN) (WO y s ul m (j:Int)) [(69,101021,.rw 1 ((A++W++C).map AL)),(85,85,.rw 1 (w.map AL))] Q:=by
 obtain ⟨UL,a1,a2⟩:=YN D2 (n:=y.length+1) (by omega) (by omega);obtain ⟨VL,b5,b6⟩:=rM dj (n:=y.length) er (by omega);obtain ⟨u0,w0⟩ : ∃ d,W[y.length]? = some d:=⟨_,zE (by omega)⟩;obtain ⟨u1,w1⟩ : ∃ d,W[y.length-1]? = some d:=⟨_,zE (by omega)⟩;obtain ⟨u2,w2⟩ : ∃ d,W[y.length-2]? = some d:=⟨_,zE (by omega)⟩;obtain ⟨f1,x1⟩ : ∃ d,y[y.length-1]? = some d:=⟨_,zE (by omega)⟩;obtain ⟨f2,x2⟩ : ∃ d,y[y.length-2]? = some d:=⟨_,zE (by omega)⟩;rw[show y.length+1-3=y.length-2 by omega,show y.length+1-2=y.length-1 by omega,show y.length+1-1=y.length by omega,GM w0,GM w1,GM w2]at a2;rw[show y.length+1-3=y.length-2 by omega]at a1;rw[GM x1,GM x2]at b6;have qb:=rI dj (k:=y.length-1) (by omega) n2 x1;have k0:=D2.at w0;have k1:=D2.at w1;have k2:=D2.at w2;have k3:=dj.at x1;have k4:=dj.at x2;have z1:y[((y.length:Int)-1).toNat]? = some f1:=by rw[show ((y.length:Int)-1).toNat=y.length-1 by omega];exact x1
 have z2:y[((y.length:Int)-2).toNat]? = some f2:=by rw[show ((y.length:Int)-2).toNat=y.length-2 by omega];exact x2
 have oz:(A++W++C)[((j:Int)+(y.length:Int)).toNat]? = some u0:=RK (by omega) w0;(repeat' ((first|(apply AG<;>intro hc<;>try omega)|(apply A3;omega)|(apply AZ;omega)|(apply BX;omega)|(apply NP;omega)|(apply CH;omega)|refine IW (by assumption) ?_|apply AE)<;>conv=>whnf))
 have cn:(A++W++C)[((j:Int)+(y.length:Int)-1).toNat]? = some u1:=RK (by omega) w1;refine tZ cn ?_;(conv=>whnf)
 refine eE (by omega) ?_;(conv=>whnf)
 refine OE (by omega) ?_;(conv=>whnf)
 clear oz cn;have aq:(A++W++C)[((j:Int)+(y.length:Int)-2).toNat]? = some u2:=RK (by omega) w2;generalize Gp:u0*4294967296+u1=top at *;have Bk:top<=18446744073709551615:=by omega
 have hU:val W=UL+4294967296^(y.length-2)*(u2+4294967296*top):=by rw[a2,show u1+4294967296*u0=top by omega]
 (repeat' ((first|(apply BX;omega)|(apply TB;omega)|(apply VW;omega;omega)|(apply CH;omega)|(refine BL (by assumption) ?_ rfl ?_;omega))<;>conv=>whnf))
 refine VO (λ q _=>q) (λ(q r:Nat)=>Gs (val W) (val y) f1 f2 u2 top q r) (λ q r=>[(16,.int .u64 (q:Int)),(17,.int .u64 (r:Int))]) (λ_ _=>[]) [] [] (top/f1) (top%f1) (by (conv=>whnf);exact ⟨rfl,rfl,rfl⟩) (Gs.start hU b6 a1 k2 ae (by omega) k3) ?_;intro q r g lz;have Zw:q<=top:=by
  have h3:=g.hq;have h4:q*1<=q*f1:=Nat.mul_le_mul_left q (by omega);omega
 have hr:=g.hr;have kg:=g.ge;by_cases hb:4294967296<=q
 ·obtain ⟨y1,y2,y3⟩:=g.next hU b6 a1 ae g2 (Or.inl hb)
  (repeat' ((first|(apply AG<;>intro hc<;>try omega)|(apply BX;omega)|(apply F2;omega)|(apply IG;omega;omega)|(apply CH;omega)|(refine BL (by assumption) ?_ rfl ?_;omega)|apply AE)<;>conv=>whnf))
  ·obtain ⟨t1,t2⟩:=SE hU b6 b5 qb k4 g2 y2 (Or.inr (by omega))
   exact B5 [] (by (conv=>whnf);exact ⟨rfl,rfl,rfl⟩) (ZQ (w:=w) (C:=C) hA hW D2 dj er qu ae ek jm Db Cp t1 y3 t2 hk)
  ·exact B5 [] (by (conv=>whnf);exact ⟨rfl,rfl,rfl⟩) (lz (q-1) (r+f1) (by omega) ⟨y2,by omega,y3⟩)
 ·have Zo:=SM (show q<4294967296 by omega) k4
  by_cases q7:r*4294967296+u2<q*f2
  ·obtain ⟨y1,y2,y3⟩:=g.next hU b6 a1 ae g2 (Or.inr q7)
   (repeat' ((first|(apply AG<;>intro hc<;>try omega)|(apply A3;omega)|(apply AZ;omega)|(apply BX;omega)|(apply F2;omega)|(apply OD;omega)|(apply NP;omega)|(apply OE;omega)|(apply IG;omega;omega)|(apply CH;omega)|(refine BL (by assumption) ?_ rfl ?_;omega)|refine IW (by assumption) ?_|apply AE)<;>conv=>whnf))
   ·obtain ⟨t1,t2⟩:=SE hU b6 b5 qb k4 g2 y2 (Or.inr (by omega))
    exact B5 [] (by (conv=>whnf);exact ⟨rfl,rfl,rfl⟩) (ZQ (w:=w) (C:=C) hA hW D2 dj er qu ae ek jm Db Cp t1 y3 t2 hk)
   ·exact B5 [] (by (conv=>whnf);exact ⟨rfl,rfl,rfl⟩) (lz (q-1) (r+f1) (by omega) ⟨y2,by omega,y3⟩)
  ·obtain ⟨t1,t2⟩:=SE hU b6 b5 qb k4 g2 g.hq (Or.inl ⟨by omega,by omega⟩)
   (repeat' ((first|(apply AG<;>intro hc<;>try omega)|(apply A3;omega)|(apply AZ;omega)|(apply BX;omega)|(apply OD;omega)|(apply NP;omega)|(apply OE;omega)|(apply CH;omega)|(refine BL (by assumption) ?_ rfl ?_;omega)|refine IW (by assumption) ?_|apply AE)<;>conv=>whnf))
   exact B5 [] (by (conv=>whnf);exact ⟨rfl,rfl,rfl⟩) (ZQ (w:=w) (C:=C) hA hW D2 dj er qu ae ek jm Db Cp t1 kg t2 hk)
end
theorem Uy {l:List Nat} (hD:AY l) (h:l[l.length-1]? = some 0):val l<4294967296^(l.length-1):=by
 have hl:=(zS h).1;have h1:=JN l (l.length-1) (by omega);have h2:=G3 h;rw[List.drop_of_length_le (show l.length<=l.length-1+1 by omega),IE]at h2;rw[h2]at h1;simp only[Nat.mul_zero,Nat.add_zero]at h1;have h3:=E2 (hD.take (l.length-1));rw[List.length_take,Nat.min_eq_left (by omega)]at h3;omega
theorem iH (N:b8 L) {X Y s:Nat} {x u y:List Nat} (hY:Y≠0) (cp:s<=31) (Ce:AY u) (Cg:val u=X*2^s) (Xq:u[u.length-1]? = some 0) (jm:x.length+1<=u.length/\u.length<=549755813888) (dj:AY y) (Ch:val y=Y*2^s) (pd:2<=y.length/\y.length<=x.length) (n2:4294967296^(y.length-1)*2147483648<=val y) :
  AA L yZ [(10,.row 69 0 1 0 u.length),(11,.sl false (y.map AL)),(9,.int .i64 (s:Int)),(0,.sl false (x.map AL))] [(69,101021,.rw 1 (u.map AL))] (NQ DP (.j4 [.sl false ((dg (X/Y)).map AL),.sl false ((dg (X%Y)).map AL),.int .i64 0])):=by
 refine ED (λ(_:Nat)=>0) (λ_=>True) (λ_=>[]) (λ_=>[]) 0 trivial ?_;intro _ _ _;(repeat' ((first|(apply AG<;>intro hc<;>try omega)|(apply AZ;omega)|(apply BX;omega)|apply AR|apply AE)<;>conv=>whnf))
 refine EM (enc:=AL) 0 (u.length-y.length) (by rfl) (by omega) (by omega) ?_;(conv=>whnf)
 (repeat' ((first|(apply BX;omega)|fail)<;>conv=>whnf))
 have ae:0<val y:=by
  have:=pD (y.length-1)
  omega
 have vu:=E2 dj;generalize hm:u.length-y.length=m at *;have lj:val (u.drop m)<val y:=by
  have h1:(u.drop m).length=y.length:=by simp;omega
  have h2:=Uy (l:=u.drop m) (Ce.drop _) (by rw[h1,List.getElem?_drop,show m+(y.length-1)=u.length-1 by omega];exact Xq);rw[h1]at h2;omega
 rw[show (u.length:Int)-y.length-1=((m:Nat):Int)-1 by omega];refine GH (λ n _ _=>n) (λ(n:Nat) (o w:List Nat)=>n<=m/\o.length=u.length/\AY o/\w.length=m/\AY w/\val (o.drop n)<val y/\X*2^s=val (o.take n)+4294967296^n*(val (w.drop n)*val y+val (o.drop n))) (λ n o w=>[(14,.int .i64 ((n:Int)-1))]) (λ n o w=>[(69,101021,.rw 1 (o.map AL)),(85,85,.rw 1 (w.map AL))]) m u (List.replicate m 0) ⟨by omega,rfl,Ce,by simp,IK _,lj,by rw[<-Cg,List.drop_of_length_le (show (List.replicate m 0).length<=m by simp),IE,Nat.zero_mul,Nat.zero_add];exact JN u m (by omega)⟩ ?_;intro n o w ⟨p1,p2,p3,p4,p5,p6,p7⟩ ih;rcases n with _|j
 ·clear ih
  rw[List.drop_zero]at p6;rw[List.take_zero,List.drop_zero,List.drop_zero,IE,Nat.zero_add,Nat.pow_zero,Nat.one_mul]at p7;have mw:val o=val (o.take y.length):=by
   have h1:=RI o y.length;rcases Nat.eq_zero_or_pos (val (o.drop y.length)) with h2|h2
   ·rw[h2,Nat.mul_zero,Nat.add_zero]at h1;exact h1
   ·have h3:4294967296^y.length*1<=4294967296^y.length*val (o.drop y.length):=Nat.mul_le_mul_left _ h2
    omega
  have sf:X/Y=val w/\X%Y=val o/2^s:=by
   obtain ⟨z1,z2⟩:=iG (X:=X) (Y:=Y) (Nat.two_pow_pos s);rw[<-z1,<-z2,<-Ch,p7];have e1:(val w*val y+val o)/val y=val w:=by
    rw[Nat.mul_comm,Nat.mul_add_div ae,Nat.div_eq_of_lt p6,Nat.add_zero]
   have e2:(val w*val y+val o)%val y=val o:=by
    rw[Nat.mul_comm,Nat.mul_add_mod,Nat.mod_eq_of_lt p6]
   rw[e1,e2];exact ⟨rfl,rfl⟩
  rw[sf.1,sf.2,mw];have hT:=λ q=>GD N w q p5 (by omega)
  have fo:(o.take y.length).length<=549755813888:=by rw[List.length_take];omega
  clear p7 sf lj;rw[<-p4];rcases Nat.eq_zero_or_pos s with h0|h0
  ·subst h0
   have hS:=λ q=>kE N (o.take y.length) q 0 (p3.take _) fo (by omega)
   rw[Nat.pow_zero,Nat.mul_one]at hS;rw[Nat.pow_zero,Nat.div_one];(repeat' ((first|(apply AG<;>intro hc<;>try omega)|(refine D4 (λ_=>rfl) rfl ?_ ?_;(first|rfl|simp))|apply AE|refine AC (hT _) ?_)<;>conv=>whnf))
   refine F8 y.length rfl (by omega) ?_;(conv=>whnf)
   refine DW.neg (by omega) ?_;(conv=>whnf)
   refine GL (enc:=AL) (λ_=>rfl) (by omega) ?_;(conv=>whnf)
   rw[List.drop_zero,Nat.sub_zero,show -((0:Nat):Int)=((0:Nat):Int) by omega];(repeat' (refine AC (hS _) ?_<;>conv=>whnf))
   exact AU rfl (WD _ _ _)
  ·have hS:=λ q=>Pc N (o.take y.length) q s (p3.take _) fo (by omega)
   (repeat' ((first|(apply AG<;>intro hc<;>try omega)|(refine D4 (λ_=>rfl) rfl ?_ ?_;(first|rfl|simp))|apply AE|refine AC (hT _) ?_)<;>conv=>whnf))
   refine F8 y.length rfl (by omega) ?_;(conv=>whnf)
   refine DW.neg (by omega) ?_;(conv=>whnf)
   refine GL (enc:=AL) (λ_=>rfl) (by omega) ?_;(conv=>whnf)
   rw[List.drop_zero,Nat.sub_zero];(repeat' (refine AC (hS _) ?_<;>conv=>whnf))
   exact AU rfl (WD _ _ _)
 ·have e3:((j+1:Nat):Int)-1=j:=by omega
  rw[e3];obtain ⟨A,W,C,hA,hW,rfl⟩:=iZ o j (y.length+1) (by omega);obtain ⟨g1,g2,g3⟩:=jB hA hW p3 p6 vu;obtain ⟨D1,D2,D3⟩:=iD p3;have yq:val W/val y<4294967296:=(Nat.div_lt_iff_lt_mul ae).2 g2;have Ea:val W=val W/val y*val y+val W%val y:=by rw[Nat.mul_comm];exact (Nat.div_add_mod _ _).symm
  have Xv:val W%val y<val y:=Nat.mod_lt _ ae;have vp:X*2^s=val A+4294967296^j*val W+4294967296^j*4294967296*(val (w.drop (j+1))*val y):=by
   rw[p7,Nat.mul_add,<-g3,Nat.pow_succ];omega
  have nj:=jA vp Ea;have od : ∀ q',q'=val W/val y->val ((w.set j q').drop j)=val W/val y+4294967296*val (w.drop (j+1)):=λ q' h=>by
   rw[G3 (l:=w.set j q') (d:=q') (by rw[List.getElem?_set_self (by omega)]),List.drop_set_of_lt (by omega),h]
  have hlen : ∀ W':List Nat,W'.length=y.length+1->(A++W'++C).length=u.length:=λ W' h=>by
   rw[<-p2];simp [h,hW]
  have Iu:u.length=j+(y.length+1)+C.length:=by rw[<-p2];simp [hA,hW];omega
  refine B5 [] (by (conv=>whnf);exact ⟨rfl,rfl,rfl⟩) (zB (m:=m) (s:=s) (ul:=u.length) (C:=C) hA hW D2 dj pd.1 (by omega) ae (by omega) n2 g2 Iu p4 (by omega) (λ W' q' z1 z2 z3 z4 => ?_));obtain ⟨t1,t2⟩:=ZU (A:=A) (W:=W') (C:=C) (j:=j) hA g1;refine B5 [] (by (conv=>whnf);exact ⟨rfl,rfl,rfl⟩) (ih j (A++W'++C) (w.set j q') (by omega) ⟨by omega,hlen W' z1,(D1.append z2).append D3,by simpa using p4,p5.set _ (by omega),by omega,?_⟩);rw[t1,t2,od q' z4,z3];exact nj
end Go.e9
namespace Go.e9
open F
attribute [local irreducible] AA AF AQ AD DW AW A9 BD CO AX BI FZ CE A4 CD C7 AB BA AJ pw D6 C3 E7 EH FE BP C4 B9 CF
variable {L:Lib}
set_option maxHeartbeats 8000000
theorem kC (N:b8 L) (a b:List Nat) (q1 q2:Bool) (hA:AY a) (hB:AY b) (la:a.length<=274877906944) (lb:b.length<=274877906944) (h0:val b≠0) :
  Ev L 109 [.sl q1 (a.map AL),.sl q2 (b.map AL)] (.j4 [.sl false ((dg (val a/val b)).map AL),.sl false ((dg (val a%val b)).map AL),.int .i64 0]):=by
 have t1:=λ q=>GD N a q hA (by omega)
 have t2:=λ q=>GD N b q hB (by omega)
 have l1:=ET hA;have l2:=ET hB;have l6:=λ q q'=>Z9 N (dg (val a)) (dg (val b)) q q' (DX _) (DX _) (by omega) (by omega)
 rw[BS,BS]at l6;generalize val a=X at *;generalize val b=Y at *;have d1:=DX X;have d2:=DX Y;have v1:=BS X;have v2:=BS Y;have hy1:=TV h0;refine Ev.x N.DP rfl rfl ?_;by_cases h1:(dg Y).length=1
 ·obtain ⟨y0,kp⟩ : ∃ y0,dg Y=[y0]:=List.length_eq_one_iff.1 h1
  have rn:Y=y0:=by rw[<-v2,kp];simp [val]
  subst rn;have zd:Y<4294967296:=d2 Y (by rw[kp];simp);have hyg:(dg Y)[(0:Int).toNat]? = some Y:=by rw[kp];rfl
  have Jc:=λ q=>Pf N (dg X) Y q d1 (by omega) h0 zd
  rw[v1]at Jc;have Ct:X%Y<4294967296:=Nat.lt_trans (Nat.mod_lt _ (by omega)) zd;have Cd:=λ q=>GD N [X%Y] q (G7 Ct) (by simp)
  rw[show val [X%Y]=X%Y by simp [val]]at Cd;clear kp v2;generalize dg Y=y at *;(repeat' ((first|(apply AG<;>intro hc<;>try omega)|apply AR|(refine BL (by assumption) ?_ rfl ?_;omega)|refine IH rfl ?_|apply AE|refine AC (t1 _) ?_|refine AC (t2 _) ?_|refine AC (Jc _) ?_|refine AC (Cd _) ?_)<;>conv=>whnf))
  exact AU rfl (WD _ _ _)
 by_cases l7:X<Y
 ·rw[<-HV (by omega)]at l6
  (repeat' ((first|(apply AG<;>intro hc<;>try omega)|apply AR|apply AE|refine AC (t1 _) ?_|refine AC (t2 _) ?_|refine AC (l6 _ _) ?_)<;>conv=>whnf))
  refine AU ?_ (WD _ _ _);rw[Nat.div_eq_of_lt l7,Nat.mod_eq_of_lt l7,EZ];rfl
 have kg:=WG (show Y<=X by omega);generalize DB X Y=cm at *;have Fo:2<=(dg Y).length:=by omega
 obtain ⟨yt,tk,tn⟩:=ZN h0;have qw:=d2.at tk;obtain ⟨b1,b2,b3,b4⟩:=bI tn qw;have dk:=λ q=>Oz N yt q tn qw
 generalize hs:32-o7 yt=s at *;have cp:s<=31:=by omega
 have Gk:=λ q=>kE N (dg Y) q s d2 (by omega) (by omega)
 obtain ⟨n1,n2⟩:=aZ d2 tk (by omega) cp b3 b4;rw[v2]at Gk n1 n2;have mw:(dg Y).drop ((dg Y).length-1)=[yt]:=by
  obtain ⟨hi,he⟩:=zS tk;rw[List.drop_eq_getElem_cons hi,he,List.drop_of_length_le (by omega)]
 have pd:(dg (Y*2^s)).length=(dg Y).length:=by
  have a1:=N1.2 n1;have a2 : ¬ (dg (Y*2^s)).length<=(dg Y).length-1:=λ h=>by
   have:=N1.1 h
   omega
  omega
 have Xw:(dg (X*2^s)).length<=(dg X).length+1:=by
  refine N1.2 ?_;have a1:X<4294967296^(dg X).length:=N1.1 (Nat.le_refl _);rw[Nat.pow_succ];have a2:=UV (s:=s) (by omega);exact Nat.lt_of_lt_of_le (Nat.mul_lt_mul_of_pos_right a1 (Nat.two_pow_pos s)) (Nat.mul_le_mul_left _ a2)
 have vy:(dg X).length<=(dg (X*2^s)).length:=PC (Nat.le_mul_of_pos_right _ (Nat.two_pow_pos s));have sw:=PC (show Y<=X by omega);generalize hx:dg X=x at *;generalize hy:dg Y=y at *;have t3:=λ q=>GD N x q d1 (by omega)
 rw[v1,hx]at t3;(repeat' ((first|(apply AG<;>intro hc<;>try omega)|(apply BX;omega)|apply AR|apply AE|refine AC (t1 _) ?_|refine AC (t2 _) ?_|refine AC (l6 _ _) ?_)<;>conv=>whnf))
 rw[show (y.length:Int)-1=((y.length-1:Nat):Int) by omega];refine uR (k:=y.length-1) (λ_=>rfl) (by omega) ?_;(conv=>whnf)
 rw[mw];(repeat' ((first|(apply BX;omega)|refine AC (dk _) ?_)<;>conv=>whnf))
 rw[show (32:Int)-(o7 yt:Nat)=((s:Nat):Int) by omega];refine FC 1000 N.H6 rfl rfl ?_;have pc:(s:Int)/32=((0:Nat):Int):=by omega
 have Zz:(s:Int)%32=((s:Nat):Int):=by omega
 (repeat' ((first|(apply AG<;>intro hc<;>try omega)|(refine P4 ?_ ?_ (λ_ => ?_) (λ_ _ => ?_);omega;omega;all_goals try omega)|apply AR|apply AE|refine AC (t3 _) ?_)<;>conv=>whnf))
 rw[pc];refine EM (enc:=AL) 0 0 rfl rfl (by omega) ?_;(conv=>whnf)
 skip
 refine GH (λ i _ _=>x.length-i) (λ(i:Nat) (o:List Nat) (c:Nat)=>i<=x.length/\o.length=i/\AY o/\c<2^s/\val o+4294967296^i*c=val (x.take i)*2^s) (λ i o c=>[(10,.int .i64 i),(9,.int .u64 (c:Int)),(8,.row 107069 0 1 0 i)]) (λ i o c=>[(107069,107069,.rw 1 (o.map AL))]) 0 [] 0 ⟨by omega,rfl,R7,Nat.two_pow_pos _,by simp [val]⟩ ?_;intro i o c ⟨p1,p2,p3,p4,p5⟩ ih;have oy:=UV (s:=s) (by omega);by_cases hi:i<x.length
 ·obtain ⟨d,hd⟩ : ∃ d,x[i]? = some d:=⟨_,zE hi⟩
  have bk:=d1.at hd;obtain ⟨f1,f2,f3,f4⟩:=Q6 (s:=s) bk (by omega);have hr:=XJ (show s<=64 by omega) f4;(repeat' ((first|(apply AG<;>intro hc<;>try omega)|(refine RR ?_ (λ_ _ _ => ?_) (λ_ _ _ _ => ?_);omega;all_goals try omega)|(apply CH;omega)|apply AR|(refine BL (by assumption) ?_ rfl ?_;omega)|apply AE)<;>conv=>whnf))
  rw[Zz];refine OH (by omega) f4 ?_;(conv=>whnf)
  skip
  refine VV s (Nat.mul_mod_left _ _) p4 (by omega) ?_;(conv=>whnf)
  have j7:=rK (d:=d) (P:=1) (V:=val o) (p:=4294967296^i) (lo:=c) (X:=val (x.take i)) (s:=s) (by rw[Nat.one_mul,Nat.one_mul];exact p5) rfl;have ow:(c+d*2^s)/4294967296<2^s:=by
   rw[Nat.div_lt_iff_lt_mul (by omega)];have:=zR (2^s) (show d<=4294967295 by omega)
   omega
  generalize c+d*2^s=t at *;(repeat' ((first|apply FP|apply EN)<;>conv=>whnf))
  refine GI (enc:=AL) (t%4294967296) rfl p2.symm rfl (by omega) (by omega) ?_;(conv=>whnf)
  (repeat' ((first|(apply AZ;omega)|apply FF)<;>conv=>whnf))
  rw[show (o++[t%4294967296]).length=i+1 by simp [p2]];refine B5 [(107069,107091)] (by (conv=>whnf);exact ⟨rfl,rfl,rfl⟩) (ih (i+1) (o++[t%4294967296]) (t/4294967296) (by omega) ⟨by omega,by simp;omega,p3.append (G7 (by omega)),ow,?_⟩);rw[NH,p2,DY hd,Nat.pow_succ];rw[Nat.one_mul,Nat.one_mul]at j7;exact j7
 obtain rfl:i=x.length:=by omega
 clear ih;have wi:c<4294967296:=by omega
 have Xi:AY (o++[c]):=p3.append (G7 wi);have zz:val (o++[c])=X*2^s:=by
  rw[NH,p2,p5,DD (Nat.le_refl _),v1]
 have zw:(o++[c]).length=x.length+1:=by simp [p2]
 (repeat' ((first|(apply AG<;>intro hc<;>try omega)|(apply D9;omega)|apply AR|apply EN|apply AE)<;>conv=>whnf))
 refine GI (enc:=AL) c rfl p2.symm rfl (by omega) (by omega) ?_;(conv=>whnf)
 rw[zw];generalize o++[c]=O at *;rw[<-zw];clear p3 p4 p5;refine FC 1000 N.HD rfl rfl ?_;(repeat' (apply AE<;>conv=>whnf))
 refine ED (λ n=>n) (λ(n:Nat)=>n<=(O).length /\ ∀ i,n<=i->i<(O).length->(O)[i]? = some 0) (λ n=>[(3,.int .i64 n)]) (λ_=>[]) (O).length ⟨Nat.le_refl _,λ i h1 h2=>by omega⟩ ?_;intro n ⟨p1,p2⟩ ih;rcases n with _|n
 ·(repeat' ((first|(apply AG<;>intro hc<;>try omega)|apply AE)<;>conv=>whnf))
  refine F8 0 (by omega) (by omega) ?_;(conv=>whnf)
  have cb:=GA (l:=O) (by assumption) p1 p2 (Or.inl rfl);have j6:(List.take 0 O).length<=(O).length:=by rw[List.length_take];omega
  clear ih p2;refine V0 (enc:=AL) (by omega) ?_;(conv=>whnf)
  rw[List.drop_zero,Nat.sub_zero];generalize Dw:List.take 0 O=T0 at *;refine O5 (enc:=AL) (λ_=>rfl) (by omega) (by omega) ?_;(conv=>whnf)
  refine ⟨rfl,_,rfl,?_⟩;(conv=>whnf)
  (refine ⟨rfl,_,rfl,?_⟩;(conv=>whnf);(repeat' ((first|apply EN|refine AC (Gk _) ?_)<;>conv=>whnf));refine GI (enc:=AL) 0 rfl rfl rfl (by omega) (by omega) ?_;(conv=>whnf);rw[zz]at cb;rw[cb];exact B5 [] (by (conv=>whnf);exact ⟨rfl,rfl,rfl⟩) (iH N (x:=x) (X:=X) (Y:=Y) (s:=s) (u:=dg (X*2^s)++[0]) (y:=dg (Y*2^s)) h0 cp ((DX _).append (G7 (by omega))) (by rw[NH,BS,Nat.mul_zero,Nat.add_zero]) (by simp) (by simp;omega) (DX _) (BS _) (by omega) (by rw[BS,pd];exact n2)))
 ·have e1:((n+1:Nat):Int)-1=n:=by omega
  (repeat' ((first|(apply AG<;>intro hc<;>try omega)|(apply A3;omega)|(apply BX;omega)|(refine P2 (by assumption) ?_ (λ v hv hb => ?_);omega)|apply AE)<;>conv=>whnf))
  ·rw[e1]
   exact B0 [] (ih n (by omega) ⟨by omega,λ i h1 h2=>by
    by_cases h:i=n
    ·subst h
     rw[e1,Int.toNat_natCast]at hv;rw[hv];congr 1;omega
    ·exact p2 i (by omega) h2⟩)
  ·refine F8 (n+1) (by omega) (by omega) ?_
   (conv=>whnf)
   rw[e1,Int.toNat_natCast]at hv;have cb:=GA (l:=O) (by assumption) p1 p2 (Or.inr ⟨_,hv,by omega⟩);have j6:(List.take (n+1) O).length<=(O).length:=by rw[List.length_take];omega
   clear ih p2 hv;(rw[fP (l:=O)];rotate_left;exact rfl;exact rfl);(conv=>whnf)
   refine V0 (enc:=AL) (by omega) ?_;(conv=>whnf)
   rw[List.drop_zero,Nat.sub_zero];generalize Dw:List.take (n+1) O=T0 at *;refine O5 (enc:=AL) (λ_=>rfl) (by omega) (by omega) ?_;(conv=>whnf)
   refine ⟨rfl,_,rfl,?_⟩;(conv=>whnf)
   (refine ⟨rfl,_,rfl,?_⟩;(conv=>whnf);(repeat' ((first|apply EN|refine AC (Gk _) ?_)<;>conv=>whnf));refine GI (enc:=AL) 0 rfl rfl rfl (by omega) (by omega) ?_;(conv=>whnf);rw[zz]at cb;rw[cb];exact B5 [] (by (conv=>whnf);exact ⟨rfl,rfl,rfl⟩) (iH N (x:=x) (X:=X) (Y:=Y) (s:=s) (u:=dg (X*2^s)++[0]) (y:=dg (Y*2^s)) h0 cp ((DX _).append (G7 (by omega))) (by rw[NH,BS,Nat.mul_zero,Nat.add_zero]) (by simp) (by simp;omega) (DX _) (BS _) (by omega) (by rw[BS,pd];exact n2)))
theorem Pa (N:b8 L) (a b:List Nat) (q1 q2:Bool) (hA:AY a) (hB:AY b) (la:a.length<=274877906944) (lb:b.length<=274877906944) :
  Ev L 110 [.sl q1 (a.map AL),.sl q2 (b.map AL)] (.sl false ((dg (Nat.gcd (val a) (val b))).map AL)):=by
 have t1:=λ q=>GD N a q hA (by omega)
 have t2:=λ q=>GD N b q hB (by omega)
 have l1:=ET hA;have l2:=ET hB;generalize val a=X at *;generalize val b=Y at *;refine Ev.x N.L1 rfl rfl ?_;(repeat' ((first|apply AE|refine AC (t1 _) ?_|refine AC (t2 _) ?_)<;>conv=>whnf))
 refine J2 (λ_ y=>y) (λ(x y:Nat)=>(dg x).length<=274877906944/\(dg y).length<=274877906944/\Nat.gcd x y=Nat.gcd X Y) (λ x y=>[(0,.sl false ((dg x).map AL)),(1,.sl false ((dg y).map AL))]) (λ_ _=>[]) X Y ⟨by omega,by omega,rfl⟩ ?_;intro x y ⟨p1,p2,p3⟩ ih;rw[<-p3];by_cases h0:y=0
 ·subst h0
  have rl:(dg 0).length=0:=by rw[EZ];rfl
  clear ih;rw[Nat.gcd_zero_right];(repeat' ((first|(apply AG<;>intro hc<;>try omega)|apply AR|apply AE)<;>conv=>whnf))
  exact AU rfl (IX _)
 ·have hp:=TV h0
  have hD:=λ q q'=>kC N (dg x) (dg y) q q' (DX _) (DX _) p1 p2 (by rw[BS];exact h0)
  rw[BS,BS]at hD;have l7:x%y<y:=Nat.mod_lt _ (by omega);have jf:=PC (Nat.le_of_lt l7);(repeat' ((first|(apply AG<;>intro hc<;>try omega)|apply AR|apply AE|refine AC (hD _ _) ?_)<;>conv=>whnf))
  rw[p3];exact B0 [] (ih y (x%y) l7 ⟨p2,by omega,by rw[UD];exact p3⟩)
theorem IZ (N:b8 L) (n q:Bool) (m:List Nat) (hm:Sm 274877906944 m):Ev L 111 [.agg (rZ q n m)] (.agg (eZ (zv n m))):=by
 have hT:=λ q=>GD N m q hm.1 (by have:=hm.2;omega)
 have hz:=HY (val m);have ha:=EW n m;refine Ev.x N.MF rfl rfl ?_;cases n
 ·rw[ER]at *
  (repeat' ((first|apply AE|refine AC (hT _) ?_)<;>conv=>whnf))
  exact AU (EP ha.symm (GE (by omega))) (DK _)
 ·rw[OC]at *
  (repeat' ((first|(apply AG<;>intro hc<;>try omega)|apply AR|apply AE|refine AC (hT _) ?_)<;>conv=>whnf))
  ·exact AU (EP ha.symm (M6 (by omega))) (DK _)
  ·exact AU (EP ha.symm (GE (by omega))) (DK _)
theorem WZ (N:b8 L) (n q:Bool) (m:List Nat) (hm:Sm 274877906944 m):Ev L 113 [.agg (rZ q n m)] (.int .i64 (u9 (zv n m))):=by
 have hT:=λ q=>IZ N n q m hm
 generalize zv n m=z at *;have hz:=HY z.natAbs;refine Ev.x N.MD rfl rfl ?_;(repeat' ((first|(apply AG<;>intro hc<;>try omega)|apply AR|apply AE|refine AC (hT _) ?_)<;>conv=>whnf))
 ·exact C2 (U7 (by omega))
 ·cases hd:decide (z<0)
  ·(conv=>whnf)
   exact C2 (cX (by have:=of_decide_eq_false hd;omega))
  ·(conv=>whnf)
   exact C2 (cW (of_decide_eq_true hd))
theorem aB (N:b8 L) (n q:Bool) (m:List Nat) (hm:Sm 274877906944 m):Ev L 114 [.agg (rZ q n m)] (.agg (eZ (-(zv n m)))):=by
 have hT:=λ q=>IZ N n q m hm
 generalize zv n m=z at *;have hz:=HY z.natAbs;refine Ev.x N.MA rfl rfl ?_;(repeat' ((first|apply AE|refine AC (hT _) ?_)<;>conv=>whnf))
 cases hd:decide (z<0)
 ·have h1:=of_decide_eq_false hd
  (conv=>whnf)
  (repeat' ((first|(apply AG<;>intro hc<;>try omega)|apply AR)<;>conv=>whnf))
  ·exact AU (EP (by omega) (M6 (by omega))) (DK _)
  ·exact AU (EP (by omega) (GE (by omega))) (DK _)
 ·have h1:=of_decide_eq_true hd
  (conv=>whnf)
  skip
  exact AU (EP (by omega) (GE (by omega))) (DK _)
theorem QO (N:b8 L) (n1 n2 q1 q2:Bool) (a b:List Nat) (ha:AY a) (hb:AY b) (hl:a.length+b.length<=274877906944):Ev L 118 [.agg (rZ q1 n1 a),.agg (rZ q2 n2 b)] (.agg (eZ (zv n1 a*zv n2 b))):=by
 have h1:=λ q q'=>Pb N a b q q' ha hb (by omega)
 have sa:Sm a.length a:=⟨ha,Nat.le_refl _⟩;have sb:Sm b.length b:=⟨hb,Nat.le_refl _⟩;have hT:=λ n q=>IZ N n q (dg (val a*val b)) ((sa.mul sb rfl).le hl)
 have e : ∀ n,zv n (dg (val a*val b))=bif n then -((val a*val b:Nat):Int) else ((val a*val b:Nat):Int):=λ n=>by unfold zv;rw[BS]
 have e2:zv n1 a*zv n2 b=zv (n1 != n2) (dg (val a*val b)):=by
  rw[e];cases n1<;>cases n2<;>simp [ER,OC,Int.mul_neg,Int.neg_mul]
 rw[e2];refine Ev.x N.L9 rfl rfl ?_;cases n1<;>cases n2;all_goals
  (repeat' ((first|apply AE|refine AC (h1 _ _) ?_|refine AC (hT _ _) ?_)<;>conv=>whnf))
  exact AU rfl (DK _)
theorem kF (N:b8 L) (n1 n2 q1 q2:Bool) (a b:List Nat) (ha:Sm 274877906943 a) (hb:Sm 274877906943 b):Ev L 115 [.agg (rZ q1 n1 a),.agg (rZ q2 n2 b)] (.agg (eZ (zv n1 a+zv n2 b))):=by
 have t1:=λ q=>IZ N n1 q a (ha.le (by omega))
 have t2:=λ q=>IZ N n2 q b (hb.le (by omega))
 have s1:Sm 274877906943 (dg (zv n1 a).natAbs):=by rw[EW];exact ha.rp
 have s2:Sm 274877906943 (dg (zv n2 b).natAbs):=by rw[EW];exact hb.rp
 generalize zv n1 a=x at *;generalize zv n2 b=y at *;have h1:=λ q q'=>kB N (dg x.natAbs) (dg y.natAbs) q q' s1.1 s2.1 (by have:=s1.2;omega) (by have:=s2.2;omega)
 have h2:=λ q q'=>aA N (dg x.natAbs) (dg y.natAbs) q q' s1.1 s2.1 (by have:=s1.2;omega) (by have:=s2.2;omega)
 have h3:=λ q q'=>aA N (dg y.natAbs) (dg x.natAbs) q q' s2.1 s1.1 (by have:=s2.2;omega) (by have:=s1.2;omega)
 have l6:=λ q q'=>Z9 N (dg x.natAbs) (dg y.natAbs) q q' s1.1 s2.1 (by have:=s1.2;omega) (by have:=s2.2;omega)
 rw[BS,BS]at h1 h2 h3 l6;have u1:=λ n q=>IZ N n q (dg (x.natAbs+y.natAbs)) (s1.add s2 (by rw[BS,BS];omega))
 have u2:=λ n q=>IZ N n q (dg (x.natAbs-y.natAbs)) ((s1.low (V:=x.natAbs-y.natAbs) (by rw[BS];omega)).le (by omega))
 have u3:=λ n q=>IZ N n q (dg (y.natAbs-x.natAbs)) ((s2.low (V:=y.natAbs-x.natAbs) (by rw[BS];omega)).le (by omega))
 have e : ∀ n V,zv n (dg V)=bif n then -(V:Int) else (V:Int):=λ n V=>by unfold zv;rw[BS]
 refine Ev.x N.L5 rfl rfl ?_;(repeat' ((first|apply AE|refine AC (t1 _) ?_|refine AC (t2 _) ?_)<;>conv=>whnf))
 cases hx:decide (x<0)<;>cases hy:decide (y<0)
 ·have g1:=of_decide_eq_false hx
  have g2:=of_decide_eq_false hy;have hz:x+y=zv false (dg (x.natAbs+y.natAbs)):=by rw[e];simp only[cond_true,cond_false];omega
  rw[hz];(conv=>whnf)
  (repeat' ((first|refine AC (h1 _ _) ?_|refine AC (u1 _ _) ?_)<;>conv=>whnf))
  exact AU rfl (DK _)
 ·have g1:=of_decide_eq_false hx
  have g2:=of_decide_eq_true hy;by_cases l7:x.natAbs<y.natAbs
  ·have hz:x+y=zv true (dg (y.natAbs-x.natAbs)):=by rw[e];simp only[cond_true,cond_false];omega
   rw[hz];rw[<-HV (by omega)]at l6;(conv=>whnf)
   (repeat' ((first|(apply AG<;>intro hc<;>try omega)|refine AC (l6 _ _) ?_|refine AC (h3 _ _) ?_|refine AC (u3 _ _) ?_)<;>conv=>whnf))
   exact AU rfl (DK _)
  ·have hz:x+y=zv false (dg (x.natAbs-y.natAbs)):=by rw[e];simp only[cond_true,cond_false];omega
   rw[hz];have kg:=WG (show y.natAbs<=x.natAbs by omega);generalize DB (x.natAbs:Nat) (y.natAbs:Nat)=cm at *;(conv=>whnf)
   (repeat' ((first|(apply AG<;>intro hc<;>try omega)|refine AC (l6 _ _) ?_|refine AC (h2 _ _) ?_|refine AC (u2 _ _) ?_)<;>conv=>whnf))
   exact AU rfl (DK _)
 ·have g1:=of_decide_eq_true hx
  have g2:=of_decide_eq_false hy;by_cases l7:x.natAbs<y.natAbs
  ·have hz:x+y=zv false (dg (y.natAbs-x.natAbs)):=by rw[e];simp only[cond_true,cond_false];omega
   rw[hz];rw[<-HV (by omega)]at l6;(conv=>whnf)
   (repeat' ((first|(apply AG<;>intro hc<;>try omega)|refine AC (l6 _ _) ?_|refine AC (h3 _ _) ?_|refine AC (u3 _ _) ?_)<;>conv=>whnf))
   exact AU rfl (DK _)
  ·have hz:x+y=zv true (dg (x.natAbs-y.natAbs)):=by rw[e];simp only[cond_true,cond_false];omega
   rw[hz];have kg:=WG (show y.natAbs<=x.natAbs by omega);generalize DB (x.natAbs:Nat) (y.natAbs:Nat)=cm at *;(conv=>whnf)
   (repeat' ((first|(apply AG<;>intro hc<;>try omega)|refine AC (l6 _ _) ?_|refine AC (h2 _ _) ?_|refine AC (u2 _ _) ?_)<;>conv=>whnf))
   exact AU rfl (DK _)
 ·have g1:=of_decide_eq_true hx
  have g2:=of_decide_eq_true hy;have hz:x+y=zv true (dg (x.natAbs+y.natAbs)):=by rw[e];simp only[cond_true,cond_false];omega
  rw[hz];(conv=>whnf)
  (repeat' ((first|refine AC (h1 _ _) ?_|refine AC (u1 _ _) ?_)<;>conv=>whnf))
  exact AU rfl (DK _)
theorem Pk (N:b8 L) (n1 n2 q1 q2:Bool) (a b:List Nat) (ha:Sm 274877906943 a) (hb:Sm 274877906943 b):Ev L 116 [.agg (rZ q1 n1 a),.agg (rZ q2 n2 b)] (.agg (eZ (zv n1 a-zv n2 b))):=by
 have t2:=λ q=>aB N n2 q b (hb.le (by omega))
 have s2:Sm 274877906943 (dg (-(zv n2 b)).natAbs):=by rw[Int.natAbs_neg,EW];exact hb.rp
 have h1:=λ q q'=>kF N n1 (decide (-(zv n2 b)<0)) q q' a (dg (-(zv n2 b)).natAbs) ha s2
 rw[FB,<-Int.sub_eq_add_neg]at h1;refine Ev.x N.ME rfl rfl ?_;(repeat' ((first|apply AE|refine AC (t2 _) ?_|refine AC (h1 _ _) ?_)<;>conv=>whnf))
 exact AU rfl (DK _)
theorem Pg (N:b8 L) (n1 n2 q1 q2:Bool) (a b:List Nat) (ha:Sm 274877906943 a) (hb:Sm 274877906943 b):Ev L 117 [.agg (rZ q1 n1 a),.agg (rZ q2 n2 b)] (.int .i64 (u9 (zv n1 a-zv n2 b))):=by
 have h1:=λ q q'=>Pk N n1 n2 q q' a b ha hb
 have s1:Sm 274877906943 (dg (zv n1 a).natAbs):=by rw[EW];exact ha.rp
 have s2:Sm 274877906943 (dg (zv n2 b).natAbs):=by rw[EW];exact hb.rp
 have s3:Sm 274877906944 (dg (zv n1 a-zv n2 b).natAbs):=s1.add s2 (by rw[BS,BS];omega);have h2:=λ q=>WZ N (decide (zv n1 a-zv n2 b<0)) q (dg (zv n1 a-zv n2 b).natAbs) s3
 rw[FB]at h2;refine Ev.x N.L6 rfl rfl ?_;(repeat' ((first|apply AE|refine AC (h1 _ _) ?_|refine AC (h2 _) ?_)<;>conv=>whnf))
 exact C2 rfl
theorem aC (N:b8 L) (z:Int) (hz : -9223372036854775808<=z/\z<=9223372036854775807):Ev L 112 [.int .i64 z] (.agg (eZ z)):=by
 have two : ∀ k:Nat,k<18446744073709551616 -> ∀ n q,Ev L 111 [.agg [.bool n,.sl q [[.int .u32 ((k%4294967296:Nat):Int)],[.int .u32 ((k/4294967296:Nat):Int)]]]] (.agg (eZ (bif n then -(k:Int) else (k:Int)))):=λ k hk n q=>by
  have:=IZ N n q [k%4294967296,k/4294967296] ⟨(ZK hk).2,by simp⟩
  unfold zv at this;rw[rN hk]at this;exact this
 refine Ev.x N.MB rfl rfl ?_;by_cases h0:0<=z
 ·obtain ⟨k,rfl⟩:=Int.eq_ofNat_of_zero_le h0
  have hT:=two k (by omega);(repeat' ((first|(apply AG<;>intro hc<;>try omega)|apply FF|(apply CH;omega)|(apply D9;omega)|apply FP|refine TF rfl rfl ?_|apply AE)<;>conv=>whnf))
  generalize k%4294967296=lo at *;generalize k/4294967296=hi at *;(repeat' (refine AC (hT _ _) ?_<;>conv=>whnf))
  exact AU rfl (DK _)
 ·obtain ⟨k,hk⟩:=Int.eq_ofNat_of_zero_le (show 0 <= -(z+1) by omega)
  have qy:z = -((k+1:Nat):Int):=by omega
  have hT:=two (k+1) (by omega);(repeat' ((first|(apply AG<;>intro hc<;>try omega)|(apply AZ;omega)|apply uI|(apply DW.neg;omega)|(apply CH;omega)|apply AE)<;>conv=>whnf))
  rw[show IntKind.u64.wrap (-(z+1)+1)=((k+1:Nat):Int) by rw[IntWalk.u64_in _ (by omega)];omega];rw[qy];generalize k+1=k1 at *;(repeat' ((first|apply FF|(apply D9;omega)|apply FP|refine TF rfl rfl ?_)<;>conv=>whnf))
  generalize k1%4294967296=lo at *;generalize k1/4294967296=hi at *;(repeat' (refine AC (hT _ _) ?_<;>conv=>whnf))
  exact AU rfl (DK _)
theorem Ph (N:b8 L) (n1 n2 q1 q2:Bool) (a b:List Nat) (ha:Sm 274877906944 a) (hb:Sm 274877906944 b):Ev L 120 [.agg (rZ q1 n1 a),.agg (rZ q2 n2 b)] (.agg (eZ ((Nat.gcd (val a) (val b):Nat):Int))):=by
 have h1:=λ q q'=>Pa N a b q q' ha.1 hb.1 ha.2 hb.2
 refine Ev.x N.L8 rfl rfl ?_;(repeat' ((first|apply AE|refine AC (h1 _ _) ?_)<;>conv=>whnf))
 exact AU (EP (by omega) (GE (by omega))) (DK _)
theorem Mv (n1 n2:Bool) (A B:Nat) (hB:B≠0):(bif n1 then -(A:Int) else (A:Int))/(bif n2 then -(B:Int) else (B:Int))=(bif n1 != n2 then -((if n1=true/\A%B≠0 then A/B+1 else A/B:Nat):Int) else ((if n1=true/\A%B≠0 then A/B+1 else A/B:Nat):Int)) /\
  (bif n1 then -(A:Int) else (A:Int))%(bif n2 then -(B:Int) else (B:Int))=((if n1=true/\A%B≠0 then B-A%B else A%B:Nat):Int):=by
 have hBp:(0:Int)<B:=by omega
 have key : ∀ x:Int,x/(bif n2 then -(B:Int) else (B:Int))=(bif n2 then -(x/B) else x/B)/\x%(bif n2 then -(B:Int) else (B:Int))=x%B:=λ x=>by
  cases n2
  ·exact ⟨rfl,rfl⟩
  ·exact ⟨Int.ediv_neg x B,Int.emod_neg x B⟩
 rw[(key _).1,(key _).2];cases n1
 ·have h1:((A:Int))/B=((A/B:Nat):Int):=by simp
  have h2:((A:Int))%B=((A%B:Nat):Int):=by simp
  simp only[cond_false,h1,h2];cases n2<;>simp
 ·have hd:=Nat.div_add_mod A B
  have l7:=Nat.mod_lt A (show B>0 by omega);by_cases h0:A%B=0
  ·have e : -(A:Int)=(B:Int)*(-((A/B:Nat):Int)):=by
    rw[h0,Nat.add_zero]at hd;rw[Int.mul_neg,<-Int.natCast_mul,hd]
   have h1 : -(A:Int)/B = -((A/B:Nat):Int):=by rw[e,Int.mul_ediv_cancel_left _ (by omega)]
   have h2 : -(A:Int)%B=0:=by rw[e,Int.mul_emod_right]
   simp only[cond_true,h1,h2,h0];cases n2<;>simp
  ·have e : -(A:Int)=(B:Int)*(-((A/B+1:Nat):Int))+((B-A%B:Nat):Int):=by
    have h3:(B:Int)*((A/B:Nat):Int)+((A%B:Nat):Int)=A:=by rw[<-Int.natCast_mul,<-Int.natCast_add,hd]
    rw[Int.mul_neg,Int.natCast_add,Int.mul_add];omega
   have h1 : -(A:Int)/B = -((A/B+1:Nat):Int):=by
    rw[e,Int.mul_add_ediv_left _ _ (by omega),Int.ediv_eq_zero_of_lt (by omega) (by omega),Int.add_zero]
   have h2 : -(A:Int)%B=((B-A%B:Nat):Int):=by
    rw[e,Int.mul_add_emod_self_left,Int.emod_eq_of_lt (by omega) (by omega)]
   simp only[cond_true,h1,h2];cases n2<;>simp [h0]
theorem kG (N:b8 L) (n1 n2 q1 q2:Bool) (a b:List Nat) (ha:Sm 274877906943 a) (hb:Sm 274877906943 b) (h0:zv n2 b≠0):Ev L 119 [.agg (rZ q1 n1 a),.agg (rZ q2 n2 b)] (.j4 [.agg (eZ (zv n1 a/zv n2 b)),.agg (eZ (zv n1 a%zv n2 b)),.int .i64 0]):=by
 have t1:=λ q=>IZ N n1 q a (ha.le (by omega))
 have t2:=λ q=>IZ N n2 q b (hb.le (by omega))
 have s1:Sm 274877906943 (dg (zv n1 a).natAbs):=by rw[EW];exact ha.rp
 have s2:Sm 274877906943 (dg (zv n2 b).natAbs):=by rw[EW];exact hb.rp
 generalize zv n1 a=x at *;generalize zv n2 b=y at *;have yd:=λ q q'=>kC N (dg x.natAbs) (dg y.natAbs) q q' s1.1 s2.1 (by have:=s1.2;omega) (by have:=s2.2;omega) (by rw[BS];omega)
 rw[BS,BS]at yd;obtain ⟨e1,e2⟩:=Mv (decide (x<0)) (decide (y<0)) x.natAbs y.natAbs (by omega);have hx:(bif decide (x<0) then -(x.natAbs:Int) else (x.natAbs:Int))=x:=by have:=FB x;unfold zv at this;rw[BS]at this;exact this
 have hy:(bif decide (y<0) then -(y.natAbs:Int) else (y.natAbs:Int))=y:=by have:=FB y;unfold zv at this;rw[BS]at this;exact this
 rw[hx,hy]at e1 e2;rw[e1,e2];have l1:=s1.2;have l2:=s2.2;have hq:Sm 274877906943 (dg (x.natAbs/y.natAbs)):=s1.low (by rw[BS];exact Nat.div_le_self _ _);have hr:Sm 274877906943 (dg (x.natAbs%y.natAbs)):=s2.low (by rw[BS];exact Nat.le_of_lt (Nat.mod_lt _ (by omega)));have hrz:=HY (x.natAbs%y.natAbs);have jj:Ev L 103 [.sl false ((dg (x.natAbs/y.natAbs)).map AL),.sl true [[.int .u32 1]]] (.sl false ((dg (x.natAbs/y.natAbs+1)).map AL)):=by
  have:=kB N (dg (x.natAbs/y.natAbs)) [1] false true (DX _) (G7 (by omega)) (by have:=hq.2;omega) (by simp)
  rw[BS,show val [1]=1 from rfl]at this;exact this
 have uo:Sm 274877906944 (dg (x.natAbs/y.natAbs+1)):=hq.add (b:=[1]) (dA (by omega) (by omega)) (by rw[BS];simp [val]);have Bj:=λ q q'=>aA N (dg y.natAbs) (dg (x.natAbs%y.natAbs)) q q' s2.1 hr.1 (by omega) (by have:=hr.2;omega)
 rw[BS,BS]at Bj;have u1:=λ n q=>IZ N n q (dg (x.natAbs/y.natAbs)) (hq.le (by omega))
 have u2:=λ n q=>IZ N n q (dg (x.natAbs/y.natAbs+1)) uo
 have ez : ∀ n V,zv n (dg V)=bif n then -(V:Int) else (V:Int):=λ n V=>by unfold zv;rw[BS]
 have fin : ∀ (z:Int) (V:Nat),AJ (.j4 [.agg (eZ z),.agg [.bool false,.sl false ((dg V).map AL)],.int .i64 0]) (.j4 [.agg (eZ z),.agg (eZ (V:Int)),.int .i64 0]):=λ z V=>by
  have e3:AV.agg (eZ (V:Int)) = .agg [.bool false,.sl false ((dg V).map AL)]:=(EP (by omega) (GE (by omega))).symm;rw[e3];refine AU rfl ?_;simp only[A6,C6,and_true,true_and];exact ⟨CQ _,CQ _⟩
 clear e1 e2 hx hy;generalize x.natAbs/y.natAbs=qq at *;generalize x.natAbs%y.natAbs=rr at *;refine Ev.x N.L7 rfl rfl ?_;(repeat' ((first|(apply AG<;>intro hc<;>try omega)|apply AE|refine AC (t1 _) ?_|refine AC (t2 _) ?_|refine AC (yd _ _) ?_)<;>conv=>whnf))
 generalize decide (x<0)=p at *;generalize decide (y<0)=r at *;cases p
 ·rw[if_neg (by simp),if_neg (by simp),<-ez]
  cases r;all_goals
   (conv=>whnf)
   (repeat' (refine AC (u1 _ _) ?_<;>conv=>whnf))
   exact fin _ _
 ·by_cases oz:rr=0
  ·rw[if_neg (by simp [oz]),if_neg (by simp [oz]),<-ez]
   cases r;all_goals
    (conv=>whnf)
    (repeat' ((first|(apply AG<;>intro hc<;>try omega)|apply AR|refine AC (u1 _ _) ?_)<;>conv=>whnf))
    exact fin _ _
  ·rw[if_pos ⟨rfl,oz⟩,if_pos ⟨rfl,oz⟩,<-ez]
   cases r;all_goals
    (conv=>whnf)
    (repeat' ((first|(apply AG<;>intro hc<;>try omega)|apply AR|refine IH rfl ?_|refine AC (jj) ?_|refine AC (Bj _ _) ?_|refine AC (u2 _ _) ?_)<;>conv=>whnf))
    exact fin _ _
theorem iC:dg 1=[1]:=by rw[IJ (by omega)];simp [EZ]
theorem fO:AV.agg [.bool false,.sl false [],.sl false [[.int .u32 1]]] = .agg (eQ 0):=by
 show _=AV.agg (rQ _ _ _ _ _);rw[Rat.zero_num,Rat.zero_den,iC,show (0:Int).natAbs=0 from rfl,EZ];rfl
theorem yV {x y:Int} (hy:y≠0):(Rat.divInt x y).num=(if y<0 then -(x/((Nat.gcd x.natAbs y.natAbs:Nat):Int)) else x/((Nat.gcd x.natAbs y.natAbs:Nat):Int))/\(Rat.divInt x y).den=(y/((Nat.gcd x.natAbs y.natAbs:Nat):Int)).natAbs:=by
 have h1:=Rat.num_divInt x y;have h2:=Rat.den_divInt x y;rw[if_neg hy]at h2;have hg:Int.gcd y x=Nat.gcd x.natAbs y.natAbs:=by rw[Int.gcd,Nat.gcd_comm]
 rw[hg]at h1 h2;have Fc:0<Nat.gcd x.natAbs y.natAbs:=Nat.gcd_pos_of_pos_right _ (by omega);have dx:((Nat.gcd x.natAbs y.natAbs:Nat):Int) ∣ x:=Int.ofNat_dvd_left.2 (Nat.gcd_dvd_left _ _);have dy:((Nat.gcd x.natAbs y.natAbs:Nat):Int) ∣ y:=Int.ofNat_dvd_left.2 (Nat.gcd_dvd_right _ _);generalize Nat.gcd x.natAbs y.natAbs=g at *;rw[h1,h2];obtain ⟨u,rfl⟩:=dx;obtain ⟨v,rfl⟩:=dy;have wx:(g:Int)≠0:=by omega
 refine ⟨?_,?_⟩
 ·rw[Int.mul_ediv_cancel_left _ wx]
  split
  ·rename_i h
   rw[Int.sign_eq_neg_one_of_neg h,show -1*((g:Int)*u)=g*(-u) by rw[Int.mul_neg];omega,Int.mul_ediv_cancel_left _ wx]
  ·rw[Int.sign_eq_one_of_pos (by omega),Int.one_mul,Int.mul_ediv_cancel_left _ wx]
 ·rw[Int.mul_ediv_cancel_left _ wx,Int.natAbs_mul,Int.natAbs_natCast,Nat.mul_div_cancel_left _ Fc]
theorem W0 (N:b8 L) (n1 n2 q1 q2:Bool) (a b:List Nat) (ha:Sm 274877906943 a) (hb:Sm 274877906943 b):Ev L 121 [.agg (rZ q1 n1 a),.agg (rZ q2 n2 b)] (.agg (eQ (Rat.divInt (zv n1 a) (zv n2 b)))):=by
 have t1:=λ q=>WZ N n1 q a (ha.le (by omega))
 have t2:=λ q=>WZ N n2 q b (hb.le (by omega))
 by_cases h1:zv n1 a=0
 ·rw[h1,Rat.zero_divInt,<-fO]
  rw[h1,<-U7 rfl]at t1;refine Ev.x N.H7 rfl rfl ?_;(repeat' ((first|(apply AG<;>intro hc<;>try omega)|refine IH rfl ?_|apply AE|refine AC (t1 _) ?_)<;>conv=>whnf))
  exact AU rfl (WC false [] [1])
 have s1:u9 (zv n1 a)≠0:=by unfold u9;split<;>(try split)<;>omega
 by_cases h2:zv n2 b=0
 ·rw[h2,Rat.divInt_zero,<-fO]
  rw[h2,<-U7 rfl]at t2;generalize u9 (zv n1 a)=sg at *;refine Ev.x N.H7 rfl rfl ?_;(repeat' ((first|(apply AG<;>intro hc<;>try omega)|refine IH rfl ?_|apply AE|refine AC (t1 _) ?_|refine AC (t2 _) ?_)<;>conv=>whnf))
  exact AU rfl (WC false [] [1])
 have s2:u9 (zv n2 b)≠0:=by unfold u9;split<;>(try split)<;>omega
 obtain ⟨p1,p2⟩:=yV (x:=zv n1 a) h2;have hG:=λ q q'=>Ph N n1 n2 q q' a b (ha.le (by omega)) (hb.le (by omega))
 have hle:Nat.gcd (val a) (val b)<=val b:=Nat.gcd_le_right _ (by have:=EW n2 b;omega);have Fc:0<Nat.gcd (val a) (val b):=Nat.gcd_pos_of_pos_right _ (by have:=EW n2 b;omega);have sg:Sm 274877906943 (dg (Nat.gcd (val a) (val b))):=hb.low hle;rw[EW,EW]at p1 p2;have hgf:decide (((Nat.gcd (val a) (val b):Nat):Int)<0)=false:=by simp
 have Kk:Sm 274877906943 (dg (((Nat.gcd (val a) (val b):Nat):Int)).natAbs):=by rw[Int.natAbs_natCast];exact sg
 have zg:zv (decide (((Nat.gcd (val a) (val b):Nat):Int)<0)) (dg (((Nat.gcd (val a) (val b):Nat):Int)).natAbs)=((Nat.gcd (val a) (val b):Nat):Int):=FB _;have nw:=λ q q'=>kG N n1 _ q q' a _ ha Kk (by rw[zg];omega)
 have mq:=λ q q'=>kG N n2 _ q q' b _ hb Kk (by rw[zg];omega)
 rw[zg]at nw mq;have qj:Sm 274877906943 (dg (zv n1 a/((Nat.gcd (val a) (val b):Nat):Int)).natAbs):=ha.low (by
  have:(zv n1 a/((Nat.gcd (val a) (val b):Nat):Int)).natAbs<=(zv n1 a).natAbs:=Int.natAbs_ediv_le_natAbs _ _
  rw[EW]at this;exact this)
 have wx:0<((Nat.gcd (val a) (val b):Nat):Int):=by omega
 generalize ((Nat.gcd (val a) (val b):Nat):Int)=g at *;generalize zv n1 a=x at *;generalize zv n2 b=y at *;generalize u9 x=sx at *;generalize u9 y=sy at *;have hN:=λ q=>aB N (decide (x/g<0)) q (dg (x/g).natAbs) (qj.le (by omega))
 rw[FB]at hN;have Dd:decide (y/g<0)=decide (y<0):=by
  congr 1;rw[eq_iff_iff,Int.ediv_lt_iff_lt_mul (by omega),Int.zero_mul]
 refine Ev.x N.H7 rfl rfl ?_;(repeat' ((first|(apply AG<;>intro hc<;>try omega)|apply AE|refine AC (t1 _) ?_|refine AC (t2 _) ?_|refine AC (hG _ _) ?_|refine AC (nw _ _) ?_|refine AC (mq _ _) ?_)<;>conv=>whnf))
 cases Jl:decide (y/g<0)
 ·rw[Jl]at Dd
  rw[if_neg (of_decide_eq_false Dd.symm)]at p1;(conv=>whnf)
  skip
  refine AU ?_ (EA _);show _=AV.agg (rQ _ _ _ _ _);rw[p1,p2]
 ·rw[Jl]at Dd
  rw[if_pos (of_decide_eq_true Dd.symm)]at p1;(conv=>whnf)
  (repeat' (refine AC (hN _) ?_<;>conv=>whnf))
  refine AU ?_ (EA _);show _=AV.agg (rQ _ _ _ _ _);rw[p1,p2]
theorem yW {z:Int} {d:List Nat}:Rat.divInt z (zv false d)=mkRat z (val d):=by rw[ER,Rat.divInt_ofNat]
def uJ (n:Bool) (m d:List Nat) (n':Bool) (m' d':List Nat) (k:Nat):Prop:=Sm k m'/\Sm k d'/\val d'≠0/\qv n m d=mkRat (zv n' m') (val d')
theorem gI (n:Bool) (m d:List Nat):A6 (.j4 [.agg (rZ false n m),.agg (rZ false false d)]):=by
 simp only[A6,C6,and_true,true_and];exact ⟨CQ _,CQ _⟩
theorem PE (N:b8 L) (n q:Bool) (m d:List Nat) (k:Nat) (hk:1<=k/\k<=274877906943) (hm:Sm k m) (hd:Sm k d) : ∃ n' m' d',Ev L 122 [.agg (rQ false q n m d)] (.j4 [.agg (rZ false n' m'),.agg (rZ false false d')])/\uJ n m d n' m' d' k:=by
 have t1:=λ q=>GD N d q hd.1 (by have:=hd.2;omega)
 have hl:=HY (val d);by_cases h0:val d=0
 ·refine ⟨false,[],[1],?_,pZ _,dA hk.1 (by omega),by decide,by unfold qv;rw[h0,Rat.mkRat_zero,rX,Rat.zero_mkRat]⟩
  refine Ev.x N.JC rfl rfl ?_;(repeat' ((first|(apply AG<;>intro hc<;>try omega)|apply AR|refine IH rfl ?_|apply AE|refine AC (t1 _) ?_)<;>conv=>whnf))
  exact AU rfl (gI false [] [1])
 ·refine ⟨n,m,dg (val d),?_,hm,hd.rp,by rw[BS];exact h0,by rw[BS];rfl⟩
  refine Ev.x N.JC rfl rfl ?_;(repeat' ((first|(apply AG<;>intro hc<;>try omega)|apply AR|apply AE|refine AC (t1 _) ?_)<;>conv=>whnf))
  exact AU rfl (gI _ _ _)
theorem Pp (N:b8 L) (n q:Bool) (m d:List Nat) (hm:Sm 274877906943 m) (hd:Sm 274877906943 d):Ev L 123 [.agg (rQ false q n m d)] (.agg (eQ (qv n m d))):=by
 obtain ⟨n',m',d',hp,s1,s2,s3,s4⟩:=PE N n q m d 274877906943 (by omega) hm hd;have hr:=λ q q'=>W0 N n' false q q' m' d' s1 s2
 rw[yW,<-s4]at hr;refine Ev.x N.MP rfl rfl ?_;(repeat' ((first|apply AE|refine AC (hp) ?_|refine AC (hr _ _) ?_)<;>conv=>whnf))
 exact AU rfl (EA _)
theorem wC (z:Int):AV.agg [.bool (decide (z<0)),.sl false ((dg z.natAbs).map AL),.sl false [[.int .u32 1]]] = .agg (eQ (z:Rat)):=by
 show _=AV.agg (rQ _ _ _ _ _);rw[Rat.num_intCast,Rat.den_intCast,iC];rfl
theorem kI (N:b8 L) (z:Int) (hz : -9223372036854775808<=z/\z<=9223372036854775807):Ev L 124 [.int .i64 z] (.agg (eQ (z:Rat))):=by
 have h1:=aC N z hz;refine Ev.x N.ML rfl rfl ?_;(repeat' ((first|refine IH rfl ?_|apply AE|refine AC (h1) ?_)<;>conv=>whnf))
 exact AU (wC z) (EA _)
theorem qA {z:Int} (hz : -9223372036854775808<=z/\z<=9223372036854775808):Sm 2 (dg z.natAbs):=Sm.dg (by omega)
theorem kH (N:b8 L) (x y:Int) (hx : -9223372036854775808<=x/\x<=9223372036854775807) (hy : -9223372036854775808<=y/\y<=9223372036854775807):Ev L 125 [.int .i64 x,.int .i64 y] (.agg (eQ (Rat.divInt x y))):=by
 have h1:=aC N x hx;have h2:=aC N y hy;have hr:=λ q q'=>W0 N (decide (x<0)) (decide (y<0)) q q' _ _ ((qA (z:=x) (by omega)).le (by omega)) ((qA (z:=y) (by omega)).le (by omega))
 rw[FB,FB]at hr;refine Ev.x N.MI rfl rfl ?_;(repeat' ((first|apply AE|refine AC (h1) ?_|refine AC (h2) ?_|refine AC (hr _ _) ?_)<;>conv=>whnf))
 exact AU rfl (EA _)
theorem Q9 {k l:Nat} {n1 n2:Bool} {a b:List Nat} (ha:Sm k a) (hb:Sm l b):Sm (k+l) (dg (zv n1 a*zv n2 b).natAbs):=ha.mul hb (by rw[Int.natAbs_mul,EW,EW])
theorem Vs {k:Nat} {x y:Int} (ha:Sm k (dg x.natAbs)) (hb:Sm k (dg y.natAbs)):Sm (k+1) (dg (x+y).natAbs):=ha.add hb (by rw[BS,BS];omega)
theorem Pl (N:b8 L) (k:Nat) (hk:1<=k/\k<=68719476736) (n1 n2 q2 q4:Bool) (m1 d1 m2 d2:List Nat) (gf:Sm k m1) (je:Sm k d1) (fc:Sm k m2) (mv:Sm k d2) :
  Ev L 126 [.agg (rQ false q2 n1 m1 d1),.agg (rQ false q4 n2 m2 d2)] (.agg (eQ (qv n1 m1 d1+qv n2 m2 d2))):=by
 obtain ⟨a1,a2,a3,cn,s1,s2,s3,s5⟩:=PE N n1 q2 m1 d1 k (by omega) gf je;obtain ⟨b1,b2,b3,aq,t1,t2,t3,t5⟩:=PE N n2 q4 m2 d2 k (by omega) fc mv;have l1:=s1.2;have l2:=s2.2;have l3:=t1.2;have l4:=t2.2;rw[s5,t5,XC s3 t3,<-ER b3,<-ER a3];have ff:=λ q q'=>QO N a1 false q q' a2 b3 s1.1 t2.1 (by omega)
 have ja:=λ q q'=>QO N b1 false q q' b2 a3 t1.1 s2.1 (by omega)
 have mr:=λ q q'=>QO N false false q q' a3 b3 s2.1 t2.1 (by omega)
 have g1:Sm (k+k) (dg (zv a1 a2*zv false b3).natAbs):=Q9 s1 t2;have g2:Sm (k+k) (dg (zv b1 b2*zv false a3).natAbs):=Q9 t1 s2;have g3:=Vs g1 g2;have g4:Sm (k+k) (dg (zv false a3*zv false b3).natAbs):=Q9 s2 t2;have hA:=λ q q'=>kF N (decide (zv a1 a2*zv false b3<0)) (decide (zv b1 b2*zv false a3<0)) q q' _ _ (g1.le (by omega)) (g2.le (by omega))
 rw[FB,FB]at hA;have hR:=λ q q'=>W0 N (decide (zv a1 a2*zv false b3+zv b1 b2*zv false a3<0)) (decide (zv false a3*zv false b3<0)) q q' _ _ (g3.le (by omega)) (g4.le (by omega))
 rw[FB,FB,show zv false a3*zv false b3=((val a3*val b3:Nat):Int) by rw[ER,ER];simp,Rat.divInt_ofNat]at hR;rw[show zv false a3*zv false b3=((val a3*val b3:Nat):Int) by rw[ER,ER];simp]at mr;refine Ev.x N.MG rfl rfl ?_;(repeat' ((first|apply AE|refine AC (cn) ?_|refine AC (aq) ?_|refine AC (ff _ _) ?_|refine AC (ja _ _) ?_|refine AC (hA _ _) ?_|refine AC (mr _ _) ?_|refine AC (hR _ _) ?_)<;>conv=>whnf))
 exact AU rfl (EA _)
theorem Pn (N:b8 L) (k:Nat) (hk:1<=k/\k<=68719476736) (n1 n2 q2 q4:Bool) (m1 d1 m2 d2:List Nat) (gf:Sm k m1) (je:Sm k d1) (fc:Sm k m2) (mv:Sm k d2) :
  Ev L 128 [.agg (rQ false q2 n1 m1 d1),.agg (rQ false q4 n2 m2 d2)] (.agg (eQ (qv n1 m1 d1*qv n2 m2 d2))):=by
 obtain ⟨a1,a2,a3,cn,s1,s2,s3,s5⟩:=PE N n1 q2 m1 d1 k (by omega) gf je;obtain ⟨b1,b2,b3,aq,t1,t2,t3,t5⟩:=PE N n2 q4 m2 d2 k (by omega) fc mv;have l1:=s1.2;have l2:=s2.2;have l3:=t1.2;have l4:=t2.2;rw[s5,t5,bN];have ff:=λ q q'=>QO N a1 b1 q q' a2 b2 s1.1 t1.1 (by omega)
 have mr:=λ q q'=>QO N false false q q' a3 b3 s2.1 t2.1 (by omega)
 have g1:Sm (k+k) (dg (zv a1 a2*zv b1 b2).natAbs):=Q9 s1 t1;have g4:Sm (k+k) (dg (zv false a3*zv false b3).natAbs):=Q9 s2 t2;have hR:=λ q q'=>W0 N (decide (zv a1 a2*zv b1 b2<0)) (decide (zv false a3*zv false b3<0)) q q' _ _ (g1.le (by omega)) (g4.le (by omega))
 rw[FB,FB,show zv false a3*zv false b3=((val a3*val b3:Nat):Int) by rw[ER,ER];simp,Rat.divInt_ofNat]at hR;rw[show zv false a3*zv false b3=((val a3*val b3:Nat):Int) by rw[ER,ER];simp]at mr;refine Ev.x N.MJ rfl rfl ?_;(repeat' ((first|apply AE|refine AC (cn) ?_|refine AC (aq) ?_|refine AC (ff _ _) ?_|refine AC (mr _ _) ?_|refine AC (hR _ _) ?_)<;>conv=>whnf))
 exact AU rfl (EA _)
theorem nT {a b:Int} {d e:Nat} (hd:d≠0) (he:e≠0):u9 (a*e-b*d)=u9 (mkRat a d-mkRat b e).num:=by
 have h:mkRat a d-mkRat b e=mkRat (a*e-b*d) (d*e):=by
  rw[Rat.sub_eq_add_neg,Rat.neg_mkRat,XC hd he,Int.neg_mul,<-Int.sub_eq_add_neg]
 rw[h,nV (Nat.mul_ne_zero hd he)]
theorem Pm (N:b8 L) (k:Nat) (hk:1<=k/\k<=68719476736) (n1 n2 q2 q4:Bool) (m1 d1 m2 d2:List Nat) (gf:Sm k m1) (je:Sm k d1) (fc:Sm k m2) (mv:Sm k d2) :
  Ev L 127 [.agg (rQ false q2 n1 m1 d1),.agg (rQ false q4 n2 m2 d2)] (.int .i64 (u9 (qv n1 m1 d1-qv n2 m2 d2).num)):=by
 obtain ⟨a1,a2,a3,cn,s1,s2,s3,s5⟩:=PE N n1 q2 m1 d1 k (by omega) gf je;obtain ⟨b1,b2,b3,aq,t1,t2,t3,t5⟩:=PE N n2 q4 m2 d2 k (by omega) fc mv;have l1:=s1.2;have l2:=s2.2;have l3:=t1.2;have l4:=t2.2;rw[s5,t5,<-nT s3 t3,<-ER b3,<-ER a3];have ff:=λ q q'=>QO N a1 false q q' a2 b3 s1.1 t2.1 (by omega)
 have ja:=λ q q'=>QO N b1 false q q' b2 a3 t1.1 s2.1 (by omega)
 have g1:Sm (k+k) (dg (zv a1 a2*zv false b3).natAbs):=Q9 s1 t2;have g2:Sm (k+k) (dg (zv b1 b2*zv false a3).natAbs):=Q9 t1 s2;have hC:=λ q q'=>Pg N (decide (zv a1 a2*zv false b3<0)) (decide (zv b1 b2*zv false a3<0)) q q' _ _ (g1.le (by omega)) (g2.le (by omega))
 rw[FB,FB]at hC;refine Ev.x N.MH rfl rfl ?_;(repeat' ((first|apply AE|refine AC (cn) ?_|refine AC (aq) ?_|refine AC (ff _ _) ?_|refine AC (ja _ _) ?_|refine AC (hC _ _) ?_)<;>conv=>whnf))
 exact C2 rfl
theorem Bt.kv {k:Nat} {x:Rat} (h:Bt k x) (hk:k<2199023255552):Sm 68719476736 (dg x.num.natAbs)/\Sm 68719476736 (dg x.den):=h.Hr (by omega)
theorem Ls (N:b8 L) {x y:Rat} {k l:Nat} (hx:Bt k x) (hy:Bt l y) (hk:k<2199023255552) (hl:l<2199023255552):Ev L 126 [.agg (eQ x),.agg (eQ y)] (.agg (eQ (x+y))):=by
 have:=Pl N 68719476736 (by omega) (decide (x.num<0)) (decide (y.num<0)) false false _ _ _ _ (hx.kv hk).1 (hx.kv hk).2 (hy.kv hl).1 (hy.kv hl).2
 rw[FA,FA]at this;exact this
theorem WX (N:b8 L) {x y:Rat} {k l:Nat} (hx:Bt k x) (hy:Bt l y) (hk:k<2199023255552) (hl:l<2199023255552):Ev L 128 [.agg (eQ x),.agg (eQ y)] (.agg (eQ (x*y))):=by
 have:=Pn N 68719476736 (by omega) (decide (x.num<0)) (decide (y.num<0)) false false _ _ _ _ (hx.kv hk).1 (hx.kv hk).2 (hy.kv hl).1 (hy.kv hl).2
 rw[FA,FA]at this;exact this
theorem kQ (N:b8 L) {x:Rat} {k:Nat} (hx:Bt k x) (hk:k<2199023255552):Ev L 123 [.agg (eQ x)] (.agg (eQ x)):=by
 have:=Pp N (decide (x.num<0)) false _ _ ((hx.kv hk).1.le (by omega)) ((hx.kv hk).2.le (by omega))
 rw[FA]at this;exact this
theorem jO (N:b8 L) {x y:Rat} {k l:Nat} (hx:Bt k x) (hy:Bt l y) (hk:k<2199023255552) (hl:l<2199023255552):Ev L 127 [.agg (eQ x),.agg (eQ y)] (.int .i64 (u9 (x-y).num)):=by
 have:=Pm N 68719476736 (by omega) (decide (x.num<0)) (decide (y.num<0)) false false _ _ _ _ (hx.kv hk).1 (hx.kv hk).2 (hy.kv hl).1 (hy.kv hl).2
 rw[FA,FA]at this;exact this
theorem cY {x y:Rat}:u9 (x-y).num=0↔x=y:=by
 have h:u9 (x-y).num=0↔(x-y).num=0:=by unfold u9;split<;>(try split)<;>omega
 rw[h,Rat.num_eq_zero];constructor
 ·intro h;grind
 ·rintro rfl;exact Rat.sub_self
theorem ZY (N:b8 L) (a b:List Rat) (q1 q2:Bool) (k:Nat) (ha:Bs k a) (hb:Bs k b) (hk:k<2199023255552) (hl:a.length<=1099511627776):Ev L 129 [.sl q1 (a.map eQ),.sl q2 (b.map eQ)] (.bool (decide (a=b))):=by
 refine Ev.x N.MT rfl rfl ?_;by_cases hlen:a.length=b.length
 ·(repeat' ((first|(apply AG<;>intro hc<;>try omega)|apply AR|apply AE)<;>conv=>whnf))
  refine ED (λ i=>a.length-i) (λ(i:Nat)=>i<=a.length/\a.take i=b.take i) (λ i=>[(5,.int .i64 i)]) (λ_=>[]) 0 ⟨by omega,rfl⟩ ?_;intro i ⟨p1,p2⟩ ih;by_cases hi:i<a.length
  ·obtain ⟨x,hx⟩ : ∃ x,a[i]? = some x:=⟨_,zE hi⟩
   obtain ⟨y,hy⟩ : ∃ y,b[i]? = some y:=⟨_,zE (by omega)⟩;have gi:a[(i:Int).toNat]? = some x:=hx;have ti:b[(i:Int).toNat]? = some y:=hy;have Ht:=jO N (ha.at hx) (hb.at hy) hk hk;have hs:=cY (x:=x) (y:=y);generalize u9 (x-y).num=sg at *;by_cases ko:x=y
   ·have h0:sg=0:=hs.2 ko
    (repeat' ((first|(apply AG<;>intro hc<;>try omega)|(apply AZ;omega)|apply AR|(refine BL (by assumption) ?_ rfl ?_;omega)|apply AE|refine AC (Ht) ?_)<;>conv=>whnf))
    refine B5 [] (by (conv=>whnf);exact ⟨rfl,rfl,rfl⟩) (ih (i+1) (by omega) ⟨by omega,?_⟩);rw[List.take_add_one,List.take_add_one,p2,hx,hy,ko]
   ·have m8:sg≠0:=λ h=>ko (hs.1 h)
    (repeat' ((first|(apply AG<;>intro hc<;>try omega)|apply AR|(refine BL (by assumption) ?_ rfl ?_;omega)|apply AE|refine AC (Ht) ?_)<;>conv=>whnf))
    refine VS (λ h=>ko ?_);rw[h,hy]at hx;exact (Option.some.inj hx).symm
  ·obtain rfl:i=a.length:=by omega
   clear ih;(repeat' ((first|(apply AG<;>intro hc<;>try omega)|apply AR|apply AE)<;>conv=>whnf))
   refine eG ?_;rw[zT (Nat.le_refl _),zT (by omega)]at p2;exact p2
 ·(repeat' ((first|(apply AG<;>intro hc<;>try omega)|apply AR|apply AE)<;>conv=>whnf))
  exact VS (λ h=>hlen (by rw[h]))
theorem Ot (N:q9 L) {x:Rat} {k:Nat} (hx:Bt k x) (hk:k<2199023255552):Ev L 152 [.agg (eQ x)] (.agg (eQ (-x))):=by
 have hT:=kQ N.tob8 hx hk;have hN:=λ q=>aB N.tob8 (decide (x.num<0)) q (dg x.num.natAbs) ((hx.kv hk).1.le (by omega))
 rw[FB]at hN;refine Ev.x N.MK rfl rfl ?_;(repeat' ((first|apply AE|refine AC (hT) ?_|refine AC (hN _) ?_)<;>conv=>whnf))
 refine AU ?_ (EA _);show _=AV.agg (rQ _ _ _ _ _);rw[Rat.neg_num,Rat.neg_den]
theorem kD (N:q9 L) (q1 q2:Bool) (m:List Nat) (hm:m.length<=274877906944):Ev L 156 [.sl q1 (m.map AL),.sl q2 (m.map AL)] (.bool true):=by
 refine Ev.x N.L3 rfl rfl ?_;(repeat' ((first|(apply AG<;>intro hc<;>try omega)|apply AR|apply AE)<;>conv=>whnf))
 refine ED (λ i=>m.length-i) (λ(i:Nat)=>i<=m.length) (λ i=>[(5,.int .i64 i)]) (λ_=>[]) 0 (by omega) ?_;intro i p1 ih;by_cases hi:i<m.length
 ·obtain ⟨x,hx⟩ : ∃ x,m[i]? = some x:=⟨_,zE hi⟩
  have gi:m[(i:Int).toNat]? = some x:=hx;(repeat' ((first|(apply AG<;>intro hc<;>try omega)|(apply AZ;omega)|apply AR|(refine BL (by assumption) ?_ rfl ?_;omega)|apply AE)<;>conv=>whnf))
  exact B0 [] (ih (i+1) (by omega) (by omega))
 ·obtain rfl:i=m.length:=by omega
  clear ih;(repeat' ((first|(apply AG<;>intro hc<;>try omega)|apply AR|apply AE)<;>conv=>whnf))
  exact HQ rfl
theorem Pj (N:q9 L) (n q1 q2:Bool) (m:List Nat) (hm:m.length<=274877906944):Ev L 157 [.agg (rZ q1 n m),.agg (rZ q2 n m)] (.bool true):=by
 have h1:=λ q1 q2=>kD N q1 q2 m hm
 refine Ev.x N.MC rfl rfl ?_;cases n;all_goals
  (repeat' ((first|apply AE|refine AC (h1 _ _) ?_)<;>conv=>whnf))
  exact HQ rfl
theorem Po (N:q9 L) {x:Rat} {k:Nat} (hx:Bt k x) (hk:k<2199023255552):Ev L 158 [.agg (eQ x),.agg (eQ x)] (.bool true):=by
 have hs:=hx.kv hk;have h1:=λ q1 q2=>kD N q1 q2 (dg x.den) (by have:=hs.2.2;omega)
 have h2:=λ q1 q2=>Pj N (decide (x.num<0)) q1 q2 (dg x.num.natAbs) (by have:=hs.1.2;omega)
 refine Ev.x N.MM rfl rfl ?_;(repeat' ((first|apply AE|refine AC (h1 _ _) ?_|refine AC (h2 _ _) ?_)<;>conv=>whnf))
 exact HQ rfl
theorem Lo (N:q9 L) (q1 q2:Bool) (l:List Rat) (k:Nat) (hl:Bs k l) (hk:k<2199023255552) (hn:l.length<=1099511627776):Ev L 159 [.sl q1 (l.map eQ),.sl q2 (l.map eQ)] (.bool true):=by
 refine Ev.x N.MN rfl rfl ?_;(repeat' ((first|(apply AG<;>intro hc<;>try omega)|apply AR|apply AE)<;>conv=>whnf))
 refine ED (λ i=>l.length-i) (λ(i:Nat)=>i<=l.length) (λ i=>[(5,.int .i64 i)]) (λ_=>[]) 0 (by omega) ?_;intro i p1 ih;by_cases hi:i<l.length
 ·obtain ⟨x,hx⟩ : ∃ x,l[i]? = some x:=⟨_,zE hi⟩
  have gi:l[(i:Int).toNat]? = some x:=hx;have hC:=Po N (hl.at hx) hk;(repeat' ((first|(apply AG<;>intro hc<;>try omega)|(apply AZ;omega)|apply AR|(refine BL (by assumption) ?_ rfl ?_;omega)|apply AE|refine AC (hC) ?_)<;>conv=>whnf))
  exact B0 [] (ih (i+1) (by omega) (by omega))
 ·obtain rfl:i=l.length:=by omega
  clear ih;(repeat' ((first|(apply AG<;>intro hc<;>try omega)|apply AR|apply AE)<;>conv=>whnf))
  exact HQ rfl
theorem kO (N:q9 L) {x:Rat} {k:Nat} (hx:Bt k x) (hk:k<2199023255552) : ∃ s:Int,Ev L 155 [.agg (eQ x)] (.int .i64 s)/\(s=0↔x=0):=by
 have hm:=hx.kv hk;obtain ⟨n',m',d',hp,s1,s2,s3,s4⟩:=PE N.tob8 (decide (x.num<0)) false (dg x.num.natAbs) (dg x.den) 274877906943 (by omega) (hm.1.le (by omega)) (hm.2.le (by omega));have hS:=λ q=>WZ N.tob8 n' q m' (s1.le (by omega))
 rw[FA]at s4;have hz:u9 (zv n' m')=0↔x=0:=by
  rw[s4,Rat.mkRat_eq_zero s3];unfold u9;split<;>(try split)<;>omega
 generalize u9 (zv n' m')=s at *;refine ⟨s,?_,hz⟩;refine Ev.x N.MO rfl rfl ?_;(repeat' ((first|apply AE|refine AC (hp) ?_|refine AC (hS _) ?_)<;>conv=>whnf))
 exact C2 rfl
def CB (l:List Rat):Nat->Nat
 | 0=>0
 | n+1=>if l.getD n 0=0 then CB l n else n+1
theorem HW (l:List Rat) : ∀ n,CB l n<=n
 | 0=>Nat.le_refl _
 | n+1=>by rw[CB];split;exact Nat.le_succ_of_le (HW l n);exact Nat.le_refl _
def BQ (l:List Rat):List Rat:=l.take (CB l l.length)
theorem gX (l:List Rat) (k:Nat) : ∀ n,n<=k->CB (l.take k) n=CB l n
 | 0,_=>rfl
 | n+1,h=>by
  rw[CB,CB,gX l k n (by omega),List.getD_eq_getElem?_getD,List.getD_eq_getElem?_getD,List.getElem?_take_of_lt (by omega)]
theorem gW (l:List Rat) : ∀ n,CB l (CB l n)=CB l n
 | 0=>rfl
 | n+1=>by
  rw[CB];split
  ·exact gW l n
  ·next h=>rw[CB,if_neg h]
theorem NG (l:List Rat):(BQ l).length=CB l l.length:=by rw[BQ,List.length_take];exact Nat.min_eq_left (HW _ _)
theorem dR (l:List Rat):BQ (BQ l)=BQ l:=by
 have h:=NG l;have h2:CB (BQ l) (BQ l).length=(BQ l).length:=by
  rw[h,BQ,gX _ _ _ (Nat.le_refl _),gW]
 rw[BQ,h2,List.take_length]
theorem Bs.trim {k:Nat} {l:List Rat} (h:Bs k l):Bs k (BQ l):=λ x hx=>h x (List.mem_of_mem_take hx)
theorem RE {l:List Rat} {i:Nat} {x:Rat} (h:l[i]? = some x):l.take (i+1)=l.take i++[x]:=by
 rw[List.take_add_one,h];rfl
theorem Pr (N:ak L) (q:Bool) (l:List Rat) (k:Nat) (hl:Bs k l) (hk:k<2199023255552) (hn:l.length<=1000000):Ev L 171 [.sl q (l.map eQ)] (.sl false ((BQ l).map eQ)):=by
 refine Ev.x N.MS rfl rfl ?_;(repeat' ((first|apply AR|apply AE)<;>conv=>whnf))
 refine ED (λ n=>n) (λ(n:Nat)=>n<=l.length/\CB l l.length=CB l n) (λ n=>[(3,.int .i64 n)]) (λ_=>[]) l.length ⟨Nat.le_refl _,rfl⟩ ?_;intro n ⟨p1,p2⟩ ih;have done : ∀ {n:Nat},CB l l.length=n->BQ l=l.take n:=λ h=>by rw[BQ,h]
 by_cases hz:n=0\/(∃ m x,n=m+1/\l[m]? = some x/\x≠0)
 ·have ay:CB l l.length=n:=by
   rw[p2];rcases hz with rfl|⟨m,x,rfl,h1,h2⟩
   ·rfl
   ·rw[CB,if_neg]
    rw[List.getD_eq_getElem?_getD,h1];exact h2
  rw[done ay];have fo:(l.take n).length=n:=by rw[List.length_take];omega
  have Bk:Bs k (l.take n):=hl.take n;clear ih ay p2 done;rcases hz with h0|⟨m,x,um,h1,h2⟩
  case' inl=>(repeat' ((first|(apply AG<;>intro hc<;>try omega)|apply AE)<;>conv=>whnf))
  case' inr =>
   have lh:l[((n:Int)-1).toNat]? = some x:=by rw[show ((n:Int)-1).toNat=m by omega];exact h1
   obtain ⟨s,hS,hs⟩:=kO N.toq9 (hl.at h1) hk;have ju:s≠0:=λ h=>h2 (hs.1 h)
   (repeat' ((first|(apply AG<;>intro hc<;>try omega)|(apply BX;omega)|(refine BL (by assumption) ?_ rfl ?_;omega)|apply AE|refine AC (hS) ?_)<;>conv=>whnf))
  all_goals
   refine NR (λ_=>rfl) p1 ?_;generalize l.take n=t at *;(conv=>whnf)
   (repeat' (apply AR<;>conv=>whnf))
   refine ED (λ i=>n-i) (λ(i:Nat)=>i<=n) (λ i=>[(26,.int .i64 i),(4,.row 171004 0 3 0 i)]) (λ i=>[(171004,171004,.rw 3 ((t.take i).map eQ))]) 0 (by omega) ?_;intro i g1 ih;have jv:(t.take i).length=i:=by rw[List.length_take];omega
   by_cases hi:i<n
   ·all_goals try omega
    all_goals
     obtain ⟨y,hy⟩ : ∃ y,t[i]? = some y:=⟨_,zE (by omega)⟩;have ti:t[(i:Int).toNat]? = some y:=hy;have Cw:=RE hy;have Gm:(t.take (i+1)).length=i+1:=by rw[List.length_take];omega
     have hT:=kQ N.tob8 (Bk.at hy) hk;(repeat' ((first|(apply AG<;>intro hc<;>try omega)|(refine BL (by assumption) ?_ rfl ?_;omega)|apply EN|apply AE|refine AC (hT) ?_)<;>conv=>whnf))
     refine GI (enc:=eQ) y rfl jv.symm rfl (by omega) (by omega) ?_;rw[<-Cw,Gm];(conv=>whnf)
     (repeat' ((first|(apply AZ;omega)|fail)<;>conv=>whnf))
     exact B0 [(171004,171034)] (ih (i+1) (by omega) (by omega))
   ·obtain rfl:i=n:=by omega
    clear ih;rw[zT (Nat.le_of_eq fo)];(repeat' ((first|(apply AG<;>intro hc<;>try omega)|apply AE)<;>conv=>whnf))
    refine D4 (enc:=eQ) (λ_=>rfl) rfl fo.symm ?_;(conv=>whnf)
    exact AU rfl (by simp only[A6,true_and];exact EY _)
 ·obtain ⟨m,rfl⟩ : ∃ m,n=m+1:=⟨n-1,by omega⟩
  obtain ⟨x,hx⟩ : ∃ x,l[m]? = some x:=⟨_,zE (by omega)⟩;have dz:x=0:=by
   rcases Classical.em (x=0) with h|h
   ·exact h
   ·exact (hz (Or.inr ⟨m,x,rfl,hx,h⟩)).elim
  have gi:l[((m+1:Nat)-1:Int).toNat]? = some x:=by rw[show ((m+1:Nat)-1:Int).toNat=m by omega];exact hx
  obtain ⟨s,hS,hs⟩:=kO N.toq9 (hl.at hx) hk;have ju:=hs.2 dz;(repeat' ((first|(apply AG<;>intro hc<;>try omega)|(apply BX;omega)|(refine BL (by assumption) ?_ rfl ?_;omega)|apply AE|refine AC (hS) ?_)<;>conv=>whnf))
  rw[show ((m+1:Nat):Int)-1=(m:Int) by omega];exact B0 [] (ih m (by omega) ⟨by omega,by rw[p2,CB,if_pos (by rw[List.getD_eq_getElem?_getD,hx];exact dz)]⟩)
theorem Pq (N:ak L) (q1 q2:Bool) (l:List Rat) (k:Nat) (hl:Bs k l) (hk:k<2199023255552) (hn:l.length<=1000000):Ev L 172 [.sl q1 (l.map eQ),.sl q2 (l.map eQ)] (.bool true):=by
 have hS:=λ q1 q2=>Lo N.toq9 q1 q2 l k hl hk (by omega)
 refine Ev.x N.MQ rfl rfl ?_;(repeat' ((first|apply AE|refine AC (hS _ _) ?_)<;>conv=>whnf))
 exact HQ rfl
theorem kJ (N:ak L) (q1 q2:Bool) (l:List Rat) (k:Nat) (hl:Bs k l) (hk:k<2199023255552) (hn:l.length<=1000000):Ev L 173 [.sl q1 (l.map eQ),.sl q2 (l.map eQ)] (.bool true):=by
 have hT:=λ q=>Pr N q l k hl hk hn
 have hS:=λ q1 q2=>Pq N q1 q2 (BQ l) k hl.trim hk (by rw[NG];have:=HW l l.length;omega)
 refine Ev.x N.MR rfl rfl ?_;(repeat' ((first|apply AE|refine AC (hT _) ?_|refine AC (hS _ _) ?_)<;>conv=>whnf))
 exact HQ rfl
end Go.e9

namespace Go.e9
open F
theorem Lf {L:Lib} {f:Nat} {fn:AFn} {vs:List AV} {own l8:AH} {r:AV} (hL:L f=some fn) (Bf:HU fn.body=true) (h:GJ L f vs own r l8):l8=own:=by
 obtain ⟨n,h⟩:=h;cases n with
 | zero=>simp [DL]at h
 | succ n =>
  rw[TW]at h;simp only[hL]at h;split at h
  ·split at h
   ·rename_i st j7
    split at h
    ·simp only[Option.some.injEq,Prod.mk.injEq]at h
     rw[<-h.2];exact IA n (by simp [OS,Bf]) j7
    ·cases h
   ·cases h
  ·cases h
attribute [local irreducible] AA AF AQ AD DW AW A9 BD CO AX BI FZ CE A4 CD C7 AB BA AJ pw D6 C3 E7 EH FE BP C4 B9 CF
set_option maxHeartbeats 1000000
variable {L:Lib}
theorem yD (N:c7 L) (l:List Nat) (s:Nat) (hD:AY l) (hl:l.length<=1099511627776):BA L 65 [.row 5 0 1 0 l.length] [(0,.row 5 0 1 0 l.length)] [(5,s,.rw 1 (l.map AL))] (λ r _=>r = .row 5 0 1 0 (dg (val l)).length):=by
 have hlen : ∀ n,n<=l.length->l.take n=dg (val l)->n=(dg (val l)).length:=λ n h1 h2=>by
  rw[<-h2,List.length_take];omega
 refine FC 1000 N.FO rfl rfl ?_;(repeat' (apply AE<;>conv=>whnf))
 refine ED (λ n=>n) (λ(n:Nat)=>n<=l.length /\ ∀ i,n<=i->i<l.length->l[i]? = some 0) (λ n=>[(3,.int .i64 n)]) (λ_=>[]) l.length ⟨Nat.le_refl _,λ i h1 h2=>by omega⟩ ?_;intro n ⟨p1,p2⟩ ih;rcases n with _|n
 ·(repeat' ((first|(apply AG<;>intro hc<;>try omega)|apply AE)<;>conv=>whnf))
  refine F8 0 (by omega) (by omega) ?_;(conv=>whnf)
  refine ⟨rfl,_,rfl,?_⟩;rw[<-hlen 0 p1 (GA hD p1 p2 (Or.inl rfl))];rfl
 ·have e1:((n+1:Nat):Int)-1=n:=by omega
  (repeat' ((first|(apply AG<;>intro hc<;>try omega)|(apply A3;omega)|(apply BX;omega)|(refine P2 (by assumption) ?_ (λ v hv hb => ?_);omega)|apply AE)<;>conv=>whnf))
  ·rw[e1]
   exact B0 [] (ih n (by omega) ⟨by omega,λ i h1 h2=>by
    by_cases h:i=n
    ·subst h
     rw[e1,Int.toNat_natCast]at hv;rw[hv];congr 1;omega
    ·exact p2 i (by omega) h2⟩)
  ·refine F8 (n+1) (by omega) (by omega) ?_
   (conv=>whnf)
   refine ⟨rfl,_,rfl,?_⟩;rw[e1,Int.toNat_natCast]at hv;rw[<-hlen (n+1) p1 (GA hD p1 p2 (Or.inr ⟨_,hv,by omega⟩))];rfl
theorem yC (N:c7 L) (l:List Nat) (s t:Nat) (own:AH) (hD:AY l) (hl:l.length<=1099511627776) (hb:(own s).e6 t=some ⟨1,l.map AL⟩) (ht:t<(own s).g8) (ln:EU s=true):GJ L 65 [.row s t 1 0 l.length] own (.row s t 1 0 (dg (val l)).length) own:=by
 have hs:JS (λ_ _=>(s,t)) own [(5,s,.rw 1 (l.map AL))]:=by
  have key : ∀ k u c,c6 [(5,s,A7.rw 1 (l.map AL))] k u=some c->k=5/\u=0/\c = .rw 1 (l.map AL):=λ k u c e=>by
   simp only[c6,c8]at e;cases hk:Nat.beq k 5<;>simp only[hk,cond_true,cond_false]at e
   ·cases e
   ·cases u with
    | zero=>simp only[Option.some.injEq]at e;exact ⟨Nat.eq_of_beq_eq_true hk,rfl,e.symm⟩
    | succ u=>cases e
  refine ⟨λ k s' c e => ?_,λ k u c e => ?_,λ k u c e=>ht,λ k u k' u' c c' e e' _ => ?_,λ_ _ _ _ _=>ln⟩
  ·simp only[c8]at e
   cases hk:Nat.beq k 5<;>simp only[hk,cond_true,cond_false]at e
   ·cases e
   ·simp only[Option.some.injEq,Prod.mk.injEq]at e;exact e.1
  ·obtain ⟨_,_,rfl⟩:=key k u c e
   exact hb
  ·obtain ⟨rfl,rfl,_⟩:=key k u c e
   obtain ⟨rfl,rfl,_⟩:=key k' u' c' e';exact ⟨rfl,rfl⟩
 have hw:=yD N l s hD hl;unfold BA at hw;obtain ⟨r,l8,σ',M',h1,h2,h3,rfl⟩:=hw _ own hs;have ho:=Lf N.FO (by decide +kernel) h1;subst ho;have h4:AV.row (σ' 5 0).1 (σ' 5 0).2 1 0 l.length=AV.row s t 1 0 l.length:=h3 0;simp only[AV.row.injEq]at h4;have h5:GJ L 65 [.row s t 1 0 l.length] l8 (.row (σ' 5 0).1 (σ' 5 0).2 1 0 (dg (val l)).length) l8:=h1;rw[h4.1,h4.2.1]at h5;exact h5
theorem VQ (N:c7 L) {l:List Nat} {tm:Tm} {M:Mem} {K:AV->Mem->Prop} {key s len:Nat} (hD:AY l) (hl:l.length<=1099511627776) (hm:c8 M key=some (s,.rw 1 (l.map AL))) (hlen:len=l.length) (hk:K (.row key 0 1 0 (dg (val l)).length) M):BA L 65 [.row key 0 1 0 len] tm M K:=by
 subst hlen;unfold BA;intro σ own hs;have dp:=hs.site _ _ _ hm;have Bd:c6 M key 0=some (.rw 1 (l.map AL)):=by simp only[c6,hm]
 have hb:=hs.e6 _ _ _ Bd;have ht:=hs.old _ _ _ Bd;refine ⟨.row key 0 1 0 (dg (val l)).length,own,σ,M,?_,hs,λ_=>rfl,hk⟩;exact yC N l (σ key 0).1 (σ key 0).2 own hD hl hb ht (hs.low _ _ _ (DS hm) rfl)
end Go.e9

namespace Go.e9
open F
attribute [local irreducible] AA AF AQ AD DW AW A9 BD CO AX BI FZ CE A4 CD C7 AB BA AJ pw D6 C3 E7 EH FE BP C4 B9 CF
set_option maxHeartbeats 4000000
variable {L:Lib}
abbrev ZT (v:List Nat) (j m s xl:Nat):Tm:=[(102,AV.sl false (List.map AL v)),(101,AV.row 71012 0 1 j (v.length+1)),
           (100,AV.int IntKind.i64 (↑j + ↑v.length+1)),(99,AV.int IntKind.i64 (↑j + ↑v.length)),
           (98,AV.int IntKind.i64 ↑v.length),(97,AV.int IntKind.i64 ↑j),(96,AV.int IntKind.i64 ↑j),
           (95,AV.row 71012 0 1 0 (xl+1)),(94,AV.int IntKind.i64 ↑j),(93,AV.row 28 0 1 0 m),
           (90,AV.bool true),(14,AV.int IntKind.i64 ↑j),(13,AV.sl false (List.map AL v)),
           (12,AV.row 71012 0 1 0 (xl+1)),(11,AV.int IntKind.u64 ↑s),(7,AV.row 28 0 1 0 m),
           (6,AV.int IntKind.i64 ↑v.length)]
abbrev Mu:List It:=[It.lp FW.l2,It.e6 2,It.code
      (((BF.ops FW.gq false).dr [9,10,84,85,86,87,118,119,120,121,122,123,124,125,126]
         []).seq
       (((BF.ops FW.jx false).dr [127,128,129,130,131] []).seq
        ((((BF.ops FW.mi false).dr [15,132,133] []).seq
           (BF.cond 134
            (((BF.ops FW.ns false).dr [0,1,5,7,134,135,136] []).seq BF.ret)
            BF.skip)).seq
         (((BF.ops FW.nt false).dr [134] []).seq
          ((((BF.ops FW.pf false).dr [1] []).seq (BF.block 4 FW.l3.loop)).seq
           (((BF.ops FW.zf false).dr
              [0,5,9,137,138,139,140,162,163,164,165,166,167,168,169] []).seq
            (((BF.ops FW.zh false).dr [7,170,171,172] []).seq BF.ret)))))))]
section
variable {A W C w v:List Nat} {j m s xl q:Nat} {K:AV->Mem->Prop}
theorem ZO (hA:A.length=j) (hW:W.length=v.length+1) (D2:AY W) (dj:AY v) (er:2<=v.length) (qu:v.length<=549755813888) (ae:0<val v)
  (r1:q<4294967296) (r2:val W/val v<=q) (r3:q<=val W/val v+1)
  (hk : ∀ (W':List Nat) (o':List (List AV)) (q':Nat),W'.length=v.length+1->AY W'->val W'=val W%val v->q'=val W/val v->K (.int .u32 (q':Int)) [(71012,71012,.rw 1 ((A++W'++C).map AL)),(28,28,.rw 1 (w.map AL)),(71012,71012,.rw 1 o')])
  (ox : ∀ (W':List Nat) (o':List (List AV)) (q':Nat),W'.length=v.length+1->AY W'->val W'=val W%val v->q'=val W/val v->K (.int .u32 (q':Int)) [(71012,71012,.rw 1 ((A++W'++C).map AL)),(71012,71012,.rw 1 o'),(28,28,.rw 1 (w.map AL))]) :
  AA L Mu ([(86,.int .i64 0),(85,.int .i64 v.length),(84,.sl false (v.map AL)),(10,.int .u64 0),(9,.int .u64 0),(7,.int .u64 (q:Int)),(5,.int .i64 v.length),(0,AV.row 71012 0 1 j (v.length+1)),(1,AV.sl false (List.map AL v))]++GF 1000 (ZT v j m s xl))
   [(71012,71012,A7.rw 1 (List.map AL (A++W++C))),(28,28,A7.rw 1 (List.map AL w))] (eR 1000 FW (ZT v j m s xl) K):=by
 refine dW (λ i _ _ _=>v.length-i) (λ(i:Nat) (Z:List Nat) (c b:Nat)=>i<=v.length/\Z.length=v.length+1/\AY Z/\c<4294967296/\b<=1/\Z.drop i=W.drop i/\val (Z.take i)+q*val (v.take i)=val (W.take i)+4294967296^i*(c+b)) (λ i Z c b=>[(86,.int .i64 i),(10,.int .u64 (b:Int)),(9,.int .u64 (c:Int))]) (λ i Z c b=>[(71012,71012,.rw 1 ((A++Z++C).map AL))]) [] [] 0 W 0 0 (by (conv=>whnf);exact ⟨rfl,rfl,rfl⟩) ⟨by omega,hW,D2,by omega,by omega,rfl,by simp [val]⟩ ?_;intro i Z c b ⟨p1,p2,p3,p4,p5,p6,p7⟩ ih;by_cases hi:i<v.length
 ·obtain ⟨d,hd⟩ : ∃ d,v[i]? = some d:=⟨_,zE hi⟩
  obtain ⟨u,hu⟩ : ∃ u,Z[i]? = some u:=⟨_,zE (by omega)⟩;have bk:=dj.at hd;have og:=p3.at hu;obtain ⟨pr,ib⟩ : ∃ pr,pr=q*d+c:=⟨_,rfl⟩;obtain ⟨m1,m2,m3⟩:=nZ r1 bk p4 ib;have se:W[i]? = some u:=by
   have e1:(Z.drop i)[0]? = (W.drop i)[0]? := by rw[p6]
   simpa [hu] using e1.symm
  (repeat' ((first|(apply AG<;>intro hc<;>try omega)|(apply A3;omega)|(apply F2;omega)|(apply OD;omega)|apply FF|(apply CH;omega)|(refine BL (by assumption) ?_ rfl ?_;omega)|apply AE)<;>conv=>whnf))
  rw[<-ib];refine O7 i hu (by omega) ?_;(conv=>whnf)
  (repeat' ((first|(apply A3;omega)|(apply VY;omega)|(apply CH;omega)|apply FP)<;>conv=>whnf))
  obtain ⟨s1,s2⟩:=YF og (show pr%4294967296<4294967296 by omega) p5;have j7:=Qd p7 ib rfl og p5;generalize EG (EG u (pr%4294967296)) b=t at *;refine NS i (by omega) (by omega) ?_;(conv=>whnf)
  (repeat' ((first|(apply AZ;omega)|apply VX)<;>conv=>whnf))
  refine B5 [] (by (conv=>whnf);exact ⟨rfl,rfl,rfl⟩) (ih (i+1) _ _ _ (by omega) ⟨by omega,by simpa using p2,p3.set _ (by omega),m1,s2,?_,?_⟩)
  ·rw[List.drop_set_of_lt (by omega)]
   have e1:(Z.drop i).drop 1=(W.drop i).drop 1:=by rw[p6]
   simpa using e1
  ·rw[FY (by omega),DY hd,DY se,Nat.pow_succ]
   exact j7
 ·obtain rfl:i=v.length:=by omega
  clear ih;obtain ⟨u,hu⟩ : ∃ u,Z[v.length]? = some u:=⟨_,zE (by omega)⟩;have og:=p3.at hu;have se:W[v.length]? = some u:=by
   have e1:(Z.drop v.length)[0]? = (W.drop v.length)[0]? := by rw[p6]
   simpa [hu] using e1.symm
  rw[DD (Nat.le_refl v.length)]at p7;obtain ⟨s1,s2⟩:=YF og p4 p5;have j7:=Qb p7 rfl og p4 p5;have eW:val W=val (W.take v.length)+4294967296^v.length*u:=by
   rw[<-DY se,DD (by omega)]
  rw[<-eW,<-FY (show v.length<Z.length by omega),DD (by simp;omega)]at j7;(repeat' ((first|(apply AG<;>intro hc<;>try omega)|(apply A3;omega)|apply AE)<;>conv=>whnf))
  refine O7 v.length hu (by omega) ?_;(conv=>whnf)
  (repeat' ((first|(apply A3;omega)|(apply VY;omega)|(apply CH;omega)|apply FP)<;>conv=>whnf))
  generalize EG (EG u c) b=t at *;refine NS v.length (by omega) (by omega) ?_;(conv=>whnf)
  (repeat' ((first|(apply AG<;>intro hc<;>try omega)|apply VX|(apply D9;omega)|apply AR)<;>conv=>whnf))
  ·have ht0:t/9223372036854775808=0:=by omega
   rw[ht0,Nat.mul_zero,Nat.add_zero]at j7;obtain ⟨y1,y2⟩:=iF ae r2 j7;exact ⟨rfl,_,rfl,hk _ _ _ (by simpa using p2) (p3.set _ (by omega)) y2 y1⟩
  ·have Je:t/9223372036854775808=1:=by omega
   rw[Je,Nat.mul_one]at j7;have Ab:AY (Z.set v.length (t%4294967296)):=p3.set _ (by omega);have vy:(Z.set v.length (t%4294967296)).length=v.length+1:=by simpa using p2
   clear p7 p6 p4 p5 s1 s2 eW Je hu se og p1 p2 p3;generalize Z.set v.length (t%4294967296)=X at *;have yf:=E2 Ab;rw[vy,Nat.pow_succ]at yf;obtain ⟨y1,y2,y3⟩:=iE ae r3 yf j7;have Xm:val W%val v<val v:=Nat.mod_lt _ ae;have sd:=E2 dj;obtain ⟨xw,xo⟩ : ∃ xw,X[v.length]? = some xw:=⟨_,zE (by omega)⟩;have eX:val X=val (X.take v.length)+4294967296^v.length*xw:=by
    rw[<-DY xo,DD (by omega)]
   refine GH (λ i _ _=>v.length-i) (λ(i:Nat) (Z:List Nat) (c:Nat)=>i<=v.length/\Z.length=v.length+1/\AY Z/\c<=1/\Z.drop i=X.drop i/\val (Z.take i)+4294967296^i*c=val (X.take i)+val (v.take i)) (λ i Z c=>[(139,.int .i64 i),(9,.int .u64 (c:Int))]) (λ i Z c=>[(71012,71012,.rw 1 ((A++Z++C).map AL))]) 0 X 0 ⟨by omega,vy,Ab,by omega,rfl,by simp [val]⟩ ?_;intro i Z c ⟨p1,p2,p3,p4,p6,p7⟩ ih;by_cases hi:i<v.length
   ·obtain ⟨d,hd⟩ : ∃ d,v[i]? = some d:=⟨_,zE hi⟩
    obtain ⟨u,hu⟩ : ∃ u,Z[i]? = some u:=⟨_,zE (by omega)⟩;have bk:=dj.at hd;have og:=p3.at hu;have jr:X[i]? = some u:=by
     have e1:(Z.drop i)[0]? = (X.drop i)[0]? := by rw[p6]
     simpa [hu] using e1.symm
    have vz:=fE (d:=d) (w:=u) p7 rfl;(repeat' ((first|(apply AG<;>intro hc<;>try omega)|(apply A3;omega)|(refine BL (by assumption) ?_ rfl ?_;omega)|apply AE)<;>conv=>whnf))
    refine O7 i hu (by omega) ?_;(conv=>whnf)
    (repeat' ((first|(apply A3;omega)|(apply F2;omega)|(apply CH;omega)|apply FP)<;>conv=>whnf))
    generalize ht2:u+d+c=t2 at *;refine NS i (by omega) (by omega) ?_;(conv=>whnf)
    (repeat' ((first|(apply AZ;omega)|apply FF)<;>conv=>whnf))
    refine B5 [] (by (conv=>whnf);exact ⟨rfl,rfl,rfl⟩) (ih (i+1) _ _ (by omega) ⟨by omega,by simpa using p2,p3.set _ (by omega),by omega,?_,?_⟩)
    ·rw[List.drop_set_of_lt (by omega)]
     have e1:(Z.drop i).drop 1=(X.drop i).drop 1:=by rw[p6]
     simpa using e1
    ·rw[FY (by omega),DY hd,DY jr,Nat.pow_succ]
     exact vz
   ·obtain rfl:i=v.length:=by omega
    clear ih;obtain ⟨u,hu⟩ : ∃ u,Z[v.length]? = some u:=⟨_,zE (by omega)⟩;have og:=p3.at hu;have jr:X[v.length]? = some u:=by
     have e1:(Z.drop v.length)[0]? = (X.drop v.length)[0]? := by rw[p6]
     simpa [hu] using e1.symm
    rw[jr]at xo;obtain rfl:u=xw:=by simpa using xo
    rw[DD (Nat.le_refl v.length)]at p7;have Ac:=E2 (p3.take v.length);rw[List.length_take,Nat.min_eq_left (by omega)]at Ac;rw[eX]at y3;have my:=fD p7 y3 (by omega) Ac;rw[<-FY (show v.length<Z.length by omega),DD (by simp;omega)]at my;(repeat' ((first|(apply AG<;>intro hc<;>try omega)|(apply A3;omega)|apply AE)<;>conv=>whnf))
    refine O7 v.length hu (by omega) ?_;(conv=>whnf)
    (repeat' ((first|(apply A3;omega)|apply eJ|(apply D9;omega))<;>conv=>whnf))
    refine NS v.length (by omega) (by omega) ?_;(conv=>whnf)
    (repeat' ((first|(apply IG;omega;omega)|(apply D9;omega))<;>conv=>whnf))
    exact ⟨rfl,_,rfl,ox _ _ _ (by simpa using p2) (p3.set _ (by omega)) my y1⟩
theorem yU (N:c7 L) (hA:A.length=j) (hW:W.length=v.length+1) (D2:AY W) (dj:AY v) (er:2<=v.length) (qu:v.length<=549755813888) (ae:0<val v)
  (n2:4294967296^(v.length-1)*2147483648<=val v) (g2:val W<4294967296*val v)
  (hk : ∀ (W':List Nat) (o':List (List AV)) (q':Nat),W'.length=v.length+1->AY W'->val W'=val W%val v->q'=val W/val v->K (.int .u32 (q':Int)) [(71012,71012,.rw 1 ((A++W'++C).map AL)),(28,28,.rw 1 (w.map AL)),(71012,71012,.rw 1 o')])
  (ox : ∀ (W':List Nat) (o':List (List AV)) (q':Nat),W'.length=v.length+1->AY W'->val W'=val W%val v->q'=val W/val v->K (.int .u32 (q':Int)) [(71012,71012,.rw 1 ((A++W'++C).map AL)),(71012,71012,.rw 1 o'),(28,28,.rw 1 (w.map AL))]) :
  BA L 73 [AV.row 71012 0 1 j (v.length+1),AV.sl false (List.map AL v)] (ZT v j m s xl) [(71012,71012,A7.rw 1 (List.map AL (A++W++C))),(28,28,A7.rw 1 (List.map AL w))] K:=by
 obtain ⟨UL,a1,a2⟩:=YN D2 (n:=v.length+1) (by omega) (by omega);obtain ⟨VL,b5,b6⟩:=rM dj (n:=v.length) er (by omega);obtain ⟨u0,w0⟩ : ∃ d,W[v.length]? = some d:=⟨_,zE (by omega)⟩;obtain ⟨u1,w1⟩ : ∃ d,W[v.length-1]? = some d:=⟨_,zE (by omega)⟩;obtain ⟨u2,w2⟩ : ∃ d,W[v.length-2]? = some d:=⟨_,zE (by omega)⟩;obtain ⟨f1,x1⟩ : ∃ d,v[v.length-1]? = some d:=⟨_,zE (by omega)⟩;obtain ⟨f2,x2⟩ : ∃ d,v[v.length-2]? = some d:=⟨_,zE (by omega)⟩;rw[show v.length+1-3=v.length-2 by omega,show v.length+1-2=v.length-1 by omega,show v.length+1-1=v.length by omega,GM w0,GM w1,GM w2]at a2;rw[show v.length+1-3=v.length-2 by omega]at a1;rw[GM x1,GM x2]at b6;have qb:=rI dj (k:=v.length-1) (by omega) n2 x1;have k0:=D2.at w0;have k1:=D2.at w1;have k2:=D2.at w2;have k3:=dj.at x1;have k4:=dj.at x2;have z1:v[((v.length:Int)-1).toNat]? = some f1:=by rw[show ((v.length:Int)-1).toNat=v.length-1 by omega];exact x1
 have z2:v[((v.length:Int)-2).toNat]? = some f2:=by rw[show ((v.length:Int)-2).toNat=v.length-2 by omega];exact x2
 refine FC 1000 N.FW rfl rfl ?_;(repeat' ((first|(apply A3;omega)|apply AR|apply AE)<;>conv=>whnf))
 refine O7 v.length w0 (by omega) ?_;(conv=>whnf)
 (repeat' ((first|(apply A3;omega)|(apply BX;omega)|(apply NP;omega)|(apply CH;omega))<;>conv=>whnf))
 refine O7 (v.length-1) w1 (by omega) ?_;(conv=>whnf)
 refine eE (by omega) ?_;(conv=>whnf)
 refine OE (by omega) ?_;(conv=>whnf)
 generalize Gp:u0*4294967296+u1=top at *;have Bk:top<=18446744073709551615:=by omega
 have hU:val W=UL+4294967296^(v.length-2)*(u2+4294967296*top):=by rw[a2,show u1+4294967296*u0=top by omega]
 (repeat' ((first|(apply BX;omega)|(apply TB;omega)|(apply VW;omega;omega)|(apply CH;omega)|(refine BL (by assumption) ?_ rfl ?_;omega))<;>conv=>whnf))
 refine VO (λ q _=>q) (λ(q r:Nat)=>Gs (val W) (val v) f1 f2 u2 top q r) (λ q r=>[(7,.int .u64 (q:Int)),(8,.int .u64 (r:Int))]) (λ_ _=>[]) [] [] (top/f1) (top%f1) (by (conv=>whnf);exact ⟨rfl,rfl,rfl⟩) (Gs.start hU b6 a1 k2 ae (by omega) k3) ?_;intro q r g lz;have Zw:q<=top:=by
  have h3:=g.hq;have h4:q*1<=q*f1:=Nat.mul_le_mul_left q (by omega);omega
 have hr:=g.hr;have kg:=g.ge;by_cases hb:4294967296<=q
 ·obtain ⟨y1,y2,y3⟩:=g.next hU b6 a1 ae g2 (Or.inl hb)
  (repeat' ((first|(apply AG<;>intro hc<;>try omega)|(apply BX;omega)|(apply F2;omega)|(apply IG;omega;omega)|(apply CH;omega)|apply AR|(refine BL (by assumption) ?_ rfl ?_;omega)|apply AE)<;>conv=>whnf))
  ·obtain ⟨t1,t2⟩:=SE hU b6 b5 qb k4 g2 y2 (Or.inr (by omega))
   exact B5 [] (by (conv=>whnf);exact ⟨rfl,rfl,rfl⟩) (ZO (w:=w) (C:=C) hA hW D2 dj er qu ae t1 y3 t2 hk ox)
  ·exact B5 [] (by (conv=>whnf);exact ⟨rfl,rfl,rfl⟩) (lz (q-1) (r+f1) (by omega) ⟨y2,by omega,y3⟩)
 ·have Zo:=SM (show q<4294967296 by omega) k4
  by_cases q7:r*4294967296+u2<q*f2
  ·obtain ⟨y1,y2,y3⟩:=g.next hU b6 a1 ae g2 (Or.inr q7)
   (repeat' ((first|(apply AG<;>intro hc<;>try omega)|(apply A3;omega)|(apply BX;omega)|(apply OD;omega)|(apply NP;omega)|(apply CH;omega)|(refine BL (by assumption) ?_ rfl ?_;omega)|apply AE)<;>conv=>whnf))
   refine O7 (v.length-2) w2 (by omega) ?_;(conv=>whnf)
   (repeat' ((first|(apply AG<;>intro hc<;>try omega)|(apply BX;omega)|(apply F2;omega)|(apply OE;omega)|(apply IG;omega;omega)|(apply CH;omega)|apply AR|(refine BL (by assumption) ?_ rfl ?_;omega))<;>conv=>whnf))
   ·obtain ⟨t1,t2⟩:=SE hU b6 b5 qb k4 g2 y2 (Or.inr (by omega))
    exact B5 [] (by (conv=>whnf);exact ⟨rfl,rfl,rfl⟩) (ZO (w:=w) (C:=C) hA hW D2 dj er qu ae t1 y3 t2 hk ox)
   ·exact B5 [] (by (conv=>whnf);exact ⟨rfl,rfl,rfl⟩) (lz (q-1) (r+f1) (by omega) ⟨y2,by omega,y3⟩)
  ·obtain ⟨t1,t2⟩:=SE hU b6 b5 qb k4 g2 g.hq (Or.inl ⟨by omega,by omega⟩)
   (repeat' ((first|(apply AG<;>intro hc<;>try omega)|(apply A3;omega)|(apply BX;omega)|(apply OD;omega)|(apply NP;omega)|(apply CH;omega)|(refine BL (by assumption) ?_ rfl ?_;omega)|apply AE)<;>conv=>whnf))
   refine O7 (v.length-2) w2 (by omega) ?_;(conv=>whnf)
   (repeat' ((first|(apply AG<;>intro hc<;>try omega)|(apply OE;omega)|(apply CH;omega)|apply AR)<;>conv=>whnf))
   exact B5 [] (by (conv=>whnf);exact ⟨rfl,rfl,rfl⟩) (ZO (w:=w) (C:=C) hA hW D2 dj er qu ae t1 kg t2 hk ox)
end
end Go.e9

namespace Go.e9
open F
attribute [local irreducible] AA AF AQ AD DW AW A9 BD CO AX BI FZ CE A4 CD C7 AB BA AJ pw D6 C3 E7 EH FE BP C4 B9 CF
variable {L:Lib}
set_option maxHeartbeats 4000000
theorem Vt {V R y d t Q:Nat} (h:Q*y+R=V) (ht:t=R*4294967296+d):(t/y+4294967296*Q)*y+t%y=d+4294967296*V:=by
 have:=Nat.div_add_mod t y
 rw[<-h,Nat.add_mul];have e:t/y*y=y*(t/y):=Nat.mul_comm _ _;grind
theorem TQ (a b:List Nat):A6 (.j4 [.sl false (a.map AL),.sl false (b.map AL)]):=by
 simp only[A6,C6,and_true,true_and];exact ⟨CQ a,CQ b⟩
set_option maxHeartbeats 4000000 in
theorem Z7 (N:c7 L) (X Y:Nat) (q1 q2:Bool) (hY:Y≠0) (lx:(dg X).length<=549755813888) (ly:(dg Y).length<=549755813888):Ev L 74 [.sl q1 ((dg X).map AL),.sl q2 ((dg Y).map AL)] (.j4 [.sl false ((dg (X/Y)).map AL),.sl false ((dg (X%Y)).map AL)]):=by
 have l6:=λ q q'=>OR N (dg X) (dg Y) q q' (DX X) (DX Y) (by omega) (by omega)
 rw[BS,BS]at l6;have d1:=DX X;have d2:=DX Y;have v1:=BS X;have v2:=BS Y;have hy1:=TV hY;refine Ev.x N.K1 rfl rfl ?_;by_cases l7:X<Y
 ·have hn:DB X Y = -1:=(HV (by omega)).symm
  rw[hn]at l6;(repeat' ((first|(apply AG<;>intro hc<;>try omega)|apply AE|refine AC (l6 _ _) ?_|refine AC (jK N (dg X) _ (by omega)) ?_)<;>conv=>whnf))
  refine AU ?_ (TQ _ _);rw[Nat.div_eq_of_lt l7,Nat.mod_eq_of_lt l7,EZ];rfl
 have kg:0<=DB X Y:=by unfold DB;split<;>(try split)<;>omega
 have sw:=PC (show Y<=X by omega);generalize DB X Y=cm at *;by_cases h1:(dg Y).length=1
 ·-- one digit
  obtain ⟨y0,kp⟩ : ∃ y0,dg Y=[y0]:=List.length_eq_one_iff.1 h1;have rn:Y=y0:=by rw[<-v2,kp];simp [val]
  subst rn;have zd:Y<4294967296:=d2 Y (by rw[kp];simp);have hyg:(dg Y)[0]? = some Y:=by rw[kp];rfl
  clear kp v2;generalize dg Y=y at *;generalize hx:dg X=x at *;(repeat' ((first|(apply AG<;>intro hc<;>try omega)|(apply AZ;omega)|(apply BX;omega)|apply AR|apply AE|refine AC (l6 _ _) ?_)<;>conv=>whnf))
  refine EM (enc:=AL) 0 x.length rfl (by omega) (by omega) ?_;(conv=>whnf)
  (repeat' ((first|(apply AG<;>intro hc<;>try omega)|(apply BX;omega)|apply AR)<;>conv=>whnf))
  refine GH (λ n _ _=>n) (λ(n:Nat) (o:List Nat) (r:Nat)=>n<=x.length/\o.length=x.length/\AY o/\r<Y/\val (o.drop n)*Y+r=val (x.drop n)) (λ n o r=>[(8,.int .u64 (r:Int)),(9,.int .i64 ((n:Int)-1))]) (λ n o r=>[(28,28,.rw 1 (o.map AL))]) x.length (List.replicate x.length 0) 0 ⟨by omega,by simp,IK _,by omega,by rw[List.drop_of_length_le (Nat.le_refl _),List.drop_of_length_le (by simp)];simp [val]⟩ ?_;intro n o r ⟨p1,p2,p3,p4,p5⟩ ih;rcases n with _|n
  ·rw[List.drop_zero,List.drop_zero]at p5
   have hq:X/Y=val o/\X%Y=r:=by
    rw[<-v1,<-p5];have e1:(val o*Y+r)/Y=val o:=by
     rw[Nat.mul_comm,Nat.mul_add_div (by omega),Nat.div_eq_of_lt p4,Nat.add_zero]
    have e2:(val o*Y+r)%Y=r:=by
     rw[Nat.mul_comm,Nat.mul_add_mod,Nat.mod_eq_of_lt p4]
    exact ⟨e1,e2⟩
   rw[hq.1,hq.2,<-p2];clear ih hq p5;have kj:=ET p3;have cn:AY [r]:=G7 (by omega);have iv:=ET cn;have Cz:val [r]=r:=by simp [val]
   have Iu:[r].length=1:=rfl;(repeat' ((first|(apply AG<;>intro hc<;>try omega)|(apply D9;omega)|apply AE|refine VQ N (by assumption) (by omega) rfl (by first|rfl|omega|assumption) ?_)<;>conv=>whnf))
   refine GL (enc:=AL) (λ_=>rfl) (by omega) ?_;(conv=>whnf)
   refine GL (enc:=AL) (l:=[r]) (λ_=>rfl) (by omega) ?_;(conv=>whnf)
   refine AU ?_ (TQ _ _);rw[List.drop_zero,List.drop_zero,VD p3,VD cn,Cz]
  ·have e1:((n+1:Nat):Int)-1=n:=by omega
   rw[e1];obtain ⟨d,hd⟩ : ∃ d,x[n]? = some d:=⟨_,zE (by omega)⟩;have bk:=d1.at hd;have hYb:Y<4294967296:=zd;have hR:r*4294967296+d<Y*4294967296:=by omega
   have Fw:(r*4294967296+d)/Y<4294967296:=(Nat.div_lt_iff_lt_mul (by omega)).2 (by omega);(repeat' ((first|(apply AG<;>intro hc<;>try omega)|(apply A3;omega)|(apply NP;omega)|(apply OE;omega)|(apply VW;omega;omega)|(apply CH;omega)|(apply D9;omega)|(refine BL (by assumption) ?_ rfl ?_;omega)|apply AE)<;>conv=>whnf))
   obtain ⟨t,ht⟩ : ∃ t,t=r*4294967296+d:=⟨_,rfl⟩;rw[<-ht]at hR Fw ⊢;have hm:t%Y<Y:=Nat.mod_lt _ (by omega);have j7:=Vt p5 ht;rw[<-G3 hd]at j7;clear ht;skip
   refine E8 (by omega) ?_;(conv=>whnf)
   (repeat' ((first|(apply BX;omega)|(apply TB;omega)|(apply CH;omega)|(refine BL (by assumption) ?_ rfl ?_;omega))<;>conv=>whnf))
   generalize t/Y=tq at *;generalize t%Y=tr at *;refine B5 [] (by (conv=>whnf);exact ⟨rfl,rfl,rfl⟩) (ih n _ _ (by omega) ⟨by omega,by simpa using p2,p3.set _ (by omega),hm,?_⟩);rw[G3 (l:=o.set n tq) (d:=tq) (by rw[List.getElem?_set_self (by omega)]),List.drop_set_of_lt (by omega)];exact j7
 ·-- two digits or more
  have Fo:2<=(dg Y).length:=by omega
  obtain ⟨yt,tk,tn⟩:=ZN hY;have qw:=d2.at tk;obtain ⟨b1,b2,b3,b4⟩:=bI tn qw;have Ar:=jL N yt qw;generalize hs:32-o7 yt=s at *;have cp:s<=31:=by omega
  generalize dg Y=y at *;generalize hx:dg X=x at *;have e1:((y.length:Int)-1).toNat=y.length-1:=by omega
  rw[<-e1]at tk;obtain ⟨rv,Ja,v,hV,pd,Gd⟩:=On N y q2 s y.length d2 cp (by omega) (by omega);subst Gd;(repeat' ((first|(apply AG<;>intro hc<;>try omega)|(apply AZ;omega)|(apply BX;omega)|apply AR|apply AE|refine AC (l6 _ _) ?_)<;>conv=>whnf))
  refine EM (enc:=AL) 0 (x.length-y.length+1) rfl (by omega) (by omega) ?_;(conv=>whnf)
  (repeat' ((first|(apply AG<;>intro hc<;>try omega)|(apply AZ;omega)|(apply BX;omega)|(apply CH;omega)|apply AR|(refine BL (by assumption) ?_ rfl ?_;omega)|refine AC (Ar) ?_)<;>conv=>whnf))
  refine FC 1000 N.I5 rfl rfl ?_;(repeat' (apply AE<;>conv=>whnf))
  refine EM (enc:=AL) 0 (x.length+1) rfl (by omega) (by omega) ?_;(conv=>whnf)
  (repeat' (apply AR<;>conv=>whnf))
  have oy:=UV (s:=s) (by omega);refine GH (λ i _ _=>x.length-i) (λ(i:Nat) (o:List Nat) (lo:Nat)=>i<=x.length/\o.length=x.length+1/\AY o/\lo<2^s/\val (o.take i)+4294967296^i*lo=val (x.take i)*2^s) (λ i o lo=>[(8,.int .u32 (lo:Int)),(15,.int .i64 i)]) (λ i o lo=>[(71012,71012,.rw 1 (o.map AL))]) 0 (List.replicate (x.length+1) 0) 0 ⟨by omega,by simp,IK _,Nat.two_pow_pos s,by simp [val]⟩ ?_;intro i o lo ⟨p1,p2,p3,p4,p5⟩ ih;by_cases hi:i<x.length
  ·obtain ⟨d,hd⟩ : ∃ d,x[i]? = some d:=⟨_,zE hi⟩
   have bk:=d1.at hd;obtain ⟨f1,f2,f3,f4⟩:=Q6 (s:=s) bk (by omega);(repeat' ((first|(apply AG<;>intro hc<;>try omega)|(refine BL (by assumption) ?_ rfl ?_;omega)|apply AE)<;>conv=>whnf))
   refine eN (by omega) ?_;(conv=>whnf)
   skip
   refine YW s f1 p4 (by omega) ?_;(conv=>whnf)
   (repeat' ((first|(apply A3;omega)|fail)<;>conv=>whnf))
   refine E8 (by omega) ?_;(conv=>whnf)
   (repeat' ((first|(apply CH;omega)|fail)<;>conv=>whnf))
   refine OH (by omega) f4 ?_;(conv=>whnf)
   (repeat' ((first|(apply AZ;omega)|apply FF|(apply D9;omega))<;>conv=>whnf))
   rw[<-Q5];refine B5 [] (by (conv=>whnf);exact ⟨rfl,rfl,rfl⟩) (ih (i+1) _ _ (by omega) ⟨by omega,by simpa using p2,p3.set _ (by omega),f2,?_⟩);rw[FY (by omega),DY hd,Nat.pow_succ];exact nB p5
  obtain rfl:i=x.length:=by omega
  clear ih;(repeat' ((first|(apply AG<;>intro hc<;>try omega)|(apply A3;omega)|apply AR|apply AE)<;>conv=>whnf))
  refine E8 (by omega) ?_;(conv=>whnf)
  skip
  have hU:=nA p3 (by omega) p2 p5;have yg:(o.set x.length lo).length=x.length+1:=by simpa using p2
  clear p3 p4 p5 p2;generalize o.set x.length lo=u at *;refine ⟨rfl,_,rfl,?_⟩;(conv=>whnf)
  (repeat' ((first|(apply BX;omega)|apply AR|refine AC (Ja) ?_)<;>conv=>whnf))
  have Gx:y[y.length-1]? = some yt:=by rw[<-e1];exact tk
  obtain ⟨n1,n2⟩:=aZ d2 Gx (by omega) cp b3 b4;have Ch:val v=Y*2^s:=by rw[<-v2];exact hV.2.2 (by rw[pd];exact n1)
  have Cg:val u=X*2^s:=by
   rw[<-v1];refine hU.2.2 ?_;have h3:=E2 d1;rw[yg,Nat.pow_succ];exact Nat.lt_of_lt_of_le (Nat.mul_lt_mul_of_pos_right h3 (Nat.two_pow_pos s)) (Nat.mul_le_mul_left _ oy)
  have dj:=hV.1;have Ce:=hU.1;have vu:=E2 dj;rw[v2,<-Ch]at n2;rw[<-pd]at n2;clear hV hU l6 Ja Ar;have er:2<=v.length:=by omega
  have hvx:v.length<=x.length:=by omega
  have qu:v.length<=549755813888:=by omega
  have hxL:x.length<=549755813888:=by omega
  have hX:X<4294967296^x.length:=by rw[<-v1];exact E2 d1
  rw[<-pd];generalize hm:x.length-v.length+1=m at *;have ae:0<val v:=by
   have:=pD (v.length-1)
   omega
  have lj:val (u.drop m)<val v:=by
   have h1:=JN u m (by omega);rw[Cg]at h1;have h2:X*2^s<4294967296^x.length*2147483648:=Nat.lt_of_lt_of_le (Nat.mul_lt_mul_of_pos_right hX (Nat.two_pow_pos s)) (Nat.mul_le_mul_left _ (Nat.pow_le_pow_right (by omega) cp));have h3:4294967296^x.length=4294967296^m*4294967296^(v.length-1):=by rw[<-Nat.pow_add];congr 1;omega
   rw[h3,Nat.mul_assoc]at h2;refine Nat.lt_of_lt_of_le ?_ n2;refine Nat.lt_of_mul_lt_mul_left (a:=4294967296^m) ?_;omega
  have e2:(x.length:Int)-v.length=((m:Nat):Int)-1:=by omega
  rw[e2];refine GH (λ n _ _=>n) (λ(n:Nat) (o w:List Nat)=>n<=m/\o.length=x.length+1/\AY o/\w.length=m/\AY w/\val (o.drop n)<val v/\X*2^s=val (o.take n)+4294967296^n*(val (w.drop n)*val v+val (o.drop n))) (λ n o w=>[(14,.int .i64 ((n:Int)-1))]) (λ n o w=>[(71012,71012,.rw 1 (o.map AL)),(28,28,.rw 1 (w.map AL))]) m u (List.replicate m 0) ⟨by omega,yg,Ce,by simp,IK _,lj,by rw[<-Cg,List.drop_of_length_le (show (List.replicate m 0).length<=m by simp),IE,Nat.zero_mul,Nat.zero_add];exact JN u m (by omega)⟩ ?_;intro n o w ⟨p1,p2,p3,p4,p5,p6,p7⟩ ih;rcases n with _|j
  ·clear ih
   rw[List.drop_zero]at p6;rw[List.take_zero,List.drop_zero,List.drop_zero,IE,Nat.zero_add,Nat.pow_zero,Nat.one_mul]at p7;have mw:val o=val (o.take v.length):=by
    have h1:=RI o v.length;rcases Nat.eq_zero_or_pos (val (o.drop v.length)) with h2|h2
    ·rw[h2,Nat.mul_zero,Nat.add_zero]at h1;exact h1
    ·have h3:4294967296^v.length*1<=4294967296^v.length*val (o.drop v.length):=Nat.mul_le_mul_left _ h2
     omega
   have sf:X/Y=val w/\X%Y=val o/2^s:=by
    obtain ⟨z1,z2⟩:=iG (X:=X) (Y:=Y) (Nat.two_pow_pos s);rw[<-z1,<-z2,<-Ch,p7];have e1:(val w*val v+val o)/val v=val w:=by
     rw[Nat.mul_comm,Nat.mul_add_div ae,Nat.div_eq_of_lt p6,Nat.add_zero]
    have e2:(val w*val v+val o)%val v=val o:=by
     rw[Nat.mul_comm,Nat.mul_add_mod,Nat.mod_eq_of_lt p6]
    rw[e1,e2];exact ⟨rfl,rfl⟩
   rw[sf.1,sf.2];have kj:=ET p5;obtain ⟨ro,Bf,o2,k1,k2,k3,k4⟩:=Oo N (o.take v.length) true s (p3.take _) cp (by rw[List.length_take];omega);subst k4;rw[mw,<-k3];have iv:=ET k1;rw[List.length_take]at k2;clear p7 sf lj;(repeat' ((first|(apply AG<;>intro hc<;>try omega)|apply AE|refine VQ N (by assumption) (by omega) rfl (by first|rfl|omega|assumption) ?_)<;>conv=>whnf))
   refine F8 v.length rfl (by omega) ?_;(conv=>whnf)
   refine GL (enc:=AL) (λ_=>rfl) (by omega) ?_;(conv=>whnf)
   rw[List.drop_zero,Nat.sub_zero];(repeat' ((first|refine AC (Bf) ?_|refine JP (J0 N o2 _ k1 (by omega)) ?_)<;>conv=>whnf))
   refine GL (enc:=AL) (λ_=>rfl) (by omega) ?_;(conv=>whnf)
   refine AU ?_ (TQ _ _);rw[List.drop_zero,VD p5]
  ·have e3:((j+1:Nat):Int)-1=j:=by omega
   rw[e3];have e4:(v.length:Int).toNat=v.length:=by omega
   obtain ⟨A,W,C,hA,hW,rfl⟩:=iZ o j (v.length+1) (by omega);obtain ⟨g1,g2,g3⟩:=jB hA hW p3 p6 vu;obtain ⟨D1,D2,D3⟩:=iD p3;have yq:val W/val v<4294967296:=(Nat.div_lt_iff_lt_mul ae).2 g2;have Ea:val W=val W/val v*val v+val W%val v:=by rw[Nat.mul_comm];exact (Nat.div_add_mod _ _).symm
   have Xv:val W%val v<val v:=Nat.mod_lt _ ae;have vp:X*2^s=val A+4294967296^j*val W+4294967296^j*4294967296*(val (w.drop (j+1))*val v):=by
    rw[p7,Nat.mul_add,<-g3,Nat.pow_succ];omega
   have nj:=jA vp Ea;have od : ∀ q',q'=val W/val v->val ((w.set j q').drop j)=val W/val v+4294967296*val (w.drop (j+1)):=λ q' h=>by
    rw[G3 (l:=w.set j q') (d:=q') (by rw[List.getElem?_set_self (by omega)]),List.drop_set_of_lt (by omega),h]
   have hlen : ∀ W':List Nat,W'.length=v.length+1->(A++W'++C).length=x.length+1:=λ W' h=>by
    rw[<-p2];simp [h,hW]
   (repeat' ((first|(apply AG<;>intro hc<;>try omega)|(apply AZ;omega)|(apply VP;omega)|apply AE)<;>conv=>whnf))
   rw[show ((j:Int)+v.length+1).toNat-(j:Int).toNat=v.length+1 by omega,show 0+(j:Int).toNat=j by omega];refine yU N hA hW D2 dj er qu ae n2 g2 (λ W' o' q' z1 z2 z3 z4 => ?_) (λ W' o' q' z1 z2 z3 z4 => ?_)
   ·(conv=>whnf)
    (repeat' ((first|(apply A3;omega)|fail)<;>conv=>whnf))
    refine E8 (by omega) ?_;(conv=>whnf)
    (repeat' ((first|(apply BX;omega)|fail)<;>conv=>whnf))
    obtain ⟨t1,t2⟩:=ZU (A:=A) (W:=W') (C:=C) (j:=j) hA g1;refine B5 [] (by (conv=>whnf);exact ⟨rfl,rfl,rfl⟩) (ih j (A++W'++C) (w.set j q') (by omega) ⟨by omega,hlen W' z1,(D1.append z2).append D3,by simpa using p4,p5.set _ (by omega),by omega,?_⟩);rw[t1,t2,od q' z4,z3];exact nj
   ·(conv=>whnf)
    (repeat' ((first|(apply A3;omega)|fail)<;>conv=>whnf))
    refine E8 (by omega) ?_;(conv=>whnf)
    (repeat' ((first|(apply BX;omega)|fail)<;>conv=>whnf))
    obtain ⟨t1,t2⟩:=ZU (A:=A) (W:=W') (C:=C) (j:=j) hA g1;refine B5 [] (by (conv=>whnf);exact ⟨rfl,rfl,rfl⟩) (ih j (A++W'++C) (w.set j q') (by omega) ⟨by omega,hlen W' z1,(D1.append z2).append D3,by simpa using p4,p5.set _ (by omega),by omega,?_⟩);rw[t1,t2,od q' z4,z3];exact nj
end Go.e9
