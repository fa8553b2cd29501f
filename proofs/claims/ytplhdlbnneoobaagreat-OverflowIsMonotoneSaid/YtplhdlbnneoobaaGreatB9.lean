/-
  The references of natural numbers (ref01): division.
-/
import Derived.Test.YtplhdlbnneoobaaGreatB8
import Derived.Test.YtplhdlbnneoobaaGreatB4
import Derived.Test.YtplhdlbnneoobaaGreatB7
set_option linter.unusedSimpArgs false
set_option linter.unusedVariables false
set_option linter.unnecessarySimpa false
namespace Go.b7
open F
attribute [local irreducible] AA AF AM AC BT AQ A5 AZ BG A9 BS CN BH AU BI BR AB A1 AJ pw B1 BQ B9 CM CH BF BV BB B5
set_option maxHeartbeats 4000000
variable {L:Lib}
theorem AfU {V R y d t Q:Nat} (h:Q*y+R=V) (ht:t=R*4294967296+d):(t/y+4294967296*Q)*y+t%y=d+4294967296*V:=by
 have:=Nat.div_add_mod t y
 rw[<-h,Nat.add_mul];have e:t/y*y=y*(t/y):=Nat.mul_comm _ _;grind
theorem Td (N:c8 L) (x:List Nat) (Y:Nat) (q:Bool) (d1:A2 x) (hx:x.length<=549755813888) (h0:Y≠0) (hY:Y<4294967296):Ev L 108 [.sl q (x.map AL),.int .u32 (Y:Int)] (.g8 [.sl false ((dg (val x/Y)).map AL),.int .u32 ((val x%Y:Nat):Int)]):=by
 refine Ev.x N.NG rfl rfl ?_;(repeat' ((first|apply AY|apply AE)<;>conv=>whnf))
 refine DP (enc:=AL) 0 x.length rfl (by omega) (by omega) ?_;(conv=>whnf)
 (repeat' ((first|(apply BM;omega)|apply AY)<;>conv=>whnf))
 refine GR (λ n _ _=>n) (λ(n:Nat) (o:List Nat) (r:Nat)=>n<=x.length/\o.length=x.length/\A2 o/\r<Y/\val (o.drop n)*Y+r=val (x.drop n)) (λ n o r=>[(7,.int .u64 (r:Int)),(8,.int .i64 ((n:Int)-1))]) (λ n o r=>[(11,11,.rw 1 (o.map AL))]) [] [] x.length (List.replicate x.length 0) 0 (by (conv=>whnf);exact ⟨rfl,rfl,rfl⟩) ⟨by omega,by simp,JD _,by omega,by rw[List.drop_of_length_le (Nat.le_refl _),List.drop_of_length_le (by simp)];simp [val]⟩ ?_;intro n o r ⟨p1,p2,p3,p4,p5⟩ ih;rcases n with _|n
 ·rw[List.drop_zero,List.drop_zero]at p5
  have hq:val x/Y=val o/\val x%Y=r:=by
   rw[<-p5];have e1:(val o*Y+r)/Y=val o:=by
    rw[Nat.mul_comm,Nat.mul_add_div (by omega),Nat.div_eq_of_lt p4,Nat.add_zero]
   have e2:(val o*Y+r)%Y=r:=by
    rw[Nat.mul_comm,Nat.mul_add_mod,Nat.mod_eq_of_lt p4]
   exact ⟨e1,e2⟩
  have hT:=λ q=>GL N o q p3 (by omega)
  rw[hq.1,hq.2,<-p2];clear ih hq p5;(repeat' ((first|(apply AG<;>intro hc<;>try (exfalso;omega))|(apply D8;omega)|(refine C3 (λ_=>rfl) rfl ?_ ?_;(first|rfl|simp))|apply AE|refine AD (hT _) ?_)<;>conv=>whnf))
  refine AW rfl ?_;simp only[A4,CB,and_true,true_and];exact C0 _
 ·have e1:((n+1:Nat):Int)-1=n:=by omega
  rw[e1];obtain ⟨d,hd⟩ : ∃ d,x[n]? = some d:=⟨_,zE (by omega)⟩;have x6:=d1.at hd;have hR:r*4294967296+d<Y*4294967296:=by omega
  have tn:(r*4294967296+d)/Y<4294967296:=(Nat.div_lt_iff_lt_mul (by omega)).2 (by omega);(repeat' ((first|(apply AG<;>intro hc<;>try (exfalso;omega))|(apply A3;omega)|(apply OK;omega)|(apply PE;omega)|(apply WW;omega;omega)|(apply B7;omega)|(apply D8;omega)|(refine BC (by assumption) ?_ rfl ?_;omega)|apply AE)<;>conv=>whnf))
  obtain ⟨t,ht⟩ : ∃ t,t=r*4294967296+d:=⟨_,rfl⟩;rw[<-ht]at hR tn ⊢;have hm:t%Y<Y:=Nat.mod_lt _ (by omega);have j9:=AfU p5 ht;rw[<-HH hd]at j9;clear ht;skip
  refine E7 (by omega) ?_;(conv=>whnf)
  (repeat' ((first|(apply BM;omega)|(apply UK;omega)|(apply B7;omega))<;>conv=>whnf))
  generalize t/Y=tq at *;generalize t%Y=tr at *;refine BL [] (by (conv=>whnf);exact ⟨rfl,rfl,rfl⟩) (ih n _ _ (by omega) ⟨by omega,by simpa using p2,p3.set _ (by omega),hm,?_⟩);rw[HH (l:=o.set n tq) (d:=tq) (by rw[List.getElem?_set_self (by omega)]),List.drop_set_of_lt (by omega)];exact j9
theorem XB (a b:List Nat) (e:Int):A4 (.g8 [.sl false (a.map AL),.sl false (b.map AL),.int .i64 e]):=by
 simp only[A4,CB,and_true,true_and];exact ⟨C0 a,C0 b⟩
abbrev Nf:List It:=[It.lp DN.l1,It.c9 0,
   It.code
    (((BD.ops DN.w6 false).dr [0,75,79,80] []).seq
     (((BD.ops DN.w7 false).dr [81,82,83,84,85] []).seq
      ((((BD.ops DN.y5 false).dr [86,87,88,89,90] []).seq
         (BD.block 2 DN.l2.loop)).seq
       (((BD.ops DN.Jk true).dr [9,10,11,12,13,14,92,277,278,279,280,281,282,283,284]
          []).seq
        BD.ret))))]
abbrev XP:List It:=[It.lp DN.l2,It.c9 2,It.code
       (((BD.ops DN.Jk true).dr [9,10,11,12,13,14,92,277,278,279,280,281,282,283,284]
          []).seq
        BD.ret)]
abbrev XQ (v:List Nat) (s ul m:Nat) (j:Int):Tm:=[(14,.int .i64 j),(13,.row 85 0 1 0 m),(12,.int .i64 v.length),(11,.sl false (v.map AL)),(10,.row 69 0 1 0 ul),(9,.int .i64 (s:Int))]
abbrev Nc:BD:=(((BD.ops DN.Mg false).dr [18,19,20,166,205,206,207] []).seq
                (((BD.ops DN.Mh false).dr [208,209,210,211,212,213,214] []).seq
                 ((BD.ops DN.Mi false).seq
                  ((((BD.ops DN.Mj false).dr [215,216] []).seq
                     (BD.cond 217
                      (((BD.ops DN.Mk false).dr [18,217,218,219] []).seq
                       (BD.ops DN.Ml false))
                      BD.skip)).seq
                   (((BD.ops DN.Mm false).dr
                      [23,24,217,220,221,222,223,224,225,226,227,228] []).seq
                    ((((BD.ops DN.Mn false).dr [18,229] []).seq
                       (BD.cond 230
                        (((BD.ops DN.Mo false).dr [230,231,232] []).seq
                         ((BD.ops DN.Mp false).seq
                          (((BD.ops DN.Mq false).seq
                             (BD.block 8 DN.l5.loop)).seq
                           ((BD.ops DN.Mr false).dr
                            [25,26,235,262,263,264,265,266,267,268,269,270,271]
                            []))))
                        BD.skip)).seq
                     ((BD.ops DN.Mt false).dr [16,230,272,273,274,275,276]
                      [])))))))
abbrev Ng:List It:=It.lp DN.l4::It.c9 6::It.code Nc::It.c9 3::It.code ((BD.ops DN.af false).dr [93,94] [])::XP
section
variable {A W C w y:List Nat} {j m s ul q:Nat} {Q:Tm->Mem->Prop}
theorem SR {e i n:Nat} (hi:i=A.length+n) (he:W[n]? = some e):(A++W++C)[i]? = some e:=by
 rw[vC hi (zS he).1];exact he
theorem bK (hA:A.length=j) (hW:W.length=y.length+1) (D2:A2 W) (bn:A2 y) (db:2<=y.length) (qp:y.length<=549755813888) (w5:0<val y) (cg:j<=1099511627776)
  (fu:ul=j+(y.length+1)+C.length) (Eu:w.length=m) (Ei:j<m)
  (r1:q<4294967296) (r2:val W/val y<=q) (r3:q<=val W/val y+1)
  (hk : ∀ (W':List Nat) (q':Nat),W'.length=y.length+1->A2 W'->val W'=val W%val y->q'=val W/val y->AA L XP (XQ y s ul m ((j:Int)-1)) [(69,101021,.rw 1 ((A++W'++C).map AL)),(85,85,.rw 1 ((w.set j q').map AL))] Q) :
  AA L Ng ([(20,.int .i64 0),(19,.int .u64 0),(18,.int .u64 0),(16,.int .u64 (q:Int))]++XQ y s ul m (j:Int)) [(69,101021,.rw 1 ((A++W++C).map AL)),(85,85,.rw 1 (w.map AL))] Q:=by
 refine ZO (λ i _ _ _=>y.length-i) (λ(i:Nat) (Z:List Nat) (c b:Nat)=>i<=y.length/\Z.length=y.length+1/\A2 Z/\c<4294967296/\b<=1/\Z.drop i=W.drop i/\val (Z.take i)+q*val (y.take i)=val (W.take i)+4294967296^i*(c+b)) (λ i Z c b=>[(20,.int .i64 i),(18,.int .u64 (b:Int)),(19,.int .u64 (c:Int))]) (λ i Z c b=>[(69,101021,.rw 1 ((A++Z++C).map AL))]) [] [] 0 W 0 0 (by (conv=>whnf);exact ⟨rfl,rfl,rfl⟩) ⟨by omega,hW,D2,by omega,by omega,rfl,by simp [val]⟩ ?_;intro i Z c b ⟨p1,p2,p3,p4,p5,p6,p7⟩ ih;by_cases hi:i<y.length
 ·obtain ⟨d,hd⟩ : ∃ d,y[i]? = some d:=⟨_,zE hi⟩
  obtain ⟨u,hu⟩ : ∃ u,Z[i]? = some u:=⟨_,zE (by omega)⟩;have x6:=bn.at hd;have nq:=p3.at hu;have Eo:(A++Z++C)[((i:Int)+(j:Int)).toNat]? = some u:=SR (by omega) hu;obtain ⟨pr,nz⟩ : ∃ pr,pr=c+q*d:=⟨_,rfl⟩;obtain ⟨m1,m2,m3⟩:=qW r1 x6 p4 (show pr=q*d+c by omega);have sv:W[i]? = some u:=by
   have e1:(Z.drop i)[0]? = (W.drop i)[0]? := by rw[p6]
   simpa [hu] using e1.symm
  have ln : ∀ w,(Z.set i w).drop (i+1)=W.drop (i+1):=λ w=>by
   rw[List.drop_set_of_lt (by omega)];have e1:(Z.drop i).drop 1=(W.drop i).drop 1:=by rw[p6]
   simpa using e1
  have j9 : ∀ have' take w z9,take=pr%4294967296+b->((have'=u/\z9=0/\take<=u)\/(have'=u+4294967296/\z9=1/\u<take))->w+take=have'->val ((Z.set i w).take (i+1))+q*val (y.take (i+1))=val (W.take (i+1))+4294967296^(i+1)*(pr/4294967296+z9):=λ have' take w z9 a1 a2 a3=>by
   rw[F8 (by omega),DX hd,DX sv,Nat.pow_succ];exact Xv p7 nz a1 a2 a3
  by_cases k6:u<pr%4294967296+b
  ·have h3:=j9 (u+4294967296) (pr%4294967296+b) (u+4294967296-(pr%4294967296+b)) 1 rfl (Or.inr ⟨rfl,rfl,k6⟩) (by omega)
   (repeat' ((first|(apply AG<;>intro hc<;>try (exfalso;omega))|(apply A3;omega)|(apply AR;omega)|(apply GA;omega)|(apply PD;omega)|(apply iQ;omega)|(apply I8;omega;omega)|apply FD|(apply WT;omega)|(apply B7;omega)|(apply D8;omega)|(refine BC (by assumption) ?_ rfl ?_;omega)|refine JO (by assumption) ?_|apply AE)<;>conv=>whnf))
   rw[<-nz];skip
   refine OL i (by omega) (by omega) ?_;(conv=>whnf)
   (repeat' ((first|(apply AR;omega)|fail)<;>conv=>whnf))
   exact BL [] (by (conv=>whnf);exact ⟨rfl,rfl,rfl⟩) (ih (i+1) (Z.set i (u+4294967296-(pr%4294967296+b))) (pr/4294967296) 1 (by omega) ⟨by omega,by simpa using p2,p3.set _ (by omega),m1,by omega,ln _,h3⟩)
  ·have h3:=j9 u (pr%4294967296+b) (u-(pr%4294967296+b)) 0 rfl (Or.inl ⟨rfl,rfl,by omega⟩) (by omega)
   (repeat' ((first|(apply AG<;>intro hc<;>try (exfalso;omega))|(apply A3;omega)|(apply AR;omega)|(apply GA;omega)|(apply PD;omega)|(apply iQ;omega)|(apply I8;omega;omega)|apply FD|(apply B7;omega)|(apply D8;omega)|(refine BC (by assumption) ?_ rfl ?_;omega)|refine JO (by assumption) ?_|apply AE)<;>conv=>whnf))
   rw[<-nz];skip
   refine OL i (by omega) (by omega) ?_;(conv=>whnf)
   (repeat' ((first|(apply AR;omega)|fail)<;>conv=>whnf))
   exact BL [] (by (conv=>whnf);exact ⟨rfl,rfl,rfl⟩) (ih (i+1) (Z.set i (u-(pr%4294967296+b))) (pr/4294967296) 0 (by omega) ⟨by omega,by simpa using p2,p3.set _ (by omega),m1,by omega,ln _,h3⟩)
 ·obtain rfl:i=y.length:=by omega
  clear ih;obtain ⟨u,hu⟩ : ∃ u,Z[y.length]? = some u:=⟨_,zE (by omega)⟩;have nq:=p3.at hu;have Eo:(A++Z++C)[((j:Int)+(y.length:Int)).toNat]? = some u:=SR (by omega) hu;have sv:W[y.length]? = some u:=by
   have e1:(Z.drop y.length)[0]? = (W.drop y.length)[0]? := by rw[p6]
   simpa [hu] using e1.symm
  rw[C7 (Nat.le_refl y.length)]at p7;have eW:val W=val (W.take y.length)+4294967296^y.length*u:=by
   rw[<-DX sv,C7 (by omega)]
  have j9 : ∀ have' take w z9,take=c+b->((have'=u/\z9=0/\take<=u)\/(have'=u+4294967296/\z9=1/\u<take))->w+take=have'->val (Z.set y.length w)+q*val y=val W+4294967296^y.length*4294967296*z9:=λ have' take w z9 a1 a2 a3=>by
   have h1:=Xt p7 a1 a2 a3;rw[<-eW,<-F8 (show y.length<Z.length by omega),C7 (by simp;omega)]at h1;exact h1
  by_cases k6:u<c+b
  ·have h3:=j9 (u+4294967296) (c+b) (u+4294967296-(c+b)) 1 rfl (Or.inr ⟨rfl,rfl,k6⟩) (by omega)
   have Az:A2 (Z.set y.length (u+4294967296-(c+b))):=p3.set _ (by omega);have zf:(Z.set y.length (u+4294967296-(c+b))).length=y.length+1:=by simpa using p2
   rw[Nat.mul_one]at h3;have yz:=E0 Az;rw[zf,Nat.pow_succ]at yz;obtain ⟨y1,y2,y3⟩:=lL w5 r3 yz h3;(repeat' ((first|(apply AG<;>intro hc<;>try (exfalso;omega))|(apply A3;omega)|(apply AR;omega)|(apply GA;omega)|(apply I8;omega;omega)|(apply WT;omega)|(apply B7;omega)|(apply D8;omega)|refine JO (by assumption) ?_|apply AE)<;>conv=>whnf))
   refine OL y.length (by omega) (by omega) ?_;(conv=>whnf)
   (repeat' ((first|(apply AG<;>intro hc<;>try (exfalso;omega))|(apply I8;omega;omega))<;>conv=>whnf))
   clear p7 p6 eW hu sv nq Eo p2 p3 j9;generalize Z.set y.length (u+4294967296-(c+b))=X at *;have hRV:val W%val y<val y:=Nat.mod_lt _ w5;have wo:=E0 bn;obtain ⟨xw,yo⟩ : ∃ xw,X[y.length]? = some xw:=⟨_,zE (by omega)⟩;have eX:val X=val (X.take y.length)+4294967296^y.length*xw:=by
    rw[<-DX yo,C7 (by omega)]
   have rj:q-1<4294967296:=by omega
   refine GR (λ i _ _=>y.length-i) (λ(i:Nat) (Z:List Nat) (c:Nat)=>i<=y.length/\Z.length=y.length+1/\A2 Z/\c<=1/\Z.drop i=X.drop i/\val (Z.take i)+4294967296^i*c=val (X.take i)+val (y.take i)) (λ i Z c=>[(26,.int .i64 i),(25,.int .u64 (c:Int))]) (λ i Z c=>[(69,101021,.rw 1 ((A++Z++C).map AL))]) [] [] 0 X 0 (by (conv=>whnf);exact ⟨rfl,rfl,rfl⟩) ⟨by omega,zf,Az,by omega,rfl,by simp [val]⟩ ?_;intro i Z c ⟨p1,p2,p3,p4,p6,p7⟩ ih;by_cases hi:i<y.length
   ·obtain ⟨d,hd⟩ : ∃ d,y[i]? = some d:=⟨_,zE hi⟩
    obtain ⟨u,hu⟩ : ∃ u,Z[i]? = some u:=⟨_,zE (by omega)⟩;have x6:=bn.at hd;have nq:=p3.at hu;have Eo:(A++Z++C)[((i:Int)+(j:Int)).toNat]? = some u:=SR (by omega) hu;have im:X[i]? = some u:=by
     have e1:(Z.drop i)[0]? = (X.drop i)[0]? := by rw[p6]
     simpa [hu] using e1.symm
    have Gl:=jH (d:=d) (w:=u) (t:=c+(u+d)) p7 (by omega);(repeat' ((first|(apply AG<;>intro hc<;>try (exfalso;omega))|(apply A3;omega)|(apply AR;omega)|(apply GA;omega)|(apply B7;omega)|apply FW|(refine BC (by assumption) ?_ rfl ?_;omega)|refine JO (by assumption) ?_|apply AE)<;>conv=>whnf))
    generalize ht2:c+(u+d)=t2 at *;refine OL i (by omega) (by omega) ?_;(conv=>whnf)
    (repeat' ((first|(apply AR;omega)|apply FD)<;>conv=>whnf))
    refine BL [] (by (conv=>whnf);exact ⟨rfl,rfl,rfl⟩) (ih (i+1) (Z.set i (t2%4294967296)) (t2/4294967296) (by omega) ⟨by omega,by simpa using p2,p3.set _ (by omega),by omega,?_,?_⟩)
    ·rw[List.drop_set_of_lt (by omega)]
     have e1:(Z.drop i).drop 1=(X.drop i).drop 1:=by rw[p6]
     simpa using e1
    ·rw[F8 (by omega),DX hd,DX im,Nat.pow_succ]
     exact Gl
   ·obtain rfl:i=y.length:=by omega
    clear ih;obtain ⟨u,hu⟩ : ∃ u,Z[y.length]? = some u:=⟨_,zE (by omega)⟩;have nq:=p3.at hu;have Eo:(A++Z++C)[((j:Int)+(y.length:Int)).toNat]? = some u:=SR (by omega) hu;have im:X[y.length]? = some u:=by
     have e1:(Z.drop y.length)[0]? = (X.drop y.length)[0]? := by rw[p6]
     simpa [hu] using e1.symm
    rw[im]at yo;obtain rfl:u=xw:=by simpa using yo
    rw[C7 (Nat.le_refl y.length)]at p7;have Ba:=E0 (p3.take y.length);rw[List.length_take,Nat.min_eq_left (by omega)]at Ba;rw[eX]at y3;have pj:=jG p7 y3 (by omega) Ba;rw[<-F8 (show y.length<Z.length by omega),C7 (by simp;omega)]at pj;(repeat' ((first|(apply AG<;>intro hc<;>try (exfalso;omega))|(apply A3;omega)|(apply AR;omega)|apply iP|(apply D8;omega)|refine JO (by assumption) ?_|apply AE)<;>conv=>whnf))
    refine OL y.length (by omega) (by omega) ?_;(conv=>whnf)
    (repeat' ((first|(apply A3;omega)|(apply D8;omega))<;>conv=>whnf))
    refine E7 (by omega) ?_;(conv=>whnf)
    (repeat' ((first|(apply BM;omega)|fail)<;>conv=>whnf))
    exact BL [] (by (conv=>whnf);exact ⟨rfl,rfl,rfl⟩) (hk _ _ (by simpa using p2) (p3.set _ (by omega)) pj y1)
  ·have h3:=j9 u (c+b) (u-(c+b)) 0 rfl (Or.inl ⟨rfl,rfl,by omega⟩) (by omega)
   rw[Nat.mul_zero,Nat.add_zero]at h3;obtain ⟨y1,y2⟩:=lM w5 r2 h3;(repeat' ((first|(apply AG<;>intro hc<;>try (exfalso;omega))|(apply A3;omega)|(apply AR;omega)|(apply GA;omega)|(apply I8;omega;omega)|(apply B7;omega)|(apply D8;omega)|refine JO (by assumption) ?_|apply AE)<;>conv=>whnf))
   refine OL y.length (by omega) (by omega) ?_;(conv=>whnf)
   (repeat' ((first|(apply AG<;>intro hc<;>try (exfalso;omega))|(apply A3;omega)|(apply D8;omega))<;>conv=>whnf))
   refine E7 (by omega) ?_;(conv=>whnf)
   (repeat' ((first|(apply BM;omega)|fail)<;>conv=>whnf))
   exact BL [] (by (conv=>whnf);exact ⟨rfl,rfl,rfl⟩) (hk _ _ (by simpa using p2) (p3.set _ (by omega)) y2 y1)
theorem Nh (hA:A.length=j) (hW:W.length=y.length+1) (D2:A2 W) (bn:A2 y) (db:2<=y.length) (qp:y.length<=549755813888) (w5:0<val y) (cg:j<=1099511627776)
  (n2:4294967296^(y.length-1)*2147483648<=val y) (g2:val W<4294967296*val y) (fu:ul=j+(y.length+1)+C.length) (Eu:w.length=m) (Ei:j<m)
  (hk : ∀ (W':List Nat) (q':Nat),W'.length=y.length+1->A2 W'->val W'=val W%val y->q'=val W/val y->AA L XP (XQ y s ul m ((j:Int)-1)) [(69,101021,.rw 1 ((A++W'++C).map AL)),(85,85,.rw 1 ((w.set j q').map AL))] Q) :
  AA L (.code DN.l2::XP) (XQ y s ul m (j:Int)) [(69,101021,.rw 1 ((A++W++C).map AL)),(85,85,.rw 1 (w.map AL))] Q:=by
 obtain ⟨UL,a1,a2⟩:=ZK D2 (n:=y.length+1) (by omega) (by omega);obtain ⟨VL,b5,b6⟩:=uX bn (n:=y.length) db (by omega);obtain ⟨u0,w0⟩ : ∃ d,W[y.length]? = some d:=⟨_,zE (by omega)⟩;obtain ⟨u1,w1⟩ : ∃ d,W[y.length-1]? = some d:=⟨_,zE (by omega)⟩;obtain ⟨u2,w2⟩ : ∃ d,W[y.length-2]? = some d:=⟨_,zE (by omega)⟩;obtain ⟨f1,x1⟩ : ∃ d,y[y.length-1]? = some d:=⟨_,zE (by omega)⟩;obtain ⟨f2,x2⟩ : ∃ d,y[y.length-2]? = some d:=⟨_,zE (by omega)⟩;rw[show y.length+1-3=y.length-2 by omega,show y.length+1-2=y.length-1 by omega,show y.length+1-1=y.length by omega,GV w0,GV w1,GV w2]at a2;rw[show y.length+1-3=y.length-2 by omega]at a1;rw[GV x1,GV x2]at b6;have pk:=uR bn (k:=y.length-1) (by omega) n2 x1;have k0:=D2.at w0;have k1:=D2.at w1;have k2:=D2.at w2;have k3:=bn.at x1;have k4:=bn.at x2;have z1:y[((y.length:Int)-1).toNat]? = some f1:=by rw[show ((y.length:Int)-1).toNat=y.length-1 by omega];exact x1
 have z2:y[((y.length:Int)-2).toNat]? = some f2:=by rw[show ((y.length:Int)-2).toNat=y.length-2 by omega];exact x2
 have lq:(A++W++C)[((j:Int)+(y.length:Int)).toNat]? = some u0:=SR (by omega) w0;(repeat' ((first|(apply AG<;>intro hc<;>try (exfalso;omega))|(apply A3;omega)|(apply AR;omega)|(apply BM;omega)|(apply OK;omega)|(apply B7;omega)|refine JO (by assumption) ?_|apply AE)<;>conv=>whnf))
 have da:(A++W++C)[((j:Int)+(y.length:Int)-1).toNat]? = some u1:=SR (by omega) w1;refine xC da ?_;(conv=>whnf)
 refine iJ (by omega) ?_;(conv=>whnf)
 refine PE (by omega) ?_;(conv=>whnf)
 clear lq da;have ae:(A++W++C)[((j:Int)+(y.length:Int)-2).toNat]? = some u2:=SR (by omega) w2;generalize Iu:u0*4294967296+u1=top at *;have Iq:top<=18446744073709551615:=by omega
 have hU:val W=UL+4294967296^(y.length-2)*(u2+4294967296*top):=by rw[a2,show u1+4294967296*u0=top by omega]
 (repeat' ((first|(apply BM;omega)|(apply UK;omega)|(apply WW;omega;omega)|(apply B7;omega)|(refine BC (by assumption) ?_ rfl ?_;omega))<;>conv=>whnf))
 refine EX (λ q _=>q) (λ(q r:Nat)=>Gs (val W) (val y) f1 f2 u2 top q r) (λ q r=>[(16,.int .u64 (q:Int)),(17,.int .u64 (r:Int))]) (λ_ _=>[]) [] [] (top/f1) (top%f1) (by (conv=>whnf);exact ⟨rfl,rfl,rfl⟩) (Gs.start hU b6 a1 k2 w5 (by omega) k3) ?_;intro q r g iz;have Hy:q<=top:=by
  have h3:=g.hq;have h4:q*1<=q*f1:=Nat.mul_le_mul_left q (by omega);omega
 have hr:=g.hr;have jl:=g.ge;by_cases hb:4294967296<=q
 ·obtain ⟨y1,y2,y3⟩:=g.next hU b6 a1 w5 g2 (Or.inl hb)
  (repeat' ((first|(apply AG<;>intro hc<;>try (exfalso;omega))|(apply BM;omega)|(apply GA;omega)|(apply I8;omega;omega)|(apply B7;omega)|(refine BC (by assumption) ?_ rfl ?_;omega)|apply AE)<;>conv=>whnf))
  ·obtain ⟨t1,t2⟩:=TI hU b6 b5 pk k4 g2 y2 (Or.inr (by omega))
   exact BL [] (by (conv=>whnf);exact ⟨rfl,rfl,rfl⟩) (bK (w:=w) (C:=C) hA hW D2 bn db qp w5 cg fu Eu Ei t1 y3 t2 hk)
  ·exact BL [] (by (conv=>whnf);exact ⟨rfl,rfl,rfl⟩) (iz (q-1) (r+f1) (by omega) ⟨y2,by omega,y3⟩)
 ·have hmq:=TR (show q<4294967296 by omega) k4
  by_cases o9:r*4294967296+u2<q*f2
  ·obtain ⟨y1,y2,y3⟩:=g.next hU b6 a1 w5 g2 (Or.inr o9)
   (repeat' ((first|(apply AG<;>intro hc<;>try (exfalso;omega))|(apply A3;omega)|(apply AR;omega)|(apply BM;omega)|(apply GA;omega)|(apply PD;omega)|(apply OK;omega)|(apply PE;omega)|(apply I8;omega;omega)|(apply B7;omega)|(refine BC (by assumption) ?_ rfl ?_;omega)|refine JO (by assumption) ?_|apply AE)<;>conv=>whnf))
   ·obtain ⟨t1,t2⟩:=TI hU b6 b5 pk k4 g2 y2 (Or.inr (by omega))
    exact BL [] (by (conv=>whnf);exact ⟨rfl,rfl,rfl⟩) (bK (w:=w) (C:=C) hA hW D2 bn db qp w5 cg fu Eu Ei t1 y3 t2 hk)
   ·exact BL [] (by (conv=>whnf);exact ⟨rfl,rfl,rfl⟩) (iz (q-1) (r+f1) (by omega) ⟨y2,by omega,y3⟩)
  ·obtain ⟨t1,t2⟩:=TI hU b6 b5 pk k4 g2 g.hq (Or.inl ⟨by omega,by omega⟩)
   (repeat' ((first|(apply AG<;>intro hc<;>try (exfalso;omega))|(apply A3;omega)|(apply AR;omega)|(apply BM;omega)|(apply PD;omega)|(apply OK;omega)|(apply PE;omega)|(apply B7;omega)|(refine BC (by assumption) ?_ rfl ?_;omega)|refine JO (by assumption) ?_|apply AE)<;>conv=>whnf))
   exact BL [] (by (conv=>whnf);exact ⟨rfl,rfl,rfl⟩) (bK (w:=w) (C:=C) hA hW D2 bn db qp w5 cg fu Eu Ei t1 jl t2 hk)
end
theorem Agv {l:List Nat} (hD:A2 l) (h:l[l.length-1]? = some 0):val l<4294967296^(l.length-1):=by
 have hl:=(zS h).1;have h1:=J7 l (l.length-1) (by omega);have h2:=HH h;rw[List.drop_of_length_le (show l.length<=l.length-1+1 by omega),I7]at h2;rw[h2]at h1;simp only[Nat.mul_zero,Nat.add_zero]at h1;have h3:=E0 (hD.take (l.length-1));rw[List.length_take,Nat.min_eq_left (by omega)]at h3;omega
theorem lO (N:c8 L) {X Y s:Nat} {x u y:List Nat} (hY:Y≠0) (ah:s<=31) (Dt:A2 u) (Dv:val u=X*2^s) (hU0:u[u.length-1]? = some 0) (fu:x.length+1<=u.length/\u.length<=549755813888) (bn:A2 y) (Dw:val y=Y*2^s) (fj:2<=y.length/\y.length<=x.length) (n2:4294967296^(y.length-1)*2147483648<=val y) :
  AA L Nf [(10,.row 69 0 1 0 u.length),(11,.sl false (y.map AL)),(9,.int .i64 (s:Int)),(0,.sl false (x.map AL))] [(69,101021,.rw 1 (u.map AL))] (QC DN (.g8 [.sl false ((dg (X/Y)).map AL),.sl false ((dg (X%Y)).map AL),.int .i64 0])):=by
 refine CK (λ(_:Nat)=>0) (λ_=>True) (λ_=>[]) (λ_=>[]) [] [] 0 (by (conv=>whnf);exact ⟨rfl,rfl,rfl⟩) trivial ?_;intro _ _ _;(repeat' ((first|(apply AG<;>intro hc<;>try (exfalso;omega))|(apply AR;omega)|(apply BM;omega)|apply AY|apply AE)<;>conv=>whnf))
 refine DP (enc:=AL) 0 (u.length-y.length) (by rfl) (by omega) (by omega) ?_;(conv=>whnf)
 (repeat' ((first|(apply BM;omega)|fail)<;>conv=>whnf))
 have w5:0<val y:=by
  have:=rW (y.length-1)
  omega
 have wq:=E0 bn;generalize hm:u.length-y.length=m at *;have mr:val (u.drop m)<val y:=by
  have h1:(u.drop m).length=y.length:=by simp;omega
  have h2:=Agv (l:=u.drop m) (Dt.drop _) (by rw[h1,List.getElem?_drop,show m+(y.length-1)=u.length-1 by omega];exact hU0);rw[h1]at h2;omega
 rw[show (u.length:Int)-y.length-1=((m:Nat):Int)-1 by omega];refine GR (λ n _ _=>n) (λ(n:Nat) (o w:List Nat)=>n<=m/\o.length=u.length/\A2 o/\w.length=m/\A2 w/\val (o.drop n)<val y/\X*2^s=val (o.take n)+4294967296^n*(val (w.drop n)*val y+val (o.drop n))) (λ n o w=>[(14,.int .i64 ((n:Int)-1))]) (λ n o w=>[(69,101021,.rw 1 (o.map AL)),(85,85,.rw 1 (w.map AL))]) [] [] m u (List.replicate m 0) (by (conv=>whnf);exact ⟨rfl,rfl,rfl⟩) ⟨by omega,rfl,Dt,by simp,JD _,mr,by rw[<-Dv,List.drop_of_length_le (show (List.replicate m 0).length<=m by simp),I7,Nat.zero_mul,Nat.zero_add];exact J7 u m (by omega)⟩ ?_;intro n o w ⟨p1,p2,p3,p4,p5,p6,p7⟩ ih;rcases n with _|j
 ·clear ih
  rw[List.drop_zero]at p6;rw[List.take_zero,List.drop_zero,List.drop_zero,I7,Nat.zero_add,Nat.pow_zero,Nat.one_mul]at p7;have ln:val o=val (o.take y.length):=by
   have h1:=SL o y.length;rcases Nat.eq_zero_or_pos (val (o.drop y.length)) with h2|h2
   ·rw[h2,Nat.mul_zero,Nat.add_zero]at h1;exact h1
   ·have h3:4294967296^y.length*1<=4294967296^y.length*val (o.drop y.length):=Nat.mul_le_mul_left _ h2
    omega
  have sw:X/Y=val w/\X%Y=val o/2^s:=by
   obtain ⟨z1,z2⟩:=lN (X:=X) (Y:=Y) (Nat.two_pow_pos s);rw[<-z1,<-z2,<-Dw,p7];have e1:(val w*val y+val o)/val y=val w:=by
    rw[Nat.mul_comm,Nat.mul_add_div w5,Nat.div_eq_of_lt p6,Nat.add_zero]
   have e2:(val w*val y+val o)%val y=val o:=by
    rw[Nat.mul_comm,Nat.mul_add_mod,Nat.mod_eq_of_lt p6]
   rw[e1,e2];exact ⟨rfl,rfl⟩
  rw[sw.1,sw.2,ln];have hT:=λ q=>GL N w q p5 (by omega)
  have ft:(o.take y.length).length<=549755813888:=by rw[List.length_take];omega
  clear p7 sw mr;rw[<-p4];rcases Nat.eq_zero_or_pos s with h0|h0
  ·subst h0
   have hS:=λ q=>nP N (o.take y.length) q 0 (p3.take _) ft (by omega)
   rw[Nat.pow_zero,Nat.mul_one]at hS;rw[Nat.pow_zero,Nat.div_one];(repeat' ((first|(apply AG<;>intro hc<;>try (exfalso;omega))|(refine C3 (λ_=>rfl) rfl ?_ ?_;(first|rfl|simp))|apply AE|refine AD (hT _) ?_)<;>conv=>whnf))
   refine G5 y.length rfl (by omega) ?_;(conv=>whnf)
   refine BT.neg (by omega) ?_;(conv=>whnf)
   refine H1 (enc:=AL) (λ_=>rfl) (by omega) ?_;(conv=>whnf)
   rw[List.drop_zero,Nat.sub_zero,show -((0:Nat):Int)=((0:Nat):Int) by omega];(repeat' (refine AD (hS _) ?_<;>conv=>whnf))
   exact AW rfl (XB _ _ _)
  ·have hS:=λ q=>Tc N (o.take y.length) q s (p3.take _) ft (by omega)
   (repeat' ((first|(apply AG<;>intro hc<;>try (exfalso;omega))|(refine C3 (λ_=>rfl) rfl ?_ ?_;(first|rfl|simp))|apply AE|refine AD (hT _) ?_)<;>conv=>whnf))
   refine G5 y.length rfl (by omega) ?_;(conv=>whnf)
   refine BT.neg (by omega) ?_;(conv=>whnf)
   refine H1 (enc:=AL) (λ_=>rfl) (by omega) ?_;(conv=>whnf)
   rw[List.drop_zero,Nat.sub_zero];(repeat' (refine AD (hS _) ?_<;>conv=>whnf))
   exact AW rfl (XB _ _ _)
 ·have e3:((j+1:Nat):Int)-1=j:=by omega
  rw[e3];obtain ⟨A,W,C,hA,hW,rfl⟩:=mF o j (y.length+1) (by omega);obtain ⟨g1,g2,g3⟩:=mH hA hW p3 p6 wq;obtain ⟨D1,D2,D3⟩:=lJ p3;have rj:val W/val y<4294967296:=(Nat.div_lt_iff_lt_mul w5).2 g2;have Gf:val W=val W/val y*val y+val W%val y:=by rw[Nat.mul_comm];exact (Nat.div_add_mod _ _).symm
  have wu:val W%val y<val y:=Nat.mod_lt _ w5;have wm:X*2^s=val A+4294967296^j*val W+4294967296^j*4294967296*(val (w.drop (j+1))*val y):=by
   rw[p7,Nat.mul_add,<-g3,Nat.pow_succ];omega
  have mj:=mG wm Gf;have fb : ∀ q',q'=val W/val y->val ((w.set j q').drop j)=val W/val y+4294967296*val (w.drop (j+1)):=λ q' h=>by
   rw[HH (l:=w.set j q') (d:=q') (by rw[List.getElem?_set_self (by omega)]),List.drop_set_of_lt (by omega),h]
  have hlen : ∀ W':List Nat,W'.length=y.length+1->(A++W'++C).length=u.length:=λ W' h=>by
   rw[<-p2];simp [h,hW]
  have Ek:u.length=j+(y.length+1)+C.length:=by rw[<-p2];simp [hA,hW];omega
  refine BL [] (by (conv=>whnf);exact ⟨rfl,rfl,rfl⟩) (Nh (m:=m) (s:=s) (ul:=u.length) (C:=C) hA hW D2 bn fj.1 (by omega) w5 (by omega) n2 g2 Ek p4 (by omega) (λ W' q' z1 z2 z3 z4 => ?_));obtain ⟨t1,t2⟩:=bU (A:=A) (W:=W') (C:=C) (j:=j) hA g1;refine BL [] (by (conv=>whnf);exact ⟨rfl,rfl,rfl⟩) (ih j (A++W'++C) (w.set j q') (by omega) ⟨by omega,hlen W' z1,(D1.append z2).append D3,by simpa using p4,p5.set _ (by omega),by omega,?_⟩);rw[t1,t2,fb q' z4,z3];exact mj
end Go.b7
namespace Go.b7
open F
attribute [local irreducible] AA AF AM AC BT AQ A5 AZ BG A9 BS CN BH AU BI BR AB A1 AJ pw B1 BQ B9 CM CH BF BV BB B5
variable {L:Lib}
set_option maxHeartbeats 8000000
theorem nO (N:c8 L) (a b:List Nat) (q1 q2:Bool) (hA:A2 a) (hB:A2 b) (la:a.length<=274877906944) (lb:b.length<=274877906944) (h0:val b≠0) :
  Ev L 109 [.sl q1 (a.map AL),.sl q2 (b.map AL)] (.g8 [.sl false ((dg (val a/val b)).map AL),.sl false ((dg (val a%val b)).map AL),.int .i64 0]):=by
 have t1:=λ q=>GL N a q hA (by omega)
 have t2:=λ q=>GL N b q hB (by omega)
 have l1:=ES hA;have l2:=ES hB;have k9:=λ q q'=>cG N (dg (val a)) (dg (val b)) q q' (DT _) (DT _) (by omega) (by omega)
 rw[BP,BP]at k9;generalize val a=X at *;generalize val b=Y at *;have d1:=DT X;have d2:=DT Y;have v1:=BP X;have v2:=BP Y;have hy1:=U1 h0;refine Ev.x N.DN rfl rfl ?_;by_cases h1:(dg Y).length=1
 ·obtain ⟨y0,lz⟩ : ∃ y0,dg Y=[y0]:=List.length_eq_one_iff.1 h1
  have rp:Y=y0:=by rw[<-v2,lz];simp [val]
  subst rp;have Aa:Y<4294967296:=d2 Y (by rw[lz];simp);have hyg:(dg Y)[(0:Int).toNat]? = some Y:=by rw[lz];rfl
  have fo:=λ q=>Td N (dg X) Y q d1 (by omega) h0 Aa
  rw[v1]at fo;have Cm:X%Y<4294967296:=Nat.lt_trans (Nat.mod_lt _ (by omega)) Aa;have Ko:=λ q=>GL N [X%Y] q (HM Cm) (by simp)
  rw[show val [X%Y]=X%Y by simp [val]]at Ko;clear lz v2;generalize dg Y=y at *;(repeat' ((first|(apply AG<;>intro hc<;>try (exfalso;omega))|apply AY|(refine BC (by assumption) ?_ rfl ?_;omega)|refine FF rfl ?_|apply AE|refine AD (t1 _) ?_|refine AD (t2 _) ?_|refine AD (fo _) ?_|refine AD (Ko _) ?_)<;>conv=>whnf))
  exact AW rfl (XB _ _ _)
 by_cases k6:X<Y
 ·rw[<-IL (by omega)]at k9
  (repeat' ((first|(apply AG<;>intro hc<;>try (exfalso;omega))|apply AY|apply AE|refine AD (t1 _) ?_|refine AD (t2 _) ?_|refine AD (k9 _ _) ?_)<;>conv=>whnf))
  refine AW ?_ (XB _ _ _);rw[Nat.div_eq_of_lt k6,Nat.mod_eq_of_lt k6,EY];rfl
 have jl:=XD (show Y<=X by omega);generalize C5 X Y=cm at *;have Hq:2<=(dg Y).length:=by omega
 obtain ⟨yt,tv,tz⟩:=bI h0;have qt:=d2.at tv;obtain ⟨b1,b2,b3,b4⟩:=dT tz qt;have lj:=λ q=>Sz N yt q tz qt
 generalize hs:32-n0 yt=s at *;have ah:s<=31:=by omega
 have Io:=λ q=>nP N (dg Y) q s d2 (by omega) (by omega)
 obtain ⟨n1,n2⟩:=dM d2 tv (by omega) ah b3 b4;rw[v2]at Io n1 n2;have ln:(dg Y).drop ((dg Y).length-1)=[yt]:=by
  obtain ⟨hi,he⟩:=zS tv;rw[List.drop_eq_getElem_cons hi,he,List.drop_of_length_le (by omega)]
 have fj:(dg (Y*2^s)).length=(dg Y).length:=by
  have a1:=OT.2 n1;have a2 : ¬ (dg (Y*2^s)).length<=(dg Y).length-1:=λ h=>by
   have:=OT.1 h
   omega
  omega
 have Aig:(dg (X*2^s)).length<=(dg X).length+1:=by
  refine OT.2 ?_;have a1:X<4294967296^(dg X).length:=OT.1 (Nat.le_refl _);rw[Nat.pow_succ];have a2:=V0 (s:=s) (by omega);exact Nat.lt_of_lt_of_le (Nat.mul_lt_mul_of_pos_right a1 (Nat.two_pow_pos s)) (Nat.mul_le_mul_left _ a2)
 have zf:(dg X).length<=(dg (X*2^s)).length:=QI (Nat.le_mul_of_pos_right _ (Nat.two_pow_pos s));have pz:=QI (show Y<=X by omega);generalize hx:dg X=x at *;generalize hy:dg Y=y at *;have t3:=λ q=>GL N x q d1 (by omega)
 rw[v1,hx]at t3;(repeat' ((first|(apply AG<;>intro hc<;>try (exfalso;omega))|(apply BM;omega)|apply AY|apply AE|refine AD (t1 _) ?_|refine AD (t2 _) ?_|refine AD (k9 _ _) ?_)<;>conv=>whnf))
 rw[show (y.length:Int)-1=((y.length-1:Nat):Int) by omega];refine iY (k:=y.length-1) (λ_=>rfl) (by omega) ?_;(conv=>whnf)
 rw[ln];(repeat' ((first|(apply BM;omega)|refine AD (lj _) ?_)<;>conv=>whnf))
 rw[show (32:Int)-(n0 yt:Nat)=((s:Nat):Int) by omega];refine GS 1000 N.IZ rfl rfl ?_;have Ep:(s:Int)/32=((0:Nat):Int):=by omega
 have ve:(s:Int)%32=((s:Nat):Int):=by omega
 (repeat' ((first|(apply AG<;>intro hc<;>try (exfalso;omega))|(refine KA ?_ ?_ (λ_ => ?_) (λ_ _ => ?_);omega;omega;all_goals try (exfalso;omega))|apply AY|apply AE|refine AD (t3 _) ?_)<;>conv=>whnf))
 rw[Ep];refine DP (enc:=AL) 0 0 rfl rfl (by omega) ?_;(conv=>whnf)
 skip
 refine GR (λ i _ _=>x.length-i) (λ(i:Nat) (o:List Nat) (c:Nat)=>i<=x.length/\o.length=i/\A2 o/\c<2^s/\val o+4294967296^i*c=val (x.take i)*2^s) (λ i o c=>[(10,.int .i64 i),(9,.int .u64 (c:Int)),(8,.row 107069 0 1 0 i)]) (λ i o c=>[(107069,107069,.rw 1 (o.map AL))]) [] [] 0 [] 0 (by (conv=>whnf);exact ⟨rfl,rfl,rfl⟩) ⟨by omega,rfl,S9,Nat.two_pow_pos _,by simp [val]⟩ ?_;intro i o c ⟨p1,p2,p3,p4,p5⟩ ih;have oa:=V0 (s:=s) (by omega);by_cases hi:i<x.length
 ·obtain ⟨d,hd⟩ : ∃ d,x[i]? = some d:=⟨_,zE hi⟩
  have x6:=d1.at hd;obtain ⟨f1,f2,f3,f4⟩:=SF (s:=s) x6 (by omega);have hr:=YE (show s<=64 by omega) f4;(repeat' ((first|(apply AG<;>intro hc<;>try (exfalso;omega))|(refine QA ?_ (λ_ _ _ => ?_) (λ_ _ _ _ => ?_);omega;all_goals try (exfalso;omega))|(apply B7;omega)|apply AY|(refine BC (by assumption) ?_ rfl ?_;omega)|apply AE)<;>conv=>whnf))
  rw[ve];refine PG (by omega) f4 ?_;(conv=>whnf)
  skip
  refine WU s (Nat.mul_mod_left _ _) p4 (by omega) ?_;(conv=>whnf)
  have j9:=uV (d:=d) (P:=1) (V:=val o) (p:=4294967296^i) (lo:=c) (X:=val (x.take i)) (s:=s) (by rw[Nat.one_mul,Nat.one_mul];exact p5) rfl;have pd:(c+d*2^s)/4294967296<2^s:=by
   rw[Nat.div_lt_iff_lt_mul (by omega)];have:=Nat.mul_le_mul_right (2^s) (show d<=4294967295 by omega)
   omega
  generalize c+d*2^s=t at *;(repeat' ((first|apply FW|apply EF)<;>conv=>whnf))
  refine FV (enc:=AL) (t%4294967296) rfl p2.symm rfl (by omega) (by omega) ?_;(conv=>whnf)
  (repeat' ((first|(apply AR;omega)|apply FD)<;>conv=>whnf))
  rw[show (o++[t%4294967296]).length=i+1 by simp [p2]];refine BL [(107069,107091)] (by (conv=>whnf);exact ⟨rfl,rfl,rfl⟩) (ih (i+1) (o++[t%4294967296]) (t/4294967296) (by omega) ⟨by omega,by simp;omega,p3.append (HM (by omega)),pd,?_⟩);rw[N9,p2,DX hd,Nat.pow_succ];rw[Nat.one_mul,Nat.one_mul]at j9;exact j9
 obtain rfl:i=x.length:=by omega
 clear ih;have ji:c<4294967296:=by omega
 have hOD:A2 (o++[c]):=p3.append (HM ji);have Au:val (o++[c])=X*2^s:=by
  rw[N9,p2,p5,C7 (Nat.le_refl _),v1]
 have As:(o++[c]).length=x.length+1:=by simp [p2]
 (repeat' ((first|(apply AG<;>intro hc<;>try (exfalso;omega))|(apply D8;omega)|apply AY|apply EF|apply AE)<;>conv=>whnf))
 refine FV (enc:=AL) c rfl p2.symm rfl (by omega) (by omega) ?_;(conv=>whnf)
 rw[As];generalize o++[c]=O at *;rw[<-As];clear p3 p4 p5;refine GS 1000 N.HV rfl rfl ?_;(repeat' (apply AE<;>conv=>whnf))
 refine CK (λ n=>n) (λ(n:Nat)=>n<=(O).length /\ ∀ i,n<=i->i<(O).length->(O)[i]? = some 0) (λ n=>[(3,.int .i64 n)]) (λ_=>[]) [] [] (O).length (by (conv=>whnf);exact ⟨rfl,rfl,rfl⟩) ⟨Nat.le_refl _,λ i h1 h2=>by omega⟩ ?_;intro n ⟨p1,p2⟩ ih;rcases n with _|n
 ·(repeat' ((first|(apply AG<;>intro hc<;>try (exfalso;omega))|apply AE)<;>conv=>whnf))
  refine G5 0 (by omega) (by omega) ?_;(conv=>whnf)
  have ag:=GI (l:=O) (by assumption) p1 p2 (Or.inl rfl);have n6:(List.take 0 O).length<=(O).length:=by rw[List.length_take];omega
  clear ih p2;refine W0 (enc:=AL) (by omega) ?_;(conv=>whnf)
  rw[List.drop_zero,Nat.sub_zero];generalize yy:List.take 0 O=T0 at *;refine P7 (enc:=AL) (λ_=>rfl) (by omega) (by omega) ?_;(conv=>whnf)
  refine ⟨rfl,_,rfl,?_⟩;(conv=>whnf)
  (refine ⟨rfl,_,rfl,?_⟩;(conv=>whnf);(repeat' ((first|apply EF|refine AD (Io _) ?_)<;>conv=>whnf));refine FV (enc:=AL) 0 rfl rfl rfl (by omega) (by omega) ?_;(conv=>whnf);rw[Au]at ag;rw[ag];exact BL [] (by (conv=>whnf);exact ⟨rfl,rfl,rfl⟩) (lO N (x:=x) (X:=X) (Y:=Y) (s:=s) (u:=dg (X*2^s)++[0]) (y:=dg (Y*2^s)) h0 ah ((DT _).append (HM (by omega))) (by rw[N9,BP,Nat.mul_zero,Nat.add_zero]) (by simp) (by simp;omega) (DT _) (BP _) (by omega) (by rw[BP,fj];exact n2)))
 ·have e1:((n+1:Nat):Int)-1=n:=by omega
  (repeat' ((first|(apply AG<;>intro hc<;>try (exfalso;omega))|(apply A3;omega)|(apply BM;omega)|(refine Q9 (by assumption) ?_ (λ v hv hb => ?_);omega)|apply AE)<;>conv=>whnf))
  ·rw[e1]
   exact BO [] (ih n (by omega) ⟨by omega,λ i h1 h2=>by
    by_cases h:i=n
    ·subst h
     rw[e1,Int.toNat_natCast]at hv;rw[hv];congr 1;omega
    ·exact p2 i (by omega) h2⟩)
  ·refine G5 (n+1) (by omega) (by omega) ?_
   (conv=>whnf)
   rw[e1,Int.toNat_natCast]at hv;have ag:=GI (l:=O) (by assumption) p1 p2 (Or.inr ⟨_,hv,by omega⟩);have n6:(List.take (n+1) O).length<=(O).length:=by rw[List.length_take];omega
   clear ih p2 hv;(rw[jL (l:=O)];rotate_left;exact rfl;exact rfl);(conv=>whnf)
   refine W0 (enc:=AL) (by omega) ?_;(conv=>whnf)
   rw[List.drop_zero,Nat.sub_zero];generalize yy:List.take (n+1) O=T0 at *;refine P7 (enc:=AL) (λ_=>rfl) (by omega) (by omega) ?_;(conv=>whnf)
   refine ⟨rfl,_,rfl,?_⟩;(conv=>whnf)
   (refine ⟨rfl,_,rfl,?_⟩;(conv=>whnf);(repeat' ((first|apply EF|refine AD (Io _) ?_)<;>conv=>whnf));refine FV (enc:=AL) 0 rfl rfl rfl (by omega) (by omega) ?_;(conv=>whnf);rw[Au]at ag;rw[ag];exact BL [] (by (conv=>whnf);exact ⟨rfl,rfl,rfl⟩) (lO N (x:=x) (X:=X) (Y:=Y) (s:=s) (u:=dg (X*2^s)++[0]) (y:=dg (Y*2^s)) h0 ah ((DT _).append (HM (by omega))) (by rw[N9,BP,Nat.mul_zero,Nat.add_zero]) (by simp) (by simp;omega) (DT _) (BP _) (by omega) (by rw[BP,fj];exact n2)))
theorem Ta (N:c8 L) (a b:List Nat) (q1 q2:Bool) (hA:A2 a) (hB:A2 b) (la:a.length<=274877906944) (lb:b.length<=274877906944) :
  Ev L 110 [.sl q1 (a.map AL),.sl q2 (b.map AL)] (.sl false ((dg (Nat.gcd (val a) (val b))).map AL)):=by
 have t1:=λ q=>GL N a q hA (by omega)
 have t2:=λ q=>GL N b q hB (by omega)
 have l1:=ES hA;have l2:=ES hB;generalize val a=X at *;generalize val b=Y at *;refine Ev.x N.NE rfl rfl ?_;(repeat' ((first|apply AE|refine AD (t1 _) ?_|refine AD (t2 _) ?_)<;>conv=>whnf))
 refine EX (λ_ y=>y) (λ(x y:Nat)=>(dg x).length<=274877906944/\(dg y).length<=274877906944/\Nat.gcd x y=Nat.gcd X Y) (λ x y=>[(0,.sl false ((dg x).map AL)),(1,.sl false ((dg y).map AL))]) (λ_ _=>[]) [] [] X Y (by (conv=>whnf);exact ⟨rfl,rfl,rfl⟩) ⟨by omega,by omega,rfl⟩ ?_;intro x y ⟨p1,p2,p3⟩ ih;rw[<-p3];by_cases h0:y=0
 ·subst h0
  have pt:(dg 0).length=0:=by rw[EY];rfl
  clear ih;rw[Nat.gcd_zero_right];(repeat' ((first|(apply AG<;>intro hc<;>try (exfalso;omega))|apply AY|apply AE)<;>conv=>whnf))
  exact AW rfl (JP _)
 ·have hp:=U1 h0
  have hD:=λ q q'=>nO N (dg x) (dg y) q q' (DT _) (DT _) p1 p2 (by rw[BP];exact h0)
  rw[BP,BP]at hD;have k6:x%y<y:=Nat.mod_lt _ (by omega);have rh:=QI (Nat.le_of_lt k6);(repeat' ((first|(apply AG<;>intro hc<;>try (exfalso;omega))|apply AY|apply AE|refine AD (hD _ _) ?_)<;>conv=>whnf))
  rw[p3];exact BO [] (ih y (x%y) k6 ⟨p2,by omega,by rw[VH];exact p3⟩)
theorem JQ (N:c8 L) (n q:Bool) (m:List Nat) (hm:Sm 274877906944 m):Ev L 111 [.agg (rZ q n m)] (.agg (eZ (zv n m))):=by
 have hT:=λ q=>GL N m q hm.1 (by have:=hm.2;omega)
 have hz:=IO (val m);have ha:=EW n m;refine Ev.x N.NR rfl rfl ?_;cases n
 ·rw[G3]at *
  (repeat' ((first|apply AE|refine AD (hT _) ?_)<;>conv=>whnf))
  exact AW (EK ha.symm (GO (by omega))) (DI _)
 ·rw[PB]at *
  (repeat' ((first|(apply AG<;>intro hc<;>try (exfalso;omega))|apply AY|apply AE|refine AD (hT _) ?_)<;>conv=>whnf))
  ·exact AW (EK ha.symm (N3 (by omega))) (DI _)
  ·exact AW (EK ha.symm (GO (by omega))) (DI _)
theorem cK (N:c8 L) (n q:Bool) (m:List Nat) (hm:Sm 274877906944 m):Ev L 113 [.agg (rZ q n m)] (.int .i64 (q9 (zv n m))):=by
 have hT:=λ q=>JQ N n q m hm
 generalize zv n m=z at *;have hz:=IO z.natAbs;refine Ev.x N.NP rfl rfl ?_;(repeat' ((first|(apply AG<;>intro hc<;>try (exfalso;omega))|apply AY|apply AE|refine AD (hT _) ?_)<;>conv=>whnf))
 ·exact CP (Y4 (by omega))
 ·cases hd:decide (z<0)
  ·(conv=>whnf)
   exact CP (gA (by have:=of_decide_eq_false hd;omega))
  ·(conv=>whnf)
   exact CP (fZ (of_decide_eq_true hd))
theorem cI (N:c8 L) (n q:Bool) (m:List Nat) (hm:Sm 274877906944 m):Ev L 114 [.agg (rZ q n m)] (.agg (eZ (-(zv n m)))):=by
 have hT:=λ q=>JQ N n q m hm
 generalize zv n m=z at *;have hz:=IO z.natAbs;refine Ev.x N.NM rfl rfl ?_;(repeat' ((first|apply AE|refine AD (hT _) ?_)<;>conv=>whnf))
 cases hd:decide (z<0)
 ·have h1:=of_decide_eq_false hd
  (conv=>whnf)
  (repeat' ((first|(apply AG<;>intro hc<;>try (exfalso;omega))|apply AY)<;>conv=>whnf))
  ·exact AW (EK (by omega) (N3 (by omega))) (DI _)
  ·exact AW (EK (by omega) (GO (by omega))) (DI _)
 ·have h1:=of_decide_eq_true hd
  (conv=>whnf)
  skip
  exact AW (EK (by omega) (GO (by omega))) (DI _)
theorem nR (N:c8 L) (n1 n2 q1 q2:Bool) (a b:List Nat) (ha:A2 a) (hb:A2 b) (hl:a.length+b.length<=274877906944):Ev L 118 [.agg (rZ q1 n1 a),.agg (rZ q2 n2 b)] (.agg (eZ (zv n1 a*zv n2 b))):=by
 have h1:=λ q q'=>Tb N a b q q' ha hb (by omega)
 have sa:Sm a.length a:=⟨ha,Nat.le_refl _⟩;have sb:Sm b.length b:=⟨hb,Nat.le_refl _⟩;have hT:=λ n q=>JQ N n q (dg (val a*val b)) ((sa.mul sb rfl).le hl)
 have e : ∀ n,zv n (dg (val a*val b))=bif n then -((val a*val b:Nat):Int) else ((val a*val b:Nat):Int):=λ n=>by unfold zv;rw[BP]
 have e2:zv n1 a*zv n2 b=zv (n1 != n2) (dg (val a*val b)):=by
  rw[e];cases n1<;>cases n2<;>simp [G3,PB,Int.mul_neg,Int.neg_mul]
 rw[e2];refine Ev.x N.NL rfl rfl ?_;cases n1<;>cases n2;all_goals
  (repeat' ((first|apply AE|refine AD (h1 _ _) ?_|refine AD (hT _ _) ?_)<;>conv=>whnf))
  exact AW rfl (DI _)
theorem Te (N:c8 L) (n1 n2 q1 q2:Bool) (a b:List Nat) (ha:Sm 274877906943 a) (hb:Sm 274877906943 b):Ev L 115 [.agg (rZ q1 n1 a),.agg (rZ q2 n2 b)] (.agg (eZ (zv n1 a+zv n2 b))):=by
 have t1:=λ q=>JQ N n1 q a (ha.le (by omega))
 have t2:=λ q=>JQ N n2 q b (hb.le (by omega))
 have s1:Sm 274877906943 (dg (zv n1 a).natAbs):=by rw[EW];exact ha.rq
 have s2:Sm 274877906943 (dg (zv n2 b).natAbs):=by rw[EW];exact hb.rq
 generalize zv n1 a=x at *;generalize zv n2 b=y at *;have h1:=λ q q'=>nN N (dg x.natAbs) (dg y.natAbs) q q' s1.1 s2.1 (by have:=s1.2;omega) (by have:=s2.2;omega)
 have h2:=λ q q'=>cH N (dg x.natAbs) (dg y.natAbs) q q' s1.1 s2.1 (by have:=s1.2;omega) (by have:=s2.2;omega)
 have h3:=λ q q'=>cH N (dg y.natAbs) (dg x.natAbs) q q' s2.1 s1.1 (by have:=s2.2;omega) (by have:=s1.2;omega)
 have k9:=λ q q'=>cG N (dg x.natAbs) (dg y.natAbs) q q' s1.1 s2.1 (by have:=s1.2;omega) (by have:=s2.2;omega)
 rw[BP,BP]at h1 h2 h3 k9;have u1:=λ n q=>JQ N n q (dg (x.natAbs+y.natAbs)) (s1.add s2 (by rw[BP,BP];omega))
 have u2:=λ n q=>JQ N n q (dg (x.natAbs-y.natAbs)) ((s1.low (V:=x.natAbs-y.natAbs) (by rw[BP];omega)).le (by omega))
 have u3:=λ n q=>JQ N n q (dg (y.natAbs-x.natAbs)) ((s2.low (V:=y.natAbs-x.natAbs) (by rw[BP];omega)).le (by omega))
 have e : ∀ n V,zv n (dg V)=bif n then -(V:Int) else (V:Int):=λ n V=>by unfold zv;rw[BP]
 refine Ev.x N.NH rfl rfl ?_;(repeat' ((first|apply AE|refine AD (t1 _) ?_|refine AD (t2 _) ?_)<;>conv=>whnf))
 cases hx:decide (x<0)<;>cases hy:decide (y<0)
 ·have g1:=of_decide_eq_false hx
  have g2:=of_decide_eq_false hy;have hz:x+y=zv false (dg (x.natAbs+y.natAbs)):=by rw[e];simp only[cond_true,cond_false];omega
  rw[hz];(conv=>whnf)
  (repeat' ((first|refine AD (h1 _ _) ?_|refine AD (u1 _ _) ?_)<;>conv=>whnf))
  exact AW rfl (DI _)
 ·have g1:=of_decide_eq_false hx
  have g2:=of_decide_eq_true hy;by_cases k6:x.natAbs<y.natAbs
  ·have hz:x+y=zv true (dg (y.natAbs-x.natAbs)):=by rw[e];simp only[cond_true,cond_false];omega
   rw[hz];rw[<-IL (by omega)]at k9;(conv=>whnf)
   (repeat' ((first|(apply AG<;>intro hc<;>try (exfalso;omega))|refine AD (k9 _ _) ?_|refine AD (h3 _ _) ?_|refine AD (u3 _ _) ?_)<;>conv=>whnf))
   exact AW rfl (DI _)
  ·have hz:x+y=zv false (dg (x.natAbs-y.natAbs)):=by rw[e];simp only[cond_true,cond_false];omega
   rw[hz];have jl:=XD (show y.natAbs<=x.natAbs by omega);generalize C5 (x.natAbs:Nat) (y.natAbs:Nat)=cm at *;(conv=>whnf)
   (repeat' ((first|(apply AG<;>intro hc<;>try (exfalso;omega))|refine AD (k9 _ _) ?_|refine AD (h2 _ _) ?_|refine AD (u2 _ _) ?_)<;>conv=>whnf))
   exact AW rfl (DI _)
 ·have g1:=of_decide_eq_true hx
  have g2:=of_decide_eq_false hy;by_cases k6:x.natAbs<y.natAbs
  ·have hz:x+y=zv false (dg (y.natAbs-x.natAbs)):=by rw[e];simp only[cond_true,cond_false];omega
   rw[hz];rw[<-IL (by omega)]at k9;(conv=>whnf)
   (repeat' ((first|(apply AG<;>intro hc<;>try (exfalso;omega))|refine AD (k9 _ _) ?_|refine AD (h3 _ _) ?_|refine AD (u3 _ _) ?_)<;>conv=>whnf))
   exact AW rfl (DI _)
  ·have hz:x+y=zv true (dg (x.natAbs-y.natAbs)):=by rw[e];simp only[cond_true,cond_false];omega
   rw[hz];have jl:=XD (show y.natAbs<=x.natAbs by omega);generalize C5 (x.natAbs:Nat) (y.natAbs:Nat)=cm at *;(conv=>whnf)
   (repeat' ((first|(apply AG<;>intro hc<;>try (exfalso;omega))|refine AD (k9 _ _) ?_|refine AD (h2 _ _) ?_|refine AD (u2 _ _) ?_)<;>conv=>whnf))
   exact AW rfl (DI _)
 ·have g1:=of_decide_eq_true hx
  have g2:=of_decide_eq_true hy;have hz:x+y=zv true (dg (x.natAbs+y.natAbs)):=by rw[e];simp only[cond_true,cond_false];omega
  rw[hz];(conv=>whnf)
  (repeat' ((first|refine AD (h1 _ _) ?_|refine AD (u1 _ _) ?_)<;>conv=>whnf))
  exact AW rfl (DI _)
theorem Th (N:c8 L) (n1 n2 q1 q2:Bool) (a b:List Nat) (ha:Sm 274877906943 a) (hb:Sm 274877906943 b):Ev L 116 [.agg (rZ q1 n1 a),.agg (rZ q2 n2 b)] (.agg (eZ (zv n1 a-zv n2 b))):=by
 have t2:=λ q=>cI N n2 q b (hb.le (by omega))
 have s2:Sm 274877906943 (dg (-(zv n2 b)).natAbs):=by rw[Int.natAbs_neg,EW];exact hb.rq
 have h1:=λ q q'=>Te N n1 (decide (-(zv n2 b)<0)) q q' a (dg (-(zv n2 b)).natAbs) ha s2
 rw[G4,<-Int.sub_eq_add_neg]at h1;refine Ev.x N.NQ rfl rfl ?_;(repeat' ((first|apply AE|refine AD (t2 _) ?_|refine AD (h1 _ _) ?_)<;>conv=>whnf))
 exact AW rfl (DI _)
theorem Tf (N:c8 L) (n1 n2 q1 q2:Bool) (a b:List Nat) (ha:Sm 274877906943 a) (hb:Sm 274877906943 b):Ev L 117 [.agg (rZ q1 n1 a),.agg (rZ q2 n2 b)] (.int .i64 (q9 (zv n1 a-zv n2 b))):=by
 have h1:=λ q q'=>Th N n1 n2 q q' a b ha hb
 have s1:Sm 274877906943 (dg (zv n1 a).natAbs):=by rw[EW];exact ha.rq
 have s2:Sm 274877906943 (dg (zv n2 b).natAbs):=by rw[EW];exact hb.rq
 have s3:Sm 274877906944 (dg (zv n1 a-zv n2 b).natAbs):=s1.add s2 (by rw[BP,BP];omega);have h2:=λ q=>cK N (decide (zv n1 a-zv n2 b<0)) q (dg (zv n1 a-zv n2 b).natAbs) s3
 rw[G4]at h2;refine Ev.x N.NI rfl rfl ?_;(repeat' ((first|apply AE|refine AD (h1 _ _) ?_|refine AD (h2 _) ?_)<;>conv=>whnf))
 exact CP rfl
theorem cJ (N:c8 L) (z:Int) (hz : -9223372036854775808<=z/\z<=9223372036854775807):Ev L 112 [.int .i64 z] (.agg (eZ z)):=by
 have two : ∀ k:Nat,k<18446744073709551616 -> ∀ n q,Ev L 111 [.agg [.bool n,.sl q [[.int .u32 ((k%4294967296:Nat):Int)],[.int .u32 ((k/4294967296:Nat):Int)]]]] (.agg (eZ (bif n then -(k:Int) else (k:Int)))):=λ k hk n q=>by
  have:=JQ N n q [k%4294967296,k/4294967296] ⟨(bF hk).2,by simp⟩
  unfold zv at this;rw[uY hk]at this;exact this
 refine Ev.x N.NN rfl rfl ?_;by_cases h0:0<=z
 ·obtain ⟨k,rfl⟩:=Int.eq_ofNat_of_zero_le h0
  have hT:=two k (by omega);(repeat' ((first|(apply AG<;>intro hc<;>try (exfalso;omega))|apply FD|(apply B7;omega)|(apply D8;omega)|apply FW|refine I9 rfl rfl ?_|apply AE)<;>conv=>whnf))
  generalize k%4294967296=lo at *;generalize k/4294967296=hi at *;(repeat' (refine AD (hT _ _) ?_<;>conv=>whnf))
  exact AW rfl (DI _)
 ·obtain ⟨k,hk⟩:=Int.eq_ofNat_of_zero_le (show 0 <= -(z+1) by omega)
  have vj:z = -((k+1:Nat):Int):=by omega
  have hT:=two (k+1) (by omega);(repeat' ((first|(apply AG<;>intro hc<;>try (exfalso;omega))|(apply AR;omega)|apply iU|(apply BT.neg;omega)|(apply B7;omega)|apply AE)<;>conv=>whnf))
  rw[show IntKind.u64.wrap (-(z+1)+1)=((k+1:Nat):Int) by rw[IntWalk.u64_in _ (by omega)];omega];rw[vj];generalize k+1=k1 at *;(repeat' ((first|apply FD|(apply D8;omega)|apply FW|refine I9 rfl rfl ?_)<;>conv=>whnf))
  generalize k1%4294967296=lo at *;generalize k1/4294967296=hi at *;(repeat' (refine AD (hT _ _) ?_<;>conv=>whnf))
  exact AW rfl (DI _)
theorem Tg (N:c8 L) (n1 n2 q1 q2:Bool) (a b:List Nat) (ha:Sm 274877906944 a) (hb:Sm 274877906944 b):Ev L 120 [.agg (rZ q1 n1 a),.agg (rZ q2 n2 b)] (.agg (eZ ((Nat.gcd (val a) (val b):Nat):Int))):=by
 have h1:=λ q q'=>Ta N a b q q' ha.1 hb.1 ha.2 hb.2
 refine Ev.x N.NK rfl rfl ?_;(repeat' ((first|apply AE|refine AD (h1 _ _) ?_)<;>conv=>whnf))
 exact AW (EK (by omega) (GO (by omega))) (DI _)
theorem Qv (n1 n2:Bool) (A B:Nat) (hB:B≠0):(bif n1 then -(A:Int) else (A:Int))/(bif n2 then -(B:Int) else (B:Int))=(bif n1 != n2 then -((if n1=true/\A%B≠0 then A/B+1 else A/B:Nat):Int) else ((if n1=true/\A%B≠0 then A/B+1 else A/B:Nat):Int)) /\
  (bif n1 then -(A:Int) else (A:Int))%(bif n2 then -(B:Int) else (B:Int))=((if n1=true/\A%B≠0 then B-A%B else A%B:Nat):Int):=by
 have hBp:(0:Int)<B:=by omega
 have key : ∀ x:Int,x/(bif n2 then -(B:Int) else (B:Int))=(bif n2 then -(x/B) else x/B)/\x%(bif n2 then -(B:Int) else (B:Int))=x%B:=λ x=>by
  cases n2
  ·exact ⟨rfl,rfl⟩
  ·exact ⟨Int.ediv_neg x B,Int.emod_neg x B⟩
 rw[(key _).1,(key _).2];cases n1
 ·have h1:((A:Int))/B=((A/B:Nat):Int):=by simp
  have h2:((A:Int))%B=((A%B:Nat):Int):=by simp
  simp only[cond_false,h1,h2];cases n2<;>simp
 ·have hd:=Nat.div_add_mod A B
  have k6:=Nat.mod_lt A (show B>0 by omega);by_cases h0:A%B=0
  ·have e : -(A:Int)=(B:Int)*(-((A/B:Nat):Int)):=by
    rw[h0,Nat.add_zero]at hd;rw[Int.mul_neg,<-Int.natCast_mul,hd]
   have h1 : -(A:Int)/B = -((A/B:Nat):Int):=by rw[e,Int.mul_ediv_cancel_left _ (by omega)]
   have h2 : -(A:Int)%B=0:=by rw[e,Int.mul_emod_right]
   simp only[cond_true,h1,h2,h0];cases n2<;>simp
  ·have e : -(A:Int)=(B:Int)*(-((A/B+1:Nat):Int))+((B-A%B:Nat):Int):=by
    have h3:(B:Int)*((A/B:Nat):Int)+((A%B:Nat):Int)=A:=by rw[<-Int.natCast_mul,<-Int.natCast_add,hd]
    rw[Int.mul_neg,Int.natCast_add,Int.mul_add];omega
   have h1 : -(A:Int)/B = -((A/B+1:Nat):Int):=by
    rw[e,Int.mul_add_ediv_left _ _ (by omega),Int.ediv_eq_zero_of_lt (by omega) (by omega),Int.add_zero]
   have h2 : -(A:Int)%B=((B-A%B:Nat):Int):=by
    rw[e,Int.mul_add_emod_self_left,Int.emod_eq_of_lt (by omega) (by omega)]
   simp only[cond_true,h1,h2];cases n2<;>simp [h0]
theorem nQ (N:c8 L) (n1 n2 q1 q2:Bool) (a b:List Nat) (ha:Sm 274877906943 a) (hb:Sm 274877906943 b) (h0:zv n2 b≠0):Ev L 119 [.agg (rZ q1 n1 a),.agg (rZ q2 n2 b)] (.g8 [.agg (eZ (zv n1 a/zv n2 b)),.agg (eZ (zv n1 a%zv n2 b)),.int .i64 0]):=by
 have t1:=λ q=>JQ N n1 q a (ha.le (by omega))
 have t2:=λ q=>JQ N n2 q b (hb.le (by omega))
 have s1:Sm 274877906943 (dg (zv n1 a).natAbs):=by rw[EW];exact ha.rq
 have s2:Sm 274877906943 (dg (zv n2 b).natAbs):=by rw[EW];exact hb.rq
 generalize zv n1 a=x at *;generalize zv n2 b=y at *;have yx:=λ q q'=>nO N (dg x.natAbs) (dg y.natAbs) q q' s1.1 s2.1 (by have:=s1.2;omega) (by have:=s2.2;omega) (by rw[BP];omega)
 rw[BP,BP]at yx;obtain ⟨e1,e2⟩:=Qv (decide (x<0)) (decide (y<0)) x.natAbs y.natAbs (by omega);have hx:(bif decide (x<0) then -(x.natAbs:Int) else (x.natAbs:Int))=x:=by have:=G4 x;unfold zv at this;rw[BP]at this;exact this
 have hy:(bif decide (y<0) then -(y.natAbs:Int) else (y.natAbs:Int))=y:=by have:=G4 y;unfold zv at this;rw[BP]at this;exact this
 rw[hx,hy]at e1 e2;rw[e1,e2];have l1:=s1.2;have l2:=s2.2;have hq:Sm 274877906943 (dg (x.natAbs/y.natAbs)):=s1.low (by rw[BP];exact Nat.div_le_self _ _);have hr:Sm 274877906943 (dg (x.natAbs%y.natAbs)):=s2.low (by rw[BP];exact Nat.le_of_lt (Nat.mod_lt _ (by omega)));have hrz:=IO (x.natAbs%y.natAbs);have gy:Ev L 103 [.sl false ((dg (x.natAbs/y.natAbs)).map AL),.sl true [[.int .u32 1]]] (.sl false ((dg (x.natAbs/y.natAbs+1)).map AL)):=by
  have:=nN N (dg (x.natAbs/y.natAbs)) [1] false true (DT _) (HM (by omega)) (by have:=hq.2;omega) (by simp)
  rw[BP,show val [1]=1 from rfl]at this;exact this
 have uz:Sm 274877906944 (dg (x.natAbs/y.natAbs+1)):=hq.add (b:=[1]) (gD (by omega) (by omega)) (by rw[BP];simp [val]);have Cu:=λ q q'=>cH N (dg y.natAbs) (dg (x.natAbs%y.natAbs)) q q' s2.1 hr.1 (by omega) (by have:=hr.2;omega)
 rw[BP,BP]at Cu;have u1:=λ n q=>JQ N n q (dg (x.natAbs/y.natAbs)) (hq.le (by omega))
 have u2:=λ n q=>JQ N n q (dg (x.natAbs/y.natAbs+1)) uz
 have ez : ∀ n V,zv n (dg V)=bif n then -(V:Int) else (V:Int):=λ n V=>by unfold zv;rw[BP]
 have fin : ∀ (z:Int) (V:Nat),AJ (.g8 [.agg (eZ z),.agg [.bool false,.sl false ((dg V).map AL)],.int .i64 0]) (.g8 [.agg (eZ z),.agg (eZ (V:Int)),.int .i64 0]):=λ z V=>by
  have e3:AV.agg (eZ (V:Int)) = .agg [.bool false,.sl false ((dg V).map AL)]:=(EK (by omega) (GO (by omega))).symm;rw[e3];refine AW rfl ?_;simp only[A4,CB,and_true,true_and];exact ⟨C0 _,C0 _⟩
 clear e1 e2 hx hy;generalize x.natAbs/y.natAbs=qq at *;generalize x.natAbs%y.natAbs=rr at *;refine Ev.x N.NJ rfl rfl ?_;(repeat' ((first|(apply AG<;>intro hc<;>try (exfalso;omega))|apply AE|refine AD (t1 _) ?_|refine AD (t2 _) ?_|refine AD (yx _ _) ?_)<;>conv=>whnf))
 generalize decide (x<0)=p at *;generalize decide (y<0)=r at *;cases p
 ·rw[if_neg (by simp),if_neg (by simp),<-ez]
  cases r;all_goals
   (conv=>whnf)
   (repeat' (refine AD (u1 _ _) ?_<;>conv=>whnf))
   exact fin _ _
 ·by_cases lq:rr=0
  ·rw[if_neg (by simp [lq]),if_neg (by simp [lq]),<-ez]
   cases r;all_goals
    (conv=>whnf)
    (repeat' ((first|(apply AG<;>intro hc<;>try (exfalso;omega))|apply AY|refine AD (u1 _ _) ?_)<;>conv=>whnf))
    exact fin _ _
  ·rw[if_pos ⟨rfl,lq⟩,if_pos ⟨rfl,lq⟩,<-ez]
   cases r;all_goals
    (conv=>whnf)
    (repeat' ((first|(apply AG<;>intro hc<;>try (exfalso;omega))|apply AY|refine FF rfl ?_|refine AD (gy) ?_|refine AD (Cu _ _) ?_|refine AD (u2 _ _) ?_)<;>conv=>whnf))
    exact fin _ _
end Go.b7

namespace Go.b7
abbrev rQ (q1 q2 n:Bool) (m d:List Nat):List AV:=[.bool n,.sl q1 (m.map AL),.sl q2 (d.map AL)]
abbrev eQ (x:Rat):List AV:=rQ false false (decide (x.num<0)) (dg x.num.natAbs) (dg x.den)
def qv (n:Bool) (m d:List Nat):Rat:=mkRat (zv n m) (val d)
theorem F5 (x:Rat):qv (decide (x.num<0)) (dg x.num.natAbs) (dg x.den)=x:=by
 unfold qv;rw[G4,BP,Rat.mkRat_self]
theorem oR {d:Nat} (z:Nat) (hd:d≠0):0<Nat.gcd d z:=Nat.gcd_pos_of_pos_left z (by omega)
theorem dZ {z:Int} {d:Nat} (hd:d≠0):(mkRat z d).num.natAbs=z.natAbs/Nat.gcd d z.natAbs/\(mkRat z d).den=d/Nat.gcd d z.natAbs/\decide ((mkRat z d).num<0)=decide (z<0):=by
 have hg:=oR z.natAbs hd;have h1:=Rat.num_mkRat z d;have h2:=Rat.den_mkRat z d;rw[if_neg hd]at h1 h2;rw[h1,h2];obtain ⟨k,hk⟩:=Nat.gcd_dvd_right d z.natAbs;generalize hG:Nat.gcd d z.natAbs=g at *;have hz:z=(g:Int)*(z.sign*k):=by
  rw[<-Int.mul_assoc,Int.mul_comm (g:Int),Int.mul_assoc,<-Int.natCast_mul,<-hk,Int.sign_mul_natAbs]
 have e1:z/(g:Int)=z.sign*k:=by
  rw[hz,Int.mul_ediv_cancel_left _ (by omega),<-hz]
 refine ⟨?_,rfl,?_⟩
 ·rw[e1,Int.natAbs_mul,hk,Nat.mul_div_cancel_left _ hg]
  by_cases h0:z=0
  ·subst h0
   have:k=0:=by
    have h5:g*k=0:=hk.symm;rcases Nat.mul_eq_zero.1 h5 with h|h
    ·omega
    ·exact h
   subst this;simp
  ·rw[Int.natAbs_sign_of_ne_zero h0,Nat.one_mul];simp
 ·congr 1
  rw[eq_iff_iff];rw[Int.ediv_lt_iff_lt_mul (by omega),Int.zero_mul]
theorem DH (x:Rat):A4 (.agg (eQ x)):=by
 simp only[A4,CB,and_true,true_and];exact ⟨C0 _,C0 _⟩
theorem UU (b w:Bool) (m d:List Nat):A4 (.agg [.bool b,.sl false (m.map AL),.sl false (d.map AL),.bool w]):=by
 simp only[A4,CB,and_true,true_and];exact ⟨C0 _,C0 _⟩
theorem Ow (b:Bool) (m:List Nat):A4 (.agg [.bool b,.sl false (m.map AL)]):=by
 simp only[A4,CB,and_true,true_and];exact C0 _
theorem XA (b:Bool) (m d:List Nat):A4 (.agg [.bool b,.sl false (m.map AL),.sl false (d.map AL)]):=by
 simp only[A4,CB,and_true,true_and];exact ⟨C0 _,C0 _⟩
theorem VG (q:Bool) (l:List Nat):UI (.sl q (l.map AL)):=by
 intro e he c hc;obtain ⟨x,_,rfl⟩:=List.mem_map.1 he;simp at hc;subst hc;rfl
theorem ZU {r:AV} {K:AV->Prop} (h:IE r) (hk:K (uc r)):BB r K:=⟨Or.inl h,by rw[dQ h];exact hk⟩
theorem ZT {r:AV} {K:AV->Prop} (h : ¬ IE r) (hd:Q4 r) (hk:K (KG r)):BB r K:=⟨Or.inr hd,by rw[dP h];exact hk⟩
theorem G8 {b w q1 q2:Bool} {m d:List Nat} {K:AV->Prop} (hk:K (.agg [.bool b,.sl true (m.map AL),.sl true (d.map AL),.bool w])):BB (.agg [.bool b,.sl q1 (m.map AL),.sl q2 (d.map AL),.bool w]) K:=by
 refine ZU ?_ hk;intro c hc;simp only[List.mem_cons,List.not_mem_nil,or_false]at hc;rcases hc with rfl|rfl|rfl|rfl
 ·trivial
 ·exact VG _ _
 ·exact VG _ _
 ·trivial
theorem iL {b q1 q2:Bool} {m d:List Nat} {K:AV->Prop} (hk:K (.agg [.bool b,.sl true (m.map AL),.sl true (d.map AL)])):BB (.agg [.bool b,.sl q1 (m.map AL),.sl q2 (d.map AL)]) K:=by
 refine ZU ?_ hk;intro c hc;simp only[List.mem_cons,List.not_mem_nil,or_false]at hc;rcases hc with rfl|rfl|rfl
 ·trivial
 ·exact VG _ _
 ·exact VG _ _
theorem Q7 {b q1:Bool} {m:List Nat} {K:AV->Prop} (hk:K (.agg [.bool b,.sl true (m.map AL)])):BB (.agg [.bool b,.sl q1 (m.map AL)]) K:=by
 refine ZU ?_ hk;intro c hc;simp only[List.mem_cons,List.not_mem_nil,or_false]at hc;rcases hc with rfl|rfl
 ·trivial
 ·exact VG _ _
theorem dX {a b:Int} {d e:Nat} (hd:d≠0) (he:e≠0):mkRat a d+mkRat b e=mkRat (a*e+b*d) (d*e):=Rat.mkRat_add_mkRat a b hd he
theorem qP {a b:Int} {d:Nat} (hd:d≠0):mkRat a d+mkRat b d=mkRat (a+b) d:=by
 rw[dX hd hd,<-Int.add_mul,Rat.mkRat_mul_right hd]
theorem qR (a b:Int) (d e:Nat):mkRat a d*mkRat b e=mkRat (a*b) (d*e):=Rat.mkRat_mul_mkRat a b d e
theorem qS (a:Int):mkRat a 1=(a:Rat):=by
 have h:=Rat.mkRat_self (a:Rat);rw[Rat.num_intCast,Rat.den_intCast]at h;exact h
theorem dY {z:Int} {d:Nat} (hd:d≠0):mkRat z d=0↔z=0:=Rat.mkRat_eq_zero hd
theorem qT {z:Int} {d:Nat} (hd:d≠0):q9 (mkRat z d).num=q9 z:=by
 obtain ⟨_,_,h⟩:=dZ (z:=z) hd;have h0:(mkRat z d).num=0↔z=0:=by rw[Rat.num_eq_zero,dY hd]
 have h1:(mkRat z d).num<0↔z<0:=by simpa using h
 unfold q9;by_cases a:z<0
 ·rw[if_pos a,if_pos (h1.2 a)]
 ·rw[if_neg a,if_neg (λ h=>a (h1.1 h))]
  by_cases b:z=0
  ·rw[if_neg (by omega),if_neg (by have:=h0.2 b;omega)]
  ·rw[if_pos (by omega),if_pos (by have:=mt h0.1 b;have:=mt h1.1 a;omega)]
theorem Zp {a b:Int} {d e:Nat} (hd:d≠0) (he:e≠0) (hb:b≠0):mkRat a d/mkRat b e=mkRat (b.sign*(a*e)) (d*b.natAbs):=by
 have hbn:b.natAbs≠0:=by omega
 have h1:mkRat b e≠0:=λ h=>hb ((dY he).1 h)
 have key:mkRat (b.sign*(a*e)) (d*b.natAbs)*mkRat b e=mkRat a d:=by
  rw[qR];have e1:b.sign*(a*e)*b=a*((b.natAbs*e:Nat):Int):=by
   have:=Int.sign_mul_self b
   rw[Int.natCast_mul,<-this];grind
  rw[e1,show d*b.natAbs*e=d*(b.natAbs*e) by rw[Nat.mul_assoc]];exact Rat.mkRat_mul_right (Nat.mul_ne_zero hbn he)
 rw[<-key,Rat.mul_div_cancel h1]
theorem vK {x y:Int} (hy:y≠0):zv (decide (x<0) != decide (y<0)) (dg x.natAbs)=y.sign*x:=by
 unfold zv;rw[BP];rcases Int.lt_or_gt_of_ne hy with h|h
 ·rw[Int.sign_eq_neg_one_of_neg h]
  by_cases hx:x<0
  ·simp [hx,h];omega
  ·simp [hx,h];omega
 ·rw[Int.sign_eq_one_of_pos h]
  by_cases hx:x<0
  ·simp [hx,show ¬ y<0 by omega];omega
  ·simp [hx,show ¬ y<0 by omega];omega
end Go.b7

namespace Go.b7
open F
attribute [local irreducible] AA AF AM AC BT AQ A5 AZ BG A9 BS CN BH AU BI BR AB A1 AJ pw B1 BQ B9 CM CH BF BV BB B5
variable {L:Lib}
set_option maxHeartbeats 4000000
theorem lI:dg 1=[1]:=by rw[JC (by omega)];simp [EY]
theorem jK:AV.agg [.bool false,.sl false [],.sl false [[.int .u32 1]]] = .agg (eQ 0):=by
 show _=AV.agg (rQ _ _ _ _ _);rw[Rat.zero_num,Rat.zero_den,lI,show (0:Int).natAbs=0 from rfl,EY];rfl
theorem Oq {x y:Int} (hy:y≠0):(Rat.divInt x y).num=(if y<0 then -(x/((Nat.gcd x.natAbs y.natAbs:Nat):Int)) else x/((Nat.gcd x.natAbs y.natAbs:Nat):Int))/\(Rat.divInt x y).den=(y/((Nat.gcd x.natAbs y.natAbs:Nat):Int)).natAbs:=by
 have h1:=Rat.num_divInt x y;have h2:=Rat.den_divInt x y;rw[if_neg hy]at h2;have hg:Int.gcd y x=Nat.gcd x.natAbs y.natAbs:=by rw[Int.gcd,Nat.gcd_comm]
 rw[hg]at h1 h2;have Hi:0<Nat.gcd x.natAbs y.natAbs:=Nat.gcd_pos_of_pos_right _ (by omega);have dx:((Nat.gcd x.natAbs y.natAbs:Nat):Int) ∣ x:=Int.ofNat_dvd_left.2 (Nat.gcd_dvd_left _ _);have dy:((Nat.gcd x.natAbs y.natAbs:Nat):Int) ∣ y:=Int.ofNat_dvd_left.2 (Nat.gcd_dvd_right _ _);generalize Nat.gcd x.natAbs y.natAbs=g at *;rw[h1,h2];obtain ⟨u,rfl⟩:=dx;obtain ⟨v,rfl⟩:=dy;have xo:(g:Int)≠0:=by omega
 refine ⟨?_,?_⟩
 ·rw[Int.mul_ediv_cancel_left _ xo]
  split
  ·rename_i h
   rw[Int.sign_eq_neg_one_of_neg h,show -1*((g:Int)*u)=g*(-u) by rw[Int.mul_neg];omega,Int.mul_ediv_cancel_left _ xo]
  ·rw[Int.sign_eq_one_of_pos (by omega),Int.one_mul,Int.mul_ediv_cancel_left _ xo]
 ·rw[Int.mul_ediv_cancel_left _ xo,Int.natAbs_mul,Int.natAbs_natCast,Nat.mul_div_cancel_left _ Hi]
theorem nW (N:c8 L) (n1 n2 q1 q2:Bool) (a b:List Nat) (ha:Sm 274877906943 a) (hb:Sm 274877906943 b):Ev L 121 [.agg (rZ q1 n1 a),.agg (rZ q2 n2 b)] (.agg (eQ (Rat.divInt (zv n1 a) (zv n2 b)))):=by
 have t1:=λ q=>cK N n1 q a (ha.le (by omega))
 have t2:=λ q=>cK N n2 q b (hb.le (by omega))
 by_cases h1:zv n1 a=0
 ·rw[h1,Rat.zero_divInt,<-jK]
  rw[h1,<-Y4 rfl]at t1;refine Ev.x N.I0 rfl rfl ?_;(repeat' ((first|(apply AG<;>intro hc<;>try (exfalso;omega))|refine FF rfl ?_|apply AE|refine AD (t1 _) ?_)<;>conv=>whnf))
  exact AW rfl (XA false [] [1])
 have s1:q9 (zv n1 a)≠0:=by unfold q9;split<;>(try split)<;>omega
 by_cases h2:zv n2 b=0
 ·rw[h2,Rat.divInt_zero,<-jK]
  rw[h2,<-Y4 rfl]at t2;generalize q9 (zv n1 a)=sg at *;refine Ev.x N.I0 rfl rfl ?_;(repeat' ((first|(apply AG<;>intro hc<;>try (exfalso;omega))|refine FF rfl ?_|apply AE|refine AD (t1 _) ?_|refine AD (t2 _) ?_)<;>conv=>whnf))
  exact AW rfl (XA false [] [1])
 have s2:q9 (zv n2 b)≠0:=by unfold q9;split<;>(try split)<;>omega
 obtain ⟨p1,p2⟩:=Oq (x:=zv n1 a) h2;have hG:=λ q q'=>Tg N n1 n2 q q' a b (ha.le (by omega)) (hb.le (by omega))
 have hle:Nat.gcd (val a) (val b)<=val b:=Nat.gcd_le_right _ (by have:=EW n2 b;omega);have Hi:0<Nat.gcd (val a) (val b):=Nat.gcd_pos_of_pos_right _ (by have:=EW n2 b;omega);have sg:Sm 274877906943 (dg (Nat.gcd (val a) (val b))):=hb.low hle;rw[EW,EW]at p1 p2;have Kx:decide (((Nat.gcd (val a) (val b):Nat):Int)<0)=false:=by simp
 have Mz:Sm 274877906943 (dg (((Nat.gcd (val a) (val b):Nat):Int)).natAbs):=by rw[Int.natAbs_natCast];exact sg
 have zg:zv (decide (((Nat.gcd (val a) (val b):Nat):Int)<0)) (dg (((Nat.gcd (val a) (val b):Nat):Int)).natAbs)=((Nat.gcd (val a) (val b):Nat):Int):=G4 _;have nf:=λ q q'=>nQ N n1 _ q q' a _ ha Mz (by rw[zg];omega)
 have ng:=λ q q'=>nQ N n2 _ q q' b _ hb Mz (by rw[zg];omega)
 rw[zg]at nf ng;have qf:Sm 274877906943 (dg (zv n1 a/((Nat.gcd (val a) (val b):Nat):Int)).natAbs):=ha.low (by
  have:(zv n1 a/((Nat.gcd (val a) (val b):Nat):Int)).natAbs<=(zv n1 a).natAbs:=Int.natAbs_ediv_le_natAbs _ _
  rw[EW]at this;exact this)
 have xo:0<((Nat.gcd (val a) (val b):Nat):Int):=by omega
 generalize ((Nat.gcd (val a) (val b):Nat):Int)=g at *;generalize zv n1 a=x at *;generalize zv n2 b=y at *;generalize q9 x=sx at *;generalize q9 y=sy at *;have hN:=λ q=>cI N (decide (x/g<0)) q (dg (x/g).natAbs) (qf.le (by omega))
 rw[G4]at hN;have Ey:decide (y/g<0)=decide (y<0):=by
  congr 1;rw[eq_iff_iff,Int.ediv_lt_iff_lt_mul (by omega),Int.zero_mul]
 refine Ev.x N.I0 rfl rfl ?_;(repeat' ((first|(apply AG<;>intro hc<;>try (exfalso;omega))|apply AE|refine AD (t1 _) ?_|refine AD (t2 _) ?_|refine AD (hG _ _) ?_|refine AD (nf _ _) ?_|refine AD (ng _ _) ?_)<;>conv=>whnf))
 cases Ma:decide (y/g<0)
 ·rw[Ma]at Ey
  rw[if_neg (of_decide_eq_false Ey.symm)]at p1;(conv=>whnf)
  skip
  refine AW ?_ (DH _);show _=AV.agg (rQ _ _ _ _ _);rw[p1,p2]
 ·rw[Ma]at Ey
  rw[if_pos (of_decide_eq_true Ey.symm)]at p1;(conv=>whnf)
  (repeat' (refine AD (hN _) ?_<;>conv=>whnf))
  refine AW ?_ (DH _);show _=AV.agg (rQ _ _ _ _ _);rw[p1,p2]
theorem Ot {z:Int} {d:List Nat}:Rat.divInt z (zv false d)=mkRat z (val d):=by rw[G3,Rat.divInt_ofNat]
def xM (n:Bool) (m d:List Nat) (n':Bool) (m' d':List Nat) (k:Nat):Prop:=Sm k m'/\Sm k d'/\val d'≠0/\qv n m d=mkRat (zv n' m') (val d')
theorem kJ (n:Bool) (m d:List Nat):A4 (.g8 [.agg (rZ false n m),.agg (rZ false false d)]):=by
 simp only[A4,CB,and_true,true_and];exact ⟨C0 _,C0 _⟩
theorem cF (N:c8 L) (n q:Bool) (m d:List Nat) (k:Nat) (hk:1<=k/\k<=274877906943) (hm:Sm k m) (hd:Sm k d) : ∃ n' m' d',Ev L 122 [.agg (rQ false q n m d)] (.g8 [.agg (rZ false n' m'),.agg (rZ false false d')])/\xM n m d n' m' d' k:=by
 have t1:=λ q=>GL N d q hd.1 (by have:=hd.2;omega)
 have hl:=IO (val d);by_cases h0:val d=0
 ·refine ⟨false,[],[1],?_,tC _,gD hk.1 (by omega),by decide,by unfold qv;rw[h0,Rat.mkRat_zero,vJ,Rat.zero_mkRat]⟩
  refine Ev.x N.J0 rfl rfl ?_;(repeat' ((first|(apply AG<;>intro hc<;>try (exfalso;omega))|apply AY|refine FF rfl ?_|apply AE|refine AD (t1 _) ?_)<;>conv=>whnf))
  exact AW rfl (kJ false [] [1])
 ·refine ⟨n,m,dg (val d),?_,hm,hd.rq,by rw[BP];exact h0,by rw[BP];rfl⟩
  refine Ev.x N.J0 rfl rfl ?_;(repeat' ((first|(apply AG<;>intro hc<;>try (exfalso;omega))|apply AY|apply AE|refine AD (t1 _) ?_)<;>conv=>whnf))
  exact AW rfl (kJ _ _ _)
theorem Tk (N:c8 L) (n q:Bool) (m d:List Nat) (hm:Sm 274877906943 m) (hd:Sm 274877906943 d):Ev L 123 [.agg (rQ false q n m d)] (.agg (eQ (qv n m d))):=by
 obtain ⟨n',m',d',hp,s1,s2,s3,s4⟩:=cF N n q m d 274877906943 (by omega) hm hd;have hr:=λ q q'=>nW N n' false q q' m' d' s1 s2
 rw[Ot,<-s4]at hr;refine Ev.x N.NW rfl rfl ?_;(repeat' ((first|apply AE|refine AD (hp) ?_|refine AD (hr _ _) ?_)<;>conv=>whnf))
 exact AW rfl (DH _)
theorem yY (z:Int):AV.agg [.bool (decide (z<0)),.sl false ((dg z.natAbs).map AL),.sl false [[.int .u32 1]]] = .agg (eQ (z:Rat)):=by
 show _=AV.agg (rQ _ _ _ _ _);rw[Rat.num_intCast,Rat.den_intCast,lI];rfl
theorem nS (N:c8 L) (z:Int) (hz : -9223372036854775808<=z/\z<=9223372036854775807):Ev L 124 [.int .i64 z] (.agg (eQ (z:Rat))):=by
 have h1:=cJ N z hz;refine Ev.x N.NV rfl rfl ?_;(repeat' ((first|refine FF rfl ?_|apply AE|refine AD (h1) ?_)<;>conv=>whnf))
 exact AW (yY z) (DH _)
theorem tD {z:Int} (hz : -9223372036854775808<=z/\z<=9223372036854775808):Sm 2 (dg z.natAbs):=Sm.dg (by omega)
theorem Tj (N:c8 L) (x y:Int) (hx : -9223372036854775808<=x/\x<=9223372036854775807) (hy : -9223372036854775808<=y/\y<=9223372036854775807):Ev L 125 [.int .i64 x,.int .i64 y] (.agg (eQ (Rat.divInt x y))):=by
 have h1:=cJ N x hx;have h2:=cJ N y hy;have hr:=λ q q'=>nW N (decide (x<0)) (decide (y<0)) q q' _ _ ((tD (z:=x) (by omega)).le (by omega)) ((tD (z:=y) (by omega)).le (by omega))
 rw[G4,G4]at hr;refine Ev.x N.NT rfl rfl ?_;(repeat' ((first|apply AE|refine AD (h1) ?_|refine AD (h2) ?_|refine AD (hr _ _) ?_)<;>conv=>whnf))
 exact AW rfl (DH _)
theorem tF {k l:Nat} {n1 n2:Bool} {a b:List Nat} (ha:Sm k a) (hb:Sm l b):Sm (k+l) (dg (zv n1 a*zv n2 b).natAbs):=ha.mul hb (by rw[Int.natAbs_mul,EW,EW])
theorem qQ {a b:Int} {d e:Nat} (hd:d≠0) (he:e≠0):q9 (a*e-b*d)=q9 (mkRat a d-mkRat b e).num:=by
 have h:mkRat a d-mkRat b e=mkRat (a*e-b*d) (d*e):=by
  rw[Rat.sub_eq_add_neg,Rat.neg_mkRat,dX hd he,Int.neg_mul,<-Int.sub_eq_add_neg]
 rw[h,qT (Nat.mul_ne_zero hd he)]
theorem Ti (N:c8 L) (k:Nat) (hk:1<=k/\k<=68719476736) (n1 n2 q2 q4:Bool) (m1 d1 m2 d2:List Nat) (iw:Sm k m1) (nk:Sm k d1) (fh:Sm k m2) (re:Sm k d2) :
  Ev L 127 [.agg (rQ false q2 n1 m1 d1),.agg (rQ false q4 n2 m2 d2)] (.int .i64 (q9 (qv n1 m1 d1-qv n2 m2 d2).num)):=by
 obtain ⟨a1,a2,a3,da,s1,s2,s3,s5⟩:=cF N n1 q2 m1 d1 k (by omega) iw nk;obtain ⟨b1,b2,b3,ae,t1,t2,t3,t5⟩:=cF N n2 q4 m2 d2 k (by omega) fh re;have l1:=s1.2;have l2:=s2.2;have l3:=t1.2;have l4:=t2.2;rw[s5,t5,<-qQ s3 t3,<-G3 b3,<-G3 a3];have gd:=λ q q'=>nR N a1 false q q' a2 b3 s1.1 t2.1 (by omega)
 have il:=λ q q'=>nR N b1 false q q' b2 a3 t1.1 s2.1 (by omega)
 have g1:Sm (k+k) (dg (zv a1 a2*zv false b3).natAbs):=tF s1 t2;have g2:Sm (k+k) (dg (zv b1 b2*zv false a3).natAbs):=tF t1 s2;have hC:=λ q q'=>Tf N (decide (zv a1 a2*zv false b3<0)) (decide (zv b1 b2*zv false a3<0)) q q' _ _ (g1.le (by omega)) (g2.le (by omega))
 rw[G4,G4]at hC;refine Ev.x N.NS rfl rfl ?_;(repeat' ((first|apply AE|refine AD (da) ?_|refine AD (ae) ?_|refine AD (gd _ _) ?_|refine AD (il _ _) ?_|refine AD (hC _ _) ?_)<;>conv=>whnf))
 exact CP rfl
end Go.b7

namespace Go.b7
def Bt (k:Nat) (x:Rat):Prop:=x.num.natAbs<=2^k/\x.den<=2^k
theorem Bt.le {k l:Nat} {x:Rat} (h:Bt k x) (hl:k<=l):Bt l x:=by
 have:=Nat.pow_le_pow_right (show 0<2 by omega) hl
 exact ⟨Nat.le_trans h.1 this,Nat.le_trans h.2 this⟩
theorem Bt.mk {k:Nat} {z:Int} {d:Nat} (hz:z.natAbs<=2^k) (hd:d<=2^k):Bt k (mkRat z d):=by
 by_cases h0:d=0
 ·subst h0
  rw[Rat.mkRat_zero];exact ⟨by simp,by simp;exact Nat.one_le_two_pow⟩
 ·obtain ⟨e1,e2,_⟩:=dZ (z:=z) h0
  unfold Bt;rw[e1,e2];exact ⟨Nat.le_trans (Nat.div_le_self _ _) hz,Nat.le_trans (Nat.div_le_self _ _) hd⟩
theorem Bt.add {k l:Nat} {x y:Rat} (hx:Bt k x) (hy:Bt l y):Bt (k+l+1) (x+y):=by
 rw[Rat.add_def'];refine Bt.mk ?_ ?_
 ·have h1:(x.num*y.den).natAbs<=2^k*2^l:=by rw[Int.natAbs_mul,Int.natAbs_natCast];exact Nat.mul_le_mul hx.1 hy.2
  have h2:(y.num*x.den).natAbs<=2^l*2^k:=by rw[Int.natAbs_mul,Int.natAbs_natCast];exact Nat.mul_le_mul hy.1 hx.2
  rw[Nat.mul_comm (2^l)]at h2;rw[Nat.pow_succ,Nat.pow_add];have h3:=Int.natAbs_add_le (x.num*y.den) (y.num*x.den);omega
 ·rw[Nat.pow_succ,Nat.pow_add]
  have:=Nat.mul_le_mul hx.2 hy.2
  omega
theorem Bt.mul {k l:Nat} {x y:Rat} (hx:Bt k x) (hy:Bt l y):Bt (k+l) (x*y):=by
 rw[Rat.mul_def'];refine Bt.mk ?_ ?_
 ·rw[Int.natAbs_mul,Nat.pow_add];exact Nat.mul_le_mul hx.1 hy.1
 ·rw[Nat.pow_add];exact Nat.mul_le_mul hx.2 hy.2
theorem Bt.zero (k:Nat):Bt k 0:=⟨by simp,by simp;exact Nat.one_le_two_pow⟩
theorem Bt.one (k:Nat):Bt k 1:=⟨by simp;exact Nat.one_le_two_pow,by simp;exact Nat.one_le_two_pow⟩
theorem Bt.Jr {k n:Nat} {x:Rat} (h:Bt k x) (hn:k<32*n):Sm n (dg x.num.natAbs)/\Sm n (dg x.den):=by
 have e:2^k<4294967296^n:=by
  rw[show 4294967296=2^32 from rfl,<-Nat.pow_mul];exact (Nat.pow_lt_pow_iff_right (by omega)).2 hn
 exact ⟨Sm.dg (Nat.lt_of_le_of_lt h.1 e),Sm.dg (Nat.lt_of_le_of_lt h.2 e)⟩
def Bs (k:Nat) (l:List Rat):Prop := ∀ x∈l,Bt k x
theorem Bs.at {k:Nat} {l:List Rat} (h:Bs k l) {i:Nat} {x:Rat} (hx:l[i]? = some x):Bt k x:=h x (zM hx)
theorem Bs.le {k j:Nat} {l:List Rat} (h:Bs k l) (hj:k<=j):Bs j l:=λ x hx=>(h x hx).le hj
theorem Bs.take {k:Nat} {l:List Rat} (h:Bs k l) (n:Nat):Bs k (l.take n):=λ x hx=>h x (List.mem_of_mem_take hx)
def CE:List Rat->List Rat->Rat
 | x::xs,y::ys=>x*y+CE xs ys
 | _,_=>0
theorem lY (l:List Rat):CE l []=0:=by cases l<;>rfl
theorem lZ : ∀ {a b:List Rat} {x y:Rat},a.length=b.length->CE (a++[x]) (b++[y])=CE a b+x*y
 | [],[],x,y,_=>by show x*y+0=0+x*y;rw[Rat.add_zero,Rat.zero_add]
 | p::a,q::b,x,y,h=>by
  show p*q+CE (a++[x]) (b++[y])=p*q+CE a b+x*y;rw[lZ (by simpa using h),Rat.add_assoc]
theorem mA {a b:List Rat} {i:Nat} {x y:Rat} (hx:a[i]? = some x) (hy:b[i]? = some y):CE (a.take (i+1)) (b.take (i+1))=CE (a.take i) (b.take i)+x*y:=by
 have h1:=(zS hx).1;have h2:=(zS hy).1;rw[List.take_add_one,List.take_add_one,hx,hy,Option.toList_some,Option.toList_some,lZ (by rw[List.length_take,List.length_take];omega)]
theorem Qn {a b:List Rat} {n:Nat} (h:a.length=n):CE (a.take n) (b.take n)=CE a b:=by
 subst h;rw[List.take_of_length_le (Nat.le_refl _)];induction a generalizing b with
 | nil=>cases b<;>rfl
 | cons x a ih=>cases b with
  | nil=>rfl
  | cons y b=>simp only[List.length_cons,List.take_succ_cons,CE,ih]
theorem Bs.dot {k l:Nat} : ∀ {a b:List Rat},Bs k a->Bs l b->Bt (a.length*(k+l+1)) (CE a b)
 | [],b,_,_=>by cases b<;>exact Bt.zero _
 | x::a,[],_,_=>Bt.zero _
 | x::a,y::b,ha,hb=>by
  have h1:=(ha x (by simp)).mul (hb y (by simp));have h2:=Bs.dot (a:=a) (b:=b) (λ z hz=>ha z (by simp [hz])) (λ z hz=>hb z (by simp [hz]));refine (h1.add h2).le ?_;rw[List.length_cons,Nat.succ_mul];omega
structure IH where
 a:List (List Rat)
 b:List Rat
 c:List Rat
 d:Rat
structure IH.Ok (S:IH) (n k:Nat):Prop where
 la:S.a.length=n
 lr : ∀ r∈S.a,r.length=n
 lb:S.b.length=n
 lc:S.c.length=n
 ba : ∀ r∈S.a,Bs k r
 bb:Bs k S.b
 bc:Bs k S.c
 bd:Bt k S.d
def D4 (n:Nat) (j:Int):List Rat:=(List.range n).map λ i:Nat=>if (i:Int)=j then 1 else 0
theorem T9 (n:Nat) (j:Int):(D4 n j).length=n:=by simp [D4]
end Go.b7

namespace Go.b7
open F
attribute [local irreducible] AA AF AM AC BT AQ A5 AZ BG A9 BS CN BH AU BI BR AB A1 AJ pw B1 BQ B9 CM CH BF BV BB B5
variable {L:Lib}
set_option maxHeartbeats 4000000
theorem Bt.yu {k:Nat} {x:Rat} (h:Bt k x) (hk:k<2199023255552):Sm 68719476736 (dg x.num.natAbs)/\Sm 68719476736 (dg x.den):=h.Jr (by omega)
theorem Sh (N:c8 L) {x:Rat} {k:Nat} (hx:Bt k x) (hk:k<2199023255552):Ev L 123 [.agg (eQ x)] (.agg (eQ x)):=by
 have:=Tk N (decide (x.num<0)) false _ _ ((hx.yu hk).1.le (by omega)) ((hx.yu hk).2.le (by omega))
 rw[F5]at this;exact this
theorem Tv (N:c8 L) {x y:Rat} {k l:Nat} (hx:Bt k x) (hy:Bt l y) (hk:k<2199023255552) (hl:l<2199023255552):Ev L 127 [.agg (eQ x),.agg (eQ y)] (.int .i64 (q9 (x-y).num)):=by
 have:=Ti N 68719476736 (by omega) (decide (x.num<0)) (decide (y.num<0)) false false _ _ _ _ (hx.yu hk).1 (hx.yu hk).2 (hy.yu hl).1 (hy.yu hl).2
 rw[F5,F5]at this;exact this
theorem sT {x y:Rat}:q9 (x-y).num=0↔x=y:=by
 have h:q9 (x-y).num=0↔(x-y).num=0:=by unfold q9;split<;>(try split)<;>omega
 rw[h,Rat.num_eq_zero];constructor
 ·intro h;grind
 ·rintro rfl;exact Rat.sub_self
theorem Ur (N:dp L) {x:Rat} {k:Nat} (hx:Bt k x) (hk:k<2199023255552):Ev L 152 [.agg (eQ x)] (.agg (eQ (-x))):=by
 have hT:=Sh N.toc8 hx hk;have hN:=λ q=>cI N.toc8 (decide (x.num<0)) q (dg x.num.natAbs) ((hx.yu hk).1.le (by omega))
 rw[G4]at hN;refine Ev.x N.NU rfl rfl ?_;(repeat' ((first|apply AE|refine AD (hT) ?_|refine AD (hN _) ?_)<;>conv=>whnf))
 refine AW ?_ (DH _);show _=AV.agg (rQ _ _ _ _ _);rw[Rat.neg_num,Rat.neg_den]
end Go.b7

namespace Go.b7
abbrev eO:Option Rat->List AV
 | none=>[.bool false,.nil,.nil]
 | some x=>eQ x
def BW (l:List Rat) (m:Nat):List (Option Rat):=l.map some++List.replicate (m-l.length) none
theorem RS (m:Nat):BW [] m=List.replicate m none:=by simp [BW]
theorem HO {l:List Rat} {m:Nat} (h:l.length<=m):(BW l m).length=m:=by simp [BW];omega
theorem K5 {l:List Rat} {m:Nat} {x:Rat} (h:l.length<m):(BW l m).set l.length (some x)=BW (l++[x]) m:=by
 unfold BW;have e:m-l.length=(m-(l++[x]).length)+1:=by simp;omega
 rw[e,List.replicate_succ,List.set_append_right _ _ (by simp)];simp
theorem PU {l:List Rat} {m:Nat} (h:l.length=m):(BW l m).map eO=l.map eQ:=by
 unfold BW;rw[h,Nat.sub_self];simp [Function.comp_def]
abbrev eS (S:IH):List AV:=[.sl false (S.a.map λ r=>[AV.sl false (r.map eQ)]),.sl false (S.b.map eQ),.sl false (S.c.map eQ)]++eQ S.d
theorem KC (l:List Rat):EN (l.map eQ):=RG (λ x=>by simp only[CB,A4,and_true,true_and];exact ⟨C0 _,C0 _⟩) l
theorem Oy (S:IH):A4 (.agg (eS S)):=by
 have h:EN (S.a.map λ r=>[AV.sl false (r.map eQ)]):=RG (λ r=>by simp only[CB,A4,and_true,true_and];exact KC r) S.a;simp only[A4,List.cons_append,List.nil_append,CB,and_true,true_and];exact ⟨h,KC _,KC _,C0 _,C0 _⟩
end Go.b7

namespace Go.b7
open F
attribute [local irreducible] AA AF AM AC BT AQ A5 AZ BG A9 BS CN BH AU BI BR AB A1 AJ pw B1 BQ B9 CM CH BF BV BB B5
variable {L:Lib}
set_option maxHeartbeats 8000000
def H2 (l:List Rat):Nat->Nat
 | 0=>0
 | n+1=>if l.getD n 0=0 then H2 l n else n+1
theorem UX (l:List Rat) : ∀ n,H2 l n<=n
 | 0=>Nat.le_refl _
 | n+1=>by rw[H2];split;exact Nat.le_succ_of_le (UX l n);exact Nat.le_refl _
def O9 (l:List Rat):List Rat:=l.take (H2 l l.length)
theorem uT (l:List Rat):(O9 l).length=H2 l l.length:=by rw[O9,List.length_take];exact Nat.min_eq_left (UX _ _)
end Go.b7

namespace Go.b7
open F
theorem Py {L:Lib} {f:Nat} {fn:AFn} {vs:List AV} {own l6:AH} {r:AV} (hL:L f=some fn) (Cq:IK fn.body=true) (h:GT L f vs own r l6):l6=own:=by
 obtain ⟨n,h⟩:=h;cases n with
 | zero=>simp [DJ]at h
 | succ n =>
  rw[U3]at h;simp only[hL]at h;split at h
  ·split at h
   ·rename_i st j9
    split at h
    ·simp only[Option.some.injEq,Prod.mk.injEq]at h
     rw[<-h.2];exact I3 n (by simp [PW,Cq]) j9
    ·cases h
   ·cases h
  ·cases h
attribute [local irreducible] AA AF AM AC BT AQ A5 AZ BG A9 BS CN BH AU BI BR AB A1 AJ pw B1 BQ B9 CM CH BF BV BB B5
set_option maxHeartbeats 1000000
variable {L:Lib}
theorem Nw (N:c6 L) (l:List Nat) (s:Nat) (hD:A2 l) (hl:l.length<=1099511627776):A1 L 65 [.row 5 0 1 0 l.length] [(0,.row 5 0 1 0 l.length)] [(5,s,.rw 1 (l.map AL))] (λ r _=>r = .row 5 0 1 0 (dg (val l)).length):=by
 have hlen : ∀ n,n<=l.length->l.take n=dg (val l)->n=(dg (val l)).length:=λ n h1 h2=>by
  rw[<-h2,List.length_take];omega
 refine GS 1000 N.FR rfl rfl ?_;(repeat' (apply AE<;>conv=>whnf))
 refine CK (λ n=>n) (λ(n:Nat)=>n<=l.length /\ ∀ i,n<=i->i<l.length->l[i]? = some 0) (λ n=>[(3,.int .i64 n)]) (λ_=>[]) [] [] l.length (by (conv=>whnf);exact ⟨rfl,rfl,rfl⟩) ⟨Nat.le_refl _,λ i h1 h2=>by omega⟩ ?_;intro n ⟨p1,p2⟩ ih;rcases n with _|n
 ·(repeat' ((first|(apply AG<;>intro hc<;>try (exfalso;omega))|apply AE)<;>conv=>whnf))
  refine G5 0 (by omega) (by omega) ?_;(conv=>whnf)
  refine ⟨rfl,_,rfl,?_⟩;rw[<-hlen 0 p1 (GI hD p1 p2 (Or.inl rfl))];rfl
 ·have e1:((n+1:Nat):Int)-1=n:=by omega
  (repeat' ((first|(apply AG<;>intro hc<;>try (exfalso;omega))|(apply A3;omega)|(apply BM;omega)|(refine Q9 (by assumption) ?_ (λ v hv hb => ?_);omega)|apply AE)<;>conv=>whnf))
  ·rw[e1]
   exact BO [] (ih n (by omega) ⟨by omega,λ i h1 h2=>by
    by_cases h:i=n
    ·subst h
     rw[e1,Int.toNat_natCast]at hv;rw[hv];congr 1;omega
    ·exact p2 i (by omega) h2⟩)
  ·refine G5 (n+1) (by omega) (by omega) ?_
   (conv=>whnf)
   refine ⟨rfl,_,rfl,?_⟩;rw[e1,Int.toNat_natCast]at hv;rw[<-hlen (n+1) p1 (GI hD p1 p2 (Or.inr ⟨_,hv,by omega⟩))];rfl
theorem Nv (N:c6 L) (l:List Nat) (s t:Nat) (own:AH) (hD:A2 l) (hl:l.length<=1099511627776) (hb:(own s).c9 t=some ⟨1,l.map AL⟩) (ht:t<(own s).g7) (kb:E4 s=true):GT L 65 [.row s t 1 0 l.length] own (.row s t 1 0 (dg (val l)).length) own:=by
 have hs:IG (λ_ _=>(s,t)) own [(5,s,.rw 1 (l.map AL))]:=by
  have key : ∀ k u c,c5 [(5,s,A7.rw 1 (l.map AL))] k u=some c->k=5/\u=0/\c = .rw 1 (l.map AL):=λ k u c e=>by
   simp only[c5,c7]at e;cases hk:Nat.beq k 5<;>simp only[hk,cond_true,cond_false]at e
   ·cases e
   ·cases u with
    | zero=>simp only[Option.some.injEq]at e;exact ⟨Nat.eq_of_beq_eq_true hk,rfl,e.symm⟩
    | succ u=>cases e
  refine ⟨λ k s' c e => ?_,λ k u c e => ?_,λ k u c e=>ht,λ k u k' u' c c' e e' _ => ?_,λ_ _ _ _ _=>kb⟩
  ·simp only[c7]at e
   cases hk:Nat.beq k 5<;>simp only[hk,cond_true,cond_false]at e
   ·cases e
   ·simp only[Option.some.injEq,Prod.mk.injEq]at e;exact e.1
  ·obtain ⟨_,_,rfl⟩:=key k u c e
   exact hb
  ·obtain ⟨rfl,rfl,_⟩:=key k u c e
   obtain ⟨rfl,rfl,_⟩:=key k' u' c' e';exact ⟨rfl,rfl⟩
 have hw:=Nw N l s hD hl;unfold A1 at hw;obtain ⟨r,l6,σ',M',h1,h2,h3,rfl⟩:=hw _ own hs;have ho:=Py N.FR (by decide +kernel) h1;subst ho;have h4:AV.row (σ' 5 0).1 (σ' 5 0).2 1 0 l.length=AV.row s t 1 0 l.length:=h3 0;simp only[AV.row.injEq]at h4;have h5:GT L 65 [.row s t 1 0 l.length] l6 (.row (σ' 5 0).1 (σ' 5 0).2 1 0 (dg (val l)).length) l6:=h1;rw[h4.1,h4.2.1]at h5;exact h5
theorem WP (N:c6 L) {l:List Nat} {tm:Tm} {M:Mem} {K:AV->Mem->Prop} {key s len:Nat} (hD:A2 l) (hl:l.length<=1099511627776) (hm:c7 M key=some (s,.rw 1 (l.map AL))) (hlen:len=l.length) (hk:K (.row key 0 1 0 (dg (val l)).length) M):A1 L 65 [.row key 0 1 0 len] tm M K:=by
 subst hlen;unfold A1;intro σ own hs;have bq:=hs.site _ _ _ hm;have Co:c5 M key 0=some (.rw 1 (l.map AL)):=by simp only[c5,hm]
 have hb:=hs.c9 _ _ _ Co;have ht:=hs.old _ _ _ Co;refine ⟨.row key 0 1 0 (dg (val l)).length,own,σ,M,?_,hs,λ_=>rfl,hk⟩;exact Nv N l (σ key 0).1 (σ key 0).2 own hD hl hb ht (hs.low _ _ _ (EI hm) rfl)
end Go.b7

namespace Go.b7
open F
attribute [local irreducible] AA AF AM AC BT AQ A5 AZ BG A9 BS CN BH AU BI BR AB A1 AJ pw B1 BQ B9 CM CH BF BV BB B5
set_option maxHeartbeats 4000000
variable {L:Lib}
abbrev bT (v:List Nat) (j m s xl:Nat):Tm:=[(102,AV.sl false (List.map AL v)),(101,AV.row 71012 0 1 j (v.length+1)),
           (100,AV.int IntKind.i64 (↑j + ↑v.length+1)),(99,AV.int IntKind.i64 (↑j + ↑v.length)),
           (98,AV.int IntKind.i64 ↑v.length),(97,AV.int IntKind.i64 ↑j),(96,AV.int IntKind.i64 ↑j),
           (95,AV.row 71012 0 1 0 (xl+1)),(94,AV.int IntKind.i64 ↑j),(93,AV.row 28 0 1 0 m),
           (90,AV.bool true),(14,AV.int IntKind.i64 ↑j),(13,AV.sl false (List.map AL v)),
           (12,AV.row 71012 0 1 0 (xl+1)),(11,AV.int IntKind.u64 ↑s),(7,AV.row 28 0 1 0 m),
           (6,AV.int IntKind.i64 ↑v.length)]
abbrev Qs:List It:=[It.lp F4.l2,It.c9 2,It.code
      (((BD.ops F4.af false).dr [9,10,84,85,86,87,118,119,120,121,122,123,124,125,126]
         []).seq
       (((BD.ops F4.bm false).dr [127,128,129,130,131] []).seq
        ((((BD.ops F4.cp false).dr [15,132,133] []).seq
           (BD.cond 134
            (((BD.ops F4.ea false).dr [0,1,5,7,134,135,136] []).seq BD.ret)
            BD.skip)).seq
         (((BD.ops F4.fk false).dr [134] []).seq
          ((((BD.ops F4.gv false).dr [1] []).seq (BD.block 4 F4.l3.loop)).seq
           (((BD.ops F4.Fb false).dr
              [0,5,9,137,138,139,140,162,163,164,165,166,167,168,169] []).seq
            (((BD.ops F4.Fc false).dr [7,170,171,172] []).seq BD.ret)))))))]
section
variable {A W C w v:List Nat} {j m s xl q:Nat} {K:AV->Mem->Prop}
theorem bJ (hA:A.length=j) (hW:W.length=v.length+1) (D2:A2 W) (bn:A2 v) (db:2<=v.length) (qp:v.length<=549755813888) (w5:0<val v)
  (r1:q<4294967296) (r2:val W/val v<=q) (r3:q<=val W/val v+1)
  (hk : ∀ (W':List Nat) (o':List (List AV)) (q':Nat),W'.length=v.length+1->A2 W'->val W'=val W%val v->q'=val W/val v->K (.int .u32 (q':Int)) [(71012,71012,.rw 1 ((A++W'++C).map AL)),(28,28,.rw 1 (w.map AL)),(71012,71012,.rw 1 o')])
  (ka : ∀ (W':List Nat) (o':List (List AV)) (q':Nat),W'.length=v.length+1->A2 W'->val W'=val W%val v->q'=val W/val v->K (.int .u32 (q':Int)) [(71012,71012,.rw 1 ((A++W'++C).map AL)),(71012,71012,.rw 1 o'),(28,28,.rw 1 (w.map AL))]) :
  AA L Qs ([(86,.int .i64 0),(85,.int .i64 v.length),(84,.sl false (v.map AL)),(10,.int .u64 0),(9,.int .u64 0),(7,.int .u64 (q:Int)),(5,.int .i64 v.length),(0,AV.row 71012 0 1 j (v.length+1)),(1,AV.sl false (List.map AL v))]++GP 1000 (bT v j m s xl))
   [(71012,71012,A7.rw 1 (List.map AL (A++W++C))),(28,28,A7.rw 1 (List.map AL w))] (iV 1000 F4 (bT v j m s xl) K):=by
 refine ZO (λ i _ _ _=>v.length-i) (λ(i:Nat) (Z:List Nat) (c b:Nat)=>i<=v.length/\Z.length=v.length+1/\A2 Z/\c<4294967296/\b<=1/\Z.drop i=W.drop i/\val (Z.take i)+q*val (v.take i)=val (W.take i)+4294967296^i*(c+b)) (λ i Z c b=>[(86,.int .i64 i),(10,.int .u64 (b:Int)),(9,.int .u64 (c:Int))]) (λ i Z c b=>[(71012,71012,.rw 1 ((A++Z++C).map AL))]) [] [] 0 W 0 0 (by (conv=>whnf);exact ⟨rfl,rfl,rfl⟩) ⟨by omega,hW,D2,by omega,by omega,rfl,by simp [val]⟩ ?_;intro i Z c b ⟨p1,p2,p3,p4,p5,p6,p7⟩ ih;by_cases hi:i<v.length
 ·obtain ⟨d,hd⟩ : ∃ d,v[i]? = some d:=⟨_,zE hi⟩
  obtain ⟨u,hu⟩ : ∃ u,Z[i]? = some u:=⟨_,zE (by omega)⟩;have x6:=bn.at hd;have nq:=p3.at hu;obtain ⟨pr,nz⟩ : ∃ pr,pr=q*d+c:=⟨_,rfl⟩;obtain ⟨m1,m2,m3⟩:=qW r1 x6 p4 nz;have sv:W[i]? = some u:=by
   have e1:(Z.drop i)[0]? = (W.drop i)[0]? := by rw[p6]
   simpa [hu] using e1.symm
  (repeat' ((first|(apply AG<;>intro hc<;>try (exfalso;omega))|(apply A3;omega)|(apply GA;omega)|(apply PD;omega)|apply FD|(apply B7;omega)|(refine BC (by assumption) ?_ rfl ?_;omega)|apply AE)<;>conv=>whnf))
  rw[<-nz];refine P9 i hu (by omega) ?_;(conv=>whnf)
  (repeat' ((first|(apply A3;omega)|(apply WY;omega)|(apply B7;omega)|apply FW)<;>conv=>whnf))
  obtain ⟨s1,s2⟩:=ZF nq (show pr%4294967296<4294967296 by omega) p5;have j9:=Xu p7 nz rfl nq p5;generalize EE (EE u (pr%4294967296)) b=t at *;refine OL i (by omega) (by omega) ?_;(conv=>whnf)
  (repeat' ((first|(apply AR;omega)|apply WX)<;>conv=>whnf))
  refine BL [] (by (conv=>whnf);exact ⟨rfl,rfl,rfl⟩) (ih (i+1) _ _ _ (by omega) ⟨by omega,by simpa using p2,p3.set _ (by omega),m1,s2,?_,?_⟩)
  ·rw[List.drop_set_of_lt (by omega)]
   have e1:(Z.drop i).drop 1=(W.drop i).drop 1:=by rw[p6]
   simpa using e1
  ·rw[F8 (by omega),DX hd,DX sv,Nat.pow_succ]
   exact j9
 ·obtain rfl:i=v.length:=by omega
  clear ih;obtain ⟨u,hu⟩ : ∃ u,Z[v.length]? = some u:=⟨_,zE (by omega)⟩;have nq:=p3.at hu;have sv:W[v.length]? = some u:=by
   have e1:(Z.drop v.length)[0]? = (W.drop v.length)[0]? := by rw[p6]
   simpa [hu] using e1.symm
  rw[C7 (Nat.le_refl v.length)]at p7;obtain ⟨s1,s2⟩:=ZF nq p4 p5;have j9:=Xr p7 rfl nq p4 p5;have eW:val W=val (W.take v.length)+4294967296^v.length*u:=by
   rw[<-DX sv,C7 (by omega)]
  rw[<-eW,<-F8 (show v.length<Z.length by omega),C7 (by simp;omega)]at j9;(repeat' ((first|(apply AG<;>intro hc<;>try (exfalso;omega))|(apply A3;omega)|apply AE)<;>conv=>whnf))
  refine P9 v.length hu (by omega) ?_;(conv=>whnf)
  (repeat' ((first|(apply A3;omega)|(apply WY;omega)|(apply B7;omega)|apply FW)<;>conv=>whnf))
  generalize EE (EE u c) b=t at *;refine OL v.length (by omega) (by omega) ?_;(conv=>whnf)
  (repeat' ((first|(apply AG<;>intro hc<;>try (exfalso;omega))|apply WX|(apply D8;omega)|apply AY)<;>conv=>whnf))
  ·have Lq:t/9223372036854775808=0:=by omega
   rw[Lq,Nat.mul_zero,Nat.add_zero]at j9;obtain ⟨y1,y2⟩:=lM w5 r2 j9;exact ⟨rfl,_,rfl,hk _ _ _ (by simpa using p2) (p3.set _ (by omega)) y2 y1⟩
  ·have Lr:t/9223372036854775808=1:=by omega
   rw[Lr,Nat.mul_one]at j9;have Az:A2 (Z.set v.length (t%4294967296)):=p3.set _ (by omega);have zf:(Z.set v.length (t%4294967296)).length=v.length+1:=by simpa using p2
   clear p7 p6 p4 p5 s1 s2 eW Lr hu sv nq p1 p2 p3;generalize Z.set v.length (t%4294967296)=X at *;have yz:=E0 Az;rw[zf,Nat.pow_succ]at yz;obtain ⟨y1,y2,y3⟩:=lL w5 r3 yz j9;have hRV:val W%val v<val v:=Nat.mod_lt _ w5;have wo:=E0 bn;obtain ⟨xw,yo⟩ : ∃ xw,X[v.length]? = some xw:=⟨_,zE (by omega)⟩;have eX:val X=val (X.take v.length)+4294967296^v.length*xw:=by
    rw[<-DX yo,C7 (by omega)]
   refine GR (λ i _ _=>v.length-i) (λ(i:Nat) (Z:List Nat) (c:Nat)=>i<=v.length/\Z.length=v.length+1/\A2 Z/\c<=1/\Z.drop i=X.drop i/\val (Z.take i)+4294967296^i*c=val (X.take i)+val (v.take i)) (λ i Z c=>[(139,.int .i64 i),(9,.int .u64 (c:Int))]) (λ i Z c=>[(71012,71012,.rw 1 ((A++Z++C).map AL))]) [] [] 0 X 0 (by (conv=>whnf);exact ⟨rfl,rfl,rfl⟩) ⟨by omega,zf,Az,by omega,rfl,by simp [val]⟩ ?_;intro i Z c ⟨p1,p2,p3,p4,p6,p7⟩ ih;by_cases hi:i<v.length
   ·obtain ⟨d,hd⟩ : ∃ d,v[i]? = some d:=⟨_,zE hi⟩
    obtain ⟨u,hu⟩ : ∃ u,Z[i]? = some u:=⟨_,zE (by omega)⟩;have x6:=bn.at hd;have nq:=p3.at hu;have im:X[i]? = some u:=by
     have e1:(Z.drop i)[0]? = (X.drop i)[0]? := by rw[p6]
     simpa [hu] using e1.symm
    have Gl:=jH (d:=d) (w:=u) p7 rfl;(repeat' ((first|(apply AG<;>intro hc<;>try (exfalso;omega))|(apply A3;omega)|(refine BC (by assumption) ?_ rfl ?_;omega)|apply AE)<;>conv=>whnf))
    refine P9 i hu (by omega) ?_;(conv=>whnf)
    (repeat' ((first|(apply A3;omega)|(apply GA;omega)|(apply B7;omega)|apply FW)<;>conv=>whnf))
    generalize ht2:u+d+c=t2 at *;refine OL i (by omega) (by omega) ?_;(conv=>whnf)
    (repeat' ((first|(apply AR;omega)|apply FD)<;>conv=>whnf))
    refine BL [] (by (conv=>whnf);exact ⟨rfl,rfl,rfl⟩) (ih (i+1) _ _ (by omega) ⟨by omega,by simpa using p2,p3.set _ (by omega),by omega,?_,?_⟩)
    ·rw[List.drop_set_of_lt (by omega)]
     have e1:(Z.drop i).drop 1=(X.drop i).drop 1:=by rw[p6]
     simpa using e1
    ·rw[F8 (by omega),DX hd,DX im,Nat.pow_succ]
     exact Gl
   ·obtain rfl:i=v.length:=by omega
    clear ih;obtain ⟨u,hu⟩ : ∃ u,Z[v.length]? = some u:=⟨_,zE (by omega)⟩;have nq:=p3.at hu;have im:X[v.length]? = some u:=by
     have e1:(Z.drop v.length)[0]? = (X.drop v.length)[0]? := by rw[p6]
     simpa [hu] using e1.symm
    rw[im]at yo;obtain rfl:u=xw:=by simpa using yo
    rw[C7 (Nat.le_refl v.length)]at p7;have Ba:=E0 (p3.take v.length);rw[List.length_take,Nat.min_eq_left (by omega)]at Ba;rw[eX]at y3;have pj:=jG p7 y3 (by omega) Ba;rw[<-F8 (show v.length<Z.length by omega),C7 (by simp;omega)]at pj;(repeat' ((first|(apply AG<;>intro hc<;>try (exfalso;omega))|(apply A3;omega)|apply AE)<;>conv=>whnf))
    refine P9 v.length hu (by omega) ?_;(conv=>whnf)
    (repeat' ((first|(apply A3;omega)|apply iP|(apply D8;omega))<;>conv=>whnf))
    refine OL v.length (by omega) (by omega) ?_;(conv=>whnf)
    (repeat' ((first|(apply I8;omega;omega)|(apply D8;omega))<;>conv=>whnf))
    exact ⟨rfl,_,rfl,ka _ _ _ (by simpa using p2) (p3.set _ (by omega)) pj y1⟩
theorem Oo (N:c6 L) (hA:A.length=j) (hW:W.length=v.length+1) (D2:A2 W) (bn:A2 v) (db:2<=v.length) (qp:v.length<=549755813888) (w5:0<val v)
  (n2:4294967296^(v.length-1)*2147483648<=val v) (g2:val W<4294967296*val v)
  (hk : ∀ (W':List Nat) (o':List (List AV)) (q':Nat),W'.length=v.length+1->A2 W'->val W'=val W%val v->q'=val W/val v->K (.int .u32 (q':Int)) [(71012,71012,.rw 1 ((A++W'++C).map AL)),(28,28,.rw 1 (w.map AL)),(71012,71012,.rw 1 o')])
  (ka : ∀ (W':List Nat) (o':List (List AV)) (q':Nat),W'.length=v.length+1->A2 W'->val W'=val W%val v->q'=val W/val v->K (.int .u32 (q':Int)) [(71012,71012,.rw 1 ((A++W'++C).map AL)),(71012,71012,.rw 1 o'),(28,28,.rw 1 (w.map AL))]) :
  A1 L 73 [AV.row 71012 0 1 j (v.length+1),AV.sl false (List.map AL v)] (bT v j m s xl) [(71012,71012,A7.rw 1 (List.map AL (A++W++C))),(28,28,A7.rw 1 (List.map AL w))] K:=by
 obtain ⟨UL,a1,a2⟩:=ZK D2 (n:=v.length+1) (by omega) (by omega);obtain ⟨VL,b5,b6⟩:=uX bn (n:=v.length) db (by omega);obtain ⟨u0,w0⟩ : ∃ d,W[v.length]? = some d:=⟨_,zE (by omega)⟩;obtain ⟨u1,w1⟩ : ∃ d,W[v.length-1]? = some d:=⟨_,zE (by omega)⟩;obtain ⟨u2,w2⟩ : ∃ d,W[v.length-2]? = some d:=⟨_,zE (by omega)⟩;obtain ⟨f1,x1⟩ : ∃ d,v[v.length-1]? = some d:=⟨_,zE (by omega)⟩;obtain ⟨f2,x2⟩ : ∃ d,v[v.length-2]? = some d:=⟨_,zE (by omega)⟩;rw[show v.length+1-3=v.length-2 by omega,show v.length+1-2=v.length-1 by omega,show v.length+1-1=v.length by omega,GV w0,GV w1,GV w2]at a2;rw[show v.length+1-3=v.length-2 by omega]at a1;rw[GV x1,GV x2]at b6;have pk:=uR bn (k:=v.length-1) (by omega) n2 x1;have k0:=D2.at w0;have k1:=D2.at w1;have k2:=D2.at w2;have k3:=bn.at x1;have k4:=bn.at x2;have z1:v[((v.length:Int)-1).toNat]? = some f1:=by rw[show ((v.length:Int)-1).toNat=v.length-1 by omega];exact x1
 have z2:v[((v.length:Int)-2).toNat]? = some f2:=by rw[show ((v.length:Int)-2).toNat=v.length-2 by omega];exact x2
 refine GS 1000 N.F4 rfl rfl ?_;(repeat' ((first|(apply A3;omega)|apply AY|apply AE)<;>conv=>whnf))
 refine P9 v.length w0 (by omega) ?_;(conv=>whnf)
 (repeat' ((first|(apply A3;omega)|(apply BM;omega)|(apply OK;omega)|(apply B7;omega))<;>conv=>whnf))
 refine P9 (v.length-1) w1 (by omega) ?_;(conv=>whnf)
 refine iJ (by omega) ?_;(conv=>whnf)
 refine PE (by omega) ?_;(conv=>whnf)
 generalize Iu:u0*4294967296+u1=top at *;have Iq:top<=18446744073709551615:=by omega
 have hU:val W=UL+4294967296^(v.length-2)*(u2+4294967296*top):=by rw[a2,show u1+4294967296*u0=top by omega]
 (repeat' ((first|(apply BM;omega)|(apply UK;omega)|(apply WW;omega;omega)|(apply B7;omega)|(refine BC (by assumption) ?_ rfl ?_;omega))<;>conv=>whnf))
 refine EX (λ q _=>q) (λ(q r:Nat)=>Gs (val W) (val v) f1 f2 u2 top q r) (λ q r=>[(7,.int .u64 (q:Int)),(8,.int .u64 (r:Int))]) (λ_ _=>[]) [] [] (top/f1) (top%f1) (by (conv=>whnf);exact ⟨rfl,rfl,rfl⟩) (Gs.start hU b6 a1 k2 w5 (by omega) k3) ?_;intro q r g iz;have Hy:q<=top:=by
  have h3:=g.hq;have h4:q*1<=q*f1:=Nat.mul_le_mul_left q (by omega);omega
 have hr:=g.hr;have jl:=g.ge;by_cases hb:4294967296<=q
 ·obtain ⟨y1,y2,y3⟩:=g.next hU b6 a1 w5 g2 (Or.inl hb)
  (repeat' ((first|(apply AG<;>intro hc<;>try (exfalso;omega))|(apply BM;omega)|(apply GA;omega)|(apply I8;omega;omega)|(apply B7;omega)|apply AY|(refine BC (by assumption) ?_ rfl ?_;omega)|apply AE)<;>conv=>whnf))
  ·obtain ⟨t1,t2⟩:=TI hU b6 b5 pk k4 g2 y2 (Or.inr (by omega))
   exact BL [] (by (conv=>whnf);exact ⟨rfl,rfl,rfl⟩) (bJ (w:=w) (C:=C) hA hW D2 bn db qp w5 t1 y3 t2 hk ka)
  ·exact BL [] (by (conv=>whnf);exact ⟨rfl,rfl,rfl⟩) (iz (q-1) (r+f1) (by omega) ⟨y2,by omega,y3⟩)
 ·have hmq:=TR (show q<4294967296 by omega) k4
  by_cases o9:r*4294967296+u2<q*f2
  ·obtain ⟨y1,y2,y3⟩:=g.next hU b6 a1 w5 g2 (Or.inr o9)
   (repeat' ((first|(apply AG<;>intro hc<;>try (exfalso;omega))|(apply A3;omega)|(apply BM;omega)|(apply PD;omega)|(apply OK;omega)|(apply B7;omega)|(refine BC (by assumption) ?_ rfl ?_;omega)|apply AE)<;>conv=>whnf))
   refine P9 (v.length-2) w2 (by omega) ?_;(conv=>whnf)
   (repeat' ((first|(apply AG<;>intro hc<;>try (exfalso;omega))|(apply BM;omega)|(apply GA;omega)|(apply PE;omega)|(apply I8;omega;omega)|(apply B7;omega)|apply AY|(refine BC (by assumption) ?_ rfl ?_;omega))<;>conv=>whnf))
   ·obtain ⟨t1,t2⟩:=TI hU b6 b5 pk k4 g2 y2 (Or.inr (by omega))
    exact BL [] (by (conv=>whnf);exact ⟨rfl,rfl,rfl⟩) (bJ (w:=w) (C:=C) hA hW D2 bn db qp w5 t1 y3 t2 hk ka)
   ·exact BL [] (by (conv=>whnf);exact ⟨rfl,rfl,rfl⟩) (iz (q-1) (r+f1) (by omega) ⟨y2,by omega,y3⟩)
  ·obtain ⟨t1,t2⟩:=TI hU b6 b5 pk k4 g2 g.hq (Or.inl ⟨by omega,by omega⟩)
   (repeat' ((first|(apply AG<;>intro hc<;>try (exfalso;omega))|(apply A3;omega)|(apply BM;omega)|(apply PD;omega)|(apply OK;omega)|(apply B7;omega)|(refine BC (by assumption) ?_ rfl ?_;omega)|apply AE)<;>conv=>whnf))
   refine P9 (v.length-2) w2 (by omega) ?_;(conv=>whnf)
   (repeat' ((first|(apply AG<;>intro hc<;>try (exfalso;omega))|(apply PE;omega)|(apply B7;omega)|apply AY)<;>conv=>whnf))
   exact BL [] (by (conv=>whnf);exact ⟨rfl,rfl,rfl⟩) (bJ (w:=w) (C:=C) hA hW D2 bn db qp w5 t1 jl t2 hk ka)
end
end Go.b7

namespace Go.b7
open F
attribute [local irreducible] AA AF AM AC BT AQ A5 AZ BG A9 BS CN BH AU BI BR AB A1 AJ pw B1 BQ B9 CM CH BF BV BB B5
variable {L:Lib}
set_option maxHeartbeats 4000000
theorem AfT {V R y d t Q:Nat} (h:Q*y+R=V) (ht:t=R*4294967296+d):(t/y+4294967296*Q)*y+t%y=d+4294967296*V:=by
 have:=Nat.div_add_mod t y
 rw[<-h,Nat.add_mul];have e:t/y*y=y*(t/y):=Nat.mul_comm _ _;grind
theorem UV (a b:List Nat):A4 (.g8 [.sl false (a.map AL),.sl false (b.map AL)]):=by
 simp only[A4,CB,and_true,true_and];exact ⟨C0 a,C0 b⟩
set_option maxHeartbeats 4000000 in
theorem cE (N:c6 L) (X Y:Nat) (q1 q2:Bool) (hY:Y≠0) (lx:(dg X).length<=549755813888) (ly:(dg Y).length<=549755813888):Ev L 74 [.sl q1 ((dg X).map AL),.sl q2 ((dg Y).map AL)] (.g8 [.sl false ((dg (X/Y)).map AL),.sl false ((dg (X%Y)).map AL)]):=by
 have k9:=λ q q'=>PS N (dg X) (dg Y) q q' (DT X) (DT Y) (by omega) (by omega)
 rw[BP,BP]at k9;have d1:=DT X;have d2:=DT Y;have v1:=BP X;have v2:=BP Y;have hy1:=U1 hY;refine Ev.x N.LZ rfl rfl ?_;by_cases k6:X<Y
 ·have hn:C5 X Y = -1:=(IL (by omega)).symm
  rw[hn]at k9;(repeat' ((first|(apply AG<;>intro hc<;>try (exfalso;omega))|apply AE|refine AD (k9 _ _) ?_|refine AD (mO N (dg X) _ (by omega)) ?_)<;>conv=>whnf))
  refine AW ?_ (UV _ _);rw[Nat.div_eq_of_lt k6,Nat.mod_eq_of_lt k6,EY];rfl
 have jl:0<=C5 X Y:=by unfold C5;split<;>(try split)<;>omega
 have pz:=QI (show Y<=X by omega);generalize C5 X Y=cm at *;by_cases h1:(dg Y).length=1
 ·-- one digit
  obtain ⟨y0,lz⟩ : ∃ y0,dg Y=[y0]:=List.length_eq_one_iff.1 h1;have rp:Y=y0:=by rw[<-v2,lz];simp [val]
  subst rp;have Aa:Y<4294967296:=d2 Y (by rw[lz];simp);have hyg:(dg Y)[0]? = some Y:=by rw[lz];rfl
  clear lz v2;generalize dg Y=y at *;generalize hx:dg X=x at *;(repeat' ((first|(apply AG<;>intro hc<;>try (exfalso;omega))|(apply AR;omega)|(apply BM;omega)|apply AY|apply AE|refine AD (k9 _ _) ?_)<;>conv=>whnf))
  refine DP (enc:=AL) 0 x.length rfl (by omega) (by omega) ?_;(conv=>whnf)
  (repeat' ((first|(apply AG<;>intro hc<;>try (exfalso;omega))|(apply BM;omega)|apply AY)<;>conv=>whnf))
  refine GR (λ n _ _=>n) (λ(n:Nat) (o:List Nat) (r:Nat)=>n<=x.length/\o.length=x.length/\A2 o/\r<Y/\val (o.drop n)*Y+r=val (x.drop n)) (λ n o r=>[(8,.int .u64 (r:Int)),(9,.int .i64 ((n:Int)-1))]) (λ n o r=>[(28,28,.rw 1 (o.map AL))]) [] [] x.length (List.replicate x.length 0) 0 (by (conv=>whnf);exact ⟨rfl,rfl,rfl⟩) ⟨by omega,by simp,JD _,by omega,by rw[List.drop_of_length_le (Nat.le_refl _),List.drop_of_length_le (by simp)];simp [val]⟩ ?_;intro n o r ⟨p1,p2,p3,p4,p5⟩ ih;rcases n with _|n
  ·rw[List.drop_zero,List.drop_zero]at p5
   have hq:X/Y=val o/\X%Y=r:=by
    rw[<-v1,<-p5];have e1:(val o*Y+r)/Y=val o:=by
     rw[Nat.mul_comm,Nat.mul_add_div (by omega),Nat.div_eq_of_lt p4,Nat.add_zero]
    have e2:(val o*Y+r)%Y=r:=by
     rw[Nat.mul_comm,Nat.mul_add_mod,Nat.mod_eq_of_lt p4]
    exact ⟨e1,e2⟩
   rw[hq.1,hq.2,<-p2];clear ih hq p5;have ch:=ES p3;have da:A2 [r]:=HM (by omega);have eu:=ES da;have Er:val [r]=r:=by simp [val]
   have Ek:[r].length=1:=rfl;(repeat' ((first|(apply AG<;>intro hc<;>try (exfalso;omega))|(apply D8;omega)|apply AE|refine WP N (by assumption) (by omega) rfl (by first|rfl|omega|assumption) ?_)<;>conv=>whnf))
   refine H1 (enc:=AL) (λ_=>rfl) (by omega) ?_;(conv=>whnf)
   refine H1 (enc:=AL) (l:=[r]) (λ_=>rfl) (by omega) ?_;(conv=>whnf)
   refine AW ?_ (UV _ _);rw[List.drop_zero,List.drop_zero,WH p3,WH da,Er]
  ·have e1:((n+1:Nat):Int)-1=n:=by omega
   rw[e1];obtain ⟨d,hd⟩ : ∃ d,x[n]? = some d:=⟨_,zE (by omega)⟩;have x6:=d1.at hd;have hYb:Y<4294967296:=Aa;have hR:r*4294967296+d<Y*4294967296:=by omega
   have tn:(r*4294967296+d)/Y<4294967296:=(Nat.div_lt_iff_lt_mul (by omega)).2 (by omega);(repeat' ((first|(apply AG<;>intro hc<;>try (exfalso;omega))|(apply A3;omega)|(apply OK;omega)|(apply PE;omega)|(apply WW;omega;omega)|(apply B7;omega)|(apply D8;omega)|(refine BC (by assumption) ?_ rfl ?_;omega)|apply AE)<;>conv=>whnf))
   obtain ⟨t,ht⟩ : ∃ t,t=r*4294967296+d:=⟨_,rfl⟩;rw[<-ht]at hR tn ⊢;have hm:t%Y<Y:=Nat.mod_lt _ (by omega);have j9:=AfT p5 ht;rw[<-HH hd]at j9;clear ht;skip
   refine E7 (by omega) ?_;(conv=>whnf)
   (repeat' ((first|(apply BM;omega)|(apply UK;omega)|(apply B7;omega)|(refine BC (by assumption) ?_ rfl ?_;omega))<;>conv=>whnf))
   generalize t/Y=tq at *;generalize t%Y=tr at *;refine BL [] (by (conv=>whnf);exact ⟨rfl,rfl,rfl⟩) (ih n _ _ (by omega) ⟨by omega,by simpa using p2,p3.set _ (by omega),hm,?_⟩);rw[HH (l:=o.set n tq) (d:=tq) (by rw[List.getElem?_set_self (by omega)]),List.drop_set_of_lt (by omega)];exact j9
 ·-- two digits or more
  have Hq:2<=(dg Y).length:=by omega
  obtain ⟨yt,tv,tz⟩:=bI hY;have qt:=d2.at tv;obtain ⟨b1,b2,b3,b4⟩:=dT tz qt;have Ca:=mP N yt qt;generalize hs:32-n0 yt=s at *;have ah:s<=31:=by omega
  generalize dg Y=y at *;generalize hx:dg X=x at *;have e1:((y.length:Int)-1).toNat=y.length-1:=by omega
  rw[<-e1]at tv;obtain ⟨rv,Lo,v,hV,fj,Ie⟩:=Uo N y q2 s y.length d2 ah (by omega) (by omega);subst Ie;(repeat' ((first|(apply AG<;>intro hc<;>try (exfalso;omega))|(apply AR;omega)|(apply BM;omega)|apply AY|apply AE|refine AD (k9 _ _) ?_)<;>conv=>whnf))
  refine DP (enc:=AL) 0 (x.length-y.length+1) rfl (by omega) (by omega) ?_;(conv=>whnf)
  (repeat' ((first|(apply AG<;>intro hc<;>try (exfalso;omega))|(apply AR;omega)|(apply BM;omega)|(apply B7;omega)|apply AY|(refine BC (by assumption) ?_ rfl ?_;omega)|refine AD (Ca) ?_)<;>conv=>whnf))
  refine GS 1000 N.JT rfl rfl ?_;(repeat' (apply AE<;>conv=>whnf))
  refine DP (enc:=AL) 0 (x.length+1) rfl (by omega) (by omega) ?_;(conv=>whnf)
  (repeat' (apply AY<;>conv=>whnf))
  have oa:=V0 (s:=s) (by omega);refine GR (λ i _ _=>x.length-i) (λ(i:Nat) (o:List Nat) (lo:Nat)=>i<=x.length/\o.length=x.length+1/\A2 o/\lo<2^s/\val (o.take i)+4294967296^i*lo=val (x.take i)*2^s) (λ i o lo=>[(8,.int .u32 (lo:Int)),(15,.int .i64 i)]) (λ i o lo=>[(71012,71012,.rw 1 (o.map AL))]) [] [] 0 (List.replicate (x.length+1) 0) 0 (by (conv=>whnf);exact ⟨rfl,rfl,rfl⟩) ⟨by omega,by simp,JD _,Nat.two_pow_pos s,by simp [val]⟩ ?_;intro i o lo ⟨p1,p2,p3,p4,p5⟩ ih;by_cases hi:i<x.length
  ·obtain ⟨d,hd⟩ : ∃ d,x[i]? = some d:=⟨_,zE hi⟩
   have x6:=d1.at hd;obtain ⟨f1,f2,f3,f4⟩:=SF (s:=s) x6 (by omega);(repeat' ((first|(apply AG<;>intro hc<;>try (exfalso;omega))|(refine BC (by assumption) ?_ rfl ?_;omega)|apply AE)<;>conv=>whnf))
   refine iS (by omega) ?_;(conv=>whnf)
   skip
   refine Z3 s f1 p4 (by omega) ?_;(conv=>whnf)
   (repeat' ((first|(apply A3;omega)|fail)<;>conv=>whnf))
   refine E7 (by omega) ?_;(conv=>whnf)
   (repeat' ((first|(apply B7;omega)|fail)<;>conv=>whnf))
   refine PG (by omega) f4 ?_;(conv=>whnf)
   (repeat' ((first|(apply AR;omega)|apply FD|(apply D8;omega))<;>conv=>whnf))
   rw[<-SE];refine BL [] (by (conv=>whnf);exact ⟨rfl,rfl,rfl⟩) (ih (i+1) _ _ (by omega) ⟨by omega,by simpa using p2,p3.set _ (by omega),f2,?_⟩);rw[F8 (by omega),DX hd,Nat.pow_succ];exact qB p5
  obtain rfl:i=x.length:=by omega
  clear ih;(repeat' ((first|(apply AG<;>intro hc<;>try (exfalso;omega))|(apply A3;omega)|apply AY|apply AE)<;>conv=>whnf))
  refine E7 (by omega) ?_;(conv=>whnf)
  skip
  have hU:=qA p3 (by omega) p2 p5;have zd:(o.set x.length lo).length=x.length+1:=by simpa using p2
  clear p3 p4 p5 p2;generalize o.set x.length lo=u at *;refine ⟨rfl,_,rfl,?_⟩;(conv=>whnf)
  (repeat' ((first|(apply BM;omega)|apply AY|refine AD (Lo) ?_)<;>conv=>whnf))
  have Jd:y[y.length-1]? = some yt:=by rw[<-e1];exact tv
  obtain ⟨n1,n2⟩:=dM d2 Jd (by omega) ah b3 b4;have Dw:val v=Y*2^s:=by rw[<-v2];exact hV.2.2 (by rw[fj];exact n1)
  have Dv:val u=X*2^s:=by
   rw[<-v1];refine hU.2.2 ?_;have h3:=E0 d1;rw[zd,Nat.pow_succ];exact Nat.lt_of_lt_of_le (Nat.mul_lt_mul_of_pos_right h3 (Nat.two_pow_pos s)) (Nat.mul_le_mul_left _ oa)
  have bn:=hV.1;have Dt:=hU.1;have wq:=E0 bn;rw[v2,<-Dw]at n2;rw[<-fj]at n2;clear hV hU k9 Lo Ca;have db:2<=v.length:=by omega
  have hvx:v.length<=x.length:=by omega
  have qp:v.length<=549755813888:=by omega
  have hxL:x.length<=549755813888:=by omega
  have hX:X<4294967296^x.length:=by rw[<-v1];exact E0 d1
  rw[<-fj];generalize hm:x.length-v.length+1=m at *;have w5:0<val v:=by
   have:=rW (v.length-1)
   omega
  have mr:val (u.drop m)<val v:=by
   have h1:=J7 u m (by omega);rw[Dv]at h1;have h2:X*2^s<4294967296^x.length*2147483648:=Nat.lt_of_lt_of_le (Nat.mul_lt_mul_of_pos_right hX (Nat.two_pow_pos s)) (Nat.mul_le_mul_left _ (Nat.pow_le_pow_right (by omega) ah));have h3:4294967296^x.length=4294967296^m*4294967296^(v.length-1):=by rw[<-Nat.pow_add];congr 1;omega
   rw[h3,Nat.mul_assoc]at h2;refine Nat.lt_of_lt_of_le ?_ n2;refine Nat.lt_of_mul_lt_mul_left (a:=4294967296^m) ?_;omega
  have e2:(x.length:Int)-v.length=((m:Nat):Int)-1:=by omega
  rw[e2];refine GR (λ n _ _=>n) (λ(n:Nat) (o w:List Nat)=>n<=m/\o.length=x.length+1/\A2 o/\w.length=m/\A2 w/\val (o.drop n)<val v/\X*2^s=val (o.take n)+4294967296^n*(val (w.drop n)*val v+val (o.drop n))) (λ n o w=>[(14,.int .i64 ((n:Int)-1))]) (λ n o w=>[(71012,71012,.rw 1 (o.map AL)),(28,28,.rw 1 (w.map AL))]) [] [] m u (List.replicate m 0) (by (conv=>whnf);exact ⟨rfl,rfl,rfl⟩) ⟨by omega,zd,Dt,by simp,JD _,mr,by rw[<-Dv,List.drop_of_length_le (show (List.replicate m 0).length<=m by simp),I7,Nat.zero_mul,Nat.zero_add];exact J7 u m (by omega)⟩ ?_;intro n o w ⟨p1,p2,p3,p4,p5,p6,p7⟩ ih;rcases n with _|j
  ·clear ih
   rw[List.drop_zero]at p6;rw[List.take_zero,List.drop_zero,List.drop_zero,I7,Nat.zero_add,Nat.pow_zero,Nat.one_mul]at p7;have ln:val o=val (o.take v.length):=by
    have h1:=SL o v.length;rcases Nat.eq_zero_or_pos (val (o.drop v.length)) with h2|h2
    ·rw[h2,Nat.mul_zero,Nat.add_zero]at h1;exact h1
    ·have h3:4294967296^v.length*1<=4294967296^v.length*val (o.drop v.length):=Nat.mul_le_mul_left _ h2
     omega
   have sw:X/Y=val w/\X%Y=val o/2^s:=by
    obtain ⟨z1,z2⟩:=lN (X:=X) (Y:=Y) (Nat.two_pow_pos s);rw[<-z1,<-z2,<-Dw,p7];have e1:(val w*val v+val o)/val v=val w:=by
     rw[Nat.mul_comm,Nat.mul_add_div w5,Nat.div_eq_of_lt p6,Nat.add_zero]
    have e2:(val w*val v+val o)%val v=val o:=by
     rw[Nat.mul_comm,Nat.mul_add_mod,Nat.mod_eq_of_lt p6]
    rw[e1,e2];exact ⟨rfl,rfl⟩
   rw[sw.1,sw.2];have ch:=ES p5;obtain ⟨ro,Cq,o2,k1,k2,k3,k4⟩:=Up N (o.take v.length) true s (p3.take _) ah (by rw[List.length_take];omega);subst k4;rw[ln,<-k3];have eu:=ES k1;rw[List.length_take]at k2;clear p7 sw mr;(repeat' ((first|(apply AG<;>intro hc<;>try (exfalso;omega))|apply AE|refine WP N (by assumption) (by omega) rfl (by first|rfl|omega|assumption) ?_)<;>conv=>whnf))
   refine G5 v.length rfl (by omega) ?_;(conv=>whnf)
   refine H1 (enc:=AL) (λ_=>rfl) (by omega) ?_;(conv=>whnf)
   rw[List.drop_zero,Nat.sub_zero];(repeat' ((first|refine AD (Cq) ?_|refine J9 (KO N o2 _ k1 (by omega)) ?_)<;>conv=>whnf))
   refine H1 (enc:=AL) (λ_=>rfl) (by omega) ?_;(conv=>whnf)
   refine AW ?_ (UV _ _);rw[List.drop_zero,WH p5]
  ·have e3:((j+1:Nat):Int)-1=j:=by omega
   rw[e3];have e4:(v.length:Int).toNat=v.length:=by omega
   obtain ⟨A,W,C,hA,hW,rfl⟩:=mF o j (v.length+1) (by omega);obtain ⟨g1,g2,g3⟩:=mH hA hW p3 p6 wq;obtain ⟨D1,D2,D3⟩:=lJ p3;have rj:val W/val v<4294967296:=(Nat.div_lt_iff_lt_mul w5).2 g2;have Gf:val W=val W/val v*val v+val W%val v:=by rw[Nat.mul_comm];exact (Nat.div_add_mod _ _).symm
   have wu:val W%val v<val v:=Nat.mod_lt _ w5;have wm:X*2^s=val A+4294967296^j*val W+4294967296^j*4294967296*(val (w.drop (j+1))*val v):=by
    rw[p7,Nat.mul_add,<-g3,Nat.pow_succ];omega
   have mj:=mG wm Gf;have fb : ∀ q',q'=val W/val v->val ((w.set j q').drop j)=val W/val v+4294967296*val (w.drop (j+1)):=λ q' h=>by
    rw[HH (l:=w.set j q') (d:=q') (by rw[List.getElem?_set_self (by omega)]),List.drop_set_of_lt (by omega),h]
   have hlen : ∀ W':List Nat,W'.length=v.length+1->(A++W'++C).length=x.length+1:=λ W' h=>by
    rw[<-p2];simp [h,hW]
   (repeat' ((first|(apply AG<;>intro hc<;>try (exfalso;omega))|(apply AR;omega)|(apply ZQ;omega)|apply AE)<;>conv=>whnf))
   rw[show ((j:Int)+v.length+1).toNat-(j:Int).toNat=v.length+1 by omega,show 0+(j:Int).toNat=j by omega];refine Oo N hA hW D2 bn db qp w5 n2 g2 (λ W' o' q' z1 z2 z3 z4 => ?_) (λ W' o' q' z1 z2 z3 z4 => ?_)
   ·(conv=>whnf)
    (repeat' ((first|(apply A3;omega)|fail)<;>conv=>whnf))
    refine E7 (by omega) ?_;(conv=>whnf)
    (repeat' ((first|(apply BM;omega)|fail)<;>conv=>whnf))
    obtain ⟨t1,t2⟩:=bU (A:=A) (W:=W') (C:=C) (j:=j) hA g1;refine BL [] (by (conv=>whnf);exact ⟨rfl,rfl,rfl⟩) (ih j (A++W'++C) (w.set j q') (by omega) ⟨by omega,hlen W' z1,(D1.append z2).append D3,by simpa using p4,p5.set _ (by omega),by omega,?_⟩);rw[t1,t2,fb q' z4,z3];exact mj
   ·(conv=>whnf)
    (repeat' ((first|(apply A3;omega)|fail)<;>conv=>whnf))
    refine E7 (by omega) ?_;(conv=>whnf)
    (repeat' ((first|(apply BM;omega)|fail)<;>conv=>whnf))
    obtain ⟨t1,t2⟩:=bU (A:=A) (W:=W') (C:=C) (j:=j) hA g1;refine BL [] (by (conv=>whnf);exact ⟨rfl,rfl,rfl⟩) (ih j (A++W'++C) (w.set j q') (by omega) ⟨by omega,hlen W' z1,(D1.append z2).append D3,by simpa using p4,p5.set _ (by omega),by omega,?_⟩);rw[t1,t2,fb q' z4,z3];exact mj
end Go.b7
