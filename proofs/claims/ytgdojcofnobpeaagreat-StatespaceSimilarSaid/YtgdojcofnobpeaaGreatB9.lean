/-
  The references of natural numbers (ref01): division.
-/
import Derived.Test.YtgdojcofnobpeaaGreatB8
import Derived.Test.YtgdojcofnobpeaaGreatB7
import Derived.Test.YtgdojcofnobpeaaGreatB4
set_option linter.unusedSimpArgs false
set_option linter.unusedVariables false
set_option linter.unnecessarySimpa false
namespace Go.Eng
open F
attribute [local irreducible] AH BJ B1 BD EZ CF CG CR CU DW B5 DT EG F7 DM CQ DR EE AR CW BW pw DC C9 EI ET E1 E7 EW D4 E8
set_option maxHeartbeats 4000000
variable {L:Lib}
theorem Ale {V R y d t Q:Nat} (h:Q*y+R=V) (ht:t=R*4294967296+d):(t/y+4294967296*Q)*y+t%y=d+4294967296*V:=by
 have:=Nat.div_add_mod t y
 rw[<-h,Nat.add_mul];have e:t/y*y=y*(t/y):=Nat.mul_comm _ _;grind
theorem Aig (N:c6 L) (x:List Nat) (Y:Nat) (q:Bool) (d1:CP x) (hx:x.length<=549755813888) (h0:Y≠0) (hY:Y<4294967296):Ev L 108 [.sl q (x.map BZ),.int .u32 (Y:Int)] (.tup [.sl false ((dg (val x/Y)).map BZ),.int .u32 ((val x%Y:Nat):Int)]):=by
 refine Ev.x N.Q8 rfl rfl ?_;(repeat' ((first|apply CB|apply BA)<;>conv=>whnf));refine GU (enc:=BZ) 0 x.length rfl (by omega) (by omega) ?_;(conv=>whnf);(repeat' ((first|(apply D5;omega)|apply CB)<;>conv=>whnf));refine JL (λ n _ _=>n) (λ(n:Nat) (o:List Nat) (r:Nat)=>n<=x.length/\o.length=x.length/\CP o/\r<Y/\val (o.drop n)*Y+r=val (x.drop n)) (λ n o r=>[(7,.int .u64 (r:Int)),(8,.int .i64 ((n:Int)-1))]) (λ n o r=>[(11,11,.rw 1 (o.map BZ))]) [] [] x.length (List.replicate x.length 0) 0 (by (conv=>whnf);exact ⟨rfl,rfl,rfl⟩) ⟨by omega,by simp,MF _,by omega,by rw[List.drop_of_length_le (Nat.le_refl _),List.drop_of_length_le (by simp)];simp [val]⟩ ?_;intro n o r ⟨p1,p2,p3,p4,p5⟩ ih;rcases n with _|n
 ·rw[List.drop_zero,List.drop_zero]at p5
  have hq:val x/Y=val o/\val x%Y=r:=by
   rw[<-p5];have e1:(val o*Y+r)/Y=val o:=by
    rw[Nat.mul_comm,Nat.mul_add_div (by omega),Nat.div_eq_of_lt p4,Nat.add_zero]
   have e2:(val o*Y+r)%Y=r:=by
    rw[Nat.mul_comm,Nat.mul_add_mod,Nat.mod_eq_of_lt p4]
   exact ⟨e1,e2⟩
  have hT:=λ q=>JG N o q p3 (by omega)
  rw[hq.1,hq.2,<-p2];clear ih hq p5;(repeat' ((first|(apply BR<;>intro hc<;>try (exfalso;omega))|(apply GZ;omega)|(refine GK (λ_=>rfl) rfl ?_ ?_;(first|rfl|simp))|apply BA|refine BH (hT _) ?_)<;>conv=>whnf));refine CK rfl ?_;simp only[CT,FG,and_true,true_and];exact E5 _
 ·have e1:((n+1:Nat):Int)-1=n:=by omega
  rw[e1];obtain ⟨d,hd⟩ : ∃ d,x[n]? = some d:=⟨_,zE (by omega)⟩;have hdb:=d1.at hd;have hR:r*4294967296+d<Y*4294967296:=by omega
  have hq0:(r*4294967296+d)/Y<4294967296:=(Nat.div_lt_iff_lt_mul (by omega)).2 (by omega);(repeat' ((first|(apply BR<;>intro hc<;>try (exfalso;omega))|(apply CE;omega)|(apply TS;omega)|(apply UP;omega)|(apply fA;omega;omega)|(apply EJ;omega)|(apply GZ;omega)|(refine CY (by assumption) ?_ rfl ?_;omega)|apply BA)<;>conv=>whnf));obtain ⟨t,ht⟩ : ∃ t,t=r*4294967296+d:=⟨_,rfl⟩;rw[<-ht]at hR hq0 ⊢;have hm:t%Y<Y:=Nat.mod_lt _ (by omega);have hst:=Ale p5 ht;rw[<-KI hd]at hst;clear ht;skip;refine IA (by omega) ?_;(conv=>whnf);(repeat' ((first|(apply D5;omega)|(apply bC;omega)|(apply EJ;omega))<;>conv=>whnf));generalize t/Y=tq at *;generalize t%Y=tr at *;refine DE [] (by (conv=>whnf);exact ⟨rfl,rfl,rfl⟩) (ih n _ _ (by omega) ⟨by omega,by simpa using p2,p3.set _ (by omega),hm,?_⟩);rw[KI (l:=o.set n tq) (d:=tq) (by rw[List.getElem?_set_self (by omega)]),List.drop_set_of_lt (by omega)];exact hst
theorem gL (a b:List Nat) (e:Int):CT (.tup [.sl false (a.map BZ),.sl false (b.map BZ),.int .i64 e]):=by
 simp only[CT,FG,and_true,true_and];exact ⟨E5 a,E5 b⟩
abbrev Zs:List It:=[It.lp GI.l1,It.blk 0,
   It.code
    (((C4.ops GI.q8 false).dr [0,75,79,80] []).seq
     (((C4.ops GI.q9 false).dr [81,82,83,84,85] []).seq
      ((((C4.ops GI.v8 false).dr [86,87,88,89,90] []).seq
         (C4.block 2 GI.l2.loop)).seq
       (((C4.ops GI.Hw true).dr [9,10,11,12,13,14,92,277,278,279,280,281,282,283,284]
          []).seq
        C4.ret))))]
abbrev gU:List It:=[It.lp GI.l2,It.blk 2,It.code
       (((C4.ops GI.Hw true).dr [9,10,11,12,13,14,92,277,278,279,280,281,282,283,284]
          []).seq
        C4.ret)]
abbrev gV (v:List Nat) (s ul m:Nat) (j:Int):Tm:=[(14,.int .i64 j),(13,.row 85 0 1 0 m),(12,.int .i64 v.length),(11,.sl false (v.map BZ)),(10,.row 69 0 1 0 ul),(9,.int .i64 (s:Int))]
abbrev Zr:C4:=(((C4.ops GI.Rc false).dr [18,19,20,166,205,206,207] []).seq
                (((C4.ops GI.Re false).dr [208,209,210,211,212,213,214] []).seq
                 ((C4.ops GI.Rf false).seq
                  ((((C4.ops GI.Rg false).dr [215,216] []).seq
                     (C4.cond 217
                      (((C4.ops GI.Rh false).dr [18,217,218,219] []).seq
                       (C4.ops GI.Ri false))
                      C4.skip)).seq
                   (((C4.ops GI.Rj false).dr
                      [23,24,217,220,221,222,223,224,225,226,227,228] []).seq
                    ((((C4.ops GI.Rk false).dr [18,229] []).seq
                       (C4.cond 230
                        (((C4.ops GI.Rl false).dr [230,231,232] []).seq
                         ((C4.ops GI.Rm false).seq
                          (((C4.ops GI.Rn false).seq
                             (C4.block 8 GI.l5.loop)).seq
                           ((C4.ops GI.Ro false).dr
                            [25,26,235,262,263,264,265,266,267,268,269,270,271]
                            []))))
                        C4.skip)).seq
                     ((C4.ops GI.Rp false).dr [16,230,272,273,274,275,276]
                      [])))))))
abbrev Zt:List It:=It.lp GI.l4::It.blk 6::It.code Zr::It.blk 3::It.code ((C4.ops GI.v9 false).dr [93,94] [])::gU
section
variable {A W C w y:List Nat} {j m s ul q:Nat} {Q:Tm->Mem->Prop}
theorem Y5 {e i n:Nat} (hi:i=A.length+n) (he:W[n]? = some e):(A++W++C)[i]? = some e:=by
 rw[sD hi (zS he).1];exact he
theorem mJ (hA:A.length=j) (hW:W.length=y.length+1) (D2:CP W) (al:CP y) (bj:2<=y.length) (lv:y.length<=549755813888) (q7:0<val y) (hjl:j<=1099511627776)
  (hul:ul=j+(y.length+1)+C.length) (Au:w.length=m) (Aj:j<m)
  (r1:q<4294967296) (r2:val W/val y<=q) (r3:q<=val W/val y+1)
  (hk : ∀ (W':List Nat) (q':Nat),W'.length=y.length+1->CP W'->val W'=val W%val y->q'=val W/val y->AH L gU (gV y s ul m ((j:Int)-1)) [(69,101021,.rw 1 ((A++W'++C).map BZ)),(85,85,.rw 1 ((w.set j q').map BZ))] Q) :
  AH L Zt ([(20,.int .i64 0),(19,.int .u64 0),(18,.int .u64 0),(16,.int .u64 (q:Int))]++gV y s ul m (j:Int)) [(69,101021,.rw 1 ((A++W++C).map BZ)),(85,85,.rw 1 (w.map BZ))] Q:=by
 refine kO (λ i _ _ _=>y.length-i) (λ(i:Nat) (Z:List Nat) (c b:Nat)=>i<=y.length/\Z.length=y.length+1/\CP Z/\c<4294967296/\b<=1/\Z.drop i=W.drop i/\val (Z.take i)+q*val (y.take i)=val (W.take i)+4294967296^i*(c+b)) (λ i Z c b=>[(20,.int .i64 i),(18,.int .u64 (b:Int)),(19,.int .u64 (c:Int))]) (λ i Z c b=>[(69,101021,.rw 1 ((A++Z++C).map BZ))]) [] [] 0 W 0 0 (by (conv=>whnf);exact ⟨rfl,rfl,rfl⟩) ⟨by omega,hW,D2,by omega,by omega,rfl,by simp [val]⟩ ?_;intro i Z c b ⟨p1,p2,p3,p4,p5,p6,p7⟩ ih;by_cases hi:i<y.length
 ·obtain ⟨d,hd⟩ : ∃ d,y[i]? = some d:=⟨_,zE hi⟩
  obtain ⟨u,hu⟩ : ∃ u,Z[i]? = some u:=⟨_,zE (by omega)⟩;have hdb:=al.at hd;have hub:=p3.at hu;have Ao:(A++Z++C)[((i:Int)+(j:Int)).toNat]? = some u:=Y5 (by omega) hu;obtain ⟨pr,jx⟩ : ∃ pr,pr=c+q*d:=⟨_,rfl⟩;obtain ⟨m1,m2,m3⟩:=Ji r1 hdb p4 (show pr=q*d+c by omega);have mw:W[i]? = some u:=by
   have e1:(Z.drop i)[0]? = (W.drop i)[0]? := by rw[p6]
   simpa [hu] using e1.symm
  have ij : ∀ w,(Z.set i w).drop (i+1)=W.drop (i+1):=λ w=>by
   rw[List.drop_set_of_lt (by omega)];have e1:(Z.drop i).drop 1=(W.drop i).drop 1:=by rw[p6]
   simpa using e1
  have hst : ∀ have' take w w5,take=pr%4294967296+b->((have'=u/\w5=0/\take<=u)\/(have'=u+4294967296/\w5=1/\u<take))->w+take=have'->val ((Z.set i w).take (i+1))+q*val (y.take (i+1))=val (W.take (i+1))+4294967296^(i+1)*(pr/4294967296+w5):=λ have' take w w5 a1 a2 a3=>by
   rw[I3 (by omega),GT hd,GT mw,Nat.pow_succ];exact Akl p7 jx a1 a2 a3
  by_cases e9:u<pr%4294967296+b
  ·have h3:=hst (u+4294967296) (pr%4294967296+b) (u+4294967296-(pr%4294967296+b)) 1 rfl (Or.inr ⟨rfl,rfl,e9⟩) (by omega)
   (repeat' ((first|(apply BR<;>intro hc<;>try (exfalso;omega))|(apply CE;omega)|(apply CJ;omega)|(apply I9;omega)|(apply UN;omega)|(apply sZ;omega)|(apply L4;omega;omega)|apply IE|(apply eT;omega)|(apply EJ;omega)|(apply GZ;omega)|(refine CY (by assumption) ?_ rfl ?_;omega)|refine MX (by assumption) ?_|apply BA)<;>conv=>whnf))
   rw[<-jx];skip;refine TT i (by omega) (by omega) ?_;(conv=>whnf);(repeat' ((first|(apply CJ;omega)|fail)<;>conv=>whnf));exact DE [] (by (conv=>whnf);exact ⟨rfl,rfl,rfl⟩) (ih (i+1) (Z.set i (u+4294967296-(pr%4294967296+b))) (pr/4294967296) 1 (by omega) ⟨by omega,by simpa using p2,p3.set _ (by omega),m1,by omega,ij _,h3⟩)
  ·have h3:=hst u (pr%4294967296+b) (u-(pr%4294967296+b)) 0 rfl (Or.inl ⟨rfl,rfl,by omega⟩) (by omega)
   (repeat' ((first|(apply BR<;>intro hc<;>try (exfalso;omega))|(apply CE;omega)|(apply CJ;omega)|(apply I9;omega)|(apply UN;omega)|(apply sZ;omega)|(apply L4;omega;omega)|apply IE|(apply EJ;omega)|(apply GZ;omega)|(refine CY (by assumption) ?_ rfl ?_;omega)|refine MX (by assumption) ?_|apply BA)<;>conv=>whnf))
   rw[<-jx];skip;refine TT i (by omega) (by omega) ?_;(conv=>whnf);(repeat' ((first|(apply CJ;omega)|fail)<;>conv=>whnf));exact DE [] (by (conv=>whnf);exact ⟨rfl,rfl,rfl⟩) (ih (i+1) (Z.set i (u-(pr%4294967296+b))) (pr/4294967296) 0 (by omega) ⟨by omega,by simpa using p2,p3.set _ (by omega),m1,by omega,ij _,h3⟩)
 ·obtain rfl:i=y.length:=by omega
  clear ih;obtain ⟨u,hu⟩ : ∃ u,Z[y.length]? = some u:=⟨_,zE (by omega)⟩;have hub:=p3.at hu;have Ao:(A++Z++C)[((j:Int)+(y.length:Int)).toNat]? = some u:=Y5 (by omega) hu;have mw:W[y.length]? = some u:=by
   have e1:(Z.drop y.length)[0]? = (W.drop y.length)[0]? := by rw[p6]
   simpa [hu] using e1.symm
  rw[FL (Nat.le_refl y.length)]at p7;have eW:val W=val (W.take y.length)+4294967296^y.length*u:=by
   rw[<-GT mw,FL (by omega)]
  have hst : ∀ have' take w w5,take=c+b->((have'=u/\w5=0/\take<=u)\/(have'=u+4294967296/\w5=1/\u<take))->w+take=have'->val (Z.set y.length w)+q*val y=val W+4294967296^y.length*4294967296*w5:=λ have' take w w5 a1 a2 a3=>by
   have h1:=Akj p7 a1 a2 a3;rw[<-eW,<-I3 (show y.length<Z.length by omega),FL (by simp;omega)]at h1;exact h1
  by_cases e9:u<c+b
  ·have h3:=hst (u+4294967296) (c+b) (u+4294967296-(c+b)) 1 rfl (Or.inr ⟨rfl,rfl,e9⟩) (by omega)
   have uf:CP (Z.set y.length (u+4294967296-(c+b))):=p3.set _ (by omega);have hXl:(Z.set y.length (u+4294967296-(c+b))).length=y.length+1:=by simpa using p2
   rw[Nat.mul_one]at h3;have hU':=HT uf;rw[hXl,Nat.pow_succ]at hU';obtain ⟨y1,y2,y3⟩:=wG q7 r3 hU' h3;(repeat' ((first|(apply BR<;>intro hc<;>try (exfalso;omega))|(apply CE;omega)|(apply CJ;omega)|(apply I9;omega)|(apply L4;omega;omega)|(apply eT;omega)|(apply EJ;omega)|(apply GZ;omega)|refine MX (by assumption) ?_|apply BA)<;>conv=>whnf));refine TT y.length (by omega) (by omega) ?_;(conv=>whnf);(repeat' ((first|(apply BR<;>intro hc<;>try (exfalso;omega))|(apply L4;omega;omega))<;>conv=>whnf));clear p7 p6 eW hu mw hub Ao p2 p3 hst;generalize Z.set y.length (u+4294967296-(c+b))=X at *;have hRV:val W%val y<val y:=Nat.mod_lt _ q7;have qb:=HT al;obtain ⟨xw,rm⟩ : ∃ xw,X[y.length]? = some xw:=⟨_,zE (by omega)⟩;have eX:val X=val (X.take y.length)+4294967296^y.length*xw:=by
    rw[<-GT rm,FL (by omega)]
   have hqb:q-1<4294967296:=by omega
   refine JL (λ i _ _=>y.length-i) (λ(i:Nat) (Z:List Nat) (c:Nat)=>i<=y.length/\Z.length=y.length+1/\CP Z/\c<=1/\Z.drop i=X.drop i/\val (Z.take i)+4294967296^i*c=val (X.take i)+val (y.take i)) (λ i Z c=>[(26,.int .i64 i),(25,.int .u64 (c:Int))]) (λ i Z c=>[(69,101021,.rw 1 ((A++Z++C).map BZ))]) [] [] 0 X 0 (by (conv=>whnf);exact ⟨rfl,rfl,rfl⟩) ⟨by omega,hXl,uf,by omega,rfl,by simp [val]⟩ ?_;intro i Z c ⟨p1,p2,p3,p4,p6,p7⟩ ih;by_cases hi:i<y.length
   ·obtain ⟨d,hd⟩ : ∃ d,y[i]? = some d:=⟨_,zE hi⟩
    obtain ⟨u,hu⟩ : ∃ u,Z[i]? = some u:=⟨_,zE (by omega)⟩;have hdb:=al.at hd;have hub:=p3.at hu;have Ao:(A++Z++C)[((i:Int)+(j:Int)).toNat]? = some u:=Y5 (by omega) hu;have fc:X[i]? = some u:=by
     have e1:(Z.drop i)[0]? = (X.drop i)[0]? := by rw[p6]
     simpa [hu] using e1.symm
    have hab:=tM (d:=d) (w:=u) (t:=c+(u+d)) p7 (by omega);(repeat' ((first|(apply BR<;>intro hc<;>try (exfalso;omega))|(apply CE;omega)|(apply CJ;omega)|(apply I9;omega)|(apply EJ;omega)|apply IU|(refine CY (by assumption) ?_ rfl ?_;omega)|refine MX (by assumption) ?_|apply BA)<;>conv=>whnf));generalize ht2:c+(u+d)=t2 at *;refine TT i (by omega) (by omega) ?_;(conv=>whnf);(repeat' ((first|(apply CJ;omega)|apply IE)<;>conv=>whnf));refine DE [] (by (conv=>whnf);exact ⟨rfl,rfl,rfl⟩) (ih (i+1) (Z.set i (t2%4294967296)) (t2/4294967296) (by omega) ⟨by omega,by simpa using p2,p3.set _ (by omega),by omega,?_,?_⟩)
    ·rw[List.drop_set_of_lt (by omega)]
     have e1:(Z.drop i).drop 1=(X.drop i).drop 1:=by rw[p6]
     simpa using e1
    ·rw[I3 (by omega),GT hd,GT fc,Nat.pow_succ]
     exact hab
   ·obtain rfl:i=y.length:=by omega
    clear ih;obtain ⟨u,hu⟩ : ∃ u,Z[y.length]? = some u:=⟨_,zE (by omega)⟩;have hub:=p3.at hu;have Ao:(A++Z++C)[((j:Int)+(y.length:Int)).toNat]? = some u:=Y5 (by omega) hu;have fc:X[y.length]? = some u:=by
     have e1:(Z.drop y.length)[0]? = (X.drop y.length)[0]? := by rw[p6]
     simpa [hu] using e1.symm
    rw[fc]at rm;obtain rfl:u=xw:=by simpa using rm
    rw[FL (Nat.le_refl y.length)]at p7;have ug:=HT (p3.take y.length);rw[List.length_take,Nat.min_eq_left (by omega)]at ug;rw[eX]at y3;have hend:=tL p7 y3 (by omega) ug;rw[<-I3 (show y.length<Z.length by omega),FL (by simp;omega)]at hend;(repeat' ((first|(apply BR<;>intro hc<;>try (exfalso;omega))|(apply CE;omega)|(apply CJ;omega)|apply sY|(apply GZ;omega)|refine MX (by assumption) ?_|apply BA)<;>conv=>whnf));refine TT y.length (by omega) (by omega) ?_;(conv=>whnf);(repeat' ((first|(apply CE;omega)|(apply GZ;omega))<;>conv=>whnf));refine IA (by omega) ?_;(conv=>whnf);(repeat' ((first|(apply D5;omega)|fail)<;>conv=>whnf));exact DE [] (by (conv=>whnf);exact ⟨rfl,rfl,rfl⟩) (hk _ _ (by simpa using p2) (p3.set _ (by omega)) hend y1)
  ·have h3:=hst u (c+b) (u-(c+b)) 0 rfl (Or.inl ⟨rfl,rfl,by omega⟩) (by omega)
   rw[Nat.mul_zero,Nat.add_zero]at h3;obtain ⟨y1,y2⟩:=wH q7 r2 h3;(repeat' ((first|(apply BR<;>intro hc<;>try (exfalso;omega))|(apply CE;omega)|(apply CJ;omega)|(apply I9;omega)|(apply L4;omega;omega)|(apply EJ;omega)|(apply GZ;omega)|refine MX (by assumption) ?_|apply BA)<;>conv=>whnf));refine TT y.length (by omega) (by omega) ?_;(conv=>whnf);(repeat' ((first|(apply BR<;>intro hc<;>try (exfalso;omega))|(apply CE;omega)|(apply GZ;omega))<;>conv=>whnf));refine IA (by omega) ?_;(conv=>whnf);(repeat' ((first|(apply D5;omega)|fail)<;>conv=>whnf));exact DE [] (by (conv=>whnf);exact ⟨rfl,rfl,rfl⟩) (hk _ _ (by simpa using p2) (p3.set _ (by omega)) y2 y1)
theorem Zu (hA:A.length=j) (hW:W.length=y.length+1) (D2:CP W) (al:CP y) (bj:2<=y.length) (lv:y.length<=549755813888) (q7:0<val y) (hjl:j<=1099511627776)
  (n2:4294967296^(y.length-1)*2147483648<=val y) (g2:val W<4294967296*val y) (hul:ul=j+(y.length+1)+C.length) (Au:w.length=m) (Aj:j<m)
  (hk : ∀ (W':List Nat) (q':Nat),W'.length=y.length+1->CP W'->val W'=val W%val y->q'=val W/val y->AH L gU (gV y s ul m ((j:Int)-1)) [(69,101021,.rw 1 ((A++W'++C).map BZ)),(85,85,.rw 1 ((w.set j q').map BZ))] Q) :
  AH L (.code GI.l2::gU) (gV y s ul m (j:Int)) [(69,101021,.rw 1 ((A++W++C).map BZ)),(85,85,.rw 1 (w.map BZ))] Q:=by
 obtain ⟨UL,a1,a2⟩:=kL D2 (n:=y.length+1) (by omega) (by omega);obtain ⟨VL,b5,b6⟩:=Ot al (n:=y.length) bj (by omega);obtain ⟨u0,w0⟩ : ∃ d,W[y.length]? = some d:=⟨_,zE (by omega)⟩;obtain ⟨u1,w1⟩ : ∃ d,W[y.length-1]? = some d:=⟨_,zE (by omega)⟩;obtain ⟨u2,w2⟩ : ∃ d,W[y.length-2]? = some d:=⟨_,zE (by omega)⟩;obtain ⟨f1,x1⟩ : ∃ d,y[y.length-1]? = some d:=⟨_,zE (by omega)⟩;obtain ⟨f2,x2⟩ : ∃ d,y[y.length-2]? = some d:=⟨_,zE (by omega)⟩;rw[show y.length+1-3=y.length-2 by omega,show y.length+1-2=y.length-1 by omega,show y.length+1-1=y.length by omega,JP w0,JP w1,JP w2]at a2;rw[show y.length+1-3=y.length-2 by omega]at a1;rw[JP x1,JP x2]at b6;have km:=Oe al (k:=y.length-1) (by omega) n2 x1;have k0:=D2.at w0;have k1:=D2.at w1;have k2:=D2.at w2;have k3:=al.at x1;have k4:=al.at x2;have z1:y[((y.length:Int)-1).toNat]? = some f1:=by rw[show ((y.length:Int)-1).toNat=y.length-1 by omega];exact x1
 have z2:y[((y.length:Int)-2).toNat]? = some f2:=by rw[show ((y.length:Int)-2).toNat=y.length-2 by omega];exact x2
 have hr0:(A++W++C)[((j:Int)+(y.length:Int)).toNat]? = some u0:=Y5 (by omega) w0;(repeat' ((first|(apply BR<;>intro hc<;>try (exfalso;omega))|(apply CE;omega)|(apply CJ;omega)|(apply D5;omega)|(apply TS;omega)|(apply EJ;omega)|refine MX (by assumption) ?_|apply BA)<;>conv=>whnf));have v3:(A++W++C)[((j:Int)+(y.length:Int)-1).toNat]? = some u1:=Y5 (by omega) w1;refine Uz v3 ?_;(conv=>whnf);refine sP (by omega) ?_;(conv=>whnf);refine UP (by omega) ?_;(conv=>whnf);clear hr0 v3;have v7:(A++W++C)[((j:Int)+(y.length:Int)-2).toNat]? = some u2:=Y5 (by omega) w2;generalize Hh:u0*4294967296+u1=top at *;have htb:top<=18446744073709551615:=by omega
 have hU:val W=UL+4294967296^(y.length-2)*(u2+4294967296*top):=by rw[a2,show u1+4294967296*u0=top by omega]
 (repeat' ((first|(apply D5;omega)|(apply bC;omega)|(apply fA;omega;omega)|(apply EJ;omega)|(refine CY (by assumption) ?_ rfl ?_;omega))<;>conv=>whnf))
 refine I4 (λ q _=>q) (λ(q r:Nat)=>Gs (val W) (val y) f1 f2 u2 top q r) (λ q r=>[(16,.int .u64 (q:Int)),(17,.int .u64 (r:Int))]) (λ_ _=>[]) [] [] (top/f1) (top%f1) (by (conv=>whnf);exact ⟨rfl,rfl,rfl⟩) (Gs.start hU b6 a1 k2 q7 (by omega) k3) ?_;intro q r g gp;have hqt:q<=top:=by
  have h3:=g.hq;have h4:q*1<=q*f1:=Nat.mul_le_mul_left q (by omega);omega
 have hr:=g.hr;have fp:=g.ge;by_cases hb:4294967296<=q
 ·obtain ⟨y1,y2,y3⟩:=g.next hU b6 a1 q7 g2 (Or.inl hb)
  (repeat' ((first|(apply BR<;>intro hc<;>try (exfalso;omega))|(apply D5;omega)|(apply I9;omega)|(apply L4;omega;omega)|(apply EJ;omega)|(refine CY (by assumption) ?_ rfl ?_;omega)|apply BA)<;>conv=>whnf))
  ·obtain ⟨t1,t2⟩:=Z3 hU b6 b5 km k4 g2 y2 (Or.inr (by omega))
   exact DE [] (by (conv=>whnf);exact ⟨rfl,rfl,rfl⟩) (mJ (w:=w) (C:=C) hA hW D2 al bj lv q7 hjl hul Au Aj t1 y3 t2 hk)
  ·exact DE [] (by (conv=>whnf);exact ⟨rfl,rfl,rfl⟩) (gp (q-1) (r+f1) (by omega) ⟨y2,by omega,y3⟩)
 ·have hmq:=Z9 (show q<4294967296 by omega) k4
  by_cases m7:r*4294967296+u2<q*f2
  ·obtain ⟨y1,y2,y3⟩:=g.next hU b6 a1 q7 g2 (Or.inr m7)
   (repeat' ((first|(apply BR<;>intro hc<;>try (exfalso;omega))|(apply CE;omega)|(apply CJ;omega)|(apply D5;omega)|(apply I9;omega)|(apply UN;omega)|(apply TS;omega)|(apply UP;omega)|(apply L4;omega;omega)|(apply EJ;omega)|(refine CY (by assumption) ?_ rfl ?_;omega)|refine MX (by assumption) ?_|apply BA)<;>conv=>whnf))
   ·obtain ⟨t1,t2⟩:=Z3 hU b6 b5 km k4 g2 y2 (Or.inr (by omega))
    exact DE [] (by (conv=>whnf);exact ⟨rfl,rfl,rfl⟩) (mJ (w:=w) (C:=C) hA hW D2 al bj lv q7 hjl hul Au Aj t1 y3 t2 hk)
   ·exact DE [] (by (conv=>whnf);exact ⟨rfl,rfl,rfl⟩) (gp (q-1) (r+f1) (by omega) ⟨y2,by omega,y3⟩)
  ·obtain ⟨t1,t2⟩:=Z3 hU b6 b5 km k4 g2 g.hq (Or.inl ⟨by omega,by omega⟩)
   (repeat' ((first|(apply BR<;>intro hc<;>try (exfalso;omega))|(apply CE;omega)|(apply CJ;omega)|(apply D5;omega)|(apply UN;omega)|(apply TS;omega)|(apply UP;omega)|(apply EJ;omega)|(refine CY (by assumption) ?_ rfl ?_;omega)|refine MX (by assumption) ?_|apply BA)<;>conv=>whnf))
   exact DE [] (by (conv=>whnf);exact ⟨rfl,rfl,rfl⟩) (mJ (w:=w) (C:=C) hA hW D2 al bj lv q7 hjl hul Au Aj t1 fp t2 hk)
end
theorem AlR {l:List Nat} (hD:CP l) (h:l[l.length-1]? = some 0):val l<4294967296^(l.length-1):=by
 have hl:=(zS h).1;have h1:=NQ l (l.length-1) (by omega);have h2:=KI h;rw[List.drop_of_length_le (show l.length<=l.length-1+1 by omega),L2]at h2;rw[h2]at h1;simp only[Nat.mul_zero,Nat.add_zero]at h1;have h3:=HT (hD.take (l.length-1));rw[List.length_take,Nat.min_eq_left (by omega)]at h3;omega
theorem wK (N:c6 L) {X Y s:Nat} {x u y:List Nat} (hY:Y≠0) (x8:s<=31) (Ab:CP u) (Ad:val u=X*2^s) (hU0:u[u.length-1]? = some 0) (hul:x.length+1<=u.length/\u.length<=549755813888) (al:CP y) (Ae:val y=Y*2^s) (hvl:2<=y.length/\y.length<=x.length) (n2:4294967296^(y.length-1)*2147483648<=val y) :
  AH L Zs [(10,.row 69 0 1 0 u.length),(11,.sl false (y.map BZ)),(9,.int .i64 (s:Int)),(0,.sl false (x.map BZ))] [(69,101021,.rw 1 (u.map BZ))] (V3 GI (.tup [.sl false ((dg (X/Y)).map BZ),.sl false ((dg (X%Y)).map BZ),.int .i64 0])):=by
 refine DG (λ(_:Nat)=>0) (λ_=>True) (λ_=>[]) (λ_=>[]) [] [] 0 (by (conv=>whnf);exact ⟨rfl,rfl,rfl⟩) trivial ?_;intro _ _ _;(repeat' ((first|(apply BR<;>intro hc<;>try (exfalso;omega))|(apply CJ;omega)|(apply D5;omega)|apply CB|apply BA)<;>conv=>whnf));refine GU (enc:=BZ) 0 (u.length-y.length) (by rfl) (by omega) (by omega) ?_;(conv=>whnf);(repeat' ((first|(apply D5;omega)|fail)<;>conv=>whnf));have q7:0<val y:=by
  have:=Kw (y.length-1)
  omega
 have qe:=HT al;generalize hm:u.length-y.length=m at *;have gl:val (u.drop m)<val y:=by
  have h1:(u.drop m).length=y.length:=by simp;omega
  have h2:=AlR (l:=u.drop m) (Ab.drop _) (by rw[h1,List.getElem?_drop,show m+(y.length-1)=u.length-1 by omega];exact hU0);rw[h1]at h2;omega
 rw[show (u.length:Int)-y.length-1=((m:Nat):Int)-1 by omega];refine JL (λ n _ _=>n) (λ(n:Nat) (o w:List Nat)=>n<=m/\o.length=u.length/\CP o/\w.length=m/\CP w/\val (o.drop n)<val y/\X*2^s=val (o.take n)+4294967296^n*(val (w.drop n)*val y+val (o.drop n))) (λ n o w=>[(14,.int .i64 ((n:Int)-1))]) (λ n o w=>[(69,101021,.rw 1 (o.map BZ)),(85,85,.rw 1 (w.map BZ))]) [] [] m u (List.replicate m 0) (by (conv=>whnf);exact ⟨rfl,rfl,rfl⟩) ⟨by omega,rfl,Ab,by simp,MF _,gl,by rw[<-Ad,List.drop_of_length_le (show (List.replicate m 0).length<=m by simp),L2,Nat.zero_mul,Nat.zero_add];exact NQ u m (by omega)⟩ ?_;intro n o w ⟨p1,p2,p3,p4,p5,p6,p7⟩ ih;rcases n with _|j
 ·clear ih
  rw[List.drop_zero]at p6;rw[List.take_zero,List.drop_zero,List.drop_zero,L2,Nat.zero_add,Nat.pow_zero,Nat.one_mul]at p7;have ij:val o=val (o.take y.length):=by
   have h1:=Y3 o y.length;rcases Nat.eq_zero_or_pos (val (o.drop y.length)) with h2|h2
   ·rw[h2,Nat.mul_zero,Nat.add_zero]at h1;exact h1
   ·have h3:4294967296^y.length*1<=4294967296^y.length*val (o.drop y.length):=Nat.mul_le_mul_left _ h2
    omega
  have my:X/Y=val w/\X%Y=val o/2^s:=by
   obtain ⟨z1,z2⟩:=wJ (X:=X) (Y:=Y) (Nat.two_pow_pos s);rw[<-z1,<-z2,<-Ae,p7];have e1:(val w*val y+val o)/val y=val w:=by
    rw[Nat.mul_comm,Nat.mul_add_div q7,Nat.div_eq_of_lt p6,Nat.add_zero]
   have e2:(val w*val y+val o)%val y=val o:=by
    rw[Nat.mul_comm,Nat.mul_add_mod,Nat.mod_eq_of_lt p6]
   rw[e1,e2];exact ⟨rfl,rfl⟩
  rw[my.1,my.2,ij];have hT:=λ q=>JG N w q p5 (by omega)
  have htl:(o.take y.length).length<=549755813888:=by rw[List.length_take];omega
  clear p7 my gl;rw[<-p4];rcases Nat.eq_zero_or_pos s with h0|h0
  ·subst h0
   have hS:=λ q=>yL N (o.take y.length) q 0 (p3.take _) htl (by omega)
   rw[Nat.pow_zero,Nat.mul_one]at hS;rw[Nat.pow_zero,Nat.div_one];(repeat' ((first|(apply BR<;>intro hc<;>try (exfalso;omega))|(refine GK (λ_=>rfl) rfl ?_ ?_;(first|rfl|simp))|apply BA|refine BH (hT _) ?_)<;>conv=>whnf));refine JM y.length rfl (by omega) ?_;(conv=>whnf);refine EZ.neg (by omega) ?_;(conv=>whnf);refine J5 (enc:=BZ) (λ_=>rfl) (by omega) ?_;(conv=>whnf);rw[List.drop_zero,Nat.sub_zero,show -((0:Nat):Int)=((0:Nat):Int) by omega];(repeat' (refine BH (hS _) ?_<;>conv=>whnf));exact CK rfl (gL _ _ _)
  ·have hS:=λ q=>Aif N (o.take y.length) q s (p3.take _) htl (by omega)
   (repeat' ((first|(apply BR<;>intro hc<;>try (exfalso;omega))|(refine GK (λ_=>rfl) rfl ?_ ?_;(first|rfl|simp))|apply BA|refine BH (hT _) ?_)<;>conv=>whnf))
   refine JM y.length rfl (by omega) ?_;(conv=>whnf);refine EZ.neg (by omega) ?_;(conv=>whnf);refine J5 (enc:=BZ) (λ_=>rfl) (by omega) ?_;(conv=>whnf);rw[List.drop_zero,Nat.sub_zero];(repeat' (refine BH (hS _) ?_<;>conv=>whnf));exact CK rfl (gL _ _ _)
 ·have e3:((j+1:Nat):Int)-1=j:=by omega
  rw[e3];obtain ⟨A,W,C,hA,hW,rfl⟩:=xD o j (y.length+1) (by omega);obtain ⟨g1,g2,g3⟩:=xG hA hW p3 p6 qe;obtain ⟨D1,D2,D3⟩:=wF p3;have hqb:val W/val y<4294967296:=(Nat.div_lt_iff_lt_mul q7).2 g2;have Fh:val W=val W/val y*val y+val W%val y:=by rw[Nat.mul_comm];exact (Nat.div_add_mod _ _).symm
  have hWl:val W%val y<val y:=Nat.mod_lt _ q7;have qa:X*2^s=val A+4294967296^j*val W+4294967296^j*4294967296*(val (w.drop (j+1))*val y):=by
   rw[p7,Nat.mul_add,<-g3,Nat.pow_succ];omega
  have jb:=xF qa Fh;have nn : ∀ q',q'=val W/val y->val ((w.set j q').drop j)=val W/val y+4294967296*val (w.drop (j+1)):=λ q' h=>by
   rw[KI (l:=w.set j q') (d:=q') (by rw[List.getElem?_set_self (by omega)]),List.drop_set_of_lt (by omega),h]
  have hlen : ∀ W':List Nat,W'.length=y.length+1->(A++W'++C).length=u.length:=λ W' h=>by
   rw[<-p2];simp [h,hW]
  have Qh:u.length=j+(y.length+1)+C.length:=by rw[<-p2];simp [hA,hW];omega
  refine DE [] (by (conv=>whnf);exact ⟨rfl,rfl,rfl⟩) (Zu (m:=m) (s:=s) (ul:=u.length) (C:=C) hA hW D2 al hvl.1 (by omega) q7 (by omega) n2 g2 Qh p4 (by omega) (λ W' q' z1 z2 z3 z4 => ?_));obtain ⟨t1,t2⟩:=mP (A:=A) (W:=W') (C:=C) (j:=j) hA g1;refine DE [] (by (conv=>whnf);exact ⟨rfl,rfl,rfl⟩) (ih j (A++W'++C) (w.set j q') (by omega) ⟨by omega,hlen W' z1,(D1.append z2).append D3,by simpa using p4,p5.set _ (by omega),by omega,?_⟩);rw[t1,t2,nn q' z4,z3];exact jb
end Go.Eng
namespace Go.Eng
open F
attribute [local irreducible] AH BJ B1 BD EZ CF CG CR CU DW B5 DT EG F7 DM CQ DR EE AR CW BW pw DC C9 EI ET E1 E7 EW D4 E8
variable {L:Lib}
set_option maxHeartbeats 8000000
theorem yJ (N:c6 L) (a b:List Nat) (q1 q2:Bool) (hA:CP a) (hB:CP b) (la:a.length<=274877906944) (lb:b.length<=274877906944) (h0:val b≠0) :
  Ev L 109 [.sl q1 (a.map BZ),.sl q2 (b.map BZ)] (.tup [.sl false ((dg (val a/val b)).map BZ),.sl false ((dg (val a%val b)).map BZ),.int .i64 0]):=by
 have t1:=λ q=>JG N a q hA (by omega)
 have t2:=λ q=>JG N b q hB (by omega)
 have l1:=HL hA;have l2:=HL hB;have e8:=λ q q'=>nI N (dg (val a)) (dg (val b)) q q' (GR _) (GR _) (by omega) (by omega)
 rw[DP,DP]at e8;generalize val a=X at *;generalize val b=Y at *;have d1:=GR X;have d2:=GR Y;have v1:=DP X;have v2:=DP Y;have hy1:=cC h0;refine Ev.x N.GI rfl rfl ?_;by_cases h1:(dg Y).length=1
 ·obtain ⟨y0,fx⟩ : ∃ y0,dg Y=[y0]:=List.length_eq_one_iff.1 h1
  have im:Y=y0:=by rw[<-v2,fx];simp [val]
  subst im;have hyb:Y<4294967296:=d2 Y (by rw[fx];simp);have hyg:(dg Y)[(0:Int).toNat]? = some Y:=by rw[fx];rfl
  have Qm:=λ q=>Aig N (dg X) Y q d1 (by omega) h0 hyb
  rw[v1]at Qm;have hrb:X%Y<4294967296:=Nat.lt_trans (Nat.mod_lt _ (by omega)) hyb;have hT3:=λ q=>JG N [X%Y] q (KQ hrb) (by simp)
  rw[show val [X%Y]=X%Y by simp [val]]at hT3;clear fx v2;generalize dg Y=y at *;(repeat' ((first|(apply BR<;>intro hc<;>try (exfalso;omega))|apply CB|(refine CY (by assumption) ?_ rfl ?_;omega)|refine KM rfl ?_|apply BA|refine BH (t1 _) ?_|refine BH (t2 _) ?_|refine BH (Qm _) ?_|refine BH (hT3 _) ?_)<;>conv=>whnf));exact CK rfl (gL _ _ _)
 by_cases e9:X<Y
 ·rw[<-LL (by omega)]at e8
  (repeat' ((first|(apply BR<;>intro hc<;>try (exfalso;omega))|apply CB|apply BA|refine BH (t1 _) ?_|refine BH (t2 _) ?_|refine BH (e8 _ _) ?_)<;>conv=>whnf))
  refine CK ?_ (gL _ _ _);rw[Nat.div_eq_of_lt e9,Nat.mod_eq_of_lt e9,HS];rfl
 have fp:=gM (show Y<=X by omega);generalize FI X Y=cm at *;have Al:2<=(dg Y).length:=by omega
 obtain ⟨yt,lz,nr⟩:=mG h0;have ma:=d2.at lz;obtain ⟨b1,b2,b3,b4⟩:=oQ nr ma;have hbl:=λ q=>Aic N yt q nr ma
 generalize hs:32-l7 yt=s at *;have x8:s<=31:=by omega
 have He:=λ q=>yL N (dg Y) q s d2 (by omega) (by omega)
 obtain ⟨n1,n2⟩:=oN d2 lz (by omega) x8 b3 b4;rw[v2]at He n1 n2;have ij:(dg Y).drop ((dg Y).length-1)=[yt]:=by
  obtain ⟨hi,he⟩:=zS lz;rw[List.drop_eq_getElem_cons hi,he,List.drop_of_length_le (by omega)]
 have hvl:(dg (Y*2^s)).length=(dg Y).length:=by
  have a1:=T7.2 n1;have a2 : ¬ (dg (Y*2^s)).length<=(dg Y).length-1:=λ h=>by
   have:=T7.1 h
   omega
  omega
 have Asc:(dg (X*2^s)).length<=(dg X).length+1:=by
  refine T7.2 ?_;have a1:X<4294967296^(dg X).length:=T7.1 (Nat.le_refl _);rw[Nat.pow_succ];have a2:=dN (s:=s) (by omega);exact Nat.lt_of_lt_of_le (Nat.mul_lt_mul_of_pos_right a1 (Nat.two_pow_pos s)) (Nat.mul_le_mul_left _ a2)
 have hXl:(dg X).length<=(dg (X*2^s)).length:=V9 (Nat.le_mul_of_pos_right _ (Nat.two_pow_pos s));have nf:=V9 (show Y<=X by omega);generalize hx:dg X=x at *;generalize hy:dg Y=y at *;have t3:=λ q=>JG N x q d1 (by omega)
 rw[v1,hx]at t3;(repeat' ((first|(apply BR<;>intro hc<;>try (exfalso;omega))|(apply D5;omega)|apply CB|apply BA|refine BH (t1 _) ?_|refine BH (t2 _) ?_|refine BH (e8 _ _) ?_)<;>conv=>whnf));rw[show (y.length:Int)-1=((y.length-1:Nat):Int) by omega];refine Vr (k:=y.length-1) (λ_=>rfl) (by omega) ?_;(conv=>whnf);rw[ij];(repeat' ((first|(apply D5;omega)|refine BH (hbl _) ?_)<;>conv=>whnf));rw[show (32:Int)-(l7 yt:Nat)=((s:Nat):Int) by omega];refine HI 1000 N.LU rfl rfl ?_;have nq:(s:Int)/32=((0:Nat):Int):=by omega
 have hsr:(s:Int)%32=((s:Nat):Int):=by omega
 (repeat' ((first|(apply BR<;>intro hc<;>try (exfalso;omega))|(refine XA ?_ ?_ (λ_ => ?_) (λ_ _ => ?_);omega;omega;all_goals try (exfalso;omega))|apply CB|apply BA|refine BH (t3 _) ?_)<;>conv=>whnf))
 rw[nq];refine GU (enc:=BZ) 0 0 rfl rfl (by omega) ?_;(conv=>whnf);skip;refine JL (λ i _ _=>x.length-i) (λ(i:Nat) (o:List Nat) (c:Nat)=>i<=x.length/\o.length=i/\CP o/\c<2^s/\val o+4294967296^i*c=val (x.take i)*2^s) (λ i o c=>[(10,.int .i64 i),(9,.int .u64 (c:Int)),(8,.row 107069 0 1 0 i)]) (λ i o c=>[(107069,107069,.rw 1 (o.map BZ))]) [] [] 0 [] 0 (by (conv=>whnf);exact ⟨rfl,rfl,rfl⟩) ⟨by omega,rfl,T8,Nat.two_pow_pos _,by simp [val]⟩ ?_;intro i o c ⟨p1,p2,p3,p4,p5⟩ ih;have jy:=dN (s:=s) (by omega);by_cases hi:i<x.length
 ·obtain ⟨d,hd⟩ : ∃ d,x[i]? = some d:=⟨_,zE hi⟩
  have hdb:=d1.at hd;obtain ⟨f1,f2,f3,f4⟩:=YS (s:=s) hdb (by omega);have hr:=iT (show s<=64 by omega) f4;(repeat' ((first|(apply BR<;>intro hc<;>try (exfalso;omega))|(refine ZG ?_ (λ_ _ _ => ?_) (λ_ _ _ _ => ?_);omega;all_goals try (exfalso;omega))|(apply EJ;omega)|apply CB|(refine CY (by assumption) ?_ rfl ?_;omega)|apply BA)<;>conv=>whnf));rw[hsr];refine UR (by omega) f4 ?_;(conv=>whnf);skip;refine eV s (Nat.mul_mod_left _ _) p4 (by omega) ?_;(conv=>whnf);have hst:=On (d:=d) (P:=1) (V:=val o) (p:=4294967296^i) (lo:=c) (X:=val (x.take i)) (s:=s) (by rw[Nat.one_mul,Nat.one_mul];exact p5) rfl;have hc2:(c+d*2^s)/4294967296<2^s:=by
   rw[Nat.div_lt_iff_lt_mul (by omega)];have:=Nat.mul_le_mul_right (2^s) (show d<=4294967295 by omega);omega
  generalize c+d*2^s=t at *;(repeat' ((first|apply IU|apply G0)<;>conv=>whnf));refine HP (enc:=BZ) (t%4294967296) rfl p2.symm rfl (by omega) (by omega) ?_;(conv=>whnf);(repeat' ((first|(apply CJ;omega)|apply IE)<;>conv=>whnf));rw[show (o++[t%4294967296]).length=i+1 by simp [p2]];refine DE [(107069,107091)] (by (conv=>whnf);exact ⟨rfl,rfl,rfl⟩) (ih (i+1) (o++[t%4294967296]) (t/4294967296) (by omega) ⟨by omega,by simp;omega,p3.append (KQ (by omega)),hc2,?_⟩);rw[TK,p2,GT hd,Nat.pow_succ];rw[Nat.one_mul,Nat.one_mul]at hst;exact hst
 obtain rfl:i=x.length:=by omega
 clear ih;have hcb:c<4294967296:=by omega
 have hOD:CP (o++[c]):=p3.append (KQ hcb);have ud:val (o++[c])=X*2^s:=by
  rw[TK,p2,p5,FL (Nat.le_refl _),v1]
 have uc:(o++[c]).length=x.length+1:=by simp [p2]
 (repeat' ((first|(apply BR<;>intro hc<;>try (exfalso;omega))|(apply GZ;omega)|apply CB|apply G0|apply BA)<;>conv=>whnf))
 refine HP (enc:=BZ) c rfl p2.symm rfl (by omega) (by omega) ?_;(conv=>whnf);rw[uc];generalize o++[c]=O at *;rw[<-uc];clear p3 p4 p5;refine HI 1000 N.KZ rfl rfl ?_;(repeat' (apply BA<;>conv=>whnf));refine DG (λ n=>n) (λ(n:Nat)=>n<=(O).length /\ ∀ i,n<=i->i<(O).length->(O)[i]? = some 0) (λ n=>[(3,.int .i64 n)]) (λ_=>[]) [] [] (O).length (by (conv=>whnf);exact ⟨rfl,rfl,rfl⟩) ⟨Nat.le_refl _,λ i h1 h2=>by omega⟩ ?_;intro n ⟨p1,p2⟩ ih;rcases n with _|n
 ·(repeat' ((first|(apply BR<;>intro hc<;>try (exfalso;omega))|apply BA)<;>conv=>whnf))
  refine JM 0 (by omega) (by omega) ?_;(conv=>whnf);have u5:=JE (l:=O) (by assumption) p1 p2 (Or.inl rfl);have hcl:(List.take 0 O).length<=(O).length:=by rw[List.length_take];omega
  clear ih p2;refine fI (enc:=BZ) (by omega) ?_;(conv=>whnf);rw[List.drop_zero,Nat.sub_zero];generalize hT0:List.take 0 O=T0 at *;refine VW (enc:=BZ) (λ_=>rfl) (by omega) (by omega) ?_;(conv=>whnf);refine ⟨rfl,_,rfl,?_⟩;(conv=>whnf);(refine ⟨rfl,_,rfl,?_⟩;(conv=>whnf);(repeat' ((first|apply G0|refine BH (He _) ?_)<;>conv=>whnf));refine HP (enc:=BZ) 0 rfl rfl rfl (by omega) (by omega) ?_;(conv=>whnf);rw[ud]at u5;rw[u5];exact DE [] (by (conv=>whnf);exact ⟨rfl,rfl,rfl⟩) (wK N (x:=x) (X:=X) (Y:=Y) (s:=s) (u:=dg (X*2^s)++[0]) (y:=dg (Y*2^s)) h0 x8 ((GR _).append (KQ (by omega))) (by rw[TK,DP,Nat.mul_zero,Nat.add_zero]) (by simp) (by simp;omega) (GR _) (DP _) (by omega) (by rw[DP,hvl];exact n2)))
 ·have e1:((n+1:Nat):Int)-1=n:=by omega
  (repeat' ((first|(apply BR<;>intro hc<;>try (exfalso;omega))|(apply CE;omega)|(apply D5;omega)|(refine W9 (by assumption) ?_ (λ v hv hb => ?_);omega)|apply BA)<;>conv=>whnf))
  ·rw[e1]
   exact C7 [] (ih n (by omega) ⟨by omega,λ i h1 h2=>by
    by_cases h:i=n
    ·subst h
     rw[e1,Int.toNat_natCast]at hv;rw[hv];congr 1;omega
    ·exact p2 i (by omega) h2⟩)
  ·refine JM (n+1) (by omega) (by omega) ?_
   (conv=>whnf)
   rw[e1,Int.toNat_natCast]at hv;have u5:=JE (l:=O) (by assumption) p1 p2 (Or.inr ⟨_,hv,by omega⟩);have hcl:(List.take (n+1) O).length<=(O).length:=by rw[List.length_take];omega
   clear ih p2 hv;(rw[tT (l:=O)];rotate_left;exact rfl;exact rfl);(conv=>whnf);refine fI (enc:=BZ) (by omega) ?_;(conv=>whnf);rw[List.drop_zero,Nat.sub_zero];generalize hT0:List.take (n+1) O=T0 at *;refine VW (enc:=BZ) (λ_=>rfl) (by omega) (by omega) ?_;(conv=>whnf);refine ⟨rfl,_,rfl,?_⟩;(conv=>whnf);(refine ⟨rfl,_,rfl,?_⟩;(conv=>whnf);(repeat' ((first|apply G0|refine BH (He _) ?_)<;>conv=>whnf));refine HP (enc:=BZ) 0 rfl rfl rfl (by omega) (by omega) ?_;(conv=>whnf);rw[ud]at u5;rw[u5];exact DE [] (by (conv=>whnf);exact ⟨rfl,rfl,rfl⟩) (wK N (x:=x) (X:=X) (Y:=Y) (s:=s) (u:=dg (X*2^s)++[0]) (y:=dg (Y*2^s)) h0 x8 ((GR _).append (KQ (by omega))) (by rw[TK,DP,Nat.mul_zero,Nat.add_zero]) (by simp) (by simp;omega) (GR _) (DP _) (by omega) (by rw[DP,hvl];exact n2)))
theorem Aid (N:c6 L) (a b:List Nat) (q1 q2:Bool) (hA:CP a) (hB:CP b) (la:a.length<=274877906944) (lb:b.length<=274877906944) :
  Ev L 110 [.sl q1 (a.map BZ),.sl q2 (b.map BZ)] (.sl false ((dg (Nat.gcd (val a) (val b))).map BZ)):=by
 have t1:=λ q=>JG N a q hA (by omega)
 have t2:=λ q=>JG N b q hB (by omega)
 have l1:=HL hA;have l2:=HL hB;generalize val a=X at *;generalize val b=Y at *;refine Ev.x N.Q5 rfl rfl ?_;(repeat' ((first|apply BA|refine BH (t1 _) ?_|refine BH (t2 _) ?_)<;>conv=>whnf));refine I4 (λ_ y=>y) (λ(x y:Nat)=>(dg x).length<=274877906944/\(dg y).length<=274877906944/\Nat.gcd x y=Nat.gcd X Y) (λ x y=>[(0,.sl false ((dg x).map BZ)),(1,.sl false ((dg y).map BZ))]) (λ_ _=>[]) [] [] X Y (by (conv=>whnf);exact ⟨rfl,rfl,rfl⟩) ⟨by omega,by omega,rfl⟩ ?_;intro x y ⟨p1,p2,p3⟩ ih;rw[<-p3];by_cases h0:y=0
 ·subst h0
  have hl0:(dg 0).length=0:=by rw[HS];rfl
  clear ih;rw[Nat.gcd_zero_right];(repeat' ((first|(apply BR<;>intro hc<;>try (exfalso;omega))|apply CB|apply BA)<;>conv=>whnf));exact CK rfl (M3 _)
 ·have hp:=cC h0
  have hD:=λ q q'=>yJ N (dg x) (dg y) q q' (GR _) (GR _) p1 p2 (by rw[DP];exact h0)
  rw[DP,DP]at hD;have e9:x%y<y:=Nat.mod_lt _ (by omega);have hml:=V9 (Nat.le_of_lt e9);(repeat' ((first|(apply BR<;>intro hc<;>try (exfalso;omega))|apply CB|apply BA|refine BH (hD _ _) ?_)<;>conv=>whnf));rw[p3];exact C7 [] (ih y (x%y) e9 ⟨p2,by omega,by rw[cY];exact p3⟩)
theorem M4 (N:c6 L) (n q:Bool) (m:List Nat) (hm:Sm 274877906944 m):Ev L 111 [.agg (rZ q n m)] (.agg (eZ (zv n m))):=by
 have hT:=λ q=>JG N m q hm.1 (by have:=hm.2;omega)
 have hz:=LM (val m);have ha:=HO n m;refine Ev.x N.RK rfl rfl ?_;cases n
 ·rw[HD]at *
  (repeat' ((first|apply BA|refine BH (hT _) ?_)<;>conv=>whnf))
  exact CK (HF ha.symm (JI (by omega))) (GC _)
 ·rw[UJ]at *
  (repeat' ((first|(apply BR<;>intro hc<;>try (exfalso;omega))|apply CB|apply BA|refine BH (hT _) ?_)<;>conv=>whnf))
  ·exact CK (HF ha.symm (SZ (by omega))) (GC _)
  ·exact CK (HF ha.symm (JI (by omega))) (GC _)
theorem cN (N:c6 L) (n q:Bool) (m:List Nat) (hm:Sm 274877906944 m):Ev L 113 [.agg (rZ q n m)] (.int .i64 (sgn (zv n m))):=by
 have hT:=λ q=>M4 N n q m hm
 generalize zv n m=z at *;have hz:=LM z.natAbs;refine Ev.x N.RI rfl rfl ?_;(repeat' ((first|(apply BR<;>intro hc<;>try (exfalso;omega))|apply CB|apply BA|refine BH (hT _) ?_)<;>conv=>whnf))
 ·exact FF (jS (by omega))
 ·cases hd:decide (z<0)
  ·(conv=>whnf)
   exact FF (qK (by have:=of_decide_eq_false hd;omega))
  ·(conv=>whnf)
   exact FF (qJ (of_decide_eq_true hd))
theorem nK (N:c6 L) (n q:Bool) (m:List Nat) (hm:Sm 274877906944 m):Ev L 114 [.agg (rZ q n m)] (.agg (eZ (-(zv n m)))):=by
 have hT:=λ q=>M4 N n q m hm
 generalize zv n m=z at *;have hz:=LM z.natAbs;refine Ev.x N.RE rfl rfl ?_;(repeat' ((first|apply BA|refine BH (hT _) ?_)<;>conv=>whnf));cases hd:decide (z<0)
 ·have h1:=of_decide_eq_false hd
  (conv=>whnf)
  (repeat' ((first|(apply BR<;>intro hc<;>try (exfalso;omega))|apply CB)<;>conv=>whnf))
  ·exact CK (HF (by omega) (SZ (by omega))) (GC _)
  ·exact CK (HF (by omega) (JI (by omega))) (GC _)
 ·have h1:=of_decide_eq_true hd
  (conv=>whnf)
  skip
  exact CK (HF (by omega) (JI (by omega))) (GC _)
theorem U7 (N:c6 L) (n1 n2 q1 q2:Bool) (a b:List Nat) (ha:CP a) (hb:CP b) (hl:a.length+b.length<=274877906944):Ev L 118 [.agg (rZ q1 n1 a),.agg (rZ q2 n2 b)] (.agg (eZ (zv n1 a*zv n2 b))):=by
 have h1:=λ q q'=>Aie N a b q q' ha hb (by omega)
 have sa:Sm a.length a:=⟨ha,Nat.le_refl _⟩;have sb:Sm b.length b:=⟨hb,Nat.le_refl _⟩;have hT:=λ n q=>M4 N n q (dg (val a*val b)) ((sa.mul sb rfl).le hl)
 have e : ∀ n,zv n (dg (val a*val b))=bif n then -((val a*val b:Nat):Int) else ((val a*val b:Nat):Int):=λ n=>by unfold zv;rw[DP]
 have e2:zv n1 a*zv n2 b=zv (n1 != n2) (dg (val a*val b)):=by
  rw[e];cases n1<;>cases n2<;>simp [HD,UJ,Int.mul_neg,Int.neg_mul]
 rw[e2];refine Ev.x N.RD rfl rfl ?_;cases n1<;>cases n2;all_goals
  (repeat' ((first|apply BA|refine BH (h1 _ _) ?_|refine BH (hT _ _) ?_)<;>conv=>whnf))
  exact CK rfl (GC _)
theorem yM (N:c6 L) (n1 n2 q1 q2:Bool) (a b:List Nat) (ha:Sm 274877906943 a) (hb:Sm 274877906943 b):Ev L 115 [.agg (rZ q1 n1 a),.agg (rZ q2 n2 b)] (.agg (eZ (zv n1 a+zv n2 b))):=by
 have t1:=λ q=>M4 N n1 q a (ha.le (by omega))
 have t2:=λ q=>M4 N n2 q b (hb.le (by omega))
 have s1:Sm 274877906943 (dg (zv n1 a).natAbs):=by rw[HO];exact ha.mo
 have s2:Sm 274877906943 (dg (zv n2 b).natAbs):=by rw[HO];exact hb.mo
 generalize zv n1 a=x at *;generalize zv n2 b=y at *;have h1:=λ q q'=>yI N (dg x.natAbs) (dg y.natAbs) q q' s1.1 s2.1 (by have:=s1.2;omega) (by have:=s2.2;omega)
 have h2:=λ q q'=>nJ N (dg x.natAbs) (dg y.natAbs) q q' s1.1 s2.1 (by have:=s1.2;omega) (by have:=s2.2;omega)
 have h3:=λ q q'=>nJ N (dg y.natAbs) (dg x.natAbs) q q' s2.1 s1.1 (by have:=s2.2;omega) (by have:=s1.2;omega)
 have e8:=λ q q'=>nI N (dg x.natAbs) (dg y.natAbs) q q' s1.1 s2.1 (by have:=s1.2;omega) (by have:=s2.2;omega)
 rw[DP,DP]at h1 h2 h3 e8;have u1:=λ n q=>M4 N n q (dg (x.natAbs+y.natAbs)) (s1.add s2 (by rw[DP,DP];omega))
 have u2:=λ n q=>M4 N n q (dg (x.natAbs-y.natAbs)) ((s1.low (V:=x.natAbs-y.natAbs) (by rw[DP];omega)).le (by omega))
 have u3:=λ n q=>M4 N n q (dg (y.natAbs-x.natAbs)) ((s2.low (V:=y.natAbs-x.natAbs) (by rw[DP];omega)).le (by omega))
 have e : ∀ n V,zv n (dg V)=bif n then -(V:Int) else (V:Int):=λ n V=>by unfold zv;rw[DP]
 refine Ev.x N.Q9 rfl rfl ?_;(repeat' ((first|apply BA|refine BH (t1 _) ?_|refine BH (t2 _) ?_)<;>conv=>whnf));cases hx:decide (x<0)<;>cases hy:decide (y<0)
 ·have g1:=of_decide_eq_false hx
  have g2:=of_decide_eq_false hy;have hz:x+y=zv false (dg (x.natAbs+y.natAbs)):=by rw[e];simp only[cond_true,cond_false];omega
  rw[hz];(conv=>whnf);(repeat' ((first|refine BH (h1 _ _) ?_|refine BH (u1 _ _) ?_)<;>conv=>whnf));exact CK rfl (GC _)
 ·have g1:=of_decide_eq_false hx
  have g2:=of_decide_eq_true hy;by_cases e9:x.natAbs<y.natAbs
  ·have hz:x+y=zv true (dg (y.natAbs-x.natAbs)):=by rw[e];simp only[cond_true,cond_false];omega
   rw[hz];rw[<-LL (by omega)]at e8;(conv=>whnf);(repeat' ((first|(apply BR<;>intro hc<;>try (exfalso;omega))|refine BH (e8 _ _) ?_|refine BH (h3 _ _) ?_|refine BH (u3 _ _) ?_)<;>conv=>whnf));exact CK rfl (GC _)
  ·have hz:x+y=zv false (dg (x.natAbs-y.natAbs)):=by rw[e];simp only[cond_true,cond_false];omega
   rw[hz];have fp:=gM (show y.natAbs<=x.natAbs by omega);generalize FI (x.natAbs:Nat) (y.natAbs:Nat)=cm at *;(conv=>whnf);(repeat' ((first|(apply BR<;>intro hc<;>try (exfalso;omega))|refine BH (e8 _ _) ?_|refine BH (h2 _ _) ?_|refine BH (u2 _ _) ?_)<;>conv=>whnf));exact CK rfl (GC _)
 ·have g1:=of_decide_eq_true hx
  have g2:=of_decide_eq_false hy;by_cases e9:x.natAbs<y.natAbs
  ·have hz:x+y=zv false (dg (y.natAbs-x.natAbs)):=by rw[e];simp only[cond_true,cond_false];omega
   rw[hz];rw[<-LL (by omega)]at e8;(conv=>whnf);(repeat' ((first|(apply BR<;>intro hc<;>try (exfalso;omega))|refine BH (e8 _ _) ?_|refine BH (h3 _ _) ?_|refine BH (u3 _ _) ?_)<;>conv=>whnf));exact CK rfl (GC _)
  ·have hz:x+y=zv true (dg (x.natAbs-y.natAbs)):=by rw[e];simp only[cond_true,cond_false];omega
   rw[hz];have fp:=gM (show y.natAbs<=x.natAbs by omega);generalize FI (x.natAbs:Nat) (y.natAbs:Nat)=cm at *;(conv=>whnf);(repeat' ((first|(apply BR<;>intro hc<;>try (exfalso;omega))|refine BH (e8 _ _) ?_|refine BH (h2 _ _) ?_|refine BH (u2 _ _) ?_)<;>conv=>whnf));exact CK rfl (GC _)
 ·have g1:=of_decide_eq_true hx
  have g2:=of_decide_eq_true hy;have hz:x+y=zv true (dg (x.natAbs+y.natAbs)):=by rw[e];simp only[cond_true,cond_false];omega
  rw[hz];(conv=>whnf);(repeat' ((first|refine BH (h1 _ _) ?_|refine BH (u1 _ _) ?_)<;>conv=>whnf));exact CK rfl (GC _)
theorem Ail (N:c6 L) (n1 n2 q1 q2:Bool) (a b:List Nat) (ha:Sm 274877906943 a) (hb:Sm 274877906943 b):Ev L 116 [.agg (rZ q1 n1 a),.agg (rZ q2 n2 b)] (.agg (eZ (zv n1 a-zv n2 b))):=by
 have t2:=λ q=>nK N n2 q b (hb.le (by omega))
 have s2:Sm 274877906943 (dg (-(zv n2 b)).natAbs):=by rw[Int.natAbs_neg,HO];exact hb.mo
 have h1:=λ q q'=>yM N n1 (decide (-(zv n2 b)<0)) q q' a (dg (-(zv n2 b)).natAbs) ha s2
 rw[HW,<-Int.sub_eq_add_neg]at h1;refine Ev.x N.RJ rfl rfl ?_;(repeat' ((first|apply BA|refine BH (t2 _) ?_|refine BH (h1 _ _) ?_)<;>conv=>whnf));exact CK rfl (GC _)
theorem Aih (N:c6 L) (n1 n2 q1 q2:Bool) (a b:List Nat) (ha:Sm 274877906943 a) (hb:Sm 274877906943 b):Ev L 117 [.agg (rZ q1 n1 a),.agg (rZ q2 n2 b)] (.int .i64 (sgn (zv n1 a-zv n2 b))):=by
 have h1:=λ q q'=>Ail N n1 n2 q q' a b ha hb
 have s1:Sm 274877906943 (dg (zv n1 a).natAbs):=by rw[HO];exact ha.mo
 have s2:Sm 274877906943 (dg (zv n2 b).natAbs):=by rw[HO];exact hb.mo
 have s3:Sm 274877906944 (dg (zv n1 a-zv n2 b).natAbs):=s1.add s2 (by rw[DP,DP];omega);have h2:=λ q=>cN N (decide (zv n1 a-zv n2 b<0)) q (dg (zv n1 a-zv n2 b).natAbs) s3
 rw[HW]at h2;refine Ev.x N.RA rfl rfl ?_;(repeat' ((first|apply BA|refine BH (h1 _ _) ?_|refine BH (h2 _) ?_)<;>conv=>whnf));exact FF rfl
theorem nL (N:c6 L) (z:Int) (hz : -9223372036854775808<=z/\z<=9223372036854775807):Ev L 112 [.int .i64 z] (.agg (eZ z)):=by
 have two : ∀ k:Nat,k<18446744073709551616 -> ∀ n q,Ev L 111 [.agg [.bool n,.sl q [[.int .u32 ((k%4294967296:Nat):Int)],[.int .u32 ((k/4294967296:Nat):Int)]]]] (.agg (eZ (bif n then -(k:Int) else (k:Int)))):=λ k hk n q=>by
  have:=M4 N n q [k%4294967296,k/4294967296] ⟨(mD hk).2,by simp⟩
  unfold zv at this;rw[Ou hk]at this;exact this
 refine Ev.x N.RF rfl rfl ?_;by_cases h0:0<=z
 ·obtain ⟨k,rfl⟩:=Int.eq_ofNat_of_zero_le h0
  have hT:=two k (by omega);(repeat' ((first|(apply BR<;>intro hc<;>try (exfalso;omega))|apply IE|(apply EJ;omega)|(apply GZ;omega)|apply IU|refine ZI rfl rfl ?_|apply BA)<;>conv=>whnf));generalize k%4294967296=lo at *;generalize k/4294967296=hi at *;(repeat' (refine BH (hT _ _) ?_<;>conv=>whnf));exact CK rfl (GC _)
 ·obtain ⟨k,hk⟩:=Int.eq_ofNat_of_zero_le (show 0 <= -(z+1) by omega)
  have hz2:z = -((k+1:Nat):Int):=by omega
  have hT:=two (k+1) (by omega);(repeat' ((first|(apply BR<;>intro hc<;>try (exfalso;omega))|(apply CJ;omega)|apply Vk|(apply EZ.neg;omega)|(apply EJ;omega)|apply BA)<;>conv=>whnf));rw[show IntKind.u64.wrap (-(z+1)+1)=((k+1:Nat):Int) by rw[IntWalk.u64_in _ (by omega)];omega];rw[hz2];generalize k+1=k1 at *;(repeat' ((first|apply IE|(apply GZ;omega)|apply IU|refine ZI rfl rfl ?_)<;>conv=>whnf));generalize k1%4294967296=lo at *;generalize k1/4294967296=hi at *;(repeat' (refine BH (hT _ _) ?_<;>conv=>whnf));exact CK rfl (GC _)
theorem Aii (N:c6 L) (n1 n2 q1 q2:Bool) (a b:List Nat) (ha:Sm 274877906944 a) (hb:Sm 274877906944 b):Ev L 120 [.agg (rZ q1 n1 a),.agg (rZ q2 n2 b)] (.agg (eZ ((Nat.gcd (val a) (val b):Nat):Int))):=by
 have h1:=λ q q'=>Aid N a b q q' ha.1 hb.1 ha.2 hb.2
 refine Ev.x N.RC rfl rfl ?_;(repeat' ((first|apply BA|refine BH (h1 _ _) ?_)<;>conv=>whnf));exact CK (HF (by omega) (JI (by omega))) (GC _)
theorem Yj (n1 n2:Bool) (A B:Nat) (hB:B≠0):(bif n1 then -(A:Int) else (A:Int))/(bif n2 then -(B:Int) else (B:Int))=(bif n1 != n2 then -((if n1=true/\A%B≠0 then A/B+1 else A/B:Nat):Int) else ((if n1=true/\A%B≠0 then A/B+1 else A/B:Nat):Int)) /\
  (bif n1 then -(A:Int) else (A:Int))%(bif n2 then -(B:Int) else (B:Int))=((if n1=true/\A%B≠0 then B-A%B else A%B:Nat):Int):=by
 have hBp:(0:Int)<B:=by omega
 have key : ∀ x:Int,x/(bif n2 then -(B:Int) else (B:Int))=(bif n2 then -(x/B) else x/B)/\x%(bif n2 then -(B:Int) else (B:Int))=x%B:=λ x=>by
  cases n2
  ·exact ⟨rfl,rfl⟩
  ·exact ⟨Int.ediv_neg x B,Int.emod_neg x B⟩
 rw[(key _).1,(key _).2];cases n1
 ·have h1:((A:Int))/B=((A/B:Nat):Int):=by simp
  have h2:((A:Int))%B=((A%B:Nat):Int):=by simp
  simp only[cond_false,h1,h2];cases n2<;>simp
 ·have hd:=Nat.div_add_mod A B
  have e9:=Nat.mod_lt A (show B>0 by omega);by_cases h0:A%B=0
  ·have e : -(A:Int)=(B:Int)*(-((A/B:Nat):Int)):=by
    rw[h0,Nat.add_zero]at hd;rw[Int.mul_neg,<-Int.natCast_mul,hd]
   have h1 : -(A:Int)/B = -((A/B:Nat):Int):=by rw[e,Int.mul_ediv_cancel_left _ (by omega)]
   have h2 : -(A:Int)%B=0:=by rw[e,Int.mul_emod_right]
   simp only[cond_true,h1,h2,h0];cases n2<;>simp
  ·have e : -(A:Int)=(B:Int)*(-((A/B+1:Nat):Int))+((B-A%B:Nat):Int):=by
    have h3:(B:Int)*((A/B:Nat):Int)+((A%B:Nat):Int)=A:=by rw[<-Int.natCast_mul,<-Int.natCast_add,hd]
    rw[Int.mul_neg,Int.natCast_add,Int.mul_add];omega
   have h1 : -(A:Int)/B = -((A/B+1:Nat):Int):=by
    rw[e,Int.mul_add_ediv_left _ _ (by omega),Int.ediv_eq_zero_of_lt (by omega) (by omega),Int.add_zero]
   have h2 : -(A:Int)%B=((B-A%B:Nat):Int):=by
    rw[e,Int.mul_add_emod_self_left,Int.emod_eq_of_lt (by omega) (by omega)]
   simp only[cond_true,h1,h2];cases n2<;>simp [h0]
theorem yN (N:c6 L) (n1 n2 q1 q2:Bool) (a b:List Nat) (ha:Sm 274877906943 a) (hb:Sm 274877906943 b) (h0:zv n2 b≠0):Ev L 119 [.agg (rZ q1 n1 a),.agg (rZ q2 n2 b)] (.tup [.agg (eZ (zv n1 a/zv n2 b)),.agg (eZ (zv n1 a%zv n2 b)),.int .i64 0]):=by
 have t1:=λ q=>M4 N n1 q a (ha.le (by omega))
 have t2:=λ q=>M4 N n2 q b (hb.le (by omega))
 have s1:Sm 274877906943 (dg (zv n1 a).natAbs):=by rw[HO];exact ha.mo
 have s2:Sm 274877906943 (dg (zv n2 b).natAbs):=by rw[HO];exact hb.mo
 generalize zv n1 a=x at *;generalize zv n2 b=y at *;have si:=λ q q'=>yJ N (dg x.natAbs) (dg y.natAbs) q q' s1.1 s2.1 (by have:=s1.2;omega) (by have:=s2.2;omega) (by rw[DP];omega)
 rw[DP,DP]at si;obtain ⟨e1,e2⟩:=Yj (decide (x<0)) (decide (y<0)) x.natAbs y.natAbs (by omega);have hx:(bif decide (x<0) then -(x.natAbs:Int) else (x.natAbs:Int))=x:=by have:=HW x;unfold zv at this;rw[DP]at this;exact this
 have hy:(bif decide (y<0) then -(y.natAbs:Int) else (y.natAbs:Int))=y:=by have:=HW y;unfold zv at this;rw[DP]at this;exact this
 rw[hx,hy]at e1 e2;rw[e1,e2];have l1:=s1.2;have l2:=s2.2;have hq:Sm 274877906943 (dg (x.natAbs/y.natAbs)):=s1.low (by rw[DP];exact Nat.div_le_self _ _);have hr:Sm 274877906943 (dg (x.natAbs%y.natAbs)):=s2.low (by rw[DP];exact Nat.le_of_lt (Nat.mod_lt _ (by omega)));have hrz:=LM (x.natAbs%y.natAbs);have bh:Ev L 103 [.sl false ((dg (x.natAbs/y.natAbs)).map BZ),.sl true [[.int .u32 1]]] (.sl false ((dg (x.natAbs/y.natAbs+1)).map BZ)):=by
  have:=yI N (dg (x.natAbs/y.natAbs)) [1] false true (GR _) (KQ (by omega)) (by have:=hq.2;omega) (by simp)
  rw[DP,show val [1]=1 from rfl]at this;exact this
 have nk:Sm 274877906944 (dg (x.natAbs/y.natAbs+1)):=hq.add (b:=[1]) (qO (by omega) (by omega)) (by rw[DP];simp [val]);have wh:=λ q q'=>nJ N (dg y.natAbs) (dg (x.natAbs%y.natAbs)) q q' s2.1 hr.1 (by omega) (by have:=hr.2;omega)
 rw[DP,DP]at wh;have u1:=λ n q=>M4 N n q (dg (x.natAbs/y.natAbs)) (hq.le (by omega))
 have u2:=λ n q=>M4 N n q (dg (x.natAbs/y.natAbs+1)) nk
 have ez : ∀ n V,zv n (dg V)=bif n then -(V:Int) else (V:Int):=λ n V=>by unfold zv;rw[DP]
 have fin : ∀ (z:Int) (V:Nat),BW (.tup [.agg (eZ z),.agg [.bool false,.sl false ((dg V).map BZ)],.int .i64 0]) (.tup [.agg (eZ z),.agg (eZ (V:Int)),.int .i64 0]):=λ z V=>by
  have e3:AV.agg (eZ (V:Int)) = .agg [.bool false,.sl false ((dg V).map BZ)]:=(HF (by omega) (JI (by omega))).symm;rw[e3];refine CK rfl ?_;simp only[CT,FG,and_true,true_and];exact ⟨E5 _,E5 _⟩
 clear e1 e2 hx hy;generalize x.natAbs/y.natAbs=qq at *;generalize x.natAbs%y.natAbs=rr at *;refine Ev.x N.RB rfl rfl ?_;(repeat' ((first|(apply BR<;>intro hc<;>try (exfalso;omega))|apply BA|refine BH (t1 _) ?_|refine BH (t2 _) ?_|refine BH (si _ _) ?_)<;>conv=>whnf));generalize decide (x<0)=p at *;generalize decide (y<0)=r at *;cases p
 ·rw[if_neg (by simp),if_neg (by simp),<-ez]
  cases r;all_goals
   (conv=>whnf)
   (repeat' (refine BH (u1 _ _) ?_<;>conv=>whnf))
   exact fin _ _
 ·by_cases hr0:rr=0
  ·rw[if_neg (by simp [hr0]),if_neg (by simp [hr0]),<-ez]
   cases r;all_goals
    (conv=>whnf)
    (repeat' ((first|(apply BR<;>intro hc<;>try (exfalso;omega))|apply CB|refine BH (u1 _ _) ?_)<;>conv=>whnf))
    exact fin _ _
  ·rw[if_pos ⟨rfl,hr0⟩,if_pos ⟨rfl,hr0⟩,<-ez]
   cases r;all_goals
    (conv=>whnf)
    (repeat' ((first|(apply BR<;>intro hc<;>try (exfalso;omega))|apply CB|refine KM rfl ?_|refine BH (bh) ?_|refine BH (wh _ _) ?_|refine BH (u2 _ _) ?_)<;>conv=>whnf))
    exact fin _ _
theorem wD:dg 1=[1]:=by rw[ME (by omega)];simp [HS]
theorem tQ:AV.agg [.bool false,.sl false [],.sl false [[.int .u32 1]]] = .agg (eQ 0):=by
 show _=AV.agg (rQ _ _ _ _ _);rw[Rat.zero_num,Rat.zero_den,wD,show (0:Int).natAbs=0 from rfl,HS];rfl
theorem Wb {x y:Int} (hy:y≠0):(Rat.divInt x y).num=(if y<0 then -(x/((Nat.gcd x.natAbs y.natAbs:Nat):Int)) else x/((Nat.gcd x.natAbs y.natAbs:Nat):Int))/\(Rat.divInt x y).den=(y/((Nat.gcd x.natAbs y.natAbs:Nat):Int)).natAbs:=by
 have h1:=Rat.num_divInt x y;have h2:=Rat.den_divInt x y;rw[if_neg hy]at h2;have hg:Int.gcd y x=Nat.gcd x.natAbs y.natAbs:=by rw[Int.gcd,Nat.gcd_comm]
 rw[hg]at h1 h2;have Ga:0<Nat.gcd x.natAbs y.natAbs:=Nat.gcd_pos_of_pos_right _ (by omega);have dx:((Nat.gcd x.natAbs y.natAbs:Nat):Int) ∣ x:=Int.ofNat_dvd_left.2 (Nat.gcd_dvd_left _ _);have dy:((Nat.gcd x.natAbs y.natAbs:Nat):Int) ∣ y:=Int.ofNat_dvd_left.2 (Nat.gcd_dvd_right _ _);generalize Nat.gcd x.natAbs y.natAbs=g at *;rw[h1,h2];obtain ⟨u,rfl⟩:=dx;obtain ⟨v,rfl⟩:=dy;have qy:(g:Int)≠0:=by omega
 refine ⟨?_,?_⟩
 ·rw[Int.mul_ediv_cancel_left _ qy]
  split
  ·rename_i h
   rw[Int.sign_eq_neg_one_of_neg h,show -1*((g:Int)*u)=g*(-u) by rw[Int.mul_neg];omega,Int.mul_ediv_cancel_left _ qy]
  ·rw[Int.sign_eq_one_of_pos (by omega),Int.one_mul,Int.mul_ediv_cancel_left _ qy]
 ·rw[Int.mul_ediv_cancel_left _ qy,Int.natAbs_mul,Int.natAbs_natCast,Nat.mul_div_cancel_left _ Ga]
theorem cO (N:c6 L) (n1 n2 q1 q2:Bool) (a b:List Nat) (ha:Sm 274877906943 a) (hb:Sm 274877906943 b):Ev L 121 [.agg (rZ q1 n1 a),.agg (rZ q2 n2 b)] (.agg (eQ (Rat.divInt (zv n1 a) (zv n2 b)))):=by
 have t1:=λ q=>cN N n1 q a (ha.le (by omega))
 have t2:=λ q=>cN N n2 q b (hb.le (by omega))
 by_cases h1:zv n1 a=0
 ·rw[h1,Rat.zero_divInt,<-tQ]
  rw[h1,<-jS rfl]at t1;refine Ev.x N.LV rfl rfl ?_;(repeat' ((first|(apply BR<;>intro hc<;>try (exfalso;omega))|refine KM rfl ?_|apply BA|refine BH (t1 _) ?_)<;>conv=>whnf));exact CK rfl (gI false [] [1])
 have s1:sgn (zv n1 a)≠0:=by unfold sgn;split<;>(try split)<;>omega
 by_cases h2:zv n2 b=0
 ·rw[h2,Rat.divInt_zero,<-tQ]
  rw[h2,<-jS rfl]at t2;generalize sgn (zv n1 a)=sg at *;refine Ev.x N.LV rfl rfl ?_;(repeat' ((first|(apply BR<;>intro hc<;>try (exfalso;omega))|refine KM rfl ?_|apply BA|refine BH (t1 _) ?_|refine BH (t2 _) ?_)<;>conv=>whnf));exact CK rfl (gI false [] [1])
 have s2:sgn (zv n2 b)≠0:=by unfold sgn;split<;>(try split)<;>omega
 obtain ⟨p1,p2⟩:=Wb (x:=zv n1 a) h2;have hG:=λ q q'=>Aii N n1 n2 q q' a b (ha.le (by omega)) (hb.le (by omega))
 have hle:Nat.gcd (val a) (val b)<=val b:=Nat.gcd_le_right _ (by have:=HO n2 b;omega);have Ga:0<Nat.gcd (val a) (val b):=Nat.gcd_pos_of_pos_right _ (by have:=HO n2 b;omega);have sg:Sm 274877906943 (dg (Nat.gcd (val a) (val b))):=hb.low hle;rw[HO,HO]at p1 p2;have hgf:decide (((Nat.gcd (val a) (val b):Nat):Int)<0)=false:=by simp
 have Rt:Sm 274877906943 (dg (((Nat.gcd (val a) (val b):Nat):Int)).natAbs):=by rw[Int.natAbs_natCast];exact sg
 have zg:zv (decide (((Nat.gcd (val a) (val b):Nat):Int)<0)) (dg (((Nat.gcd (val a) (val b):Nat):Int)).natAbs)=((Nat.gcd (val a) (val b):Nat):Int):=HW _;have ke:=λ q q'=>yN N n1 _ q q' a _ ha Rt (by rw[zg];omega)
 have kf:=λ q q'=>yN N n2 _ q q' b _ hb Rt (by rw[zg];omega)
 rw[zg]at ke kf;have lf:Sm 274877906943 (dg (zv n1 a/((Nat.gcd (val a) (val b):Nat):Int)).natAbs):=ha.low (by
  have:(zv n1 a/((Nat.gcd (val a) (val b):Nat):Int)).natAbs<=(zv n1 a).natAbs:=Int.natAbs_ediv_le_natAbs _ _
  rw[HO]at this;exact this)
 have qy:0<((Nat.gcd (val a) (val b):Nat):Int):=by omega
 generalize ((Nat.gcd (val a) (val b):Nat):Int)=g at *;generalize zv n1 a=x at *;generalize zv n2 b=y at *;generalize sgn x=sx at *;generalize sgn y=sy at *;have hN:=λ q=>nK N (decide (x/g<0)) q (dg (x/g).natAbs) (lf.le (by omega))
 rw[HW]at hN;have tk:decide (y/g<0)=decide (y<0):=by
  congr 1;rw[eq_iff_iff,Int.ediv_lt_iff_lt_mul (by omega),Int.zero_mul]
 refine Ev.x N.LV rfl rfl ?_;(repeat' ((first|(apply BR<;>intro hc<;>try (exfalso;omega))|apply BA|refine BH (t1 _) ?_|refine BH (t2 _) ?_|refine BH (hG _ _) ?_|refine BH (ke _ _) ?_|refine BH (kf _ _) ?_)<;>conv=>whnf));cases Qw:decide (y/g<0)
 ·rw[Qw]at tk
  rw[if_neg (of_decide_eq_false tk.symm)]at p1;(conv=>whnf);skip;refine CK ?_ (G3 _);show _=AV.agg (rQ _ _ _ _ _);rw[p1,p2]
 ·rw[Qw]at tk
  rw[if_pos (of_decide_eq_true tk.symm)]at p1;(conv=>whnf);(repeat' (refine BH (hN _) ?_<;>conv=>whnf));refine CK ?_ (G3 _);show _=AV.agg (rQ _ _ _ _ _);rw[p1,p2]
theorem Wc {z:Int} {d:List Nat}:Rat.divInt z (zv false d)=mkRat z (val d):=by rw[HD,Rat.divInt_ofNat]
def Vl (n:Bool) (m d:List Nat) (n':Bool) (m' d':List Nat) (k:Nat):Prop:=Sm k m'/\Sm k d'/\val d'≠0/\qv n m d=mkRat (zv n' m') (val d')
theorem uT (n:Bool) (m d:List Nat):CT (.tup [.agg (rZ false n m),.agg (rZ false false d)]):=by
 simp only[CT,FG,and_true,true_and];exact ⟨E5 _,E5 _⟩
theorem UA (N:c6 L) (n q:Bool) (m d:List Nat) (k:Nat) (hk:1<=k/\k<=274877906943) (hm:Sm k m) (hd:Sm k d) : ∃ n' m' d',Ev L 122 [.agg (rQ false q n m d)] (.tup [.agg (rZ false n' m'),.agg (rZ false false d')])/\Vl n m d n' m' d' k:=by
 have t1:=λ q=>JG N d q hd.1 (by have:=hd.2;omega)
 have hl:=LM (val d);by_cases h0:val d=0
 ·refine ⟨false,[],[1],?_,Ny _,qO hk.1 (by omega),by decide,by unfold qv;rw[h0,Rat.mkRat_zero,Oz,Rat.zero_mkRat]⟩
  refine Ev.x N.ND rfl rfl ?_;(repeat' ((first|(apply BR<;>intro hc<;>try (exfalso;omega))|apply CB|refine KM rfl ?_|apply BA|refine BH (t1 _) ?_)<;>conv=>whnf));exact CK rfl (uT false [] [1])
 ·refine ⟨n,m,dg (val d),?_,hm,hd.mo,by rw[DP];exact h0,by rw[DP];rfl⟩
  refine Ev.x N.ND rfl rfl ?_;(repeat' ((first|(apply BR<;>intro hc<;>try (exfalso;omega))|apply CB|apply BA|refine BH (t1 _) ?_)<;>conv=>whnf));exact CK rfl (uT _ _ _)
theorem Aiq (N:c6 L) (n q:Bool) (m d:List Nat) (hm:Sm 274877906943 m) (hd:Sm 274877906943 d):Ev L 123 [.agg (rQ false q n m d)] (.agg (eQ (qv n m d))):=by
 obtain ⟨n',m',d',hp,s1,s2,s3,s4⟩:=UA N n q m d 274877906943 (by omega) hm hd;have hr:=λ q q'=>cO N n' false q q' m' d' s1 s2
 rw[Wc,<-s4]at hr;refine Ev.x N.R7 rfl rfl ?_;(repeat' ((first|apply BA|refine BH (hp) ?_|refine BH (hr _ _) ?_)<;>conv=>whnf));exact CK rfl (G3 _)
theorem Xk (z:Int):AV.agg [.bool (decide (z<0)),.sl false ((dg z.natAbs).map BZ),.sl false [[.int .u32 1]]] = .agg (eQ (z:Rat)):=by
 show _=AV.agg (rQ _ _ _ _ _);rw[Rat.num_intCast,Rat.den_intCast,wD];rfl
theorem ZZ (N:c6 L) (z:Int) (hz : -9223372036854775808<=z/\z<=9223372036854775807):Ev L 124 [.int .i64 z] (.agg (eQ (z:Rat))):=by
 have h1:=nL N z hz;refine Ev.x N.RS rfl rfl ?_;(repeat' ((first|refine KM rfl ?_|apply BA|refine BH (h1) ?_)<;>conv=>whnf));exact CK (Xk z) (G3 _)
theorem Nz {z:Int} (hz : -9223372036854775808<=z/\z<=9223372036854775808):Sm 2 (dg z.natAbs):=Sm.dg (by omega)
theorem yP (N:c6 L) (x y:Int) (hx : -9223372036854775808<=x/\x<=9223372036854775807) (hy : -9223372036854775808<=y/\y<=9223372036854775807):Ev L 125 [.int .i64 x,.int .i64 y] (.agg (eQ (Rat.divInt x y))):=by
 have h1:=nL N x hx;have h2:=nL N y hy;have hr:=λ q q'=>cO N (decide (x<0)) (decide (y<0)) q q' _ _ ((Nz (z:=x) (by omega)).le (by omega)) ((Nz (z:=y) (by omega)).le (by omega))
 rw[HW,HW]at hr;refine Ev.x N.RP rfl rfl ?_;(repeat' ((first|apply BA|refine BH (h1) ?_|refine BH (h2) ?_|refine BH (hr _ _) ?_)<;>conv=>whnf));exact CK rfl (G3 _)
theorem VR {k l:Nat} {n1 n2:Bool} {a b:List Nat} (ha:Sm k a) (hb:Sm l b):Sm (k+l) (dg (zv n1 a*zv n2 b).natAbs):=ha.mul hb (by rw[Int.natAbs_mul,HO,HO])
theorem Alc {k:Nat} {x y:Int} (ha:Sm k (dg x.natAbs)) (hb:Sm k (dg y.natAbs)):Sm (k+1) (dg (x+y).natAbs):=ha.add hb (by rw[DP,DP];omega)
theorem Ain (N:c6 L) (k:Nat) (hk:1<=k/\k<=68719476736) (n1 n2 q2 q4:Bool) (m1 d1 m2 d2:List Nat) (cu:Sm k m1) (hd1:Sm k d1) (hm2:Sm k m2) (gk:Sm k d2) :
  Ev L 126 [.agg (rQ false q2 n1 m1 d1),.agg (rQ false q4 n2 m2 d2)] (.agg (eQ (qv n1 m1 d1+qv n2 m2 d2))):=by
 obtain ⟨a1,a2,a3,v3,s1,s2,s3,s5⟩:=UA N n1 q2 m1 d1 k (by omega) cu hd1;obtain ⟨b1,b2,b3,v7,t1,t2,t3,t5⟩:=UA N n2 q4 m2 d2 k (by omega) hm2 gk;have l1:=s1.2;have l2:=s2.2;have l3:=t1.2;have l4:=t2.2;rw[s5,t5,iP s3 t3,<-HD b3,<-HD a3];have hM1:=λ q q'=>U7 N a1 false q q' a2 b3 s1.1 t2.1 (by omega)
 have hM2:=λ q q'=>U7 N b1 false q q' b2 a3 t1.1 s2.1 (by omega)
 have jg:=λ q q'=>U7 N false false q q' a3 b3 s2.1 t2.1 (by omega)
 have g1:Sm (k+k) (dg (zv a1 a2*zv false b3).natAbs):=VR s1 t2;have g2:Sm (k+k) (dg (zv b1 b2*zv false a3).natAbs):=VR t1 s2;have g3:=Alc g1 g2;have g4:Sm (k+k) (dg (zv false a3*zv false b3).natAbs):=VR s2 t2;have hA:=λ q q'=>yM N (decide (zv a1 a2*zv false b3<0)) (decide (zv b1 b2*zv false a3<0)) q q' _ _ (g1.le (by omega)) (g2.le (by omega))
 rw[HW,HW]at hA;have hR:=λ q q'=>cO N (decide (zv a1 a2*zv false b3+zv b1 b2*zv false a3<0)) (decide (zv false a3*zv false b3<0)) q q' _ _ (g3.le (by omega)) (g4.le (by omega))
 rw[HW,HW,show zv false a3*zv false b3=((val a3*val b3:Nat):Int) by rw[HD,HD];simp,Rat.divInt_ofNat]at hR;rw[show zv false a3*zv false b3=((val a3*val b3:Nat):Int) by rw[HD,HD];simp]at jg;refine Ev.x N.RM rfl rfl ?_;(repeat' ((first|apply BA|refine BH (v3) ?_|refine BH (v7) ?_|refine BH (hM1 _ _) ?_|refine BH (hM2 _ _) ?_|refine BH (hA _ _) ?_|refine BH (jg _ _) ?_|refine BH (hR _ _) ?_)<;>conv=>whnf));exact CK rfl (G3 _)
theorem Aio (N:c6 L) (k:Nat) (hk:1<=k/\k<=68719476736) (n1 n2 q2 q4:Bool) (m1 d1 m2 d2:List Nat) (cu:Sm k m1) (hd1:Sm k d1) (hm2:Sm k m2) (gk:Sm k d2) :
  Ev L 128 [.agg (rQ false q2 n1 m1 d1),.agg (rQ false q4 n2 m2 d2)] (.agg (eQ (qv n1 m1 d1*qv n2 m2 d2))):=by
 obtain ⟨a1,a2,a3,v3,s1,s2,s3,s5⟩:=UA N n1 q2 m1 d1 k (by omega) cu hd1;obtain ⟨b1,b2,b3,v7,t1,t2,t3,t5⟩:=UA N n2 q4 m2 d2 k (by omega) hm2 gk;have l1:=s1.2;have l2:=s2.2;have l3:=t1.2;have l4:=t2.2;rw[s5,t5,oX];have hM1:=λ q q'=>U7 N a1 b1 q q' a2 b2 s1.1 t1.1 (by omega)
 have jg:=λ q q'=>U7 N false false q q' a3 b3 s2.1 t2.1 (by omega)
 have g1:Sm (k+k) (dg (zv a1 a2*zv b1 b2).natAbs):=VR s1 t1;have g4:Sm (k+k) (dg (zv false a3*zv false b3).natAbs):=VR s2 t2;have hR:=λ q q'=>cO N (decide (zv a1 a2*zv b1 b2<0)) (decide (zv false a3*zv false b3<0)) q q' _ _ (g1.le (by omega)) (g4.le (by omega))
 rw[HW,HW,show zv false a3*zv false b3=((val a3*val b3:Nat):Int) by rw[HD,HD];simp,Rat.divInt_ofNat]at hR;rw[show zv false a3*zv false b3=((val a3*val b3:Nat):Int) by rw[HD,HD];simp]at jg;refine Ev.x N.RQ rfl rfl ?_;(repeat' ((first|apply BA|refine BH (v3) ?_|refine BH (v7) ?_|refine BH (hM1 _ _) ?_|refine BH (jg _ _) ?_|refine BH (hR _ _) ?_)<;>conv=>whnf));exact CK rfl (G3 _)
theorem Jd {a b:Int} {d e:Nat} (hd:d≠0) (he:e≠0):sgn (a*e-b*d)=sgn (mkRat a d-mkRat b e).num:=by
 have h:mkRat a d-mkRat b e=mkRat (a*e-b*d) (d*e):=by
  rw[Rat.sub_eq_add_neg,Rat.neg_mkRat,iP hd he,Int.neg_mul,<-Int.sub_eq_add_neg]
 rw[h,Jf (Nat.mul_ne_zero hd he)]
theorem yO (N:c6 L) (k:Nat) (hk:1<=k/\k<=68719476736) (n1 n2 q2 q4:Bool) (m1 d1 m2 d2:List Nat) (cu:Sm k m1) (hd1:Sm k d1) (hm2:Sm k m2) (gk:Sm k d2) :
  Ev L 127 [.agg (rQ false q2 n1 m1 d1),.agg (rQ false q4 n2 m2 d2)] (.int .i64 (sgn (qv n1 m1 d1-qv n2 m2 d2).num)):=by
 obtain ⟨a1,a2,a3,v3,s1,s2,s3,s5⟩:=UA N n1 q2 m1 d1 k (by omega) cu hd1;obtain ⟨b1,b2,b3,v7,t1,t2,t3,t5⟩:=UA N n2 q4 m2 d2 k (by omega) hm2 gk;have l1:=s1.2;have l2:=s2.2;have l3:=t1.2;have l4:=t2.2;rw[s5,t5,<-Jd s3 t3,<-HD b3,<-HD a3];have hM1:=λ q q'=>U7 N a1 false q q' a2 b3 s1.1 t2.1 (by omega)
 have hM2:=λ q q'=>U7 N b1 false q q' b2 a3 t1.1 s2.1 (by omega)
 have g1:Sm (k+k) (dg (zv a1 a2*zv false b3).natAbs):=VR s1 t2;have g2:Sm (k+k) (dg (zv b1 b2*zv false a3).natAbs):=VR t1 s2;have hC:=λ q q'=>Aih N (decide (zv a1 a2*zv false b3<0)) (decide (zv b1 b2*zv false a3<0)) q q' _ _ (g1.le (by omega)) (g2.le (by omega))
 rw[HW,HW]at hC;refine Ev.x N.RN rfl rfl ?_;(repeat' ((first|apply BA|refine BH (v3) ?_|refine BH (v7) ?_|refine BH (hM1 _ _) ?_|refine BH (hM2 _ _) ?_|refine BH (hC _ _) ?_)<;>conv=>whnf));exact FF rfl
theorem Bt.dp {k:Nat} {x:Rat} (h:Bt k x) (hk:k<2199023255552):Sm 68719476736 (dg x.num.natAbs)/\Sm 68719476736 (dg x.den):=h.Pj (by omega)
theorem mX (N:c6 L) {x y:Rat} {k l:Nat} (hx:Bt k x) (hy:Bt l y) (hk:k<2199023255552) (hl:l<2199023255552):Ev L 126 [.agg (eQ x),.agg (eQ y)] (.agg (eQ (x+y))):=by
 have:=Ain N 68719476736 (by omega) (decide (x.num<0)) (decide (y.num<0)) false false _ _ _ _ (hx.dp hk).1 (hx.dp hk).2 (hy.dp hl).1 (hy.dp hl).2
 rw[IB,IB]at this;exact this
theorem cM (N:c6 L) {x y:Rat} {k l:Nat} (hx:Bt k x) (hy:Bt l y) (hk:k<2199023255552) (hl:l<2199023255552):Ev L 128 [.agg (eQ x),.agg (eQ y)] (.agg (eQ (x*y))):=by
 have:=Aio N 68719476736 (by omega) (decide (x.num<0)) (decide (y.num<0)) false false _ _ _ _ (hx.dp hk).1 (hx.dp hk).2 (hy.dp hl).1 (hy.dp hl).2
 rw[IB,IB]at this;exact this
theorem cP (N:c6 L) {x:Rat} {k:Nat} (hx:Bt k x) (hk:k<2199023255552):Ev L 123 [.agg (eQ x)] (.agg (eQ x)):=by
 have:=Aiq N (decide (x.num<0)) false _ _ ((hx.dp hk).1.le (by omega)) ((hx.dp hk).2.le (by omega))
 rw[IB]at this;exact this
theorem mY (N:c6 L) {x y:Rat} {k l:Nat} (hx:Bt k x) (hy:Bt l y) (hk:k<2199023255552) (hl:l<2199023255552):Ev L 127 [.agg (eQ x),.agg (eQ y)] (.int .i64 (sgn (x-y).num)):=by
 have:=yO N 68719476736 (by omega) (decide (x.num<0)) (decide (y.num<0)) false false _ _ _ _ (hx.dp hk).1 (hx.dp hk).2 (hy.dp hl).1 (hy.dp hl).2
 rw[IB,IB]at this;exact this
theorem dW {x y:Rat}:sgn (x-y).num=0↔x=y:=by
 have h:sgn (x-y).num=0↔(x-y).num=0:=by unfold sgn;split<;>(try split)<;>omega
 rw[h,Rat.num_eq_zero];constructor
 ·intro h;grind
 ·rintro rfl;exact Rat.sub_self
theorem ZW (N:c6 L) (a b:List Rat) (q1 q2:Bool) (k:Nat) (ha:Bs k a) (hb:Bs k b) (hk:k<2199023255552) (hl:a.length<=1099511627776):Ev L 129 [.sl q1 (a.map eQ),.sl q2 (b.map eQ)] (.bool (decide (a=b))):=by
 refine Ev.x N.SG rfl rfl ?_;by_cases hlen:a.length=b.length
 ·(repeat' ((first|(apply BR<;>intro hc<;>try (exfalso;omega))|apply CB|apply BA)<;>conv=>whnf))
  refine DG (λ i=>a.length-i) (λ(i:Nat)=>i<=a.length/\a.take i=b.take i) (λ i=>[(5,.int .i64 i)]) (λ_=>[]) [] [] 0 (by (conv=>whnf);exact ⟨rfl,rfl,rfl⟩) ⟨by omega,rfl⟩ ?_;intro i ⟨p1,p2⟩ ih;by_cases hi:i<a.length
  ·obtain ⟨x,hx⟩ : ∃ x,a[i]? = some x:=⟨_,zE hi⟩
   obtain ⟨y,hy⟩ : ∃ y,b[i]? = some y:=⟨_,zE (by omega)⟩;have hx':a[(i:Int).toNat]? = some x:=hx;have hy':b[(i:Int).toNat]? = some y:=hy;have Pr:=mY N (ha.at hx) (hb.at hy) hk hk;have hs:=dW (x:=x) (y:=y);generalize sgn (x-y).num=sg at *;by_cases fw:x=y
   ·have h0:sg=0:=hs.2 fw
    (repeat' ((first|(apply BR<;>intro hc<;>try (exfalso;omega))|(apply CJ;omega)|apply CB|(refine CY (by assumption) ?_ rfl ?_;omega)|apply BA|refine BH (Pr) ?_)<;>conv=>whnf))
    refine DE [] (by (conv=>whnf);exact ⟨rfl,rfl,rfl⟩) (ih (i+1) (by omega) ⟨by omega,?_⟩);rw[List.take_add_one,List.take_add_one,p2,hx,hy,fw]
   ·have hne:sg≠0:=λ h=>fw (hs.1 h)
    (repeat' ((first|(apply BR<;>intro hc<;>try (exfalso;omega))|apply CB|(refine CY (by assumption) ?_ rfl ?_;omega)|apply BA|refine BH (Pr) ?_)<;>conv=>whnf))
    refine eK (λ h=>fw ?_);rw[h,hy]at hx;exact (Option.some.inj hx).symm
  ·obtain rfl:i=a.length:=by omega
   clear ih;(repeat' ((first|(apply BR<;>intro hc<;>try (exfalso;omega))|apply CB|apply BA)<;>conv=>whnf));refine sR ?_;rw[List.take_of_length_le (Nat.le_refl _),List.take_of_length_le (by omega)]at p2;exact p2
 ·(repeat' ((first|(apply BR<;>intro hc<;>try (exfalso;omega))|apply CB|apply BA)<;>conv=>whnf))
  exact eK (λ h=>hlen (by rw[h]))
theorem nG (N:n6 L) {x:Rat} {k:Nat} (hx:Bt k x) (hk:k<2199023255552):Ev L 152 [.agg (eQ x)] (.agg (eQ (-x))):=by
 have hT:=cP N.toRefGLib hx hk;have hN:=λ q=>nK N.toRefGLib (decide (x.num<0)) q (dg x.num.natAbs) ((hx.dp hk).1.le (by omega))
 rw[HW]at hN;refine Ev.x N.RR rfl rfl ?_;(repeat' ((first|apply BA|refine BH (hT) ?_|refine BH (hN _) ?_)<;>conv=>whnf));refine CK ?_ (G3 _);show _=AV.agg (rQ _ _ _ _ _);rw[Rat.neg_num,Rat.neg_den]
theorem AiD (N:n6 L) {x y:Rat} {k l:Nat} (hx:Bt k x) (hy:Bt l y) (hk:k<2199023255552) (hl:l<2199023255552):Ev L 153 [.agg (eQ x),.agg (eQ y)] (.agg (eQ (x-y))):=by
 have hn:Bt l (-y):=⟨by rw[Rat.neg_num,Int.natAbs_neg];exact hy.1,by rw[Rat.neg_den];exact hy.2⟩;have hN:=nG N hy hl;have hA:=mX N.toRefGLib hx hn hk hl;rw[<-Rat.sub_eq_add_neg]at hA;refine Ev.x N.R6 rfl rfl ?_;(repeat' ((first|apply BA|refine BH (hN) ?_|refine BH (hA) ?_)<;>conv=>whnf));exact CK rfl (G3 _)
theorem Akg {a c:Int} {b d:Nat} (hb:b≠0) (hd:d≠0) (hc:c≠0):mkRat a b/mkRat c d=Rat.divInt (a*d) (b*c):=by
 rw[Rat.div_def,<-Rat.divInt_ofNat,<-Rat.divInt_ofNat,Rat.inv_divInt,Rat.divInt_mul_divInt]
theorem AhH (N:n6 L) {x y:Rat} {k l:Nat} (hx:Bt k x) (hy:Bt l y) (hk:k<2199023255552) (hl:l<2199023255552) (h0:y≠0):Ev L 154 [.agg (eQ x),.agg (eQ y)] (.tup [.agg (eQ (x/y)),.int .i64 0]):=by
 obtain ⟨a1,a2,a3,v3,s1,s2,s3,s5⟩:=UA N.toRefGLib (decide (x.num<0)) false (dg x.num.natAbs) (dg x.den) 68719476736 (by omega) (hx.dp hk).1 (hx.dp hk).2;obtain ⟨b1,b2,b3,v7,t1,t2,t3,t5⟩:=UA N.toRefGLib (decide (y.num<0)) false (dg y.num.natAbs) (dg y.den) 68719476736 (by omega) (hy.dp hl).1 (hy.dp hl).2;have l1:=s1.2;have l2:=s2.2;have l3:=t1.2;have l4:=t2.2;rw[IB]at s5 t5;have oc:zv b1 b2≠0:=λ h=>h0 (by rw[t5,h,Rat.zero_mkRat])
 have hS:=λ q=>cN N.toRefGLib b1 q b2 (t1.le (by omega))
 have hsg:sgn (zv b1 b2)≠0:=by unfold sgn;split<;>(try split)<;>omega
 have hM1:=λ q q'=>U7 N.toRefGLib a1 false q q' a2 b3 s1.1 t2.1 (by omega)
 have hM2:=λ q q'=>U7 N.toRefGLib false b1 q q' a3 b2 s2.1 t1.1 (by omega)
 have g1:Sm (68719476736+68719476736) (dg (zv a1 a2*zv false b3).natAbs):=VR s1 t2;have g2:Sm (68719476736+68719476736) (dg (zv false a3*zv b1 b2).natAbs):=VR s2 t1;have hR:=λ q q'=>cO N.toRefGLib (decide (zv a1 a2*zv false b3<0)) (decide (zv false a3*zv b1 b2<0)) q q' _ _ (g1.le (by omega)) (g2.le (by omega))
 rw[HW,HW]at hR;have he:x/y=Rat.divInt (zv a1 a2*zv false b3) (zv false a3*zv b1 b2):=by rw[s5,t5,Akg s3 t3 oc,HD,HD]
 rw[he];generalize sgn (zv b1 b2)=sg at *;refine Ev.x N.RO rfl rfl ?_;(repeat' ((first|(apply BR<;>intro hc<;>try (exfalso;omega))|apply BA|refine BH (v3) ?_|refine BH (v7) ?_|refine BH (hS _) ?_|refine BH (hM1 _ _) ?_|refine BH (hM2 _ _) ?_|refine BH (hR _ _) ?_)<;>conv=>whnf));exact CK rfl (by simp only[CT,FG,and_true,true_and];exact ⟨E5 _,E5 _⟩)
end Go.Eng

namespace Go.Eng
abbrev eO:Option Rat->List AV
 | none=>[.bool false,.nil,.nil]
 | some x=>eQ x
def FU (l:List Rat) (m:Nat):List (Option Rat):=l.map some++List.replicate (m-l.length) none
theorem KS (m:Nat):FU [] m=List.replicate m none:=by simp [FU]
theorem JO {l:List Rat} {m:Nat} (h:l.length<=m):(FU l m).length=m:=by simp [FU];omega
theorem KU {l:List Rat} {m:Nat} {x:Rat} (h:l.length<m):(FU l m).set l.length (some x)=FU (l++[x]) m:=by
 unfold FU;have e:m-l.length=(m-(l++[x]).length)+1:=by simp;omega
 rw[e,List.replicate_succ,List.set_append_right _ _ (by simp)];simp
theorem K9 {l:List Rat} {m:Nat} (h:l.length=m):(FU l m).map eO=l.map eQ:=by
 unfold FU;rw[h,Nat.sub_self];simp [Function.comp_def]
abbrev eS (S:GA):List AV:=[.sl false (S.a.map λ r=>[AV.sl false (r.map eQ)]),.sl false (S.b.map eQ),.sl false (S.c.map eQ)]++eQ S.d
theorem KP (l:List Rat):IR (l.map eQ):=bV (λ x=>by simp only[FG,CT,and_true,true_and];exact ⟨E5 _,E5 _⟩) l
theorem LE {l:List Rat} {i:Nat} {x:Rat} (h:l[i]? = some x):l.take (i+1)=l.take i++[x]:=by
 rw[List.take_add_one,h];rfl
theorem gJ (S:GA):CT (.agg (eS S)):=by
 have h:IR (S.a.map λ r=>[AV.sl false (r.map eQ)]):=bV (λ r=>by simp only[FG,CT,and_true,true_and];exact KP r) S.a;simp only[CT,List.cons_append,List.nil_append,FG,and_true,true_and];exact ⟨h,KP _,KP _,E5 _,E5 _⟩
end Go.Eng

namespace Go.Eng
open F
attribute [local irreducible] AH BJ B1 BD EZ CF CG CR CU DW B5 DT EG F7 DM CQ DR EE AR CW BW pw DC C9 EI ET E1 E7 EW D4 E8
variable {L:Lib}
set_option maxHeartbeats 8000000
theorem yK (N:n6 L) (q1 q2:Bool) (m:List Nat) (hm:m.length<=274877906944):Ev L 156 [.sl q1 (m.map BZ),.sl q2 (m.map BZ)] (.bool true):=by
 refine Ev.x N.Q7 rfl rfl ?_;(repeat' ((first|(apply BR<;>intro hc<;>try (exfalso;omega))|apply CB|apply BA)<;>conv=>whnf));refine DG (λ i=>m.length-i) (λ(i:Nat)=>i<=m.length) (λ i=>[(5,.int .i64 i)]) (λ_=>[]) [] [] 0 (by (conv=>whnf);exact ⟨rfl,rfl,rfl⟩) (by omega) ?_;intro i p1 ih;by_cases hi:i<m.length
 ·obtain ⟨x,hx⟩ : ∃ x,m[i]? = some x:=⟨_,zE hi⟩
  have hx':m[(i:Int).toNat]? = some x:=hx;(repeat' ((first|(apply BR<;>intro hc<;>try (exfalso;omega))|(apply CJ;omega)|apply CB|(refine CY (by assumption) ?_ rfl ?_;omega)|apply BA)<;>conv=>whnf));exact C7 [] (ih (i+1) (by omega) (by omega))
 ·obtain rfl:i=m.length:=by omega
  clear ih;(repeat' ((first|(apply BR<;>intro hc<;>try (exfalso;omega))|apply CB|apply BA)<;>conv=>whnf));exact I5 rfl
theorem Aij (N:n6 L) (n q1 q2:Bool) (m:List Nat) (hm:m.length<=274877906944):Ev L 157 [.agg (rZ q1 n m),.agg (rZ q2 n m)] (.bool true):=by
 have h1:=λ q1 q2=>yK N q1 q2 m hm
 refine Ev.x N.RH rfl rfl ?_;cases n;all_goals
  (repeat' ((first|apply BA|refine BH (h1 _ _) ?_)<;>conv=>whnf))
  exact I5 rfl
theorem Aip (N:n6 L) {x:Rat} {k:Nat} (hx:Bt k x) (hk:k<2199023255552):Ev L 158 [.agg (eQ x),.agg (eQ x)] (.bool true):=by
 have hs:=hx.dp hk;have h1:=λ q1 q2=>yK N q1 q2 (dg x.den) (by have:=hs.2.2;omega)
 have h2:=λ q1 q2=>Aij N (decide (x.num<0)) q1 q2 (dg x.num.natAbs) (by have:=hs.1.2;omega)
 refine Ev.x N.R3 rfl rfl ?_;(repeat' ((first|apply BA|refine BH (h1 _ _) ?_|refine BH (h2 _ _) ?_)<;>conv=>whnf));exact I5 rfl
theorem Ahv (N:n6 L) (q1 q2:Bool) (l:List Rat) (k:Nat) (hl:Bs k l) (hk:k<2199023255552) (hn:l.length<=1099511627776):Ev L 159 [.sl q1 (l.map eQ),.sl q2 (l.map eQ)] (.bool true):=by
 refine Ev.x N.R4 rfl rfl ?_;(repeat' ((first|(apply BR<;>intro hc<;>try (exfalso;omega))|apply CB|apply BA)<;>conv=>whnf));refine DG (λ i=>l.length-i) (λ(i:Nat)=>i<=l.length) (λ i=>[(5,.int .i64 i)]) (λ_=>[]) [] [] 0 (by (conv=>whnf);exact ⟨rfl,rfl,rfl⟩) (by omega) ?_;intro i p1 ih;by_cases hi:i<l.length
 ·obtain ⟨x,hx⟩ : ∃ x,l[i]? = some x:=⟨_,zE hi⟩
  have hx':l[(i:Int).toNat]? = some x:=hx;have hC:=Aip N (hl.at hx) hk;(repeat' ((first|(apply BR<;>intro hc<;>try (exfalso;omega))|(apply CJ;omega)|apply CB|(refine CY (by assumption) ?_ rfl ?_;omega)|apply BA|refine BH (hC) ?_)<;>conv=>whnf));exact C7 [] (ih (i+1) (by omega) (by omega))
 ·obtain rfl:i=l.length:=by omega
  clear ih;(repeat' ((first|(apply BR<;>intro hc<;>try (exfalso;omega))|apply CB|apply BA)<;>conv=>whnf));exact I5 rfl
theorem iA (N:n6 L) {x:Rat} {k:Nat} (hx:Bt k x) (hk:k<2199023255552) : ∃ s:Int,Ev L 155 [.agg (eQ x)] (.int .i64 s)/\(s=0↔x=0):=by
 have hm:=hx.dp hk;obtain ⟨n',m',d',hp,s1,s2,s3,s4⟩:=UA N.toRefGLib (decide (x.num<0)) false (dg x.num.natAbs) (dg x.den) 274877906943 (by omega) (hm.1.le (by omega)) (hm.2.le (by omega));have hS:=λ q=>cN N.toRefGLib n' q m' (s1.le (by omega))
 rw[IB]at s4;have hz:sgn (zv n' m')=0↔x=0:=by
  rw[s4,Rat.mkRat_eq_zero s3];unfold sgn;split<;>(try split)<;>omega
 generalize sgn (zv n' m')=s at *;refine ⟨s,?_,hz⟩;refine Ev.x N.R5 rfl rfl ?_;(repeat' ((first|apply BA|refine BH (hp) ?_|refine BH (hS _) ?_)<;>conv=>whnf));exact FF rfl
def FM (l:List Rat):Nat->Nat
 | 0=>0
 | n+1=>if l.getD n 0=0 then FM l n else n+1
theorem T6 (l:List Rat) : ∀ n,FM l n<=n
 | 0=>Nat.le_refl _
 | n+1=>by rw[FM];split;exact Nat.le_succ_of_le (T6 l n);exact Nat.le_refl _
def F3 (l:List Rat):List Rat:=l.take (FM l l.length)
theorem Y0 (l:List Rat):(F3 l).length=FM l l.length:=by rw[F3,List.length_take];exact Nat.min_eq_left (T6 _ _)
theorem Bs.trim {k:Nat} {l:List Rat} (h:Bs k l):Bs k (F3 l):=λ x hx=>h x (List.mem_of_mem_take hx)
theorem kG {l:List Rat} {i:Nat} {x:Rat} (h:l[i]? = some x):l.take (i+1)=l.take i++[x]:=by
 rw[List.take_add_one,h];rfl
theorem Ais (N:w9 L) (q:Bool) (l:List Rat) (k:Nat) (hl:Bs k l) (hk:k<2199023255552) (hn:l.length<=1000000):Ev L 171 [.sl q (l.map eQ)] (.sl false ((F3 l).map eQ)):=by
 refine Ev.x N.SA rfl rfl ?_;(repeat' ((first|apply CB|apply BA)<;>conv=>whnf));refine DG (λ n=>n) (λ(n:Nat)=>n<=l.length/\FM l l.length=FM l n) (λ n=>[(3,.int .i64 n)]) (λ_=>[]) [] [] l.length (by (conv=>whnf);exact ⟨rfl,rfl,rfl⟩) ⟨Nat.le_refl _,rfl⟩ ?_;intro n ⟨p1,p2⟩ ih;have done : ∀ {n:Nat},FM l l.length=n->F3 l=l.take n:=λ h=>by rw[F3,h]
 by_cases hz:n=0\/(∃ m x,n=m+1/\l[m]? = some x/\x≠0)
 ·have au:FM l l.length=n:=by
   rw[p2];rcases hz with rfl|⟨m,x,rfl,h1,h2⟩
   ·rfl
   ·rw[FM,if_neg]
    rw[List.getD_eq_getElem?_getD,h1];exact h2
  rw[done au];have htl:(l.take n).length=n:=by rw[List.length_take];omega
  have htb:Bs k (l.take n):=hl.take n;clear ih au p2 done;rcases hz with h0|⟨m,x,Am,h1,h2⟩
  case' inl=>(repeat' ((first|(apply BR<;>intro hc<;>try (exfalso;omega))|apply BA)<;>conv=>whnf))
  case' inr =>
   have h1':l[((n:Int)-1).toNat]? = some x:=by rw[show ((n:Int)-1).toNat=m by omega];exact h1
   obtain ⟨s,hS,hs⟩:=iA N.toRefHLib (hl.at h1) hk;have hs0:s≠0:=λ h=>h2 (hs.1 h)
   (repeat' ((first|(apply BR<;>intro hc<;>try (exfalso;omega))|(apply D5;omega)|(refine CY (by assumption) ?_ rfl ?_;omega)|apply BA|refine BH (hS) ?_)<;>conv=>whnf))
  all_goals
   refine US (λ_=>rfl) p1 ?_;generalize l.take n=t at *;(conv=>whnf);(repeat' (apply CB<;>conv=>whnf));refine DG (λ i=>n-i) (λ(i:Nat)=>i<=n) (λ i=>[(26,.int .i64 i),(4,.row 171004 0 3 0 i)]) (λ i=>[(171004,171004,.rw 3 ((t.take i).map eQ))]) [] [] 0 (by (conv=>whnf);exact ⟨rfl,rfl,rfl⟩) (by omega) ?_;intro i g1 ih;have hti:(t.take i).length=i:=by rw[List.length_take];omega
   by_cases hi:i<n
   ·all_goals try (exfalso;omega)
    all_goals
     obtain ⟨y,hy⟩ : ∃ y,t[i]? = some y:=⟨_,zE (by omega)⟩;have hy':t[(i:Int).toNat]? = some y:=hy;have hsn:=kG hy;have Hg:(t.take (i+1)).length=i+1:=by rw[List.length_take];omega
     have hT:=cP N.toRefGLib (htb.at hy) hk;(repeat' ((first|(apply BR<;>intro hc<;>try (exfalso;omega))|(refine CY (by assumption) ?_ rfl ?_;omega)|apply G0|apply BA|refine BH (hT) ?_)<;>conv=>whnf));refine HP (enc:=eQ) y rfl hti.symm rfl (by omega) (by omega) ?_;rw[<-hsn,Hg];(conv=>whnf);(repeat' ((first|(apply CJ;omega)|fail)<;>conv=>whnf));exact C7 [(171004,171034)] (ih (i+1) (by omega) (by omega))
   ·obtain rfl:i=n:=by omega
    clear ih;rw[List.take_of_length_le (Nat.le_of_eq htl)];(repeat' ((first|(apply BR<;>intro hc<;>try (exfalso;omega))|apply BA)<;>conv=>whnf));refine GK (enc:=eQ) (λ_=>rfl) rfl htl.symm ?_;(conv=>whnf);exact CK rfl (by simp only[CT,true_and];exact KP _)
 ·obtain ⟨m,rfl⟩ : ∃ m,n=m+1:=⟨n-1,by omega⟩
  obtain ⟨x,hx⟩ : ∃ x,l[m]? = some x:=⟨_,zE (by omega)⟩;have hx0:x=0:=by
   rcases Classical.em (x=0) with h|h
   ·exact h
   ·exact (hz (Or.inr ⟨m,x,rfl,hx,h⟩)).elim
  have hx':l[((m+1:Nat)-1:Int).toNat]? = some x:=by rw[show ((m+1:Nat)-1:Int).toNat=m by omega];exact hx
  obtain ⟨s,hS,hs⟩:=iA N.toRefHLib (hl.at hx) hk;have hs0:=hs.2 hx0;(repeat' ((first|(apply BR<;>intro hc<;>try (exfalso;omega))|(apply D5;omega)|(refine CY (by assumption) ?_ rfl ?_;omega)|apply BA|refine BH (hS) ?_)<;>conv=>whnf));rw[show ((m+1:Nat):Int)-1=(m:Int) by omega];exact C7 [] (ih m (by omega) ⟨by omega,by rw[p2,FM,if_pos (by rw[List.getD_eq_getElem?_getD,hx];exact hx0)]⟩)
theorem Air (N:w9 L) (q1 q2:Bool) (l:List Rat) (k:Nat) (hl:Bs k l) (hk:k<2199023255552) (hn:l.length<=1000000):Ev L 172 [.sl q1 (l.map eQ),.sl q2 (l.map eQ)] (.bool true):=by
 have hS:=λ q1 q2=>Ahv N.toRefHLib q1 q2 l k hl hk (by omega)
 refine Ev.x N.R8 rfl rfl ?_;(repeat' ((first|apply BA|refine BH (hS _ _) ?_)<;>conv=>whnf));exact I5 rfl
theorem yQ (N:w9 L) (q1 q2:Bool) (l:List Rat) (k:Nat) (hl:Bs k l) (hk:k<2199023255552) (hn:l.length<=1000000):Ev L 173 [.sl q1 (l.map eQ),.sl q2 (l.map eQ)] (.bool true):=by
 have hT:=λ q=>Ais N q l k hl hk hn
 have hS:=λ q1 q2=>Air N q1 q2 (F3 l) k hl.trim hk (by rw[Y0];have:=T6 l l.length;omega)
 refine Ev.x N.R9 rfl rfl ?_;(repeat' ((first|apply BA|refine BH (hT _) ?_|refine BH (hS _ _) ?_)<;>conv=>whnf));exact I5 rfl
end Go.Eng

namespace Go.Eng
open F
theorem Ahg {L:Lib} {f:Nat} {fn:AFn} {vs:List AV} {own g7:BT} {r:AV} (hL:L f=some fn) (vu:LJ fn.body=true) (h:JN L f vs own r g7):g7=own:=by
 obtain ⟨n,h⟩:=h;cases n with
 | zero=>simp [GF]at h
 | succ n =>
  rw[cJ]at h;simp only[hL]at h;split at h
  ·split at h
   ·rename_i st hst
    split at h
    ·simp only[Option.some.injEq,Prod.mk.injEq]at h
     rw[<-h.2];exact LZ n (by simp [U9,vu]) hst
    ·cases h
   ·cases h
  ·cases h
attribute [local irreducible] AH BJ B1 BD EZ CF CG CR CU DW B5 DT EG F7 DM CQ DR EE AR CW BW pw DC C9 EI ET E1 E7 EW D4 E8
set_option maxHeartbeats 1000000
variable {L:Lib}
theorem Wx (N:d4 L) (l:List Nat) (s:Nat) (hD:CP l) (hl:l.length<=1099511627776):CW L 65 [.row 5 0 1 0 l.length] [(0,.row 5 0 1 0 l.length)] [(5,s,.rw 1 (l.map BZ))] (λ r _=>r = .row 5 0 1 0 (dg (val l)).length):=by
 have hlen : ∀ n,n<=l.length->l.take n=dg (val l)->n=(dg (val l)).length:=λ n h1 h2=>by
  rw[<-h2,List.length_take];omega
 refine HI 1000 N.IM rfl rfl ?_;(repeat' (apply BA<;>conv=>whnf));refine DG (λ n=>n) (λ(n:Nat)=>n<=l.length /\ ∀ i,n<=i->i<l.length->l[i]? = some 0) (λ n=>[(3,.int .i64 n)]) (λ_=>[]) [] [] l.length (by (conv=>whnf);exact ⟨rfl,rfl,rfl⟩) ⟨Nat.le_refl _,λ i h1 h2=>by omega⟩ ?_;intro n ⟨p1,p2⟩ ih;rcases n with _|n
 ·(repeat' ((first|(apply BR<;>intro hc<;>try (exfalso;omega))|apply BA)<;>conv=>whnf))
  refine JM 0 (by omega) (by omega) ?_;(conv=>whnf);refine ⟨rfl,_,rfl,?_⟩;rw[<-hlen 0 p1 (JE hD p1 p2 (Or.inl rfl))];rfl
 ·have e1:((n+1:Nat):Int)-1=n:=by omega
  (repeat' ((first|(apply BR<;>intro hc<;>try (exfalso;omega))|(apply CE;omega)|(apply D5;omega)|(refine W9 (by assumption) ?_ (λ v hv hb => ?_);omega)|apply BA)<;>conv=>whnf))
  ·rw[e1]
   exact C7 [] (ih n (by omega) ⟨by omega,λ i h1 h2=>by
    by_cases h:i=n
    ·subst h
     rw[e1,Int.toNat_natCast]at hv;rw[hv];congr 1;omega
    ·exact p2 i (by omega) h2⟩)
  ·refine JM (n+1) (by omega) (by omega) ?_
   (conv=>whnf)
   refine ⟨rfl,_,rfl,?_⟩;rw[e1,Int.toNat_natCast]at hv;rw[<-hlen (n+1) p1 (JE hD p1 p2 (Or.inr ⟨_,hv,by omega⟩))];rfl
theorem Ww (N:d4 L) (l:List Nat) (s t:Nat) (own:BT) (hD:CP l) (hl:l.length<=1099511627776) (hb:(own s).blk t=some ⟨1,l.map BZ⟩) (ht:t<(own s).c8) (gm:HM s=true):JN L 65 [.row s t 1 0 l.length] own (.row s t 1 0 (dg (val l)).length) own:=by
 have hs:NX (λ_ _=>(s,t)) own [(5,s,.rw 1 (l.map BZ))]:=by
  have key : ∀ k u c,a8 [(5,s,CS.rw 1 (l.map BZ))] k u=some c->k=5/\u=0/\c = .rw 1 (l.map BZ):=λ k u c e=>by
   simp only[a8,b9]at e;cases hk:Nat.beq k 5<;>simp only[hk,cond_true,cond_false]at e
   ·cases e
   ·cases u with
    | zero=>simp only[Option.some.injEq]at e;exact ⟨Nat.eq_of_beq_eq_true hk,rfl,e.symm⟩
    | succ u=>cases e
  refine ⟨λ k s' c e => ?_,λ k u c e => ?_,λ k u c e=>ht,λ k u k' u' c c' e e' _ => ?_,λ_ _ _ _ _=>gm⟩
  ·simp only[b9]at e
   cases hk:Nat.beq k 5<;>simp only[hk,cond_true,cond_false]at e
   ·cases e
   ·simp only[Option.some.injEq,Prod.mk.injEq]at e;exact e.1
  ·obtain ⟨_,_,rfl⟩:=key k u c e
   exact hb
  ·obtain ⟨rfl,rfl,_⟩:=key k u c e
   obtain ⟨rfl,rfl,_⟩:=key k' u' c' e';exact ⟨rfl,rfl⟩
 have hw:=Wx N l s hD hl;unfold CW at hw;obtain ⟨r,g7,σ',M',h1,h2,h3,rfl⟩:=hw _ own hs;have ho:=Ahg N.IM (by decide +kernel) h1;subst ho;have h4:AV.row (σ' 5 0).1 (σ' 5 0).2 1 0 l.length=AV.row s t 1 0 l.length:=h3 0;simp only[AV.row.injEq]at h4;have h5:JN L 65 [.row s t 1 0 l.length] g7 (.row (σ' 5 0).1 (σ' 5 0).2 1 0 (dg (val l)).length) g7:=h1;rw[h4.1,h4.2.1]at h5;exact h5
theorem eI (N:d4 L) {l:List Nat} {tm:Tm} {M:Mem} {K:AV->Mem->Prop} {key s len:Nat} (hD:CP l) (hl:l.length<=1099511627776) (hm:b9 M key=some (s,.rw 1 (l.map BZ))) (hlen:len=l.length) (hk:K (.row key 0 1 0 (dg (val l)).length) M):CW L 65 [.row key 0 1 0 len] tm M K:=by
 subst hlen;unfold CW;intro σ own hs;have aw:=hs.site _ _ _ hm;have vq:a8 M key 0=some (.rw 1 (l.map BZ)):=by simp only[a8,hm]
 have hb:=hs.blk _ _ _ vq;have ht:=hs.old _ _ _ vq;refine ⟨.row key 0 1 0 (dg (val l)).length,own,σ,M,?_,hs,λ_=>rfl,hk⟩;exact Ww N l (σ key 0).1 (σ key 0).2 own hD hl hb ht (hs.low _ _ _ (GN hm) rfl)
end Go.Eng

namespace Go.Eng
open F
attribute [local irreducible] AH BJ B1 BD EZ CF CG CR CU DW B5 DT EG F7 DM CQ DR EE AR CW BW pw DC C9 EI ET E1 E7 EW D4 E8
set_option maxHeartbeats 4000000
variable {L:Lib}
abbrev mO (v:List Nat) (j m s xl:Nat):Tm:=[(102,AV.sl false (List.map BZ v)),(101,AV.row 71012 0 1 j (v.length+1)),
           (100,AV.int IntKind.i64 (↑j + ↑v.length+1)),(99,AV.int IntKind.i64 (↑j + ↑v.length)),
           (98,AV.int IntKind.i64 ↑v.length),(97,AV.int IntKind.i64 ↑j),(96,AV.int IntKind.i64 ↑j),
           (95,AV.row 71012 0 1 0 (xl+1)),(94,AV.int IntKind.i64 ↑j),(93,AV.row 28 0 1 0 m),
           (90,AV.bool true),(14,AV.int IntKind.i64 ↑j),(13,AV.sl false (List.map BZ v)),
           (12,AV.row 71012 0 1 0 (xl+1)),(11,AV.int IntKind.u64 ↑s),(7,AV.row 28 0 1 0 m),
           (6,AV.int IntKind.i64 ↑v.length)]
abbrev Yi:List It:=[It.lp IW.l2,It.blk 2,It.code
      (((C4.ops IW.v9 false).dr [9,10,84,85,86,87,118,119,120,121,122,123,124,125,126]
         []).seq
       (((C4.ops IW.r19 false).dr [127,128,129,130,131] []).seq
        ((((C4.ops IW.ah false).dr [15,132,133] []).seq
           (C4.cond 134
            (((C4.ops IW.br false).dr [0,1,5,7,134,135,136] []).seq C4.ret)
            C4.skip)).seq
         (((C4.ops IW.cg false).dr [134] []).seq
          ((((C4.ops IW.fg false).dr [1] []).seq (C4.block 4 IW.l3.loop)).seq
           (((C4.ops IW.r30 false).dr
              [0,5,9,137,138,139,140,162,163,164,165,166,167,168,169] []).seq
            (((C4.ops IW.pg false).dr [7,170,171,172] []).seq C4.ret)))))))]
section
variable {A W C w v:List Nat} {j m s xl q:Nat} {K:AV->Mem->Prop}
theorem mH (hA:A.length=j) (hW:W.length=v.length+1) (D2:CP W) (al:CP v) (bj:2<=v.length) (lv:v.length<=549755813888) (q7:0<val v)
  (r1:q<4294967296) (r2:val W/val v<=q) (r3:q<=val W/val v+1)
  (hk : ∀ (W':List Nat) (o':List (List AV)) (q':Nat),W'.length=v.length+1->CP W'->val W'=val W%val v->q'=val W/val v->K (.int .u32 (q':Int)) [(71012,71012,.rw 1 ((A++W'++C).map BZ)),(28,28,.rw 1 (w.map BZ)),(71012,71012,.rw 1 o')])
  (hk2 : ∀ (W':List Nat) (o':List (List AV)) (q':Nat),W'.length=v.length+1->CP W'->val W'=val W%val v->q'=val W/val v->K (.int .u32 (q':Int)) [(71012,71012,.rw 1 ((A++W'++C).map BZ)),(71012,71012,.rw 1 o'),(28,28,.rw 1 (w.map BZ))]) :
  AH L Yi ([(86,.int .i64 0),(85,.int .i64 v.length),(84,.sl false (v.map BZ)),(10,.int .u64 0),(9,.int .u64 0),(7,.int .u64 (q:Int)),(5,.int .i64 v.length),(0,AV.row 71012 0 1 j (v.length+1)),(1,AV.sl false (List.map BZ v))]++JJ 1000 (mO v j m s xl))
   [(71012,71012,CS.rw 1 (List.map BZ (A++W++C))),(28,28,CS.rw 1 (List.map BZ w))] (tF 1000 IW (mO v j m s xl) K):=by
 refine kO (λ i _ _ _=>v.length-i) (λ(i:Nat) (Z:List Nat) (c b:Nat)=>i<=v.length/\Z.length=v.length+1/\CP Z/\c<4294967296/\b<=1/\Z.drop i=W.drop i/\val (Z.take i)+q*val (v.take i)=val (W.take i)+4294967296^i*(c+b)) (λ i Z c b=>[(86,.int .i64 i),(10,.int .u64 (b:Int)),(9,.int .u64 (c:Int))]) (λ i Z c b=>[(71012,71012,.rw 1 ((A++Z++C).map BZ))]) [] [] 0 W 0 0 (by (conv=>whnf);exact ⟨rfl,rfl,rfl⟩) ⟨by omega,hW,D2,by omega,by omega,rfl,by simp [val]⟩ ?_;intro i Z c b ⟨p1,p2,p3,p4,p5,p6,p7⟩ ih;by_cases hi:i<v.length
 ·obtain ⟨d,hd⟩ : ∃ d,v[i]? = some d:=⟨_,zE hi⟩
  obtain ⟨u,hu⟩ : ∃ u,Z[i]? = some u:=⟨_,zE (by omega)⟩;have hdb:=al.at hd;have hub:=p3.at hu;obtain ⟨pr,jx⟩ : ∃ pr,pr=q*d+c:=⟨_,rfl⟩;obtain ⟨m1,m2,m3⟩:=Ji r1 hdb p4 jx;have mw:W[i]? = some u:=by
   have e1:(Z.drop i)[0]? = (W.drop i)[0]? := by rw[p6]
   simpa [hu] using e1.symm
  (repeat' ((first|(apply BR<;>intro hc<;>try (exfalso;omega))|(apply CE;omega)|(apply I9;omega)|(apply UN;omega)|apply IE|(apply EJ;omega)|(refine CY (by assumption) ?_ rfl ?_;omega)|apply BA)<;>conv=>whnf))
  rw[<-jx];refine VZ i hu (by omega) ?_;(conv=>whnf);(repeat' ((first|(apply CE;omega)|(apply fE;omega)|(apply EJ;omega)|apply IU)<;>conv=>whnf));obtain ⟨s1,s2⟩:=kD hub (show pr%4294967296<4294967296 by omega) p5;have hst:=Akk p7 jx rfl hub p5;generalize HC (HC u (pr%4294967296)) b=t at *;refine TT i (by omega) (by omega) ?_;(conv=>whnf);(repeat' ((first|(apply CJ;omega)|apply fD)<;>conv=>whnf));refine DE [] (by (conv=>whnf);exact ⟨rfl,rfl,rfl⟩) (ih (i+1) _ _ _ (by omega) ⟨by omega,by simpa using p2,p3.set _ (by omega),m1,s2,?_,?_⟩)
  ·rw[List.drop_set_of_lt (by omega)]
   have e1:(Z.drop i).drop 1=(W.drop i).drop 1:=by rw[p6]
   simpa using e1
  ·rw[I3 (by omega),GT hd,GT mw,Nat.pow_succ]
   exact hst
 ·obtain rfl:i=v.length:=by omega
  clear ih;obtain ⟨u,hu⟩ : ∃ u,Z[v.length]? = some u:=⟨_,zE (by omega)⟩;have hub:=p3.at hu;have mw:W[v.length]? = some u:=by
   have e1:(Z.drop v.length)[0]? = (W.drop v.length)[0]? := by rw[p6]
   simpa [hu] using e1.symm
  rw[FL (Nat.le_refl v.length)]at p7;obtain ⟨s1,s2⟩:=kD hub p4 p5;have hst:=Aki p7 rfl hub p4 p5;have eW:val W=val (W.take v.length)+4294967296^v.length*u:=by
   rw[<-GT mw,FL (by omega)]
  rw[<-eW,<-I3 (show v.length<Z.length by omega),FL (by simp;omega)]at hst;(repeat' ((first|(apply BR<;>intro hc<;>try (exfalso;omega))|(apply CE;omega)|apply BA)<;>conv=>whnf));refine VZ v.length hu (by omega) ?_;(conv=>whnf);(repeat' ((first|(apply CE;omega)|(apply fE;omega)|(apply EJ;omega)|apply IU)<;>conv=>whnf));generalize HC (HC u c) b=t at *;refine TT v.length (by omega) (by omega) ?_;(conv=>whnf);(repeat' ((first|(apply BR<;>intro hc<;>try (exfalso;omega))|apply fD|(apply GZ;omega)|apply CB)<;>conv=>whnf))
  ·have ht0:t/9223372036854775808=0:=by omega
   rw[ht0,Nat.mul_zero,Nat.add_zero]at hst;obtain ⟨y1,y2⟩:=wH q7 r2 hst;exact ⟨rfl,_,rfl,hk _ _ _ (by simpa using p2) (p3.set _ (by omega)) y2 y1⟩
  ·have Qo:t/9223372036854775808=1:=by omega
   rw[Qo,Nat.mul_one]at hst;have uf:CP (Z.set v.length (t%4294967296)):=p3.set _ (by omega);have hXl:(Z.set v.length (t%4294967296)).length=v.length+1:=by simpa using p2
   clear p7 p6 p4 p5 s1 s2 eW Qo hu mw hub p1 p2 p3;generalize Z.set v.length (t%4294967296)=X at *;have hU':=HT uf;rw[hXl,Nat.pow_succ]at hU';obtain ⟨y1,y2,y3⟩:=wG q7 r3 hU' hst;have hRV:val W%val v<val v:=Nat.mod_lt _ q7;have qb:=HT al;obtain ⟨xw,rm⟩ : ∃ xw,X[v.length]? = some xw:=⟨_,zE (by omega)⟩;have eX:val X=val (X.take v.length)+4294967296^v.length*xw:=by
    rw[<-GT rm,FL (by omega)]
   refine JL (λ i _ _=>v.length-i) (λ(i:Nat) (Z:List Nat) (c:Nat)=>i<=v.length/\Z.length=v.length+1/\CP Z/\c<=1/\Z.drop i=X.drop i/\val (Z.take i)+4294967296^i*c=val (X.take i)+val (v.take i)) (λ i Z c=>[(139,.int .i64 i),(9,.int .u64 (c:Int))]) (λ i Z c=>[(71012,71012,.rw 1 ((A++Z++C).map BZ))]) [] [] 0 X 0 (by (conv=>whnf);exact ⟨rfl,rfl,rfl⟩) ⟨by omega,hXl,uf,by omega,rfl,by simp [val]⟩ ?_;intro i Z c ⟨p1,p2,p3,p4,p6,p7⟩ ih;by_cases hi:i<v.length
   ·obtain ⟨d,hd⟩ : ∃ d,v[i]? = some d:=⟨_,zE hi⟩
    obtain ⟨u,hu⟩ : ∃ u,Z[i]? = some u:=⟨_,zE (by omega)⟩;have hdb:=al.at hd;have hub:=p3.at hu;have fc:X[i]? = some u:=by
     have e1:(Z.drop i)[0]? = (X.drop i)[0]? := by rw[p6]
     simpa [hu] using e1.symm
    have hab:=tM (d:=d) (w:=u) p7 rfl;(repeat' ((first|(apply BR<;>intro hc<;>try (exfalso;omega))|(apply CE;omega)|(refine CY (by assumption) ?_ rfl ?_;omega)|apply BA)<;>conv=>whnf));refine VZ i hu (by omega) ?_;(conv=>whnf);(repeat' ((first|(apply CE;omega)|(apply I9;omega)|(apply EJ;omega)|apply IU)<;>conv=>whnf));generalize ht2:u+d+c=t2 at *;refine TT i (by omega) (by omega) ?_;(conv=>whnf);(repeat' ((first|(apply CJ;omega)|apply IE)<;>conv=>whnf));refine DE [] (by (conv=>whnf);exact ⟨rfl,rfl,rfl⟩) (ih (i+1) _ _ (by omega) ⟨by omega,by simpa using p2,p3.set _ (by omega),by omega,?_,?_⟩)
    ·rw[List.drop_set_of_lt (by omega)]
     have e1:(Z.drop i).drop 1=(X.drop i).drop 1:=by rw[p6]
     simpa using e1
    ·rw[I3 (by omega),GT hd,GT fc,Nat.pow_succ]
     exact hab
   ·obtain rfl:i=v.length:=by omega
    clear ih;obtain ⟨u,hu⟩ : ∃ u,Z[v.length]? = some u:=⟨_,zE (by omega)⟩;have hub:=p3.at hu;have fc:X[v.length]? = some u:=by
     have e1:(Z.drop v.length)[0]? = (X.drop v.length)[0]? := by rw[p6]
     simpa [hu] using e1.symm
    rw[fc]at rm;obtain rfl:u=xw:=by simpa using rm
    rw[FL (Nat.le_refl v.length)]at p7;have ug:=HT (p3.take v.length);rw[List.length_take,Nat.min_eq_left (by omega)]at ug;rw[eX]at y3;have hend:=tL p7 y3 (by omega) ug;rw[<-I3 (show v.length<Z.length by omega),FL (by simp;omega)]at hend;(repeat' ((first|(apply BR<;>intro hc<;>try (exfalso;omega))|(apply CE;omega)|apply BA)<;>conv=>whnf));refine VZ v.length hu (by omega) ?_;(conv=>whnf);(repeat' ((first|(apply CE;omega)|apply sY|(apply GZ;omega))<;>conv=>whnf));refine TT v.length (by omega) (by omega) ?_;(conv=>whnf);(repeat' ((first|(apply L4;omega;omega)|(apply GZ;omega))<;>conv=>whnf));exact ⟨rfl,_,rfl,hk2 _ _ _ (by simpa using p2) (p3.set _ (by omega)) hend y1⟩
theorem Wa (N:d4 L) (hA:A.length=j) (hW:W.length=v.length+1) (D2:CP W) (al:CP v) (bj:2<=v.length) (lv:v.length<=549755813888) (q7:0<val v)
  (n2:4294967296^(v.length-1)*2147483648<=val v) (g2:val W<4294967296*val v)
  (hk : ∀ (W':List Nat) (o':List (List AV)) (q':Nat),W'.length=v.length+1->CP W'->val W'=val W%val v->q'=val W/val v->K (.int .u32 (q':Int)) [(71012,71012,.rw 1 ((A++W'++C).map BZ)),(28,28,.rw 1 (w.map BZ)),(71012,71012,.rw 1 o')])
  (hk2 : ∀ (W':List Nat) (o':List (List AV)) (q':Nat),W'.length=v.length+1->CP W'->val W'=val W%val v->q'=val W/val v->K (.int .u32 (q':Int)) [(71012,71012,.rw 1 ((A++W'++C).map BZ)),(71012,71012,.rw 1 o'),(28,28,.rw 1 (w.map BZ))]) :
  CW L 73 [AV.row 71012 0 1 j (v.length+1),AV.sl false (List.map BZ v)] (mO v j m s xl) [(71012,71012,CS.rw 1 (List.map BZ (A++W++C))),(28,28,CS.rw 1 (List.map BZ w))] K:=by
 obtain ⟨UL,a1,a2⟩:=kL D2 (n:=v.length+1) (by omega) (by omega);obtain ⟨VL,b5,b6⟩:=Ot al (n:=v.length) bj (by omega);obtain ⟨u0,w0⟩ : ∃ d,W[v.length]? = some d:=⟨_,zE (by omega)⟩;obtain ⟨u1,w1⟩ : ∃ d,W[v.length-1]? = some d:=⟨_,zE (by omega)⟩;obtain ⟨u2,w2⟩ : ∃ d,W[v.length-2]? = some d:=⟨_,zE (by omega)⟩;obtain ⟨f1,x1⟩ : ∃ d,v[v.length-1]? = some d:=⟨_,zE (by omega)⟩;obtain ⟨f2,x2⟩ : ∃ d,v[v.length-2]? = some d:=⟨_,zE (by omega)⟩;rw[show v.length+1-3=v.length-2 by omega,show v.length+1-2=v.length-1 by omega,show v.length+1-1=v.length by omega,JP w0,JP w1,JP w2]at a2;rw[show v.length+1-3=v.length-2 by omega]at a1;rw[JP x1,JP x2]at b6;have km:=Oe al (k:=v.length-1) (by omega) n2 x1;have k0:=D2.at w0;have k1:=D2.at w1;have k2:=D2.at w2;have k3:=al.at x1;have k4:=al.at x2;have z1:v[((v.length:Int)-1).toNat]? = some f1:=by rw[show ((v.length:Int)-1).toNat=v.length-1 by omega];exact x1
 have z2:v[((v.length:Int)-2).toNat]? = some f2:=by rw[show ((v.length:Int)-2).toNat=v.length-2 by omega];exact x2
 refine HI 1000 N.IW rfl rfl ?_;(repeat' ((first|(apply CE;omega)|apply CB|apply BA)<;>conv=>whnf));refine VZ v.length w0 (by omega) ?_;(conv=>whnf);(repeat' ((first|(apply CE;omega)|(apply D5;omega)|(apply TS;omega)|(apply EJ;omega))<;>conv=>whnf));refine VZ (v.length-1) w1 (by omega) ?_;(conv=>whnf);refine sP (by omega) ?_;(conv=>whnf);refine UP (by omega) ?_;(conv=>whnf);generalize Hh:u0*4294967296+u1=top at *;have htb:top<=18446744073709551615:=by omega
 have hU:val W=UL+4294967296^(v.length-2)*(u2+4294967296*top):=by rw[a2,show u1+4294967296*u0=top by omega]
 (repeat' ((first|(apply D5;omega)|(apply bC;omega)|(apply fA;omega;omega)|(apply EJ;omega)|(refine CY (by assumption) ?_ rfl ?_;omega))<;>conv=>whnf))
 refine I4 (λ q _=>q) (λ(q r:Nat)=>Gs (val W) (val v) f1 f2 u2 top q r) (λ q r=>[(7,.int .u64 (q:Int)),(8,.int .u64 (r:Int))]) (λ_ _=>[]) [] [] (top/f1) (top%f1) (by (conv=>whnf);exact ⟨rfl,rfl,rfl⟩) (Gs.start hU b6 a1 k2 q7 (by omega) k3) ?_;intro q r g gp;have hqt:q<=top:=by
  have h3:=g.hq;have h4:q*1<=q*f1:=Nat.mul_le_mul_left q (by omega);omega
 have hr:=g.hr;have fp:=g.ge;by_cases hb:4294967296<=q
 ·obtain ⟨y1,y2,y3⟩:=g.next hU b6 a1 q7 g2 (Or.inl hb)
  (repeat' ((first|(apply BR<;>intro hc<;>try (exfalso;omega))|(apply D5;omega)|(apply I9;omega)|(apply L4;omega;omega)|(apply EJ;omega)|apply CB|(refine CY (by assumption) ?_ rfl ?_;omega)|apply BA)<;>conv=>whnf))
  ·obtain ⟨t1,t2⟩:=Z3 hU b6 b5 km k4 g2 y2 (Or.inr (by omega))
   exact DE [] (by (conv=>whnf);exact ⟨rfl,rfl,rfl⟩) (mH (w:=w) (C:=C) hA hW D2 al bj lv q7 t1 y3 t2 hk hk2)
  ·exact DE [] (by (conv=>whnf);exact ⟨rfl,rfl,rfl⟩) (gp (q-1) (r+f1) (by omega) ⟨y2,by omega,y3⟩)
 ·have hmq:=Z9 (show q<4294967296 by omega) k4
  by_cases m7:r*4294967296+u2<q*f2
  ·obtain ⟨y1,y2,y3⟩:=g.next hU b6 a1 q7 g2 (Or.inr m7)
   (repeat' ((first|(apply BR<;>intro hc<;>try (exfalso;omega))|(apply CE;omega)|(apply D5;omega)|(apply UN;omega)|(apply TS;omega)|(apply EJ;omega)|(refine CY (by assumption) ?_ rfl ?_;omega)|apply BA)<;>conv=>whnf))
   refine VZ (v.length-2) w2 (by omega) ?_;(conv=>whnf);(repeat' ((first|(apply BR<;>intro hc<;>try (exfalso;omega))|(apply D5;omega)|(apply I9;omega)|(apply UP;omega)|(apply L4;omega;omega)|(apply EJ;omega)|apply CB|(refine CY (by assumption) ?_ rfl ?_;omega))<;>conv=>whnf))
   ·obtain ⟨t1,t2⟩:=Z3 hU b6 b5 km k4 g2 y2 (Or.inr (by omega))
    exact DE [] (by (conv=>whnf);exact ⟨rfl,rfl,rfl⟩) (mH (w:=w) (C:=C) hA hW D2 al bj lv q7 t1 y3 t2 hk hk2)
   ·exact DE [] (by (conv=>whnf);exact ⟨rfl,rfl,rfl⟩) (gp (q-1) (r+f1) (by omega) ⟨y2,by omega,y3⟩)
  ·obtain ⟨t1,t2⟩:=Z3 hU b6 b5 km k4 g2 g.hq (Or.inl ⟨by omega,by omega⟩)
   (repeat' ((first|(apply BR<;>intro hc<;>try (exfalso;omega))|(apply CE;omega)|(apply D5;omega)|(apply UN;omega)|(apply TS;omega)|(apply EJ;omega)|(refine CY (by assumption) ?_ rfl ?_;omega)|apply BA)<;>conv=>whnf))
   refine VZ (v.length-2) w2 (by omega) ?_;(conv=>whnf);(repeat' ((first|(apply BR<;>intro hc<;>try (exfalso;omega))|(apply UP;omega)|(apply EJ;omega)|apply CB)<;>conv=>whnf));exact DE [] (by (conv=>whnf);exact ⟨rfl,rfl,rfl⟩) (mH (w:=w) (C:=C) hA hW D2 al bj lv q7 t1 fp t2 hk hk2)
end
end Go.Eng

namespace Go.Eng
open F
attribute [local irreducible] AH BJ B1 BD EZ CF CG CR CU DW B5 DT EG F7 DM CQ DR EE AR CW BW pw DC C9 EI ET E1 E7 EW D4 E8
variable {L:Lib}
set_option maxHeartbeats 4000000
theorem Ald {V R y d t Q:Nat} (h:Q*y+R=V) (ht:t=R*4294967296+d):(t/y+4294967296*Q)*y+t%y=d+4294967296*V:=by
 have:=Nat.div_add_mod t y
 rw[<-h,Nat.add_mul];have e:t/y*y=y*(t/y):=Nat.mul_comm _ _;grind
theorem bT (a b:List Nat):CT (.tup [.sl false (a.map BZ),.sl false (b.map BZ)]):=by
 simp only[CT,FG,and_true,true_and];exact ⟨E5 a,E5 b⟩
set_option maxHeartbeats 4000000 in
theorem nF (N:d4 L) (X Y:Nat) (q1 q2:Bool) (hY:Y≠0) (lx:(dg X).length<=549755813888) (ly:(dg Y).length<=549755813888):Ev L 74 [.sl q1 ((dg X).map BZ),.sl q2 ((dg Y).map BZ)] (.tup [.sl false ((dg (X/Y)).map BZ),.sl false ((dg (X%Y)).map BZ)]):=by
 have e8:=λ q q'=>U6 N (dg X) (dg Y) q q' (GR X) (GR Y) (by omega) (by omega)
 rw[DP,DP]at e8;have d1:=GR X;have d2:=GR Y;have v1:=DP X;have v2:=DP Y;have hy1:=cC hY;refine Ev.x N.P1 rfl rfl ?_;by_cases e9:X<Y
 ·have hn:FI X Y = -1:=(LL (by omega)).symm
  rw[hn]at e8;(repeat' ((first|(apply BR<;>intro hc<;>try (exfalso;omega))|apply BA|refine BH (e8 _ _) ?_|refine BH (xR N (dg X) _ (by omega)) ?_)<;>conv=>whnf));refine CK ?_ (bT _ _);rw[Nat.div_eq_of_lt e9,Nat.mod_eq_of_lt e9,HS];rfl
 have fp:0<=FI X Y:=by unfold FI;split<;>(try split)<;>omega
 have nf:=V9 (show Y<=X by omega);generalize FI X Y=cm at *;by_cases h1:(dg Y).length=1
 ·-- one digit
  obtain ⟨y0,fx⟩ : ∃ y0,dg Y=[y0]:=List.length_eq_one_iff.1 h1;have im:Y=y0:=by rw[<-v2,fx];simp [val]
  subst im;have hyb:Y<4294967296:=d2 Y (by rw[fx];simp);have hyg:(dg Y)[0]? = some Y:=by rw[fx];rfl
  clear fx v2;generalize dg Y=y at *;generalize hx:dg X=x at *;(repeat' ((first|(apply BR<;>intro hc<;>try (exfalso;omega))|(apply CJ;omega)|(apply D5;omega)|apply CB|apply BA|refine BH (e8 _ _) ?_)<;>conv=>whnf));refine GU (enc:=BZ) 0 x.length rfl (by omega) (by omega) ?_;(conv=>whnf);(repeat' ((first|(apply BR<;>intro hc<;>try (exfalso;omega))|(apply D5;omega)|apply CB)<;>conv=>whnf));refine JL (λ n _ _=>n) (λ(n:Nat) (o:List Nat) (r:Nat)=>n<=x.length/\o.length=x.length/\CP o/\r<Y/\val (o.drop n)*Y+r=val (x.drop n)) (λ n o r=>[(8,.int .u64 (r:Int)),(9,.int .i64 ((n:Int)-1))]) (λ n o r=>[(28,28,.rw 1 (o.map BZ))]) [] [] x.length (List.replicate x.length 0) 0 (by (conv=>whnf);exact ⟨rfl,rfl,rfl⟩) ⟨by omega,by simp,MF _,by omega,by rw[List.drop_of_length_le (Nat.le_refl _),List.drop_of_length_le (by simp)];simp [val]⟩ ?_;intro n o r ⟨p1,p2,p3,p4,p5⟩ ih;rcases n with _|n
  ·rw[List.drop_zero,List.drop_zero]at p5
   have hq:X/Y=val o/\X%Y=r:=by
    rw[<-v1,<-p5];have e1:(val o*Y+r)/Y=val o:=by
     rw[Nat.mul_comm,Nat.mul_add_div (by omega),Nat.div_eq_of_lt p4,Nat.add_zero]
    have e2:(val o*Y+r)%Y=r:=by
     rw[Nat.mul_comm,Nat.mul_add_mod,Nat.mod_eq_of_lt p4]
    exact ⟨e1,e2⟩
   rw[hq.1,hq.2,<-p2];clear ih hq p5;have hl1:=HL p3;have v3:CP [r]:=KQ (by omega);have hl2:=HL v3;have Ar:val [r]=r:=by simp [val]
   have Qh:[r].length=1:=rfl;(repeat' ((first|(apply BR<;>intro hc<;>try (exfalso;omega))|(apply GZ;omega)|apply BA|refine eI N (by assumption) (by omega) rfl (by first|rfl|omega|assumption) ?_)<;>conv=>whnf));refine J5 (enc:=BZ) (λ_=>rfl) (by omega) ?_;(conv=>whnf);refine J5 (enc:=BZ) (l:=[r]) (λ_=>rfl) (by omega) ?_;(conv=>whnf);refine CK ?_ (bT _ _);rw[List.drop_zero,List.drop_zero,eB p3,eB v3,Ar]
  ·have e1:((n+1:Nat):Int)-1=n:=by omega
   rw[e1];obtain ⟨d,hd⟩ : ∃ d,x[n]? = some d:=⟨_,zE (by omega)⟩;have hdb:=d1.at hd;have hYb:Y<4294967296:=hyb;have hR:r*4294967296+d<Y*4294967296:=by omega
   have hq0:(r*4294967296+d)/Y<4294967296:=(Nat.div_lt_iff_lt_mul (by omega)).2 (by omega);(repeat' ((first|(apply BR<;>intro hc<;>try (exfalso;omega))|(apply CE;omega)|(apply TS;omega)|(apply UP;omega)|(apply fA;omega;omega)|(apply EJ;omega)|(apply GZ;omega)|(refine CY (by assumption) ?_ rfl ?_;omega)|apply BA)<;>conv=>whnf));obtain ⟨t,ht⟩ : ∃ t,t=r*4294967296+d:=⟨_,rfl⟩;rw[<-ht]at hR hq0 ⊢;have hm:t%Y<Y:=Nat.mod_lt _ (by omega);have hst:=Ald p5 ht;rw[<-KI hd]at hst;clear ht;skip;refine IA (by omega) ?_;(conv=>whnf);(repeat' ((first|(apply D5;omega)|(apply bC;omega)|(apply EJ;omega)|(refine CY (by assumption) ?_ rfl ?_;omega))<;>conv=>whnf));generalize t/Y=tq at *;generalize t%Y=tr at *;refine DE [] (by (conv=>whnf);exact ⟨rfl,rfl,rfl⟩) (ih n _ _ (by omega) ⟨by omega,by simpa using p2,p3.set _ (by omega),hm,?_⟩);rw[KI (l:=o.set n tq) (d:=tq) (by rw[List.getElem?_set_self (by omega)]),List.drop_set_of_lt (by omega)];exact hst
 ·-- two digits or more
  have Al:2<=(dg Y).length:=by omega
  obtain ⟨yt,lz,nr⟩:=mG hY;have ma:=d2.at lz;obtain ⟨b1,b2,b3,b4⟩:=oQ nr ma;have va:=xS N yt ma;generalize hs:32-l7 yt=s at *;have x8:s<=31:=by omega
  generalize dg Y=y at *;generalize hx:dg X=x at *;have e1:((y.length:Int)-1).toNat=y.length-1:=by omega
  rw[<-e1]at lz;obtain ⟨rv,Ql,v,hV,hvl,Gy⟩:=AhX N y q2 s y.length d2 x8 (by omega) (by omega);subst Gy;(repeat' ((first|(apply BR<;>intro hc<;>try (exfalso;omega))|(apply CJ;omega)|(apply D5;omega)|apply CB|apply BA|refine BH (e8 _ _) ?_)<;>conv=>whnf));refine GU (enc:=BZ) 0 (x.length-y.length+1) rfl (by omega) (by omega) ?_;(conv=>whnf);(repeat' ((first|(apply BR<;>intro hc<;>try (exfalso;omega))|(apply CJ;omega)|(apply D5;omega)|(apply EJ;omega)|apply CB|(refine CY (by assumption) ?_ rfl ?_;omega)|refine BH (va) ?_)<;>conv=>whnf));refine HI 1000 N.M8 rfl rfl ?_;(repeat' (apply BA<;>conv=>whnf));refine GU (enc:=BZ) 0 (x.length+1) rfl (by omega) (by omega) ?_;(conv=>whnf);(repeat' (apply CB<;>conv=>whnf));have jy:=dN (s:=s) (by omega);refine JL (λ i _ _=>x.length-i) (λ(i:Nat) (o:List Nat) (lo:Nat)=>i<=x.length/\o.length=x.length+1/\CP o/\lo<2^s/\val (o.take i)+4294967296^i*lo=val (x.take i)*2^s) (λ i o lo=>[(8,.int .u32 (lo:Int)),(15,.int .i64 i)]) (λ i o lo=>[(71012,71012,.rw 1 (o.map BZ))]) [] [] 0 (List.replicate (x.length+1) 0) 0 (by (conv=>whnf);exact ⟨rfl,rfl,rfl⟩) ⟨by omega,by simp,MF _,Nat.two_pow_pos s,by simp [val]⟩ ?_;intro i o lo ⟨p1,p2,p3,p4,p5⟩ ih;by_cases hi:i<x.length
  ·obtain ⟨d,hd⟩ : ∃ d,x[i]? = some d:=⟨_,zE hi⟩
   have hdb:=d1.at hd;obtain ⟨f1,f2,f3,f4⟩:=YS (s:=s) hdb (by omega);(repeat' ((first|(apply BR<;>intro hc<;>try (exfalso;omega))|(refine CY (by assumption) ?_ rfl ?_;omega)|apply BA)<;>conv=>whnf));refine tD (by omega) ?_;(conv=>whnf);skip;refine kW s f1 p4 (by omega) ?_;(conv=>whnf);(repeat' ((first|(apply CE;omega)|fail)<;>conv=>whnf));refine IA (by omega) ?_;(conv=>whnf);(repeat' ((first|(apply EJ;omega)|fail)<;>conv=>whnf));refine UR (by omega) f4 ?_;(conv=>whnf);(repeat' ((first|(apply CJ;omega)|apply IE|(apply GZ;omega))<;>conv=>whnf));rw[<-WT];refine DE [] (by (conv=>whnf);exact ⟨rfl,rfl,rfl⟩) (ih (i+1) _ _ (by omega) ⟨by omega,by simpa using p2,p3.set _ (by omega),f2,?_⟩);rw[I3 (by omega),GT hd,Nat.pow_succ];exact Ir p5
  obtain rfl:i=x.length:=by omega
  clear ih;(repeat' ((first|(apply BR<;>intro hc<;>try (exfalso;omega))|(apply CE;omega)|apply CB|apply BA)<;>conv=>whnf));refine IA (by omega) ?_;(conv=>whnf);skip;have hU:=Iq p3 (by omega) p2 p5;have hUl:(o.set x.length lo).length=x.length+1:=by simpa using p2
  clear p3 p4 p5 p2;generalize o.set x.length lo=u at *;refine ⟨rfl,_,rfl,?_⟩;(conv=>whnf);(repeat' ((first|(apply D5;omega)|apply CB|refine BH (Ql) ?_)<;>conv=>whnf));have Hp:y[y.length-1]? = some yt:=by rw[<-e1];exact lz
  obtain ⟨n1,n2⟩:=oN d2 Hp (by omega) x8 b3 b4;have Ae:val v=Y*2^s:=by rw[<-v2];exact hV.2.2 (by rw[hvl];exact n1)
  have Ad:val u=X*2^s:=by
   rw[<-v1];refine hU.2.2 ?_;have h3:=HT d1;rw[hUl,Nat.pow_succ];exact Nat.lt_of_lt_of_le (Nat.mul_lt_mul_of_pos_right h3 (Nat.two_pow_pos s)) (Nat.mul_le_mul_left _ jy)
  have al:=hV.1;have Ab:=hU.1;have qe:=HT al;rw[v2,<-Ae]at n2;rw[<-hvl]at n2;clear hV hU e8 Ql va;have bj:2<=v.length:=by omega
  have hvx:v.length<=x.length:=by omega
  have lv:v.length<=549755813888:=by omega
  have hxL:x.length<=549755813888:=by omega
  have hX:X<4294967296^x.length:=by rw[<-v1];exact HT d1
  rw[<-hvl];generalize hm:x.length-v.length+1=m at *;have q7:0<val v:=by
   have:=Kw (v.length-1)
   omega
  have gl:val (u.drop m)<val v:=by
   have h1:=NQ u m (by omega);rw[Ad]at h1;have h2:X*2^s<4294967296^x.length*2147483648:=Nat.lt_of_lt_of_le (Nat.mul_lt_mul_of_pos_right hX (Nat.two_pow_pos s)) (Nat.mul_le_mul_left _ (Nat.pow_le_pow_right (by omega) x8));have h3:4294967296^x.length=4294967296^m*4294967296^(v.length-1):=by rw[<-Nat.pow_add];congr 1;omega
   rw[h3,Nat.mul_assoc]at h2;refine Nat.lt_of_lt_of_le ?_ n2;refine Nat.lt_of_mul_lt_mul_left (a:=4294967296^m) ?_;omega
  have e2:(x.length:Int)-v.length=((m:Nat):Int)-1:=by omega
  rw[e2];refine JL (λ n _ _=>n) (λ(n:Nat) (o w:List Nat)=>n<=m/\o.length=x.length+1/\CP o/\w.length=m/\CP w/\val (o.drop n)<val v/\X*2^s=val (o.take n)+4294967296^n*(val (w.drop n)*val v+val (o.drop n))) (λ n o w=>[(14,.int .i64 ((n:Int)-1))]) (λ n o w=>[(71012,71012,.rw 1 (o.map BZ)),(28,28,.rw 1 (w.map BZ))]) [] [] m u (List.replicate m 0) (by (conv=>whnf);exact ⟨rfl,rfl,rfl⟩) ⟨by omega,hUl,Ab,by simp,MF _,gl,by rw[<-Ad,List.drop_of_length_le (show (List.replicate m 0).length<=m by simp),L2,Nat.zero_mul,Nat.zero_add];exact NQ u m (by omega)⟩ ?_;intro n o w ⟨p1,p2,p3,p4,p5,p6,p7⟩ ih;rcases n with _|j
  ·clear ih
   rw[List.drop_zero]at p6;rw[List.take_zero,List.drop_zero,List.drop_zero,L2,Nat.zero_add,Nat.pow_zero,Nat.one_mul]at p7;have ij:val o=val (o.take v.length):=by
    have h1:=Y3 o v.length;rcases Nat.eq_zero_or_pos (val (o.drop v.length)) with h2|h2
    ·rw[h2,Nat.mul_zero,Nat.add_zero]at h1;exact h1
    ·have h3:4294967296^v.length*1<=4294967296^v.length*val (o.drop v.length):=Nat.mul_le_mul_left _ h2
     omega
   have my:X/Y=val w/\X%Y=val o/2^s:=by
    obtain ⟨z1,z2⟩:=wJ (X:=X) (Y:=Y) (Nat.two_pow_pos s);rw[<-z1,<-z2,<-Ae,p7];have e1:(val w*val v+val o)/val v=val w:=by
     rw[Nat.mul_comm,Nat.mul_add_div q7,Nat.div_eq_of_lt p6,Nat.add_zero]
    have e2:(val w*val v+val o)%val v=val o:=by
     rw[Nat.mul_comm,Nat.mul_add_mod,Nat.mod_eq_of_lt p6]
    rw[e1,e2];exact ⟨rfl,rfl⟩
   rw[my.1,my.2];have hl1:=HL p5;obtain ⟨ro,vu,o2,k1,k2,k3,k4⟩:=AhY N (o.take v.length) true s (p3.take _) x8 (by rw[List.length_take];omega);subst k4;rw[ij,<-k3];have hl2:=HL k1;rw[List.length_take]at k2;clear p7 my gl;(repeat' ((first|(apply BR<;>intro hc<;>try (exfalso;omega))|apply BA|refine eI N (by assumption) (by omega) rfl (by first|rfl|omega|assumption) ?_)<;>conv=>whnf));refine JM v.length rfl (by omega) ?_;(conv=>whnf);refine J5 (enc:=BZ) (λ_=>rfl) (by omega) ?_;(conv=>whnf);rw[List.drop_zero,Nat.sub_zero];(repeat' ((first|refine BH (vu) ?_|refine NU (OM N o2 _ k1 (by omega)) ?_)<;>conv=>whnf));refine J5 (enc:=BZ) (λ_=>rfl) (by omega) ?_;(conv=>whnf);refine CK ?_ (bT _ _);rw[List.drop_zero,eB p5]
  ·have e3:((j+1:Nat):Int)-1=j:=by omega
   rw[e3];have e4:(v.length:Int).toNat=v.length:=by omega
   obtain ⟨A,W,C,hA,hW,rfl⟩:=xD o j (v.length+1) (by omega);obtain ⟨g1,g2,g3⟩:=xG hA hW p3 p6 qe;obtain ⟨D1,D2,D3⟩:=wF p3;have hqb:val W/val v<4294967296:=(Nat.div_lt_iff_lt_mul q7).2 g2;have Fh:val W=val W/val v*val v+val W%val v:=by rw[Nat.mul_comm];exact (Nat.div_add_mod _ _).symm
   have hWl:val W%val v<val v:=Nat.mod_lt _ q7;have qa:X*2^s=val A+4294967296^j*val W+4294967296^j*4294967296*(val (w.drop (j+1))*val v):=by
    rw[p7,Nat.mul_add,<-g3,Nat.pow_succ];omega
   have jb:=xF qa Fh;have nn : ∀ q',q'=val W/val v->val ((w.set j q').drop j)=val W/val v+4294967296*val (w.drop (j+1)):=λ q' h=>by
    rw[KI (l:=w.set j q') (d:=q') (by rw[List.getElem?_set_self (by omega)]),List.drop_set_of_lt (by omega),h]
   have hlen : ∀ W':List Nat,W'.length=v.length+1->(A++W'++C).length=x.length+1:=λ W' h=>by
    rw[<-p2];simp [h,hW]
   (repeat' ((first|(apply BR<;>intro hc<;>try (exfalso;omega))|(apply CJ;omega)|(apply aT;omega)|apply BA)<;>conv=>whnf))
   rw[show ((j:Int)+v.length+1).toNat-(j:Int).toNat=v.length+1 by omega,show 0+(j:Int).toNat=j by omega];refine Wa N hA hW D2 al bj lv q7 n2 g2 (λ W' o' q' z1 z2 z3 z4 => ?_) (λ W' o' q' z1 z2 z3 z4 => ?_)
   ·(conv=>whnf)
    (repeat' ((first|(apply CE;omega)|fail)<;>conv=>whnf))
    refine IA (by omega) ?_;(conv=>whnf);(repeat' ((first|(apply D5;omega)|fail)<;>conv=>whnf));obtain ⟨t1,t2⟩:=mP (A:=A) (W:=W') (C:=C) (j:=j) hA g1;refine DE [] (by (conv=>whnf);exact ⟨rfl,rfl,rfl⟩) (ih j (A++W'++C) (w.set j q') (by omega) ⟨by omega,hlen W' z1,(D1.append z2).append D3,by simpa using p4,p5.set _ (by omega),by omega,?_⟩);rw[t1,t2,nn q' z4,z3];exact jb
   ·(conv=>whnf)
    (repeat' ((first|(apply CE;omega)|fail)<;>conv=>whnf))
    refine IA (by omega) ?_;(conv=>whnf);(repeat' ((first|(apply D5;omega)|fail)<;>conv=>whnf));obtain ⟨t1,t2⟩:=mP (A:=A) (W:=W') (C:=C) (j:=j) hA g1;refine DE [] (by (conv=>whnf);exact ⟨rfl,rfl,rfl⟩) (ih j (A++W'++C) (w.set j q') (by omega) ⟨by omega,hlen W' z1,(D1.append z2).append D3,by simpa using p4,p5.set _ (by omega),by omega,?_⟩);rw[t1,t2,nn q' z4,z3];exact jb
end Go.Eng
