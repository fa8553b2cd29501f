/-
  The references of natural numbers (ref01): division.
-/
import Derived.Test.YtfnglkabkfmjcaaGreatB8
import Derived.Test.YtfnglkabkfmjcaaGreatB4
import Derived.Test.YtfnglkabkfmjcaaGreatB7
set_option linter.unusedSimpArgs false
set_option linter.unusedVariables false
set_option linter.unnecessarySimpa false
namespace Go.e8
open F
attribute [local irreducible] AA AF AP AD CB AU AW BA A6 B2 AM BO B8 C8 BN A3 BX B9 AB A8 AJ pw BK BI CJ CK CU CR CI BT CT
set_option maxHeartbeats 4000000
variable {L:Lib}
theorem And {V R y d t Q:Nat} (h:Q*y+R=V) (ht:t=R*4294967296+d):(t/y+4294967296*Q)*y+t%y=d+4294967296*V:=by
 have:=Nat.div_add_mod t y
 rw[<-h,Nat.add_mul];have e:t/y*y=y*(t/y):=Nat.mul_comm _ _;grind
theorem Ajv (N:c4 L) (x:List Nat) (Y:Nat) (q:Bool) (d1:A1 x) (hx:x.length<=549755813888) (h0:Y≠0) (hY:Y<4294967296):Ev L 108 [.sl q (x.map AL),.int .u32 (Y:Int)] (.j9 [.sl false ((dg (val x/Y)).map AL),.int .u32 ((val x%Y:Nat):Int)]):=by
 refine Ev.x N.VM rfl rfl ?_;(repeat' ((first|apply AR|apply AE)<;>conv=>whnf))
 refine EV (enc:=AL) 0 x.length rfl (by omega) (by omega) ?_;(conv=>whnf)
 (repeat' ((first|(apply B3;omega)|apply AR)<;>conv=>whnf))
 refine GQ (λ n _ _=>n) (λ(n:Nat) (o:List Nat) (r:Nat)=>n<=x.length/\o.length=x.length/\A1 o/\r<Y/\val (o.drop n)*Y+r=val (x.drop n)) (λ n o r=>[(7,.int .u64 (r:Int)),(8,.int .i64 ((n:Int)-1))]) (λ n o r=>[(11,11,.rw 1 (o.map AL))]) [] [] x.length (List.replicate x.length 0) 0 (by (conv=>whnf);exact ⟨rfl,rfl,rfl⟩) ⟨by omega,by simp,J3 _,by omega,by rw[List.drop_of_length_le (Nat.le_refl _),List.drop_of_length_le (by simp)];simp [val]⟩ ?_;intro n o r ⟨p1,p2,p3,p4,p5⟩ ih;rcases n with _|n
 ·rw[List.drop_zero,List.drop_zero]at p5
  have hq:val x/Y=val o/\val x%Y=r:=by
   rw[<-p5];have e1:(val o*Y+r)/Y=val o:=by
    rw[Nat.mul_comm,Nat.mul_add_div (by omega),Nat.div_eq_of_lt p4,Nat.add_zero]
   have e2:(val o*Y+r)%Y=r:=by
    rw[Nat.mul_comm,Nat.mul_add_mod,Nat.mod_eq_of_lt p4]
   exact ⟨e1,e2⟩
  have hT:=λ q=>GC N o q p3 (by omega)
  rw[hq.1,hq.2,<-p2];clear ih hq p5;(repeat' ((first|(apply AG<;>intro hc<;>try (exfalso;omega))|(apply EJ;omega)|(refine DH (λ_=>rfl) rfl ?_ ?_;(first|rfl|simp))|apply AE|refine AC (hT _) ?_)<;>conv=>whnf))
  refine AX rfl ?_;simp only[A0,CE,and_true,true_and];exact CQ _
 ·have e1:((n+1:Nat):Int)-1=n:=by omega
  rw[e1];obtain ⟨d,hd⟩ : ∃ d,x[n]? = some d:=⟨_,zE (by omega)⟩;have dz:=d1.at hd;have hR:r*4294967296+d<Y*4294967296:=by omega
  have gn:(r*4294967296+d)/Y<4294967296:=(Nat.div_lt_iff_lt_mul (by omega)).2 (by omega);(repeat' ((first|(apply AG<;>intro hc<;>try (exfalso;omega))|(apply AZ;omega)|(apply XA;omega)|(apply X9;omega)|(apply jW;omega;omega)|(apply CP;omega)|(apply EJ;omega)|(refine A9 (by assumption) ?_ rfl ?_;omega)|apply AE)<;>conv=>whnf))
  obtain ⟨t,ht⟩ : ∃ t,t=r*4294967296+d:=⟨_,rfl⟩;rw[<-ht]at hR gn ⊢;have hm:t%Y<Y:=Nat.mod_lt _ (by omega);have l9:=And p5 ht;rw[<-HL hd]at l9;clear ht;skip
  refine FB (by omega) ?_;(conv=>whnf)
  (repeat' ((first|(apply B3;omega)|(apply fG;omega)|(apply CP;omega))<;>conv=>whnf))
  generalize t/Y=tq at *;generalize t%Y=tr at *;refine B1 [] (by (conv=>whnf);exact ⟨rfl,rfl,rfl⟩) (ih n _ _ (by omega) ⟨by omega,by simpa using p2,p3.set _ (by omega),hm,?_⟩);rw[HL (l:=o.set n tq) (d:=tq) (by rw[List.getElem?_set_self (by omega)]),List.drop_set_of_lt (by omega)];exact l9
theorem kS (a b:List Nat) (e:Int):A0 (.j9 [.sl false (a.map AL),.sl false (b.map AL),.int .i64 e]):=by
 simp only[A0,CE,and_true,true_and];exact ⟨CQ a,CQ b⟩
abbrev Ahc:List It:=[It.lp DT.l1,It.j5 0,
   It.code
    (((BH.ops DT.ay false).dr [0,75,79,80] []).seq
     (((BH.ops DT.ct false).dr [81,82,83,84,85] []).seq
      ((((BH.ops DT.du false).dr [86,87,88,89,90] []).seq
         (BH.block 2 DT.l2.loop)).seq
       (((BH.ops DT.Pz true).dr [9,10,11,12,13,14,92,277,278,279,280,281,282,283,284]
          []).seq
        BH.ret))))]
abbrev lE:List It:=[It.lp DT.l2,It.j5 2,It.code
       (((BH.ops DT.Pz true).dr [9,10,11,12,13,14,92,277,278,279,280,281,282,283,284]
          []).seq
        BH.ret)]
abbrev lF (v:List Nat) (s ul m:Nat) (j:Int):Tm:=[(14,.int .i64 j),(13,.row 85 0 1 0 m),(12,.int .i64 v.length),(11,.sl false (v.map AL)),(10,.row 69 0 1 0 ul),(9,.int .i64 (s:Int))]
abbrev Ahb:BH:=(((BH.ops DT.Kj false).dr [18,19,20,166,205,206,207] []).seq
                (((BH.ops DT.r40 false).dr [208,209,210,211,212,213,214] []).seq
                 ((BH.ops DT.r41 false).seq
                  ((((BH.ops DT.r42 false).dr [215,216] []).seq
                     (BH.cond 217
                      (((BH.ops DT.r43 false).dr [18,217,218,219] []).seq
                       (BH.ops DT.r44 false))
                      BH.skip)).seq
                   (((BH.ops DT.r45 false).dr
                      [23,24,217,220,221,222,223,224,225,226,227,228] []).seq
                    ((((BH.ops DT.r46 false).dr [18,229] []).seq
                       (BH.cond 230
                        (((BH.ops DT.r47 false).dr [230,231,232] []).seq
                         ((BH.ops DT.r48 false).seq
                          (((BH.ops DT.r49 false).seq
                             (BH.block 8 DT.l5.loop)).seq
                           ((BH.ops DT.r55 false).dr
                            [25,26,235,262,263,264,265,266,267,268,269,270,271]
                            []))))
                        BH.skip)).seq
                     ((BH.ops DT.r56 false).dr [16,230,272,273,274,275,276]
                      [])))))))
abbrev Ahd:List It:=It.lp DT.l4::It.j5 6::It.code Ahb::It.j5 3::It.code ((BH.ops DT.eg false).dr [93,94] [])::lE
section
variable {A W C w y:List Nat} {j m s ul q:Nat} {Q:Tm->Mem->Prop}
theorem bV {e i n:Nat} (hi:i=A.length+n) (he:W[n]? = some e):(A++W++C)[i]? = some e:=by
 rw[Zt hi (zS he).1];exact he
theorem qJ (hA:A.length=j) (hW:W.length=y.length+1) (D2:A1 W) (gi:A1 y) (jc:2<=y.length) (xx:y.length<=549755813888) (bu:0<val y) (dm:j<=1099511627776)
  (lq:ul=j+(y.length+1)+C.length) (Kf:w.length=m) (Jr:j<m)
  (r1:q<4294967296) (r2:val W/val y<=q) (r3:q<=val W/val y+1)
  (hk : ∀ (W':List Nat) (q':Nat),W'.length=y.length+1->A1 W'->val W'=val W%val y->q'=val W/val y->AA L lE (lF y s ul m ((j:Int)-1)) [(69,101021,.rw 1 ((A++W'++C).map AL)),(85,85,.rw 1 ((w.set j q').map AL))] Q) :
  AA L Ahd ([(20,.int .i64 0),(19,.int .u64 0),(18,.int .u64 0),(16,.int .u64 (q:Int))]++lF y s ul m (j:Int)) [(69,101021,.rw 1 ((A++W++C).map AL)),(85,85,.rw 1 (w.map AL))] Q:=by
 refine oG (λ i _ _ _=>y.length-i) (λ(i:Nat) (Z:List Nat) (c b:Nat)=>i<=y.length/\Z.length=y.length+1/\A1 Z/\c<4294967296/\b<=1/\Z.drop i=W.drop i/\val (Z.take i)+q*val (y.take i)=val (W.take i)+4294967296^i*(c+b)) (λ i Z c b=>[(20,.int .i64 i),(18,.int .u64 (b:Int)),(19,.int .u64 (c:Int))]) (λ i Z c b=>[(69,101021,.rw 1 ((A++Z++C).map AL))]) [] [] 0 W 0 0 (by (conv=>whnf);exact ⟨rfl,rfl,rfl⟩) ⟨by omega,hW,D2,by omega,by omega,rfl,by simp [val]⟩ ?_;intro i Z c b ⟨p1,p2,p3,p4,p5,p6,p7⟩ ih;by_cases hi:i<y.length
 ·obtain ⟨d,hd⟩ : ∃ d,y[i]? = some d:=⟨_,zE hi⟩
  obtain ⟨u,hu⟩ : ∃ u,Z[i]? = some u:=⟨_,zE (by omega)⟩;have dz:=gi.at hd;have pf:=p3.at hu;have Jz:(A++Z++C)[((i:Int)+(j:Int)).toNat]? = some u:=bV (by omega) hu;obtain ⟨pr,vm⟩ : ∃ pr,pr=c+q*d:=⟨_,rfl⟩;obtain ⟨m1,m2,m3⟩:=Acc r1 dz p4 (show pr=q*d+c by omega);have zp:W[i]? = some u:=by
   have e1:(Z.drop i)[0]? = (W.drop i)[0]? := by rw[p6]
   simpa [hu] using e1.symm
  have rj : ∀ w,(Z.set i w).drop (i+1)=W.drop (i+1):=λ w=>by
   rw[List.drop_set_of_lt (by omega)];have e1:(Z.drop i).drop 1=(W.drop i).drop 1:=by rw[p6]
   simpa using e1
  have l9 : ∀ have' take w ea,take=pr%4294967296+b->((have'=u/\ea=0/\take<=u)\/(have'=u+4294967296/\ea=1/\u<take))->w+take=have'->val ((Z.set i w).take (i+1))+q*val (y.take (i+1))=val (W.take (i+1))+4294967296^(i+1)*(pr/4294967296+ea):=λ have' take w ea a1 a2 a3=>by
   rw[F7 (by omega),EC hd,EC zp,Nat.pow_succ];exact AlS p7 vm a1 a2 a3
  by_cases m7:u<pr%4294967296+b
  ·have h3:=l9 (u+4294967296) (pr%4294967296+b) (u+4294967296-(pr%4294967296+b)) 1 rfl (Or.inr ⟨rfl,rfl,m7⟩) (by omega)
   (repeat' ((first|(apply AG<;>intro hc<;>try (exfalso;omega))|(apply AZ;omega)|(apply AY;omega)|(apply GA;omega)|(apply X8;omega)|(apply wR;omega)|(apply JY;omega;omega)|apply FJ|(apply jU;omega)|(apply CP;omega)|(apply EJ;omega)|(refine A9 (by assumption) ?_ rfl ?_;omega)|refine KF (by assumption) ?_|apply AE)<;>conv=>whnf))
   rw[<-vm];skip
   refine XB i (by omega) (by omega) ?_;(conv=>whnf)
   (repeat' ((first|(apply AY;omega)|fail)<;>conv=>whnf))
   exact B1 [] (by (conv=>whnf);exact ⟨rfl,rfl,rfl⟩) (ih (i+1) (Z.set i (u+4294967296-(pr%4294967296+b))) (pr/4294967296) 1 (by omega) ⟨by omega,by simpa using p2,p3.set _ (by omega),m1,by omega,rj _,h3⟩)
  ·have h3:=l9 u (pr%4294967296+b) (u-(pr%4294967296+b)) 0 rfl (Or.inl ⟨rfl,rfl,by omega⟩) (by omega)
   (repeat' ((first|(apply AG<;>intro hc<;>try (exfalso;omega))|(apply AZ;omega)|(apply AY;omega)|(apply GA;omega)|(apply X8;omega)|(apply wR;omega)|(apply JY;omega;omega)|apply FJ|(apply CP;omega)|(apply EJ;omega)|(refine A9 (by assumption) ?_ rfl ?_;omega)|refine KF (by assumption) ?_|apply AE)<;>conv=>whnf))
   rw[<-vm];skip
   refine XB i (by omega) (by omega) ?_;(conv=>whnf)
   (repeat' ((first|(apply AY;omega)|fail)<;>conv=>whnf))
   exact B1 [] (by (conv=>whnf);exact ⟨rfl,rfl,rfl⟩) (ih (i+1) (Z.set i (u-(pr%4294967296+b))) (pr/4294967296) 0 (by omega) ⟨by omega,by simpa using p2,p3.set _ (by omega),m1,by omega,rj _,h3⟩)
 ·obtain rfl:i=y.length:=by omega
  clear ih;obtain ⟨u,hu⟩ : ∃ u,Z[y.length]? = some u:=⟨_,zE (by omega)⟩;have pf:=p3.at hu;have Jz:(A++Z++C)[((j:Int)+(y.length:Int)).toNat]? = some u:=bV (by omega) hu;have zp:W[y.length]? = some u:=by
   have e1:(Z.drop y.length)[0]? = (W.drop y.length)[0]? := by rw[p6]
   simpa [hu] using e1.symm
  rw[DD (Nat.le_refl y.length)]at p7;have eW:val W=val (W.take y.length)+4294967296^y.length*u:=by
   rw[<-EC zp,DD (by omega)]
  have l9 : ∀ have' take w ea,take=c+b->((have'=u/\ea=0/\take<=u)\/(have'=u+4294967296/\ea=1/\u<take))->w+take=have'->val (Z.set y.length w)+q*val y=val W+4294967296^y.length*4294967296*ea:=λ have' take w ea a1 a2 a3=>by
   have h1:=AlQ p7 a1 a2 a3;rw[<-eW,<-F7 (show y.length<Z.length by omega),DD (by simp;omega)]at h1;exact h1
  by_cases m7:u<c+b
  ·have h3:=l9 (u+4294967296) (c+b) (u+4294967296-(c+b)) 1 rfl (Or.inr ⟨rfl,rfl,m7⟩) (by omega)
   have Gg:A1 (Z.set y.length (u+4294967296-(c+b))):=p3.set _ (by omega);have yo:(Z.set y.length (u+4294967296-(c+b))).length=y.length+1:=by simpa using p2
   rw[Nat.mul_one]at h3;have Eo:=E3 Gg;rw[yo,Nat.pow_succ]at Eo;obtain ⟨y1,y2,y3⟩:=zX bu r3 Eo h3;(repeat' ((first|(apply AG<;>intro hc<;>try (exfalso;omega))|(apply AZ;omega)|(apply AY;omega)|(apply GA;omega)|(apply JY;omega;omega)|(apply jU;omega)|(apply CP;omega)|(apply EJ;omega)|refine KF (by assumption) ?_|apply AE)<;>conv=>whnf))
   refine XB y.length (by omega) (by omega) ?_;(conv=>whnf)
   (repeat' ((first|(apply AG<;>intro hc<;>try (exfalso;omega))|(apply JY;omega;omega))<;>conv=>whnf))
   clear p7 p6 eW hu zp pf Jz p2 p3 l9;generalize Z.set y.length (u+4294967296-(c+b))=X at *;have hRV:val W%val y<val y:=Nat.mod_lt _ bu;have Cs:=E3 gi;obtain ⟨xw,Ec⟩ : ∃ xw,X[y.length]? = some xw:=⟨_,zE (by omega)⟩;have eX:val X=val (X.take y.length)+4294967296^y.length*xw:=by
    rw[<-EC Ec,DD (by omega)]
   have uo:q-1<4294967296:=by omega
   refine GQ (λ i _ _=>y.length-i) (λ(i:Nat) (Z:List Nat) (c:Nat)=>i<=y.length/\Z.length=y.length+1/\A1 Z/\c<=1/\Z.drop i=X.drop i/\val (Z.take i)+4294967296^i*c=val (X.take i)+val (y.take i)) (λ i Z c=>[(26,.int .i64 i),(25,.int .u64 (c:Int))]) (λ i Z c=>[(69,101021,.rw 1 ((A++Z++C).map AL))]) [] [] 0 X 0 (by (conv=>whnf);exact ⟨rfl,rfl,rfl⟩) ⟨by omega,yo,Gg,by omega,rfl,by simp [val]⟩ ?_;intro i Z c ⟨p1,p2,p3,p4,p6,p7⟩ ih;by_cases hi:i<y.length
   ·obtain ⟨d,hd⟩ : ∃ d,y[i]? = some d:=⟨_,zE hi⟩
    obtain ⟨u,hu⟩ : ∃ u,Z[i]? = some u:=⟨_,zE (by omega)⟩;have dz:=gi.at hd;have pf:=p3.at hu;have Jz:(A++Z++C)[((i:Int)+(j:Int)).toNat]? = some u:=bV (by omega) hu;have oc:X[i]? = some u:=by
     have e1:(Z.drop i)[0]? = (X.drop i)[0]? := by rw[p6]
     simpa [hu] using e1.symm
    have kj:=xF (d:=d) (w:=u) (t:=c+(u+d)) p7 (by omega);(repeat' ((first|(apply AG<;>intro hc<;>try (exfalso;omega))|(apply AZ;omega)|(apply AY;omega)|(apply GA;omega)|(apply CP;omega)|apply FR|(refine A9 (by assumption) ?_ rfl ?_;omega)|refine KF (by assumption) ?_|apply AE)<;>conv=>whnf))
    generalize Pc:c+(u+d)=t2 at *;refine XB i (by omega) (by omega) ?_;(conv=>whnf)
    (repeat' ((first|(apply AY;omega)|apply FJ)<;>conv=>whnf))
    refine B1 [] (by (conv=>whnf);exact ⟨rfl,rfl,rfl⟩) (ih (i+1) (Z.set i (t2%4294967296)) (t2/4294967296) (by omega) ⟨by omega,by simpa using p2,p3.set _ (by omega),by omega,?_,?_⟩)
    ·rw[List.drop_set_of_lt (by omega)]
     have e1:(Z.drop i).drop 1=(X.drop i).drop 1:=by rw[p6]
     simpa using e1
    ·rw[F7 (by omega),EC hd,EC oc,Nat.pow_succ]
     exact kj
   ·obtain rfl:i=y.length:=by omega
    clear ih;obtain ⟨u,hu⟩ : ∃ u,Z[y.length]? = some u:=⟨_,zE (by omega)⟩;have pf:=p3.at hu;have Jz:(A++Z++C)[((j:Int)+(y.length:Int)).toNat]? = some u:=bV (by omega) hu;have oc:X[y.length]? = some u:=by
     have e1:(Z.drop y.length)[0]? = (X.drop y.length)[0]? := by rw[p6]
     simpa [hu] using e1.symm
    rw[oc]at Ec;obtain rfl:u=xw:=by simpa using Ec
    rw[DD (Nat.le_refl y.length)]at p7;have Gi:=E3 (p3.take y.length);rw[List.length_take,Nat.min_eq_left (by omega)]at Gi;rw[eX]at y3;have iw:=xD p7 y3 (by omega) Gi;rw[<-F7 (show y.length<Z.length by omega),DD (by simp;omega)]at iw;(repeat' ((first|(apply AG<;>intro hc<;>try (exfalso;omega))|(apply AZ;omega)|(apply AY;omega)|apply wP|(apply EJ;omega)|refine KF (by assumption) ?_|apply AE)<;>conv=>whnf))
    refine XB y.length (by omega) (by omega) ?_;(conv=>whnf)
    (repeat' ((first|(apply AZ;omega)|(apply EJ;omega))<;>conv=>whnf))
    refine FB (by omega) ?_;(conv=>whnf)
    (repeat' ((first|(apply B3;omega)|fail)<;>conv=>whnf))
    exact B1 [] (by (conv=>whnf);exact ⟨rfl,rfl,rfl⟩) (hk _ _ (by simpa using p2) (p3.set _ (by omega)) iw y1)
  ·have h3:=l9 u (c+b) (u-(c+b)) 0 rfl (Or.inl ⟨rfl,rfl,by omega⟩) (by omega)
   rw[Nat.mul_zero,Nat.add_zero]at h3;obtain ⟨y1,y2⟩:=zY bu r2 h3;(repeat' ((first|(apply AG<;>intro hc<;>try (exfalso;omega))|(apply AZ;omega)|(apply AY;omega)|(apply GA;omega)|(apply JY;omega;omega)|(apply CP;omega)|(apply EJ;omega)|refine KF (by assumption) ?_|apply AE)<;>conv=>whnf))
   refine XB y.length (by omega) (by omega) ?_;(conv=>whnf)
   (repeat' ((first|(apply AG<;>intro hc<;>try (exfalso;omega))|(apply AZ;omega)|(apply EJ;omega))<;>conv=>whnf))
   refine FB (by omega) ?_;(conv=>whnf)
   (repeat' ((first|(apply B3;omega)|fail)<;>conv=>whnf))
   exact B1 [] (by (conv=>whnf);exact ⟨rfl,rfl,rfl⟩) (hk _ _ (by simpa using p2) (p3.set _ (by omega)) y2 y1)
theorem Ahe (hA:A.length=j) (hW:W.length=y.length+1) (D2:A1 W) (gi:A1 y) (jc:2<=y.length) (xx:y.length<=549755813888) (bu:0<val y) (dm:j<=1099511627776)
  (n2:4294967296^(y.length-1)*2147483648<=val y) (g2:val W<4294967296*val y) (lq:ul=j+(y.length+1)+C.length) (Kf:w.length=m) (Jr:j<m)
  (hk : ∀ (W':List Nat) (q':Nat),W'.length=y.length+1->A1 W'->val W'=val W%val y->q'=val W/val y->AA L lE (lF y s ul m ((j:Int)-1)) [(69,101021,.rw 1 ((A++W'++C).map AL)),(85,85,.rw 1 ((w.set j q').map AL))] Q) :
  AA L (.code DT.l2::lE) (lF y s ul m (j:Int)) [(69,101021,.rw 1 ((A++W++C).map AL)),(85,85,.rw 1 (w.map AL))] Q:=by
 obtain ⟨UL,a1,a2⟩:=oE D2 (n:=y.length+1) (by omega) (by omega);obtain ⟨VL,b5,b6⟩:=Xw gi (n:=y.length) jc (by omega);obtain ⟨u0,w0⟩ : ∃ d,W[y.length]? = some d:=⟨_,zE (by omega)⟩;obtain ⟨u1,w1⟩ : ∃ d,W[y.length-1]? = some d:=⟨_,zE (by omega)⟩;obtain ⟨u2,w2⟩ : ∃ d,W[y.length-2]? = some d:=⟨_,zE (by omega)⟩;obtain ⟨f1,x1⟩ : ∃ d,y[y.length-1]? = some d:=⟨_,zE (by omega)⟩;obtain ⟨f2,x2⟩ : ∃ d,y[y.length-2]? = some d:=⟨_,zE (by omega)⟩;rw[show y.length+1-3=y.length-2 by omega,show y.length+1-2=y.length-1 by omega,show y.length+1-1=y.length by omega,GW w0,GW w1,GW w2]at a2;rw[show y.length+1-3=y.length-2 by omega]at a1;rw[GW x1,GW x2]at b6;have wx:=Yl gi (k:=y.length-1) (by omega) n2 x1;have k0:=D2.at w0;have k1:=D2.at w1;have k2:=D2.at w2;have k3:=gi.at x1;have k4:=gi.at x2;have z1:y[((y.length:Int)-1).toNat]? = some f1:=by rw[show ((y.length:Int)-1).toNat=y.length-1 by omega];exact x1
 have z2:y[((y.length:Int)-2).toNat]? = some f2:=by rw[show ((y.length:Int)-2).toNat=y.length-2 by omega];exact x2
 have w8:(A++W++C)[((j:Int)+(y.length:Int)).toNat]? = some u0:=bV (by omega) w0;(repeat' ((first|(apply AG<;>intro hc<;>try (exfalso;omega))|(apply AZ;omega)|(apply AY;omega)|(apply B3;omega)|(apply XA;omega)|(apply CP;omega)|refine KF (by assumption) ?_|apply AE)<;>conv=>whnf))
 have bn:(A++W++C)[((j:Int)+(y.length:Int)-1).toNat]? = some u1:=bV (by omega) w1;refine AeZ bn ?_;(conv=>whnf)
 refine wJ (by omega) ?_;(conv=>whnf)
 refine X9 (by omega) ?_;(conv=>whnf)
 clear w8 bn;have dd:(A++W++C)[((j:Int)+(y.length:Int)-2).toNat]? = some u2:=bV (by omega) w2;generalize Pg:u0*4294967296+u1=top at *;have yx:top<=18446744073709551615:=by omega
 have hU:val W=UL+4294967296^(y.length-2)*(u2+4294967296*top):=by rw[a2,show u1+4294967296*u0=top by omega]
 (repeat' ((first|(apply B3;omega)|(apply fG;omega)|(apply jW;omega;omega)|(apply CP;omega)|(refine A9 (by assumption) ?_ rfl ?_;omega))<;>conv=>whnf))
 refine F8 (λ q _=>q) (λ(q r:Nat)=>Gs (val W) (val y) f1 f2 u2 top q r) (λ q r=>[(16,.int .u64 (q:Int)),(17,.int .u64 (r:Int))]) (λ_ _=>[]) [] [] (top/f1) (top%f1) (by (conv=>whnf);exact ⟨rfl,rfl,rfl⟩) (Gs.start hU b6 a1 k2 bu (by omega) k3) ?_;intro q r g qo;have hqt:q<=top:=by
  have h3:=g.hq;have h4:q*1<=q*f1:=Nat.mul_le_mul_left q (by omega);omega
 have hr:=g.hr;have me:=g.ge;by_cases hb:4294967296<=q
 ·obtain ⟨y1,y2,y3⟩:=g.next hU b6 a1 bu g2 (Or.inl hb)
  (repeat' ((first|(apply AG<;>intro hc<;>try (exfalso;omega))|(apply B3;omega)|(apply GA;omega)|(apply JY;omega;omega)|(apply CP;omega)|(refine A9 (by assumption) ?_ rfl ?_;omega)|apply AE)<;>conv=>whnf))
  ·obtain ⟨t1,t2⟩:=dL hU b6 b5 wx k4 g2 y2 (Or.inr (by omega))
   exact B1 [] (by (conv=>whnf);exact ⟨rfl,rfl,rfl⟩) (qJ (w:=w) (C:=C) hA hW D2 gi jc xx bu dm lq Kf Jr t1 y3 t2 hk)
  ·exact B1 [] (by (conv=>whnf);exact ⟨rfl,rfl,rfl⟩) (qo (q-1) (r+f1) (by omega) ⟨y2,by omega,y3⟩)
 ·have hmq:=dT (show q<4294967296 by omega) k4
  by_cases x8:r*4294967296+u2<q*f2
  ·obtain ⟨y1,y2,y3⟩:=g.next hU b6 a1 bu g2 (Or.inr x8)
   (repeat' ((first|(apply AG<;>intro hc<;>try (exfalso;omega))|(apply AZ;omega)|(apply AY;omega)|(apply B3;omega)|(apply GA;omega)|(apply X8;omega)|(apply XA;omega)|(apply X9;omega)|(apply JY;omega;omega)|(apply CP;omega)|(refine A9 (by assumption) ?_ rfl ?_;omega)|refine KF (by assumption) ?_|apply AE)<;>conv=>whnf))
   ·obtain ⟨t1,t2⟩:=dL hU b6 b5 wx k4 g2 y2 (Or.inr (by omega))
    exact B1 [] (by (conv=>whnf);exact ⟨rfl,rfl,rfl⟩) (qJ (w:=w) (C:=C) hA hW D2 gi jc xx bu dm lq Kf Jr t1 y3 t2 hk)
   ·exact B1 [] (by (conv=>whnf);exact ⟨rfl,rfl,rfl⟩) (qo (q-1) (r+f1) (by omega) ⟨y2,by omega,y3⟩)
  ·obtain ⟨t1,t2⟩:=dL hU b6 b5 wx k4 g2 g.hq (Or.inl ⟨by omega,by omega⟩)
   (repeat' ((first|(apply AG<;>intro hc<;>try (exfalso;omega))|(apply AZ;omega)|(apply AY;omega)|(apply B3;omega)|(apply X8;omega)|(apply XA;omega)|(apply X9;omega)|(apply CP;omega)|(refine A9 (by assumption) ?_ rfl ?_;omega)|refine KF (by assumption) ?_|apply AE)<;>conv=>whnf))
   exact B1 [] (by (conv=>whnf);exact ⟨rfl,rfl,rfl⟩) (qJ (w:=w) (C:=C) hA hW D2 gi jc xx bu dm lq Kf Jr t1 me t2 hk)
end
theorem AnK {l:List Nat} (hD:A1 l) (h:l[l.length-1]? = some 0):val l<4294967296^(l.length-1):=by
 have hl:=(zS h).1;have h1:=ON l (l.length-1) (by omega);have h2:=HL h;rw[List.drop_of_length_le (show l.length<=l.length-1+1 by omega),JW]at h2;rw[h2]at h1;simp only[Nat.mul_zero,Nat.add_zero]at h1;have h3:=E3 (hD.take (l.length-1));rw[List.length_take,Nat.min_eq_left (by omega)]at h3;omega
theorem Rp (N:c4 L) {X Y s:Nat} {x u y:List Nat} (hY:Y≠0) (ff:s<=31) (Jg:A1 u) (Ji:val u=X*2^s) (hU0:u[u.length-1]? = some 0) (lq:x.length+1<=u.length/\u.length<=549755813888) (gi:A1 y) (Jj:val y=Y*2^s) (mn:2<=y.length/\y.length<=x.length) (n2:4294967296^(y.length-1)*2147483648<=val y) :
  AA L Ahc [(10,.row 69 0 1 0 u.length),(11,.sl false (y.map AL)),(9,.int .i64 (s:Int)),(0,.sl false (x.map AL))] [(69,101021,.rw 1 (u.map AL))] (ZD DT (.j9 [.sl false ((dg (X/Y)).map AL),.sl false ((dg (X%Y)).map AL),.int .i64 0])):=by
 refine BQ (λ(_:Nat)=>0) (λ_=>True) (λ_=>[]) (λ_=>[]) [] [] 0 (by (conv=>whnf);exact ⟨rfl,rfl,rfl⟩) trivial ?_;intro _ _ _;(repeat' ((first|(apply AG<;>intro hc<;>try (exfalso;omega))|(apply AY;omega)|(apply B3;omega)|apply AR|apply AE)<;>conv=>whnf))
 refine EV (enc:=AL) 0 (u.length-y.length) (by rfl) (by omega) (by omega) ?_;(conv=>whnf)
 (repeat' ((first|(apply B3;omega)|fail)<;>conv=>whnf))
 have bu:0<val y:=by
  have:=Vx (y.length-1)
  omega
 have Ct:=E3 gi;generalize hm:u.length-y.length=m at *;have tl:val (u.drop m)<val y:=by
  have h1:(u.drop m).length=y.length:=by simp;omega
  have h2:=AnK (l:=u.drop m) (Jg.drop _) (by rw[h1,List.getElem?_drop,show m+(y.length-1)=u.length-1 by omega];exact hU0);rw[h1]at h2;omega
 rw[show (u.length:Int)-y.length-1=((m:Nat):Int)-1 by omega];refine GQ (λ n _ _=>n) (λ(n:Nat) (o w:List Nat)=>n<=m/\o.length=u.length/\A1 o/\w.length=m/\A1 w/\val (o.drop n)<val y/\X*2^s=val (o.take n)+4294967296^n*(val (w.drop n)*val y+val (o.drop n))) (λ n o w=>[(14,.int .i64 ((n:Int)-1))]) (λ n o w=>[(69,101021,.rw 1 (o.map AL)),(85,85,.rw 1 (w.map AL))]) [] [] m u (List.replicate m 0) (by (conv=>whnf);exact ⟨rfl,rfl,rfl⟩) ⟨by omega,rfl,Jg,by simp,J3 _,tl,by rw[<-Ji,List.drop_of_length_le (show (List.replicate m 0).length<=m by simp),JW,Nat.zero_mul,Nat.zero_add];exact ON u m (by omega)⟩ ?_;intro n o w ⟨p1,p2,p3,p4,p5,p6,p7⟩ ih;rcases n with _|j
 ·clear ih
  rw[List.drop_zero]at p6;rw[List.take_zero,List.drop_zero,List.drop_zero,JW,Nat.zero_add,Nat.pow_zero,Nat.one_mul]at p7;have rj:val o=val (o.take y.length):=by
   have h1:=bT o y.length;rcases Nat.eq_zero_or_pos (val (o.drop y.length)) with h2|h2
   ·rw[h2,Nat.mul_zero,Nat.add_zero]at h1;exact h1
   ·have h3:4294967296^y.length*1<=4294967296^y.length*val (o.drop y.length):=Nat.mul_le_mul_left _ h2
    omega
  have ym:X/Y=val w/\X%Y=val o/2^s:=by
   obtain ⟨z1,z2⟩:=Ro (X:=X) (Y:=Y) (Nat.two_pow_pos s);rw[<-z1,<-z2,<-Jj,p7];have e1:(val w*val y+val o)/val y=val w:=by
    rw[Nat.mul_comm,Nat.mul_add_div bu,Nat.div_eq_of_lt p6,Nat.add_zero]
   have e2:(val w*val y+val o)%val y=val o:=by
    rw[Nat.mul_comm,Nat.mul_add_mod,Nat.mod_eq_of_lt p6]
   rw[e1,e2];exact ⟨rfl,rfl⟩
  rw[ym.1,ym.2,rj];have hT:=λ q=>GC N w q p5 (by omega)
  have cp:(o.take y.length).length<=549755813888:=by rw[List.length_take];omega
  clear p7 ym tl;rw[<-p4];rcases Nat.eq_zero_or_pos s with h0|h0
  ·subst h0
   have hS:=λ q=>Rn N (o.take y.length) q 0 (p3.take _) cp (by omega)
   rw[Nat.pow_zero,Nat.mul_one]at hS;rw[Nat.pow_zero,Nat.div_one];(repeat' ((first|(apply AG<;>intro hc<;>try (exfalso;omega))|(refine DH (λ_=>rfl) rfl ?_ ?_;(first|rfl|simp))|apply AE|refine AC (hT _) ?_)<;>conv=>whnf))
   refine HM y.length rfl (by omega) ?_;(conv=>whnf)
   refine CB.neg (by omega) ?_;(conv=>whnf)
   refine H7 (enc:=AL) (λ_=>rfl) (by omega) ?_;(conv=>whnf)
   rw[List.drop_zero,Nat.sub_zero,show -((0:Nat):Int)=((0:Nat):Int) by omega];(repeat' (refine AC (hS _) ?_<;>conv=>whnf))
   exact AX rfl (kS _ _ _)
  ·have hS:=λ q=>Aju N (o.take y.length) q s (p3.take _) cp (by omega)
   (repeat' ((first|(apply AG<;>intro hc<;>try (exfalso;omega))|(refine DH (λ_=>rfl) rfl ?_ ?_;(first|rfl|simp))|apply AE|refine AC (hT _) ?_)<;>conv=>whnf))
   refine HM y.length rfl (by omega) ?_;(conv=>whnf)
   refine CB.neg (by omega) ?_;(conv=>whnf)
   refine H7 (enc:=AL) (λ_=>rfl) (by omega) ?_;(conv=>whnf)
   rw[List.drop_zero,Nat.sub_zero];(repeat' (refine AC (hS _) ?_<;>conv=>whnf))
   exact AX rfl (kS _ _ _)
 ·have e3:((j+1:Nat):Int)-1=j:=by omega
  rw[e3];obtain ⟨A,W,C,hA,hW,rfl⟩:=Si o j (y.length+1) (by omega);obtain ⟨g1,g2,g3⟩:=Sk hA hW p3 p6 Ct;obtain ⟨D1,D2,D3⟩:=zW p3;have uo:val W/val y<4294967296:=(Nat.div_lt_iff_lt_mul bu).2 g2;have Ls:val W=val W/val y*val y+val W%val y:=by rw[Nat.mul_comm];exact (Nat.div_add_mod _ _).symm
  have Cu:val W%val y<val y:=Nat.mod_lt _ bu;have Cr:X*2^s=val A+4294967296^j*val W+4294967296^j*4294967296*(val (w.drop (j+1))*val y):=by
   rw[p7,Nat.mul_add,<-g3,Nat.pow_succ];omega
  have tf:=Sj Cr Ls;have rn : ∀ q',q'=val W/val y->val ((w.set j q').drop j)=val W/val y+4294967296*val (w.drop (j+1)):=λ q' h=>by
   rw[HL (l:=w.set j q') (d:=q') (by rw[List.getElem?_set_self (by omega)]),List.drop_set_of_lt (by omega),h]
  have hlen : ∀ W':List Nat,W'.length=y.length+1->(A++W'++C).length=u.length:=λ W' h=>by
   rw[<-p2];simp [h,hW]
  have hl3:u.length=j+(y.length+1)+C.length:=by rw[<-p2];simp [hA,hW];omega
  refine B1 [] (by (conv=>whnf);exact ⟨rfl,rfl,rfl⟩) (Ahe (m:=m) (s:=s) (ul:=u.length) (C:=C) hA hW D2 gi mn.1 (by omega) bu (by omega) n2 g2 hl3 p4 (by omega) (λ W' q' z1 z2 z3 z4 => ?_));obtain ⟨t1,t2⟩:=qP (A:=A) (W:=W') (C:=C) (j:=j) hA g1;refine B1 [] (by (conv=>whnf);exact ⟨rfl,rfl,rfl⟩) (ih j (A++W'++C) (w.set j q') (by omega) ⟨by omega,hlen W' z1,(D1.append z2).append D3,by simpa using p4,p5.set _ (by omega),by omega,?_⟩);rw[t1,t2,rn q' z4,z3];exact tf
end Go.e8
namespace Go.e8
open F
attribute [local irreducible] AA AF AP AD CB AU AW BA A6 B2 AM BO B8 C8 BN A3 BX B9 AB A8 AJ pw BK BI CJ CK CU CR CI BT CT
variable {L:Lib}
set_option maxHeartbeats 8000000
theorem Rm (N:c4 L) (a b:List Nat) (q1 q2:Bool) (hA:A1 a) (hB:A1 b) (la:a.length<=274877906944) (lb:b.length<=274877906944) (h0:val b≠0) :
  Ev L 109 [.sl q1 (a.map AL),.sl q2 (b.map AL)] (.j9 [.sl false ((dg (val a/val b)).map AL),.sl false ((dg (val a%val b)).map AL),.int .i64 0]):=by
 have t1:=λ q=>GC N a q hA (by omega)
 have t2:=λ q=>GC N b q hB (by omega)
 have l1:=EX hA;have l2:=EX hB;have m8:=λ q q'=>rD N (dg (val a)) (dg (val b)) q q' (DW _) (DW _) (by omega) (by omega)
 rw[BW,BW]at m8;generalize val a=X at *;generalize val b=Y at *;have d1:=DW X;have d2:=DW Y;have v1:=BW X;have v2:=BW Y;have hy1:=gB h0;refine Ev.x N.DT rfl rfl ?_;by_cases h1:(dg Y).length=1
 ·obtain ⟨y0,sd⟩ : ∃ y0,dg Y=[y0]:=List.length_eq_one_iff.1 h1
  have yz:Y=y0:=by rw[<-v2,sd];simp [val]
  subst yz;have Bw:Y<4294967296:=d2 Y (by rw[sd];simp);have hyg:(dg Y)[(0:Int).toNat]? = some Y:=by rw[sd];rfl
  have hsm:=λ q=>Ajv N (dg X) Y q d1 (by omega) h0 Bw
  rw[v1]at hsm;have kb:X%Y<4294967296:=Nat.lt_trans (Nat.mod_lt _ (by omega)) Bw;have Jf:=λ q=>GC N [X%Y] q (HS kb) (by simp)
  rw[show val [X%Y]=X%Y by simp [val]]at Jf;clear sd v2;generalize dg Y=y at *;(repeat' ((first|(apply AG<;>intro hc<;>try (exfalso;omega))|apply AR|(refine A9 (by assumption) ?_ rfl ?_;omega)|refine JZ rfl ?_|apply AE|refine AC (t1 _) ?_|refine AC (t2 _) ?_|refine AC (hsm _) ?_|refine AC (Jf _) ?_)<;>conv=>whnf))
  exact AX rfl (kS _ _ _)
 by_cases m7:X<Y
 ·rw[<-IZ (by omega)]at m8
  (repeat' ((first|(apply AG<;>intro hc<;>try (exfalso;omega))|apply AR|apply AE|refine AC (t1 _) ?_|refine AC (t2 _) ?_|refine AC (m8 _ _) ?_)<;>conv=>whnf))
  refine AX ?_ (kS _ _ _);rw[Nat.div_eq_of_lt m7,Nat.mod_eq_of_lt m7,E2];rfl
 have me:=kU (show Y<=X by omega);generalize C9 X Y=cm at *;have Ju:2<=(dg Y).length:=by omega
 obtain ⟨yt,Ak,Al⟩:=qG h0;have ya:=d2.at Ak;obtain ⟨b1,b2,b3,b4⟩:=sV Al ya;have ic:=λ q=>Ajr N yt q Al ya
 generalize hs:32-s8 yt=s at *;have ff:s<=31:=by omega
 have Pa:=λ q=>Rn N (dg Y) q s d2 (by omega) (by omega)
 obtain ⟨n1,n2⟩:=sQ d2 Ak (by omega) ff b3 b4;rw[v2]at Pa n1 n2;have rj:(dg Y).drop ((dg Y).length-1)=[yt]:=by
  obtain ⟨hi,he⟩:=zS Ak;rw[List.drop_eq_getElem_cons hi,he,List.drop_of_length_le (by omega)]
 have mn:(dg (Y*2^s)).length=(dg Y).length:=by
  have a1:=XN.2 n1;have a2 : ¬ (dg (Y*2^s)).length<=(dg Y).length-1:=λ h=>by
   have:=XN.1 h
   omega
  omega
 have Azh:(dg (X*2^s)).length<=(dg X).length+1:=by
  refine XN.2 ?_;have a1:X<4294967296^(dg X).length:=XN.1 (Nat.le_refl _);rw[Nat.pow_succ];have a2:=iM (s:=s) (by omega);exact Nat.lt_of_lt_of_le (Nat.mul_lt_mul_of_pos_right a1 (Nat.two_pow_pos s)) (Nat.mul_le_mul_left _ a2)
 have yo:(dg X).length<=(dg (X*2^s)).length:=ZJ (Nat.le_mul_of_pos_right _ (Nat.two_pow_pos s));have xd:=ZJ (show Y<=X by omega);generalize hx:dg X=x at *;generalize hy:dg Y=y at *;have t3:=λ q=>GC N x q d1 (by omega)
 rw[v1,hx]at t3;(repeat' ((first|(apply AG<;>intro hc<;>try (exfalso;omega))|(apply B3;omega)|apply AR|apply AE|refine AC (t1 _) ?_|refine AC (t2 _) ?_|refine AC (m8 _ _) ?_)<;>conv=>whnf))
 rw[show (y.length:Int)-1=((y.length-1:Nat):Int) by omega];refine Aff (k:=y.length-1) (λ_=>rfl) (by omega) ?_;(conv=>whnf)
 rw[rj];(repeat' ((first|(apply B3;omega)|refine AC (ic _) ?_)<;>conv=>whnf))
 rw[show (32:Int)-(s8 yt:Nat)=((s:Nat):Int) by omega];refine GF 1000 N.JO rfl rfl ?_;have hsq:(s:Int)/32=((0:Nat):Int):=by omega
 have hsr:(s:Int)%32=((s:Nat):Int):=by omega
 (repeat' ((first|(apply AG<;>intro hc<;>try (exfalso;omega))|(refine IO ?_ ?_ (λ_ => ?_) (λ_ _ => ?_);omega;omega;all_goals try (exfalso;omega))|apply AR|apply AE|refine AC (t3 _) ?_)<;>conv=>whnf))
 rw[hsq];refine EV (enc:=AL) 0 0 rfl rfl (by omega) ?_;(conv=>whnf)
 skip
 refine GQ (λ i _ _=>x.length-i) (λ(i:Nat) (o:List Nat) (c:Nat)=>i<=x.length/\o.length=i/\A1 o/\c<2^s/\val o+4294967296^i*c=val (x.take i)*2^s) (λ i o c=>[(10,.int .i64 i),(9,.int .u64 (c:Int)),(8,.row 107069 0 1 0 i)]) (λ i o c=>[(107069,107069,.rw 1 (o.map AL))]) [] [] 0 [] 0 (by (conv=>whnf);exact ⟨rfl,rfl,rfl⟩) ⟨by omega,rfl,cS,Nat.two_pow_pos _,by simp [val]⟩ ?_;intro i o c ⟨p1,p2,p3,p4,p5⟩ ih;have vn:=iM (s:=s) (by omega);by_cases hi:i<x.length
 ·obtain ⟨d,hd⟩ : ∃ d,x[i]? = some d:=⟨_,zE hi⟩
  have dz:=d1.at hd;obtain ⟨f1,f2,f3,f4⟩:=bN (s:=s) dz (by omega);have hr:=mN (show s<=64 by omega) f4;(repeat' ((first|(apply AG<;>intro hc<;>try (exfalso;omega))|(refine cH ?_ (λ_ _ _ => ?_) (λ_ _ _ _ => ?_);omega;all_goals try (exfalso;omega))|(apply CP;omega)|apply AR|(refine A9 (by assumption) ?_ rfl ?_;omega)|apply AE)<;>conv=>whnf))
  rw[hsr];refine YB (by omega) f4 ?_;(conv=>whnf)
  skip
  refine jV s (Nat.mul_mod_left _ _) p4 (by omega) ?_;(conv=>whnf)
  have l9:=Xu (d:=d) (P:=1) (V:=val o) (p:=4294967296^i) (lo:=c) (X:=val (x.take i)) (s:=s) (by rw[Nat.one_mul,Nat.one_mul];exact p5) rfl;have tj:(c+d*2^s)/4294967296<2^s:=by
   rw[Nat.div_lt_iff_lt_mul (by omega)];have:=Nat.mul_le_mul_right (2^s) (show d<=4294967295 by omega)
   omega
  generalize c+d*2^s=t at *;(repeat' ((first|apply FR|apply EE)<;>conv=>whnf))
  refine ES (enc:=AL) (t%4294967296) rfl p2.symm rfl (by omega) (by omega) ?_;(conv=>whnf)
  (repeat' ((first|(apply AY;omega)|apply FJ)<;>conv=>whnf))
  rw[show (o++[t%4294967296]).length=i+1 by simp [p2]];refine B1 [(107069,107091)] (by (conv=>whnf);exact ⟨rfl,rfl,rfl⟩) (ih (i+1) (o++[t%4294967296]) (t/4294967296) (by omega) ⟨by omega,by simp;omega,p3.append (HS (by omega)),tj,?_⟩);rw[WU,p2,EC hd,Nat.pow_succ];rw[Nat.one_mul,Nat.one_mul]at l9;exact l9
 obtain rfl:i=x.length:=by omega
 clear ih;have ug:c<4294967296:=by omega
 have hOD:A1 (o++[c]):=p3.append (HS ug);have Fy:val (o++[c])=X*2^s:=by
  rw[WU,p2,p5,DD (Nat.le_refl _),v1]
 have Fx:(o++[c]).length=x.length+1:=by simp [p2]
 (repeat' ((first|(apply AG<;>intro hc<;>try (exfalso;omega))|(apply EJ;omega)|apply AR|apply EE|apply AE)<;>conv=>whnf))
 refine ES (enc:=AL) c rfl p2.symm rfl (by omega) (by omega) ?_;(conv=>whnf)
 rw[Fx];generalize o++[c]=O at *;rw[<-Fx];clear p3 p4 p5;refine GF 1000 N.HY rfl rfl ?_;(repeat' (apply AE<;>conv=>whnf))
 refine BQ (λ n=>n) (λ(n:Nat)=>n<=(O).length /\ ∀ i,n<=i->i<(O).length->(O)[i]? = some 0) (λ n=>[(3,.int .i64 n)]) (λ_=>[]) [] [] (O).length (by (conv=>whnf);exact ⟨rfl,rfl,rfl⟩) ⟨Nat.le_refl _,λ i h1 h2=>by omega⟩ ?_;intro n ⟨p1,p2⟩ ih;rcases n with _|n
 ·(repeat' ((first|(apply AG<;>intro hc<;>try (exfalso;omega))|apply AE)<;>conv=>whnf))
  refine HM 0 (by omega) (by omega) ?_;(conv=>whnf)
  have dk:=GK (l:=O) (by assumption) p1 p2 (Or.inl rfl);have o4:(List.take 0 O).length<=(O).length:=by rw[List.length_take];omega
  clear ih p2;refine kB (enc:=AL) (by omega) ?_;(conv=>whnf)
  rw[List.drop_zero,Nat.sub_zero];generalize Lo:List.take 0 O=T0 at *;refine Y9 (enc:=AL) (λ_=>rfl) (by omega) (by omega) ?_;(conv=>whnf)
  refine ⟨rfl,_,rfl,?_⟩;(conv=>whnf)
  (refine ⟨rfl,_,rfl,?_⟩;(conv=>whnf);(repeat' ((first|apply EE|refine AC (Pa _) ?_)<;>conv=>whnf));refine ES (enc:=AL) 0 rfl rfl rfl (by omega) (by omega) ?_;(conv=>whnf);rw[Fy]at dk;rw[dk];exact B1 [] (by (conv=>whnf);exact ⟨rfl,rfl,rfl⟩) (Rp N (x:=x) (X:=X) (Y:=Y) (s:=s) (u:=dg (X*2^s)++[0]) (y:=dg (Y*2^s)) h0 ff ((DW _).append (HS (by omega))) (by rw[WU,BW,Nat.mul_zero,Nat.add_zero]) (by simp) (by simp;omega) (DW _) (BW _) (by omega) (by rw[BW,mn];exact n2)))
 ·have e1:((n+1:Nat):Int)-1=n:=by omega
  (repeat' ((first|(apply AG<;>intro hc<;>try (exfalso;omega))|(apply AZ;omega)|(apply B3;omega)|(refine aF (by assumption) ?_ (λ v hv hb => ?_);omega)|apply AE)<;>conv=>whnf))
  ·rw[e1]
   exact BF [] (ih n (by omega) ⟨by omega,λ i h1 h2=>by
    by_cases h:i=n
    ·subst h
     rw[e1,Int.toNat_natCast]at hv;rw[hv];congr 1;omega
    ·exact p2 i (by omega) h2⟩)
  ·refine HM (n+1) (by omega) (by omega) ?_
   (conv=>whnf)
   rw[e1,Int.toNat_natCast]at hv;have dk:=GK (l:=O) (by assumption) p1 p2 (Or.inr ⟨_,hv,by omega⟩);have o4:(List.take (n+1) O).length<=(O).length:=by rw[List.length_take];omega
   clear ih p2 hv;(rw[xK (l:=O)];rotate_left;exact rfl;exact rfl);(conv=>whnf)
   refine kB (enc:=AL) (by omega) ?_;(conv=>whnf)
   rw[List.drop_zero,Nat.sub_zero];generalize Lo:List.take (n+1) O=T0 at *;refine Y9 (enc:=AL) (λ_=>rfl) (by omega) (by omega) ?_;(conv=>whnf)
   refine ⟨rfl,_,rfl,?_⟩;(conv=>whnf)
   (refine ⟨rfl,_,rfl,?_⟩;(conv=>whnf);(repeat' ((first|apply EE|refine AC (Pa _) ?_)<;>conv=>whnf));refine ES (enc:=AL) 0 rfl rfl rfl (by omega) (by omega) ?_;(conv=>whnf);rw[Fy]at dk;rw[dk];exact B1 [] (by (conv=>whnf);exact ⟨rfl,rfl,rfl⟩) (Rp N (x:=x) (X:=X) (Y:=Y) (s:=s) (u:=dg (X*2^s)++[0]) (y:=dg (Y*2^s)) h0 ff ((DW _).append (HS (by omega))) (by rw[WU,BW,Nat.mul_zero,Nat.add_zero]) (by simp) (by simp;omega) (DW _) (BW _) (by omega) (by rw[BW,mn];exact n2)))
theorem Ajs (N:c4 L) (a b:List Nat) (q1 q2:Bool) (hA:A1 a) (hB:A1 b) (la:a.length<=274877906944) (lb:b.length<=274877906944) :
  Ev L 110 [.sl q1 (a.map AL),.sl q2 (b.map AL)] (.sl false ((dg (Nat.gcd (val a) (val b))).map AL)):=by
 have t1:=λ q=>GC N a q hA (by omega)
 have t2:=λ q=>GC N b q hB (by omega)
 have l1:=EX hA;have l2:=EX hB;generalize val a=X at *;generalize val b=Y at *;refine Ev.x N.VJ rfl rfl ?_;(repeat' ((first|apply AE|refine AC (t1 _) ?_|refine AC (t2 _) ?_)<;>conv=>whnf))
 refine F8 (λ_ y=>y) (λ(x y:Nat)=>(dg x).length<=274877906944/\(dg y).length<=274877906944/\Nat.gcd x y=Nat.gcd X Y) (λ x y=>[(0,.sl false ((dg x).map AL)),(1,.sl false ((dg y).map AL))]) (λ_ _=>[]) [] [] X Y (by (conv=>whnf);exact ⟨rfl,rfl,rfl⟩) ⟨by omega,by omega,rfl⟩ ?_;intro x y ⟨p1,p2,p3⟩ ih;rw[<-p3];by_cases h0:y=0
 ·subst h0
  have nn:(dg 0).length=0:=by rw[E2];rfl
  clear ih;rw[Nat.gcd_zero_right];(repeat' ((first|(apply AG<;>intro hc<;>try (exfalso;omega))|apply AR|apply AE)<;>conv=>whnf))
  exact AX rfl (K7 _)
 ·have hp:=gB h0
  have hD:=λ q q'=>Rm N (dg x) (dg y) q q' (DW _) (DW _) p1 p2 (by rw[BW];exact h0)
  rw[BW,BW]at hD;have m7:x%y<y:=Nat.mod_lt _ (by omega);have fe:=ZJ (Nat.le_of_lt m7);(repeat' ((first|(apply AG<;>intro hc<;>try (exfalso;omega))|apply AR|apply AE|refine AC (hD _ _) ?_)<;>conv=>whnf))
  rw[p3];exact BF [] (ih y (x%y) m7 ⟨p2,by omega,by rw[gT];exact p3⟩)
theorem LB (N:c4 L) (n q:Bool) (m:List Nat) (hm:Sm 274877906944 m):Ev L 111 [.agg (rZ q n m)] (.agg (eZ (zv n m))):=by
 have hT:=λ q=>GC N m q hm.1 (by have:=hm.2;omega)
 have hz:=I1 (val m);have ha:=E1 n m;refine Ev.x N.VX rfl rfl ?_;cases n
 ·rw[EP]at *
  (repeat' ((first|apply AE|refine AC (hT _) ?_)<;>conv=>whnf))
  exact AX (ET ha.symm (GO (by omega))) (DP _)
 ·rw[X6]at *
  (repeat' ((first|(apply AG<;>intro hc<;>try (exfalso;omega))|apply AR|apply AE|refine AC (hT _) ?_)<;>conv=>whnf))
  ·exact AX (ET ha.symm (WO (by omega))) (DP _)
  ·exact AX (ET ha.symm (GO (by omega))) (DP _)
theorem gH (N:c4 L) (n q:Bool) (m:List Nat) (hm:Sm 274877906944 m):Ev L 113 [.agg (rZ q n m)] (.int .i64 (w9 (zv n m))):=by
 have hT:=λ q=>LB N n q m hm
 generalize zv n m=z at *;have hz:=I1 z.natAbs;refine Ev.x N.VV rfl rfl ?_;(repeat' ((first|(apply AG<;>intro hc<;>try (exfalso;omega))|apply AR|apply AE|refine AC (hT _) ?_)<;>conv=>whnf))
 ·exact CX (nM (by omega))
 ·cases hd:decide (z<0)
  ·(conv=>whnf)
   exact CX (uY (by have:=of_decide_eq_false hd;omega))
  ·(conv=>whnf)
   exact CX (uX (of_decide_eq_true hd))
theorem rG (N:c4 L) (n q:Bool) (m:List Nat) (hm:Sm 274877906944 m):Ev L 114 [.agg (rZ q n m)] (.agg (eZ (-(zv n m)))):=by
 have hT:=λ q=>LB N n q m hm
 generalize zv n m=z at *;have hz:=I1 z.natAbs;refine Ev.x N.VT rfl rfl ?_;(repeat' ((first|apply AE|refine AC (hT _) ?_)<;>conv=>whnf))
 cases hd:decide (z<0)
 ·have h1:=of_decide_eq_false hd
  (conv=>whnf)
  (repeat' ((first|(apply AG<;>intro hc<;>try (exfalso;omega))|apply AR)<;>conv=>whnf))
  ·exact AX (ET (by omega) (WO (by omega))) (DP _)
  ·exact AX (ET (by omega) (GO (by omega))) (DP _)
 ·have h1:=of_decide_eq_true hd
  (conv=>whnf)
  skip
  exact AX (ET (by omega) (GO (by omega))) (DP _)
theorem YJ (N:c4 L) (n1 n2 q1 q2:Bool) (a b:List Nat) (ha:A1 a) (hb:A1 b) (hl:a.length+b.length<=274877906944):Ev L 118 [.agg (rZ q1 n1 a),.agg (rZ q2 n2 b)] (.agg (eZ (zv n1 a*zv n2 b))):=by
 have h1:=λ q q'=>Ajt N a b q q' ha hb (by omega)
 have sa:Sm a.length a:=⟨ha,Nat.le_refl _⟩;have sb:Sm b.length b:=⟨hb,Nat.le_refl _⟩;have hT:=λ n q=>LB N n q (dg (val a*val b)) ((sa.mul sb rfl).le hl)
 have e : ∀ n,zv n (dg (val a*val b))=bif n then -((val a*val b:Nat):Int) else ((val a*val b:Nat):Int):=λ n=>by unfold zv;rw[BW]
 have e2:zv n1 a*zv n2 b=zv (n1 != n2) (dg (val a*val b)):=by
  rw[e];cases n1<;>cases n2<;>simp [EP,X6,Int.mul_neg,Int.neg_mul]
 rw[e2];refine Ev.x N.VS rfl rfl ?_;cases n1<;>cases n2;all_goals
  (repeat' ((first|apply AE|refine AC (h1 _ _) ?_|refine AC (hT _ _) ?_)<;>conv=>whnf))
  exact AX rfl (DP _)
theorem Qc (N:c4 L) (n1 n2 q1 q2:Bool) (a b:List Nat) (ha:Sm 274877906943 a) (hb:Sm 274877906943 b):Ev L 115 [.agg (rZ q1 n1 a),.agg (rZ q2 n2 b)] (.agg (eZ (zv n1 a+zv n2 b))):=by
 have t1:=λ q=>LB N n1 q a (ha.le (by omega))
 have t2:=λ q=>LB N n2 q b (hb.le (by omega))
 have s1:Sm 274877906943 (dg (zv n1 a).natAbs):=by rw[E1];exact ha.zf
 have s2:Sm 274877906943 (dg (zv n2 b).natAbs):=by rw[E1];exact hb.zf
 generalize zv n1 a=x at *;generalize zv n2 b=y at *;have h1:=λ q q'=>Rl N (dg x.natAbs) (dg y.natAbs) q q' s1.1 s2.1 (by have:=s1.2;omega) (by have:=s2.2;omega)
 have h2:=λ q q'=>rE N (dg x.natAbs) (dg y.natAbs) q q' s1.1 s2.1 (by have:=s1.2;omega) (by have:=s2.2;omega)
 have h3:=λ q q'=>rE N (dg y.natAbs) (dg x.natAbs) q q' s2.1 s1.1 (by have:=s2.2;omega) (by have:=s1.2;omega)
 have m8:=λ q q'=>rD N (dg x.natAbs) (dg y.natAbs) q q' s1.1 s2.1 (by have:=s1.2;omega) (by have:=s2.2;omega)
 rw[BW,BW]at h1 h2 h3 m8;have u1:=λ n q=>LB N n q (dg (x.natAbs+y.natAbs)) (s1.add s2 (by rw[BW,BW];omega))
 have u2:=λ n q=>LB N n q (dg (x.natAbs-y.natAbs)) ((s1.low (V:=x.natAbs-y.natAbs) (by rw[BW];omega)).le (by omega))
 have u3:=λ n q=>LB N n q (dg (y.natAbs-x.natAbs)) ((s2.low (V:=y.natAbs-x.natAbs) (by rw[BW];omega)).le (by omega))
 have e : ∀ n V,zv n (dg V)=bif n then -(V:Int) else (V:Int):=λ n V=>by unfold zv;rw[BW]
 refine Ev.x N.VO rfl rfl ?_;(repeat' ((first|apply AE|refine AC (t1 _) ?_|refine AC (t2 _) ?_)<;>conv=>whnf))
 cases hx:decide (x<0)<;>cases hy:decide (y<0)
 ·have g1:=of_decide_eq_false hx
  have g2:=of_decide_eq_false hy;have hz:x+y=zv false (dg (x.natAbs+y.natAbs)):=by rw[e];simp only[cond_true,cond_false];omega
  rw[hz];(conv=>whnf)
  (repeat' ((first|refine AC (h1 _ _) ?_|refine AC (u1 _ _) ?_)<;>conv=>whnf))
  exact AX rfl (DP _)
 ·have g1:=of_decide_eq_false hx
  have g2:=of_decide_eq_true hy;by_cases m7:x.natAbs<y.natAbs
  ·have hz:x+y=zv true (dg (y.natAbs-x.natAbs)):=by rw[e];simp only[cond_true,cond_false];omega
   rw[hz];rw[<-IZ (by omega)]at m8;(conv=>whnf)
   (repeat' ((first|(apply AG<;>intro hc<;>try (exfalso;omega))|refine AC (m8 _ _) ?_|refine AC (h3 _ _) ?_|refine AC (u3 _ _) ?_)<;>conv=>whnf))
   exact AX rfl (DP _)
  ·have hz:x+y=zv false (dg (x.natAbs-y.natAbs)):=by rw[e];simp only[cond_true,cond_false];omega
   rw[hz];have me:=kU (show y.natAbs<=x.natAbs by omega);generalize C9 (x.natAbs:Nat) (y.natAbs:Nat)=cm at *;(conv=>whnf)
   (repeat' ((first|(apply AG<;>intro hc<;>try (exfalso;omega))|refine AC (m8 _ _) ?_|refine AC (h2 _ _) ?_|refine AC (u2 _ _) ?_)<;>conv=>whnf))
   exact AX rfl (DP _)
 ·have g1:=of_decide_eq_true hx
  have g2:=of_decide_eq_false hy;by_cases m7:x.natAbs<y.natAbs
  ·have hz:x+y=zv false (dg (y.natAbs-x.natAbs)):=by rw[e];simp only[cond_true,cond_false];omega
   rw[hz];rw[<-IZ (by omega)]at m8;(conv=>whnf)
   (repeat' ((first|(apply AG<;>intro hc<;>try (exfalso;omega))|refine AC (m8 _ _) ?_|refine AC (h3 _ _) ?_|refine AC (u3 _ _) ?_)<;>conv=>whnf))
   exact AX rfl (DP _)
  ·have hz:x+y=zv true (dg (x.natAbs-y.natAbs)):=by rw[e];simp only[cond_true,cond_false];omega
   rw[hz];have me:=kU (show y.natAbs<=x.natAbs by omega);generalize C9 (x.natAbs:Nat) (y.natAbs:Nat)=cm at *;(conv=>whnf)
   (repeat' ((first|(apply AG<;>intro hc<;>try (exfalso;omega))|refine AC (m8 _ _) ?_|refine AC (h2 _ _) ?_|refine AC (u2 _ _) ?_)<;>conv=>whnf))
   exact AX rfl (DP _)
 ·have g1:=of_decide_eq_true hx
  have g2:=of_decide_eq_true hy;have hz:x+y=zv true (dg (x.natAbs+y.natAbs)):=by rw[e];simp only[cond_true,cond_false];omega
  rw[hz];(conv=>whnf)
  (repeat' ((first|refine AC (h1 _ _) ?_|refine AC (u1 _ _) ?_)<;>conv=>whnf))
  exact AX rfl (DP _)
theorem AjD (N:c4 L) (n1 n2 q1 q2:Bool) (a b:List Nat) (ha:Sm 274877906943 a) (hb:Sm 274877906943 b):Ev L 116 [.agg (rZ q1 n1 a),.agg (rZ q2 n2 b)] (.agg (eZ (zv n1 a-zv n2 b))):=by
 have t2:=λ q=>rG N n2 q b (hb.le (by omega))
 have s2:Sm 274877906943 (dg (-(zv n2 b)).natAbs):=by rw[Int.natAbs_neg,E1];exact hb.zf
 have h1:=λ q q'=>Qc N n1 (decide (-(zv n2 b)<0)) q q' a (dg (-(zv n2 b)).natAbs) ha s2
 rw[E5,<-Int.sub_eq_add_neg]at h1;refine Ev.x N.VW rfl rfl ?_;(repeat' ((first|apply AE|refine AC (t2 _) ?_|refine AC (h1 _ _) ?_)<;>conv=>whnf))
 exact AX rfl (DP _)
theorem Ajw (N:c4 L) (n1 n2 q1 q2:Bool) (a b:List Nat) (ha:Sm 274877906943 a) (hb:Sm 274877906943 b):Ev L 117 [.agg (rZ q1 n1 a),.agg (rZ q2 n2 b)] (.int .i64 (w9 (zv n1 a-zv n2 b))):=by
 have h1:=λ q q'=>AjD N n1 n2 q q' a b ha hb
 have s1:Sm 274877906943 (dg (zv n1 a).natAbs):=by rw[E1];exact ha.zf
 have s2:Sm 274877906943 (dg (zv n2 b).natAbs):=by rw[E1];exact hb.zf
 have s3:Sm 274877906944 (dg (zv n1 a-zv n2 b).natAbs):=s1.add s2 (by rw[BW,BW];omega);have h2:=λ q=>gH N (decide (zv n1 a-zv n2 b<0)) q (dg (zv n1 a-zv n2 b).natAbs) s3
 rw[E5]at h2;refine Ev.x N.VP rfl rfl ?_;(repeat' ((first|apply AE|refine AC (h1 _ _) ?_|refine AC (h2 _) ?_)<;>conv=>whnf))
 exact CX rfl
theorem rH (N:c4 L) (z:Int) (hz : -9223372036854775808<=z/\z<=9223372036854775807):Ev L 112 [.int .i64 z] (.agg (eZ z)):=by
 have two : ∀ k:Nat,k<18446744073709551616 -> ∀ n q,Ev L 111 [.agg [.bool n,.sl q [[.int .u32 ((k%4294967296:Nat):Int)],[.int .u32 ((k/4294967296:Nat):Int)]]]] (.agg (eZ (bif n then -(k:Int) else (k:Int)))):=λ k hk n q=>by
  have:=LB N n q [k%4294967296,k/4294967296] ⟨(qC hk).2,by simp⟩
  unfold zv at this;rw[Xx hk]at this;exact this
 refine Ev.x N.VU rfl rfl ?_;by_cases h0:0<=z
 ·obtain ⟨k,rfl⟩:=Int.eq_ofNat_of_zero_le h0
  have hT:=two k (by omega);(repeat' ((first|(apply AG<;>intro hc<;>try (exfalso;omega))|apply FJ|(apply CP;omega)|(apply EJ;omega)|apply FR|refine aG rfl rfl ?_|apply AE)<;>conv=>whnf))
  generalize k%4294967296=lo at *;generalize k/4294967296=hi at *;(repeat' (refine AC (hT _ _) ?_<;>conv=>whnf))
  exact AX rfl (DP _)
 ·obtain ⟨k,hk⟩:=Int.eq_ofNat_of_zero_le (show 0 <= -(z+1) by omega)
  have zd:z = -((k+1:Nat):Int):=by omega
  have hT:=two (k+1) (by omega);(repeat' ((first|(apply AG<;>intro hc<;>try (exfalso;omega))|(apply AY;omega)|apply wV|(apply CB.neg;omega)|(apply CP;omega)|apply AE)<;>conv=>whnf))
  rw[show IntKind.u64.wrap (-(z+1)+1)=((k+1:Nat):Int) by rw[IntWalk.u64_in _ (by omega)];omega];rw[zd];generalize k+1=k1 at *;(repeat' ((first|apply FJ|(apply EJ;omega)|apply FR|refine aG rfl rfl ?_)<;>conv=>whnf))
  generalize k1%4294967296=lo at *;generalize k1/4294967296=hi at *;(repeat' (refine AC (hT _ _) ?_<;>conv=>whnf))
  exact AX rfl (DP _)
theorem AjC (N:c4 L) (n1 n2 q1 q2:Bool) (a b:List Nat) (ha:Sm 274877906944 a) (hb:Sm 274877906944 b):Ev L 120 [.agg (rZ q1 n1 a),.agg (rZ q2 n2 b)] (.agg (eZ ((Nat.gcd (val a) (val b):Nat):Int))):=by
 have h1:=λ q q'=>Ajs N a b q q' ha.1 hb.1 ha.2 hb.2
 refine Ev.x N.VR rfl rfl ?_;(repeat' ((first|apply AE|refine AC (h1 _ _) ?_)<;>conv=>whnf))
 exact AX (ET (by omega) (GO (by omega))) (DP _)
theorem Aio (n1 n2:Bool) (A B:Nat) (hB:B≠0):(bif n1 then -(A:Int) else (A:Int))/(bif n2 then -(B:Int) else (B:Int))=(bif n1 != n2 then -((if n1=true/\A%B≠0 then A/B+1 else A/B:Nat):Int) else ((if n1=true/\A%B≠0 then A/B+1 else A/B:Nat):Int)) /\
  (bif n1 then -(A:Int) else (A:Int))%(bif n2 then -(B:Int) else (B:Int))=((if n1=true/\A%B≠0 then B-A%B else A%B:Nat):Int):=by
 have hBp:(0:Int)<B:=by omega
 have key : ∀ x:Int,x/(bif n2 then -(B:Int) else (B:Int))=(bif n2 then -(x/B) else x/B)/\x%(bif n2 then -(B:Int) else (B:Int))=x%B:=λ x=>by
  cases n2
  ·exact ⟨rfl,rfl⟩
  ·exact ⟨Int.ediv_neg x B,Int.emod_neg x B⟩
 rw[(key _).1,(key _).2];cases n1
 ·have h1:((A:Int))/B=((A/B:Nat):Int):=by simp
  have h2:((A:Int))%B=((A%B:Nat):Int):=by simp
  simp only[cond_false,h1,h2];cases n2<;>simp
 ·have hd:=Nat.div_add_mod A B
  have m7:=Nat.mod_lt A (show B>0 by omega);by_cases h0:A%B=0
  ·have e : -(A:Int)=(B:Int)*(-((A/B:Nat):Int)):=by
    rw[h0,Nat.add_zero]at hd;rw[Int.mul_neg,<-Int.natCast_mul,hd]
   have h1 : -(A:Int)/B = -((A/B:Nat):Int):=by rw[e,Int.mul_ediv_cancel_left _ (by omega)]
   have h2 : -(A:Int)%B=0:=by rw[e,Int.mul_emod_right]
   simp only[cond_true,h1,h2,h0];cases n2<;>simp
  ·have e : -(A:Int)=(B:Int)*(-((A/B+1:Nat):Int))+((B-A%B:Nat):Int):=by
    have h3:(B:Int)*((A/B:Nat):Int)+((A%B:Nat):Int)=A:=by rw[<-Int.natCast_mul,<-Int.natCast_add,hd]
    rw[Int.mul_neg,Int.natCast_add,Int.mul_add];omega
   have h1 : -(A:Int)/B = -((A/B+1:Nat):Int):=by
    rw[e,Int.mul_add_ediv_left _ _ (by omega),Int.ediv_eq_zero_of_lt (by omega) (by omega),Int.add_zero]
   have h2 : -(A:Int)%B=((B-A%B:Nat):Int):=by
    rw[e,Int.mul_add_emod_self_left,Int.emod_eq_of_lt (by omega) (by omega)]
   simp only[cond_true,h1,h2];cases n2<;>simp [h0]
theorem Qd (N:c4 L) (n1 n2 q1 q2:Bool) (a b:List Nat) (ha:Sm 274877906943 a) (hb:Sm 274877906943 b) (h0:zv n2 b≠0):Ev L 119 [.agg (rZ q1 n1 a),.agg (rZ q2 n2 b)] (.j9 [.agg (eZ (zv n1 a/zv n2 b)),.agg (eZ (zv n1 a%zv n2 b)),.int .i64 0]):=by
 have t1:=λ q=>LB N n1 q a (ha.le (by omega))
 have t2:=λ q=>LB N n2 q b (hb.le (by omega))
 have s1:Sm 274877906943 (dg (zv n1 a).natAbs):=by rw[E1];exact ha.zf
 have s2:Sm 274877906943 (dg (zv n2 b).natAbs):=by rw[E1];exact hb.zf
 generalize zv n1 a=x at *;generalize zv n2 b=y at *;have El:=λ q q'=>Rm N (dg x.natAbs) (dg y.natAbs) q q' s1.1 s2.1 (by have:=s1.2;omega) (by have:=s2.2;omega) (by rw[BW];omega)
 rw[BW,BW]at El;obtain ⟨e1,e2⟩:=Aio (decide (x<0)) (decide (y<0)) x.natAbs y.natAbs (by omega);have hx:(bif decide (x<0) then -(x.natAbs:Int) else (x.natAbs:Int))=x:=by have:=E5 x;unfold zv at this;rw[BW]at this;exact this
 have hy:(bif decide (y<0) then -(y.natAbs:Int) else (y.natAbs:Int))=y:=by have:=E5 y;unfold zv at this;rw[BW]at this;exact this
 rw[hx,hy]at e1 e2;rw[e1,e2];have l1:=s1.2;have l2:=s2.2;have hq:Sm 274877906943 (dg (x.natAbs/y.natAbs)):=s1.low (by rw[BW];exact Nat.div_le_self _ _);have hr:Sm 274877906943 (dg (x.natAbs%y.natAbs)):=s2.low (by rw[BW];exact Nat.le_of_lt (Nat.mod_lt _ (by omega)));have hrz:=I1 (x.natAbs%y.natAbs);have ku:Ev L 103 [.sl false ((dg (x.natAbs/y.natAbs)).map AL),.sl true [[.int .u32 1]]] (.sl false ((dg (x.natAbs/y.natAbs+1)).map AL)):=by
  have:=Rl N (dg (x.natAbs/y.natAbs)) [1] false true (DW _) (HS (by omega)) (by have:=hq.2;omega) (by simp)
  rw[BW,show val [1]=1 from rfl]at this;exact this
 have Ah:Sm 274877906944 (dg (x.natAbs/y.natAbs+1)):=hq.add (b:=[1]) (vC (by omega) (by omega)) (by rw[BW];simp [val]);have Ii:=λ q q'=>rE N (dg y.natAbs) (dg (x.natAbs%y.natAbs)) q q' s2.1 hr.1 (by omega) (by have:=hr.2;omega)
 rw[BW,BW]at Ii;have u1:=λ n q=>LB N n q (dg (x.natAbs/y.natAbs)) (hq.le (by omega))
 have u2:=λ n q=>LB N n q (dg (x.natAbs/y.natAbs+1)) Ah
 have ez : ∀ n V,zv n (dg V)=bif n then -(V:Int) else (V:Int):=λ n V=>by unfold zv;rw[BW]
 have fin : ∀ (z:Int) (V:Nat),AJ (.j9 [.agg (eZ z),.agg [.bool false,.sl false ((dg V).map AL)],.int .i64 0]) (.j9 [.agg (eZ z),.agg (eZ (V:Int)),.int .i64 0]):=λ z V=>by
  have e3:AV.agg (eZ (V:Int)) = .agg [.bool false,.sl false ((dg V).map AL)]:=(ET (by omega) (GO (by omega))).symm;rw[e3];refine AX rfl ?_;simp only[A0,CE,and_true,true_and];exact ⟨CQ _,CQ _⟩
 clear e1 e2 hx hy;generalize x.natAbs/y.natAbs=qq at *;generalize x.natAbs%y.natAbs=rr at *;refine Ev.x N.VQ rfl rfl ?_;(repeat' ((first|(apply AG<;>intro hc<;>try (exfalso;omega))|apply AE|refine AC (t1 _) ?_|refine AC (t2 _) ?_|refine AC (El _ _) ?_)<;>conv=>whnf))
 generalize decide (x<0)=p at *;generalize decide (y<0)=r at *;cases p
 ·rw[if_neg (by simp),if_neg (by simp),<-ez]
  cases r;all_goals
   (conv=>whnf)
   (repeat' (refine AC (u1 _ _) ?_<;>conv=>whnf))
   exact fin _ _
 ·by_cases w8:rr=0
  ·rw[if_neg (by simp [w8]),if_neg (by simp [w8]),<-ez]
   cases r;all_goals
    (conv=>whnf)
    (repeat' ((first|(apply AG<;>intro hc<;>try (exfalso;omega))|apply AR|refine AC (u1 _ _) ?_)<;>conv=>whnf))
    exact fin _ _
  ·rw[if_pos ⟨rfl,w8⟩,if_pos ⟨rfl,w8⟩,<-ez]
   cases r;all_goals
    (conv=>whnf)
    (repeat' ((first|(apply AG<;>intro hc<;>try (exfalso;omega))|apply AR|refine JZ rfl ?_|refine AC (ku) ?_|refine AC (Ii _ _) ?_|refine AC (u2 _ _) ?_)<;>conv=>whnf))
    exact fin _ _
end Go.e8

namespace Go.e8
abbrev rQ (q1 q2 n:Bool) (m d:List Nat):List AV:=[.bool n,.sl q1 (m.map AL),.sl q2 (d.map AL)]
abbrev eQ (x:Rat):List AV:=rQ false false (decide (x.num<0)) (dg x.num.natAbs) (dg x.den)
def qv (n:Bool) (m d:List Nat):Rat:=mkRat (zv n m) (val d)
theorem EN (x:Rat):qv (decide (x.num<0)) (dg x.num.natAbs) (dg x.den)=x:=by
 unfold qv;rw[E5,BW,Rat.mkRat_self]
theorem Uq {d:Nat} (z:Nat) (hd:d≠0):0<Nat.gcd d z:=Nat.gcd_pos_of_pos_left z (by omega)
theorem tE {z:Int} {d:Nat} (hd:d≠0):(mkRat z d).num.natAbs=z.natAbs/Nat.gcd d z.natAbs/\(mkRat z d).den=d/Nat.gcd d z.natAbs/\decide ((mkRat z d).num<0)=decide (z<0):=by
 have hg:=Uq z.natAbs hd;have h1:=Rat.num_mkRat z d;have h2:=Rat.den_mkRat z d;rw[if_neg hd]at h1 h2;rw[h1,h2];obtain ⟨k,hk⟩:=Nat.gcd_dvd_right d z.natAbs;generalize hG:Nat.gcd d z.natAbs=g at *;have hz:z=(g:Int)*(z.sign*k):=by
  rw[<-Int.mul_assoc,Int.mul_comm (g:Int),Int.mul_assoc,<-Int.natCast_mul,<-hk,Int.sign_mul_natAbs]
 have e1:z/(g:Int)=z.sign*k:=by
  rw[hz,Int.mul_ediv_cancel_left _ (by omega),<-hz]
 refine ⟨?_,rfl,?_⟩
 ·rw[e1,Int.natAbs_mul,hk,Nat.mul_div_cancel_left _ hg]
  by_cases h0:z=0
  ·subst h0
   have:k=0:=by
    have h5:g*k=0:=hk.symm;rcases Nat.mul_eq_zero.1 h5 with h|h
    ·omega
    ·exact h
   subst this;simp
  ·rw[Int.natAbs_sign_of_ne_zero h0,Nat.one_mul];simp
 ·congr 1
  rw[eq_iff_iff];rw[Int.ediv_lt_iff_lt_mul (by omega),Int.zero_mul]
theorem DJ (x:Rat):A0 (.agg (eQ x)):=by
 simp only[A0,CE,and_true,true_and];exact ⟨CQ _,CQ _⟩
theorem fS (b w:Bool) (m d:List Nat):A0 (.agg [.bool b,.sl false (m.map AL),.sl false (d.map AL),.bool w]):=by
 simp only[A0,CE,and_true,true_and];exact ⟨CQ _,CQ _⟩
theorem yB (b:Bool) (m:List Nat):A0 (.agg [.bool b,.sl false (m.map AL)]):=by
 simp only[A0,CE,and_true,true_and];exact CQ _
theorem kR (b:Bool) (m d:List Nat):A0 (.agg [.bool b,.sl false (m.map AL),.sl false (d.map AL)]):=by
 simp only[A0,CE,and_true,true_and];exact ⟨CQ _,CQ _⟩
theorem gS (q:Bool) (l:List Nat):fD (.sl q (l.map AL)):=by
 intro e he c hc;obtain ⟨x,_,rfl⟩:=List.mem_map.1 he;simp at hc;subst hc;rfl
theorem oI {r:AV} {K:AV->Prop} (h:OS r) (hk:K (An r)):BT r K:=⟨Or.inl h,by rw[sS h];exact hk⟩
theorem HA {b w q1 q2:Bool} {m d:List Nat} {K:AV->Prop} (hk:K (.agg [.bool b,.sl true (m.map AL),.sl true (d.map AL),.bool w])):BT (.agg [.bool b,.sl q1 (m.map AL),.sl q2 (d.map AL),.bool w]) K:=by
 refine oI ?_ hk;intro c hc;simp only[List.mem_cons,List.not_mem_nil,or_false]at hc;rcases hc with rfl|rfl|rfl|rfl
 ·trivial
 ·exact gS _ _
 ·exact gS _ _
 ·trivial
theorem wM {b q1 q2:Bool} {m d:List Nat} {K:AV->Prop} (hk:K (.agg [.bool b,.sl true (m.map AL),.sl true (d.map AL)])):BT (.agg [.bool b,.sl q1 (m.map AL),.sl q2 (d.map AL)]) K:=by
 refine oI ?_ hk;intro c hc;simp only[List.mem_cons,List.not_mem_nil,or_false]at hc;rcases hc with rfl|rfl|rfl
 ·trivial
 ·exact gS _ _
 ·exact gS _ _
theorem aC {b q1:Bool} {m:List Nat} {K:AV->Prop} (hk:K (.agg [.bool b,.sl true (m.map AL)])):BT (.agg [.bool b,.sl q1 (m.map AL)]) K:=by
 refine oI ?_ hk;intro c hc;simp only[List.mem_cons,List.not_mem_nil,or_false]at hc;rcases hc with rfl|rfl
 ·trivial
 ·exact gS _ _
theorem mK {a b:Int} {d e:Nat} (hd:d≠0) (he:e≠0):mkRat a d+mkRat b e=mkRat (a*e+b*d) (d*e):=Rat.mkRat_add_mkRat a b hd he
theorem Sx {a b:Int} {d:Nat} (hd:d≠0):mkRat a d+mkRat b d=mkRat (a+b) d:=by
 rw[mK hd hd,<-Int.add_mul,Rat.mkRat_mul_right hd]
theorem tC (a b:Int) (d e:Nat):mkRat a d*mkRat b e=mkRat (a*b) (d*e):=Rat.mkRat_mul_mkRat a b d e
theorem Sz (a:Int):mkRat a 1=(a:Rat):=by
 have h:=Rat.mkRat_self (a:Rat);rw[Rat.num_intCast,Rat.den_intCast]at h;exact h
theorem tD {z:Int} {d:Nat} (hd:d≠0):mkRat z d=0↔z=0:=Rat.mkRat_eq_zero hd
theorem Ta {z:Int} {d:Nat} (hd:d≠0):w9 (mkRat z d).num=w9 z:=by
 obtain ⟨_,_,h⟩:=tE (z:=z) hd;have h0:(mkRat z d).num=0↔z=0:=by rw[Rat.num_eq_zero,tD hd]
 have h1:(mkRat z d).num<0↔z<0:=by simpa using h
 unfold w9;by_cases a:z<0
 ·rw[if_pos a,if_pos (h1.2 a)]
 ·rw[if_neg a,if_neg (λ h=>a (h1.1 h))]
  by_cases b:z=0
  ·rw[if_neg (by omega),if_neg (by have:=h0.2 b;omega)]
  ·rw[if_pos (by omega),if_pos (by have:=mt h0.1 b;have:=mt h1.1 a;omega)]
theorem AlM {a b:Int} {d e:Nat} (hd:d≠0) (he:e≠0) (hb:b≠0):mkRat a d/mkRat b e=mkRat (b.sign*(a*e)) (d*b.natAbs):=by
 have hbn:b.natAbs≠0:=by omega
 have h1:mkRat b e≠0:=λ h=>hb ((tD he).1 h)
 have key:mkRat (b.sign*(a*e)) (d*b.natAbs)*mkRat b e=mkRat a d:=by
  rw[tC];have e1:b.sign*(a*e)*b=a*((b.natAbs*e:Nat):Int):=by
   have:=Int.sign_mul_self b
   rw[Int.natCast_mul,<-this];grind
  rw[e1,show d*b.natAbs*e=d*(b.natAbs*e) by rw[Nat.mul_assoc]];exact Rat.mkRat_mul_right (Nat.mul_ne_zero hbn he)
 rw[<-key,Rat.mul_div_cancel h1]
theorem Aeh {x y:Int} (hy:y≠0):zv (decide (x<0) != decide (y<0)) (dg x.natAbs)=y.sign*x:=by
 unfold zv;rw[BW];rcases Int.lt_or_gt_of_ne hy with h|h
 ·rw[Int.sign_eq_neg_one_of_neg h]
  by_cases hx:x<0
  ·simp [hx,h];omega
  ·simp [hx,h];omega
 ·rw[Int.sign_eq_one_of_pos h]
  by_cases hx:x<0
  ·simp [hx,show ¬ y<0 by omega];omega
  ·simp [hx,show ¬ y<0 by omega];omega
end Go.e8

namespace Go.e8
open F
attribute [local irreducible] AA AF AP AD CB AU AW BA A6 B2 AM BO B8 C8 BN A3 BX B9 AB A8 AJ pw BK BI CJ CK CU CR CI BT CT
variable {L:Lib}
set_option maxHeartbeats 4000000
theorem zV:dg 1=[1]:=by rw[J0 (by omega)];simp [E2]
theorem xJ:AV.agg [.bool false,.sl false [],.sl false [[.int .u32 1]]] = .agg (eQ 0):=by
 show _=AV.agg (rQ _ _ _ _ _);rw[Rat.zero_num,Rat.zero_den,zV,show (0:Int).natAbs=0 from rfl,E2];rfl
theorem Ag8 {x y:Int} (hy:y≠0):(Rat.divInt x y).num=(if y<0 then -(x/((Nat.gcd x.natAbs y.natAbs:Nat):Int)) else x/((Nat.gcd x.natAbs y.natAbs:Nat):Int))/\(Rat.divInt x y).den=(y/((Nat.gcd x.natAbs y.natAbs:Nat):Int)).natAbs:=by
 have h1:=Rat.num_divInt x y;have h2:=Rat.den_divInt x y;rw[if_neg hy]at h2;have hg:Int.gcd y x=Nat.gcd x.natAbs y.natAbs:=by rw[Int.gcd,Nat.gcd_comm]
 rw[hg]at h1 h2;have Na:0<Nat.gcd x.natAbs y.natAbs:=Nat.gcd_pos_of_pos_right _ (by omega);have dx:((Nat.gcd x.natAbs y.natAbs:Nat):Int) ∣ x:=Int.ofNat_dvd_left.2 (Nat.gcd_dvd_left _ _);have dy:((Nat.gcd x.natAbs y.natAbs:Nat):Int) ∣ y:=Int.ofNat_dvd_left.2 (Nat.gcd_dvd_right _ _);generalize Nat.gcd x.natAbs y.natAbs=g at *;rw[h1,h2];obtain ⟨u,rfl⟩:=dx;obtain ⟨v,rfl⟩:=dy;have Dj:(g:Int)≠0:=by omega
 refine ⟨?_,?_⟩
 ·rw[Int.mul_ediv_cancel_left _ Dj]
  split
  ·rename_i h
   rw[Int.sign_eq_neg_one_of_neg h,show -1*((g:Int)*u)=g*(-u) by rw[Int.mul_neg];omega,Int.mul_ediv_cancel_left _ Dj]
  ·rw[Int.sign_eq_one_of_pos (by omega),Int.one_mul,Int.mul_ediv_cancel_left _ Dj]
 ·rw[Int.mul_ediv_cancel_left _ Dj,Int.natAbs_mul,Int.natAbs_natCast,Nat.mul_div_cancel_left _ Na]
theorem gI (N:c4 L) (n1 n2 q1 q2:Bool) (a b:List Nat) (ha:Sm 274877906943 a) (hb:Sm 274877906943 b):Ev L 121 [.agg (rZ q1 n1 a),.agg (rZ q2 n2 b)] (.agg (eQ (Rat.divInt (zv n1 a) (zv n2 b)))):=by
 have t1:=λ q=>gH N n1 q a (ha.le (by omega))
 have t2:=λ q=>gH N n2 q b (hb.le (by omega))
 by_cases h1:zv n1 a=0
 ·rw[h1,Rat.zero_divInt,<-xJ]
  rw[h1,<-nM rfl]at t1;refine Ev.x N.JP rfl rfl ?_;(repeat' ((first|(apply AG<;>intro hc<;>try (exfalso;omega))|refine JZ rfl ?_|apply AE|refine AC (t1 _) ?_)<;>conv=>whnf))
  exact AX rfl (kR false [] [1])
 have s1:w9 (zv n1 a)≠0:=by unfold w9;split<;>(try split)<;>omega
 by_cases h2:zv n2 b=0
 ·rw[h2,Rat.divInt_zero,<-xJ]
  rw[h2,<-nM rfl]at t2;generalize w9 (zv n1 a)=sg at *;refine Ev.x N.JP rfl rfl ?_;(repeat' ((first|(apply AG<;>intro hc<;>try (exfalso;omega))|refine JZ rfl ?_|apply AE|refine AC (t1 _) ?_|refine AC (t2 _) ?_)<;>conv=>whnf))
  exact AX rfl (kR false [] [1])
 have s2:w9 (zv n2 b)≠0:=by unfold w9;split<;>(try split)<;>omega
 obtain ⟨p1,p2⟩:=Ag8 (x:=zv n1 a) h2;have hG:=λ q q'=>AjC N n1 n2 q q' a b (ha.le (by omega)) (hb.le (by omega))
 have hle:Nat.gcd (val a) (val b)<=val b:=Nat.gcd_le_right _ (by have:=E1 n2 b;omega);have Na:0<Nat.gcd (val a) (val b):=Nat.gcd_pos_of_pos_right _ (by have:=E1 n2 b;omega);have sg:Sm 274877906943 (dg (Nat.gcd (val a) (val b))):=hb.low hle;rw[E1,E1]at p1 p2;have hgf:decide (((Nat.gcd (val a) (val b):Nat):Int)<0)=false:=by simp
 have sg':Sm 274877906943 (dg (((Nat.gcd (val a) (val b):Nat):Int)).natAbs):=by rw[Int.natAbs_natCast];exact sg
 have zg:zv (decide (((Nat.gcd (val a) (val b):Nat):Int)<0)) (dg (((Nat.gcd (val a) (val b):Nat):Int)).natAbs)=((Nat.gcd (val a) (val b):Nat):Int):=E5 _;have ub:=λ q q'=>Qd N n1 _ q q' a _ ha sg' (by rw[zg];omega)
 have uc:=λ q q'=>Qd N n2 _ q q' b _ hb sg' (by rw[zg];omega)
 rw[zg]at ub uc;have xi:Sm 274877906943 (dg (zv n1 a/((Nat.gcd (val a) (val b):Nat):Int)).natAbs):=ha.low (by
  have:(zv n1 a/((Nat.gcd (val a) (val b):Nat):Int)).natAbs<=(zv n1 a).natAbs:=Int.natAbs_ediv_le_natAbs _ _
  rw[E1]at this;exact this)
 have Dj:0<((Nat.gcd (val a) (val b):Nat):Int):=by omega
 generalize ((Nat.gcd (val a) (val b):Nat):Int)=g at *;generalize zv n1 a=x at *;generalize zv n2 b=y at *;generalize w9 x=sx at *;generalize w9 y=sy at *;have hN:=λ q=>rG N (decide (x/g<0)) q (dg (x/g).natAbs) (xi.le (by omega))
 rw[E5]at hN;have Fh:decide (y/g<0)=decide (y<0):=by
  congr 1;rw[eq_iff_iff,Int.ediv_lt_iff_lt_mul (by omega),Int.zero_mul]
 refine Ev.x N.JP rfl rfl ?_;(repeat' ((first|(apply AG<;>intro hc<;>try (exfalso;omega))|apply AE|refine AC (t1 _) ?_|refine AC (t2 _) ?_|refine AC (hG _ _) ?_|refine AC (ub _ _) ?_|refine AC (uc _ _) ?_)<;>conv=>whnf))
 cases hyn:decide (y/g<0)
 ·rw[hyn]at Fh
  rw[if_neg (of_decide_eq_false Fh.symm)]at p1;(conv=>whnf)
  skip
  refine AX ?_ (DJ _);show _=AV.agg (rQ _ _ _ _ _);rw[p1,p2]
 ·rw[hyn]at Fh
  rw[if_pos (of_decide_eq_true Fh.symm)]at p1;(conv=>whnf)
  (repeat' (refine AC (hN _) ?_<;>conv=>whnf))
  refine AX ?_ (DJ _);show _=AV.agg (rQ _ _ _ _ _);rw[p1,p2]
theorem Ag9 {z:Int} {d:List Nat}:Rat.divInt z (zv false d)=mkRat z (val d):=by rw[EP,Rat.divInt_ofNat]
def Ae9 (n:Bool) (m d:List Nat) (n':Bool) (m' d':List Nat) (k:Nat):Prop:=Sm k m'/\Sm k d'/\val d'≠0/\qv n m d=mkRat (zv n' m') (val d')
theorem yL (n:Bool) (m d:List Nat):A0 (.j9 [.agg (rZ false n m),.agg (rZ false false d)]):=by
 simp only[A0,CE,and_true,true_and];exact ⟨CQ _,CQ _⟩
theorem XQ (N:c4 L) (n q:Bool) (m d:List Nat) (k:Nat) (hk:1<=k/\k<=274877906943) (hm:Sm k m) (hd:Sm k d) : ∃ n' m' d',Ev L 122 [.agg (rQ false q n m d)] (.j9 [.agg (rZ false n' m'),.agg (rZ false false d')])/\Ae9 n m d n' m' d' k:=by
 have t1:=λ q=>GC N d q hd.1 (by have:=hd.2;omega)
 have hl:=I1 (val d);by_cases h0:val d=0
 ·refine ⟨false,[],[1],?_,nN _,vC hk.1 (by omega),by decide,by unfold qv;rw[h0,Rat.mkRat_zero,Zw,Rat.zero_mkRat]⟩
  refine Ev.x N.OC rfl rfl ?_;(repeat' ((first|(apply AG<;>intro hc<;>try (exfalso;omega))|apply AR|refine JZ rfl ?_|apply AE|refine AC (t1 _) ?_)<;>conv=>whnf))
  exact AX rfl (yL false [] [1])
 ·refine ⟨n,m,dg (val d),?_,hm,hd.zf,by rw[BW];exact h0,by rw[BW];rfl⟩
  refine Ev.x N.OC rfl rfl ?_;(repeat' ((first|(apply AG<;>intro hc<;>try (exfalso;omega))|apply AR|apply AE|refine AC (t1 _) ?_)<;>conv=>whnf))
  exact AX rfl (yL _ _ _)
theorem AjG (N:c4 L) (n q:Bool) (m d:List Nat) (hm:Sm 274877906943 m) (hd:Sm 274877906943 d):Ev L 123 [.agg (rQ false q n m d)] (.agg (eQ (qv n m d))):=by
 obtain ⟨n',m',d',hp,s1,s2,s3,s4⟩:=XQ N n q m d 274877906943 (by omega) hm hd;have hr:=λ q q'=>gI N n' false q q' m' d' s1 s2
 rw[Ag9,<-s4]at hr;refine Ev.x N.V8 rfl rfl ?_;(repeat' ((first|apply AE|refine AC (hp) ?_|refine AC (hr _ _) ?_)<;>conv=>whnf))
 exact AX rfl (DJ _)
theorem Af1 (z:Int):AV.agg [.bool (decide (z<0)),.sl false ((dg z.natAbs).map AL),.sl false [[.int .u32 1]]] = .agg (eQ (z:Rat)):=by
 show _=AV.agg (rQ _ _ _ _ _);rw[Rat.num_intCast,Rat.den_intCast,zV];rfl
theorem dD (N:c4 L) (z:Int) (hz : -9223372036854775808<=z/\z<=9223372036854775807):Ev L 124 [.int .i64 z] (.agg (eQ (z:Rat))):=by
 have h1:=rH N z hz;refine Ev.x N.V5 rfl rfl ?_;(repeat' ((first|refine JZ rfl ?_|apply AE|refine AC (h1) ?_)<;>conv=>whnf))
 exact AX (Af1 z) (DJ _)
theorem Yt {z:Int} (hz : -9223372036854775808<=z/\z<=9223372036854775808):Sm 2 (dg z.natAbs):=Sm.dg (by omega)
theorem lT (N:c4 L) (x y:Int) (hx : -9223372036854775808<=x/\x<=9223372036854775807) (hy : -9223372036854775808<=y/\y<=9223372036854775807):Ev L 125 [.int .i64 x,.int .i64 y] (.agg (eQ (Rat.divInt x y))):=by
 have h1:=rH N x hx;have h2:=rH N y hy;have hr:=λ q q'=>gI N (decide (x<0)) (decide (y<0)) q q' _ _ ((Yt (z:=x) (by omega)).le (by omega)) ((Yt (z:=y) (by omega)).le (by omega))
 rw[E5,E5]at hr;refine Ev.x N.V2 rfl rfl ?_;(repeat' ((first|apply AE|refine AC (h1) ?_|refine AC (h2) ?_|refine AC (hr _ _) ?_)<;>conv=>whnf))
 exact AX rfl (DJ _)
theorem Y4 {k l:Nat} {n1 n2:Bool} {a b:List Nat} (ha:Sm k a) (hb:Sm l b):Sm (k+l) (dg (zv n1 a*zv n2 b).natAbs):=ha.mul hb (by rw[Int.natAbs_mul,E1,E1])
theorem Anb {k:Nat} {x y:Int} (ha:Sm k (dg x.natAbs)) (hb:Sm k (dg y.natAbs)):Sm (k+1) (dg (x+y).natAbs):=ha.add hb (by rw[BW,BW];omega)
theorem Qe (N:c4 L) (k:Nat) (hk:1<=k/\k<=68719476736) (n1 n2 q2 q4:Bool) (m1 d1 m2 d2:List Nat) (mi:Sm k m1) (qg:Sm k d1) (jk:Sm k m2) (qh:Sm k d2) :
  Ev L 126 [.agg (rQ false q2 n1 m1 d1),.agg (rQ false q4 n2 m2 d2)] (.agg (eQ (qv n1 m1 d1+qv n2 m2 d2))):=by
 obtain ⟨a1,a2,a3,bn,s1,s2,s3,s5⟩:=XQ N n1 q2 m1 d1 k (by omega) mi qg;obtain ⟨b1,b2,b3,dd,t1,t2,t3,t5⟩:=XQ N n2 q4 m2 d2 k (by omega) jk qh;have l1:=s1.2;have l2:=s2.2;have l3:=t1.2;have l4:=t2.2;rw[s5,t5,mK s3 t3,<-EP b3,<-EP a3];have eb:=λ q q'=>YJ N a1 false q q' a2 b3 s1.1 t2.1 (by omega)
 have fm:=λ q q'=>YJ N b1 false q q' b2 a3 t1.1 s2.1 (by omega)
 have ud:=λ q q'=>YJ N false false q q' a3 b3 s2.1 t2.1 (by omega)
 have g1:Sm (k+k) (dg (zv a1 a2*zv false b3).natAbs):=Y4 s1 t2;have g2:Sm (k+k) (dg (zv b1 b2*zv false a3).natAbs):=Y4 t1 s2;have g3:=Anb g1 g2;have g4:Sm (k+k) (dg (zv false a3*zv false b3).natAbs):=Y4 s2 t2;have hA:=λ q q'=>Qc N (decide (zv a1 a2*zv false b3<0)) (decide (zv b1 b2*zv false a3<0)) q q' _ _ (g1.le (by omega)) (g2.le (by omega))
 rw[E5,E5]at hA;have hR:=λ q q'=>gI N (decide (zv a1 a2*zv false b3+zv b1 b2*zv false a3<0)) (decide (zv false a3*zv false b3<0)) q q' _ _ (g3.le (by omega)) (g4.le (by omega))
 rw[E5,E5,show zv false a3*zv false b3=((val a3*val b3:Nat):Int) by rw[EP,EP];simp,Rat.divInt_ofNat]at hR;rw[show zv false a3*zv false b3=((val a3*val b3:Nat):Int) by rw[EP,EP];simp]at ud;refine Ev.x N.VZ rfl rfl ?_;(repeat' ((first|apply AE|refine AC (bn) ?_|refine AC (dd) ?_|refine AC (eb _ _) ?_|refine AC (fm _ _) ?_|refine AC (hA _ _) ?_|refine AC (ud _ _) ?_|refine AC (hR _ _) ?_)<;>conv=>whnf))
 exact AX rfl (DJ _)
theorem AjF (N:c4 L) (k:Nat) (hk:1<=k/\k<=68719476736) (n1 n2 q2 q4:Bool) (m1 d1 m2 d2:List Nat) (mi:Sm k m1) (qg:Sm k d1) (jk:Sm k m2) (qh:Sm k d2) :
  Ev L 128 [.agg (rQ false q2 n1 m1 d1),.agg (rQ false q4 n2 m2 d2)] (.agg (eQ (qv n1 m1 d1*qv n2 m2 d2))):=by
 obtain ⟨a1,a2,a3,bn,s1,s2,s3,s5⟩:=XQ N n1 q2 m1 d1 k (by omega) mi qg;obtain ⟨b1,b2,b3,dd,t1,t2,t3,t5⟩:=XQ N n2 q4 m2 d2 k (by omega) jk qh;have l1:=s1.2;have l2:=s2.2;have l3:=t1.2;have l4:=t2.2;rw[s5,t5,tC];have eb:=λ q q'=>YJ N a1 b1 q q' a2 b2 s1.1 t1.1 (by omega)
 have ud:=λ q q'=>YJ N false false q q' a3 b3 s2.1 t2.1 (by omega)
 have g1:Sm (k+k) (dg (zv a1 a2*zv b1 b2).natAbs):=Y4 s1 t1;have g4:Sm (k+k) (dg (zv false a3*zv false b3).natAbs):=Y4 s2 t2;have hR:=λ q q'=>gI N (decide (zv a1 a2*zv b1 b2<0)) (decide (zv false a3*zv false b3<0)) q q' _ _ (g1.le (by omega)) (g4.le (by omega))
 rw[E5,E5,show zv false a3*zv false b3=((val a3*val b3:Nat):Int) by rw[EP,EP];simp,Rat.divInt_ofNat]at hR;rw[show zv false a3*zv false b3=((val a3*val b3:Nat):Int) by rw[EP,EP];simp]at ud;refine Ev.x N.V3 rfl rfl ?_;(repeat' ((first|apply AE|refine AC (bn) ?_|refine AC (dd) ?_|refine AC (eb _ _) ?_|refine AC (ud _ _) ?_|refine AC (hR _ _) ?_)<;>conv=>whnf))
 exact AX rfl (DJ _)
theorem Sy {a b:Int} {d e:Nat} (hd:d≠0) (he:e≠0):w9 (a*e-b*d)=w9 (mkRat a d-mkRat b e).num:=by
 have h:mkRat a d-mkRat b e=mkRat (a*e-b*d) (d*e):=by
  rw[Rat.sub_eq_add_neg,Rat.neg_mkRat,mK hd he,Int.neg_mul,<-Int.sub_eq_add_neg]
 rw[h,Ta (Nat.mul_ne_zero hd he)]
theorem AjE (N:c4 L) (k:Nat) (hk:1<=k/\k<=68719476736) (n1 n2 q2 q4:Bool) (m1 d1 m2 d2:List Nat) (mi:Sm k m1) (qg:Sm k d1) (jk:Sm k m2) (qh:Sm k d2) :
  Ev L 127 [.agg (rQ false q2 n1 m1 d1),.agg (rQ false q4 n2 m2 d2)] (.int .i64 (w9 (qv n1 m1 d1-qv n2 m2 d2).num)):=by
 obtain ⟨a1,a2,a3,bn,s1,s2,s3,s5⟩:=XQ N n1 q2 m1 d1 k (by omega) mi qg;obtain ⟨b1,b2,b3,dd,t1,t2,t3,t5⟩:=XQ N n2 q4 m2 d2 k (by omega) jk qh;have l1:=s1.2;have l2:=s2.2;have l3:=t1.2;have l4:=t2.2;rw[s5,t5,<-Sy s3 t3,<-EP b3,<-EP a3];have eb:=λ q q'=>YJ N a1 false q q' a2 b3 s1.1 t2.1 (by omega)
 have fm:=λ q q'=>YJ N b1 false q q' b2 a3 t1.1 s2.1 (by omega)
 have g1:Sm (k+k) (dg (zv a1 a2*zv false b3).natAbs):=Y4 s1 t2;have g2:Sm (k+k) (dg (zv b1 b2*zv false a3).natAbs):=Y4 t1 s2;have hC:=λ q q'=>Ajw N (decide (zv a1 a2*zv false b3<0)) (decide (zv b1 b2*zv false a3<0)) q q' _ _ (g1.le (by omega)) (g2.le (by omega))
 rw[E5,E5]at hC;refine Ev.x N.V0 rfl rfl ?_;(repeat' ((first|apply AE|refine AC (bn) ?_|refine AC (dd) ?_|refine AC (eb _ _) ?_|refine AC (fm _ _) ?_|refine AC (hC _ _) ?_)<;>conv=>whnf))
 exact CX rfl
end Go.e8

namespace Go.e8
def Bt (k:Nat) (x:Rat):Prop:=x.num.natAbs<=2^k/\x.den<=2^k
theorem Bt.le {k l:Nat} {x:Rat} (h:Bt k x) (hl:k<=l):Bt l x:=by
 have:=Nat.pow_le_pow_right (show 0<2 by omega) hl
 exact ⟨Nat.le_trans h.1 this,Nat.le_trans h.2 this⟩
theorem Bt.mk {k:Nat} {z:Int} {d:Nat} (hz:z.natAbs<=2^k) (hd:d<=2^k):Bt k (mkRat z d):=by
 by_cases h0:d=0
 ·subst h0
  rw[Rat.mkRat_zero];exact ⟨by simp,by simp;exact Nat.one_le_two_pow⟩
 ·obtain ⟨e1,e2,_⟩:=tE (z:=z) h0
  unfold Bt;rw[e1,e2];exact ⟨Nat.le_trans (Nat.div_le_self _ _) hz,Nat.le_trans (Nat.div_le_self _ _) hd⟩
theorem Bt.add {k l:Nat} {x y:Rat} (hx:Bt k x) (hy:Bt l y):Bt (k+l+1) (x+y):=by
 rw[Rat.add_def'];refine Bt.mk ?_ ?_
 ·have h1:(x.num*y.den).natAbs<=2^k*2^l:=by rw[Int.natAbs_mul,Int.natAbs_natCast];exact Nat.mul_le_mul hx.1 hy.2
  have h2:(y.num*x.den).natAbs<=2^l*2^k:=by rw[Int.natAbs_mul,Int.natAbs_natCast];exact Nat.mul_le_mul hy.1 hx.2
  rw[Nat.mul_comm (2^l)]at h2;rw[Nat.pow_succ,Nat.pow_add];have h3:=Int.natAbs_add_le (x.num*y.den) (y.num*x.den);omega
 ·rw[Nat.pow_succ,Nat.pow_add]
  have:=Nat.mul_le_mul hx.2 hy.2
  omega
theorem Bt.mul {k l:Nat} {x y:Rat} (hx:Bt k x) (hy:Bt l y):Bt (k+l) (x*y):=by
 rw[Rat.mul_def'];refine Bt.mk ?_ ?_
 ·rw[Int.natAbs_mul,Nat.pow_add];exact Nat.mul_le_mul hx.1 hy.1
 ·rw[Nat.pow_add];exact Nat.mul_le_mul hx.2 hy.2
theorem Bt.zero (k:Nat):Bt k 0:=⟨by simp,by simp;exact Nat.one_le_two_pow⟩
theorem Bt.one (k:Nat):Bt k 1:=⟨by simp;exact Nat.one_le_two_pow,by simp;exact Nat.one_le_two_pow⟩
theorem Bt.dig {k n:Nat} {x:Rat} (h:Bt k x) (hn:k<32*n):Sm n (dg x.num.natAbs)/\Sm n (dg x.den):=by
 have e:2^k<4294967296^n:=by
  rw[show 4294967296=2^32 from rfl,<-Nat.pow_mul];exact (Nat.pow_lt_pow_iff_right (by omega)).2 hn
 exact ⟨Sm.dg (Nat.lt_of_le_of_lt h.1 e),Sm.dg (Nat.lt_of_le_of_lt h.2 e)⟩
def Bs (k:Nat) (l:List Rat):Prop := ∀ x∈l,Bt k x
theorem Bs.at {k:Nat} {l:List Rat} (h:Bs k l) {i:Nat} {x:Rat} (hx:l[i]? = some x):Bt k x:=h x (zM hx)
theorem Bs.le {k j:Nat} {l:List Rat} (h:Bs k l) (hj:k<=j):Bs j l:=λ x hx=>(h x hx).le hj
theorem Bs.take {k:Nat} {l:List Rat} (h:Bs k l) (n:Nat):Bs k (l.take n):=λ x hx=>h x (List.mem_of_mem_take hx)
def A4:List Rat->List Rat->Rat
 | x::xs,y::ys=>x*y+A4 xs ys
 | _,_=>0
theorem cU (l:List Rat):A4 l []=0:=by cases l<;>rfl
theorem Sb : ∀ {a b:List Rat} {x y:Rat},a.length=b.length->A4 (a++[x]) (b++[y])=A4 a b+x*y
 | [],[],x,y,_=>by show x*y+0=0+x*y;rw[Rat.add_zero,Rat.zero_add]
 | p::a,q::b,x,y,h=>by
  show p*q+A4 (a++[x]) (b++[y])=p*q+A4 a b+x*y;rw[Sb (by simpa using h),Rat.add_assoc]
theorem gD {a b:List Rat} {i:Nat} {x y:Rat} (hx:a[i]? = some x) (hy:b[i]? = some y):A4 (a.take (i+1)) (b.take (i+1))=A4 (a.take i) (b.take i)+x*y:=by
 have h1:=(zS hx).1;have h2:=(zS hy).1;rw[List.take_add_one,List.take_add_one,hx,hy,Option.toList_some,Option.toList_some,Sb (by rw[List.length_take,List.length_take];omega)]
theorem cT {a b:List Rat} {n:Nat} (h:a.length=n):A4 (a.take n) (b.take n)=A4 a b:=by
 subst h;rw[List.take_of_length_le (Nat.le_refl _)];induction a generalizing b with
 | nil=>cases b<;>rfl
 | cons x a ih=>cases b with
  | nil=>rfl
  | cons y b=>simp only[List.length_cons,List.take_succ_cons,A4,ih]
theorem Bs.dot {k l:Nat} : ∀ {a b:List Rat},Bs k a->Bs l b->Bt (a.length*(k+l+1)) (A4 a b)
 | [],b,_,_=>by cases b<;>exact Bt.zero _
 | x::a,[],_,_=>Bt.zero _
 | x::a,y::b,ha,hb=>by
  have h1:=(ha x (by simp)).mul (hb y (by simp));have h2:=Bs.dot (a:=a) (b:=b) (λ z hz=>ha z (by simp [hz])) (λ z hz=>hb z (by simp [hz]));refine (h1.add h2).le ?_;rw[List.length_cons,Nat.succ_mul];omega
def cM (a b:List Rat):List Rat:=List.zipWith (· + ·) a b
theorem Ry : ∀ {a u v:List Rat},u.length=v.length->A4 a (cM u v)=A4 a u+A4 a v
 | [],_,_,_=>by simp only[A4];rw[Rat.add_zero]
 | x::a,[],[],_=>by simp only[cM,List.zipWith_nil_left,A4];rw[Rat.add_zero]
 | x::a,p::u,q::v,h=>by
  show x*(p+q)+A4 a (cM u v)=_;rw[Ry (by simpa using h)];simp only[A4];grind
structure GJ where
 a:List (List Rat)
 b:List Rat
 c:List Rat
 d:Rat
structure GJ.Ok (S:GJ) (n k:Nat):Prop where
 la:S.a.length=n
 lr : ∀ r∈S.a,r.length=n
 lb:S.b.length=n
 lc:S.c.length=n
 ba : ∀ r∈S.a,Bs k r
 bb:Bs k S.b
 bc:Bs k S.c
 bd:Bt k S.d
def GE (n:Nat) (j:Int):List Rat:=(List.range n).map λ i:Nat=>if (i:Int)=j then 1 else 0
theorem vX (n:Nat) (j:Int):(GE n j).length=n:=by simp [GE]
end Go.e8

namespace Go.e8
open F
attribute [local irreducible] AA AF AP AD CB AU AW BA A6 B2 AM BO B8 C8 BN A3 BX B9 AB A8 AJ pw BK BI CJ CK CU CR CI BT CT
variable {L:Lib}
set_option maxHeartbeats 4000000
theorem Bt.lf {k:Nat} {x:Rat} (h:Bt k x) (hk:k<2199023255552):Sm 68719476736 (dg x.num.natAbs)/\Sm 68719476736 (dg x.den):=h.dig (by omega)
theorem lL (N:c4 L) {x y:Rat} {k l:Nat} (hx:Bt k x) (hy:Bt l y) (hk:k<2199023255552) (hl:l<2199023255552):Ev L 126 [.agg (eQ x),.agg (eQ y)] (.agg (eQ (x+y))):=by
 have:=Qe N 68719476736 (by omega) (decide (x.num<0)) (decide (y.num<0)) false false _ _ _ _ (hx.lf hk).1 (hx.lf hk).2 (hy.lf hl).1 (hy.lf hl).2
 rw[EN,EN]at this;exact this
theorem aV (N:c4 L) {x y:Rat} {k l:Nat} (hx:Bt k x) (hy:Bt l y) (hk:k<2199023255552) (hl:l<2199023255552):Ev L 128 [.agg (eQ x),.agg (eQ y)] (.agg (eQ (x*y))):=by
 have:=AjF N 68719476736 (by omega) (decide (x.num<0)) (decide (y.num<0)) false false _ _ _ _ (hx.lf hk).1 (hx.lf hk).2 (hy.lf hl).1 (hy.lf hl).2
 rw[EN,EN]at this;exact this
theorem lU (N:c4 L) {x:Rat} {k:Nat} (hx:Bt k x) (hk:k<2199023255552):Ev L 123 [.agg (eQ x)] (.agg (eQ x)):=by
 have:=AjG N (decide (x.num<0)) false _ _ ((hx.lf hk).1.le (by omega)) ((hx.lf hk).2.le (by omega))
 rw[EN]at this;exact this
theorem lM (N:c4 L) {x y:Rat} {k l:Nat} (hx:Bt k x) (hy:Bt l y) (hk:k<2199023255552) (hl:l<2199023255552):Ev L 127 [.agg (eQ x),.agg (eQ y)] (.int .i64 (w9 (x-y).num)):=by
 have:=AjE N 68719476736 (by omega) (decide (x.num<0)) (decide (y.num<0)) false false _ _ _ _ (hx.lf hk).1 (hx.lf hk).2 (hy.lf hl).1 (hy.lf hl).2
 rw[EN,EN]at this;exact this
theorem uZ {x y:Rat}:w9 (x-y).num=0↔x=y:=by
 have h:w9 (x-y).num=0↔(x-y).num=0:=by unfold w9;split<;>(try split)<;>omega
 rw[h,Rat.num_eq_zero];constructor
 ·intro h;grind
 ·rintro rfl;exact Rat.sub_self
theorem lQ (N:u9 L) {x:Rat} {k:Nat} (hx:Bt k x) (hk:k<2199023255552):Ev L 152 [.agg (eQ x)] (.agg (eQ (-x))):=by
 have hT:=lU N.toc4 hx hk;have hN:=λ q=>rG N.toc4 (decide (x.num<0)) q (dg x.num.natAbs) ((hx.lf hk).1.le (by omega))
 rw[E5]at hN;refine Ev.x N.V4 rfl rfl ?_;(repeat' ((first|apply AE|refine AC (hT) ?_|refine AC (hN _) ?_)<;>conv=>whnf))
 refine AX ?_ (DJ _);show _=AV.agg (rQ _ _ _ _ _);rw[Rat.neg_num,Rat.neg_den]
theorem Qj (N:u9 L) {x y:Rat} {k l:Nat} (hx:Bt k x) (hy:Bt l y) (hk:k<2199023255552) (hl:l<2199023255552):Ev L 153 [.agg (eQ x),.agg (eQ y)] (.agg (eQ (x-y))):=by
 have hn:Bt l (-y):=⟨by rw[Rat.neg_num,Int.natAbs_neg];exact hy.1,by rw[Rat.neg_den];exact hy.2⟩;have hN:=lQ N hy hl;have hA:=lL N.toc4 hx hn hk hl;rw[<-Rat.sub_eq_add_neg]at hA;refine Ev.x N.N7 rfl rfl ?_;(repeat' ((first|apply AE|refine AC (hN) ?_|refine AC (hA) ?_)<;>conv=>whnf))
 exact AX rfl (DJ _)
theorem AlN {a c:Int} {b d:Nat} (hb:b≠0) (hd:d≠0) (hc:c≠0):mkRat a b/mkRat c d=Rat.divInt (a*d) (b*c):=by
 rw[Rat.div_def,<-Rat.divInt_ofNat,<-Rat.divInt_ofNat,Rat.inv_divInt,Rat.divInt_mul_divInt]
theorem AiT (N:u9 L) {x y:Rat} {k l:Nat} (hx:Bt k x) (hy:Bt l y) (hk:k<2199023255552) (hl:l<2199023255552) (h0:y≠0):Ev L 154 [.agg (eQ x),.agg (eQ y)] (.j9 [.agg (eQ (x/y)),.int .i64 0]):=by
 obtain ⟨a1,a2,a3,bn,s1,s2,s3,s5⟩:=XQ N.toc4 (decide (x.num<0)) false (dg x.num.natAbs) (dg x.den) 68719476736 (by omega) (hx.lf hk).1 (hx.lf hk).2;obtain ⟨b1,b2,b3,dd,t1,t2,t3,t5⟩:=XQ N.toc4 (decide (y.num<0)) false (dg y.num.natAbs) (dg y.den) 68719476736 (by omega) (hy.lf hl).1 (hy.lf hl).2;have l1:=s1.2;have l2:=s2.2;have l3:=t1.2;have l4:=t2.2;rw[EN]at s5 t5;have Be:zv b1 b2≠0:=λ h=>h0 (by rw[t5,h,Rat.zero_mkRat])
 have hS:=λ q=>gH N.toc4 b1 q b2 (t1.le (by omega))
 have uy:w9 (zv b1 b2)≠0:=by unfold w9;split<;>(try split)<;>omega
 have eb:=λ q q'=>YJ N.toc4 a1 false q q' a2 b3 s1.1 t2.1 (by omega)
 have fm:=λ q q'=>YJ N.toc4 false b1 q q' a3 b2 s2.1 t1.1 (by omega)
 have g1:Sm (68719476736+68719476736) (dg (zv a1 a2*zv false b3).natAbs):=Y4 s1 t2;have g2:Sm (68719476736+68719476736) (dg (zv false a3*zv b1 b2).natAbs):=Y4 s2 t1;have hR:=λ q q'=>gI N.toc4 (decide (zv a1 a2*zv false b3<0)) (decide (zv false a3*zv b1 b2<0)) q q' _ _ (g1.le (by omega)) (g2.le (by omega))
 rw[E5,E5]at hR;have he:x/y=Rat.divInt (zv a1 a2*zv false b3) (zv false a3*zv b1 b2):=by rw[s5,t5,AlN s3 t3 Be,EP,EP]
 rw[he];generalize w9 (zv b1 b2)=sg at *;refine Ev.x N.V1 rfl rfl ?_;(repeat' ((first|(apply AG<;>intro hc<;>try (exfalso;omega))|apply AE|refine AC (bn) ?_|refine AC (dd) ?_|refine AC (hS _) ?_|refine AC (eb _ _) ?_|refine AC (fm _ _) ?_|refine AC (hR _ _) ?_)<;>conv=>whnf))
 exact AX rfl (by simp only[A0,CE,and_true,true_and];exact ⟨CQ _,CQ _⟩)
end Go.e8

namespace Go.e8
abbrev eO:Option Rat->List AV
 | none=>[.bool false,.nil,.nil]
 | some x=>eQ x
def EM (l:List Rat) (m:Nat):List (Option Rat):=l.map some++List.replicate (m-l.length) none
theorem YM (m:Nat):EM [] m=List.replicate m none:=by simp [EM]
theorem XT {l:List Rat} {m:Nat} (h:l.length<=m):(EM l m).length=m:=by simp [EM];omega
theorem YN {l:List Rat} {m:Nat} {x:Rat} (h:l.length<m):(EM l m).set l.length (some x)=EM (l++[x]) m:=by
 unfold EM;have e:m-l.length=(m-(l++[x]).length)+1:=by simp;omega
 rw[e,List.replicate_succ,List.set_append_right _ _ (by simp)];simp
theorem YL {l:List Rat} {m:Nat} (h:l.length=m):(EM l m).map eO=l.map eQ:=by
 unfold EM;rw[h,Nat.sub_self];simp [Function.comp_def]
abbrev eS (S:GJ):List AV:=[.sl false (S.a.map λ r=>[AV.sl false (r.map eQ)]),.sl false (S.b.map eQ),.sl false (S.c.map eQ)]++eQ S.d
theorem IE (l:List Rat):FH (l.map eQ):=aM (λ x=>by simp only[CE,A0,and_true,true_and];exact ⟨CQ _,CQ _⟩) l
theorem eG {l:List Rat} {i:Nat} {x:Rat} (h:l[i]? = some x):l.take (i+1)=l.take i++[x]:=by
 rw[List.take_add_one,h];rfl
theorem Agj (S:GJ):A0 (.agg (eS S)):=by
 have h:FH (S.a.map λ r=>[AV.sl false (r.map eQ)]):=aM (λ r=>by simp only[CE,A0,and_true,true_and];exact IE r) S.a;simp only[A0,List.cons_append,List.nil_append,CE,and_true,true_and];exact ⟨h,IE _,IE _,CQ _,CQ _⟩
end Go.e8

namespace Go.e8
open F
attribute [local irreducible] AA AF AP AD CB AU AW BA A6 B2 AM BO B8 C8 BN A3 BX B9 AB A8 AJ pw BK BI CJ CK CU CR CI BT CT
variable {L:Lib}
set_option maxHeartbeats 8000000
theorem Qi (N:u9 L) {x:Rat} {k:Nat} (hx:Bt k x) (hk:k<2199023255552) : ∃ s:Int,Ev L 155 [.agg (eQ x)] (.int .i64 s)/\(s=0↔x=0):=by
 have hm:=hx.lf hk;obtain ⟨n',m',d',hp,s1,s2,s3,s4⟩:=XQ N.toc4 (decide (x.num<0)) false (dg x.num.natAbs) (dg x.den) 274877906943 (by omega) (hm.1.le (by omega)) (hm.2.le (by omega));have hS:=λ q=>gH N.toc4 n' q m' (s1.le (by omega))
 rw[EN]at s4;have hz:w9 (zv n' m')=0↔x=0:=by
  rw[s4,Rat.mkRat_eq_zero s3];unfold w9;split<;>(try split)<;>omega
 generalize w9 (zv n' m')=s at *;refine ⟨s,?_,hz⟩;refine Ev.x N.V7 rfl rfl ?_;(repeat' ((first|apply AE|refine AC (hp) ?_|refine AC (hS _) ?_)<;>conv=>whnf))
 exact CX rfl
def D7 (l:List Rat):Nat->Nat
 | 0=>0
 | n+1=>if l.getD n 0=0 then D7 l n else n+1
theorem aO (l:List Rat) : ∀ n,D7 l n<=n
 | 0=>Nat.le_refl _
 | n+1=>by rw[D7];split;exact Nat.le_succ_of_le (aO l n);exact Nat.le_refl _
def C7 (l:List Rat):List Rat:=l.take (D7 l l.length)
theorem zG (l:List Rat) (k:Nat) : ∀ n,n<=k->D7 (l.take k) n=D7 l n
 | 0,_=>rfl
 | n+1,h=>by
  rw[D7,D7,zG l k n (by omega),List.getD_eq_getElem?_getD,List.getD_eq_getElem?_getD,List.getElem?_take_of_lt (by omega)]
theorem zF (l:List Rat) : ∀ n,D7 l (D7 l n)=D7 l n
 | 0=>rfl
 | n+1=>by
  rw[D7];split
  ·exact zF l n
  ·next h=>rw[D7,if_neg h]
theorem jI (l:List Rat):(C7 l).length=D7 l l.length:=by rw[C7,List.length_take];exact Nat.min_eq_left (aO _ _)
theorem nY (l:List Rat):C7 (C7 l)=C7 l:=by
 have h:=jI l;have h2:D7 (C7 l) (C7 l).length=(C7 l).length:=by
  rw[h,C7,zG _ _ _ (Nat.le_refl _),zF]
 rw[C7,h2,List.take_length]
theorem Any {l:List Rat} {i:Nat} {x:Rat} (h:l[i]? = some x):l.take (i+1)=l.take i++[x]:=by
 rw[List.take_add_one,h];rfl
end Go.e8

namespace Go.e8
open F
theorem Aiz {L:Lib} {f:Nat} {fn:AFn} {vs:List AV} {own n0:AH} {r:AV} (hL:L f=some fn) (Hx:IU fn.body=true) (h:GR L f vs own r n0):n0=own:=by
 obtain ⟨n,h⟩:=h;cases n with
 | zero=>simp [DQ]at h
 | succ n =>
  rw[gE]at h;simp only[hL]at h;split at h
  ·split at h
   ·rename_i st l9
    split at h
    ·simp only[Option.some.injEq,Prod.mk.injEq]at h
     rw[<-h.2];exact JV n (by simp [YO,Hx]) l9
    ·cases h
   ·cases h
  ·cases h
attribute [local irreducible] AA AF AP AD CB AU AW BA A6 B2 AM BO B8 C8 BN A3 BX B9 AB A8 AJ pw BK BI CJ CK CU CR CI BT CT
set_option maxHeartbeats 1000000
variable {L:Lib}
theorem AgQ (N:j4 L) (l:List Nat) (s:Nat) (hD:A1 l) (hl:l.length<=1099511627776):A8 L 65 [.row 5 0 1 0 l.length] [(0,.row 5 0 1 0 l.length)] [(5,s,.rw 1 (l.map AL))] (λ r _=>r = .row 5 0 1 0 (dg (val l)).length):=by
 have hlen : ∀ n,n<=l.length->l.take n=dg (val l)->n=(dg (val l)).length:=λ n h1 h2=>by
  rw[<-h2,List.length_take];omega
 refine GF 1000 N.FQ rfl rfl ?_;(repeat' (apply AE<;>conv=>whnf))
 refine BQ (λ n=>n) (λ(n:Nat)=>n<=l.length /\ ∀ i,n<=i->i<l.length->l[i]? = some 0) (λ n=>[(3,.int .i64 n)]) (λ_=>[]) [] [] l.length (by (conv=>whnf);exact ⟨rfl,rfl,rfl⟩) ⟨Nat.le_refl _,λ i h1 h2=>by omega⟩ ?_;intro n ⟨p1,p2⟩ ih;rcases n with _|n
 ·(repeat' ((first|(apply AG<;>intro hc<;>try (exfalso;omega))|apply AE)<;>conv=>whnf))
  refine HM 0 (by omega) (by omega) ?_;(conv=>whnf)
  refine ⟨rfl,_,rfl,?_⟩;rw[<-hlen 0 p1 (GK hD p1 p2 (Or.inl rfl))];rfl
 ·have e1:((n+1:Nat):Int)-1=n:=by omega
  (repeat' ((first|(apply AG<;>intro hc<;>try (exfalso;omega))|(apply AZ;omega)|(apply B3;omega)|(refine aF (by assumption) ?_ (λ v hv hb => ?_);omega)|apply AE)<;>conv=>whnf))
  ·rw[e1]
   exact BF [] (ih n (by omega) ⟨by omega,λ i h1 h2=>by
    by_cases h:i=n
    ·subst h
     rw[e1,Int.toNat_natCast]at hv;rw[hv];congr 1;omega
    ·exact p2 i (by omega) h2⟩)
  ·refine HM (n+1) (by omega) (by omega) ?_
   (conv=>whnf)
   refine ⟨rfl,_,rfl,?_⟩;rw[e1,Int.toNat_natCast]at hv;rw[<-hlen (n+1) p1 (GK hD p1 p2 (Or.inr ⟨_,hv,by omega⟩))];rfl
theorem AgP (N:j4 L) (l:List Nat) (s t:Nat) (own:AH) (hD:A1 l) (hl:l.length<=1099511627776) (hb:(own s).j5 t=some ⟨1,l.map AL⟩) (ht:t<(own s).k6) (qk:EY s=true):GR L 65 [.row s t 1 0 l.length] own (.row s t 1 0 (dg (val l)).length) own:=by
 have hs:OU (λ_ _=>(s,t)) own [(5,s,.rw 1 (l.map AL))]:=by
  have key : ∀ k u c,c7 [(5,s,A5.rw 1 (l.map AL))] k u=some c->k=5/\u=0/\c = .rw 1 (l.map AL):=λ k u c e=>by
   simp only[c7,g9]at e;cases hk:Nat.beq k 5<;>simp only[hk,cond_true,cond_false]at e
   ·cases e
   ·cases u with
    | zero=>simp only[Option.some.injEq]at e;exact ⟨Nat.eq_of_beq_eq_true hk,rfl,e.symm⟩
    | succ u=>cases e
  refine ⟨λ k s' c e => ?_,λ k u c e => ?_,λ k u c e=>ht,λ k u k' u' c c' e e' _ => ?_,λ_ _ _ _ _=>qk⟩
  ·simp only[g9]at e
   cases hk:Nat.beq k 5<;>simp only[hk,cond_true,cond_false]at e
   ·cases e
   ·simp only[Option.some.injEq,Prod.mk.injEq]at e;exact e.1
  ·obtain ⟨_,_,rfl⟩:=key k u c e
   exact hb
  ·obtain ⟨rfl,rfl,_⟩:=key k u c e
   obtain ⟨rfl,rfl,_⟩:=key k' u' c' e';exact ⟨rfl,rfl⟩
 have hw:=AgQ N l s hD hl;unfold A8 at hw;obtain ⟨r,n0,σ',M',h1,h2,h3,rfl⟩:=hw _ own hs;have ho:=Aiz N.FQ (by decide +kernel) h1;subst ho;have h4:AV.row (σ' 5 0).1 (σ' 5 0).2 1 0 l.length=AV.row s t 1 0 l.length:=h3 0;simp only[AV.row.injEq]at h4;have h5:GR L 65 [.row s t 1 0 l.length] n0 (.row (σ' 5 0).1 (σ' 5 0).2 1 0 (dg (val l)).length) n0:=h1;rw[h4.1,h4.2.1]at h5;exact h5
theorem jN (N:j4 L) {l:List Nat} {tm:Tm} {M:Mem} {K:AV->Mem->Prop} {key s len:Nat} (hD:A1 l) (hl:l.length<=1099511627776) (hm:g9 M key=some (s,.rw 1 (l.map AL))) (hlen:len=l.length) (hk:K (.row key 0 1 0 (dg (val l)).length) M):A8 L 65 [.row key 0 1 0 len] tm M K:=by
 subst hlen;unfold A8;intro σ own hs;have gp:=hs.site _ _ _ hm;have Hu:c7 M key 0=some (.rw 1 (l.map AL)):=by simp only[c7,hm]
 have hb:=hs.j5 _ _ _ Hu;have ht:=hs.old _ _ _ Hu;refine ⟨.row key 0 1 0 (dg (val l)).length,own,σ,M,?_,hs,λ_=>rfl,hk⟩;exact AgP N l (σ key 0).1 (σ key 0).2 own hD hl hb ht (hs.low _ _ _ (DZ hm) rfl)
end Go.e8

namespace Go.e8
open F
attribute [local irreducible] AA AF AP AD CB AU AW BA A6 B2 AM BO B8 C8 BN A3 BX B9 AB A8 AJ pw BK BI CJ CK CU CR CI BT CT
set_option maxHeartbeats 4000000
variable {L:Lib}
abbrev qO (v:List Nat) (j m s xl:Nat):Tm:=[(102,AV.sl false (List.map AL v)),(101,AV.row 71012 0 1 j (v.length+1)),
           (100,AV.int IntKind.i64 (↑j + ↑v.length+1)),(99,AV.int IntKind.i64 (↑j + ↑v.length)),
           (98,AV.int IntKind.i64 ↑v.length),(97,AV.int IntKind.i64 ↑j),(96,AV.int IntKind.i64 ↑j),
           (95,AV.row 71012 0 1 0 (xl+1)),(94,AV.int IntKind.i64 ↑j),(93,AV.row 28 0 1 0 m),
           (90,AV.bool true),(14,AV.int IntKind.i64 ↑j),(13,AV.sl false (List.map AL v)),
           (12,AV.row 71012 0 1 0 (xl+1)),(11,AV.int IntKind.u64 ↑s),(7,AV.row 28 0 1 0 m),
           (6,AV.int IntKind.i64 ↑v.length)]
abbrev Ail:List It:=[It.lp FZ.l2,It.j5 2,It.code
      (((BH.ops FZ.eg false).dr [9,10,84,85,86,87,118,119,120,121,122,123,124,125,126]
         []).seq
       (((BH.ops FZ.fw false).dr [127,128,129,130,131] []).seq
        ((((BH.ops FZ.iq false).dr [15,132,133] []).seq
           (BH.cond 134
            (((BH.ops FZ.lu false).dr [0,1,5,7,134,135,136] []).seq BH.ret)
            BH.skip)).seq
         (((BH.ops FZ.nf false).dr [134] []).seq
          ((((BH.ops FZ.oh false).dr [1] []).seq (BH.block 4 FZ.l3.loop)).seq
           (((BH.ops FZ.Ar false).dr
              [0,5,9,137,138,139,140,162,163,164,165,166,167,168,169] []).seq
            (((BH.ops FZ.Cb false).dr [7,170,171,172] []).seq BH.ret)))))))]
section
variable {A W C w v:List Nat} {j m s xl q:Nat} {K:AV->Mem->Prop}
theorem qH (hA:A.length=j) (hW:W.length=v.length+1) (D2:A1 W) (gi:A1 v) (jc:2<=v.length) (xx:v.length<=549755813888) (bu:0<val v)
  (r1:q<4294967296) (r2:val W/val v<=q) (r3:q<=val W/val v+1)
  (hk : ∀ (W':List Nat) (o':List (List AV)) (q':Nat),W'.length=v.length+1->A1 W'->val W'=val W%val v->q'=val W/val v->K (.int .u32 (q':Int)) [(71012,71012,.rw 1 ((A++W'++C).map AL)),(28,28,.rw 1 (w.map AL)),(71012,71012,.rw 1 o')])
  (ln : ∀ (W':List Nat) (o':List (List AV)) (q':Nat),W'.length=v.length+1->A1 W'->val W'=val W%val v->q'=val W/val v->K (.int .u32 (q':Int)) [(71012,71012,.rw 1 ((A++W'++C).map AL)),(71012,71012,.rw 1 o'),(28,28,.rw 1 (w.map AL))]) :
  AA L Ail ([(86,.int .i64 0),(85,.int .i64 v.length),(84,.sl false (v.map AL)),(10,.int .u64 0),(9,.int .u64 0),(7,.int .u64 (q:Int)),(5,.int .i64 v.length),(0,AV.row 71012 0 1 j (v.length+1)),(1,AV.sl false (List.map AL v))]++GP 1000 (qO v j m s xl))
   [(71012,71012,A5.rw 1 (List.map AL (A++W++C))),(28,28,A5.rw 1 (List.map AL w))] (wX 1000 FZ (qO v j m s xl) K):=by
 refine oG (λ i _ _ _=>v.length-i) (λ(i:Nat) (Z:List Nat) (c b:Nat)=>i<=v.length/\Z.length=v.length+1/\A1 Z/\c<4294967296/\b<=1/\Z.drop i=W.drop i/\val (Z.take i)+q*val (v.take i)=val (W.take i)+4294967296^i*(c+b)) (λ i Z c b=>[(86,.int .i64 i),(10,.int .u64 (b:Int)),(9,.int .u64 (c:Int))]) (λ i Z c b=>[(71012,71012,.rw 1 ((A++Z++C).map AL))]) [] [] 0 W 0 0 (by (conv=>whnf);exact ⟨rfl,rfl,rfl⟩) ⟨by omega,hW,D2,by omega,by omega,rfl,by simp [val]⟩ ?_;intro i Z c b ⟨p1,p2,p3,p4,p5,p6,p7⟩ ih;by_cases hi:i<v.length
 ·obtain ⟨d,hd⟩ : ∃ d,v[i]? = some d:=⟨_,zE hi⟩
  obtain ⟨u,hu⟩ : ∃ u,Z[i]? = some u:=⟨_,zE (by omega)⟩;have dz:=gi.at hd;have pf:=p3.at hu;obtain ⟨pr,vm⟩ : ∃ pr,pr=q*d+c:=⟨_,rfl⟩;obtain ⟨m1,m2,m3⟩:=Acc r1 dz p4 vm;have zp:W[i]? = some u:=by
   have e1:(Z.drop i)[0]? = (W.drop i)[0]? := by rw[p6]
   simpa [hu] using e1.symm
  (repeat' ((first|(apply AG<;>intro hc<;>try (exfalso;omega))|(apply AZ;omega)|(apply GA;omega)|(apply X8;omega)|apply FJ|(apply CP;omega)|(refine A9 (by assumption) ?_ rfl ?_;omega)|apply AE)<;>conv=>whnf))
  rw[<-vm];refine ZB i hu (by omega) ?_;(conv=>whnf)
  (repeat' ((first|(apply AZ;omega)|(apply jY;omega)|(apply CP;omega)|apply FR)<;>conv=>whnf))
  obtain ⟨s1,s2⟩:=nV pf (show pr%4294967296<4294967296 by omega) p5;have l9:=AlR p7 vm rfl pf p5;generalize EO (EO u (pr%4294967296)) b=t at *;refine XB i (by omega) (by omega) ?_;(conv=>whnf)
  (repeat' ((first|(apply AY;omega)|apply jX)<;>conv=>whnf))
  refine B1 [] (by (conv=>whnf);exact ⟨rfl,rfl,rfl⟩) (ih (i+1) _ _ _ (by omega) ⟨by omega,by simpa using p2,p3.set _ (by omega),m1,s2,?_,?_⟩)
  ·rw[List.drop_set_of_lt (by omega)]
   have e1:(Z.drop i).drop 1=(W.drop i).drop 1:=by rw[p6]
   simpa using e1
  ·rw[F7 (by omega),EC hd,EC zp,Nat.pow_succ]
   exact l9
 ·obtain rfl:i=v.length:=by omega
  clear ih;obtain ⟨u,hu⟩ : ∃ u,Z[v.length]? = some u:=⟨_,zE (by omega)⟩;have pf:=p3.at hu;have zp:W[v.length]? = some u:=by
   have e1:(Z.drop v.length)[0]? = (W.drop v.length)[0]? := by rw[p6]
   simpa [hu] using e1.symm
  rw[DD (Nat.le_refl v.length)]at p7;obtain ⟨s1,s2⟩:=nV pf p4 p5;have l9:=AlP p7 rfl pf p4 p5;have eW:val W=val (W.take v.length)+4294967296^v.length*u:=by
   rw[<-EC zp,DD (by omega)]
  rw[<-eW,<-F7 (show v.length<Z.length by omega),DD (by simp;omega)]at l9;(repeat' ((first|(apply AG<;>intro hc<;>try (exfalso;omega))|(apply AZ;omega)|apply AE)<;>conv=>whnf))
  refine ZB v.length hu (by omega) ?_;(conv=>whnf)
  (repeat' ((first|(apply AZ;omega)|(apply jY;omega)|(apply CP;omega)|apply FR)<;>conv=>whnf))
  generalize EO (EO u c) b=t at *;refine XB v.length (by omega) (by omega) ?_;(conv=>whnf)
  (repeat' ((first|(apply AG<;>intro hc<;>try (exfalso;omega))|apply jX|(apply EJ;omega)|apply AR)<;>conv=>whnf))
  ·have yw:t/9223372036854775808=0:=by omega
   rw[yw,Nat.mul_zero,Nat.add_zero]at l9;obtain ⟨y1,y2⟩:=zY bu r2 l9;exact ⟨rfl,_,rfl,hk _ _ _ (by simpa using p2) (p3.set _ (by omega)) y2 y1⟩
  ·have Ka:t/9223372036854775808=1:=by omega
   rw[Ka,Nat.mul_one]at l9;have Gg:A1 (Z.set v.length (t%4294967296)):=p3.set _ (by omega);have yo:(Z.set v.length (t%4294967296)).length=v.length+1:=by simpa using p2
   clear p7 p6 p4 p5 s1 s2 eW Ka hu zp pf p1 p2 p3;generalize Z.set v.length (t%4294967296)=X at *;have Eo:=E3 Gg;rw[yo,Nat.pow_succ]at Eo;obtain ⟨y1,y2,y3⟩:=zX bu r3 Eo l9;have hRV:val W%val v<val v:=Nat.mod_lt _ bu;have Cs:=E3 gi;obtain ⟨xw,Ec⟩ : ∃ xw,X[v.length]? = some xw:=⟨_,zE (by omega)⟩;have eX:val X=val (X.take v.length)+4294967296^v.length*xw:=by
    rw[<-EC Ec,DD (by omega)]
   refine GQ (λ i _ _=>v.length-i) (λ(i:Nat) (Z:List Nat) (c:Nat)=>i<=v.length/\Z.length=v.length+1/\A1 Z/\c<=1/\Z.drop i=X.drop i/\val (Z.take i)+4294967296^i*c=val (X.take i)+val (v.take i)) (λ i Z c=>[(139,.int .i64 i),(9,.int .u64 (c:Int))]) (λ i Z c=>[(71012,71012,.rw 1 ((A++Z++C).map AL))]) [] [] 0 X 0 (by (conv=>whnf);exact ⟨rfl,rfl,rfl⟩) ⟨by omega,yo,Gg,by omega,rfl,by simp [val]⟩ ?_;intro i Z c ⟨p1,p2,p3,p4,p6,p7⟩ ih;by_cases hi:i<v.length
   ·obtain ⟨d,hd⟩ : ∃ d,v[i]? = some d:=⟨_,zE hi⟩
    obtain ⟨u,hu⟩ : ∃ u,Z[i]? = some u:=⟨_,zE (by omega)⟩;have dz:=gi.at hd;have pf:=p3.at hu;have oc:X[i]? = some u:=by
     have e1:(Z.drop i)[0]? = (X.drop i)[0]? := by rw[p6]
     simpa [hu] using e1.symm
    have kj:=xF (d:=d) (w:=u) p7 rfl;(repeat' ((first|(apply AG<;>intro hc<;>try (exfalso;omega))|(apply AZ;omega)|(refine A9 (by assumption) ?_ rfl ?_;omega)|apply AE)<;>conv=>whnf))
    refine ZB i hu (by omega) ?_;(conv=>whnf)
    (repeat' ((first|(apply AZ;omega)|(apply GA;omega)|(apply CP;omega)|apply FR)<;>conv=>whnf))
    generalize Pc:u+d+c=t2 at *;refine XB i (by omega) (by omega) ?_;(conv=>whnf)
    (repeat' ((first|(apply AY;omega)|apply FJ)<;>conv=>whnf))
    refine B1 [] (by (conv=>whnf);exact ⟨rfl,rfl,rfl⟩) (ih (i+1) _ _ (by omega) ⟨by omega,by simpa using p2,p3.set _ (by omega),by omega,?_,?_⟩)
    ·rw[List.drop_set_of_lt (by omega)]
     have e1:(Z.drop i).drop 1=(X.drop i).drop 1:=by rw[p6]
     simpa using e1
    ·rw[F7 (by omega),EC hd,EC oc,Nat.pow_succ]
     exact kj
   ·obtain rfl:i=v.length:=by omega
    clear ih;obtain ⟨u,hu⟩ : ∃ u,Z[v.length]? = some u:=⟨_,zE (by omega)⟩;have pf:=p3.at hu;have oc:X[v.length]? = some u:=by
     have e1:(Z.drop v.length)[0]? = (X.drop v.length)[0]? := by rw[p6]
     simpa [hu] using e1.symm
    rw[oc]at Ec;obtain rfl:u=xw:=by simpa using Ec
    rw[DD (Nat.le_refl v.length)]at p7;have Gi:=E3 (p3.take v.length);rw[List.length_take,Nat.min_eq_left (by omega)]at Gi;rw[eX]at y3;have iw:=xD p7 y3 (by omega) Gi;rw[<-F7 (show v.length<Z.length by omega),DD (by simp;omega)]at iw;(repeat' ((first|(apply AG<;>intro hc<;>try (exfalso;omega))|(apply AZ;omega)|apply AE)<;>conv=>whnf))
    refine ZB v.length hu (by omega) ?_;(conv=>whnf)
    (repeat' ((first|(apply AZ;omega)|apply wP|(apply EJ;omega))<;>conv=>whnf))
    refine XB v.length (by omega) (by omega) ?_;(conv=>whnf)
    (repeat' ((first|(apply JY;omega;omega)|(apply EJ;omega))<;>conv=>whnf))
    exact ⟨rfl,_,rfl,ln _ _ _ (by simpa using p2) (p3.set _ (by omega)) iw y1⟩
theorem Ag7 (N:j4 L) (hA:A.length=j) (hW:W.length=v.length+1) (D2:A1 W) (gi:A1 v) (jc:2<=v.length) (xx:v.length<=549755813888) (bu:0<val v)
  (n2:4294967296^(v.length-1)*2147483648<=val v) (g2:val W<4294967296*val v)
  (hk : ∀ (W':List Nat) (o':List (List AV)) (q':Nat),W'.length=v.length+1->A1 W'->val W'=val W%val v->q'=val W/val v->K (.int .u32 (q':Int)) [(71012,71012,.rw 1 ((A++W'++C).map AL)),(28,28,.rw 1 (w.map AL)),(71012,71012,.rw 1 o')])
  (ln : ∀ (W':List Nat) (o':List (List AV)) (q':Nat),W'.length=v.length+1->A1 W'->val W'=val W%val v->q'=val W/val v->K (.int .u32 (q':Int)) [(71012,71012,.rw 1 ((A++W'++C).map AL)),(71012,71012,.rw 1 o'),(28,28,.rw 1 (w.map AL))]) :
  A8 L 73 [AV.row 71012 0 1 j (v.length+1),AV.sl false (List.map AL v)] (qO v j m s xl) [(71012,71012,A5.rw 1 (List.map AL (A++W++C))),(28,28,A5.rw 1 (List.map AL w))] K:=by
 obtain ⟨UL,a1,a2⟩:=oE D2 (n:=v.length+1) (by omega) (by omega);obtain ⟨VL,b5,b6⟩:=Xw gi (n:=v.length) jc (by omega);obtain ⟨u0,w0⟩ : ∃ d,W[v.length]? = some d:=⟨_,zE (by omega)⟩;obtain ⟨u1,w1⟩ : ∃ d,W[v.length-1]? = some d:=⟨_,zE (by omega)⟩;obtain ⟨u2,w2⟩ : ∃ d,W[v.length-2]? = some d:=⟨_,zE (by omega)⟩;obtain ⟨f1,x1⟩ : ∃ d,v[v.length-1]? = some d:=⟨_,zE (by omega)⟩;obtain ⟨f2,x2⟩ : ∃ d,v[v.length-2]? = some d:=⟨_,zE (by omega)⟩;rw[show v.length+1-3=v.length-2 by omega,show v.length+1-2=v.length-1 by omega,show v.length+1-1=v.length by omega,GW w0,GW w1,GW w2]at a2;rw[show v.length+1-3=v.length-2 by omega]at a1;rw[GW x1,GW x2]at b6;have wx:=Yl gi (k:=v.length-1) (by omega) n2 x1;have k0:=D2.at w0;have k1:=D2.at w1;have k2:=D2.at w2;have k3:=gi.at x1;have k4:=gi.at x2;have z1:v[((v.length:Int)-1).toNat]? = some f1:=by rw[show ((v.length:Int)-1).toNat=v.length-1 by omega];exact x1
 have z2:v[((v.length:Int)-2).toNat]? = some f2:=by rw[show ((v.length:Int)-2).toNat=v.length-2 by omega];exact x2
 refine GF 1000 N.FZ rfl rfl ?_;(repeat' ((first|(apply AZ;omega)|apply AR|apply AE)<;>conv=>whnf))
 refine ZB v.length w0 (by omega) ?_;(conv=>whnf)
 (repeat' ((first|(apply AZ;omega)|(apply B3;omega)|(apply XA;omega)|(apply CP;omega))<;>conv=>whnf))
 refine ZB (v.length-1) w1 (by omega) ?_;(conv=>whnf)
 refine wJ (by omega) ?_;(conv=>whnf)
 refine X9 (by omega) ?_;(conv=>whnf)
 generalize Pg:u0*4294967296+u1=top at *;have yx:top<=18446744073709551615:=by omega
 have hU:val W=UL+4294967296^(v.length-2)*(u2+4294967296*top):=by rw[a2,show u1+4294967296*u0=top by omega]
 (repeat' ((first|(apply B3;omega)|(apply fG;omega)|(apply jW;omega;omega)|(apply CP;omega)|(refine A9 (by assumption) ?_ rfl ?_;omega))<;>conv=>whnf))
 refine F8 (λ q _=>q) (λ(q r:Nat)=>Gs (val W) (val v) f1 f2 u2 top q r) (λ q r=>[(7,.int .u64 (q:Int)),(8,.int .u64 (r:Int))]) (λ_ _=>[]) [] [] (top/f1) (top%f1) (by (conv=>whnf);exact ⟨rfl,rfl,rfl⟩) (Gs.start hU b6 a1 k2 bu (by omega) k3) ?_;intro q r g qo;have hqt:q<=top:=by
  have h3:=g.hq;have h4:q*1<=q*f1:=Nat.mul_le_mul_left q (by omega);omega
 have hr:=g.hr;have me:=g.ge;by_cases hb:4294967296<=q
 ·obtain ⟨y1,y2,y3⟩:=g.next hU b6 a1 bu g2 (Or.inl hb)
  (repeat' ((first|(apply AG<;>intro hc<;>try (exfalso;omega))|(apply B3;omega)|(apply GA;omega)|(apply JY;omega;omega)|(apply CP;omega)|apply AR|(refine A9 (by assumption) ?_ rfl ?_;omega)|apply AE)<;>conv=>whnf))
  ·obtain ⟨t1,t2⟩:=dL hU b6 b5 wx k4 g2 y2 (Or.inr (by omega))
   exact B1 [] (by (conv=>whnf);exact ⟨rfl,rfl,rfl⟩) (qH (w:=w) (C:=C) hA hW D2 gi jc xx bu t1 y3 t2 hk ln)
  ·exact B1 [] (by (conv=>whnf);exact ⟨rfl,rfl,rfl⟩) (qo (q-1) (r+f1) (by omega) ⟨y2,by omega,y3⟩)
 ·have hmq:=dT (show q<4294967296 by omega) k4
  by_cases x8:r*4294967296+u2<q*f2
  ·obtain ⟨y1,y2,y3⟩:=g.next hU b6 a1 bu g2 (Or.inr x8)
   (repeat' ((first|(apply AG<;>intro hc<;>try (exfalso;omega))|(apply AZ;omega)|(apply B3;omega)|(apply X8;omega)|(apply XA;omega)|(apply CP;omega)|(refine A9 (by assumption) ?_ rfl ?_;omega)|apply AE)<;>conv=>whnf))
   refine ZB (v.length-2) w2 (by omega) ?_;(conv=>whnf)
   (repeat' ((first|(apply AG<;>intro hc<;>try (exfalso;omega))|(apply B3;omega)|(apply GA;omega)|(apply X9;omega)|(apply JY;omega;omega)|(apply CP;omega)|apply AR|(refine A9 (by assumption) ?_ rfl ?_;omega))<;>conv=>whnf))
   ·obtain ⟨t1,t2⟩:=dL hU b6 b5 wx k4 g2 y2 (Or.inr (by omega))
    exact B1 [] (by (conv=>whnf);exact ⟨rfl,rfl,rfl⟩) (qH (w:=w) (C:=C) hA hW D2 gi jc xx bu t1 y3 t2 hk ln)
   ·exact B1 [] (by (conv=>whnf);exact ⟨rfl,rfl,rfl⟩) (qo (q-1) (r+f1) (by omega) ⟨y2,by omega,y3⟩)
  ·obtain ⟨t1,t2⟩:=dL hU b6 b5 wx k4 g2 g.hq (Or.inl ⟨by omega,by omega⟩)
   (repeat' ((first|(apply AG<;>intro hc<;>try (exfalso;omega))|(apply AZ;omega)|(apply B3;omega)|(apply X8;omega)|(apply XA;omega)|(apply CP;omega)|(refine A9 (by assumption) ?_ rfl ?_;omega)|apply AE)<;>conv=>whnf))
   refine ZB (v.length-2) w2 (by omega) ?_;(conv=>whnf)
   (repeat' ((first|(apply AG<;>intro hc<;>try (exfalso;omega))|(apply X9;omega)|(apply CP;omega)|apply AR)<;>conv=>whnf))
   exact B1 [] (by (conv=>whnf);exact ⟨rfl,rfl,rfl⟩) (qH (w:=w) (C:=C) hA hW D2 gi jc xx bu t1 me t2 hk ln)
end
end Go.e8

namespace Go.e8
open F
attribute [local irreducible] AA AF AP AD CB AU AW BA A6 B2 AM BO B8 C8 BN A3 BX B9 AB A8 AJ pw BK BI CJ CK CU CR CI BT CT
variable {L:Lib}
set_option maxHeartbeats 4000000
theorem Anc {V R y d t Q:Nat} (h:Q*y+R=V) (ht:t=R*4294967296+d):(t/y+4294967296*Q)*y+t%y=d+4294967296*V:=by
 have:=Nat.div_add_mod t y
 rw[<-h,Nat.add_mul];have e:t/y*y=y*(t/y):=Nat.mul_comm _ _;grind
theorem fU (a b:List Nat):A0 (.j9 [.sl false (a.map AL),.sl false (b.map AL)]):=by
 simp only[A0,CE,and_true,true_and];exact ⟨CQ a,CQ b⟩
set_option maxHeartbeats 4000000 in
theorem rB (N:j4 L) (X Y:Nat) (q1 q2:Bool) (hY:Y≠0) (lx:(dg X).length<=549755813888) (ly:(dg Y).length<=549755813888):Ev L 74 [.sl q1 ((dg X).map AL),.sl q2 ((dg Y).map AL)] (.j9 [.sl false ((dg (X/Y)).map AL),.sl false ((dg (X%Y)).map AL)]):=by
 have m8:=λ q q'=>YI N (dg X) (dg Y) q q' (DW X) (DW Y) (by omega) (by omega)
 rw[BW,BW]at m8;have d1:=DW X;have d2:=DW Y;have v1:=BW X;have v2:=BW Y;have hy1:=gB hY;refine Ev.x N.T9 rfl rfl ?_;by_cases m7:X<Y
 ·have hn:C9 X Y = -1:=(IZ (by omega)).symm
  rw[hn]at m8;(repeat' ((first|(apply AG<;>intro hc<;>try (exfalso;omega))|apply AE|refine AC (m8 _ _) ?_|refine AC (Qr N (dg X) _ (by omega)) ?_)<;>conv=>whnf))
  refine AX ?_ (fU _ _);rw[Nat.div_eq_of_lt m7,Nat.mod_eq_of_lt m7,E2];rfl
 have me:0<=C9 X Y:=by unfold C9;split<;>(try split)<;>omega
 have xd:=ZJ (show Y<=X by omega);generalize C9 X Y=cm at *;by_cases h1:(dg Y).length=1
 ·-- one digit
  obtain ⟨y0,sd⟩ : ∃ y0,dg Y=[y0]:=List.length_eq_one_iff.1 h1;have yz:Y=y0:=by rw[<-v2,sd];simp [val]
  subst yz;have Bw:Y<4294967296:=d2 Y (by rw[sd];simp);have hyg:(dg Y)[0]? = some Y:=by rw[sd];rfl
  clear sd v2;generalize dg Y=y at *;generalize hx:dg X=x at *;(repeat' ((first|(apply AG<;>intro hc<;>try (exfalso;omega))|(apply AY;omega)|(apply B3;omega)|apply AR|apply AE|refine AC (m8 _ _) ?_)<;>conv=>whnf))
  refine EV (enc:=AL) 0 x.length rfl (by omega) (by omega) ?_;(conv=>whnf)
  (repeat' ((first|(apply AG<;>intro hc<;>try (exfalso;omega))|(apply B3;omega)|apply AR)<;>conv=>whnf))
  refine GQ (λ n _ _=>n) (λ(n:Nat) (o:List Nat) (r:Nat)=>n<=x.length/\o.length=x.length/\A1 o/\r<Y/\val (o.drop n)*Y+r=val (x.drop n)) (λ n o r=>[(8,.int .u64 (r:Int)),(9,.int .i64 ((n:Int)-1))]) (λ n o r=>[(28,28,.rw 1 (o.map AL))]) [] [] x.length (List.replicate x.length 0) 0 (by (conv=>whnf);exact ⟨rfl,rfl,rfl⟩) ⟨by omega,by simp,J3 _,by omega,by rw[List.drop_of_length_le (Nat.le_refl _),List.drop_of_length_le (by simp)];simp [val]⟩ ?_;intro n o r ⟨p1,p2,p3,p4,p5⟩ ih;rcases n with _|n
  ·rw[List.drop_zero,List.drop_zero]at p5
   have hq:X/Y=val o/\X%Y=r:=by
    rw[<-v1,<-p5];have e1:(val o*Y+r)/Y=val o:=by
     rw[Nat.mul_comm,Nat.mul_add_div (by omega),Nat.div_eq_of_lt p4,Nat.add_zero]
    have e2:(val o*Y+r)%Y=r:=by
     rw[Nat.mul_comm,Nat.mul_add_mod,Nat.mod_eq_of_lt p4]
    exact ⟨e1,e2⟩
   rw[hq.1,hq.2,<-p2];clear ih hq p5;have mf:=EX p3;have bn:A1 [r]:=HS (by omega);have ja:=EX bn;have Kd:val [r]=r:=by simp [val]
   have hl3:[r].length=1:=rfl;(repeat' ((first|(apply AG<;>intro hc<;>try (exfalso;omega))|(apply EJ;omega)|apply AE|refine jN N (by assumption) (by omega) rfl (by first|rfl|omega|assumption) ?_)<;>conv=>whnf))
   refine H7 (enc:=AL) (λ_=>rfl) (by omega) ?_;(conv=>whnf)
   refine H7 (enc:=AL) (l:=[r]) (λ_=>rfl) (by omega) ?_;(conv=>whnf)
   refine AX ?_ (fU _ _);rw[List.drop_zero,List.drop_zero,jD p3,jD bn,Kd]
  ·have e1:((n+1:Nat):Int)-1=n:=by omega
   rw[e1];obtain ⟨d,hd⟩ : ∃ d,x[n]? = some d:=⟨_,zE (by omega)⟩;have dz:=d1.at hd;have hYb:Y<4294967296:=Bw;have hR:r*4294967296+d<Y*4294967296:=by omega
   have gn:(r*4294967296+d)/Y<4294967296:=(Nat.div_lt_iff_lt_mul (by omega)).2 (by omega);(repeat' ((first|(apply AG<;>intro hc<;>try (exfalso;omega))|(apply AZ;omega)|(apply XA;omega)|(apply X9;omega)|(apply jW;omega;omega)|(apply CP;omega)|(apply EJ;omega)|(refine A9 (by assumption) ?_ rfl ?_;omega)|apply AE)<;>conv=>whnf))
   obtain ⟨t,ht⟩ : ∃ t,t=r*4294967296+d:=⟨_,rfl⟩;rw[<-ht]at hR gn ⊢;have hm:t%Y<Y:=Nat.mod_lt _ (by omega);have l9:=Anc p5 ht;rw[<-HL hd]at l9;clear ht;skip
   refine FB (by omega) ?_;(conv=>whnf)
   (repeat' ((first|(apply B3;omega)|(apply fG;omega)|(apply CP;omega)|(refine A9 (by assumption) ?_ rfl ?_;omega))<;>conv=>whnf))
   generalize t/Y=tq at *;generalize t%Y=tr at *;refine B1 [] (by (conv=>whnf);exact ⟨rfl,rfl,rfl⟩) (ih n _ _ (by omega) ⟨by omega,by simpa using p2,p3.set _ (by omega),hm,?_⟩);rw[HL (l:=o.set n tq) (d:=tq) (by rw[List.getElem?_set_self (by omega)]),List.drop_set_of_lt (by omega)];exact l9
 ·-- two digits or more
  have Ju:2<=(dg Y).length:=by omega
  obtain ⟨yt,Ak,Al⟩:=qG hY;have ya:=d2.at Ak;obtain ⟨b1,b2,b3,b4⟩:=sV Al ya;have Hh:=Qt N yt ya;generalize hs:32-s8 yt=s at *;have ff:s<=31:=by omega
  generalize dg Y=y at *;generalize hx:dg X=x at *;have e1:((y.length:Int)-1).toNat=y.length-1:=by omega
  rw[<-e1]at Ak;obtain ⟨rv,hrv,v,hV,mn,Oi⟩:=Ajc N y q2 s y.length d2 ff (by omega) (by omega);subst Oi;(repeat' ((first|(apply AG<;>intro hc<;>try (exfalso;omega))|(apply AY;omega)|(apply B3;omega)|apply AR|apply AE|refine AC (m8 _ _) ?_)<;>conv=>whnf))
  refine EV (enc:=AL) 0 (x.length-y.length+1) rfl (by omega) (by omega) ?_;(conv=>whnf)
  (repeat' ((first|(apply AG<;>intro hc<;>try (exfalso;omega))|(apply AY;omega)|(apply B3;omega)|(apply CP;omega)|apply AR|(refine A9 (by assumption) ?_ rfl ?_;omega)|refine AC (Hh) ?_)<;>conv=>whnf))
  refine GF 1000 N.LZ rfl rfl ?_;(repeat' (apply AE<;>conv=>whnf))
  refine EV (enc:=AL) 0 (x.length+1) rfl (by omega) (by omega) ?_;(conv=>whnf)
  (repeat' (apply AR<;>conv=>whnf))
  have vn:=iM (s:=s) (by omega);refine GQ (λ i _ _=>x.length-i) (λ(i:Nat) (o:List Nat) (lo:Nat)=>i<=x.length/\o.length=x.length+1/\A1 o/\lo<2^s/\val (o.take i)+4294967296^i*lo=val (x.take i)*2^s) (λ i o lo=>[(8,.int .u32 (lo:Int)),(15,.int .i64 i)]) (λ i o lo=>[(71012,71012,.rw 1 (o.map AL))]) [] [] 0 (List.replicate (x.length+1) 0) 0 (by (conv=>whnf);exact ⟨rfl,rfl,rfl⟩) ⟨by omega,by simp,J3 _,Nat.two_pow_pos s,by simp [val]⟩ ?_;intro i o lo ⟨p1,p2,p3,p4,p5⟩ ih;by_cases hi:i<x.length
  ·obtain ⟨d,hd⟩ : ∃ d,x[i]? = some d:=⟨_,zE hi⟩
   have dz:=d1.at hd;obtain ⟨f1,f2,f3,f4⟩:=bN (s:=s) dz (by omega);(repeat' ((first|(apply AG<;>intro hc<;>try (exfalso;omega))|(refine A9 (by assumption) ?_ rfl ?_;omega)|apply AE)<;>conv=>whnf))
   refine wT (by omega) ?_;(conv=>whnf)
   skip
   refine oO s f1 p4 (by omega) ?_;(conv=>whnf)
   (repeat' ((first|(apply AZ;omega)|fail)<;>conv=>whnf))
   refine FB (by omega) ?_;(conv=>whnf)
   (repeat' ((first|(apply CP;omega)|fail)<;>conv=>whnf))
   refine YB (by omega) f4 ?_;(conv=>whnf)
   (repeat' ((first|(apply AY;omega)|apply FJ|(apply EJ;omega))<;>conv=>whnf))
   rw[<-bM];refine B1 [] (by (conv=>whnf);exact ⟨rfl,rfl,rfl⟩) (ih (i+1) _ _ (by omega) ⟨by omega,by simpa using p2,p3.set _ (by omega),f2,?_⟩);rw[F7 (by omega),EC hd,Nat.pow_succ];exact Tx p5
  obtain rfl:i=x.length:=by omega
  clear ih;(repeat' ((first|(apply AG<;>intro hc<;>try (exfalso;omega))|(apply AZ;omega)|apply AR|apply AE)<;>conv=>whnf))
  refine FB (by omega) ?_;(conv=>whnf)
  skip
  have hU:=Tw p3 (by omega) p2 p5;have Bb:(o.set x.length lo).length=x.length+1:=by simpa using p2
  clear p3 p4 p5 p2;generalize o.set x.length lo=u at *;refine ⟨rfl,_,rfl,?_⟩;(conv=>whnf)
  (repeat' ((first|(apply B3;omega)|apply AR|refine AC (hrv) ?_)<;>conv=>whnf))
  have Pq:y[y.length-1]? = some yt:=by rw[<-e1];exact Ak
  obtain ⟨n1,n2⟩:=sQ d2 Pq (by omega) ff b3 b4;have Jj:val v=Y*2^s:=by rw[<-v2];exact hV.2.2 (by rw[mn];exact n1)
  have Ji:val u=X*2^s:=by
   rw[<-v1];refine hU.2.2 ?_;have h3:=E3 d1;rw[Bb,Nat.pow_succ];exact Nat.lt_of_lt_of_le (Nat.mul_lt_mul_of_pos_right h3 (Nat.two_pow_pos s)) (Nat.mul_le_mul_left _ vn)
  have gi:=hV.1;have Jg:=hU.1;have Ct:=E3 gi;rw[v2,<-Jj]at n2;rw[<-mn]at n2;clear hV hU m8 hrv Hh;have jc:2<=v.length:=by omega
  have hvx:v.length<=x.length:=by omega
  have xx:v.length<=549755813888:=by omega
  have hxL:x.length<=549755813888:=by omega
  have hX:X<4294967296^x.length:=by rw[<-v1];exact E3 d1
  rw[<-mn];generalize hm:x.length-v.length+1=m at *;have bu:0<val v:=by
   have:=Vx (v.length-1)
   omega
  have tl:val (u.drop m)<val v:=by
   have h1:=ON u m (by omega);rw[Ji]at h1;have h2:X*2^s<4294967296^x.length*2147483648:=Nat.lt_of_lt_of_le (Nat.mul_lt_mul_of_pos_right hX (Nat.two_pow_pos s)) (Nat.mul_le_mul_left _ (Nat.pow_le_pow_right (by omega) ff));have h3:4294967296^x.length=4294967296^m*4294967296^(v.length-1):=by rw[<-Nat.pow_add];congr 1;omega
   rw[h3,Nat.mul_assoc]at h2;refine Nat.lt_of_lt_of_le ?_ n2;refine Nat.lt_of_mul_lt_mul_left (a:=4294967296^m) ?_;omega
  have e2:(x.length:Int)-v.length=((m:Nat):Int)-1:=by omega
  rw[e2];refine GQ (λ n _ _=>n) (λ(n:Nat) (o w:List Nat)=>n<=m/\o.length=x.length+1/\A1 o/\w.length=m/\A1 w/\val (o.drop n)<val v/\X*2^s=val (o.take n)+4294967296^n*(val (w.drop n)*val v+val (o.drop n))) (λ n o w=>[(14,.int .i64 ((n:Int)-1))]) (λ n o w=>[(71012,71012,.rw 1 (o.map AL)),(28,28,.rw 1 (w.map AL))]) [] [] m u (List.replicate m 0) (by (conv=>whnf);exact ⟨rfl,rfl,rfl⟩) ⟨by omega,Bb,Jg,by simp,J3 _,tl,by rw[<-Ji,List.drop_of_length_le (show (List.replicate m 0).length<=m by simp),JW,Nat.zero_mul,Nat.zero_add];exact ON u m (by omega)⟩ ?_;intro n o w ⟨p1,p2,p3,p4,p5,p6,p7⟩ ih;rcases n with _|j
  ·clear ih
   rw[List.drop_zero]at p6;rw[List.take_zero,List.drop_zero,List.drop_zero,JW,Nat.zero_add,Nat.pow_zero,Nat.one_mul]at p7;have rj:val o=val (o.take v.length):=by
    have h1:=bT o v.length;rcases Nat.eq_zero_or_pos (val (o.drop v.length)) with h2|h2
    ·rw[h2,Nat.mul_zero,Nat.add_zero]at h1;exact h1
    ·have h3:4294967296^v.length*1<=4294967296^v.length*val (o.drop v.length):=Nat.mul_le_mul_left _ h2
     omega
   have ym:X/Y=val w/\X%Y=val o/2^s:=by
    obtain ⟨z1,z2⟩:=Ro (X:=X) (Y:=Y) (Nat.two_pow_pos s);rw[<-z1,<-z2,<-Jj,p7];have e1:(val w*val v+val o)/val v=val w:=by
     rw[Nat.mul_comm,Nat.mul_add_div bu,Nat.div_eq_of_lt p6,Nat.add_zero]
    have e2:(val w*val v+val o)%val v=val o:=by
     rw[Nat.mul_comm,Nat.mul_add_mod,Nat.mod_eq_of_lt p6]
    rw[e1,e2];exact ⟨rfl,rfl⟩
   rw[ym.1,ym.2];have mf:=EX p5;obtain ⟨ro,Hx,o2,k1,k2,k3,k4⟩:=Ajd N (o.take v.length) true s (p3.take _) ff (by rw[List.length_take];omega);subst k4;rw[rj,<-k3];have ja:=EX k1;rw[List.length_take]at k2;clear p7 ym tl;(repeat' ((first|(apply AG<;>intro hc<;>try (exfalso;omega))|apply AE|refine jN N (by assumption) (by omega) rfl (by first|rfl|omega|assumption) ?_)<;>conv=>whnf))
   refine HM v.length rfl (by omega) ?_;(conv=>whnf)
   refine H7 (enc:=AL) (λ_=>rfl) (by omega) ?_;(conv=>whnf)
   rw[List.drop_zero,Nat.sub_zero];(repeat' ((first|refine AC (Hx) ?_|refine OR (QH N o2 _ k1 (by omega)) ?_)<;>conv=>whnf))
   refine H7 (enc:=AL) (λ_=>rfl) (by omega) ?_;(conv=>whnf)
   refine AX ?_ (fU _ _);rw[List.drop_zero,jD p5]
  ·have e3:((j+1:Nat):Int)-1=j:=by omega
   rw[e3];have e4:(v.length:Int).toNat=v.length:=by omega
   obtain ⟨A,W,C,hA,hW,rfl⟩:=Si o j (v.length+1) (by omega);obtain ⟨g1,g2,g3⟩:=Sk hA hW p3 p6 Ct;obtain ⟨D1,D2,D3⟩:=zW p3;have uo:val W/val v<4294967296:=(Nat.div_lt_iff_lt_mul bu).2 g2;have Ls:val W=val W/val v*val v+val W%val v:=by rw[Nat.mul_comm];exact (Nat.div_add_mod _ _).symm
   have Cu:val W%val v<val v:=Nat.mod_lt _ bu;have Cr:X*2^s=val A+4294967296^j*val W+4294967296^j*4294967296*(val (w.drop (j+1))*val v):=by
    rw[p7,Nat.mul_add,<-g3,Nat.pow_succ];omega
   have tf:=Sj Cr Ls;have rn : ∀ q',q'=val W/val v->val ((w.set j q').drop j)=val W/val v+4294967296*val (w.drop (j+1)):=λ q' h=>by
    rw[HL (l:=w.set j q') (d:=q') (by rw[List.getElem?_set_self (by omega)]),List.drop_set_of_lt (by omega),h]
   have hlen : ∀ W':List Nat,W'.length=v.length+1->(A++W'++C).length=x.length+1:=λ W' h=>by
    rw[<-p2];simp [h,hW]
   (repeat' ((first|(apply AG<;>intro hc<;>try (exfalso;omega))|(apply AY;omega)|(apply AeR;omega)|apply AE)<;>conv=>whnf))
   rw[show ((j:Int)+v.length+1).toNat-(j:Int).toNat=v.length+1 by omega,show 0+(j:Int).toNat=j by omega];refine Ag7 N hA hW D2 gi jc xx bu n2 g2 (λ W' o' q' z1 z2 z3 z4 => ?_) (λ W' o' q' z1 z2 z3 z4 => ?_)
   ·(conv=>whnf)
    (repeat' ((first|(apply AZ;omega)|fail)<;>conv=>whnf))
    refine FB (by omega) ?_;(conv=>whnf)
    (repeat' ((first|(apply B3;omega)|fail)<;>conv=>whnf))
    obtain ⟨t1,t2⟩:=qP (A:=A) (W:=W') (C:=C) (j:=j) hA g1;refine B1 [] (by (conv=>whnf);exact ⟨rfl,rfl,rfl⟩) (ih j (A++W'++C) (w.set j q') (by omega) ⟨by omega,hlen W' z1,(D1.append z2).append D3,by simpa using p4,p5.set _ (by omega),by omega,?_⟩);rw[t1,t2,rn q' z4,z3];exact tf
   ·(conv=>whnf)
    (repeat' ((first|(apply AZ;omega)|fail)<;>conv=>whnf))
    refine FB (by omega) ?_;(conv=>whnf)
    (repeat' ((first|(apply B3;omega)|fail)<;>conv=>whnf))
    obtain ⟨t1,t2⟩:=qP (A:=A) (W:=W') (C:=C) (j:=j) hA g1;refine B1 [] (by (conv=>whnf);exact ⟨rfl,rfl,rfl⟩) (ih j (A++W'++C) (w.set j q') (by omega) ⟨by omega,hlen W' z1,(D1.append z2).append D3,by simpa using p4,p5.set _ (by omega),by omega,?_⟩);rw[t1,t2,rn q' z4,z3];exact tf
end Go.e8
