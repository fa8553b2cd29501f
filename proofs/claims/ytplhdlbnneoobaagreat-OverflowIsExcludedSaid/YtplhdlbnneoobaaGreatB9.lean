/-
  The references of natural numbers (ref01): division.
-/
import Derived.Test.YtplhdlbnneoobaaGreatB8
import Derived.Test.YtplhdlbnneoobaaGreatB7
import Derived.Test.YtplhdlbnneoobaaGreatB2
set_option linter.unusedSimpArgs false
set_option linter.unusedVariables false
set_option linter.unnecessarySimpa false
namespace Go.c6
open F
attribute [local irreducible] AA AF AX AC CN AR BA A6 BV BH CM EI BO AY B0 CJ AB A5 AH pw CQ CE C8 EA DP BT CP BU C7
set_option maxHeartbeats 4000000
variable {L:Lib}
theorem AkK {V R y d t Q:Nat} (h:Q*y+R=V) (ht:t=R*4294967296+d):(t/y+4294967296*Q)*y+t%y=d+4294967296*V:=by
 have:=Nat.div_add_mod t y
 rw[<-h,Nat.add_mul];have e:t/y*y=y*(t/y):=Nat.mul_comm _ _;grind
theorem AgX (N:a9 L) (x:List Nat) (Y:Nat) (q:Bool) (d1:A1 x) (hx:x.length<=549755813888) (h0:Y≠0) (hY:Y<4294967296):Ev L 108 [.sl q (x.map AL),.int .u32 (Y:Int)] (.g8 [.sl false ((dg (val x/Y)).map AL),.int .u32 ((val x%Y:Nat):Int)]):=by
 refine Ev.x N.OX rfl rfl ?_;(repeat' ((first|apply AP|apply AE)<;>conv=>whnf))
 refine D9 (enc:=AL) 0 x.length rfl (by omega) (by omega) ?_;(conv=>whnf)
 (repeat' ((first|(apply BL;omega)|apply AP)<;>conv=>whnf))
 refine G9 (λ n _ _=>n) (λ(n:Nat) (o:List Nat) (r:Nat)=>n<=x.length/\o.length=x.length/\A1 o/\r<Y/\val (o.drop n)*Y+r=val (x.drop n)) (λ n o r=>[(7,.int .u64 (r:Int)),(8,.int .i64 ((n:Int)-1))]) (λ n o r=>[(11,11,.rw 1 (o.map AL))]) x.length (List.replicate x.length 0) 0 ⟨by omega,by simp,KF _,by omega,by rw[List.drop_of_length_le (Nat.le_refl _),List.drop_of_length_le (by simp)];simp [val]⟩ ?_;intro n o r ⟨p1,p2,p3,p4,p5⟩ ih;rcases n with _|n
 ·rw[List.drop_zero,List.drop_zero]at p5
  have hq:val x/Y=val o/\val x%Y=r:=by
   rw[<-p5];have e1:(val o*Y+r)/Y=val o:=by
    rw[Nat.mul_comm,Nat.mul_add_div (by omega),Nat.div_eq_of_lt p4,Nat.add_zero]
   have e2:(val o*Y+r)%Y=r:=by
    rw[Nat.mul_comm,Nat.mul_add_mod,Nat.mod_eq_of_lt p4]
   exact ⟨e1,e2⟩
  have hT:=λ q=>HC N o q p3 (by omega)
  rw[hq.1,hq.2,<-p2];clear ih hq p5;(repeat' ((first|(apply AG<;>intro hc<;>try omega)|(apply E2;omega)|(refine CZ (λ_=>rfl) rfl ?_ ?_;(first|rfl|simp))|apply AE|refine AD (hT _) ?_)<;>conv=>whnf))
  refine AW rfl ?_;simp only[AZ,BS,and_true,true_and];exact C2 _
 ·have e1:((n+1:Nat):Int)-1=n:=by omega
  rw[e1];obtain ⟨d,hd⟩ : ∃ d,x[n]? = some d:=⟨_,zE (by omega)⟩;have y7:=d1.at hd;have hR:r*4294967296+d<Y*4294967296:=by omega
  have rp:(r*4294967296+d)/Y<4294967296:=(Nat.div_lt_iff_lt_mul (by omega)).2 (by omega);(repeat' ((first|(apply AG<;>intro hc<;>try omega)|(apply A2;omega)|(apply QO;omega)|(apply RT;omega)|(apply aL;omega;omega)|(apply B3;omega)|(apply E2;omega)|(refine A9 (by assumption) ?_ rfl ?_;omega)|apply AE)<;>conv=>whnf))
  obtain ⟨t,ht⟩ : ∃ t,t=r*4294967296+d:=⟨_,rfl⟩;rw[<-ht]at hR rp ⊢;have hm:t%Y<Y:=Nat.mod_lt _ (by omega);have k7:=AkK p5 ht;rw[<-II hd]at k7;clear ht;skip
  refine GC (by omega) ?_;(conv=>whnf)
  (repeat' ((first|(apply BL;omega)|(apply XV;omega)|(apply B3;omega))<;>conv=>whnf))
  generalize t/Y=tq at *;generalize t%Y=tr at *;refine BN [] (by (conv=>whnf);exact ⟨rfl,rfl,rfl⟩) (ih n _ _ (by omega) ⟨by omega,by simpa using p2,p3.set _ (by omega),hm,?_⟩);rw[II (l:=o.set n tq) (d:=tq) (by rw[List.getElem?_set_self (by omega)]),List.drop_set_of_lt (by omega)];exact k7
theorem bM (a b:List Nat) (e:Int):AZ (.g8 [.sl false (a.map AL),.sl false (b.map AL),.int .i64 e]):=by
 simp only[AZ,BS,and_true,true_and];exact ⟨C2 a,C2 b⟩
abbrev Ae9:List It:=[It.lp EC.l1,It.e8 0,
   It.code
    (((BG.ops EC.u7 false).dr [0,75,79,80] []).seq
     (((BG.ops EC.w3 false).dr [81,82,83,84,85] []).seq
      ((((BG.ops EC.x5 false).dr [86,87,88,89,90] []).seq
         (BG.block 2 EC.l2.loop)).seq
       (((BG.ops EC.Ma true).dr [9,10,11,12,13,14,92,277,278,279,280,281,282,283,284]
          []).seq
        BG.ret))))]
abbrev bY:List It:=[It.lp EC.l2,It.e8 2,It.code
       (((BG.ops EC.Ma true).dr [9,10,11,12,13,14,92,277,278,279,280,281,282,283,284]
          []).seq
        BG.ret)]
abbrev bZ (v:List Nat) (s ul m:Nat) (j:Int):Tm:=[(14,.int .i64 j),(13,.row 85 0 1 0 m),(12,.int .i64 v.length),(11,.sl false (v.map AL)),(10,.row 69 0 1 0 ul),(9,.int .i64 (s:Int))]
abbrev Ae8:BG:=(((BG.ops EC.Vc false).dr [18,19,20,166,205,206,207] []).seq
                (((BG.ops EC.Vd false).dr [208,209,210,211,212,213,214] []).seq
                 ((BG.ops EC.Ve false).seq
                  ((((BG.ops EC.Vf false).dr [215,216] []).seq
                     (BG.cond 217
                      (((BG.ops EC.Vg false).dr [18,217,218,219] []).seq
                       (BG.ops EC.Vh false))
                      BG.skip)).seq
                   (((BG.ops EC.Vj false).dr
                      [23,24,217,220,221,222,223,224,225,226,227,228] []).seq
                    ((((BG.ops EC.Vk false).dr [18,229] []).seq
                       (BG.cond 230
                        (((BG.ops EC.Vl false).dr [230,231,232] []).seq
                         ((BG.ops EC.Vm false).seq
                          (((BG.ops EC.Vn false).seq
                             (BG.block 8 EC.l5.loop)).seq
                           ((BG.ops EC.Vo false).dr
                            [25,26,235,262,263,264,265,266,267,268,269,270,271]
                            []))))
                        BG.skip)).seq
                     ((BG.ops EC.Vp false).dr [16,230,272,273,274,275,276]
                      [])))))))
abbrev Afa:List It:=It.lp EC.l4::It.e8 6::It.code Ae8::It.e8 3::It.code ((BG.ops EC.z9 false).dr [93,94] [])::bY
section
variable {A W C w y:List Nat} {j m s ul q:Nat} {Q:Tm->Mem->Prop}
theorem VR {e i n:Nat} (hi:i=A.length+n) (he:W[n]? = some e):(A++W++C)[i]? = some e:=by
 rw[Qj hi (zS he).1];exact he
theorem jC (hA:A.length=j) (hW:W.length=y.length+1) (D2:A1 W) (da:A1 y) (ef:2<=y.length) (si:y.length<=549755813888) (z0:0<val y) (di:j<=1099511627776)
  (jj:ul=j+(y.length+1)+C.length) (Gy:w.length=m) (Gi:j<m)
  (r1:q<4294967296) (r2:val W/val y<=q) (r3:q<=val W/val y+1)
  (hk : ∀ (W':List Nat) (q':Nat),W'.length=y.length+1->A1 W'->val W'=val W%val y->q'=val W/val y->AA L bY (bZ y s ul m ((j:Int)-1)) [(69,101021,.rw 1 ((A++W'++C).map AL)),(85,85,.rw 1 ((w.set j q').map AL))] Q) :
  AA L Afa ([(20,.int .i64 0),(19,.int .u64 0),(18,.int .u64 0),(16,.int .u64 (q:Int))]++bZ y s ul m (j:Int)) [(69,101021,.rw 1 ((A++W++C).map AL)),(85,85,.rw 1 (w.map AL))] Q:=by
 refine gD (λ i _ _ _=>y.length-i) (λ(i:Nat) (Z:List Nat) (c b:Nat)=>i<=y.length/\Z.length=y.length+1/\A1 Z/\c<4294967296/\b<=1/\Z.drop i=W.drop i/\val (Z.take i)+q*val (y.take i)=val (W.take i)+4294967296^i*(c+b)) (λ i Z c b=>[(20,.int .i64 i),(18,.int .u64 (b:Int)),(19,.int .u64 (c:Int))]) (λ i Z c b=>[(69,101021,.rw 1 ((A++Z++C).map AL))]) [] [] 0 W 0 0 (by (conv=>whnf);exact ⟨rfl,rfl,rfl⟩) ⟨by omega,hW,D2,by omega,by omega,rfl,by simp [val]⟩ ?_;intro i Z c b ⟨p1,p2,p3,p4,p5,p6,p7⟩ ih;by_cases hi:i<y.length
 ·obtain ⟨d,hd⟩ : ∃ d,y[i]? = some d:=⟨_,zE hi⟩
  obtain ⟨u,hu⟩ : ∃ u,Z[i]? = some u:=⟨_,zE (by omega)⟩;have y7:=da.at hd;have ow:=p3.at hu;have Gr:(A++Z++C)[((i:Int)+(j:Int)).toNat]? = some u:=VR (by omega) hu;obtain ⟨pr,pk⟩ : ∃ pr,pr=c+q*d:=⟨_,rfl⟩;obtain ⟨m1,m2,m3⟩:=zJ r1 y7 p4 (show pr=q*d+c by omega);have ue:W[i]? = some u:=by
   have e1:(Z.drop i)[0]? = (W.drop i)[0]? := by rw[p6]
   simpa [hu] using e1.symm
  have mq : ∀ w,(Z.set i w).drop (i+1)=W.drop (i+1):=λ w=>by
   rw[List.drop_set_of_lt (by omega)];have e1:(Z.drop i).drop 1=(W.drop i).drop 1:=by rw[p6]
   simpa using e1
  have k7 : ∀ have' take w au,take=pr%4294967296+b->((have'=u/\au=0/\take<=u)\/(have'=u+4294967296/\au=1/\u<take))->w+take=have'->val ((Z.set i w).take (i+1))+q*val (y.take (i+1))=val (W.take (i+1))+4294967296^(i+1)*(pr/4294967296+au):=λ have' take w au a1 a2 a3=>by
   rw[G8 (by omega),ER hd,ER ue,Nat.pow_succ];exact Ai8 p7 pk a1 a2 a3
  by_cases j9:u<pr%4294967296+b
  ·have h3:=k7 (u+4294967296) (pr%4294967296+b) (u+4294967296-(pr%4294967296+b)) 1 rfl (Or.inr ⟨rfl,rfl,j9⟩) (by omega)
   (repeat' ((first|(apply AG<;>intro hc<;>try omega)|(apply A2;omega)|(apply AQ;omega)|(apply HB;omega)|(apply RS;omega)|(apply pM;omega)|(apply J8;omega;omega)|apply GL|(apply aJ;omega)|(apply B3;omega)|(apply E2;omega)|(refine A9 (by assumption) ?_ rfl ?_;omega)|refine KR (by assumption) ?_|apply AE)<;>conv=>whnf))
   rw[<-pk];skip
   refine QS i (by omega) (by omega) ?_;(conv=>whnf)
   (repeat' ((first|(apply AQ;omega)|fail)<;>conv=>whnf))
   exact BN [] (by (conv=>whnf);exact ⟨rfl,rfl,rfl⟩) (ih (i+1) (Z.set i (u+4294967296-(pr%4294967296+b))) (pr/4294967296) 1 (by omega) ⟨by omega,by simpa using p2,p3.set _ (by omega),m1,by omega,mq _,h3⟩)
  ·have h3:=k7 u (pr%4294967296+b) (u-(pr%4294967296+b)) 0 rfl (Or.inl ⟨rfl,rfl,by omega⟩) (by omega)
   (repeat' ((first|(apply AG<;>intro hc<;>try omega)|(apply A2;omega)|(apply AQ;omega)|(apply HB;omega)|(apply RS;omega)|(apply pM;omega)|(apply J8;omega;omega)|apply GL|(apply B3;omega)|(apply E2;omega)|(refine A9 (by assumption) ?_ rfl ?_;omega)|refine KR (by assumption) ?_|apply AE)<;>conv=>whnf))
   rw[<-pk];skip
   refine QS i (by omega) (by omega) ?_;(conv=>whnf)
   (repeat' ((first|(apply AQ;omega)|fail)<;>conv=>whnf))
   exact BN [] (by (conv=>whnf);exact ⟨rfl,rfl,rfl⟩) (ih (i+1) (Z.set i (u-(pr%4294967296+b))) (pr/4294967296) 0 (by omega) ⟨by omega,by simpa using p2,p3.set _ (by omega),m1,by omega,mq _,h3⟩)
 ·obtain rfl:i=y.length:=by omega
  clear ih;obtain ⟨u,hu⟩ : ∃ u,Z[y.length]? = some u:=⟨_,zE (by omega)⟩;have ow:=p3.at hu;have Gr:(A++Z++C)[((j:Int)+(y.length:Int)).toNat]? = some u:=VR (by omega) hu;have ue:W[y.length]? = some u:=by
   have e1:(Z.drop y.length)[0]? = (W.drop y.length)[0]? := by rw[p6]
   simpa [hu] using e1.symm
  rw[DH (Nat.le_refl y.length)]at p7;have eW:val W=val (W.take y.length)+4294967296^y.length*u:=by
   rw[<-ER ue,DH (by omega)]
  have k7 : ∀ have' take w au,take=c+b->((have'=u/\au=0/\take<=u)\/(have'=u+4294967296/\au=1/\u<take))->w+take=have'->val (Z.set y.length w)+q*val y=val W+4294967296^y.length*4294967296*au:=λ have' take w au a1 a2 a3=>by
   have h1:=Ai6 p7 a1 a2 a3;rw[<-eW,<-G8 (show y.length<Z.length by omega),DH (by simp;omega)]at h1;exact h1
  by_cases j9:u<c+b
  ·have h3:=k7 (u+4294967296) (c+b) (u+4294967296-(c+b)) 1 rfl (Or.inr ⟨rfl,rfl,j9⟩) (by omega)
   have Cj:A1 (Z.set y.length (u+4294967296-(c+b))):=p3.set _ (by omega);have Ag:(Z.set y.length (u+4294967296-(c+b))).length=y.length+1:=by simpa using p2
   rw[Nat.mul_one]at h3;have Ae:=F2 Cj;rw[Ag,Nat.pow_succ]at Ae;obtain ⟨y1,y2,y3⟩:=sC z0 r3 Ae h3;(repeat' ((first|(apply AG<;>intro hc<;>try omega)|(apply A2;omega)|(apply AQ;omega)|(apply HB;omega)|(apply J8;omega;omega)|(apply aJ;omega)|(apply B3;omega)|(apply E2;omega)|refine KR (by assumption) ?_|apply AE)<;>conv=>whnf))
   refine QS y.length (by omega) (by omega) ?_;(conv=>whnf)
   (repeat' ((first|(apply AG<;>intro hc<;>try omega)|(apply J8;omega;omega))<;>conv=>whnf))
   clear p7 p6 eW hu ue ow Gr p2 p3 k7;generalize Z.set y.length (u+4294967296-(c+b))=X at *;have hRV:val W%val y<val y:=Nat.mod_lt _ z0;have yc:=F2 da;obtain ⟨xw,zs⟩ : ∃ xw,X[y.length]? = some xw:=⟨_,zE (by omega)⟩;have eX:val X=val (X.take y.length)+4294967296^y.length*xw:=by
    rw[<-ER zs,DH (by omega)]
   have tf:q-1<4294967296:=by omega
   refine G9 (λ i _ _=>y.length-i) (λ(i:Nat) (Z:List Nat) (c:Nat)=>i<=y.length/\Z.length=y.length+1/\A1 Z/\c<=1/\Z.drop i=X.drop i/\val (Z.take i)+4294967296^i*c=val (X.take i)+val (y.take i)) (λ i Z c=>[(26,.int .i64 i),(25,.int .u64 (c:Int))]) (λ i Z c=>[(69,101021,.rw 1 ((A++Z++C).map AL))]) 0 X 0 ⟨by omega,Ag,Cj,by omega,rfl,by simp [val]⟩ ?_;intro i Z c ⟨p1,p2,p3,p4,p6,p7⟩ ih;by_cases hi:i<y.length
   ·obtain ⟨d,hd⟩ : ∃ d,y[i]? = some d:=⟨_,zE hi⟩
    obtain ⟨u,hu⟩ : ∃ u,Z[i]? = some u:=⟨_,zE (by omega)⟩;have y7:=da.at hd;have ow:=p3.at hu;have Gr:(A++Z++C)[((i:Int)+(j:Int)).toNat]? = some u:=VR (by omega) hu;have jo:X[i]? = some u:=by
     have e1:(Z.drop i)[0]? = (X.drop i)[0]? := by rw[p6]
     simpa [hu] using e1.symm
    have Iz:=pZ (d:=d) (w:=u) (t:=c+(u+d)) p7 (by omega);(repeat' ((first|(apply AG<;>intro hc<;>try omega)|(apply A2;omega)|(apply AQ;omega)|(apply HB;omega)|(apply B3;omega)|apply G3|(refine A9 (by assumption) ?_ rfl ?_;omega)|refine KR (by assumption) ?_|apply AE)<;>conv=>whnf))
    generalize ht2:c+(u+d)=t2 at *;refine QS i (by omega) (by omega) ?_;(conv=>whnf)
    (repeat' ((first|(apply AQ;omega)|apply GL)<;>conv=>whnf))
    refine BN [] (by (conv=>whnf);exact ⟨rfl,rfl,rfl⟩) (ih (i+1) (Z.set i (t2%4294967296)) (t2/4294967296) (by omega) ⟨by omega,by simpa using p2,p3.set _ (by omega),by omega,?_,?_⟩)
    ·rw[List.drop_set_of_lt (by omega)]
     have e1:(Z.drop i).drop 1=(X.drop i).drop 1:=by rw[p6]
     simpa using e1
    ·rw[G8 (by omega),ER hd,ER jo,Nat.pow_succ]
     exact Iz
   ·obtain rfl:i=y.length:=by omega
    clear ih;obtain ⟨u,hu⟩ : ∃ u,Z[y.length]? = some u:=⟨_,zE (by omega)⟩;have ow:=p3.at hu;have Gr:(A++Z++C)[((j:Int)+(y.length:Int)).toNat]? = some u:=VR (by omega) hu;have jo:X[y.length]? = some u:=by
     have e1:(Z.drop y.length)[0]? = (X.drop y.length)[0]? := by rw[p6]
     simpa [hu] using e1.symm
    rw[jo]at zs;obtain rfl:u=xw:=by simpa using zs
    rw[DH (Nat.le_refl y.length)]at p7;have Ck:=F2 (p3.take y.length);rw[List.length_take,Nat.min_eq_left (by omega)]at Ck;rw[eX]at y3;have mr:=pY p7 y3 (by omega) Ck;rw[<-G8 (show y.length<Z.length by omega),DH (by simp;omega)]at mr;(repeat' ((first|(apply AG<;>intro hc<;>try omega)|(apply A2;omega)|(apply AQ;omega)|apply pL|(apply E2;omega)|refine KR (by assumption) ?_|apply AE)<;>conv=>whnf))
    refine QS y.length (by omega) (by omega) ?_;(conv=>whnf)
    (repeat' ((first|(apply A2;omega)|(apply E2;omega))<;>conv=>whnf))
    refine GC (by omega) ?_;(conv=>whnf)
    (repeat' ((first|(apply BL;omega)|fail)<;>conv=>whnf))
    exact BN [] (by (conv=>whnf);exact ⟨rfl,rfl,rfl⟩) (hk _ _ (by simpa using p2) (p3.set _ (by omega)) mr y1)
  ·have h3:=k7 u (c+b) (u-(c+b)) 0 rfl (Or.inl ⟨rfl,rfl,by omega⟩) (by omega)
   rw[Nat.mul_zero,Nat.add_zero]at h3;obtain ⟨y1,y2⟩:=sD z0 r2 h3;(repeat' ((first|(apply AG<;>intro hc<;>try omega)|(apply A2;omega)|(apply AQ;omega)|(apply HB;omega)|(apply J8;omega;omega)|(apply B3;omega)|(apply E2;omega)|refine KR (by assumption) ?_|apply AE)<;>conv=>whnf))
   refine QS y.length (by omega) (by omega) ?_;(conv=>whnf)
   (repeat' ((first|(apply AG<;>intro hc<;>try omega)|(apply A2;omega)|(apply E2;omega))<;>conv=>whnf))
   refine GC (by omega) ?_;(conv=>whnf)
   (repeat' ((first|(apply BL;omega)|fail)<;>conv=>whnf))
   exact BN [] (by (conv=>whnf);exact ⟨rfl,rfl,rfl⟩) (hk _ _ (by simpa using p2) (p3.set _ (by omega)) y2 y1)
theorem Afb (hA:A.length=j) (hW:W.length=y.length+1) (D2:A1 W) (da:A1 y) (ef:2<=y.length) (si:y.length<=549755813888) (z0:0<val y) (di:j<=1099511627776)
  (n2:4294967296^(y.length-1)*2147483648<=val y) (g2:val W<4294967296*val y) (jj:ul=j+(y.length+1)+C.length) (Gy:w.length=m) (Gi:j<m)
  (hk : ∀ (W':List Nat) (q':Nat),W'.length=y.length+1->A1 W'->val W'=val W%val y->q'=val W/val y->AA L bY (bZ y s ul m ((j:Int)-1)) [(69,101021,.rw 1 ((A++W'++C).map AL)),(85,85,.rw 1 ((w.set j q').map AL))] Q) :
  AA L (.code EC.l2::bY) (bZ y s ul m (j:Int)) [(69,101021,.rw 1 ((A++W++C).map AL)),(85,85,.rw 1 (w.map AL))] Q:=by
 obtain ⟨UL,a1,a2⟩:=fZ D2 (n:=y.length+1) (by omega) (by omega);obtain ⟨VL,b5,b6⟩:=Pz da (n:=y.length) ef (by omega);obtain ⟨u0,w0⟩ : ∃ d,W[y.length]? = some d:=⟨_,zE (by omega)⟩;obtain ⟨u1,w1⟩ : ∃ d,W[y.length-1]? = some d:=⟨_,zE (by omega)⟩;obtain ⟨u2,w2⟩ : ∃ d,W[y.length-2]? = some d:=⟨_,zE (by omega)⟩;obtain ⟨f1,x1⟩ : ∃ d,y[y.length-1]? = some d:=⟨_,zE (by omega)⟩;obtain ⟨f2,x2⟩ : ∃ d,y[y.length-2]? = some d:=⟨_,zE (by omega)⟩;rw[show y.length+1-3=y.length-2 by omega,show y.length+1-2=y.length-1 by omega,show y.length+1-1=y.length by omega,HV w0,HV w1,HV w2]at a2;rw[show y.length+1-3=y.length-2 by omega]at a1;rw[HV x1,HV x2]at b6;have qp:=Pq da (k:=y.length-1) (by omega) n2 x1;have k0:=D2.at w0;have k1:=D2.at w1;have k2:=D2.at w2;have k3:=da.at x1;have k4:=da.at x2;have z1:y[((y.length:Int)-1).toNat]? = some f1:=by rw[show ((y.length:Int)-1).toNat=y.length-1 by omega];exact x1
 have z2:y[((y.length:Int)-2).toNat]? = some f2:=by rw[show ((y.length:Int)-2).toNat=y.length-2 by omega];exact x2
 have js:(A++W++C)[((j:Int)+(y.length:Int)).toNat]? = some u0:=VR (by omega) w0;(repeat' ((first|(apply AG<;>intro hc<;>try omega)|(apply A2;omega)|(apply AQ;omega)|(apply BL;omega)|(apply QO;omega)|(apply B3;omega)|refine KR (by assumption) ?_|apply AE)<;>conv=>whnf))
 have bz:(A++W++C)[((j:Int)+(y.length:Int)-1).toNat]? = some u1:=VR (by omega) w1;refine Xd bz ?_;(conv=>whnf)
 refine oZ (by omega) ?_;(conv=>whnf)
 refine RT (by omega) ?_;(conv=>whnf)
 clear js bz;have af:(A++W++C)[((j:Int)+(y.length:Int)-2).toNat]? = some u2:=VR (by omega) w2;generalize Lj:u0*4294967296+u1=top at *;have Eg:top<=18446744073709551615:=by omega
 have hU:val W=UL+4294967296^(y.length-2)*(u2+4294967296*top):=by rw[a2,show u1+4294967296*u0=top by omega]
 (repeat' ((first|(apply BL;omega)|(apply XV;omega)|(apply aL;omega;omega)|(apply B3;omega)|(refine A9 (by assumption) ?_ rfl ?_;omega))<;>conv=>whnf))
 refine VU (λ q _=>q) (λ(q r:Nat)=>Gs (val W) (val y) f1 f2 u2 top q r) (λ q r=>[(16,.int .u64 (q:Int)),(17,.int .u64 (r:Int))]) (λ_ _=>[]) [] [] (top/f1) (top%f1) (by (conv=>whnf);exact ⟨rfl,rfl,rfl⟩) (Gs.start hU b6 a1 k2 z0 (by omega) k3) ?_;intro q r g fv;have Ks:q<=top:=by
  have h3:=g.hq;have h4:q*1<=q*f1:=Nat.mul_le_mul_left q (by omega);omega
 have hr:=g.hr;have km:=g.ge;by_cases hb:4294967296<=q
 ·obtain ⟨y1,y2,y3⟩:=g.next hU b6 a1 z0 g2 (Or.inl hb)
  (repeat' ((first|(apply AG<;>intro hc<;>try omega)|(apply BL;omega)|(apply HB;omega)|(apply J8;omega;omega)|(apply B3;omega)|(refine A9 (by assumption) ?_ rfl ?_;omega)|apply AE)<;>conv=>whnf))
  ·obtain ⟨t1,t2⟩:=WP hU b6 b5 qp k4 g2 y2 (Or.inr (by omega))
   exact BN [] (by (conv=>whnf);exact ⟨rfl,rfl,rfl⟩) (jC (w:=w) (C:=C) hA hW D2 da ef si z0 di jj Gy Gi t1 y3 t2 hk)
  ·exact BN [] (by (conv=>whnf);exact ⟨rfl,rfl,rfl⟩) (fv (q-1) (r+f1) (by omega) ⟨y2,by omega,y3⟩)
 ·have hmq:=WX (show q<4294967296 by omega) k4
  by_cases u5:r*4294967296+u2<q*f2
  ·obtain ⟨y1,y2,y3⟩:=g.next hU b6 a1 z0 g2 (Or.inr u5)
   (repeat' ((first|(apply AG<;>intro hc<;>try omega)|(apply A2;omega)|(apply AQ;omega)|(apply BL;omega)|(apply HB;omega)|(apply RS;omega)|(apply QO;omega)|(apply RT;omega)|(apply J8;omega;omega)|(apply B3;omega)|(refine A9 (by assumption) ?_ rfl ?_;omega)|refine KR (by assumption) ?_|apply AE)<;>conv=>whnf))
   ·obtain ⟨t1,t2⟩:=WP hU b6 b5 qp k4 g2 y2 (Or.inr (by omega))
    exact BN [] (by (conv=>whnf);exact ⟨rfl,rfl,rfl⟩) (jC (w:=w) (C:=C) hA hW D2 da ef si z0 di jj Gy Gi t1 y3 t2 hk)
   ·exact BN [] (by (conv=>whnf);exact ⟨rfl,rfl,rfl⟩) (fv (q-1) (r+f1) (by omega) ⟨y2,by omega,y3⟩)
  ·obtain ⟨t1,t2⟩:=WP hU b6 b5 qp k4 g2 g.hq (Or.inl ⟨by omega,by omega⟩)
   (repeat' ((first|(apply AG<;>intro hc<;>try omega)|(apply A2;omega)|(apply AQ;omega)|(apply BL;omega)|(apply RS;omega)|(apply QO;omega)|(apply RT;omega)|(apply B3;omega)|(refine A9 (by assumption) ?_ rfl ?_;omega)|refine KR (by assumption) ?_|apply AE)<;>conv=>whnf))
   exact BN [] (by (conv=>whnf);exact ⟨rfl,rfl,rfl⟩) (jC (w:=w) (C:=C) hA hW D2 da ef si z0 di jj Gy Gi t1 km t2 hk)
end
theorem AlB {l:List Nat} (hD:A1 l) (h:l[l.length-1]? = some 0):val l<4294967296^(l.length-1):=by
 have hl:=(zS h).1;have h1:=LE l (l.length-1) (by omega);have h2:=II h;rw[List.drop_of_length_le (show l.length<=l.length-1+1 by omega),J5]at h2;rw[h2]at h1;simp only[Nat.mul_zero,Nat.add_zero]at h1;have h3:=F2 (hD.take (l.length-1));rw[List.length_take,Nat.min_eq_left (by omega)]at h3;omega
theorem sG (N:a9 L) {X Y s:Nat} {x u y:List Nat} (hY:Y≠0) (bj:s<=31) (Fq:A1 u) (Ft:val u=X*2^s) (hU0:u[u.length-1]? = some 0) (jj:x.length+1<=u.length/\u.length<=549755813888) (da:A1 y) (Fu:val y=Y*2^s) (gp:2<=y.length/\y.length<=x.length) (n2:4294967296^(y.length-1)*2147483648<=val y) :
  AA L Ae9 [(10,.row 69 0 1 0 u.length),(11,.sl false (y.map AL)),(9,.int .i64 (s:Int)),(0,.sl false (x.map AL))] [(69,101021,.rw 1 (u.map AL))] (RW EC (.g8 [.sl false ((dg (X/Y)).map AL),.sl false ((dg (X%Y)).map AL),.int .i64 0])):=by
 refine D4 (λ(_:Nat)=>0) (λ_=>True) (λ_=>[]) (λ_=>[]) 0 trivial ?_;intro _ _ _;(repeat' ((first|(apply AG<;>intro hc<;>try omega)|(apply AQ;omega)|(apply BL;omega)|apply AP|apply AE)<;>conv=>whnf))
 refine D9 (enc:=AL) 0 (u.length-y.length) (by rfl) (by omega) (by omega) ?_;(conv=>whnf)
 (repeat' ((first|(apply BL;omega)|fail)<;>conv=>whnf))
 have z0:0<val y:=by
  have:=Oc (y.length-1)
  omega
 have yd:=F2 da;generalize hm:u.length-y.length=m at *;have nv:val (u.drop m)<val y:=by
  have h1:(u.drop m).length=y.length:=by simp;omega
  have h2:=AlB (l:=u.drop m) (Fq.drop _) (by rw[h1,List.getElem?_drop,show m+(y.length-1)=u.length-1 by omega];exact hU0);rw[h1]at h2;omega
 rw[show (u.length:Int)-y.length-1=((m:Nat):Int)-1 by omega];refine G9 (λ n _ _=>n) (λ(n:Nat) (o w:List Nat)=>n<=m/\o.length=u.length/\A1 o/\w.length=m/\A1 w/\val (o.drop n)<val y/\X*2^s=val (o.take n)+4294967296^n*(val (w.drop n)*val y+val (o.drop n))) (λ n o w=>[(14,.int .i64 ((n:Int)-1))]) (λ n o w=>[(69,101021,.rw 1 (o.map AL)),(85,85,.rw 1 (w.map AL))]) m u (List.replicate m 0) ⟨by omega,rfl,Fq,by simp,KF _,nv,by rw[<-Ft,List.drop_of_length_le (show (List.replicate m 0).length<=m by simp),J5,Nat.zero_mul,Nat.zero_add];exact LE u m (by omega)⟩ ?_;intro n o w ⟨p1,p2,p3,p4,p5,p6,p7⟩ ih;rcases n with _|j
 ·clear ih
  rw[List.drop_zero]at p6;rw[List.take_zero,List.drop_zero,List.drop_zero,J5,Nat.zero_add,Nat.pow_zero,Nat.one_mul]at p7;have mq:val o=val (o.take y.length):=by
   have h1:=VP o y.length;rcases Nat.eq_zero_or_pos (val (o.drop y.length)) with h2|h2
   ·rw[h2,Nat.mul_zero,Nat.add_zero]at h1;exact h1
   ·have h3:4294967296^y.length*1<=4294967296^y.length*val (o.drop y.length):=Nat.mul_le_mul_left _ h2
    omega
  have uf:X/Y=val w/\X%Y=val o/2^s:=by
   obtain ⟨z1,z2⟩:=sF (X:=X) (Y:=Y) (Nat.two_pow_pos s);rw[<-z1,<-z2,<-Fu,p7];have e1:(val w*val y+val o)/val y=val w:=by
    rw[Nat.mul_comm,Nat.mul_add_div z0,Nat.div_eq_of_lt p6,Nat.add_zero]
   have e2:(val w*val y+val o)%val y=val o:=by
    rw[Nat.mul_comm,Nat.mul_add_mod,Nat.mod_eq_of_lt p6]
   rw[e1,e2];exact ⟨rfl,rfl⟩
  rw[uf.1,uf.2,mq];have hT:=λ q=>HC N w q p5 (by omega)
  have fk:(o.take y.length).length<=549755813888:=by rw[List.length_take];omega
  clear p7 uf nv;rw[<-p4];rcases Nat.eq_zero_or_pos s with h0|h0
  ·subst h0
   have hS:=λ q=>uX N (o.take y.length) q 0 (p3.take _) fk (by omega)
   rw[Nat.pow_zero,Nat.mul_one]at hS;rw[Nat.pow_zero,Nat.div_one];(repeat' ((first|(apply AG<;>intro hc<;>try omega)|(refine CZ (λ_=>rfl) rfl ?_ ?_;(first|rfl|simp))|apply AE|refine AD (hT _) ?_)<;>conv=>whnf))
   refine H5 y.length rfl (by omega) ?_;(conv=>whnf)
   refine CN.neg (by omega) ?_;(conv=>whnf)
   refine I4 (enc:=AL) (λ_=>rfl) (by omega) ?_;(conv=>whnf)
   rw[List.drop_zero,Nat.sub_zero,show -((0:Nat):Int)=((0:Nat):Int) by omega];(repeat' (refine AD (hS _) ?_<;>conv=>whnf))
   exact AW rfl (bM _ _ _)
  ·have hS:=λ q=>AgW N (o.take y.length) q s (p3.take _) fk (by omega)
   (repeat' ((first|(apply AG<;>intro hc<;>try omega)|(refine CZ (λ_=>rfl) rfl ?_ ?_;(first|rfl|simp))|apply AE|refine AD (hT _) ?_)<;>conv=>whnf))
   refine H5 y.length rfl (by omega) ?_;(conv=>whnf)
   refine CN.neg (by omega) ?_;(conv=>whnf)
   refine I4 (enc:=AL) (λ_=>rfl) (by omega) ?_;(conv=>whnf)
   rw[List.drop_zero,Nat.sub_zero];(repeat' (refine AD (hS _) ?_<;>conv=>whnf))
   exact AW rfl (bM _ _ _)
 ·have e3:((j+1:Nat):Int)-1=j:=by omega
  rw[e3];obtain ⟨A,W,C,hA,hW,rfl⟩:=tC o j (y.length+1) (by omega);obtain ⟨g1,g2,g3⟩:=tE hA hW p3 p6 yd;obtain ⟨D1,D2,D3⟩:=sB p3;have tf:val W/val y<4294967296:=(Nat.div_lt_iff_lt_mul z0).2 g2;have Ir:val W=val W/val y*val y+val W%val y:=by rw[Nat.mul_comm];exact (Nat.div_add_mod _ _).symm
  have ye:val W%val y<val y:=Nat.mod_lt _ z0;have yb:X*2^s=val A+4294967296^j*val W+4294967296^j*4294967296*(val (w.drop (j+1))*val y):=by
   rw[p7,Nat.mul_add,<-g3,Nat.pow_succ];omega
  have nm:=tD yb Ir;have dz : ∀ q',q'=val W/val y->val ((w.set j q').drop j)=val W/val y+4294967296*val (w.drop (j+1)):=λ q' h=>by
   rw[II (l:=w.set j q') (d:=q') (by rw[List.getElem?_set_self (by omega)]),List.drop_set_of_lt (by omega),h]
  have hlen : ∀ W':List Nat,W'.length=y.length+1->(A++W'++C).length=u.length:=λ W' h=>by
   rw[<-p2];simp [h,hW]
  have Gl:u.length=j+(y.length+1)+C.length:=by rw[<-p2];simp [hA,hW];omega
  refine BN [] (by (conv=>whnf);exact ⟨rfl,rfl,rfl⟩) (Afb (m:=m) (s:=s) (ul:=u.length) (C:=C) hA hW D2 da gp.1 (by omega) z0 (by omega) n2 g2 Gl p4 (by omega) (λ W' q' z1 z2 z3 z4 => ?_));obtain ⟨t1,t2⟩:=jL (A:=A) (W:=W') (C:=C) (j:=j) hA g1;refine BN [] (by (conv=>whnf);exact ⟨rfl,rfl,rfl⟩) (ih j (A++W'++C) (w.set j q') (by omega) ⟨by omega,hlen W' z1,(D1.append z2).append D3,by simpa using p4,p5.set _ (by omega),by omega,?_⟩);rw[t1,t2,dz q' z4,z3];exact nm
end Go.c6
namespace Go.c6
open F
attribute [local irreducible] AA AF AX AC CN AR BA A6 BV BH CM EI BO AY B0 CJ AB A5 AH pw CQ CE C8 EA DP BT CP BU C7
variable {L:Lib}
set_option maxHeartbeats 8000000
theorem uW (N:a9 L) (a b:List Nat) (q1 q2:Bool) (hA:A1 a) (hB:A1 b) (la:a.length<=274877906944) (lb:b.length<=274877906944) (h0:val b≠0) :
  Ev L 109 [.sl q1 (a.map AL),.sl q2 (b.map AL)] (.g8 [.sl false ((dg (val a/val b)).map AL),.sl false ((dg (val a%val b)).map AL),.int .i64 0]):=by
 have t1:=λ q=>HC N a q hA (by omega)
 have t2:=λ q=>HC N b q hB (by omega)
 have l1:=FM hA;have l2:=FM hB;have l7:=λ q q'=>jV N (dg (val a)) (dg (val b)) q q' (EF _) (EF _) (by omega) (by omega)
 rw[BQ,BQ]at l7;generalize val a=X at *;generalize val b=Y at *;have d1:=EF X;have d2:=EF Y;have v1:=BQ X;have v2:=BQ Y;have hy1:=YF h0;refine Ev.x N.EC rfl rfl ?_;by_cases h1:(dg Y).length=1
 ·obtain ⟨y0,nb⟩ : ∃ y0,dg Y=[y0]:=List.length_eq_one_iff.1 h1
  have tj:Y=y0:=by rw[<-v2,nb];simp [val]
  subst tj;have Bb:Y<4294967296:=d2 Y (by rw[nb];simp);have hyg:(dg Y)[(0:Int).toNat]? = some Y:=by rw[nb];rfl
  have ct:=λ q=>AgX N (dg X) Y q d1 (by omega) h0 Bb
  rw[v1]at ct;have mb:X%Y<4294967296:=Nat.lt_trans (Nat.mod_lt _ (by omega)) Bb;have Tf:=λ q=>HC N [X%Y] q (IO mb) (by simp)
  rw[show val [X%Y]=X%Y by simp [val]]at Tf;clear nb v2;generalize dg Y=y at *;(repeat' ((first|(apply AG<;>intro hc<;>try omega)|apply AP|(refine A9 (by assumption) ?_ rfl ?_;omega)|refine GA rfl ?_|apply AE|refine AD (t1 _) ?_|refine AD (t2 _) ?_|refine AD (ct _) ?_|refine AD (Tf _) ?_)<;>conv=>whnf))
  exact AW rfl (bM _ _ _)
 by_cases j9:X<Y
 ·rw[<-JL (by omega)]at l7
  (repeat' ((first|(apply AG<;>intro hc<;>try omega)|apply AP|apply AE|refine AD (t1 _) ?_|refine AD (t2 _) ?_|refine AD (l7 _ _) ?_)<;>conv=>whnf))
  refine AW ?_ (bM _ _ _);rw[Nat.div_eq_of_lt j9,Nat.mod_eq_of_lt j9,FZ];rfl
 have km:=bP (show Y<=X by omega);generalize DF X Y=cm at *;have Kh:2<=(dg Y).length:=by omega
 obtain ⟨yt,ve,vf⟩:=jA h0;have sj:=d2.at ve;obtain ⟨b1,b2,b3,b4⟩:=lS vf sj;have jq:=λ q=>AgT N yt q vf sj
 generalize hs:32-n9 yt=s at *;have bj:s<=31:=by omega
 have Le:=λ q=>uX N (dg Y) q s d2 (by omega) (by omega)
 obtain ⟨n1,n2⟩:=lL d2 ve (by omega) bj b3 b4;rw[v2]at Le n1 n2;have mq:(dg Y).drop ((dg Y).length-1)=[yt]:=by
  obtain ⟨hi,he⟩:=zS ve;rw[List.drop_eq_getElem_cons hi,he,List.drop_of_length_le (by omega)]
 have gp:(dg (Y*2^s)).length=(dg Y).length:=by
  have a1:=Q1.2 n1;have a2 : ¬ (dg (Y*2^s)).length<=(dg Y).length-1:=λ h=>by
   have:=Q1.1 h
   omega
  omega
 have AtV:(dg (X*2^s)).length<=(dg X).length+1:=by
  refine Q1.2 ?_;have a1:X<4294967296^(dg X).length:=Q1.1 (Nat.le_refl _);rw[Nat.pow_succ];have a2:=ZJ (s:=s) (by omega);exact Nat.lt_of_lt_of_le (Nat.mul_lt_mul_of_pos_right a1 (Nat.two_pow_pos s)) (Nat.mul_le_mul_left _ a2)
 have Ag:(dg X).length<=(dg (X*2^s)).length:=S9 (Nat.le_mul_of_pos_right _ (Nat.two_pow_pos s));have rh:=S9 (show Y<=X by omega);generalize hx:dg X=x at *;generalize hy:dg Y=y at *;have t3:=λ q=>HC N x q d1 (by omega)
 rw[v1,hx]at t3;(repeat' ((first|(apply AG<;>intro hc<;>try omega)|(apply BL;omega)|apply AP|apply AE|refine AD (t1 _) ?_|refine AD (t2 _) ?_|refine AD (l7 _ _) ?_)<;>conv=>whnf))
 rw[show (y.length:Int)-1=((y.length-1:Nat):Int) by omega];refine pU (k:=y.length-1) (λ_=>rfl) (by omega) ?_;(conv=>whnf)
 rw[mq];(repeat' ((first|(apply BL;omega)|refine AD (jq _) ?_)<;>conv=>whnf))
 rw[show (32:Int)-(n9 yt:Nat)=((s:Nat):Int) by omega];refine HR 1000 N.JX rfl rfl ?_;have Gv:(s:Int)/32=((0:Nat):Int):=by omega
 have wy:(s:Int)%32=((s:Nat):Int):=by omega
 (repeat' ((first|(apply AG<;>intro hc<;>try omega)|(refine LI ?_ ?_ (λ_ => ?_) (λ_ _ => ?_);omega;omega;all_goals try omega)|apply AP|apply AE|refine AD (t3 _) ?_)<;>conv=>whnf))
 rw[Gv];refine D9 (enc:=AL) 0 0 rfl rfl (by omega) ?_;(conv=>whnf)
 skip
 refine G9 (λ i _ _=>x.length-i) (λ(i:Nat) (o:List Nat) (c:Nat)=>i<=x.length/\o.length=i/\A1 o/\c<2^s/\val o+4294967296^i*c=val (x.take i)*2^s) (λ i o c=>[(10,.int .i64 i),(9,.int .u64 (c:Int)),(8,.row 107069 0 1 0 i)]) (λ i o c=>[(107069,107069,.rw 1 (o.map AL))]) 0 [] 0 ⟨by omega,rfl,WA,Nat.two_pow_pos _,by simp [val]⟩ ?_;intro i o c ⟨p1,p2,p3,p4,p5⟩ ih;have pn:=ZJ (s:=s) (by omega);by_cases hi:i<x.length
 ·obtain ⟨d,hd⟩ : ∃ d,x[i]? = some d:=⟨_,zE hi⟩
  have y7:=d1.at hd;obtain ⟨f1,f2,f3,f4⟩:=VG (s:=s) y7 (by omega);have hr:=dG (show s<=64 by omega) f4;(repeat' ((first|(apply AG<;>intro hc<;>try omega)|(refine QP ?_ (λ_ _ _ => ?_) (λ_ _ _ _ => ?_);omega;all_goals try omega)|(apply B3;omega)|apply AP|(refine A9 (by assumption) ?_ rfl ?_;omega)|apply AE)<;>conv=>whnf))
  rw[wy];refine RV (by omega) f4 ?_;(conv=>whnf)
  skip
  refine aK s (Nat.mul_mod_left _ _) p4 (by omega) ?_;(conv=>whnf)
  have k7:=Pu (d:=d) (P:=1) (V:=val o) (p:=4294967296^i) (lo:=c) (X:=val (x.take i)) (s:=s) (by rw[Nat.one_mul,Nat.one_mul];exact p5) rfl;have qo:(c+d*2^s)/4294967296<2^s:=by
   rw[Nat.div_lt_iff_lt_mul (by omega)];have:=zR (2^s) (show d<=4294967295 by omega)
   omega
  generalize c+d*2^s=t at *;(repeat' ((first|apply G3|apply DQ)<;>conv=>whnf))
  refine FA (enc:=AL) (t%4294967296) rfl p2.symm rfl (by omega) (by omega) ?_;(conv=>whnf)
  (repeat' ((first|(apply AQ;omega)|apply GL)<;>conv=>whnf))
  rw[show (o++[t%4294967296]).length=i+1 by simp [p2]];refine BN [(107069,107091)] (by (conv=>whnf);exact ⟨rfl,rfl,rfl⟩) (ih (i+1) (o++[t%4294967296]) (t/4294967296) (by omega) ⟨by omega,by simp;omega,p3.append (IO (by omega)),qo,?_⟩);rw[QE,p2,ER hd,Nat.pow_succ];rw[Nat.one_mul,Nat.one_mul]at k7;exact k7
 obtain rfl:i=x.length:=by omega
 clear ih;have ke:c<4294967296:=by omega
 have hOD:A1 (o++[c]):=p3.append (IO ke);have Cb:val (o++[c])=X*2^s:=by
  rw[QE,p2,p5,DH (Nat.le_refl _),v1]
 have Ca:(o++[c]).length=x.length+1:=by simp [p2]
 (repeat' ((first|(apply AG<;>intro hc<;>try omega)|(apply E2;omega)|apply AP|apply DQ|apply AE)<;>conv=>whnf))
 refine FA (enc:=AL) c rfl p2.symm rfl (by omega) (by omega) ?_;(conv=>whnf)
 rw[Ca];generalize o++[c]=O at *;rw[<-Ca];clear p3 p4 p5;refine HR 1000 N.IX rfl rfl ?_;(repeat' (apply AE<;>conv=>whnf))
 refine D4 (λ n=>n) (λ(n:Nat)=>n<=(O).length /\ ∀ i,n<=i->i<(O).length->(O)[i]? = some 0) (λ n=>[(3,.int .i64 n)]) (λ_=>[]) (O).length ⟨Nat.le_refl _,λ i h1 h2=>by omega⟩ ?_;intro n ⟨p1,p2⟩ ih;rcases n with _|n
 ·(repeat' ((first|(apply AG<;>intro hc<;>try omega)|apply AE)<;>conv=>whnf))
  refine H5 0 (by omega) (by omega) ?_;(conv=>whnf)
  have bg:=HK (l:=O) (by assumption) p1 p2 (Or.inl rfl);have n6:(List.take 0 O).length<=(O).length:=by rw[List.length_take];omega
  clear ih p2;refine aR (enc:=AL) (by omega) ?_;(conv=>whnf)
  rw[List.drop_zero,Nat.sub_zero];generalize Ad:List.take 0 O=T0 at *;refine SX (enc:=AL) (λ_=>rfl) (by omega) (by omega) ?_;(conv=>whnf)
  refine ⟨rfl,_,rfl,?_⟩;(conv=>whnf)
  (refine ⟨rfl,_,rfl,?_⟩;(conv=>whnf);(repeat' ((first|apply DQ|refine AD (Le _) ?_)<;>conv=>whnf));refine FA (enc:=AL) 0 rfl rfl rfl (by omega) (by omega) ?_;(conv=>whnf);rw[Cb]at bg;rw[bg];exact BN [] (by (conv=>whnf);exact ⟨rfl,rfl,rfl⟩) (sG N (x:=x) (X:=X) (Y:=Y) (s:=s) (u:=dg (X*2^s)++[0]) (y:=dg (Y*2^s)) h0 bj ((EF _).append (IO (by omega))) (by rw[QE,BQ,Nat.mul_zero,Nat.add_zero]) (by simp) (by simp;omega) (EF _) (BQ _) (by omega) (by rw[BQ,gp];exact n2)))
 ·have e1:((n+1:Nat):Int)-1=n:=by omega
  (repeat' ((first|(apply AG<;>intro hc<;>try omega)|(apply A2;omega)|(apply BL;omega)|(refine T8 (by assumption) ?_ (λ v hv hb => ?_);omega)|apply AE)<;>conv=>whnf))
  ·rw[e1]
   exact BB [] (ih n (by omega) ⟨by omega,λ i h1 h2=>by
    by_cases h:i=n
    ·subst h
     rw[e1,Int.toNat_natCast]at hv;rw[hv];congr 1;omega
    ·exact p2 i (by omega) h2⟩)
  ·refine H5 (n+1) (by omega) (by omega) ?_
   (conv=>whnf)
   rw[e1,Int.toNat_natCast]at hv;have bg:=HK (l:=O) (by assumption) p1 p2 (Or.inr ⟨_,hv,by omega⟩);have n6:(List.take (n+1) O).length<=(O).length:=by rw[List.length_take];omega
   clear ih p2 hv;(rw[qE (l:=O)];rotate_left;exact rfl;exact rfl);(conv=>whnf)
   refine aR (enc:=AL) (by omega) ?_;(conv=>whnf)
   rw[List.drop_zero,Nat.sub_zero];generalize Ad:List.take (n+1) O=T0 at *;refine SX (enc:=AL) (λ_=>rfl) (by omega) (by omega) ?_;(conv=>whnf)
   refine ⟨rfl,_,rfl,?_⟩;(conv=>whnf)
   (refine ⟨rfl,_,rfl,?_⟩;(conv=>whnf);(repeat' ((first|apply DQ|refine AD (Le _) ?_)<;>conv=>whnf));refine FA (enc:=AL) 0 rfl rfl rfl (by omega) (by omega) ?_;(conv=>whnf);rw[Cb]at bg;rw[bg];exact BN [] (by (conv=>whnf);exact ⟨rfl,rfl,rfl⟩) (sG N (x:=x) (X:=X) (Y:=Y) (s:=s) (u:=dg (X*2^s)++[0]) (y:=dg (Y*2^s)) h0 bj ((EF _).append (IO (by omega))) (by rw[QE,BQ,Nat.mul_zero,Nat.add_zero]) (by simp) (by simp;omega) (EF _) (BQ _) (by omega) (by rw[BQ,gp];exact n2)))
theorem AgU (N:a9 L) (a b:List Nat) (q1 q2:Bool) (hA:A1 a) (hB:A1 b) (la:a.length<=274877906944) (lb:b.length<=274877906944) :
  Ev L 110 [.sl q1 (a.map AL),.sl q2 (b.map AL)] (.sl false ((dg (Nat.gcd (val a) (val b))).map AL)):=by
 have t1:=λ q=>HC N a q hA (by omega)
 have t2:=λ q=>HC N b q hB (by omega)
 have l1:=FM hA;have l2:=FM hB;generalize val a=X at *;generalize val b=Y at *;refine Ev.x N.OV rfl rfl ?_;(repeat' ((first|apply AE|refine AD (t1 _) ?_|refine AD (t2 _) ?_)<;>conv=>whnf))
 refine FU (λ_ y=>y) (λ(x y:Nat)=>(dg x).length<=274877906944/\(dg y).length<=274877906944/\Nat.gcd x y=Nat.gcd X Y) (λ x y=>[(0,.sl false ((dg x).map AL)),(1,.sl false ((dg y).map AL))]) (λ_ _=>[]) X Y ⟨by omega,by omega,rfl⟩ ?_;intro x y ⟨p1,p2,p3⟩ ih;rw[<-p3];by_cases h0:y=0
 ·subst h0
  have qz:(dg 0).length=0:=by rw[FZ];rfl
  clear ih;rw[Nat.gcd_zero_right];(repeat' ((first|(apply AG<;>intro hc<;>try omega)|apply AP|apply AE)<;>conv=>whnf))
  exact AW rfl (KT _)
 ·have hp:=YF h0
  have hD:=λ q q'=>uW N (dg x) (dg y) q q' (EF _) (EF _) p1 p2 (by rw[BQ];exact h0)
  rw[BQ,BQ]at hD;have j9:x%y<y:=Nat.mod_lt _ (by omega);have pg:=S9 (Nat.le_of_lt j9);(repeat' ((first|(apply AG<;>intro hc<;>try omega)|apply AP|apply AE|refine AD (hD _ _) ?_)<;>conv=>whnf))
  rw[p3];exact BB [] (ih y (x%y) j9 ⟨p2,by omega,by rw[Y2];exact p3⟩)
theorem KU (N:a9 L) (n q:Bool) (m:List Nat) (hm:Sm 274877906944 m):Ev L 111 [.agg (rZ q n m)] (.agg (eZ (zv n m))):=by
 have hT:=λ q=>HC N m q hm.1 (by have:=hm.2;omega)
 have hz:=JN (val m);have ha:=FS n m;refine Ev.x N.O8 rfl rfl ?_;cases n
 ·rw[FK]at *
  (repeat' ((first|apply AE|refine AD (hT _) ?_)<;>conv=>whnf))
  exact AW (FF ha.symm (HP (by omega))) (D5 _)
 ·rw[RR]at *
  (repeat' ((first|(apply AG<;>intro hc<;>try omega)|apply AP|apply AE|refine AD (hT _) ?_)<;>conv=>whnf))
  ·exact AW (FF ha.symm (P7 (by omega))) (D5 _)
  ·exact AW (FF ha.symm (HP (by omega))) (D5 _)
theorem jZ (N:a9 L) (n q:Bool) (m:List Nat) (hm:Sm 274877906944 m):Ev L 113 [.agg (rZ q n m)] (.int .i64 (o9 (zv n m))):=by
 have hT:=λ q=>KU N n q m hm
 generalize zv n m=z at *;have hz:=JN z.natAbs;refine Ev.x N.O6 rfl rfl ?_;(repeat' ((first|(apply AG<;>intro hc<;>try omega)|apply AP|apply AE|refine AD (hT _) ?_)<;>conv=>whnf))
 ·exact B5 (eN (by omega))
 ·cases hd:decide (z<0)
  ·(conv=>whnf)
   exact B5 (nH (by have:=of_decide_eq_false hd;omega))
  ·(conv=>whnf)
   exact B5 (nG (of_decide_eq_true hd))
theorem jX (N:a9 L) (n q:Bool) (m:List Nat) (hm:Sm 274877906944 m):Ev L 114 [.agg (rZ q n m)] (.agg (eZ (-(zv n m)))):=by
 have hT:=λ q=>KU N n q m hm
 generalize zv n m=z at *;have hz:=JN z.natAbs;refine Ev.x N.O4 rfl rfl ?_;(repeat' ((first|apply AE|refine AD (hT _) ?_)<;>conv=>whnf))
 cases hd:decide (z<0)
 ·have h1:=of_decide_eq_false hd
  (conv=>whnf)
  (repeat' ((first|(apply AG<;>intro hc<;>try omega)|apply AP)<;>conv=>whnf))
  ·exact AW (FF (by omega) (P7 (by omega))) (D5 _)
  ·exact AW (FF (by omega) (HP (by omega))) (D5 _)
 ·have h1:=of_decide_eq_true hd
  (conv=>whnf)
  skip
  exact AW (FF (by omega) (HP (by omega))) (D5 _)
theorem US (N:a9 L) (n1 n2 q1 q2:Bool) (a b:List Nat) (ha:A1 a) (hb:A1 b) (hl:a.length+b.length<=274877906944):Ev L 118 [.agg (rZ q1 n1 a),.agg (rZ q2 n2 b)] (.agg (eZ (zv n1 a*zv n2 b))):=by
 have h1:=λ q q'=>AgV N a b q q' ha hb (by omega)
 have sa:Sm a.length a:=⟨ha,Nat.le_refl _⟩;have sb:Sm b.length b:=⟨hb,Nat.le_refl _⟩;have hT:=λ n q=>KU N n q (dg (val a*val b)) ((sa.mul sb rfl).le hl)
 have e : ∀ n,zv n (dg (val a*val b))=bif n then -((val a*val b:Nat):Int) else ((val a*val b:Nat):Int):=λ n=>by unfold zv;rw[BQ]
 have e2:zv n1 a*zv n2 b=zv (n1 != n2) (dg (val a*val b)):=by
  rw[e];cases n1<;>cases n2<;>simp [FK,RR,Int.mul_neg,Int.neg_mul]
 rw[e2];refine Ev.x N.O3 rfl rfl ?_;cases n1<;>cases n2;all_goals
  (repeat' ((first|apply AE|refine AD (h1 _ _) ?_|refine AD (hT _ _) ?_)<;>conv=>whnf))
  exact AW rfl (D5 _)
theorem uY (N:a9 L) (n1 n2 q1 q2:Bool) (a b:List Nat) (ha:Sm 274877906943 a) (hb:Sm 274877906943 b):Ev L 115 [.agg (rZ q1 n1 a),.agg (rZ q2 n2 b)] (.agg (eZ (zv n1 a+zv n2 b))):=by
 have t1:=λ q=>KU N n1 q a (ha.le (by omega))
 have t2:=λ q=>KU N n2 q b (hb.le (by omega))
 have s1:Sm 274877906943 (dg (zv n1 a).natAbs):=by rw[FS];exact ha.tk
 have s2:Sm 274877906943 (dg (zv n2 b).natAbs):=by rw[FS];exact hb.tk
 generalize zv n1 a=x at *;generalize zv n2 b=y at *;have h1:=λ q q'=>uV N (dg x.natAbs) (dg y.natAbs) q q' s1.1 s2.1 (by have:=s1.2;omega) (by have:=s2.2;omega)
 have h2:=λ q q'=>jW N (dg x.natAbs) (dg y.natAbs) q q' s1.1 s2.1 (by have:=s1.2;omega) (by have:=s2.2;omega)
 have h3:=λ q q'=>jW N (dg y.natAbs) (dg x.natAbs) q q' s2.1 s1.1 (by have:=s2.2;omega) (by have:=s1.2;omega)
 have l7:=λ q q'=>jV N (dg x.natAbs) (dg y.natAbs) q q' s1.1 s2.1 (by have:=s1.2;omega) (by have:=s2.2;omega)
 rw[BQ,BQ]at h1 h2 h3 l7;have u1:=λ n q=>KU N n q (dg (x.natAbs+y.natAbs)) (s1.add s2 (by rw[BQ,BQ];omega))
 have u2:=λ n q=>KU N n q (dg (x.natAbs-y.natAbs)) ((s1.low (V:=x.natAbs-y.natAbs) (by rw[BQ];omega)).le (by omega))
 have u3:=λ n q=>KU N n q (dg (y.natAbs-x.natAbs)) ((s2.low (V:=y.natAbs-x.natAbs) (by rw[BQ];omega)).le (by omega))
 have e : ∀ n V,zv n (dg V)=bif n then -(V:Int) else (V:Int):=λ n V=>by unfold zv;rw[BQ]
 refine Ev.x N.OZ rfl rfl ?_;(repeat' ((first|apply AE|refine AD (t1 _) ?_|refine AD (t2 _) ?_)<;>conv=>whnf))
 cases hx:decide (x<0)<;>cases hy:decide (y<0)
 ·have g1:=of_decide_eq_false hx
  have g2:=of_decide_eq_false hy;have hz:x+y=zv false (dg (x.natAbs+y.natAbs)):=by rw[e];simp only[cond_true,cond_false];omega
  rw[hz];(conv=>whnf)
  (repeat' ((first|refine AD (h1 _ _) ?_|refine AD (u1 _ _) ?_)<;>conv=>whnf))
  exact AW rfl (D5 _)
 ·have g1:=of_decide_eq_false hx
  have g2:=of_decide_eq_true hy;by_cases j9:x.natAbs<y.natAbs
  ·have hz:x+y=zv true (dg (y.natAbs-x.natAbs)):=by rw[e];simp only[cond_true,cond_false];omega
   rw[hz];rw[<-JL (by omega)]at l7;(conv=>whnf)
   (repeat' ((first|(apply AG<;>intro hc<;>try omega)|refine AD (l7 _ _) ?_|refine AD (h3 _ _) ?_|refine AD (u3 _ _) ?_)<;>conv=>whnf))
   exact AW rfl (D5 _)
  ·have hz:x+y=zv false (dg (x.natAbs-y.natAbs)):=by rw[e];simp only[cond_true,cond_false];omega
   rw[hz];have km:=bP (show y.natAbs<=x.natAbs by omega);generalize DF (x.natAbs:Nat) (y.natAbs:Nat)=cm at *;(conv=>whnf)
   (repeat' ((first|(apply AG<;>intro hc<;>try omega)|refine AD (l7 _ _) ?_|refine AD (h2 _ _) ?_|refine AD (u2 _ _) ?_)<;>conv=>whnf))
   exact AW rfl (D5 _)
 ·have g1:=of_decide_eq_true hx
  have g2:=of_decide_eq_false hy;by_cases j9:x.natAbs<y.natAbs
  ·have hz:x+y=zv false (dg (y.natAbs-x.natAbs)):=by rw[e];simp only[cond_true,cond_false];omega
   rw[hz];rw[<-JL (by omega)]at l7;(conv=>whnf)
   (repeat' ((first|(apply AG<;>intro hc<;>try omega)|refine AD (l7 _ _) ?_|refine AD (h3 _ _) ?_|refine AD (u3 _ _) ?_)<;>conv=>whnf))
   exact AW rfl (D5 _)
  ·have hz:x+y=zv true (dg (x.natAbs-y.natAbs)):=by rw[e];simp only[cond_true,cond_false];omega
   rw[hz];have km:=bP (show y.natAbs<=x.natAbs by omega);generalize DF (x.natAbs:Nat) (y.natAbs:Nat)=cm at *;(conv=>whnf)
   (repeat' ((first|(apply AG<;>intro hc<;>try omega)|refine AD (l7 _ _) ?_|refine AD (h2 _ _) ?_|refine AD (u2 _ _) ?_)<;>conv=>whnf))
   exact AW rfl (D5 _)
 ·have g1:=of_decide_eq_true hx
  have g2:=of_decide_eq_true hy;have hz:x+y=zv true (dg (x.natAbs+y.natAbs)):=by rw[e];simp only[cond_true,cond_false];omega
  rw[hz];(conv=>whnf)
  (repeat' ((first|refine AD (h1 _ _) ?_|refine AD (u1 _ _) ?_)<;>conv=>whnf))
  exact AW rfl (D5 _)
theorem Ag0 (N:a9 L) (n1 n2 q1 q2:Bool) (a b:List Nat) (ha:Sm 274877906943 a) (hb:Sm 274877906943 b):Ev L 116 [.agg (rZ q1 n1 a),.agg (rZ q2 n2 b)] (.agg (eZ (zv n1 a-zv n2 b))):=by
 have t2:=λ q=>jX N n2 q b (hb.le (by omega))
 have s2:Sm 274877906943 (dg (-(zv n2 b)).natAbs):=by rw[Int.natAbs_neg,FS];exact hb.tk
 have h1:=λ q q'=>uY N n1 (decide (-(zv n2 b)<0)) q q' a (dg (-(zv n2 b)).natAbs) ha s2
 rw[GI,<-Int.sub_eq_add_neg]at h1;refine Ev.x N.O7 rfl rfl ?_;(repeat' ((first|apply AE|refine AD (t2 _) ?_|refine AD (h1 _ _) ?_)<;>conv=>whnf))
 exact AW rfl (D5 _)
theorem AgY (N:a9 L) (n1 n2 q1 q2:Bool) (a b:List Nat) (ha:Sm 274877906943 a) (hb:Sm 274877906943 b):Ev L 117 [.agg (rZ q1 n1 a),.agg (rZ q2 n2 b)] (.int .i64 (o9 (zv n1 a-zv n2 b))):=by
 have h1:=λ q q'=>Ag0 N n1 n2 q q' a b ha hb
 have s1:Sm 274877906943 (dg (zv n1 a).natAbs):=by rw[FS];exact ha.tk
 have s2:Sm 274877906943 (dg (zv n2 b).natAbs):=by rw[FS];exact hb.tk
 have s3:Sm 274877906944 (dg (zv n1 a-zv n2 b).natAbs):=s1.add s2 (by rw[BQ,BQ];omega);have h2:=λ q=>jZ N (decide (zv n1 a-zv n2 b<0)) q (dg (zv n1 a-zv n2 b).natAbs) s3
 rw[GI]at h2;refine Ev.x N.O0 rfl rfl ?_;(repeat' ((first|apply AE|refine AD (h1 _ _) ?_|refine AD (h2 _) ?_)<;>conv=>whnf))
 exact B5 rfl
theorem jY (N:a9 L) (z:Int) (hz : -9223372036854775808<=z/\z<=9223372036854775807):Ev L 112 [.int .i64 z] (.agg (eZ z)):=by
 have two : ∀ k:Nat,k<18446744073709551616 -> ∀ n q,Ev L 111 [.agg [.bool n,.sl q [[.int .u32 ((k%4294967296:Nat):Int)],[.int .u32 ((k/4294967296:Nat):Int)]]]] (.agg (eZ (bif n then -(k:Int) else (k:Int)))):=λ k hk n q=>by
  have:=KU N n q [k%4294967296,k/4294967296] ⟨(iX hk).2,by simp⟩
  unfold zv at this;rw[Qa hk]at this;exact this
 refine Ev.x N.O5 rfl rfl ?_;by_cases h0:0<=z
 ·obtain ⟨k,rfl⟩:=Int.eq_ofNat_of_zero_le h0
  have hT:=two k (by omega);(repeat' ((first|(apply AG<;>intro hc<;>try omega)|apply GL|(apply B3;omega)|(apply E2;omega)|apply G3|refine J9 rfl rfl ?_|apply AE)<;>conv=>whnf))
  generalize k%4294967296=lo at *;generalize k/4294967296=hi at *;(repeat' (refine AD (hT _ _) ?_<;>conv=>whnf))
  exact AW rfl (D5 _)
 ·obtain ⟨k,hk⟩:=Int.eq_ofNat_of_zero_le (show 0 <= -(z+1) by omega)
  have ox:z = -((k+1:Nat):Int):=by omega
  have hT:=two (k+1) (by omega);(repeat' ((first|(apply AG<;>intro hc<;>try omega)|(apply AQ;omega)|apply gR|(apply CN.neg;omega)|(apply B3;omega)|apply AE)<;>conv=>whnf))
  rw[show IntKind.u64.wrap (-(z+1)+1)=((k+1:Nat):Int) by rw[IntWalk.u64_in _ (by omega)];omega];rw[ox];generalize k+1=k1 at *;(repeat' ((first|apply GL|(apply E2;omega)|apply G3|refine J9 rfl rfl ?_)<;>conv=>whnf))
  generalize k1%4294967296=lo at *;generalize k1/4294967296=hi at *;(repeat' (refine AD (hT _ _) ?_<;>conv=>whnf))
  exact AW rfl (D5 _)
theorem AgZ (N:a9 L) (n1 n2 q1 q2:Bool) (a b:List Nat) (ha:Sm 274877906944 a) (hb:Sm 274877906944 b):Ev L 120 [.agg (rZ q1 n1 a),.agg (rZ q2 n2 b)] (.agg (eZ ((Nat.gcd (val a) (val b):Nat):Int))):=by
 have h1:=λ q q'=>AgU N a b q q' ha.1 hb.1 ha.2 hb.2
 refine Ev.x N.O2 rfl rfl ?_;(repeat' ((first|apply AE|refine AD (h1 _ _) ?_)<;>conv=>whnf))
 exact AW (FF (by omega) (HP (by omega))) (D5 _)
theorem AfV (n1 n2:Bool) (A B:Nat) (hB:B≠0):(bif n1 then -(A:Int) else (A:Int))/(bif n2 then -(B:Int) else (B:Int))=(bif n1 != n2 then -((if n1=true/\A%B≠0 then A/B+1 else A/B:Nat):Int) else ((if n1=true/\A%B≠0 then A/B+1 else A/B:Nat):Int)) /\
  (bif n1 then -(A:Int) else (A:Int))%(bif n2 then -(B:Int) else (B:Int))=((if n1=true/\A%B≠0 then B-A%B else A%B:Nat):Int):=by
 have hBp:(0:Int)<B:=by omega
 have key : ∀ x:Int,x/(bif n2 then -(B:Int) else (B:Int))=(bif n2 then -(x/B) else x/B)/\x%(bif n2 then -(B:Int) else (B:Int))=x%B:=λ x=>by
  cases n2
  ·exact ⟨rfl,rfl⟩
  ·exact ⟨Int.ediv_neg x B,Int.emod_neg x B⟩
 rw[(key _).1,(key _).2];cases n1
 ·have h1:((A:Int))/B=((A/B:Nat):Int):=by simp
  have h2:((A:Int))%B=((A%B:Nat):Int):=by simp
  simp only[cond_false,h1,h2];cases n2<;>simp
 ·have hd:=Nat.div_add_mod A B
  have j9:=Nat.mod_lt A (show B>0 by omega);by_cases h0:A%B=0
  ·have e : -(A:Int)=(B:Int)*(-((A/B:Nat):Int)):=by
    rw[h0,Nat.add_zero]at hd;rw[Int.mul_neg,<-Int.natCast_mul,hd]
   have h1 : -(A:Int)/B = -((A/B:Nat):Int):=by rw[e,Int.mul_ediv_cancel_left _ (by omega)]
   have h2 : -(A:Int)%B=0:=by rw[e,Int.mul_emod_right]
   simp only[cond_true,h1,h2,h0];cases n2<;>simp
  ·have e : -(A:Int)=(B:Int)*(-((A/B+1:Nat):Int))+((B-A%B:Nat):Int):=by
    have h3:(B:Int)*((A/B:Nat):Int)+((A%B:Nat):Int)=A:=by rw[<-Int.natCast_mul,<-Int.natCast_add,hd]
    rw[Int.mul_neg,Int.natCast_add,Int.mul_add];omega
   have h1 : -(A:Int)/B = -((A/B+1:Nat):Int):=by
    rw[e,Int.mul_add_ediv_left _ _ (by omega),Int.ediv_eq_zero_of_lt (by omega) (by omega),Int.add_zero]
   have h2 : -(A:Int)%B=((B-A%B:Nat):Int):=by
    rw[e,Int.mul_add_emod_self_left,Int.emod_eq_of_lt (by omega) (by omega)]
   simp only[cond_true,h1,h2];cases n2<;>simp [h0]
theorem uZ (N:a9 L) (n1 n2 q1 q2:Bool) (a b:List Nat) (ha:Sm 274877906943 a) (hb:Sm 274877906943 b) (h0:zv n2 b≠0):Ev L 119 [.agg (rZ q1 n1 a),.agg (rZ q2 n2 b)] (.g8 [.agg (eZ (zv n1 a/zv n2 b)),.agg (eZ (zv n1 a%zv n2 b)),.int .i64 0]):=by
 have t1:=λ q=>KU N n1 q a (ha.le (by omega))
 have t2:=λ q=>KU N n2 q b (hb.le (by omega))
 have s1:Sm 274877906943 (dg (zv n1 a).natAbs):=by rw[FS];exact ha.tk
 have s2:Sm 274877906943 (dg (zv n2 b).natAbs):=by rw[FS];exact hb.tk
 generalize zv n1 a=x at *;generalize zv n2 b=y at *;have Ab:=λ q q'=>uW N (dg x.natAbs) (dg y.natAbs) q q' s1.1 s2.1 (by have:=s1.2;omega) (by have:=s2.2;omega) (by rw[BQ];omega)
 rw[BQ,BQ]at Ab;obtain ⟨e1,e2⟩:=AfV (decide (x<0)) (decide (y<0)) x.natAbs y.natAbs (by omega);have hx:(bif decide (x<0) then -(x.natAbs:Int) else (x.natAbs:Int))=x:=by have:=GI x;unfold zv at this;rw[BQ]at this;exact this
 have hy:(bif decide (y<0) then -(y.natAbs:Int) else (y.natAbs:Int))=y:=by have:=GI y;unfold zv at this;rw[BQ]at this;exact this
 rw[hx,hy]at e1 e2;rw[e1,e2];have l1:=s1.2;have l2:=s2.2;have hq:Sm 274877906943 (dg (x.natAbs/y.natAbs)):=s1.low (by rw[BQ];exact Nat.div_le_self _ _);have hr:Sm 274877906943 (dg (x.natAbs%y.natAbs)):=s2.low (by rw[BQ];exact Nat.le_of_lt (Nat.mod_lt _ (by omega)));have hrz:=JN (x.natAbs%y.natAbs);have jf:Ev L 103 [.sl false ((dg (x.natAbs/y.natAbs)).map AL),.sl true [[.int .u32 1]]] (.sl false ((dg (x.natAbs/y.natAbs+1)).map AL)):=by
  have:=uV N (dg (x.natAbs/y.natAbs)) [1] false true (EF _) (IO (by omega)) (by have:=hq.2;omega) (by simp)
  rw[BQ,show val [1]=1 from rfl]at this;exact this
 have wo:Sm 274877906944 (dg (x.natAbs/y.natAbs+1)):=hq.add (b:=[1]) (nK (by omega) (by omega)) (by rw[BQ];simp [val]);have vb:=λ q q'=>jW N (dg y.natAbs) (dg (x.natAbs%y.natAbs)) q q' s2.1 hr.1 (by omega) (by have:=hr.2;omega)
 rw[BQ,BQ]at vb;have u1:=λ n q=>KU N n q (dg (x.natAbs/y.natAbs)) (hq.le (by omega))
 have u2:=λ n q=>KU N n q (dg (x.natAbs/y.natAbs+1)) wo
 have ez : ∀ n V,zv n (dg V)=bif n then -(V:Int) else (V:Int):=λ n V=>by unfold zv;rw[BQ]
 have fin : ∀ (z:Int) (V:Nat),AH (.g8 [.agg (eZ z),.agg [.bool false,.sl false ((dg V).map AL)],.int .i64 0]) (.g8 [.agg (eZ z),.agg (eZ (V:Int)),.int .i64 0]):=λ z V=>by
  have e3:AV.agg (eZ (V:Int)) = .agg [.bool false,.sl false ((dg V).map AL)]:=(FF (by omega) (HP (by omega))).symm;rw[e3];refine AW rfl ?_;simp only[AZ,BS,and_true,true_and];exact ⟨C2 _,C2 _⟩
 clear e1 e2 hx hy;generalize x.natAbs/y.natAbs=qq at *;generalize x.natAbs%y.natAbs=rr at *;refine Ev.x N.O1 rfl rfl ?_;(repeat' ((first|(apply AG<;>intro hc<;>try omega)|apply AE|refine AD (t1 _) ?_|refine AD (t2 _) ?_|refine AD (Ab _ _) ?_)<;>conv=>whnf))
 generalize decide (x<0)=p at *;generalize decide (y<0)=r at *;cases p
 ·rw[if_neg (by simp),if_neg (by simp),<-ez]
  cases r;all_goals
   (conv=>whnf)
   (repeat' (refine AD (u1 _ _) ?_<;>conv=>whnf))
   exact fin _ _
 ·by_cases js:rr=0
  ·rw[if_neg (by simp [js]),if_neg (by simp [js]),<-ez]
   cases r;all_goals
    (conv=>whnf)
    (repeat' ((first|(apply AG<;>intro hc<;>try omega)|apply AP|refine AD (u1 _ _) ?_)<;>conv=>whnf))
    exact fin _ _
  ·rw[if_pos ⟨rfl,js⟩,if_pos ⟨rfl,js⟩,<-ez]
   cases r;all_goals
    (conv=>whnf)
    (repeat' ((first|(apply AG<;>intro hc<;>try omega)|apply AP|refine GA rfl ?_|refine AD (jf) ?_|refine AD (vb _ _) ?_|refine AD (u2 _ _) ?_)<;>conv=>whnf))
    exact fin _ _
theorem sA:dg 1=[1]:=by rw[KE (by omega)];simp [FZ]
theorem qC:AV.agg [.bool false,.sl false [],.sl false [[.int .u32 1]]] = .agg (eQ 0):=by
 show _=AV.agg (rQ _ _ _ _ _);rw[Rat.zero_num,Rat.zero_den,sA,show (0:Int).natAbs=0 from rfl,FZ];rfl
theorem Ae4 {x y:Int} (hy:y≠0):(Rat.divInt x y).num=(if y<0 then -(x/((Nat.gcd x.natAbs y.natAbs:Nat):Int)) else x/((Nat.gcd x.natAbs y.natAbs:Nat):Int))/\(Rat.divInt x y).den=(y/((Nat.gcd x.natAbs y.natAbs:Nat):Int)).natAbs:=by
 have h1:=Rat.num_divInt x y;have h2:=Rat.den_divInt x y;rw[if_neg hy]at h2;have hg:Int.gcd y x=Nat.gcd x.natAbs y.natAbs:=by rw[Int.gcd,Nat.gcd_comm]
 rw[hg]at h1 h2;have Jy:0<Nat.gcd x.natAbs y.natAbs:=Nat.gcd_pos_of_pos_right _ (by omega);have dx:((Nat.gcd x.natAbs y.natAbs:Nat):Int) ∣ x:=Int.ofNat_dvd_left.2 (Nat.gcd_dvd_left _ _);have dy:((Nat.gcd x.natAbs y.natAbs:Nat):Int) ∣ y:=Int.ofNat_dvd_left.2 (Nat.gcd_dvd_right _ _);generalize Nat.gcd x.natAbs y.natAbs=g at *;rw[h1,h2];obtain ⟨u,rfl⟩:=dx;obtain ⟨v,rfl⟩:=dy;have yo:(g:Int)≠0:=by omega
 refine ⟨?_,?_⟩
 ·rw[Int.mul_ediv_cancel_left _ yo]
  split
  ·rename_i h
   rw[Int.sign_eq_neg_one_of_neg h,show -1*((g:Int)*u)=g*(-u) by rw[Int.mul_neg];omega,Int.mul_ediv_cancel_left _ yo]
  ·rw[Int.sign_eq_one_of_pos (by omega),Int.one_mul,Int.mul_ediv_cancel_left _ yo]
 ·rw[Int.mul_ediv_cancel_left _ yo,Int.natAbs_mul,Int.natAbs_natCast,Nat.mul_div_cancel_left _ Jy]
theorem cM (N:a9 L) (n1 n2 q1 q2:Bool) (a b:List Nat) (ha:Sm 274877906943 a) (hb:Sm 274877906943 b):Ev L 121 [.agg (rZ q1 n1 a),.agg (rZ q2 n2 b)] (.agg (eQ (Rat.divInt (zv n1 a) (zv n2 b)))):=by
 have t1:=λ q=>jZ N n1 q a (ha.le (by omega))
 have t2:=λ q=>jZ N n2 q b (hb.le (by omega))
 by_cases h1:zv n1 a=0
 ·rw[h1,Rat.zero_divInt,<-qC]
  rw[h1,<-eN rfl]at t1;refine Ev.x N.JY rfl rfl ?_;(repeat' ((first|(apply AG<;>intro hc<;>try omega)|refine GA rfl ?_|apply AE|refine AD (t1 _) ?_)<;>conv=>whnf))
  exact AW rfl (bL false [] [1])
 have s1:o9 (zv n1 a)≠0:=by unfold o9;split<;>(try split)<;>omega
 by_cases h2:zv n2 b=0
 ·rw[h2,Rat.divInt_zero,<-qC]
  rw[h2,<-eN rfl]at t2;generalize o9 (zv n1 a)=sg at *;refine Ev.x N.JY rfl rfl ?_;(repeat' ((first|(apply AG<;>intro hc<;>try omega)|refine GA rfl ?_|apply AE|refine AD (t1 _) ?_|refine AD (t2 _) ?_)<;>conv=>whnf))
  exact AW rfl (bL false [] [1])
 have s2:o9 (zv n2 b)≠0:=by unfold o9;split<;>(try split)<;>omega
 obtain ⟨p1,p2⟩:=Ae4 (x:=zv n1 a) h2;have hG:=λ q q'=>AgZ N n1 n2 q q' a b (ha.le (by omega)) (hb.le (by omega))
 have hle:Nat.gcd (val a) (val b)<=val b:=Nat.gcd_le_right _ (by have:=FS n2 b;omega);have Jy:0<Nat.gcd (val a) (val b):=Nat.gcd_pos_of_pos_right _ (by have:=FS n2 b;omega);have sg:Sm 274877906943 (dg (Nat.gcd (val a) (val b))):=hb.low hle;rw[FS,FS]at p1 p2;have Tp:decide (((Nat.gcd (val a) (val b):Nat):Int)<0)=false:=by simp
 have Vv:Sm 274877906943 (dg (((Nat.gcd (val a) (val b):Nat):Int)).natAbs):=by rw[Int.natAbs_natCast];exact sg
 have zg:zv (decide (((Nat.gcd (val a) (val b):Nat):Int)<0)) (dg (((Nat.gcd (val a) (val b):Nat):Int)).natAbs)=((Nat.gcd (val a) (val b):Nat):Int):=GI _;have og:=λ q q'=>uZ N n1 _ q q' a _ ha Vv (by rw[zg];omega)
 have oh:=λ q q'=>uZ N n2 _ q q' b _ hb Vv (by rw[zg];omega)
 rw[zg]at og oh;have rj:Sm 274877906943 (dg (zv n1 a/((Nat.gcd (val a) (val b):Nat):Int)).natAbs):=ha.low (by
  have:(zv n1 a/((Nat.gcd (val a) (val b):Nat):Int)).natAbs<=(zv n1 a).natAbs:=Int.natAbs_ediv_le_natAbs _ _
  rw[FS]at this;exact this)
 have yo:0<((Nat.gcd (val a) (val b):Nat):Int):=by omega
 generalize ((Nat.gcd (val a) (val b):Nat):Int)=g at *;generalize zv n1 a=x at *;generalize zv n2 b=y at *;generalize o9 x=sx at *;generalize o9 y=sy at *;have hN:=λ q=>jX N (decide (x/g<0)) q (dg (x/g).natAbs) (rj.le (by omega))
 rw[GI]at hN;have Bc:decide (y/g<0)=decide (y<0):=by
  congr 1;rw[eq_iff_iff,Int.ediv_lt_iff_lt_mul (by omega),Int.zero_mul]
 refine Ev.x N.JY rfl rfl ?_;(repeat' ((first|(apply AG<;>intro hc<;>try omega)|apply AE|refine AD (t1 _) ?_|refine AD (t2 _) ?_|refine AD (hG _ _) ?_|refine AD (og _ _) ?_|refine AD (oh _ _) ?_)<;>conv=>whnf))
 cases Ut:decide (y/g<0)
 ·rw[Ut]at Bc
  rw[if_neg (of_decide_eq_false Bc.symm)]at p1;(conv=>whnf)
  skip
  refine AW ?_ (C3 _);show _=AV.agg (rQ _ _ _ _ _);rw[p1,p2]
 ·rw[Ut]at Bc
  rw[if_pos (of_decide_eq_true Bc.symm)]at p1;(conv=>whnf)
  (repeat' (refine AD (hN _) ?_<;>conv=>whnf))
  refine AW ?_ (C3 _);show _=AV.agg (rQ _ _ _ _ _);rw[p1,p2]
theorem Ae6 {z:Int} {d:List Nat}:Rat.divInt z (zv false d)=mkRat z (val d):=by rw[FK,Rat.divInt_ofNat]
def Wc (n:Bool) (m d:List Nat) (n':Bool) (m' d':List Nat) (k:Nat):Prop:=Sm k m'/\Sm k d'/\val d'≠0/\qv n m d=mkRat (zv n' m') (val d')
theorem rA (n:Bool) (m d:List Nat):AZ (.g8 [.agg (rZ false n m),.agg (rZ false false d)]):=by
 simp only[AZ,BS,and_true,true_and];exact ⟨C2 _,C2 _⟩
theorem UR (N:a9 L) (n q:Bool) (m d:List Nat) (k:Nat) (hk:1<=k/\k<=274877906943) (hm:Sm k m) (hd:Sm k d) : ∃ n' m' d',Ev L 122 [.agg (rQ false q n m d)] (.g8 [.agg (rZ false n' m'),.agg (rZ false false d')])/\Wc n m d n' m' d' k:=by
 have t1:=λ q=>HC N d q hd.1 (by have:=hd.2;omega)
 have hl:=JN (val d);by_cases h0:val d=0
 ·refine ⟨false,[],[1],?_,Ni _,nK hk.1 (by omega),by decide,by unfold qv;rw[h0,Rat.mkRat_zero,Ph,Rat.zero_mkRat]⟩
  refine Ev.x N.K5 rfl rfl ?_;(repeat' ((first|(apply AG<;>intro hc<;>try omega)|apply AP|refine GA rfl ?_|apply AE|refine AD (t1 _) ?_)<;>conv=>whnf))
  exact AW rfl (rA false [] [1])
 ·refine ⟨n,m,dg (val d),?_,hm,hd.tk,by rw[BQ];exact h0,by rw[BQ];rfl⟩
  refine Ev.x N.K5 rfl rfl ?_;(repeat' ((first|(apply AG<;>intro hc<;>try omega)|apply AP|apply AE|refine AD (t1 _) ?_)<;>conv=>whnf))
  exact AW rfl (rA _ _ _)
theorem Ag4 (N:a9 L) (n q:Bool) (m d:List Nat) (hm:Sm 274877906943 m) (hd:Sm 274877906943 d):Ev L 123 [.agg (rQ false q n m d)] (.agg (eQ (qv n m d))):=by
 obtain ⟨n',m',d',hp,s1,s2,s3,s4⟩:=UR N n q m d 274877906943 (by omega) hm hd;have hr:=λ q q'=>cM N n' false q q' m' d' s1 s2
 rw[Ae6,<-s4]at hr;refine Ev.x N.PG rfl rfl ?_;(repeat' ((first|apply AE|refine AD (hp) ?_|refine AD (hr _ _) ?_)<;>conv=>whnf))
 exact AW rfl (C3 _)
theorem Zb (z:Int):AV.agg [.bool (decide (z<0)),.sl false ((dg z.natAbs).map AL),.sl false [[.int .u32 1]]] = .agg (eQ (z:Rat)):=by
 show _=AV.agg (rQ _ _ _ _ _);rw[Rat.num_intCast,Rat.den_intCast,sA];rfl
theorem KH (N:a9 L) (z:Int) (hz : -9223372036854775808<=z/\z<=9223372036854775807):Ev L 124 [.int .i64 z] (.agg (eQ (z:Rat))):=by
 have h1:=jY N z hz;refine Ev.x N.PF rfl rfl ?_;(repeat' ((first|refine GA rfl ?_|apply AE|refine AD (h1) ?_)<;>conv=>whnf))
 exact AW (Zb z) (C3 _)
theorem Nj {z:Int} (hz : -9223372036854775808<=z/\z<=9223372036854775808):Sm 2 (dg z.natAbs):=Sm.dg (by omega)
theorem cL (N:a9 L) (x y:Int) (hx : -9223372036854775808<=x/\x<=9223372036854775807) (hy : -9223372036854775808<=y/\y<=9223372036854775807):Ev L 125 [.int .i64 x,.int .i64 y] (.agg (eQ (Rat.divInt x y))):=by
 have h1:=jY N x hx;have h2:=jY N y hy;have hr:=λ q q'=>cM N (decide (x<0)) (decide (y<0)) q q' _ _ ((Nj (z:=x) (by omega)).le (by omega)) ((Nj (z:=y) (by omega)).le (by omega))
 rw[GI,GI]at hr;refine Ev.x N.PC rfl rfl ?_;(repeat' ((first|apply AE|refine AD (h1) ?_|refine AD (h2) ?_|refine AD (hr _ _) ?_)<;>conv=>whnf))
 exact AW rfl (C3 _)
theorem VJ {k l:Nat} {n1 n2:Bool} {a b:List Nat} (ha:Sm k a) (hb:Sm l b):Sm (k+l) (dg (zv n1 a*zv n2 b).natAbs):=ha.mul hb (by rw[Int.natAbs_mul,FS,FS])
theorem AkI {k:Nat} {x y:Int} (ha:Sm k (dg x.natAbs)) (hb:Sm k (dg y.natAbs)):Sm (k+1) (dg (x+y).natAbs):=ha.add hb (by rw[BQ,BQ];omega)
theorem Ag1 (N:a9 L) (k:Nat) (hk:1<=k/\k<=68719476736) (n1 n2 q2 q4:Bool) (m1 d1 m2 d2:List Nat) (eu:Sm k m1) (ki:Sm k d1) (bh:Sm k m2) (nt:Sm k d2) :
  Ev L 126 [.agg (rQ false q2 n1 m1 d1),.agg (rQ false q4 n2 m2 d2)] (.agg (eQ (qv n1 m1 d1+qv n2 m2 d2))):=by
 obtain ⟨a1,a2,a3,bz,s1,s2,s3,s5⟩:=UR N n1 q2 m1 d1 k (by omega) eu ki;obtain ⟨b1,b2,b3,af,t1,t2,t3,t5⟩:=UR N n2 q4 m2 d2 k (by omega) bh nt;have l1:=s1.2;have l2:=s2.2;have l3:=t1.2;have l4:=t2.2;rw[s5,t5,dE s3 t3,<-FK b3,<-FK a3];have fp:=λ q q'=>US N a1 false q q' a2 b3 s1.1 t2.1 (by omega)
 have il:=λ q q'=>US N b1 false q q' b2 a3 t1.1 s2.1 (by omega)
 have oi:=λ q q'=>US N false false q q' a3 b3 s2.1 t2.1 (by omega)
 have g1:Sm (k+k) (dg (zv a1 a2*zv false b3).natAbs):=VJ s1 t2;have g2:Sm (k+k) (dg (zv b1 b2*zv false a3).natAbs):=VJ t1 s2;have g3:=AkI g1 g2;have g4:Sm (k+k) (dg (zv false a3*zv false b3).natAbs):=VJ s2 t2;have hA:=λ q q'=>uY N (decide (zv a1 a2*zv false b3<0)) (decide (zv b1 b2*zv false a3<0)) q q' _ _ (g1.le (by omega)) (g2.le (by omega))
 rw[GI,GI]at hA;have hR:=λ q q'=>cM N (decide (zv a1 a2*zv false b3+zv b1 b2*zv false a3<0)) (decide (zv false a3*zv false b3<0)) q q' _ _ (g3.le (by omega)) (g4.le (by omega))
 rw[GI,GI,show zv false a3*zv false b3=((val a3*val b3:Nat):Int) by rw[FK,FK];simp,Rat.divInt_ofNat]at hR;rw[show zv false a3*zv false b3=((val a3*val b3:Nat):Int) by rw[FK,FK];simp]at oi;refine Ev.x N.PA rfl rfl ?_;(repeat' ((first|apply AE|refine AD (bz) ?_|refine AD (af) ?_|refine AD (fp _ _) ?_|refine AD (il _ _) ?_|refine AD (hA _ _) ?_|refine AD (oi _ _) ?_|refine AD (hR _ _) ?_)<;>conv=>whnf))
 exact AW rfl (C3 _)
theorem Ag3 (N:a9 L) (k:Nat) (hk:1<=k/\k<=68719476736) (n1 n2 q2 q4:Bool) (m1 d1 m2 d2:List Nat) (eu:Sm k m1) (ki:Sm k d1) (bh:Sm k m2) (nt:Sm k d2) :
  Ev L 128 [.agg (rQ false q2 n1 m1 d1),.agg (rQ false q4 n2 m2 d2)] (.agg (eQ (qv n1 m1 d1*qv n2 m2 d2))):=by
 obtain ⟨a1,a2,a3,bz,s1,s2,s3,s5⟩:=UR N n1 q2 m1 d1 k (by omega) eu ki;obtain ⟨b1,b2,b3,af,t1,t2,t3,t5⟩:=UR N n2 q4 m2 d2 k (by omega) bh nt;have l1:=s1.2;have l2:=s2.2;have l3:=t1.2;have l4:=t2.2;rw[s5,t5,lW];have fp:=λ q q'=>US N a1 b1 q q' a2 b2 s1.1 t1.1 (by omega)
 have oi:=λ q q'=>US N false false q q' a3 b3 s2.1 t2.1 (by omega)
 have g1:Sm (k+k) (dg (zv a1 a2*zv b1 b2).natAbs):=VJ s1 t1;have g4:Sm (k+k) (dg (zv false a3*zv false b3).natAbs):=VJ s2 t2;have hR:=λ q q'=>cM N (decide (zv a1 a2*zv b1 b2<0)) (decide (zv false a3*zv false b3<0)) q q' _ _ (g1.le (by omega)) (g4.le (by omega))
 rw[GI,GI,show zv false a3*zv false b3=((val a3*val b3:Nat):Int) by rw[FK,FK];simp,Rat.divInt_ofNat]at hR;rw[show zv false a3*zv false b3=((val a3*val b3:Nat):Int) by rw[FK,FK];simp]at oi;refine Ev.x N.PD rfl rfl ?_;(repeat' ((first|apply AE|refine AD (bz) ?_|refine AD (af) ?_|refine AD (fp _ _) ?_|refine AD (oi _ _) ?_|refine AD (hR _ _) ?_)<;>conv=>whnf))
 exact AW rfl (C3 _)
theorem zC {a b:Int} {d e:Nat} (hd:d≠0) (he:e≠0):o9 (a*e-b*d)=o9 (mkRat a d-mkRat b e).num:=by
 have h:mkRat a d-mkRat b e=mkRat (a*e-b*d) (d*e):=by
  rw[Rat.sub_eq_add_neg,Rat.neg_mkRat,dE hd he,Int.neg_mul,<-Int.sub_eq_add_neg]
 rw[h,zF (Nat.mul_ne_zero hd he)]
theorem Ag2 (N:a9 L) (k:Nat) (hk:1<=k/\k<=68719476736) (n1 n2 q2 q4:Bool) (m1 d1 m2 d2:List Nat) (eu:Sm k m1) (ki:Sm k d1) (bh:Sm k m2) (nt:Sm k d2) :
  Ev L 127 [.agg (rQ false q2 n1 m1 d1),.agg (rQ false q4 n2 m2 d2)] (.int .i64 (o9 (qv n1 m1 d1-qv n2 m2 d2).num)):=by
 obtain ⟨a1,a2,a3,bz,s1,s2,s3,s5⟩:=UR N n1 q2 m1 d1 k (by omega) eu ki;obtain ⟨b1,b2,b3,af,t1,t2,t3,t5⟩:=UR N n2 q4 m2 d2 k (by omega) bh nt;have l1:=s1.2;have l2:=s2.2;have l3:=t1.2;have l4:=t2.2;rw[s5,t5,<-zC s3 t3,<-FK b3,<-FK a3];have fp:=λ q q'=>US N a1 false q q' a2 b3 s1.1 t2.1 (by omega)
 have il:=λ q q'=>US N b1 false q q' b2 a3 t1.1 s2.1 (by omega)
 have g1:Sm (k+k) (dg (zv a1 a2*zv false b3).natAbs):=VJ s1 t2;have g2:Sm (k+k) (dg (zv b1 b2*zv false a3).natAbs):=VJ t1 s2;have hC:=λ q q'=>AgY N (decide (zv a1 a2*zv false b3<0)) (decide (zv b1 b2*zv false a3<0)) q q' _ _ (g1.le (by omega)) (g2.le (by omega))
 rw[GI,GI]at hC;refine Ev.x N.PB rfl rfl ?_;(repeat' ((first|apply AE|refine AD (bz) ?_|refine AD (af) ?_|refine AD (fp _ _) ?_|refine AD (il _ _) ?_|refine AD (hC _ _) ?_)<;>conv=>whnf))
 exact B5 rfl
theorem Bt.mg {k:Nat} {x:Rat} (h:Bt k x) (hk:k<2199023255552):Sm 68719476736 (dg x.num.natAbs)/\Sm 68719476736 (dg x.den):=h.Rs (by omega)
theorem R7 (N:a9 L) {x y:Rat} {k l:Nat} (hx:Bt k x) (hy:Bt l y) (hk:k<2199023255552) (hl:l<2199023255552):Ev L 126 [.agg (eQ x),.agg (eQ y)] (.agg (eQ (x+y))):=by
 have:=Ag1 N 68719476736 (by omega) (decide (x.num<0)) (decide (y.num<0)) false false _ _ _ _ (hx.mg hk).1 (hx.mg hk).2 (hy.mg hl).1 (hy.mg hl).2
 rw[F8,F8]at this;exact this
theorem UQ (N:a9 L) {x y:Rat} {k l:Nat} (hx:Bt k x) (hy:Bt l y) (hk:k<2199023255552) (hl:l<2199023255552):Ev L 128 [.agg (eQ x),.agg (eQ y)] (.agg (eQ (x*y))):=by
 have:=Ag3 N 68719476736 (by omega) (decide (x.num<0)) (decide (y.num<0)) false false _ _ _ _ (hx.mg hk).1 (hx.mg hk).2 (hy.mg hl).1 (hy.mg hl).2
 rw[F8,F8]at this;exact this
theorem vK (N:a9 L) {x:Rat} {k:Nat} (hx:Bt k x) (hk:k<2199023255552):Ev L 123 [.agg (eQ x)] (.agg (eQ x)):=by
 have:=Ag4 N (decide (x.num<0)) false _ _ ((hx.mg hk).1.le (by omega)) ((hx.mg hk).2.le (by omega))
 rw[F8]at this;exact this
theorem YM (N:a9 L) {x y:Rat} {k l:Nat} (hx:Bt k x) (hy:Bt l y) (hk:k<2199023255552) (hl:l<2199023255552):Ev L 127 [.agg (eQ x),.agg (eQ y)] (.int .i64 (o9 (x-y).num)):=by
 have:=Ag2 N 68719476736 (by omega) (decide (x.num<0)) (decide (y.num<0)) false false _ _ _ _ (hx.mg hk).1 (hx.mg hk).2 (hy.mg hl).1 (hy.mg hl).2
 rw[F8,F8]at this;exact this
theorem Mz {x y:Rat}:o9 (x-y).num=0↔x=y:=by
 have h:o9 (x-y).num=0↔(x-y).num=0:=by unfold o9;split<;>(try split)<;>omega
 rw[h,Rat.num_eq_zero];constructor
 ·intro h;grind
 ·rintro rfl;exact Rat.sub_self
theorem AgI (N:cu L) {x:Rat} {k:Nat} (hx:Bt k x) (hk:k<2199023255552):Ev L 152 [.agg (eQ x)] (.agg (eQ (-x))):=by
 have hT:=vK N.toa9 hx hk;have hN:=λ q=>jX N.toa9 (decide (x.num<0)) q (dg x.num.natAbs) ((hx.mg hk).1.le (by omega))
 rw[GI]at hN;refine Ev.x N.PE rfl rfl ?_;(repeat' ((first|apply AE|refine AD (hT) ?_|refine AD (hN _) ?_)<;>conv=>whnf))
 refine AW ?_ (C3 _);show _=AV.agg (rQ _ _ _ _ _);rw[Rat.neg_num,Rat.neg_den]
def I5 (l:List Rat):Nat->Nat
 | 0=>0
 | n+1=>if l.getD n 0=0 then I5 l n else n+1
theorem YB (l:List Rat) : ∀ n,I5 l n<=n
 | 0=>Nat.le_refl _
 | n+1=>by rw[I5];split;exact Nat.le_succ_of_le (YB l n);exact Nat.le_refl _
def RP (l:List Rat):List Rat:=l.take (I5 l l.length)
theorem Ps (l:List Rat):(RP l).length=I5 l l.length:=by rw[RP,List.length_take];exact Nat.min_eq_left (YB _ _)
end Go.c6

namespace Go.c6
open F
theorem Af8 {L:Lib} {f:Nat} {fn:AFn} {vs:List AV} {own l8:AJ} {r:AV} (hL:L f=some fn) (ux:JK fn.body=true) (h:HS L f vs own r l8):l8=own:=by
 obtain ⟨n,h⟩:=h;cases n with
 | zero=>simp [D6]at h
 | succ n =>
  rw[YJ]at h;simp only[hL]at h;split at h
  ·split at h
   ·rename_i st k7
    split at h
    ·simp only[Option.some.injEq,Prod.mk.injEq]at h
     rw[<-h.2];exact J1 n (by simp [SD,ux]) k7
    ·cases h
   ·cases h
  ·cases h
attribute [local irreducible] AA AF AX AC CN AR BA A6 BV BH CM EI BO AY B0 CJ AB A5 AH pw CQ CE C8 EA DP BT CP BU C7
set_option maxHeartbeats 1000000
variable {L:Lib}
theorem AeJ (N:c8 L) (l:List Nat) (s:Nat) (hD:A1 l) (hl:l.length<=1099511627776):A5 L 65 [.row 5 0 1 0 l.length] [(0,.row 5 0 1 0 l.length)] [(5,s,.rw 1 (l.map AL))] (λ r _=>r = .row 5 0 1 0 (dg (val l)).length):=by
 have hlen : ∀ n,n<=l.length->l.take n=dg (val l)->n=(dg (val l)).length:=λ n h1 h2=>by
  rw[<-h2,List.length_take];omega
 refine HR 1000 N.G0 rfl rfl ?_;(repeat' (apply AE<;>conv=>whnf))
 refine D4 (λ n=>n) (λ(n:Nat)=>n<=l.length /\ ∀ i,n<=i->i<l.length->l[i]? = some 0) (λ n=>[(3,.int .i64 n)]) (λ_=>[]) l.length ⟨Nat.le_refl _,λ i h1 h2=>by omega⟩ ?_;intro n ⟨p1,p2⟩ ih;rcases n with _|n
 ·(repeat' ((first|(apply AG<;>intro hc<;>try omega)|apply AE)<;>conv=>whnf))
  refine H5 0 (by omega) (by omega) ?_;(conv=>whnf)
  refine ⟨rfl,_,rfl,?_⟩;rw[<-hlen 0 p1 (HK hD p1 p2 (Or.inl rfl))];rfl
 ·have e1:((n+1:Nat):Int)-1=n:=by omega
  (repeat' ((first|(apply AG<;>intro hc<;>try omega)|(apply A2;omega)|(apply BL;omega)|(refine T8 (by assumption) ?_ (λ v hv hb => ?_);omega)|apply AE)<;>conv=>whnf))
  ·rw[e1]
   exact BB [] (ih n (by omega) ⟨by omega,λ i h1 h2=>by
    by_cases h:i=n
    ·subst h
     rw[e1,Int.toNat_natCast]at hv;rw[hv];congr 1;omega
    ·exact p2 i (by omega) h2⟩)
  ·refine H5 (n+1) (by omega) (by omega) ?_
   (conv=>whnf)
   refine ⟨rfl,_,rfl,?_⟩;rw[e1,Int.toNat_natCast]at hv;rw[<-hlen (n+1) p1 (HK hD p1 p2 (Or.inr ⟨_,hv,by omega⟩))];rfl
theorem AeI (N:c8 L) (l:List Nat) (s t:Nat) (own:AJ) (hD:A1 l) (hl:l.length<=1099511627776) (hb:(own s).e8 t=some ⟨1,l.map AL⟩) (ht:t<(own s).g9) (ma:F5 s=true):HS L 65 [.row s t 1 0 l.length] own (.row s t 1 0 (dg (val l)).length) own:=by
 have hs:JH (λ_ _=>(s,t)) own [(5,s,.rw 1 (l.map AL))]:=by
  have key : ∀ k u c,c5 [(5,s,A8.rw 1 (l.map AL))] k u=some c->k=5/\u=0/\c = .rw 1 (l.map AL):=λ k u c e=>by
   simp only[c5,c9]at e;cases hk:Nat.beq k 5<;>simp only[hk,cond_true,cond_false]at e
   ·cases e
   ·cases u with
    | zero=>simp only[Option.some.injEq]at e;exact ⟨Nat.eq_of_beq_eq_true hk,rfl,e.symm⟩
    | succ u=>cases e
  refine ⟨λ k s' c e => ?_,λ k u c e => ?_,λ k u c e=>ht,λ k u k' u' c c' e e' _ => ?_,λ_ _ _ _ _=>ma⟩
  ·simp only[c9]at e
   cases hk:Nat.beq k 5<;>simp only[hk,cond_true,cond_false]at e
   ·cases e
   ·simp only[Option.some.injEq,Prod.mk.injEq]at e;exact e.1
  ·obtain ⟨_,_,rfl⟩:=key k u c e
   exact hb
  ·obtain ⟨rfl,rfl,_⟩:=key k u c e
   obtain ⟨rfl,rfl,_⟩:=key k' u' c' e';exact ⟨rfl,rfl⟩
 have hw:=AeJ N l s hD hl;unfold A5 at hw;obtain ⟨r,l8,σ',M',h1,h2,h3,rfl⟩:=hw _ own hs;have ho:=Af8 N.G0 (by decide +kernel) h1;subst ho;have h4:AV.row (σ' 5 0).1 (σ' 5 0).2 1 0 l.length=AV.row s t 1 0 l.length:=h3 0;simp only[AV.row.injEq]at h4;have h5:HS L 65 [.row s t 1 0 l.length] l8 (.row (σ' 5 0).1 (σ' 5 0).2 1 0 (dg (val l)).length) l8:=h1;rw[h4.1,h4.2.1]at h5;exact h5
theorem aE (N:c8 L) {l:List Nat} {tm:Tm} {M:Mem} {K:AV->Mem->Prop} {key s len:Nat} (hD:A1 l) (hl:l.length<=1099511627776) (hm:c9 M key=some (s,.rw 1 (l.map AL))) (hlen:len=l.length) (hk:K (.row key 0 1 0 (dg (val l)).length) M):A5 L 65 [.row key 0 1 0 len] tm M K:=by
 subst hlen;unfold A5;intro σ own hs;have dc:=hs.site _ _ _ hm;have Dw:c5 M key 0=some (.rw 1 (l.map AL)):=by simp only[c5,hm]
 have hb:=hs.e8 _ _ _ Dw;have ht:=hs.old _ _ _ Dw;refine ⟨.row key 0 1 0 (dg (val l)).length,own,σ,M,?_,hs,λ_=>rfl,hk⟩;exact AeI N l (σ key 0).1 (σ key 0).2 own hD hl hb ht (hs.low _ _ _ (EU hm) rfl)
end Go.c6

namespace Go.c6
open F
attribute [local irreducible] AA AF AX AC CN AR BA A6 BV BH CM EI BO AY B0 CJ AB A5 AH pw CQ CE C8 EA DP BT CP BU C7
set_option maxHeartbeats 4000000
variable {L:Lib}
abbrev jK (v:List Nat) (j m s xl:Nat):Tm:=[(102,AV.sl false (List.map AL v)),(101,AV.row 71012 0 1 j (v.length+1)),
           (100,AV.int IntKind.i64 (↑j + ↑v.length+1)),(99,AV.int IntKind.i64 (↑j + ↑v.length)),
           (98,AV.int IntKind.i64 ↑v.length),(97,AV.int IntKind.i64 ↑j),(96,AV.int IntKind.i64 ↑j),
           (95,AV.row 71012 0 1 0 (xl+1)),(94,AV.int IntKind.i64 ↑j),(93,AV.row 28 0 1 0 m),
           (90,AV.bool true),(14,AV.int IntKind.i64 ↑j),(13,AV.sl false (List.map AL v)),
           (12,AV.row 71012 0 1 0 (xl+1)),(11,AV.int IntKind.u64 ↑s),(7,AV.row 28 0 1 0 m),
           (6,AV.int IntKind.i64 ↑v.length)]
abbrev AfR:List It:=[It.lp G6.l2,It.e8 2,It.code
      (((BG.ops G6.z9 false).dr [9,10,84,85,86,87,118,119,120,121,122,123,124,125,126]
         []).seq
       (((BG.ops G6.ax false).dr [127,128,129,130,131] []).seq
        ((((BG.ops G6.az false).dr [15,132,133] []).seq
           (BG.cond 134
            (((BG.ops G6.dn false).dr [0,1,5,7,134,135,136] []).seq BG.ret)
            BG.skip)).seq
         (((BG.ops G6.ff false).dr [134] []).seq
          ((((BG.ops G6.fw false).dr [1] []).seq (BG.block 4 G6.l3.loop)).seq
           (((BG.ops G6.Be false).dr
              [0,5,9,137,138,139,140,162,163,164,165,166,167,168,169] []).seq
            (((BG.ops G6.Bf false).dr [7,170,171,172] []).seq BG.ret)))))))]
section
variable {A W C w v:List Nat} {j m s xl q:Nat} {K:AV->Mem->Prop}
theorem jB (hA:A.length=j) (hW:W.length=v.length+1) (D2:A1 W) (da:A1 v) (ef:2<=v.length) (si:v.length<=549755813888) (z0:0<val v)
  (r1:q<4294967296) (r2:val W/val v<=q) (r3:q<=val W/val v+1)
  (hk : ∀ (W':List Nat) (o':List (List AV)) (q':Nat),W'.length=v.length+1->A1 W'->val W'=val W%val v->q'=val W/val v->K (.int .u32 (q':Int)) [(71012,71012,.rw 1 ((A++W'++C).map AL)),(28,28,.rw 1 (w.map AL)),(71012,71012,.rw 1 o')])
  (iv : ∀ (W':List Nat) (o':List (List AV)) (q':Nat),W'.length=v.length+1->A1 W'->val W'=val W%val v->q'=val W/val v->K (.int .u32 (q':Int)) [(71012,71012,.rw 1 ((A++W'++C).map AL)),(71012,71012,.rw 1 o'),(28,28,.rw 1 (w.map AL))]) :
  AA L AfR ([(86,.int .i64 0),(85,.int .i64 v.length),(84,.sl false (v.map AL)),(10,.int .u64 0),(9,.int .u64 0),(7,.int .u64 (q:Int)),(5,.int .i64 v.length),(0,AV.row 71012 0 1 j (v.length+1)),(1,AV.sl false (List.map AL v))]++HQ 1000 (jK v j m s xl))
   [(71012,71012,A8.rw 1 (List.map AL (A++W++C))),(28,28,A8.rw 1 (List.map AL w))] (pS 1000 G6 (jK v j m s xl) K):=by
 refine gD (λ i _ _ _=>v.length-i) (λ(i:Nat) (Z:List Nat) (c b:Nat)=>i<=v.length/\Z.length=v.length+1/\A1 Z/\c<4294967296/\b<=1/\Z.drop i=W.drop i/\val (Z.take i)+q*val (v.take i)=val (W.take i)+4294967296^i*(c+b)) (λ i Z c b=>[(86,.int .i64 i),(10,.int .u64 (b:Int)),(9,.int .u64 (c:Int))]) (λ i Z c b=>[(71012,71012,.rw 1 ((A++Z++C).map AL))]) [] [] 0 W 0 0 (by (conv=>whnf);exact ⟨rfl,rfl,rfl⟩) ⟨by omega,hW,D2,by omega,by omega,rfl,by simp [val]⟩ ?_;intro i Z c b ⟨p1,p2,p3,p4,p5,p6,p7⟩ ih;by_cases hi:i<v.length
 ·obtain ⟨d,hd⟩ : ∃ d,v[i]? = some d:=⟨_,zE hi⟩
  obtain ⟨u,hu⟩ : ∃ u,Z[i]? = some u:=⟨_,zE (by omega)⟩;have y7:=da.at hd;have ow:=p3.at hu;obtain ⟨pr,pk⟩ : ∃ pr,pr=q*d+c:=⟨_,rfl⟩;obtain ⟨m1,m2,m3⟩:=zJ r1 y7 p4 pk;have ue:W[i]? = some u:=by
   have e1:(Z.drop i)[0]? = (W.drop i)[0]? := by rw[p6]
   simpa [hu] using e1.symm
  (repeat' ((first|(apply AG<;>intro hc<;>try omega)|(apply A2;omega)|(apply HB;omega)|(apply RS;omega)|apply GL|(apply B3;omega)|(refine A9 (by assumption) ?_ rfl ?_;omega)|apply AE)<;>conv=>whnf))
  rw[<-pk];refine S1 i hu (by omega) ?_;(conv=>whnf)
  (repeat' ((first|(apply A2;omega)|(apply aO;omega)|(apply B3;omega)|apply G3)<;>conv=>whnf))
  obtain ⟨s1,s2⟩:=fQ ow (show pr%4294967296<4294967296 by omega) p5;have k7:=Ai7 p7 pk rfl ow p5;generalize E9 (E9 u (pr%4294967296)) b=t at *;refine QS i (by omega) (by omega) ?_;(conv=>whnf)
  (repeat' ((first|(apply AQ;omega)|apply aM)<;>conv=>whnf))
  refine BN [] (by (conv=>whnf);exact ⟨rfl,rfl,rfl⟩) (ih (i+1) _ _ _ (by omega) ⟨by omega,by simpa using p2,p3.set _ (by omega),m1,s2,?_,?_⟩)
  ·rw[List.drop_set_of_lt (by omega)]
   have e1:(Z.drop i).drop 1=(W.drop i).drop 1:=by rw[p6]
   simpa using e1
  ·rw[G8 (by omega),ER hd,ER ue,Nat.pow_succ]
   exact k7
 ·obtain rfl:i=v.length:=by omega
  clear ih;obtain ⟨u,hu⟩ : ∃ u,Z[v.length]? = some u:=⟨_,zE (by omega)⟩;have ow:=p3.at hu;have ue:W[v.length]? = some u:=by
   have e1:(Z.drop v.length)[0]? = (W.drop v.length)[0]? := by rw[p6]
   simpa [hu] using e1.symm
  rw[DH (Nat.le_refl v.length)]at p7;obtain ⟨s1,s2⟩:=fQ ow p4 p5;have k7:=Ai5 p7 rfl ow p4 p5;have eW:val W=val (W.take v.length)+4294967296^v.length*u:=by
   rw[<-ER ue,DH (by omega)]
  rw[<-eW,<-G8 (show v.length<Z.length by omega),DH (by simp;omega)]at k7;(repeat' ((first|(apply AG<;>intro hc<;>try omega)|(apply A2;omega)|apply AE)<;>conv=>whnf))
  refine S1 v.length hu (by omega) ?_;(conv=>whnf)
  (repeat' ((first|(apply A2;omega)|(apply aO;omega)|(apply B3;omega)|apply G3)<;>conv=>whnf))
  generalize E9 (E9 u c) b=t at *;refine QS v.length (by omega) (by omega) ?_;(conv=>whnf)
  (repeat' ((first|(apply AG<;>intro hc<;>try omega)|apply aM|(apply E2;omega)|apply AP)<;>conv=>whnf))
  ·have Ui:t/9223372036854775808=0:=by omega
   rw[Ui,Nat.mul_zero,Nat.add_zero]at k7;obtain ⟨y1,y2⟩:=sD z0 r2 k7;exact ⟨rfl,_,rfl,hk _ _ _ (by simpa using p2) (p3.set _ (by omega)) y2 y1⟩
  ·have Uj:t/9223372036854775808=1:=by omega
   rw[Uj,Nat.mul_one]at k7;have Cj:A1 (Z.set v.length (t%4294967296)):=p3.set _ (by omega);have Ag:(Z.set v.length (t%4294967296)).length=v.length+1:=by simpa using p2
   clear p7 p6 p4 p5 s1 s2 eW Uj hu ue ow p1 p2 p3;generalize Z.set v.length (t%4294967296)=X at *;have Ae:=F2 Cj;rw[Ag,Nat.pow_succ]at Ae;obtain ⟨y1,y2,y3⟩:=sC z0 r3 Ae k7;have hRV:val W%val v<val v:=Nat.mod_lt _ z0;have yc:=F2 da;obtain ⟨xw,zs⟩ : ∃ xw,X[v.length]? = some xw:=⟨_,zE (by omega)⟩;have eX:val X=val (X.take v.length)+4294967296^v.length*xw:=by
    rw[<-ER zs,DH (by omega)]
   refine G9 (λ i _ _=>v.length-i) (λ(i:Nat) (Z:List Nat) (c:Nat)=>i<=v.length/\Z.length=v.length+1/\A1 Z/\c<=1/\Z.drop i=X.drop i/\val (Z.take i)+4294967296^i*c=val (X.take i)+val (v.take i)) (λ i Z c=>[(139,.int .i64 i),(9,.int .u64 (c:Int))]) (λ i Z c=>[(71012,71012,.rw 1 ((A++Z++C).map AL))]) 0 X 0 ⟨by omega,Ag,Cj,by omega,rfl,by simp [val]⟩ ?_;intro i Z c ⟨p1,p2,p3,p4,p6,p7⟩ ih;by_cases hi:i<v.length
   ·obtain ⟨d,hd⟩ : ∃ d,v[i]? = some d:=⟨_,zE hi⟩
    obtain ⟨u,hu⟩ : ∃ u,Z[i]? = some u:=⟨_,zE (by omega)⟩;have y7:=da.at hd;have ow:=p3.at hu;have jo:X[i]? = some u:=by
     have e1:(Z.drop i)[0]? = (X.drop i)[0]? := by rw[p6]
     simpa [hu] using e1.symm
    have Iz:=pZ (d:=d) (w:=u) p7 rfl;(repeat' ((first|(apply AG<;>intro hc<;>try omega)|(apply A2;omega)|(refine A9 (by assumption) ?_ rfl ?_;omega)|apply AE)<;>conv=>whnf))
    refine S1 i hu (by omega) ?_;(conv=>whnf)
    (repeat' ((first|(apply A2;omega)|(apply HB;omega)|(apply B3;omega)|apply G3)<;>conv=>whnf))
    generalize ht2:u+d+c=t2 at *;refine QS i (by omega) (by omega) ?_;(conv=>whnf)
    (repeat' ((first|(apply AQ;omega)|apply GL)<;>conv=>whnf))
    refine BN [] (by (conv=>whnf);exact ⟨rfl,rfl,rfl⟩) (ih (i+1) _ _ (by omega) ⟨by omega,by simpa using p2,p3.set _ (by omega),by omega,?_,?_⟩)
    ·rw[List.drop_set_of_lt (by omega)]
     have e1:(Z.drop i).drop 1=(X.drop i).drop 1:=by rw[p6]
     simpa using e1
    ·rw[G8 (by omega),ER hd,ER jo,Nat.pow_succ]
     exact Iz
   ·obtain rfl:i=v.length:=by omega
    clear ih;obtain ⟨u,hu⟩ : ∃ u,Z[v.length]? = some u:=⟨_,zE (by omega)⟩;have ow:=p3.at hu;have jo:X[v.length]? = some u:=by
     have e1:(Z.drop v.length)[0]? = (X.drop v.length)[0]? := by rw[p6]
     simpa [hu] using e1.symm
    rw[jo]at zs;obtain rfl:u=xw:=by simpa using zs
    rw[DH (Nat.le_refl v.length)]at p7;have Ck:=F2 (p3.take v.length);rw[List.length_take,Nat.min_eq_left (by omega)]at Ck;rw[eX]at y3;have mr:=pY p7 y3 (by omega) Ck;rw[<-G8 (show v.length<Z.length by omega),DH (by simp;omega)]at mr;(repeat' ((first|(apply AG<;>intro hc<;>try omega)|(apply A2;omega)|apply AE)<;>conv=>whnf))
    refine S1 v.length hu (by omega) ?_;(conv=>whnf)
    (repeat' ((first|(apply A2;omega)|apply pL|(apply E2;omega))<;>conv=>whnf))
    refine QS v.length (by omega) (by omega) ?_;(conv=>whnf)
    (repeat' ((first|(apply J8;omega;omega)|(apply E2;omega))<;>conv=>whnf))
    exact ⟨rfl,_,rfl,iv _ _ _ (by simpa using p2) (p3.set _ (by omega)) mr y1⟩
theorem Ae3 (N:c8 L) (hA:A.length=j) (hW:W.length=v.length+1) (D2:A1 W) (da:A1 v) (ef:2<=v.length) (si:v.length<=549755813888) (z0:0<val v)
  (n2:4294967296^(v.length-1)*2147483648<=val v) (g2:val W<4294967296*val v)
  (hk : ∀ (W':List Nat) (o':List (List AV)) (q':Nat),W'.length=v.length+1->A1 W'->val W'=val W%val v->q'=val W/val v->K (.int .u32 (q':Int)) [(71012,71012,.rw 1 ((A++W'++C).map AL)),(28,28,.rw 1 (w.map AL)),(71012,71012,.rw 1 o')])
  (iv : ∀ (W':List Nat) (o':List (List AV)) (q':Nat),W'.length=v.length+1->A1 W'->val W'=val W%val v->q'=val W/val v->K (.int .u32 (q':Int)) [(71012,71012,.rw 1 ((A++W'++C).map AL)),(71012,71012,.rw 1 o'),(28,28,.rw 1 (w.map AL))]) :
  A5 L 73 [AV.row 71012 0 1 j (v.length+1),AV.sl false (List.map AL v)] (jK v j m s xl) [(71012,71012,A8.rw 1 (List.map AL (A++W++C))),(28,28,A8.rw 1 (List.map AL w))] K:=by
 obtain ⟨UL,a1,a2⟩:=fZ D2 (n:=v.length+1) (by omega) (by omega);obtain ⟨VL,b5,b6⟩:=Pz da (n:=v.length) ef (by omega);obtain ⟨u0,w0⟩ : ∃ d,W[v.length]? = some d:=⟨_,zE (by omega)⟩;obtain ⟨u1,w1⟩ : ∃ d,W[v.length-1]? = some d:=⟨_,zE (by omega)⟩;obtain ⟨u2,w2⟩ : ∃ d,W[v.length-2]? = some d:=⟨_,zE (by omega)⟩;obtain ⟨f1,x1⟩ : ∃ d,v[v.length-1]? = some d:=⟨_,zE (by omega)⟩;obtain ⟨f2,x2⟩ : ∃ d,v[v.length-2]? = some d:=⟨_,zE (by omega)⟩;rw[show v.length+1-3=v.length-2 by omega,show v.length+1-2=v.length-1 by omega,show v.length+1-1=v.length by omega,HV w0,HV w1,HV w2]at a2;rw[show v.length+1-3=v.length-2 by omega]at a1;rw[HV x1,HV x2]at b6;have qp:=Pq da (k:=v.length-1) (by omega) n2 x1;have k0:=D2.at w0;have k1:=D2.at w1;have k2:=D2.at w2;have k3:=da.at x1;have k4:=da.at x2;have z1:v[((v.length:Int)-1).toNat]? = some f1:=by rw[show ((v.length:Int)-1).toNat=v.length-1 by omega];exact x1
 have z2:v[((v.length:Int)-2).toNat]? = some f2:=by rw[show ((v.length:Int)-2).toNat=v.length-2 by omega];exact x2
 refine HR 1000 N.G6 rfl rfl ?_;(repeat' ((first|(apply A2;omega)|apply AP|apply AE)<;>conv=>whnf))
 refine S1 v.length w0 (by omega) ?_;(conv=>whnf)
 (repeat' ((first|(apply A2;omega)|(apply BL;omega)|(apply QO;omega)|(apply B3;omega))<;>conv=>whnf))
 refine S1 (v.length-1) w1 (by omega) ?_;(conv=>whnf)
 refine oZ (by omega) ?_;(conv=>whnf)
 refine RT (by omega) ?_;(conv=>whnf)
 generalize Lj:u0*4294967296+u1=top at *;have Eg:top<=18446744073709551615:=by omega
 have hU:val W=UL+4294967296^(v.length-2)*(u2+4294967296*top):=by rw[a2,show u1+4294967296*u0=top by omega]
 (repeat' ((first|(apply BL;omega)|(apply XV;omega)|(apply aL;omega;omega)|(apply B3;omega)|(refine A9 (by assumption) ?_ rfl ?_;omega))<;>conv=>whnf))
 refine VU (λ q _=>q) (λ(q r:Nat)=>Gs (val W) (val v) f1 f2 u2 top q r) (λ q r=>[(7,.int .u64 (q:Int)),(8,.int .u64 (r:Int))]) (λ_ _=>[]) [] [] (top/f1) (top%f1) (by (conv=>whnf);exact ⟨rfl,rfl,rfl⟩) (Gs.start hU b6 a1 k2 z0 (by omega) k3) ?_;intro q r g fv;have Ks:q<=top:=by
  have h3:=g.hq;have h4:q*1<=q*f1:=Nat.mul_le_mul_left q (by omega);omega
 have hr:=g.hr;have km:=g.ge;by_cases hb:4294967296<=q
 ·obtain ⟨y1,y2,y3⟩:=g.next hU b6 a1 z0 g2 (Or.inl hb)
  (repeat' ((first|(apply AG<;>intro hc<;>try omega)|(apply BL;omega)|(apply HB;omega)|(apply J8;omega;omega)|(apply B3;omega)|apply AP|(refine A9 (by assumption) ?_ rfl ?_;omega)|apply AE)<;>conv=>whnf))
  ·obtain ⟨t1,t2⟩:=WP hU b6 b5 qp k4 g2 y2 (Or.inr (by omega))
   exact BN [] (by (conv=>whnf);exact ⟨rfl,rfl,rfl⟩) (jB (w:=w) (C:=C) hA hW D2 da ef si z0 t1 y3 t2 hk iv)
  ·exact BN [] (by (conv=>whnf);exact ⟨rfl,rfl,rfl⟩) (fv (q-1) (r+f1) (by omega) ⟨y2,by omega,y3⟩)
 ·have hmq:=WX (show q<4294967296 by omega) k4
  by_cases u5:r*4294967296+u2<q*f2
  ·obtain ⟨y1,y2,y3⟩:=g.next hU b6 a1 z0 g2 (Or.inr u5)
   (repeat' ((first|(apply AG<;>intro hc<;>try omega)|(apply A2;omega)|(apply BL;omega)|(apply RS;omega)|(apply QO;omega)|(apply B3;omega)|(refine A9 (by assumption) ?_ rfl ?_;omega)|apply AE)<;>conv=>whnf))
   refine S1 (v.length-2) w2 (by omega) ?_;(conv=>whnf)
   (repeat' ((first|(apply AG<;>intro hc<;>try omega)|(apply BL;omega)|(apply HB;omega)|(apply RT;omega)|(apply J8;omega;omega)|(apply B3;omega)|apply AP|(refine A9 (by assumption) ?_ rfl ?_;omega))<;>conv=>whnf))
   ·obtain ⟨t1,t2⟩:=WP hU b6 b5 qp k4 g2 y2 (Or.inr (by omega))
    exact BN [] (by (conv=>whnf);exact ⟨rfl,rfl,rfl⟩) (jB (w:=w) (C:=C) hA hW D2 da ef si z0 t1 y3 t2 hk iv)
   ·exact BN [] (by (conv=>whnf);exact ⟨rfl,rfl,rfl⟩) (fv (q-1) (r+f1) (by omega) ⟨y2,by omega,y3⟩)
  ·obtain ⟨t1,t2⟩:=WP hU b6 b5 qp k4 g2 g.hq (Or.inl ⟨by omega,by omega⟩)
   (repeat' ((first|(apply AG<;>intro hc<;>try omega)|(apply A2;omega)|(apply BL;omega)|(apply RS;omega)|(apply QO;omega)|(apply B3;omega)|(refine A9 (by assumption) ?_ rfl ?_;omega)|apply AE)<;>conv=>whnf))
   refine S1 (v.length-2) w2 (by omega) ?_;(conv=>whnf)
   (repeat' ((first|(apply AG<;>intro hc<;>try omega)|(apply RT;omega)|(apply B3;omega)|apply AP)<;>conv=>whnf))
   exact BN [] (by (conv=>whnf);exact ⟨rfl,rfl,rfl⟩) (jB (w:=w) (C:=C) hA hW D2 da ef si z0 t1 km t2 hk iv)
end
end Go.c6

namespace Go.c6
open F
attribute [local irreducible] AA AF AX AC CN AR BA A6 BV BH CM EI BO AY B0 CJ AB A5 AH pw CQ CE C8 EA DP BT CP BU C7
variable {L:Lib}
set_option maxHeartbeats 4000000
theorem AkJ {V R y d t Q:Nat} (h:Q*y+R=V) (ht:t=R*4294967296+d):(t/y+4294967296*Q)*y+t%y=d+4294967296*V:=by
 have:=Nat.div_add_mod t y
 rw[<-h,Nat.add_mul];have e:t/y*y=y*(t/y):=Nat.mul_comm _ _;grind
theorem X8 (a b:List Nat):AZ (.g8 [.sl false (a.map AL),.sl false (b.map AL)]):=by
 simp only[AZ,BS,and_true,true_and];exact ⟨C2 a,C2 b⟩
set_option maxHeartbeats 4000000 in
theorem jU (N:c8 L) (X Y:Nat) (q1 q2:Bool) (hY:Y≠0) (lx:(dg X).length<=549755813888) (ly:(dg Y).length<=549755813888):Ev L 74 [.sl q1 ((dg X).map AL),.sl q2 ((dg Y).map AL)] (.g8 [.sl false ((dg (X/Y)).map AL),.sl false ((dg (X%Y)).map AL)]):=by
 have l7:=λ q q'=>R9 N (dg X) (dg Y) q q' (EF X) (EF Y) (by omega) (by omega)
 rw[BQ,BQ]at l7;have d1:=EF X;have d2:=EF Y;have v1:=BQ X;have v2:=BQ Y;have hy1:=YF hY;refine Ev.x N.NC rfl rfl ?_;by_cases j9:X<Y
 ·have hn:DF X Y = -1:=(JL (by omega)).symm
  rw[hn]at l7;(repeat' ((first|(apply AG<;>intro hc<;>try omega)|apply AE|refine AD (l7 _ _) ?_|refine AD (tQ N (dg X) _ (by omega)) ?_)<;>conv=>whnf))
  refine AW ?_ (X8 _ _);rw[Nat.div_eq_of_lt j9,Nat.mod_eq_of_lt j9,FZ];rfl
 have km:0<=DF X Y:=by unfold DF;split<;>(try split)<;>omega
 have rh:=S9 (show Y<=X by omega);generalize DF X Y=cm at *;by_cases h1:(dg Y).length=1
 ·-- one digit
  obtain ⟨y0,nb⟩ : ∃ y0,dg Y=[y0]:=List.length_eq_one_iff.1 h1;have tj:Y=y0:=by rw[<-v2,nb];simp [val]
  subst tj;have Bb:Y<4294967296:=d2 Y (by rw[nb];simp);have hyg:(dg Y)[0]? = some Y:=by rw[nb];rfl
  clear nb v2;generalize dg Y=y at *;generalize hx:dg X=x at *;(repeat' ((first|(apply AG<;>intro hc<;>try omega)|(apply AQ;omega)|(apply BL;omega)|apply AP|apply AE|refine AD (l7 _ _) ?_)<;>conv=>whnf))
  refine D9 (enc:=AL) 0 x.length rfl (by omega) (by omega) ?_;(conv=>whnf)
  (repeat' ((first|(apply AG<;>intro hc<;>try omega)|(apply BL;omega)|apply AP)<;>conv=>whnf))
  refine G9 (λ n _ _=>n) (λ(n:Nat) (o:List Nat) (r:Nat)=>n<=x.length/\o.length=x.length/\A1 o/\r<Y/\val (o.drop n)*Y+r=val (x.drop n)) (λ n o r=>[(8,.int .u64 (r:Int)),(9,.int .i64 ((n:Int)-1))]) (λ n o r=>[(28,28,.rw 1 (o.map AL))]) x.length (List.replicate x.length 0) 0 ⟨by omega,by simp,KF _,by omega,by rw[List.drop_of_length_le (Nat.le_refl _),List.drop_of_length_le (by simp)];simp [val]⟩ ?_;intro n o r ⟨p1,p2,p3,p4,p5⟩ ih;rcases n with _|n
  ·rw[List.drop_zero,List.drop_zero]at p5
   have hq:X/Y=val o/\X%Y=r:=by
    rw[<-v1,<-p5];have e1:(val o*Y+r)/Y=val o:=by
     rw[Nat.mul_comm,Nat.mul_add_div (by omega),Nat.div_eq_of_lt p4,Nat.add_zero]
    have e2:(val o*Y+r)%Y=r:=by
     rw[Nat.mul_comm,Nat.mul_add_mod,Nat.mod_eq_of_lt p4]
    exact ⟨e1,e2⟩
   rw[hq.1,hq.2,<-p2];clear ih hq p5;have dj:=FM p3;have bz:A1 [r]:=IO (by omega);have du:=FM bz;have Gw:val [r]=r:=by simp [val]
   have Gl:[r].length=1:=rfl;(repeat' ((first|(apply AG<;>intro hc<;>try omega)|(apply E2;omega)|apply AE|refine aE N (by assumption) (by omega) rfl (by first|rfl|omega|assumption) ?_)<;>conv=>whnf))
   refine I4 (enc:=AL) (λ_=>rfl) (by omega) ?_;(conv=>whnf)
   refine I4 (enc:=AL) (l:=[r]) (λ_=>rfl) (by omega) ?_;(conv=>whnf)
   refine AW ?_ (X8 _ _);rw[List.drop_zero,List.drop_zero,Z5 p3,Z5 bz,Gw]
  ·have e1:((n+1:Nat):Int)-1=n:=by omega
   rw[e1];obtain ⟨d,hd⟩ : ∃ d,x[n]? = some d:=⟨_,zE (by omega)⟩;have y7:=d1.at hd;have hYb:Y<4294967296:=Bb;have hR:r*4294967296+d<Y*4294967296:=by omega
   have rp:(r*4294967296+d)/Y<4294967296:=(Nat.div_lt_iff_lt_mul (by omega)).2 (by omega);(repeat' ((first|(apply AG<;>intro hc<;>try omega)|(apply A2;omega)|(apply QO;omega)|(apply RT;omega)|(apply aL;omega;omega)|(apply B3;omega)|(apply E2;omega)|(refine A9 (by assumption) ?_ rfl ?_;omega)|apply AE)<;>conv=>whnf))
   obtain ⟨t,ht⟩ : ∃ t,t=r*4294967296+d:=⟨_,rfl⟩;rw[<-ht]at hR rp ⊢;have hm:t%Y<Y:=Nat.mod_lt _ (by omega);have k7:=AkJ p5 ht;rw[<-II hd]at k7;clear ht;skip
   refine GC (by omega) ?_;(conv=>whnf)
   (repeat' ((first|(apply BL;omega)|(apply XV;omega)|(apply B3;omega)|(refine A9 (by assumption) ?_ rfl ?_;omega))<;>conv=>whnf))
   generalize t/Y=tq at *;generalize t%Y=tr at *;refine BN [] (by (conv=>whnf);exact ⟨rfl,rfl,rfl⟩) (ih n _ _ (by omega) ⟨by omega,by simpa using p2,p3.set _ (by omega),hm,?_⟩);rw[II (l:=o.set n tq) (d:=tq) (by rw[List.getElem?_set_self (by omega)]),List.drop_set_of_lt (by omega)];exact k7
 ·-- two digits or more
  have Kh:2<=(dg Y).length:=by omega
  obtain ⟨yt,ve,vf⟩:=jA hY;have sj:=d2.at ve;obtain ⟨b1,b2,b3,b4⟩:=lS vf sj;have Dm:=tT N yt sj;generalize hs:32-n9 yt=s at *;have bj:s<=31:=by omega
  generalize dg Y=y at *;generalize hx:dg X=x at *;have e1:((y.length:Int)-1).toNat=y.length-1:=by omega
  rw[<-e1]at ve;obtain ⟨rv,Ue,v,hV,gp,Ky⟩:=AgF N y q2 s y.length d2 bj (by omega) (by omega);subst Ky;(repeat' ((first|(apply AG<;>intro hc<;>try omega)|(apply AQ;omega)|(apply BL;omega)|apply AP|apply AE|refine AD (l7 _ _) ?_)<;>conv=>whnf))
  refine D9 (enc:=AL) 0 (x.length-y.length+1) rfl (by omega) (by omega) ?_;(conv=>whnf)
  (repeat' ((first|(apply AG<;>intro hc<;>try omega)|(apply AQ;omega)|(apply BL;omega)|(apply B3;omega)|apply AP|(refine A9 (by assumption) ?_ rfl ?_;omega)|refine AD (Dm) ?_)<;>conv=>whnf))
  refine HR 1000 N.KZ rfl rfl ?_;(repeat' (apply AE<;>conv=>whnf))
  refine D9 (enc:=AL) 0 (x.length+1) rfl (by omega) (by omega) ?_;(conv=>whnf)
  (repeat' (apply AP<;>conv=>whnf))
  have pn:=ZJ (s:=s) (by omega);refine G9 (λ i _ _=>x.length-i) (λ(i:Nat) (o:List Nat) (lo:Nat)=>i<=x.length/\o.length=x.length+1/\A1 o/\lo<2^s/\val (o.take i)+4294967296^i*lo=val (x.take i)*2^s) (λ i o lo=>[(8,.int .u32 (lo:Int)),(15,.int .i64 i)]) (λ i o lo=>[(71012,71012,.rw 1 (o.map AL))]) 0 (List.replicate (x.length+1) 0) 0 ⟨by omega,by simp,KF _,Nat.two_pow_pos s,by simp [val]⟩ ?_;intro i o lo ⟨p1,p2,p3,p4,p5⟩ ih;by_cases hi:i<x.length
  ·obtain ⟨d,hd⟩ : ∃ d,x[i]? = some d:=⟨_,zE hi⟩
   have y7:=d1.at hd;obtain ⟨f1,f2,f3,f4⟩:=VG (s:=s) y7 (by omega);(repeat' ((first|(apply AG<;>intro hc<;>try omega)|(refine A9 (by assumption) ?_ rfl ?_;omega)|apply AE)<;>conv=>whnf))
   refine pP (by omega) ?_;(conv=>whnf)
   skip
   refine gQ s f1 p4 (by omega) ?_;(conv=>whnf)
   (repeat' ((first|(apply A2;omega)|fail)<;>conv=>whnf))
   refine GC (by omega) ?_;(conv=>whnf)
   (repeat' ((first|(apply B3;omega)|fail)<;>conv=>whnf))
   refine RV (by omega) f4 ?_;(conv=>whnf)
   (repeat' ((first|(apply AQ;omega)|apply GL|(apply E2;omega))<;>conv=>whnf))
   rw[<-VF];refine BN [] (by (conv=>whnf);exact ⟨rfl,rfl,rfl⟩) (ih (i+1) _ _ (by omega) ⟨by omega,by simpa using p2,p3.set _ (by omega),f2,?_⟩);rw[G8 (by omega),ER hd,Nat.pow_succ];exact yK p5
  obtain rfl:i=x.length:=by omega
  clear ih;(repeat' ((first|(apply AG<;>intro hc<;>try omega)|(apply A2;omega)|apply AP|apply AE)<;>conv=>whnf))
  refine GC (by omega) ?_;(conv=>whnf)
  skip
  have hU:=yJ p3 (by omega) p2 p5;have Af:(o.set x.length lo).length=x.length+1:=by simpa using p2
  clear p3 p4 p5 p2;generalize o.set x.length lo=u at *;refine ⟨rfl,_,rfl,?_⟩;(conv=>whnf)
  (repeat' ((first|(apply BL;omega)|apply AP|refine AD (Ue) ?_)<;>conv=>whnf))
  have Lr:y[y.length-1]? = some yt:=by rw[<-e1];exact ve
  obtain ⟨n1,n2⟩:=lL d2 Lr (by omega) bj b3 b4;have Fu:val v=Y*2^s:=by rw[<-v2];exact hV.2.2 (by rw[gp];exact n1)
  have Ft:val u=X*2^s:=by
   rw[<-v1];refine hU.2.2 ?_;have h3:=F2 d1;rw[Af,Nat.pow_succ];exact Nat.lt_of_lt_of_le (Nat.mul_lt_mul_of_pos_right h3 (Nat.two_pow_pos s)) (Nat.mul_le_mul_left _ pn)
  have da:=hV.1;have Fq:=hU.1;have yd:=F2 da;rw[v2,<-Fu]at n2;rw[<-gp]at n2;clear hV hU l7 Ue Dm;have ef:2<=v.length:=by omega
  have hvx:v.length<=x.length:=by omega
  have si:v.length<=549755813888:=by omega
  have hxL:x.length<=549755813888:=by omega
  have hX:X<4294967296^x.length:=by rw[<-v1];exact F2 d1
  rw[<-gp];generalize hm:x.length-v.length+1=m at *;have z0:0<val v:=by
   have:=Oc (v.length-1)
   omega
  have nv:val (u.drop m)<val v:=by
   have h1:=LE u m (by omega);rw[Ft]at h1;have h2:X*2^s<4294967296^x.length*2147483648:=Nat.lt_of_lt_of_le (Nat.mul_lt_mul_of_pos_right hX (Nat.two_pow_pos s)) (Nat.mul_le_mul_left _ (Nat.pow_le_pow_right (by omega) bj));have h3:4294967296^x.length=4294967296^m*4294967296^(v.length-1):=by rw[<-Nat.pow_add];congr 1;omega
   rw[h3,Nat.mul_assoc]at h2;refine Nat.lt_of_lt_of_le ?_ n2;refine Nat.lt_of_mul_lt_mul_left (a:=4294967296^m) ?_;omega
  have e2:(x.length:Int)-v.length=((m:Nat):Int)-1:=by omega
  rw[e2];refine G9 (λ n _ _=>n) (λ(n:Nat) (o w:List Nat)=>n<=m/\o.length=x.length+1/\A1 o/\w.length=m/\A1 w/\val (o.drop n)<val v/\X*2^s=val (o.take n)+4294967296^n*(val (w.drop n)*val v+val (o.drop n))) (λ n o w=>[(14,.int .i64 ((n:Int)-1))]) (λ n o w=>[(71012,71012,.rw 1 (o.map AL)),(28,28,.rw 1 (w.map AL))]) m u (List.replicate m 0) ⟨by omega,Af,Fq,by simp,KF _,nv,by rw[<-Ft,List.drop_of_length_le (show (List.replicate m 0).length<=m by simp),J5,Nat.zero_mul,Nat.zero_add];exact LE u m (by omega)⟩ ?_;intro n o w ⟨p1,p2,p3,p4,p5,p6,p7⟩ ih;rcases n with _|j
  ·clear ih
   rw[List.drop_zero]at p6;rw[List.take_zero,List.drop_zero,List.drop_zero,J5,Nat.zero_add,Nat.pow_zero,Nat.one_mul]at p7;have mq:val o=val (o.take v.length):=by
    have h1:=VP o v.length;rcases Nat.eq_zero_or_pos (val (o.drop v.length)) with h2|h2
    ·rw[h2,Nat.mul_zero,Nat.add_zero]at h1;exact h1
    ·have h3:4294967296^v.length*1<=4294967296^v.length*val (o.drop v.length):=Nat.mul_le_mul_left _ h2
     omega
   have uf:X/Y=val w/\X%Y=val o/2^s:=by
    obtain ⟨z1,z2⟩:=sF (X:=X) (Y:=Y) (Nat.two_pow_pos s);rw[<-z1,<-z2,<-Fu,p7];have e1:(val w*val v+val o)/val v=val w:=by
     rw[Nat.mul_comm,Nat.mul_add_div z0,Nat.div_eq_of_lt p6,Nat.add_zero]
    have e2:(val w*val v+val o)%val v=val o:=by
     rw[Nat.mul_comm,Nat.mul_add_mod,Nat.mod_eq_of_lt p6]
    rw[e1,e2];exact ⟨rfl,rfl⟩
   rw[uf.1,uf.2];have dj:=FM p5;obtain ⟨ro,ux,o2,k1,k2,k3,k4⟩:=AgG N (o.take v.length) true s (p3.take _) bj (by rw[List.length_take];omega);subst k4;rw[mq,<-k3];have du:=FM k1;rw[List.length_take]at k2;clear p7 uf nv;(repeat' ((first|(apply AG<;>intro hc<;>try omega)|apply AE|refine aE N (by assumption) (by omega) rfl (by first|rfl|omega|assumption) ?_)<;>conv=>whnf))
   refine H5 v.length rfl (by omega) ?_;(conv=>whnf)
   refine I4 (enc:=AL) (λ_=>rfl) (by omega) ?_;(conv=>whnf)
   rw[List.drop_zero,Nat.sub_zero];(repeat' ((first|refine AD (ux) ?_|refine LG (LU N o2 _ k1 (by omega)) ?_)<;>conv=>whnf))
   refine I4 (enc:=AL) (λ_=>rfl) (by omega) ?_;(conv=>whnf)
   refine AW ?_ (X8 _ _);rw[List.drop_zero,Z5 p5]
  ·have e3:((j+1:Nat):Int)-1=j:=by omega
   rw[e3];have e4:(v.length:Int).toNat=v.length:=by omega
   obtain ⟨A,W,C,hA,hW,rfl⟩:=tC o j (v.length+1) (by omega);obtain ⟨g1,g2,g3⟩:=tE hA hW p3 p6 yd;obtain ⟨D1,D2,D3⟩:=sB p3;have tf:val W/val v<4294967296:=(Nat.div_lt_iff_lt_mul z0).2 g2;have Ir:val W=val W/val v*val v+val W%val v:=by rw[Nat.mul_comm];exact (Nat.div_add_mod _ _).symm
   have ye:val W%val v<val v:=Nat.mod_lt _ z0;have yb:X*2^s=val A+4294967296^j*val W+4294967296^j*4294967296*(val (w.drop (j+1))*val v):=by
    rw[p7,Nat.mul_add,<-g3,Nat.pow_succ];omega
   have nm:=tD yb Ir;have dz : ∀ q',q'=val W/val v->val ((w.set j q').drop j)=val W/val v+4294967296*val (w.drop (j+1)):=λ q' h=>by
    rw[II (l:=w.set j q') (d:=q') (by rw[List.getElem?_set_self (by omega)]),List.drop_set_of_lt (by omega),h]
   have hlen : ∀ W':List Nat,W'.length=v.length+1->(A++W'++C).length=x.length+1:=λ W' h=>by
    rw[<-p2];simp [h,hW]
   (repeat' ((first|(apply AG<;>intro hc<;>try omega)|(apply AQ;omega)|(apply gE;omega)|apply AE)<;>conv=>whnf))
   rw[show ((j:Int)+v.length+1).toNat-(j:Int).toNat=v.length+1 by omega,show 0+(j:Int).toNat=j by omega];refine Ae3 N hA hW D2 da ef si z0 n2 g2 (λ W' o' q' z1 z2 z3 z4 => ?_) (λ W' o' q' z1 z2 z3 z4 => ?_)
   ·(conv=>whnf)
    (repeat' ((first|(apply A2;omega)|fail)<;>conv=>whnf))
    refine GC (by omega) ?_;(conv=>whnf)
    (repeat' ((first|(apply BL;omega)|fail)<;>conv=>whnf))
    obtain ⟨t1,t2⟩:=jL (A:=A) (W:=W') (C:=C) (j:=j) hA g1;refine BN [] (by (conv=>whnf);exact ⟨rfl,rfl,rfl⟩) (ih j (A++W'++C) (w.set j q') (by omega) ⟨by omega,hlen W' z1,(D1.append z2).append D3,by simpa using p4,p5.set _ (by omega),by omega,?_⟩);rw[t1,t2,dz q' z4,z3];exact nm
   ·(conv=>whnf)
    (repeat' ((first|(apply A2;omega)|fail)<;>conv=>whnf))
    refine GC (by omega) ?_;(conv=>whnf)
    (repeat' ((first|(apply BL;omega)|fail)<;>conv=>whnf))
    obtain ⟨t1,t2⟩:=jL (A:=A) (W:=W') (C:=C) (j:=j) hA g1;refine BN [] (by (conv=>whnf);exact ⟨rfl,rfl,rfl⟩) (ih j (A++W'++C) (w.set j q') (by omega) ⟨by omega,hlen W' z1,(D1.append z2).append D3,by simpa using p4,p5.set _ (by omega),by omega,?_⟩);rw[t1,t2,dz q' z4,z3];exact nm
end Go.c6
