/-
  The references of natural numbers (ref01): division.
-/
import Derived.Test.YtpafclijakpknaaGreatB8
import Derived.Test.YtpafclijakpknaaGreatB7
import Derived.Test.YtpafclijakpknaaGreatB1
set_option linter.unusedSimpArgs false
set_option linter.unusedVariables false
set_option linter.unnecessarySimpa false
namespace Go.c9
open F
attribute [local irreducible] A0 B0 D8 BK IH DY FC E1 HI F9 IA LT GS EF HH H4 BD EU B9 pw IO H0 JM KX J9 GV IJ GT JW
set_option maxHeartbeats 4000000
variable {L:Lib}
theorem Axb {V R y d t Q:Nat} (h:Q*y+R=V) (ht:t=R*4294967296+d):(t/y+4294967296*Q)*y+t%y=d+4294967296*V:=by
 have:=Nat.div_add_mod t y
 rw[<-h,Nat.add_mul];have e:t/y*y=y*(t/y):=Nat.mul_comm _ _;grind
theorem AtA (N:a8 L) (x:List Nat) (Y:Nat) (q:Bool) (d1:EK x) (hx:x.length<=549755813888) (h0:Y≠0) (hY:Y<4294967296):Ev L 108 [.sl q (x.map C3),.int .u32 (Y:Int)] (.j5 [.sl false ((dg (val x/Y)).map C3),.int .u32 ((val x%Y:Nat):Int)]):=by
 refine Ev.x N.jV rfl rfl ?_;(repeat' ((first|apply C9|apply BL)<;>conv=>whnf))
 refine K9 (enc:=C3) 0 x.length rfl (by omega) (by omega) ?_;(conv=>whnf)
 (repeat' ((first|(apply F8;omega)|apply C9)<;>conv=>whnf))
 refine P6 (λ n _ _=>n) (λ(n:Nat) (o:List Nat) (r:Nat)=>n<=x.length/\o.length=x.length/\EK o/\r<Y/\val (o.drop n)*Y+r=val (x.drop n)) (λ n o r=>[(7,.int .u64 (r:Int)),(8,.int .i64 ((n:Int)-1))]) (λ n o r=>[(11,11,.rw 1 (o.map C3))]) x.length (List.replicate x.length 0) 0 ⟨by omega,by simp,Z9 _,by omega,by rw[List.drop_of_length_le (Nat.le_refl _),List.drop_of_length_le (by simp)];simp [val]⟩ ?_;intro n o r ⟨p1,p2,p3,p4,p5⟩ ih;rcases n with _|n
 ·rw[List.drop_zero,List.drop_zero]at p5
  have hq:val x/Y=val o/\val x%Y=r:=by
   rw[<-p5];have e1:(val o*Y+r)/Y=val o:=by
    rw[Nat.mul_comm,Nat.mul_add_div (by omega),Nat.div_eq_of_lt p4,Nat.add_zero]
   have e2:(val o*Y+r)%Y=r:=by
    rw[Nat.mul_comm,Nat.mul_add_mod,Nat.mod_eq_of_lt p4]
   exact ⟨e1,e2⟩
  have hT:=λ q=>PV N o q p3 (by omega)
  rw[hq.1,hq.2,<-p2];clear ih hq p5;(repeat' ((first|(apply B6<;>intro hc<;>try omega)|(apply L5;omega)|(refine J2 (λ_=>rfl) rfl ?_ ?_;(first|rfl|simp))|apply BL|refine BF (hT _) ?_)<;>conv=>whnf))
  refine DH rfl ?_;simp only[EA,GK,and_true,true_and];exact I7 _
 ·have e1:((n+1:Nat):Int)-1=n:=by omega
  rw[e1];obtain ⟨d,hd⟩ : ∃ d,x[n]? = some d:=⟨_,zE (by omega)⟩;have ft:=d1.at hd;have hR:r*4294967296+d<Y*4294967296:=by omega
  have Bi:(r*4294967296+d)/Y<4294967296:=(Nat.div_lt_iff_lt_mul (by omega)).2 (by omega);(repeat' ((first|(apply B6<;>intro hc<;>try omega)|(apply EL;omega)|(apply nJ;omega)|(apply pC;omega)|(apply Abm;omega;omega)|(apply HN;omega)|(apply L5;omega)|(refine E4 (by assumption) ?_ rfl ?_;omega)|apply BL)<;>conv=>whnf))
  obtain ⟨t,ht⟩ : ∃ t,t=r*4294967296+d:=⟨_,rfl⟩;rw[<-ht]at hR Bi ⊢;have hm:t%Y<Y:=Nat.mod_lt _ (by omega);have o4:=Axb p5 ht;rw[<-V7 hd]at o4;clear ht;skip
  refine NT (by omega) ?_;(conv=>whnf)
  (repeat' ((first|(apply F8;omega)|(apply zJ;omega)|(apply HN;omega))<;>conv=>whnf))
  generalize t/Y=tq at *;generalize t%Y=tr at *;refine GF [] (by (conv=>whnf);exact ⟨rfl,rfl,rfl⟩) (ih n _ _ (by omega) ⟨by omega,by simpa using p2,p3.set _ (by omega),hm,?_⟩);rw[V7 (l:=o.set n tq) (d:=tq) (by rw[List.getElem?_set_self (by omega)]),List.drop_set_of_lt (by omega)];exact o4
theorem AbE (a b:List Nat) (e:Int):EA (.j5 [.sl false (a.map C3),.sl false (b.map C3),.int .i64 e]):=by
 simp only[EA,GK,and_true,true_and];exact ⟨I7 a,I7 b⟩
abbrev ArP:List It:=[It.lp KT.l1,It.k8 0,
   It.code
    (((FX.ops KT.dp false).dr [0,75,79,80] []).seq
     (((FX.ops KT.dz false).dr [81,82,83,84,85] []).seq
      ((((FX.ops KT.fm false).dr [86,87,88,89,90] []).seq
         (FX.block 2 KT.l2.loop)).seq
       (((FX.ops KT.r57 true).dr [9,10,11,12,13,14,92,277,278,279,280,281,282,283,284]
          []).seq
        FX.ret))))]
abbrev AbO:List It:=[It.lp KT.l2,It.k8 2,It.code
       (((FX.ops KT.r57 true).dr [9,10,11,12,13,14,92,277,278,279,280,281,282,283,284]
          []).seq
        FX.ret)]
abbrev AbP (v:List Nat) (s ul m:Nat) (j:Int):Tm:=[(14,.int .i64 j),(13,.row 85 0 1 0 m),(12,.int .i64 v.length),(11,.sl false (v.map C3)),(10,.row 69 0 1 0 ul),(9,.int .i64 (s:Int))]
abbrev ArO:FX:=(((FX.ops KT.r39 false).dr [18,19,20,166,205,206,207] []).seq
                (((FX.ops KT.r40 false).dr [208,209,210,211,212,213,214] []).seq
                 ((FX.ops KT.r41 false).seq
                  ((((FX.ops KT.r42 false).dr [215,216] []).seq
                     (FX.cond 217
                      (((FX.ops KT.r43 false).dr [18,217,218,219] []).seq
                       (FX.ops KT.r44 false))
                      FX.skip)).seq
                   (((FX.ops KT.r45 false).dr
                      [23,24,217,220,221,222,223,224,225,226,227,228] []).seq
                    ((((FX.ops KT.r46 false).dr [18,229] []).seq
                       (FX.cond 230
                        (((FX.ops KT.r47 false).dr [230,231,232] []).seq
                         ((FX.ops KT.r48 false).seq
                          (((FX.ops KT.r49 false).seq
                             (FX.block 8 KT.l5.loop)).seq
                           ((FX.ops KT.r55 false).dr
                            [25,26,235,262,263,264,265,266,267,268,269,270,271]
                            []))))
                        FX.skip)).seq
                     ((FX.ops KT.r56 false).dr [16,230,272,273,274,275,276]
                      [])))))))
abbrev ArQ:List It:=It.lp KT.l4::It.k8 6::It.code ArO::It.k8 3::It.code ((FX.ops KT.ib false).dr [93,94] [])::AbO
section
variable {A W C w y:List Nat} {j m s ul q:Nat} {Q:Tm->Mem->Prop}
theorem vL {e i n:Nat} (hi:i=A.length+n) (he:W[n]? = some e):(A++W++C)[i]? = some e:=by
 rw[Aoy hi (zS he).1];exact he
theorem Aet (hA:A.length=j) (hW:W.length=y.length+1) (D2:EK W) (mb:EK y) (nu:2<=y.length) (Fw:y.length<=549755813888) (gk:0<val y) (my:j<=1099511627776)
  (yu:ul=j+(y.length+1)+C.length) (hwm:w.length=m) (hjm:j<m)
  (r1:q<4294967296) (r2:val W/val y<=q) (r3:q<=val W/val y+1)
  (hk : ∀ (W':List Nat) (q':Nat),W'.length=y.length+1->EK W'->val W'=val W%val y->q'=val W/val y->A0 L AbO (AbP y s ul m ((j:Int)-1)) [(69,101021,.rw 1 ((A++W'++C).map C3)),(85,85,.rw 1 ((w.set j q').map C3))] Q) :
  A0 L ArQ ([(20,.int .i64 0),(19,.int .u64 0),(18,.int .u64 0),(16,.int .u64 (q:Int))]++AbP y s ul m (j:Int)) [(69,101021,.rw 1 ((A++W++C).map C3)),(85,85,.rw 1 (w.map C3))] Q:=by
 refine Ade (λ i _ _ _=>y.length-i) (λ(i:Nat) (Z:List Nat) (c b:Nat)=>i<=y.length/\Z.length=y.length+1/\EK Z/\c<4294967296/\b<=1/\Z.drop i=W.drop i/\val (Z.take i)+q*val (y.take i)=val (W.take i)+4294967296^i*(c+b)) (λ i Z c b=>[(20,.int .i64 i),(18,.int .u64 (b:Int)),(19,.int .u64 (c:Int))]) (λ i Z c b=>[(69,101021,.rw 1 ((A++Z++C).map C3))]) [] [] 0 W 0 0 (by (conv=>whnf);exact ⟨rfl,rfl,rfl⟩) ⟨by omega,hW,D2,by omega,by omega,rfl,by simp [val]⟩ ?_;intro i Z c b ⟨p1,p2,p3,p4,p5,p6,p7⟩ ih;by_cases hi:i<y.length
 ·obtain ⟨d,hd⟩ : ∃ d,y[i]? = some d:=⟨_,zE hi⟩
  obtain ⟨u,hu⟩ : ∃ u,Z[i]? = some u:=⟨_,zE (by omega)⟩;have ft:=mb.at hd;have Ci:=p3.at hu;have hru:(A++Z++C)[((i:Int)+(j:Int)).toNat]? = some u:=vL (by omega) hu;obtain ⟨pr,Dh⟩ : ∃ pr,pr=c+q*d:=⟨_,rfl⟩;obtain ⟨m1,m2,m3⟩:=Amg r1 ft p4 (show pr=q*d+c by omega);have Hw:W[i]? = some u:=by
   have e1:(Z.drop i)[0]? = (W.drop i)[0]? := by rw[p6]
   simpa [hu] using e1.symm
  have zu : ∀ w,(Z.set i w).drop (i+1)=W.drop (i+1):=λ w=>by
   rw[List.drop_set_of_lt (by omega)];have e1:(Z.drop i).drop 1=(W.drop i).drop 1:=by rw[p6]
   simpa using e1
  have o4 : ∀ have' take w ja,take=pr%4294967296+b->((have'=u/\ja=0/\take<=u)\/(have'=u+4294967296/\ja=1/\u<take))->w+take=have'->val ((Z.set i w).take (i+1))+q*val (y.take (i+1))=val (W.take (i+1))+4294967296^(i+1)*(pr/4294967296+ja):=λ have' take w ja a1 a2 a3=>by
   rw[PQ (by omega),LR hd,LR Hw,Nat.pow_succ];exact AvL p7 Dh a1 a2 a3
  by_cases o5:u<pr%4294967296+b
  ·have h3:=o4 (u+4294967296) (pr%4294967296+b) (u+4294967296-(pr%4294967296+b)) 1 rfl (Or.inr ⟨rfl,rfl,o5⟩) (by omega)
   (repeat' ((first|(apply B6<;>intro hc<;>try omega)|(apply EL;omega)|(apply DD;omega)|(apply PR;omega)|(apply pB;omega)|(apply AhT;omega)|(apply ZX;omega;omega)|apply N6|(apply Abk;omega)|(apply HN;omega)|(apply L5;omega)|(refine E4 (by assumption) ?_ rfl ?_;omega)|refine aI (by assumption) ?_|apply BL)<;>conv=>whnf))
   rw[<-Dh];skip
   refine nO i (by omega) (by omega) ?_;(conv=>whnf)
   (repeat' ((first|(apply DD;omega)|fail)<;>conv=>whnf))
   exact GF [] (by (conv=>whnf);exact ⟨rfl,rfl,rfl⟩) (ih (i+1) (Z.set i (u+4294967296-(pr%4294967296+b))) (pr/4294967296) 1 (by omega) ⟨by omega,by simpa using p2,p3.set _ (by omega),m1,by omega,zu _,h3⟩)
  ·have h3:=o4 u (pr%4294967296+b) (u-(pr%4294967296+b)) 0 rfl (Or.inl ⟨rfl,rfl,by omega⟩) (by omega)
   (repeat' ((first|(apply B6<;>intro hc<;>try omega)|(apply EL;omega)|(apply DD;omega)|(apply PR;omega)|(apply pB;omega)|(apply AhT;omega)|(apply ZX;omega;omega)|apply N6|(apply HN;omega)|(apply L5;omega)|(refine E4 (by assumption) ?_ rfl ?_;omega)|refine aI (by assumption) ?_|apply BL)<;>conv=>whnf))
   rw[<-Dh];skip
   refine nO i (by omega) (by omega) ?_;(conv=>whnf)
   (repeat' ((first|(apply DD;omega)|fail)<;>conv=>whnf))
   exact GF [] (by (conv=>whnf);exact ⟨rfl,rfl,rfl⟩) (ih (i+1) (Z.set i (u-(pr%4294967296+b))) (pr/4294967296) 0 (by omega) ⟨by omega,by simpa using p2,p3.set _ (by omega),m1,by omega,zu _,h3⟩)
 ·obtain rfl:i=y.length:=by omega
  clear ih;obtain ⟨u,hu⟩ : ∃ u,Z[y.length]? = some u:=⟨_,zE (by omega)⟩;have Ci:=p3.at hu;have hru:(A++Z++C)[((j:Int)+(y.length:Int)).toNat]? = some u:=vL (by omega) hu;have Hw:W[y.length]? = some u:=by
   have e1:(Z.drop y.length)[0]? = (W.drop y.length)[0]? := by rw[p6]
   simpa [hu] using e1.symm
  rw[JT (Nat.le_refl y.length)]at p7;have eW:val W=val (W.take y.length)+4294967296^y.length*u:=by
   rw[<-LR Hw,JT (by omega)]
  have o4 : ∀ have' take w ja,take=c+b->((have'=u/\ja=0/\take<=u)\/(have'=u+4294967296/\ja=1/\u<take))->w+take=have'->val (Z.set y.length w)+q*val y=val W+4294967296^y.length*4294967296*ja:=λ have' take w ja a1 a2 a3=>by
   have h1:=AvJ p7 a1 a2 a3;rw[<-eW,<-PQ (show y.length<Z.length by omega),JT (by simp;omega)]at h1;exact h1
  by_cases o5:u<c+b
  ·have h3:=o4 (u+4294967296) (c+b) (u+4294967296-(c+b)) 1 rfl (Or.inr ⟨rfl,rfl,o5⟩) (by omega)
   have Xk:EK (Z.set y.length (u+4294967296-(c+b))):=p3.set _ (by omega);have Pq:(Z.set y.length (u+4294967296-(c+b))).length=y.length+1:=by simpa using p2
   rw[Nat.mul_one]at h3;have Po:=NH Xk;rw[Pq,Nat.pow_succ]at Po;obtain ⟨y1,y2,y3⟩:=AiX gk r3 Po h3;(repeat' ((first|(apply B6<;>intro hc<;>try omega)|(apply EL;omega)|(apply DD;omega)|(apply PR;omega)|(apply ZX;omega;omega)|(apply Abk;omega)|(apply HN;omega)|(apply L5;omega)|refine aI (by assumption) ?_|apply BL)<;>conv=>whnf))
   refine nO y.length (by omega) (by omega) ?_;(conv=>whnf)
   (repeat' ((first|(apply B6<;>intro hc<;>try omega)|(apply ZX;omega;omega))<;>conv=>whnf))
   clear p7 p6 eW hu Hw Ci hru p2 p3 o4;generalize Z.set y.length (u+4294967296-(c+b))=X at *;have hRV:val W%val y<val y:=Nat.mod_lt _ gk;have Mn:=NH mb;obtain ⟨xw,Ox⟩ : ∃ xw,X[y.length]? = some xw:=⟨_,zE (by omega)⟩;have eX:val X=val (X.take y.length)+4294967296^y.length*xw:=by
    rw[<-LR Ox,JT (by omega)]
   have Dr:q-1<4294967296:=by omega
   refine P6 (λ i _ _=>y.length-i) (λ(i:Nat) (Z:List Nat) (c:Nat)=>i<=y.length/\Z.length=y.length+1/\EK Z/\c<=1/\Z.drop i=X.drop i/\val (Z.take i)+4294967296^i*c=val (X.take i)+val (y.take i)) (λ i Z c=>[(26,.int .i64 i),(25,.int .u64 (c:Int))]) (λ i Z c=>[(69,101021,.rw 1 ((A++Z++C).map C3))]) 0 X 0 ⟨by omega,Pq,Xk,by omega,rfl,by simp [val]⟩ ?_;intro i Z c ⟨p1,p2,p3,p4,p6,p7⟩ ih;by_cases hi:i<y.length
   ·obtain ⟨d,hd⟩ : ∃ d,y[i]? = some d:=⟨_,zE hi⟩
    obtain ⟨u,hu⟩ : ∃ u,Z[i]? = some u:=⟨_,zE (by omega)⟩;have ft:=mb.at hd;have Ci:=p3.at hu;have hru:(A++Z++C)[((i:Int)+(j:Int)).toNat]? = some u:=vL (by omega) hu;have vb:X[i]? = some u:=by
     have e1:(Z.drop i)[0]? = (X.drop i)[0]? := by rw[p6]
     simpa [hu] using e1.symm
    have hab:=Ah9 (d:=d) (w:=u) (t:=c+(u+d)) p7 (by omega);(repeat' ((first|(apply B6<;>intro hc<;>try omega)|(apply EL;omega)|(apply DD;omega)|(apply PR;omega)|(apply HN;omega)|apply O7|(refine E4 (by assumption) ?_ rfl ?_;omega)|refine aI (by assumption) ?_|apply BL)<;>conv=>whnf))
    generalize ht2:c+(u+d)=t2 at *;refine nO i (by omega) (by omega) ?_;(conv=>whnf)
    (repeat' ((first|(apply DD;omega)|apply N6)<;>conv=>whnf))
    refine GF [] (by (conv=>whnf);exact ⟨rfl,rfl,rfl⟩) (ih (i+1) (Z.set i (t2%4294967296)) (t2/4294967296) (by omega) ⟨by omega,by simpa using p2,p3.set _ (by omega),by omega,?_,?_⟩)
    ·rw[List.drop_set_of_lt (by omega)]
     have e1:(Z.drop i).drop 1=(X.drop i).drop 1:=by rw[p6]
     simpa using e1
    ·rw[PQ (by omega),LR hd,LR vb,Nat.pow_succ]
     exact hab
   ·obtain rfl:i=y.length:=by omega
    clear ih;obtain ⟨u,hu⟩ : ∃ u,Z[y.length]? = some u:=⟨_,zE (by omega)⟩;have Ci:=p3.at hu;have hru:(A++Z++C)[((j:Int)+(y.length:Int)).toNat]? = some u:=vL (by omega) hu;have vb:X[y.length]? = some u:=by
     have e1:(Z.drop y.length)[0]? = (X.drop y.length)[0]? := by rw[p6]
     simpa [hu] using e1.symm
    rw[vb]at Ox;obtain rfl:u=xw:=by simpa using Ox
    rw[JT (Nat.le_refl y.length)]at p7;have Xl:=NH (p3.take y.length);rw[List.length_take,Nat.min_eq_left (by omega)]at Xl;rw[eX]at y3;have zx:=Ah8 p7 y3 (by omega) Xl;rw[<-PQ (show y.length<Z.length by omega),JT (by simp;omega)]at zx;(repeat' ((first|(apply B6<;>intro hc<;>try omega)|(apply EL;omega)|(apply DD;omega)|apply AhS|(apply L5;omega)|refine aI (by assumption) ?_|apply BL)<;>conv=>whnf))
    refine nO y.length (by omega) (by omega) ?_;(conv=>whnf)
    (repeat' ((first|(apply EL;omega)|(apply L5;omega))<;>conv=>whnf))
    refine NT (by omega) ?_;(conv=>whnf)
    (repeat' ((first|(apply F8;omega)|fail)<;>conv=>whnf))
    exact GF [] (by (conv=>whnf);exact ⟨rfl,rfl,rfl⟩) (hk _ _ (by simpa using p2) (p3.set _ (by omega)) zx y1)
  ·have h3:=o4 u (c+b) (u-(c+b)) 0 rfl (Or.inl ⟨rfl,rfl,by omega⟩) (by omega)
   rw[Nat.mul_zero,Nat.add_zero]at h3;obtain ⟨y1,y2⟩:=AiY gk r2 h3;(repeat' ((first|(apply B6<;>intro hc<;>try omega)|(apply EL;omega)|(apply DD;omega)|(apply PR;omega)|(apply ZX;omega;omega)|(apply HN;omega)|(apply L5;omega)|refine aI (by assumption) ?_|apply BL)<;>conv=>whnf))
   refine nO y.length (by omega) (by omega) ?_;(conv=>whnf)
   (repeat' ((first|(apply B6<;>intro hc<;>try omega)|(apply EL;omega)|(apply L5;omega))<;>conv=>whnf))
   refine NT (by omega) ?_;(conv=>whnf)
   (repeat' ((first|(apply F8;omega)|fail)<;>conv=>whnf))
   exact GF [] (by (conv=>whnf);exact ⟨rfl,rfl,rfl⟩) (hk _ _ (by simpa using p2) (p3.set _ (by omega)) y2 y1)
theorem ArR (hA:A.length=j) (hW:W.length=y.length+1) (D2:EK W) (mb:EK y) (nu:2<=y.length) (Fw:y.length<=549755813888) (gk:0<val y) (my:j<=1099511627776)
  (n2:4294967296^(y.length-1)*2147483648<=val y) (g2:val W<4294967296*val y) (yu:ul=j+(y.length+1)+C.length) (hwm:w.length=m) (hjm:j<m)
  (hk : ∀ (W':List Nat) (q':Nat),W'.length=y.length+1->EK W'->val W'=val W%val y->q'=val W/val y->A0 L AbO (AbP y s ul m ((j:Int)-1)) [(69,101021,.rw 1 ((A++W'++C).map C3)),(85,85,.rw 1 ((w.set j q').map C3))] Q) :
  A0 L (.code KT.l2::AbO) (AbP y s ul m (j:Int)) [(69,101021,.rw 1 ((A++W++C).map C3)),(85,85,.rw 1 (w.map C3))] Q:=by
 obtain ⟨UL,a1,a2⟩:=Ac9 D2 (n:=y.length+1) (by omega) (by omega);obtain ⟨VL,b5,b6⟩:=Aor mb (n:=y.length) nu (by omega);obtain ⟨u0,w0⟩ : ∃ d,W[y.length]? = some d:=⟨_,zE (by omega)⟩;obtain ⟨u1,w1⟩ : ∃ d,W[y.length-1]? = some d:=⟨_,zE (by omega)⟩;obtain ⟨u2,w2⟩ : ∃ d,W[y.length-2]? = some d:=⟨_,zE (by omega)⟩;obtain ⟨f1,x1⟩ : ∃ d,y[y.length-1]? = some d:=⟨_,zE (by omega)⟩;obtain ⟨f2,x2⟩ : ∃ d,y[y.length-2]? = some d:=⟨_,zE (by omega)⟩;rw[show y.length+1-3=y.length-2 by omega,show y.length+1-2=y.length-1 by omega,show y.length+1-1=y.length by omega,QB w0,QB w1,QB w2]at a2;rw[show y.length+1-3=y.length-2 by omega]at a1;rw[QB x1,QB x2]at b6;have Ep:=Aom mb (k:=y.length-1) (by omega) n2 x1;have k0:=D2.at w0;have k1:=D2.at w1;have k2:=D2.at w2;have k3:=mb.at x1;have k4:=mb.at x2;have z1:y[((y.length:Int)-1).toNat]? = some f1:=by rw[show ((y.length:Int)-1).toNat=y.length-1 by omega];exact x1
 have z2:y[((y.length:Int)-2).toNat]? = some f2:=by rw[show ((y.length:Int)-2).toNat=y.length-2 by omega];exact x2
 have yo:(A++W++C)[((j:Int)+(y.length:Int)).toNat]? = some u0:=vL (by omega) w0;(repeat' ((first|(apply B6<;>intro hc<;>try omega)|(apply EL;omega)|(apply DD;omega)|(apply F8;omega)|(apply nJ;omega)|(apply HN;omega)|refine aI (by assumption) ?_|apply BL)<;>conv=>whnf))
 have ji:(A++W++C)[((j:Int)+(y.length:Int)-1).toNat]? = some u1:=vL (by omega) w1;refine ApC ji ?_;(conv=>whnf)
 refine AhC (by omega) ?_;(conv=>whnf)
 refine pC (by omega) ?_;(conv=>whnf)
 clear yo ji;have gy:(A++W++C)[((j:Int)+(y.length:Int)-2).toNat]? = some u2:=vL (by omega) w2;generalize AEO:u0*4294967296+u1=top at *;have Ze:top<=18446744073709551615:=by omega
 have hU:val W=UL+4294967296^(y.length-2)*(u2+4294967296*top):=by rw[a2,show u1+4294967296*u0=top by omega]
 (repeat' ((first|(apply F8;omega)|(apply zJ;omega)|(apply Abm;omega;omega)|(apply HN;omega)|(refine E4 (by assumption) ?_ rfl ?_;omega))<;>conv=>whnf))
 refine zC (λ q _=>q) (λ(q r:Nat)=>Gs (val W) (val y) f1 f2 u2 top q r) (λ q r=>[(16,.int .u64 (q:Int)),(17,.int .u64 (r:Int))]) (λ_ _=>[]) [] [] (top/f1) (top%f1) (by (conv=>whnf);exact ⟨rfl,rfl,rfl⟩) (Gs.start hU b6 a1 k2 gk (by omega) k3) ?_;intro q r g ue;have hqt:q<=top:=by
  have h3:=g.hq;have h4:q*1<=q*f1:=Nat.mul_le_mul_left q (by omega);omega
 have hr:=g.hr;have zz:=g.ge;by_cases hb:4294967296<=q
 ·obtain ⟨y1,y2,y3⟩:=g.next hU b6 a1 gk g2 (Or.inl hb)
  (repeat' ((first|(apply B6<;>intro hc<;>try omega)|(apply F8;omega)|(apply PR;omega)|(apply ZX;omega;omega)|(apply HN;omega)|(refine E4 (by assumption) ?_ rfl ?_;omega)|apply BL)<;>conv=>whnf))
  ·obtain ⟨t1,t2⟩:=xM hU b6 b5 Ep k4 g2 y2 (Or.inr (by omega))
   exact GF [] (by (conv=>whnf);exact ⟨rfl,rfl,rfl⟩) (Aet (w:=w) (C:=C) hA hW D2 mb nu Fw gk my yu hwm hjm t1 y3 t2 hk)
  ·exact GF [] (by (conv=>whnf);exact ⟨rfl,rfl,rfl⟩) (ue (q-1) (r+f1) (by omega) ⟨y2,by omega,y3⟩)
 ·have hmq:=yA (show q<4294967296 by omega) k4
  by_cases dd:r*4294967296+u2<q*f2
  ·obtain ⟨y1,y2,y3⟩:=g.next hU b6 a1 gk g2 (Or.inr dd)
   (repeat' ((first|(apply B6<;>intro hc<;>try omega)|(apply EL;omega)|(apply DD;omega)|(apply F8;omega)|(apply PR;omega)|(apply pB;omega)|(apply nJ;omega)|(apply pC;omega)|(apply ZX;omega;omega)|(apply HN;omega)|(refine E4 (by assumption) ?_ rfl ?_;omega)|refine aI (by assumption) ?_|apply BL)<;>conv=>whnf))
   ·obtain ⟨t1,t2⟩:=xM hU b6 b5 Ep k4 g2 y2 (Or.inr (by omega))
    exact GF [] (by (conv=>whnf);exact ⟨rfl,rfl,rfl⟩) (Aet (w:=w) (C:=C) hA hW D2 mb nu Fw gk my yu hwm hjm t1 y3 t2 hk)
   ·exact GF [] (by (conv=>whnf);exact ⟨rfl,rfl,rfl⟩) (ue (q-1) (r+f1) (by omega) ⟨y2,by omega,y3⟩)
  ·obtain ⟨t1,t2⟩:=xM hU b6 b5 Ep k4 g2 g.hq (Or.inl ⟨by omega,by omega⟩)
   (repeat' ((first|(apply B6<;>intro hc<;>try omega)|(apply EL;omega)|(apply DD;omega)|(apply F8;omega)|(apply pB;omega)|(apply nJ;omega)|(apply pC;omega)|(apply HN;omega)|(refine E4 (by assumption) ?_ rfl ?_;omega)|refine aI (by assumption) ?_|apply BL)<;>conv=>whnf))
   exact GF [] (by (conv=>whnf);exact ⟨rfl,rfl,rfl⟩) (Aet (w:=w) (C:=C) hA hW D2 mb nu Fw gk my yu hwm hjm t1 zz t2 hk)
end
theorem AxZ {l:List Nat} (hD:EK l) (h:l[l.length-1]? = some 0):val l<4294967296^(l.length-1):=by
 have hl:=(zS h).1;have h1:=bR l (l.length-1) (by omega);have h2:=V7 h;rw[List.drop_of_length_le (show l.length<=l.length-1+1 by omega),ZT]at h2;rw[h2]at h1;simp only[Nat.mul_zero,Nat.add_zero]at h1;have h3:=NH (hD.take (l.length-1));rw[List.length_take,Nat.min_eq_left (by omega)]at h3;omega
theorem Ai3 (N:a8 L) {X Y s:Nat} {x u y:List Nat} (hY:Y≠0) (jl:s<=31) (hUD:EK u) (hUu:val u=X*2^s) (hU0:u[u.length-1]? = some 0) (yu:x.length+1<=u.length/\u.length<=549755813888) (mb:EK y) (hVv:val y=Y*2^s) (ti:2<=y.length/\y.length<=x.length) (n2:4294967296^(y.length-1)*2147483648<=val y) :
  A0 L ArP [(10,.row 69 0 1 0 u.length),(11,.sl false (y.map C3)),(9,.int .i64 (s:Int)),(0,.sl false (x.map C3))] [(69,101021,.rw 1 (u.map C3))] (pK KT (.j5 [.sl false ((dg (X/Y)).map C3),.sl false ((dg (X%Y)).map C3),.int .i64 0])):=by
 refine K7 (λ(_:Nat)=>0) (λ_=>True) (λ_=>[]) (λ_=>[]) 0 trivial ?_;intro _ _ _;(repeat' ((first|(apply B6<;>intro hc<;>try omega)|(apply DD;omega)|(apply F8;omega)|apply C9|apply BL)<;>conv=>whnf))
 refine K9 (enc:=C3) 0 (u.length-y.length) (by rfl) (by omega) (by omega) ?_;(conv=>whnf)
 (repeat' ((first|(apply F8;omega)|fail)<;>conv=>whnf))
 have gk:0<val y:=by
  have:=AmG (y.length-1)
  omega
 have Mo:=NH mb;generalize hm:u.length-y.length=m at *;have yj:val (u.drop m)<val y:=by
  have h1:(u.drop m).length=y.length:=by simp;omega
  have h2:=AxZ (l:=u.drop m) (hUD.drop _) (by rw[h1,List.getElem?_drop,show m+(y.length-1)=u.length-1 by omega];exact hU0);rw[h1]at h2;omega
 rw[show (u.length:Int)-y.length-1=((m:Nat):Int)-1 by omega];refine P6 (λ n _ _=>n) (λ(n:Nat) (o w:List Nat)=>n<=m/\o.length=u.length/\EK o/\w.length=m/\EK w/\val (o.drop n)<val y/\X*2^s=val (o.take n)+4294967296^n*(val (w.drop n)*val y+val (o.drop n))) (λ n o w=>[(14,.int .i64 ((n:Int)-1))]) (λ n o w=>[(69,101021,.rw 1 (o.map C3)),(85,85,.rw 1 (w.map C3))]) m u (List.replicate m 0) ⟨by omega,rfl,hUD,by simp,Z9 _,yj,by rw[<-hUu,List.drop_of_length_le (show (List.replicate m 0).length<=m by simp),ZT,Nat.zero_mul,Nat.zero_add];exact bR u m (by omega)⟩ ?_;intro n o w ⟨p1,p2,p3,p4,p5,p6,p7⟩ ih;rcases n with _|j
 ·clear ih
  rw[List.drop_zero]at p6;rw[List.take_zero,List.drop_zero,List.drop_zero,ZT,Nat.zero_add,Nat.pow_zero,Nat.one_mul]at p7;have zu:val o=val (o.take y.length):=by
   have h1:=vH o y.length;rcases Nat.eq_zero_or_pos (val (o.drop y.length)) with h2|h2
   ·rw[h2,Nat.mul_zero,Nat.add_zero]at h1;exact h1
   ·have h3:4294967296^y.length*1<=4294967296^y.length*val (o.drop y.length):=Nat.mul_le_mul_left _ h2
    omega
  have Hz:X/Y=val w/\X%Y=val o/2^s:=by
   obtain ⟨z1,z2⟩:=Ai2 (X:=X) (Y:=Y) (Nat.two_pow_pos s);rw[<-z1,<-z2,<-hVv,p7];have e1:(val w*val y+val o)/val y=val w:=by
    rw[Nat.mul_comm,Nat.mul_add_div gk,Nat.div_eq_of_lt p6,Nat.add_zero]
   have e2:(val w*val y+val o)%val y=val o:=by
    rw[Nat.mul_comm,Nat.mul_add_mod,Nat.mod_eq_of_lt p6]
   rw[e1,e2];exact ⟨rfl,rfl⟩
  rw[Hz.1,Hz.2,zu];have hT:=λ q=>PV N w q p5 (by omega)
  have te:(o.take y.length).length<=549755813888:=by rw[List.length_take];omega
  clear p7 Hz yj;rw[<-p4];rcases Nat.eq_zero_or_pos s with h0|h0
  ·subst h0
   have hS:=λ q=>Aj9 N (o.take y.length) q 0 (p3.take _) te (by omega)
   rw[Nat.pow_zero,Nat.mul_one]at hS;rw[Nat.pow_zero,Nat.div_one];(repeat' ((first|(apply B6<;>intro hc<;>try omega)|(refine J2 (λ_=>rfl) rfl ?_ ?_;(first|rfl|simp))|apply BL|refine BF (hT _) ?_)<;>conv=>whnf))
   refine QX y.length rfl (by omega) ?_;(conv=>whnf)
   refine IH.neg (by omega) ?_;(conv=>whnf)
   refine XL (enc:=C3) (λ_=>rfl) (by omega) ?_;(conv=>whnf)
   rw[List.drop_zero,Nat.sub_zero,show -((0:Nat):Int)=((0:Nat):Int) by omega];(repeat' (refine BF (hS _) ?_<;>conv=>whnf))
   exact DH rfl (AbE _ _ _)
  ·have hS:=λ q=>Atz N (o.take y.length) q s (p3.take _) te (by omega)
   (repeat' ((first|(apply B6<;>intro hc<;>try omega)|(refine J2 (λ_=>rfl) rfl ?_ ?_;(first|rfl|simp))|apply BL|refine BF (hT _) ?_)<;>conv=>whnf))
   refine QX y.length rfl (by omega) ?_;(conv=>whnf)
   refine IH.neg (by omega) ?_;(conv=>whnf)
   refine XL (enc:=C3) (λ_=>rfl) (by omega) ?_;(conv=>whnf)
   rw[List.drop_zero,Nat.sub_zero];(repeat' (refine BF (hS _) ?_<;>conv=>whnf))
   exact DH rfl (AbE _ _ _)
 ·have e3:((j+1:Nat):Int)-1=j:=by omega
  rw[e3];obtain ⟨A,W,C,hA,hW,rfl⟩:=Ajl o j (y.length+1) (by omega);obtain ⟨g1,g2,g3⟩:=Ajn hA hW p3 p6 Mo;obtain ⟨D1,D2,D3⟩:=AiW p3;have Dr:val W/val y<4294967296:=(Nat.div_lt_iff_lt_mul gk).2 g2;have hWV:val W=val W/val y*val y+val W%val y:=by rw[Nat.mul_comm];exact (Nat.div_add_mod _ _).symm
  have Mp:val W%val y<val y:=Nat.mod_lt _ gk;have Mm:X*2^s=val A+4294967296^j*val W+4294967296^j*4294967296*(val (w.drop (j+1))*val y):=by
   rw[p7,Nat.mul_add,<-g3,Nat.pow_succ];omega
  have Az:=Ajm Mm hWV;have nr : ∀ q',q'=val W/val y->val ((w.set j q').drop j)=val W/val y+4294967296*val (w.drop (j+1)):=λ q' h=>by
   rw[V7 (l:=w.set j q') (d:=q') (by rw[List.getElem?_set_self (by omega)]),List.drop_set_of_lt (by omega),h]
  have hlen : ∀ W':List Nat,W'.length=y.length+1->(A++W'++C).length=u.length:=λ W' h=>by
   rw[<-p2];simp [h,hW]
  have hl3:u.length=j+(y.length+1)+C.length:=by rw[<-p2];simp [hA,hW];omega
  refine GF [] (by (conv=>whnf);exact ⟨rfl,rfl,rfl⟩) (ArR (m:=m) (s:=s) (ul:=u.length) (C:=C) hA hW D2 mb ti.1 (by omega) gk (by omega) n2 g2 hl3 p4 (by omega) (λ W' q' z1 z2 z3 z4 => ?_));obtain ⟨t1,t2⟩:=AeD (A:=A) (W:=W') (C:=C) (j:=j) hA g1;refine GF [] (by (conv=>whnf);exact ⟨rfl,rfl,rfl⟩) (ih j (A++W'++C) (w.set j q') (by omega) ⟨by omega,hlen W' z1,(D1.append z2).append D3,by simpa using p4,p5.set _ (by omega),by omega,?_⟩);rw[t1,t2,nr q' z4,z3];exact Az
end Go.c9
namespace Go.c9
open F
attribute [local irreducible] A0 B0 D8 BK IH DY FC E1 HI F9 IA LT GS EF HH H4 BD EU B9 pw IO H0 JM KX J9 GV IJ GT JW
variable {L:Lib}
set_option maxHeartbeats 8000000
theorem Aj8 (N:a8 L) (a b:List Nat) (q1 q2:Bool) (hA:EK a) (hB:EK b) (la:a.length<=274877906944) (lb:b.length<=274877906944) (h0:val b≠0) :
  Ev L 109 [.sl q1 (a.map C3),.sl q2 (b.map C3)] (.j5 [.sl false ((dg (val a/val b)).map C3),.sl false ((dg (val a%val b)).map C3),.int .i64 0]):=by
 have t1:=λ q=>PV N a q hA (by omega)
 have t2:=λ q=>PV N b q hB (by omega)
 have l1:=MT hA;have l2:=MT hB;have q6:=λ q q'=>AeR N (dg (val a)) (dg (val b)) q q' (K0 _) (K0 _) (by omega) (by omega)
 rw[GO,GO]at q6;generalize val a=X at *;generalize val b=Y at *;have d1:=K0 X;have d2:=K0 Y;have v1:=GO X;have v2:=GO Y;have hy1:=Tw h0;refine Ev.x N.KT rfl rfl ?_;by_cases h1:(dg Y).length=1
 ·obtain ⟨y0,An⟩ : ∃ y0,dg Y=[y0]:=List.length_eq_one_iff.1 h1
  have Hi:Y=y0:=by rw[<-v2,An];simp [val]
  subst Hi;have Qp:Y<4294967296:=d2 Y (by rw[An];simp);have hyg:(dg Y)[(0:Int).toNat]? = some Y:=by rw[An];rfl
  have lz:=λ q=>AtA N (dg X) Y q d1 (by omega) h0 Qp
  rw[v1]at lz;have yp:X%Y<4294967296:=Nat.lt_trans (Nat.mod_lt _ (by omega)) Qp;have hT3:=λ q=>PV N [X%Y] q (WU yp) (by simp)
  rw[show val [X%Y]=X%Y by simp [val]]at hT3;clear An v2;generalize dg Y=y at *;(repeat' ((first|(apply B6<;>intro hc<;>try omega)|apply C9|(refine E4 (by assumption) ?_ rfl ?_;omega)|refine N9 rfl ?_|apply BL|refine BF (t1 _) ?_|refine BF (t2 _) ?_|refine BF (lz _) ?_|refine BF (hT3 _) ?_)<;>conv=>whnf))
  exact DH rfl (AbE _ _ _)
 by_cases o5:X<Y
 ·rw[<-YM (by omega)]at q6
  (repeat' ((first|(apply B6<;>intro hc<;>try omega)|apply C9|apply BL|refine BF (t1 _) ?_|refine BF (t2 _) ?_|refine BF (q6 _ _) ?_)<;>conv=>whnf))
  refine DH ?_ (AbE _ _ _);rw[Nat.div_eq_of_lt o5,Nat.mod_eq_of_lt o5,NE];rfl
 have zz:=AbG (show Y<=X by omega);generalize JQ X Y=cm at *;have hn2:2<=(dg Y).length:=by omega
 obtain ⟨yt,Jp,Jq⟩:=Aer h0;have Fy:=d2.at Jp;obtain ⟨b1,b2,b3,b4⟩:=Afz Jq Fy;have vg:=λ q=>Atw N yt q Jq Fy
 generalize hs:32-ae yt=s at *;have jl:s<=31:=by omega
 have hsv:=λ q=>Aj9 N (dg Y) q s d2 (by omega) (by omega)
 obtain ⟨n1,n2⟩:=Aft d2 Jp (by omega) jl b3 b4;rw[v2]at hsv n1 n2;have zu:(dg Y).drop ((dg Y).length-1)=[yt]:=by
  obtain ⟨hi,he⟩:=zS Jp;rw[List.drop_eq_getElem_cons hi,he,List.drop_of_length_le (by omega)]
 have ti:(dg (Y*2^s)).length=(dg Y).length:=by
  have a1:=nV.2 n1;have a2 : ¬ (dg (Y*2^s)).length<=(dg Y).length-1:=λ h=>by
   have:=nV.1 h
   omega
  omega
 have AVx:(dg (X*2^s)).length<=(dg X).length+1:=by
  refine nV.2 ?_;have a1:X<4294967296^(dg X).length:=nV.1 (Nat.le_refl _);rw[Nat.pow_succ];have a2:=Sx (s:=s) (by omega);exact Nat.lt_of_lt_of_le (Nat.mul_lt_mul_of_pos_right a1 (Nat.two_pow_pos s)) (Nat.mul_le_mul_left _ a2)
 have Pq:(dg X).length<=(dg (X*2^s)).length:=rK (Nat.le_mul_of_pos_right _ (Nat.two_pow_pos s));have Ff:=rK (show Y<=X by omega);generalize hx:dg X=x at *;generalize hy:dg Y=y at *;have t3:=λ q=>PV N x q d1 (by omega)
 rw[v1,hx]at t3;(repeat' ((first|(apply B6<;>intro hc<;>try omega)|(apply F8;omega)|apply C9|apply BL|refine BF (t1 _) ?_|refine BF (t2 _) ?_|refine BF (q6 _ _) ?_)<;>conv=>whnf))
 rw[show (y.length:Int)-1=((y.length-1:Nat):Int) by omega];refine Ah3 (k:=y.length-1) (λ_=>rfl) (by omega) ?_;(conv=>whnf)
 rw[zu];(repeat' ((first|(apply F8;omega)|refine BF (vg _) ?_)<;>conv=>whnf))
 rw[show (32:Int)-(ae yt:Nat)=((s:Nat):Int) by omega];refine P8 1000 N.Y9 rfl rfl ?_;have hsq:(s:Int)/32=((0:Nat):Int):=by omega
 have Lm:(s:Int)%32=((s:Nat):Int):=by omega
 (repeat' ((first|(apply B6<;>intro hc<;>try omega)|(refine Z2 ?_ ?_ (λ_ => ?_) (λ_ _ => ?_);omega;omega;all_goals try omega)|apply C9|apply BL|refine BF (t3 _) ?_)<;>conv=>whnf))
 rw[hsq];refine K9 (enc:=C3) 0 0 rfl rfl (by omega) ?_;(conv=>whnf)
 skip
 refine P6 (λ i _ _=>x.length-i) (λ(i:Nat) (o:List Nat) (c:Nat)=>i<=x.length/\o.length=i/\EK o/\c<2^s/\val o+4294967296^i*c=val (x.take i)*2^s) (λ i o c=>[(10,.int .i64 i),(9,.int .u64 (c:Int)),(8,.row 107069 0 1 0 i)]) (λ i o c=>[(107069,107069,.rw 1 (o.map C3))]) 0 [] 0 ⟨by omega,rfl,wW,Nat.two_pow_pos _,by simp [val]⟩ ?_;intro i o c ⟨p1,p2,p3,p4,p5⟩ ih;have Dk:=Sx (s:=s) (by omega);by_cases hi:i<x.length
 ·obtain ⟨d,hd⟩ : ∃ d,x[i]? = some d:=⟨_,zE hi⟩
  have ft:=d1.at hd;obtain ⟨f1,f2,f3,f4⟩:=uZ (s:=s) ft (by omega);have hr:=Ach (show s<=64 by omega) f4;(repeat' ((first|(apply B6<;>intro hc<;>try omega)|(refine nL ?_ (λ_ _ _ => ?_) (λ_ _ _ _ => ?_);omega;all_goals try omega)|(apply HN;omega)|apply C9|(refine E4 (by assumption) ?_ rfl ?_;omega)|apply BL)<;>conv=>whnf))
  rw[Lm];refine pJ (by omega) f4 ?_;(conv=>whnf)
  skip
  refine Abl s (Nat.mul_mod_left _ _) p4 (by omega) ?_;(conv=>whnf)
  have o4:=Aop (d:=d) (P:=1) (V:=val o) (p:=4294967296^i) (lo:=c) (X:=val (x.take i)) (s:=s) (by rw[Nat.one_mul,Nat.one_mul];exact p5) rfl;have Ek:(c+d*2^s)/4294967296<2^s:=by
   rw[Nat.div_lt_iff_lt_mul (by omega)];have:=zR (2^s) (show d<=4294967295 by omega)
   omega
  generalize c+d*2^s=t at *;(repeat' ((first|apply O7|apply KY)<;>conv=>whnf))
  refine NL (enc:=C3) (t%4294967296) rfl p2.symm rfl (by omega) (by omega) ?_;(conv=>whnf)
  (repeat' ((first|(apply DD;omega)|apply N6)<;>conv=>whnf))
  rw[show (o++[t%4294967296]).length=i+1 by simp [p2]];refine GF [(107069,107091)] (by (conv=>whnf);exact ⟨rfl,rfl,rfl⟩) (ih (i+1) (o++[t%4294967296]) (t/4294967296) (by omega) ⟨by omega,by simp;omega,p3.append (WU (by omega)),Ek,?_⟩);rw[mY,p2,LR hd,Nat.pow_succ];rw[Nat.one_mul,Nat.one_mul]at o4;exact o4
 obtain rfl:i=x.length:=by omega
 clear ih;have wx:c<4294967296:=by omega
 have hOD:EK (o++[c]):=p3.append (WU wx);have Xb:val (o++[c])=X*2^s:=by
  rw[mY,p2,p5,JT (Nat.le_refl _),v1]
 have Wz:(o++[c]).length=x.length+1:=by simp [p2]
 (repeat' ((first|(apply B6<;>intro hc<;>try omega)|(apply L5;omega)|apply C9|apply KY|apply BL)<;>conv=>whnf))
 refine NL (enc:=C3) c rfl p2.symm rfl (by omega) (by omega) ?_;(conv=>whnf)
 rw[Wz];generalize o++[c]=O at *;rw[<-Wz];clear p3 p4 p5;refine P8 1000 N.XA rfl rfl ?_;(repeat' (apply BL<;>conv=>whnf))
 refine K7 (λ n=>n) (λ(n:Nat)=>n<=(O).length /\ ∀ i,n<=i->i<(O).length->(O)[i]? = some 0) (λ n=>[(3,.int .i64 n)]) (λ_=>[]) (O).length ⟨Nat.le_refl _,λ i h1 h2=>by omega⟩ ?_;intro n ⟨p1,p2⟩ ih;rcases n with _|n
 ·(repeat' ((first|(apply B6<;>intro hc<;>try omega)|apply BL)<;>conv=>whnf))
  refine QX 0 (by omega) (by omega) ?_;(conv=>whnf)
  have jf:=PZ (l:=O) (by assumption) p1 p2 (Or.inl rfl);have ag:(List.take 0 O).length<=(O).length:=by rw[List.length_take];omega
  clear ih p2;refine Abr (enc:=C3) (by omega) ?_;(conv=>whnf)
  rw[List.drop_zero,Nat.sub_zero];generalize Pm:List.take 0 O=T0 at *;refine qW (enc:=C3) (λ_=>rfl) (by omega) (by omega) ?_;(conv=>whnf)
  refine ⟨rfl,_,rfl,?_⟩;(conv=>whnf)
  (refine ⟨rfl,_,rfl,?_⟩;(conv=>whnf);(repeat' ((first|apply KY|refine BF (hsv _) ?_)<;>conv=>whnf));refine NL (enc:=C3) 0 rfl rfl rfl (by omega) (by omega) ?_;(conv=>whnf);rw[Xb]at jf;rw[jf];exact GF [] (by (conv=>whnf);exact ⟨rfl,rfl,rfl⟩) (Ai3 N (x:=x) (X:=X) (Y:=Y) (s:=s) (u:=dg (X*2^s)++[0]) (y:=dg (Y*2^s)) h0 jl ((K0 _).append (WU (by omega))) (by rw[mY,GO,Nat.mul_zero,Nat.add_zero]) (by simp) (by simp;omega) (K0 _) (GO _) (by omega) (by rw[GO,ti];exact n2)))
 ·have e1:((n+1:Nat):Int)-1=n:=by omega
  (repeat' ((first|(apply B6<;>intro hc<;>try omega)|(apply EL;omega)|(apply F8;omega)|(refine tE (by assumption) ?_ (λ v hv hb => ?_);omega)|apply BL)<;>conv=>whnf))
  ·rw[e1]
   exact FV [] (ih n (by omega) ⟨by omega,λ i h1 h2=>by
    by_cases h:i=n
    ·subst h
     rw[e1,Int.toNat_natCast]at hv;rw[hv];congr 1;omega
    ·exact p2 i (by omega) h2⟩)
  ·refine QX (n+1) (by omega) (by omega) ?_
   (conv=>whnf)
   rw[e1,Int.toNat_natCast]at hv;have jf:=PZ (l:=O) (by assumption) p1 p2 (Or.inr ⟨_,hv,by omega⟩);have ag:(List.take (n+1) O).length<=(O).length:=by rw[List.length_take];omega
   clear ih p2 hv;(rw[Aid (l:=O)];rotate_left;exact rfl;exact rfl);(conv=>whnf)
   refine Abr (enc:=C3) (by omega) ?_;(conv=>whnf)
   rw[List.drop_zero,Nat.sub_zero];generalize Pm:List.take (n+1) O=T0 at *;refine qW (enc:=C3) (λ_=>rfl) (by omega) (by omega) ?_;(conv=>whnf)
   refine ⟨rfl,_,rfl,?_⟩;(conv=>whnf)
   (refine ⟨rfl,_,rfl,?_⟩;(conv=>whnf);(repeat' ((first|apply KY|refine BF (hsv _) ?_)<;>conv=>whnf));refine NL (enc:=C3) 0 rfl rfl rfl (by omega) (by omega) ?_;(conv=>whnf);rw[Xb]at jf;rw[jf];exact GF [] (by (conv=>whnf);exact ⟨rfl,rfl,rfl⟩) (Ai3 N (x:=x) (X:=X) (Y:=Y) (s:=s) (u:=dg (X*2^s)++[0]) (y:=dg (Y*2^s)) h0 jl ((K0 _).append (WU (by omega))) (by rw[mY,GO,Nat.mul_zero,Nat.add_zero]) (by simp) (by simp;omega) (K0 _) (GO _) (by omega) (by rw[GO,ti];exact n2)))
theorem Atx (N:a8 L) (a b:List Nat) (q1 q2:Bool) (hA:EK a) (hB:EK b) (la:a.length<=274877906944) (lb:b.length<=274877906944) :
  Ev L 110 [.sl q1 (a.map C3),.sl q2 (b.map C3)] (.sl false ((dg (Nat.gcd (val a) (val b))).map C3)):=by
 have t1:=λ q=>PV N a q hA (by omega)
 have t2:=λ q=>PV N b q hB (by omega)
 have l1:=MT hA;have l2:=MT hB;generalize val a=X at *;generalize val b=Y at *;refine Ev.x N.jR rfl rfl ?_;(repeat' ((first|apply BL|refine BF (t1 _) ?_|refine BF (t2 _) ?_)<;>conv=>whnf))
 refine MR (λ_ y=>y) (λ(x y:Nat)=>(dg x).length<=274877906944/\(dg y).length<=274877906944/\Nat.gcd x y=Nat.gcd X Y) (λ x y=>[(0,.sl false ((dg x).map C3)),(1,.sl false ((dg y).map C3))]) (λ_ _=>[]) X Y ⟨by omega,by omega,rfl⟩ ?_;intro x y ⟨p1,p2,p3⟩ ih;rw[<-p3];by_cases h0:y=0
 ·subst h0
  have Ez:(dg 0).length=0:=by rw[NE];rfl
  clear ih;rw[Nat.gcd_zero_right];(repeat' ((first|(apply B6<;>intro hc<;>try omega)|apply C9|apply BL)<;>conv=>whnf))
  exact DH rfl (aL _)
 ·have hp:=Tw h0
  have hD:=λ q q'=>Aj8 N (dg x) (dg y) q q' (K0 _) (K0 _) p1 p2 (by rw[GO];exact h0)
  rw[GO,GO]at hD;have o5:x%y<y:=Nat.mod_lt _ (by omega);have De:=rK (Nat.le_of_lt o5);(repeat' ((first|(apply B6<;>intro hc<;>try omega)|apply C9|apply BL|refine BF (hD _ _) ?_)<;>conv=>whnf))
  rw[p3];exact FV [] (ih y (x%y) o5 ⟨p2,by omega,by rw[Ro];exact p3⟩)
theorem aM (N:a8 L) (n q:Bool) (m:List Nat) (hm:Sm 274877906944 m):Ev L 111 [.agg (rZ q n m)] (.agg (eZ (zv n m))):=by
 have hT:=λ q=>PV N m q hm.1 (by have:=hm.2;omega)
 have hz:=YP (val m);have ha:=M8 n m;refine Ev.x N.kQ rfl rfl ?_;cases n
 ·rw[MF]at *
  (repeat' ((first|apply BL|refine BF (hT _) ?_)<;>conv=>whnf))
  exact DH (MM ha.symm (P4 (by omega))) (KI _)
 ·rw[oY]at *
  (repeat' ((first|(apply B6<;>intro hc<;>try omega)|apply C9|apply BL|refine BF (hT _) ?_)<;>conv=>whnf))
  ·exact DH (MM ha.symm (mN (by omega))) (KI _)
  ·exact DH (MM ha.symm (P4 (by omega))) (KI _)
theorem Uv (N:a8 L) (n q:Bool) (m:List Nat) (hm:Sm 274877906944 m):Ev L 113 [.agg (rZ q n m)] (.int .i64 (w3 (zv n m))):=by
 have hT:=λ q=>aM N n q m hm
 generalize zv n m=z at *;have hz:=YP z.natAbs;refine Ev.x N.kM rfl rfl ?_;(repeat' ((first|(apply B6<;>intro hc<;>try omega)|apply C9|apply BL|refine BF (hT _) ?_)<;>conv=>whnf))
 ·exact IC (AcM (by omega))
 ·cases hd:decide (z<0)
  ·(conv=>whnf)
   exact IC (AgE (by have:=of_decide_eq_false hd;omega))
  ·(conv=>whnf)
   exact IC (AgD (of_decide_eq_true hd))
theorem AeT (N:a8 L) (n q:Bool) (m:List Nat) (hm:Sm 274877906944 m):Ev L 114 [.agg (rZ q n m)] (.agg (eZ (-(zv n m)))):=by
 have hT:=λ q=>aM N n q m hm
 generalize zv n m=z at *;have hz:=YP z.natAbs;refine Ev.x N.kJ rfl rfl ?_;(repeat' ((first|apply BL|refine BF (hT _) ?_)<;>conv=>whnf))
 cases hd:decide (z<0)
 ·have h1:=of_decide_eq_false hd
  (conv=>whnf)
  (repeat' ((first|(apply B6<;>intro hc<;>try omega)|apply C9)<;>conv=>whnf))
  ·exact DH (MM (by omega) (mN (by omega))) (KI _)
  ·exact DH (MM (by omega) (P4 (by omega))) (KI _)
 ·have h1:=of_decide_eq_true hd
  (conv=>whnf)
  skip
  exact DH (MM (by omega) (P4 (by omega))) (KI _)
theorem qA (N:a8 L) (n1 n2 q1 q2:Bool) (a b:List Nat) (ha:EK a) (hb:EK b) (hl:a.length+b.length<=274877906944):Ev L 118 [.agg (rZ q1 n1 a),.agg (rZ q2 n2 b)] (.agg (eZ (zv n1 a*zv n2 b))):=by
 have h1:=λ q q'=>Aty N a b q q' ha hb (by omega)
 have sa:Sm a.length a:=⟨ha,Nat.le_refl _⟩;have sb:Sm b.length b:=⟨hb,Nat.le_refl _⟩;have hT:=λ n q=>aM N n q (dg (val a*val b)) ((sa.mul sb rfl).le hl)
 have e : ∀ n,zv n (dg (val a*val b))=bif n then -((val a*val b:Nat):Int) else ((val a*val b:Nat):Int):=λ n=>by unfold zv;rw[GO]
 have e2:zv n1 a*zv n2 b=zv (n1 != n2) (dg (val a*val b)):=by
  rw[e];cases n1<;>cases n2<;>simp [MF,oY,Int.mul_neg,Int.neg_mul]
 rw[e2];refine Ev.x N.kH rfl rfl ?_;cases n1<;>cases n2;all_goals
  (repeat' ((first|apply BL|refine BF (h1 _ _) ?_|refine BF (hT _ _) ?_)<;>conv=>whnf))
  exact DH rfl (KI _)
theorem Aka (N:a8 L) (n1 n2 q1 q2:Bool) (a b:List Nat) (ha:Sm 274877906943 a) (hb:Sm 274877906943 b):Ev L 115 [.agg (rZ q1 n1 a),.agg (rZ q2 n2 b)] (.agg (eZ (zv n1 a+zv n2 b))):=by
 have t1:=λ q=>aM N n1 q a (ha.le (by omega))
 have t2:=λ q=>aM N n2 q b (hb.le (by omega))
 have s1:Sm 274877906943 (dg (zv n1 a).natAbs):=by rw[M8];exact ha.Hj
 have s2:Sm 274877906943 (dg (zv n2 b).natAbs):=by rw[M8];exact hb.Hj
 generalize zv n1 a=x at *;generalize zv n2 b=y at *;have h1:=λ q q'=>Aj6 N (dg x.natAbs) (dg y.natAbs) q q' s1.1 s2.1 (by have:=s1.2;omega) (by have:=s2.2;omega)
 have h2:=λ q q'=>AeS N (dg x.natAbs) (dg y.natAbs) q q' s1.1 s2.1 (by have:=s1.2;omega) (by have:=s2.2;omega)
 have h3:=λ q q'=>AeS N (dg y.natAbs) (dg x.natAbs) q q' s2.1 s1.1 (by have:=s2.2;omega) (by have:=s1.2;omega)
 have q6:=λ q q'=>AeR N (dg x.natAbs) (dg y.natAbs) q q' s1.1 s2.1 (by have:=s1.2;omega) (by have:=s2.2;omega)
 rw[GO,GO]at h1 h2 h3 q6;have u1:=λ n q=>aM N n q (dg (x.natAbs+y.natAbs)) (s1.add s2 (by rw[GO,GO];omega))
 have u2:=λ n q=>aM N n q (dg (x.natAbs-y.natAbs)) ((s1.low (V:=x.natAbs-y.natAbs) (by rw[GO];omega)).le (by omega))
 have u3:=λ n q=>aM N n q (dg (y.natAbs-x.natAbs)) ((s2.low (V:=y.natAbs-x.natAbs) (by rw[GO];omega)).le (by omega))
 have e : ∀ n V,zv n (dg V)=bif n then -(V:Int) else (V:Int):=λ n V=>by unfold zv;rw[GO]
 refine Ev.x N.kC rfl rfl ?_;(repeat' ((first|apply BL|refine BF (t1 _) ?_|refine BF (t2 _) ?_)<;>conv=>whnf))
 cases hx:decide (x<0)<;>cases hy:decide (y<0)
 ·have g1:=of_decide_eq_false hx
  have g2:=of_decide_eq_false hy;have hz:x+y=zv false (dg (x.natAbs+y.natAbs)):=by rw[e];simp only[cond_true,cond_false];omega
  rw[hz];(conv=>whnf)
  (repeat' ((first|refine BF (h1 _ _) ?_|refine BF (u1 _ _) ?_)<;>conv=>whnf))
  exact DH rfl (KI _)
 ·have g1:=of_decide_eq_false hx
  have g2:=of_decide_eq_true hy;by_cases o5:x.natAbs<y.natAbs
  ·have hz:x+y=zv true (dg (y.natAbs-x.natAbs)):=by rw[e];simp only[cond_true,cond_false];omega
   rw[hz];rw[<-YM (by omega)]at q6;(conv=>whnf)
   (repeat' ((first|(apply B6<;>intro hc<;>try omega)|refine BF (q6 _ _) ?_|refine BF (h3 _ _) ?_|refine BF (u3 _ _) ?_)<;>conv=>whnf))
   exact DH rfl (KI _)
  ·have hz:x+y=zv false (dg (x.natAbs-y.natAbs)):=by rw[e];simp only[cond_true,cond_false];omega
   rw[hz];have zz:=AbG (show y.natAbs<=x.natAbs by omega);generalize JQ (x.natAbs:Nat) (y.natAbs:Nat)=cm at *;(conv=>whnf)
   (repeat' ((first|(apply B6<;>intro hc<;>try omega)|refine BF (q6 _ _) ?_|refine BF (h2 _ _) ?_|refine BF (u2 _ _) ?_)<;>conv=>whnf))
   exact DH rfl (KI _)
 ·have g1:=of_decide_eq_true hx
  have g2:=of_decide_eq_false hy;by_cases o5:x.natAbs<y.natAbs
  ·have hz:x+y=zv false (dg (y.natAbs-x.natAbs)):=by rw[e];simp only[cond_true,cond_false];omega
   rw[hz];rw[<-YM (by omega)]at q6;(conv=>whnf)
   (repeat' ((first|(apply B6<;>intro hc<;>try omega)|refine BF (q6 _ _) ?_|refine BF (h3 _ _) ?_|refine BF (u3 _ _) ?_)<;>conv=>whnf))
   exact DH rfl (KI _)
  ·have hz:x+y=zv true (dg (x.natAbs-y.natAbs)):=by rw[e];simp only[cond_true,cond_false];omega
   rw[hz];have zz:=AbG (show y.natAbs<=x.natAbs by omega);generalize JQ (x.natAbs:Nat) (y.natAbs:Nat)=cm at *;(conv=>whnf)
   (repeat' ((first|(apply B6<;>intro hc<;>try omega)|refine BF (q6 _ _) ?_|refine BF (h2 _ _) ?_|refine BF (u2 _ _) ?_)<;>conv=>whnf))
   exact DH rfl (KI _)
 ·have g1:=of_decide_eq_true hx
  have g2:=of_decide_eq_true hy;have hz:x+y=zv true (dg (x.natAbs+y.natAbs)):=by rw[e];simp only[cond_true,cond_false];omega
  rw[hz];(conv=>whnf)
  (repeat' ((first|refine BF (h1 _ _) ?_|refine BF (u1 _ _) ?_)<;>conv=>whnf))
  exact DH rfl (KI _)
theorem AtD (N:a8 L) (n1 n2 q1 q2:Bool) (a b:List Nat) (ha:Sm 274877906943 a) (hb:Sm 274877906943 b):Ev L 116 [.agg (rZ q1 n1 a),.agg (rZ q2 n2 b)] (.agg (eZ (zv n1 a-zv n2 b))):=by
 have t2:=λ q=>AeT N n2 q b (hb.le (by omega))
 have s2:Sm 274877906943 (dg (-(zv n2 b)).natAbs):=by rw[Int.natAbs_neg,M8];exact hb.Hj
 have h1:=λ q q'=>Aka N n1 (decide (-(zv n2 b)<0)) q q' a (dg (-(zv n2 b)).natAbs) ha s2
 rw[NI,<-Int.sub_eq_add_neg]at h1;refine Ev.x N.kP rfl rfl ?_;(repeat' ((first|apply BL|refine BF (t2 _) ?_|refine BF (h1 _ _) ?_)<;>conv=>whnf))
 exact DH rfl (KI _)
theorem AtB (N:a8 L) (n1 n2 q1 q2:Bool) (a b:List Nat) (ha:Sm 274877906943 a) (hb:Sm 274877906943 b):Ev L 117 [.agg (rZ q1 n1 a),.agg (rZ q2 n2 b)] (.int .i64 (w3 (zv n1 a-zv n2 b))):=by
 have h1:=λ q q'=>AtD N n1 n2 q q' a b ha hb
 have s1:Sm 274877906943 (dg (zv n1 a).natAbs):=by rw[M8];exact ha.Hj
 have s2:Sm 274877906943 (dg (zv n2 b).natAbs):=by rw[M8];exact hb.Hj
 have s3:Sm 274877906944 (dg (zv n1 a-zv n2 b).natAbs):=s1.add s2 (by rw[GO,GO];omega);have h2:=λ q=>Uv N (decide (zv n1 a-zv n2 b<0)) q (dg (zv n1 a-zv n2 b).natAbs) s3
 rw[NI]at h2;refine Ev.x N.kD rfl rfl ?_;(repeat' ((first|apply BL|refine BF (h1 _ _) ?_|refine BF (h2 _) ?_)<;>conv=>whnf))
 exact IC rfl
theorem AeU (N:a8 L) (z:Int) (hz : -9223372036854775808<=z/\z<=9223372036854775807):Ev L 112 [.int .i64 z] (.agg (eZ z)):=by
 have two : ∀ k:Nat,k<18446744073709551616 -> ∀ n q,Ev L 111 [.agg [.bool n,.sl q [[.int .u32 ((k%4294967296:Nat):Int)],[.int .u32 ((k/4294967296:Nat):Int)]]]] (.agg (eZ (bif n then -(k:Int) else (k:Int)))):=λ k hk n q=>by
  have:=aM N n q [k%4294967296,k/4294967296] ⟨(dg2 hk).2,by simp⟩
  unfold zv at this;rw[Aos hk]at this;exact this
 refine Ev.x N.kK rfl rfl ?_;by_cases h0:0<=z
 ·obtain ⟨k,rfl⟩:=Int.eq_ofNat_of_zero_le h0
  have hT:=two k (by omega);(repeat' ((first|(apply B6<;>intro hc<;>try omega)|apply N6|(apply HN;omega)|(apply L5;omega)|apply O7|refine Z3 rfl rfl ?_|apply BL)<;>conv=>whnf))
  generalize k%4294967296=lo at *;generalize k/4294967296=hi at *;(repeat' (refine BF (hT _ _) ?_<;>conv=>whnf))
  exact DH rfl (KI _)
 ·obtain ⟨k,hk⟩:=Int.eq_ofNat_of_zero_le (show 0 <= -(z+1) by omega)
  have Cm:z = -((k+1:Nat):Int):=by omega
  have hT:=two (k+1) (by omega);(repeat' ((first|(apply B6<;>intro hc<;>try omega)|(apply DD;omega)|apply AhY|(apply IH.neg;omega)|(apply HN;omega)|apply BL)<;>conv=>whnf))
  rw[show IntKind.u64.wrap (-(z+1)+1)=((k+1:Nat):Int) by rw[IntWalk.u64_in _ (by omega)];omega];rw[Cm];generalize k+1=k1 at *;(repeat' ((first|apply N6|(apply L5;omega)|apply O7|refine Z3 rfl rfl ?_)<;>conv=>whnf))
  generalize k1%4294967296=lo at *;generalize k1/4294967296=hi at *;(repeat' (refine BF (hT _ _) ?_<;>conv=>whnf))
  exact DH rfl (KI _)
theorem AtC (N:a8 L) (n1 n2 q1 q2:Bool) (a b:List Nat) (ha:Sm 274877906944 a) (hb:Sm 274877906944 b):Ev L 120 [.agg (rZ q1 n1 a),.agg (rZ q2 n2 b)] (.agg (eZ ((Nat.gcd (val a) (val b):Nat):Int))):=by
 have h1:=λ q q'=>Atx N a b q q' ha.1 hb.1 ha.2 hb.2
 refine Ev.x N.kF rfl rfl ?_;(repeat' ((first|apply BL|refine BF (h1 _ _) ?_)<;>conv=>whnf))
 exact DH (MM (by omega) (P4 (by omega))) (KI _)
theorem AsB (n1 n2:Bool) (A B:Nat) (hB:B≠0):(bif n1 then -(A:Int) else (A:Int))/(bif n2 then -(B:Int) else (B:Int))=(bif n1 != n2 then -((if n1=true/\A%B≠0 then A/B+1 else A/B:Nat):Int) else ((if n1=true/\A%B≠0 then A/B+1 else A/B:Nat):Int)) /\
  (bif n1 then -(A:Int) else (A:Int))%(bif n2 then -(B:Int) else (B:Int))=((if n1=true/\A%B≠0 then B-A%B else A%B:Nat):Int):=by
 have hBp:(0:Int)<B:=by omega
 have key : ∀ x:Int,x/(bif n2 then -(B:Int) else (B:Int))=(bif n2 then -(x/B) else x/B)/\x%(bif n2 then -(B:Int) else (B:Int))=x%B:=λ x=>by
  cases n2
  ·exact ⟨rfl,rfl⟩
  ·exact ⟨Int.ediv_neg x B,Int.emod_neg x B⟩
 rw[(key _).1,(key _).2];cases n1
 ·have h1:((A:Int))/B=((A/B:Nat):Int):=by simp
  have h2:((A:Int))%B=((A%B:Nat):Int):=by simp
  simp only[cond_false,h1,h2];cases n2<;>simp
 ·have hd:=Nat.div_add_mod A B
  have o5:=Nat.mod_lt A (show B>0 by omega);by_cases h0:A%B=0
  ·have e : -(A:Int)=(B:Int)*(-((A/B:Nat):Int)):=by
    rw[h0,Nat.add_zero]at hd;rw[Int.mul_neg,<-Int.natCast_mul,hd]
   have h1 : -(A:Int)/B = -((A/B:Nat):Int):=by rw[e,Int.mul_ediv_cancel_left _ (by omega)]
   have h2 : -(A:Int)%B=0:=by rw[e,Int.mul_emod_right]
   simp only[cond_true,h1,h2,h0];cases n2<;>simp
  ·have e : -(A:Int)=(B:Int)*(-((A/B+1:Nat):Int))+((B-A%B:Nat):Int):=by
    have h3:(B:Int)*((A/B:Nat):Int)+((A%B:Nat):Int)=A:=by rw[<-Int.natCast_mul,<-Int.natCast_add,hd]
    rw[Int.mul_neg,Int.natCast_add,Int.mul_add];omega
   have h1 : -(A:Int)/B = -((A/B+1:Nat):Int):=by
    rw[e,Int.mul_add_ediv_left _ _ (by omega),Int.ediv_eq_zero_of_lt (by omega) (by omega),Int.add_zero]
   have h2 : -(A:Int)%B=((B-A%B:Nat):Int):=by
    rw[e,Int.mul_add_emod_self_left,Int.emod_eq_of_lt (by omega) (by omega)]
   simp only[cond_true,h1,h2];cases n2<;>simp [h0]
theorem Akb (N:a8 L) (n1 n2 q1 q2:Bool) (a b:List Nat) (ha:Sm 274877906943 a) (hb:Sm 274877906943 b) (h0:zv n2 b≠0):Ev L 119 [.agg (rZ q1 n1 a),.agg (rZ q2 n2 b)] (.j5 [.agg (eZ (zv n1 a/zv n2 b)),.agg (eZ (zv n1 a%zv n2 b)),.int .i64 0]):=by
 have t1:=λ q=>aM N n1 q a (ha.le (by omega))
 have t2:=λ q=>aM N n2 q b (hb.le (by omega))
 have s1:Sm 274877906943 (dg (zv n1 a).natAbs):=by rw[M8];exact ha.Hj
 have s2:Sm 274877906943 (dg (zv n2 b).natAbs):=by rw[M8];exact hb.Hj
 generalize zv n1 a=x at *;generalize zv n2 b=y at *;have Pj:=λ q q'=>Aj8 N (dg x.natAbs) (dg y.natAbs) q q' s1.1 s2.1 (by have:=s1.2;omega) (by have:=s2.2;omega) (by rw[GO];omega)
 rw[GO,GO]at Pj;obtain ⟨e1,e2⟩:=AsB (decide (x<0)) (decide (y<0)) x.natAbs y.natAbs (by omega);have hx:(bif decide (x<0) then -(x.natAbs:Int) else (x.natAbs:Int))=x:=by have:=NI x;unfold zv at this;rw[GO]at this;exact this
 have hy:(bif decide (y<0) then -(y.natAbs:Int) else (y.natAbs:Int))=y:=by have:=NI y;unfold zv at this;rw[GO]at this;exact this
 rw[hx,hy]at e1 e2;rw[e1,e2];have l1:=s1.2;have l2:=s2.2;have hq:Sm 274877906943 (dg (x.natAbs/y.natAbs)):=s1.low (by rw[GO];exact Nat.div_le_self _ _);have hr:Sm 274877906943 (dg (x.natAbs%y.natAbs)):=s2.low (by rw[GO];exact Nat.le_of_lt (Nat.mod_lt _ (by omega)));have hrz:=YP (x.natAbs%y.natAbs);have Ag:Ev L 103 [.sl false ((dg (x.natAbs/y.natAbs)).map C3),.sl true [[.int .u32 1]]] (.sl false ((dg (x.natAbs/y.natAbs+1)).map C3)):=by
  have:=Aj6 N (dg (x.natAbs/y.natAbs)) [1] false true (K0 _) (WU (by omega)) (by have:=hq.2;omega) (by simp)
  rw[GO,show val [1]=1 from rfl]at this;exact this
 have Lg:Sm 274877906944 (dg (x.natAbs/y.natAbs+1)):=hq.add (b:=[1]) (AgH (by omega) (by omega)) (by rw[GO];simp [val]);have Zd:=λ q q'=>AeS N (dg y.natAbs) (dg (x.natAbs%y.natAbs)) q q' s2.1 hr.1 (by omega) (by have:=hr.2;omega)
 rw[GO,GO]at Zd;have u1:=λ n q=>aM N n q (dg (x.natAbs/y.natAbs)) (hq.le (by omega))
 have u2:=λ n q=>aM N n q (dg (x.natAbs/y.natAbs+1)) Lg
 have ez : ∀ n V,zv n (dg V)=bif n then -(V:Int) else (V:Int):=λ n V=>by unfold zv;rw[GO]
 have fin : ∀ (z:Int) (V:Nat),B9 (.j5 [.agg (eZ z),.agg [.bool false,.sl false ((dg V).map C3)],.int .i64 0]) (.j5 [.agg (eZ z),.agg (eZ (V:Int)),.int .i64 0]):=λ z V=>by
  have e3:AV.agg (eZ (V:Int)) = .agg [.bool false,.sl false ((dg V).map C3)]:=(MM (by omega) (P4 (by omega))).symm;rw[e3];refine DH rfl ?_;simp only[EA,GK,and_true,true_and];exact ⟨I7 _,I7 _⟩
 clear e1 e2 hx hy;generalize x.natAbs/y.natAbs=qq at *;generalize x.natAbs%y.natAbs=rr at *;refine Ev.x N.kE rfl rfl ?_;(repeat' ((first|(apply B6<;>intro hc<;>try omega)|apply BL|refine BF (t1 _) ?_|refine BF (t2 _) ?_|refine BF (Pj _ _) ?_)<;>conv=>whnf))
 generalize decide (x<0)=p at *;generalize decide (y<0)=r at *;cases p
 ·rw[if_neg (by simp),if_neg (by simp),<-ez]
  cases r;all_goals
   (conv=>whnf)
   (repeat' (refine BF (u1 _ _) ?_<;>conv=>whnf))
   exact fin _ _
 ·by_cases yo:rr=0
  ·rw[if_neg (by simp [yo]),if_neg (by simp [yo]),<-ez]
   cases r;all_goals
    (conv=>whnf)
    (repeat' ((first|(apply B6<;>intro hc<;>try omega)|apply C9|refine BF (u1 _ _) ?_)<;>conv=>whnf))
    exact fin _ _
  ·rw[if_pos ⟨rfl,yo⟩,if_pos ⟨rfl,yo⟩,<-ez]
   cases r;all_goals
    (conv=>whnf)
    (repeat' ((first|(apply B6<;>intro hc<;>try omega)|apply C9|refine N9 rfl ?_|refine BF (Ag) ?_|refine BF (Zd _ _) ?_|refine BF (u2 _ _) ?_)<;>conv=>whnf))
    exact fin _ _
theorem AiV:dg 1=[1]:=by rw[Z6 (by omega)];simp [NE]
theorem Aic:AV.agg [.bool false,.sl false [],.sl false [[.int .u32 1]]] = .agg (eQ 0):=by
 show _=AV.agg (rQ _ _ _ _ _);rw[Rat.zero_num,Rat.zero_den,AiV,show (0:Int).natAbs=0 from rfl,NE];rfl
theorem ArK {x y:Int} (hy:y≠0):(Rat.divInt x y).num=(if y<0 then -(x/((Nat.gcd x.natAbs y.natAbs:Nat):Int)) else x/((Nat.gcd x.natAbs y.natAbs:Nat):Int))/\(Rat.divInt x y).den=(y/((Nat.gcd x.natAbs y.natAbs:Nat):Int)).natAbs:=by
 have h1:=Rat.num_divInt x y;have h2:=Rat.den_divInt x y;rw[if_neg hy]at h2;have hg:Int.gcd y x=Nat.gcd x.natAbs y.natAbs:=by rw[Int.gcd,Nat.gcd_comm]
 rw[hg]at h1 h2;have hgp:0<Nat.gcd x.natAbs y.natAbs:=Nat.gcd_pos_of_pos_right _ (by omega);have dx:((Nat.gcd x.natAbs y.natAbs:Nat):Int) ∣ x:=Int.ofNat_dvd_left.2 (Nat.gcd_dvd_left _ _);have dy:((Nat.gcd x.natAbs y.natAbs:Nat):Int) ∣ y:=Int.ofNat_dvd_left.2 (Nat.gcd_dvd_right _ _);generalize Nat.gcd x.natAbs y.natAbs=g at *;rw[h1,h2];obtain ⟨u,rfl⟩:=dx;obtain ⟨v,rfl⟩:=dy;have Nb:(g:Int)≠0:=by omega
 refine ⟨?_,?_⟩
 ·rw[Int.mul_ediv_cancel_left _ Nb]
  split
  ·rename_i h
   rw[Int.sign_eq_neg_one_of_neg h,show -1*((g:Int)*u)=g*(-u) by rw[Int.mul_neg];omega,Int.mul_ediv_cancel_left _ Nb]
  ·rw[Int.sign_eq_one_of_pos (by omega),Int.one_mul,Int.mul_ediv_cancel_left _ Nb]
 ·rw[Int.mul_ediv_cancel_left _ Nb,Int.natAbs_mul,Int.natAbs_natCast,Nat.mul_div_cancel_left _ hgp]
theorem Uz (N:a8 L) (n1 n2 q1 q2:Bool) (a b:List Nat) (ha:Sm 274877906943 a) (hb:Sm 274877906943 b):Ev L 121 [.agg (rZ q1 n1 a),.agg (rZ q2 n2 b)] (.agg (eQ (Rat.divInt (zv n1 a) (zv n2 b)))):=by
 have t1:=λ q=>Uv N n1 q a (ha.le (by omega))
 have t2:=λ q=>Uv N n2 q b (hb.le (by omega))
 by_cases h1:zv n1 a=0
 ·rw[h1,Rat.zero_divInt,<-Aic]
  rw[h1,<-AcM rfl]at t1;refine Ev.x N.ZB rfl rfl ?_;(repeat' ((first|(apply B6<;>intro hc<;>try omega)|refine N9 rfl ?_|apply BL|refine BF (t1 _) ?_)<;>conv=>whnf))
  exact DH rfl (AbD false [] [1])
 have s1:w3 (zv n1 a)≠0:=by unfold w3;split<;>(try split)<;>omega
 by_cases h2:zv n2 b=0
 ·rw[h2,Rat.divInt_zero,<-Aic]
  rw[h2,<-AcM rfl]at t2;generalize w3 (zv n1 a)=sg at *;refine Ev.x N.ZB rfl rfl ?_;(repeat' ((first|(apply B6<;>intro hc<;>try omega)|refine N9 rfl ?_|apply BL|refine BF (t1 _) ?_|refine BF (t2 _) ?_)<;>conv=>whnf))
  exact DH rfl (AbD false [] [1])
 have s2:w3 (zv n2 b)≠0:=by unfold w3;split<;>(try split)<;>omega
 obtain ⟨p1,p2⟩:=ArK (x:=zv n1 a) h2;have hG:=λ q q'=>AtC N n1 n2 q q' a b (ha.le (by omega)) (hb.le (by omega))
 have hle:Nat.gcd (val a) (val b)<=val b:=Nat.gcd_le_right _ (by have:=M8 n2 b;omega);have hgp:0<Nat.gcd (val a) (val b):=Nat.gcd_pos_of_pos_right _ (by have:=M8 n2 b;omega);have sg:Sm 274877906943 (dg (Nat.gcd (val a) (val b))):=hb.low hle;rw[M8,M8]at p1 p2;have hgf:decide (((Nat.gcd (val a) (val b):Nat):Int)<0)=false:=by simp
 have sg':Sm 274877906943 (dg (((Nat.gcd (val a) (val b):Nat):Int)).natAbs):=by rw[Int.natAbs_natCast];exact sg
 have zg:zv (decide (((Nat.gcd (val a) (val b):Nat):Int)<0)) (dg (((Nat.gcd (val a) (val b):Nat):Int)).natAbs)=((Nat.gcd (val a) (val b):Nat):Int):=NI _;have Ed:=λ q q'=>Akb N n1 _ q q' a _ ha sg' (by rw[zg];omega)
 have Ee:=λ q q'=>Akb N n2 _ q q' b _ hb sg' (by rw[zg];omega)
 rw[zg]at Ed Ee;have Fi:Sm 274877906943 (dg (zv n1 a/((Nat.gcd (val a) (val b):Nat):Int)).natAbs):=ha.low (by
  have:(zv n1 a/((Nat.gcd (val a) (val b):Nat):Int)).natAbs<=(zv n1 a).natAbs:=Int.natAbs_ediv_le_natAbs _ _
  rw[M8]at this;exact this)
 have Nb:0<((Nat.gcd (val a) (val b):Nat):Int):=by omega
 generalize ((Nat.gcd (val a) (val b):Nat):Int)=g at *;generalize zv n1 a=x at *;generalize zv n2 b=y at *;generalize w3 x=sx at *;generalize w3 y=sy at *;have hN:=λ q=>AeT N (decide (x/g<0)) q (dg (x/g).natAbs) (Fi.le (by omega))
 rw[NI]at hN;have hyd:decide (y/g<0)=decide (y<0):=by
  congr 1;rw[eq_iff_iff,Int.ediv_lt_iff_lt_mul (by omega),Int.zero_mul]
 refine Ev.x N.ZB rfl rfl ?_;(repeat' ((first|(apply B6<;>intro hc<;>try omega)|apply BL|refine BF (t1 _) ?_|refine BF (t2 _) ?_|refine BF (hG _ _) ?_|refine BF (Ed _ _) ?_|refine BF (Ee _ _) ?_)<;>conv=>whnf))
 cases hyn:decide (y/g<0)
 ·rw[hyn]at hyd
  rw[if_neg (of_decide_eq_false hyd.symm)]at p1;(conv=>whnf)
  skip
  refine DH ?_ (JB _);show _=AV.agg (rQ _ _ _ _ _);rw[p1,p2]
 ·rw[hyn]at hyd
  rw[if_pos (of_decide_eq_true hyd.symm)]at p1;(conv=>whnf)
  (repeat' (refine BF (hN _) ?_<;>conv=>whnf))
  refine DH ?_ (JB _);show _=AV.agg (rQ _ _ _ _ _);rw[p1,p2]
theorem ArM {z:Int} {d:List Nat}:Rat.divInt z (zv false d)=mkRat z (val d):=by rw[MF,Rat.divInt_ofNat]
def ApO (n:Bool) (m d:List Nat) (n':Bool) (m' d':List Nat) (k:Nat):Prop:=Sm k m'/\Sm k d'/\val d'≠0/\qv n m d=mkRat (zv n' m') (val d')
theorem AiA (n:Bool) (m d:List Nat):EA (.j5 [.agg (rZ false n m),.agg (rZ false false d)]):=by
 simp only[EA,GK,and_true,true_and];exact ⟨I7 _,I7 _⟩
theorem oB (N:a8 L) (n q:Bool) (m d:List Nat) (k:Nat) (hk:1<=k/\k<=274877906943) (hm:Sm k m) (hd:Sm k d) : ∃ n' m' d',Ev L 122 [.agg (rQ false q n m d)] (.j5 [.agg (rZ false n' m'),.agg (rZ false false d')])/\ApO n m d n' m' d' k:=by
 have t1:=λ q=>PV N d q hd.1 (by have:=hd.2;omega)
 have hl:=YP (val d);by_cases h0:val d=0
 ·refine ⟨false,[],[1],?_,yN _,AgH hk.1 (by omega),by decide,by unfold qv;rw[h0,Rat.mkRat_zero,AoH,Rat.zero_mkRat]⟩
  refine Ev.x N.bC rfl rfl ?_;(repeat' ((first|(apply B6<;>intro hc<;>try omega)|apply C9|refine N9 rfl ?_|apply BL|refine BF (t1 _) ?_)<;>conv=>whnf))
  exact DH rfl (AiA false [] [1])
 ·refine ⟨n,m,dg (val d),?_,hm,hd.Hj,by rw[GO];exact h0,by rw[GO];rfl⟩
  refine Ev.x N.bC rfl rfl ?_;(repeat' ((first|(apply B6<;>intro hc<;>try omega)|apply C9|apply BL|refine BF (t1 _) ?_)<;>conv=>whnf))
  exact DH rfl (AiA _ _ _)
theorem AtG (N:a8 L) (n q:Bool) (m d:List Nat) (hm:Sm 274877906943 m) (hd:Sm 274877906943 d):Ev L 123 [.agg (rQ false q n m d)] (.agg (eQ (qv n m d))):=by
 obtain ⟨n',m',d',hp,s1,s2,s3,s4⟩:=oB N n q m d 274877906943 (by omega) hm hd;have hr:=λ q q'=>Uz N n' false q q' m' d' s1 s2
 rw[ArM,<-s4]at hr;refine Ev.x N.lG rfl rfl ?_;(repeat' ((first|apply BL|refine BF (hp) ?_|refine BF (hr _ _) ?_)<;>conv=>whnf))
 exact DH rfl (JB _)
theorem Aqs (z:Int):AV.agg [.bool (decide (z<0)),.sl false ((dg z.natAbs).map C3),.sl false [[.int .u32 1]]] = .agg (eQ (z:Rat)):=by
 show _=AV.agg (rQ _ _ _ _ _);rw[Rat.num_intCast,Rat.den_intCast,AiV];rfl
theorem YU (N:a8 L) (z:Int) (hz : -9223372036854775808<=z/\z<=9223372036854775807):Ev L 124 [.int .i64 z] (.agg (eQ (z:Rat))):=by
 have h1:=AeU N z hz;refine Ev.x N.kZ rfl rfl ?_;(repeat' ((first|refine N9 rfl ?_|apply BL|refine BF (h1) ?_)<;>conv=>whnf))
 exact DH (Aqs z) (JB _)
theorem Ano {z:Int} (hz : -9223372036854775808<=z/\z<=9223372036854775808):Sm 2 (dg z.natAbs):=Sm.dg (by omega)
theorem AbW (N:a8 L) (x y:Int) (hx : -9223372036854775808<=x/\x<=9223372036854775807) (hy : -9223372036854775808<=y/\y<=9223372036854775807):Ev L 125 [.int .i64 x,.int .i64 y] (.agg (eQ (Rat.divInt x y))):=by
 have h1:=AeU N x hx;have h2:=AeU N y hy;have hr:=λ q q'=>Uz N (decide (x<0)) (decide (y<0)) q q' _ _ ((Ano (z:=x) (by omega)).le (by omega)) ((Ano (z:=y) (by omega)).le (by omega))
 rw[NI,NI]at hr;refine Ev.x N.kV rfl rfl ?_;(repeat' ((first|apply BL|refine BF (h1) ?_|refine BF (h2) ?_|refine BF (hr _ _) ?_)<;>conv=>whnf))
 exact DH rfl (JB _)
theorem qQ {k l:Nat} {n1 n2:Bool} {a b:List Nat} (ha:Sm k a) (hb:Sm l b):Sm (k+l) (dg (zv n1 a*zv n2 b).natAbs):=ha.mul hb (by rw[Int.natAbs_mul,M8,M8])
theorem Aw9 {k:Nat} {x y:Int} (ha:Sm k (dg x.natAbs)) (hb:Sm k (dg y.natAbs)):Sm (k+1) (dg (x+y).natAbs):=ha.add hb (by rw[GO,GO];omega)
theorem AtE (N:a8 L) (k:Nat) (hk:1<=k/\k<=68719476736) (n1 n2 q2 q4:Bool) (m1 d1 m2 d2:List Nat) (oa:Sm k m1) (wz:Sm k d1) (od:Sm k m2) (Bh:Sm k d2) :
  Ev L 126 [.agg (rQ false q2 n1 m1 d1),.agg (rQ false q4 n2 m2 d2)] (.agg (eQ (qv n1 m1 d1+qv n2 m2 d2))):=by
 obtain ⟨a1,a2,a3,ji,s1,s2,s3,s5⟩:=oB N n1 q2 m1 d1 k (by omega) oa wz;obtain ⟨b1,b2,b3,gy,t1,t2,t3,t5⟩:=oB N n2 q4 m2 d2 k (by omega) od Bh;have l1:=s1.2;have l2:=s2.2;have l3:=t1.2;have l4:=t2.2;rw[s5,t5,Acf s3 t3,<-MF b3,<-MF a3];have nx:=λ q q'=>qA N a1 false q q' a2 b3 s1.1 t2.1 (by omega)
 have sf:=λ q q'=>qA N b1 false q q' b2 a3 t1.1 s2.1 (by omega)
 have Cb:=λ q q'=>qA N false false q q' a3 b3 s2.1 t2.1 (by omega)
 have g1:Sm (k+k) (dg (zv a1 a2*zv false b3).natAbs):=qQ s1 t2;have g2:Sm (k+k) (dg (zv b1 b2*zv false a3).natAbs):=qQ t1 s2;have g3:=Aw9 g1 g2;have g4:Sm (k+k) (dg (zv false a3*zv false b3).natAbs):=qQ s2 t2;have hA:=λ q q'=>Aka N (decide (zv a1 a2*zv false b3<0)) (decide (zv b1 b2*zv false a3<0)) q q' _ _ (g1.le (by omega)) (g2.le (by omega))
 rw[NI,NI]at hA;have hR:=λ q q'=>Uz N (decide (zv a1 a2*zv false b3+zv b1 b2*zv false a3<0)) (decide (zv false a3*zv false b3<0)) q q' _ _ (g3.le (by omega)) (g4.le (by omega))
 rw[NI,NI,show zv false a3*zv false b3=((val a3*val b3:Nat):Int) by rw[MF,MF];simp,Rat.divInt_ofNat]at hR;rw[show zv false a3*zv false b3=((val a3*val b3:Nat):Int) by rw[MF,MF];simp]at Cb;refine Ev.x N.kS rfl rfl ?_;(repeat' ((first|apply BL|refine BF (ji) ?_|refine BF (gy) ?_|refine BF (nx _ _) ?_|refine BF (sf _ _) ?_|refine BF (hA _ _) ?_|refine BF (Cb _ _) ?_|refine BF (hR _ _) ?_)<;>conv=>whnf))
 exact DH rfl (JB _)
theorem AtF (N:a8 L) (k:Nat) (hk:1<=k/\k<=68719476736) (n1 n2 q2 q4:Bool) (m1 d1 m2 d2:List Nat) (oa:Sm k m1) (wz:Sm k d1) (od:Sm k m2) (Bh:Sm k d2) :
  Ev L 128 [.agg (rQ false q2 n1 m1 d1),.agg (rQ false q4 n2 m2 d2)] (.agg (eQ (qv n1 m1 d1*qv n2 m2 d2))):=by
 obtain ⟨a1,a2,a3,ji,s1,s2,s3,s5⟩:=oB N n1 q2 m1 d1 k (by omega) oa wz;obtain ⟨b1,b2,b3,gy,t1,t2,t3,t5⟩:=oB N n2 q4 m2 d2 k (by omega) od Bh;have l1:=s1.2;have l2:=s2.2;have l3:=t1.2;have l4:=t2.2;rw[s5,t5,AfC];have nx:=λ q q'=>qA N a1 b1 q q' a2 b2 s1.1 t1.1 (by omega)
 have Cb:=λ q q'=>qA N false false q q' a3 b3 s2.1 t2.1 (by omega)
 have g1:Sm (k+k) (dg (zv a1 a2*zv b1 b2).natAbs):=qQ s1 t1;have g4:Sm (k+k) (dg (zv false a3*zv false b3).natAbs):=qQ s2 t2;have hR:=λ q q'=>Uz N (decide (zv a1 a2*zv b1 b2<0)) (decide (zv false a3*zv false b3<0)) q q' _ _ (g1.le (by omega)) (g4.le (by omega))
 rw[NI,NI,show zv false a3*zv false b3=((val a3*val b3:Nat):Int) by rw[MF,MF];simp,Rat.divInt_ofNat]at hR;rw[show zv false a3*zv false b3=((val a3*val b3:Nat):Int) by rw[MF,MF];simp]at Cb;refine Ev.x N.kX rfl rfl ?_;(repeat' ((first|apply BL|refine BF (ji) ?_|refine BF (gy) ?_|refine BF (nx _ _) ?_|refine BF (Cb _ _) ?_|refine BF (hR _ _) ?_)<;>conv=>whnf))
 exact DH rfl (JB _)
theorem Al8 {a b:Int} {d e:Nat} (hd:d≠0) (he:e≠0):w3 (a*e-b*d)=w3 (mkRat a d-mkRat b e).num:=by
 have h:mkRat a d-mkRat b e=mkRat (a*e-b*d) (d*e):=by
  rw[Rat.sub_eq_add_neg,Rat.neg_mkRat,Acf hd he,Int.neg_mul,<-Int.sub_eq_add_neg]
 rw[h,AfH (Nat.mul_ne_zero hd he)]
theorem Akc (N:a8 L) (k:Nat) (hk:1<=k/\k<=68719476736) (n1 n2 q2 q4:Bool) (m1 d1 m2 d2:List Nat) (oa:Sm k m1) (wz:Sm k d1) (od:Sm k m2) (Bh:Sm k d2) :
  Ev L 127 [.agg (rQ false q2 n1 m1 d1),.agg (rQ false q4 n2 m2 d2)] (.int .i64 (w3 (qv n1 m1 d1-qv n2 m2 d2).num)):=by
 obtain ⟨a1,a2,a3,ji,s1,s2,s3,s5⟩:=oB N n1 q2 m1 d1 k (by omega) oa wz;obtain ⟨b1,b2,b3,gy,t1,t2,t3,t5⟩:=oB N n2 q4 m2 d2 k (by omega) od Bh;have l1:=s1.2;have l2:=s2.2;have l3:=t1.2;have l4:=t2.2;rw[s5,t5,<-Al8 s3 t3,<-MF b3,<-MF a3];have nx:=λ q q'=>qA N a1 false q q' a2 b3 s1.1 t2.1 (by omega)
 have sf:=λ q q'=>qA N b1 false q q' b2 a3 t1.1 s2.1 (by omega)
 have g1:Sm (k+k) (dg (zv a1 a2*zv false b3).natAbs):=qQ s1 t2;have g2:Sm (k+k) (dg (zv b1 b2*zv false a3).natAbs):=qQ t1 s2;have hC:=λ q q'=>AtB N (decide (zv a1 a2*zv false b3<0)) (decide (zv b1 b2*zv false a3<0)) q q' _ _ (g1.le (by omega)) (g2.le (by omega))
 rw[NI,NI]at hC;refine Ev.x N.kT rfl rfl ?_;(repeat' ((first|apply BL|refine BF (ji) ?_|refine BF (gy) ?_|refine BF (nx _ _) ?_|refine BF (sf _ _) ?_|refine BF (hC _ _) ?_)<;>conv=>whnf))
 exact IC rfl
theorem Bt.tn {k:Nat} {x:Rat} (h:Bt k x) (hk:k<2199023255552):Sm 68719476736 (dg x.num.natAbs)/\Sm 68719476736 (dg x.den):=h.dig (by omega)
theorem oA (N:a8 L) {x y:Rat} {k l:Nat} (hx:Bt k x) (hy:Bt l y) (hk:k<2199023255552) (hl:l<2199023255552):Ev L 126 [.agg (eQ x),.agg (eQ y)] (.agg (eQ (x+y))):=by
 have:=AtE N 68719476736 (by omega) (decide (x.num<0)) (decide (y.num<0)) false false _ _ _ _ (hx.tn hk).1 (hx.tn hk).2 (hy.tn hl).1 (hy.tn hl).2
 rw[MY,MY]at this;exact this
theorem tX (N:a8 L) {x y:Rat} {k l:Nat} (hx:Bt k x) (hy:Bt l y) (hk:k<2199023255552) (hl:l<2199023255552):Ev L 128 [.agg (eQ x),.agg (eQ y)] (.agg (eQ (x*y))):=by
 have:=AtF N 68719476736 (by omega) (decide (x.num<0)) (decide (y.num<0)) false false _ _ _ _ (hx.tn hk).1 (hx.tn hk).2 (hy.tn hl).1 (hy.tn hl).2
 rw[MY,MY]at this;exact this
theorem Akq (N:a8 L) {x:Rat} {k:Nat} (hx:Bt k x) (hk:k<2199023255552):Ev L 123 [.agg (eQ x)] (.agg (eQ x)):=by
 have:=AtG N (decide (x.num<0)) false _ _ ((hx.tn hk).1.le (by omega)) ((hx.tn hk).2.le (by omega))
 rw[MY]at this;exact this
theorem rO (N:a8 L) {x y:Rat} {k l:Nat} (hx:Bt k x) (hy:Bt l y) (hk:k<2199023255552) (hl:l<2199023255552):Ev L 127 [.agg (eQ x),.agg (eQ y)] (.int .i64 (w3 (x-y).num)):=by
 have:=Akc N 68719476736 (by omega) (decide (x.num<0)) (decide (y.num<0)) false false _ _ _ _ (hx.tn hk).1 (hx.tn hk).2 (hy.tn hl).1 (hy.tn hl).2
 rw[MY,MY]at this;exact this
theorem AcL {x y:Rat}:w3 (x-y).num=0↔x=y:=by
 have h:w3 (x-y).num=0↔(x-y).num=0:=by unfold w3;split<;>(try split)<;>omega
 rw[h,Rat.num_eq_zero];constructor
 ·intro h;grind
 ·rintro rfl;exact Rat.sub_self
theorem AjU (N:dm L) {x:Rat} {k:Nat} (hx:Bt k x) (hk:k<2199023255552):Ev L 152 [.agg (eQ x)] (.agg (eQ (-x))):=by
 have hT:=Akq N.toa8 hx hk;have hN:=λ q=>AeT N.toa8 (decide (x.num<0)) q (dg x.num.natAbs) ((hx.tn hk).1.le (by omega))
 rw[NI]at hN;refine Ev.x N.kY rfl rfl ?_;(repeat' ((first|apply BL|refine BF (hT) ?_|refine BF (hN _) ?_)<;>conv=>whnf))
 refine DH ?_ (JB _);show _=AV.agg (rQ _ _ _ _ _);rw[Rat.neg_num,Rat.neg_den]
theorem Ako (N:dm L) {x y:Rat} {k l:Nat} (hx:Bt k x) (hy:Bt l y) (hk:k<2199023255552) (hl:l<2199023255552):Ev L 153 [.agg (eQ x),.agg (eQ y)] (.agg (eQ (x-y))):=by
 have hn:Bt l (-y):=⟨by rw[Rat.neg_num,Int.natAbs_neg];exact hy.1,by rw[Rat.neg_den];exact hy.2⟩;have hN:=AjU N hy hl;have hA:=oA N.toa8 hx hn hk hl;rw[<-Rat.sub_eq_add_neg]at hA;refine Ev.x N.lF rfl rfl ?_;(repeat' ((first|apply BL|refine BF (hN) ?_|refine BF (hA) ?_)<;>conv=>whnf))
 exact DH rfl (JB _)
theorem AvG {a c:Int} {b d:Nat} (hb:b≠0) (hd:d≠0) (hc:c≠0):mkRat a b/mkRat c d=Rat.divInt (a*d) (b*c):=by
 rw[Rat.div_def,<-Rat.divInt_ofNat,<-Rat.divInt_ofNat,Rat.inv_divInt,Rat.divInt_mul_divInt]
theorem As8 (N:dm L) {x y:Rat} {k l:Nat} (hx:Bt k x) (hy:Bt l y) (hk:k<2199023255552) (hl:l<2199023255552) (h0:y≠0):Ev L 154 [.agg (eQ x),.agg (eQ y)] (.j5 [.agg (eQ (x/y)),.int .i64 0]):=by
 obtain ⟨a1,a2,a3,ji,s1,s2,s3,s5⟩:=oB N.toa8 (decide (x.num<0)) false (dg x.num.natAbs) (dg x.den) 68719476736 (by omega) (hx.tn hk).1 (hx.tn hk).2;obtain ⟨b1,b2,b3,gy,t1,t2,t3,t5⟩:=oB N.toa8 (decide (y.num<0)) false (dg y.num.natAbs) (dg y.den) 68719476736 (by omega) (hy.tn hl).1 (hy.tn hl).2;have l1:=s1.2;have l2:=s2.2;have l3:=t1.2;have l4:=t2.2;rw[MY]at s5 t5;have td:zv b1 b2≠0:=λ h=>h0 (by rw[t5,h,Rat.zero_mkRat])
 have hS:=λ q=>Uv N.toa8 b1 q b2 (t1.le (by omega))
 have yq:w3 (zv b1 b2)≠0:=by unfold w3;split<;>(try split)<;>omega
 have nx:=λ q q'=>qA N.toa8 a1 false q q' a2 b3 s1.1 t2.1 (by omega)
 have sf:=λ q q'=>qA N.toa8 false b1 q q' a3 b2 s2.1 t1.1 (by omega)
 have g1:Sm (68719476736+68719476736) (dg (zv a1 a2*zv false b3).natAbs):=qQ s1 t2;have g2:Sm (68719476736+68719476736) (dg (zv false a3*zv b1 b2).natAbs):=qQ s2 t1;have hR:=λ q q'=>Uz N.toa8 (decide (zv a1 a2*zv false b3<0)) (decide (zv false a3*zv b1 b2<0)) q q' _ _ (g1.le (by omega)) (g2.le (by omega))
 rw[NI,NI]at hR;have he:x/y=Rat.divInt (zv a1 a2*zv false b3) (zv false a3*zv b1 b2):=by rw[s5,t5,AvG s3 t3 td,MF,MF]
 rw[he];generalize w3 (zv b1 b2)=sg at *;refine Ev.x N.kU rfl rfl ?_;(repeat' ((first|(apply B6<;>intro hc<;>try omega)|apply BL|refine BF (ji) ?_|refine BF (gy) ?_|refine BF (hS _) ?_|refine BF (nx _ _) ?_|refine BF (sf _ _) ?_|refine BF (hR _ _) ?_)<;>conv=>whnf))
 exact DH rfl (by simp only[EA,GK,and_true,true_and];exact ⟨I7 _,I7 _⟩)
def XP (l:List Rat):Nat->Nat
 | 0=>0
 | n+1=>if l.getD n 0=0 then XP l n else n+1
theorem Tq (l:List Rat) : ∀ n,XP l n<=n
 | 0=>Nat.le_refl _
 | n+1=>by rw[XP];split;exact Nat.le_succ_of_le (Tq l n);exact Nat.le_refl _
def sN (l:List Rat):List Rat:=l.take (XP l l.length)
theorem Aoo (l:List Rat):(sN l).length=XP l l.length:=by rw[sN,List.length_take];exact Nat.min_eq_left (Tq _ _)
end Go.c9

namespace Go.c9
open F
theorem AsM {L:Lib} {f:Nat} {fn:AFn} {vs:List AV} {own q8:C2} {r:AV} (hL:L f=some fn) (Je:YJ fn.body=true) (h:P9 L f vs own r q8):q8=own:=by
 obtain ⟨n,h⟩:=h;cases n with
 | zero=>simp [KP]at h
 | succ n =>
  rw[Ue]at h;simp only[hL]at h;split at h
  ·split at h
   ·rename_i st o4
    split at h
    ·simp only[Option.some.injEq,Prod.mk.injEq]at h
     rw[<-h.2];exact ZL n (by simp [qE,Je]) o4
    ·cases h
   ·cases h
  ·cases h
attribute [local irreducible] A0 B0 D8 BK IH DY FC E1 HI F9 IA LT GS EF HH H4 BD EU B9 pw IO H0 JM KX J9 GV IJ GT JW
set_option maxHeartbeats 1000000
variable {L:Lib}
theorem Arr (N:e9 L) (l:List Nat) (s:Nat) (hD:EK l) (hl:l.length<=1099511627776):EU L 65 [.row 5 0 1 0 l.length] [(0,.row 5 0 1 0 l.length)] [(5,s,.rw 1 (l.map C3))] (λ r _=>r = .row 5 0 1 0 (dg (val l)).length):=by
 have hlen : ∀ n,n<=l.length->l.take n=dg (val l)->n=(dg (val l)).length:=λ n h1 h2=>by
  rw[<-h2,List.length_take];omega
 refine P8 1000 N.OZ rfl rfl ?_;(repeat' (apply BL<;>conv=>whnf))
 refine K7 (λ n=>n) (λ(n:Nat)=>n<=l.length /\ ∀ i,n<=i->i<l.length->l[i]? = some 0) (λ n=>[(3,.int .i64 n)]) (λ_=>[]) l.length ⟨Nat.le_refl _,λ i h1 h2=>by omega⟩ ?_;intro n ⟨p1,p2⟩ ih;rcases n with _|n
 ·(repeat' ((first|(apply B6<;>intro hc<;>try omega)|apply BL)<;>conv=>whnf))
  refine QX 0 (by omega) (by omega) ?_;(conv=>whnf)
  refine ⟨rfl,_,rfl,?_⟩;rw[<-hlen 0 p1 (PZ hD p1 p2 (Or.inl rfl))];rfl
 ·have e1:((n+1:Nat):Int)-1=n:=by omega
  (repeat' ((first|(apply B6<;>intro hc<;>try omega)|(apply EL;omega)|(apply F8;omega)|(refine tE (by assumption) ?_ (λ v hv hb => ?_);omega)|apply BL)<;>conv=>whnf))
  ·rw[e1]
   exact FV [] (ih n (by omega) ⟨by omega,λ i h1 h2=>by
    by_cases h:i=n
    ·subst h
     rw[e1,Int.toNat_natCast]at hv;rw[hv];congr 1;omega
    ·exact p2 i (by omega) h2⟩)
  ·refine QX (n+1) (by omega) (by omega) ?_
   (conv=>whnf)
   refine ⟨rfl,_,rfl,?_⟩;rw[e1,Int.toNat_natCast]at hv;rw[<-hlen (n+1) p1 (PZ hD p1 p2 (Or.inr ⟨_,hv,by omega⟩))];rfl
theorem Arq (N:e9 L) (l:List Nat) (s t:Nat) (own:C2) (hD:EK l) (hl:l.length<=1099511627776) (hb:(own s).k8 t=some ⟨1,l.map C3⟩) (ht:t<(own s).k9) (yn:OM s=true):P9 L 65 [.row s t 1 0 l.length] own (.row s t 1 0 (dg (val l)).length) own:=by
 have hs:YF (λ_ _=>(s,t)) own [(5,s,.rw 1 (l.map C3))]:=by
  have key : ∀ k u c,g6 [(5,s,FB.rw 1 (l.map C3))] k u=some c->k=5/\u=0/\c = .rw 1 (l.map C3):=λ k u c e=>by
   simp only[g6,g7]at e;cases hk:Nat.beq k 5<;>simp only[hk,cond_true,cond_false]at e
   ·cases e
   ·cases u with
    | zero=>simp only[Option.some.injEq]at e;exact ⟨Nat.eq_of_beq_eq_true hk,rfl,e.symm⟩
    | succ u=>cases e
  refine ⟨λ k s' c e => ?_,λ k u c e => ?_,λ k u c e=>ht,λ k u k' u' c c' e e' _ => ?_,λ_ _ _ _ _=>yn⟩
  ·simp only[g7]at e
   cases hk:Nat.beq k 5<;>simp only[hk,cond_true,cond_false]at e
   ·cases e
   ·simp only[Option.some.injEq,Prod.mk.injEq]at e;exact e.1
  ·obtain ⟨_,_,rfl⟩:=key k u c e
   exact hb
  ·obtain ⟨rfl,rfl,_⟩:=key k u c e
   obtain ⟨rfl,rfl,_⟩:=key k' u' c' e';exact ⟨rfl,rfl⟩
 have hw:=Arr N l s hD hl;unfold EU at hw;obtain ⟨r,q8,σ',M',h1,h2,h3,rfl⟩:=hw _ own hs;have ho:=AsM N.OZ (by decide +kernel) h1;subst ho;have h4:AV.row (σ' 5 0).1 (σ' 5 0).2 1 0 l.length=AV.row s t 1 0 l.length:=h3 0;simp only[AV.row.injEq]at h4;have h5:P9 L 65 [.row s t 1 0 l.length] q8 (.row (σ' 5 0).1 (σ' 5 0).2 1 0 (dg (val l)).length) q8:=h1;rw[h4.1,h4.2.1]at h5;exact h5
theorem Abe (N:e9 L) {l:List Nat} {tm:Tm} {M:Mem} {K:AV->Mem->Prop} {key s len:Nat} (hD:EK l) (hl:l.length<=1099511627776) (hm:g7 M key=some (s,.rw 1 (l.map C3))) (hlen:len=l.length) (hk:K (.row key 0 1 0 (dg (val l)).length) M):EU L 65 [.row key 0 1 0 len] tm M K:=by
 subst hlen;unfold EU;intro σ own hs;have mg:=hs.site _ _ _ hm;have Yv:g6 M key 0=some (.rw 1 (l.map C3)):=by simp only[g6,hm]
 have hb:=hs.k8 _ _ _ Yv;have ht:=hs.old _ _ _ Yv;refine ⟨.row key 0 1 0 (dg (val l)).length,own,σ,M,?_,hs,λ_=>rfl,hk⟩;exact Arq N l (σ key 0).1 (σ key 0).2 own hD hl hb ht (hs.low _ _ _ (MI hm) rfl)
end Go.c9

namespace Go.c9
open F
attribute [local irreducible] A0 B0 D8 BK IH DY FC E1 HI F9 IA LT GS EF HH H4 BD EU B9 pw IO H0 JM KX J9 GV IJ GT JW
set_option maxHeartbeats 4000000
variable {L:Lib}
abbrev AeB (v:List Nat) (j m s xl:Nat):Tm:=[(102,AV.sl false (List.map C3 v)),(101,AV.row 71012 0 1 j (v.length+1)),
           (100,AV.int IntKind.i64 (↑j + ↑v.length+1)),(99,AV.int IntKind.i64 (↑j + ↑v.length)),
           (98,AV.int IntKind.i64 ↑v.length),(97,AV.int IntKind.i64 ↑j),(96,AV.int IntKind.i64 ↑j),
           (95,AV.row 71012 0 1 0 (xl+1)),(94,AV.int IntKind.i64 ↑j),(93,AV.row 28 0 1 0 m),
           (90,AV.bool true),(14,AV.int IntKind.i64 ↑j),(13,AV.sl false (List.map C3 v)),
           (12,AV.row 71012 0 1 0 (xl+1)),(11,AV.int IntKind.u64 ↑s),(7,AV.row 28 0 1 0 m),
           (6,AV.int IntKind.i64 ↑v.length)]
abbrev Asx:List It:=[It.lp PK.l2,It.k8 2,It.code
      (((FX.ops PK.ib false).dr [9,10,84,85,86,87,118,119,120,121,122,123,124,125,126]
         []).seq
       (((FX.ops PK.je false).dr [127,128,129,130,131] []).seq
        ((((FX.ops PK.js false).dr [15,132,133] []).seq
           (FX.cond 134
            (((FX.ops PK.ov false).dr [0,1,5,7,134,135,136] []).seq FX.ret)
            FX.skip)).seq
         (((FX.ops PK.qm false).dr [134] []).seq
          ((((FX.ops PK.sz false).dr [1] []).seq (FX.block 4 PK.l3.loop)).seq
           (((FX.ops PK.r30 false).dr
              [0,5,9,137,138,139,140,162,163,164,165,166,167,168,169] []).seq
            (((FX.ops PK.r31 false).dr [7,170,171,172] []).seq FX.ret)))))))]
section
variable {A W C w v:List Nat} {j m s xl q:Nat} {K:AV->Mem->Prop}
theorem Aes (hA:A.length=j) (hW:W.length=v.length+1) (D2:EK W) (mb:EK v) (nu:2<=v.length) (Fw:v.length<=549755813888) (gk:0<val v)
  (r1:q<4294967296) (r2:val W/val v<=q) (r3:q<=val W/val v+1)
  (hk : ∀ (W':List Nat) (o':List (List AV)) (q':Nat),W'.length=v.length+1->EK W'->val W'=val W%val v->q'=val W/val v->K (.int .u32 (q':Int)) [(71012,71012,.rw 1 ((A++W'++C).map C3)),(28,28,.rw 1 (w.map C3)),(71012,71012,.rw 1 o')])
  (vh : ∀ (W':List Nat) (o':List (List AV)) (q':Nat),W'.length=v.length+1->EK W'->val W'=val W%val v->q'=val W/val v->K (.int .u32 (q':Int)) [(71012,71012,.rw 1 ((A++W'++C).map C3)),(71012,71012,.rw 1 o'),(28,28,.rw 1 (w.map C3))]) :
  A0 L Asx ([(86,.int .i64 0),(85,.int .i64 v.length),(84,.sl false (v.map C3)),(10,.int .u64 0),(9,.int .u64 0),(7,.int .u64 (q:Int)),(5,.int .i64 v.length),(0,AV.row 71012 0 1 j (v.length+1)),(1,AV.sl false (List.map C3 v))]++P5 1000 (AeB v j m s xl))
   [(71012,71012,FB.rw 1 (List.map C3 (A++W++C))),(28,28,FB.rw 1 (List.map C3 w))] (Ah1 1000 PK (AeB v j m s xl) K):=by
 refine Ade (λ i _ _ _=>v.length-i) (λ(i:Nat) (Z:List Nat) (c b:Nat)=>i<=v.length/\Z.length=v.length+1/\EK Z/\c<4294967296/\b<=1/\Z.drop i=W.drop i/\val (Z.take i)+q*val (v.take i)=val (W.take i)+4294967296^i*(c+b)) (λ i Z c b=>[(86,.int .i64 i),(10,.int .u64 (b:Int)),(9,.int .u64 (c:Int))]) (λ i Z c b=>[(71012,71012,.rw 1 ((A++Z++C).map C3))]) [] [] 0 W 0 0 (by (conv=>whnf);exact ⟨rfl,rfl,rfl⟩) ⟨by omega,hW,D2,by omega,by omega,rfl,by simp [val]⟩ ?_;intro i Z c b ⟨p1,p2,p3,p4,p5,p6,p7⟩ ih;by_cases hi:i<v.length
 ·obtain ⟨d,hd⟩ : ∃ d,v[i]? = some d:=⟨_,zE hi⟩
  obtain ⟨u,hu⟩ : ∃ u,Z[i]? = some u:=⟨_,zE (by omega)⟩;have ft:=mb.at hd;have Ci:=p3.at hu;obtain ⟨pr,Dh⟩ : ∃ pr,pr=q*d+c:=⟨_,rfl⟩;obtain ⟨m1,m2,m3⟩:=Amg r1 ft p4 Dh;have Hw:W[i]? = some u:=by
   have e1:(Z.drop i)[0]? = (W.drop i)[0]? := by rw[p6]
   simpa [hu] using e1.symm
  (repeat' ((first|(apply B6<;>intro hc<;>try omega)|(apply EL;omega)|(apply PR;omega)|(apply pB;omega)|apply N6|(apply HN;omega)|(refine E4 (by assumption) ?_ rfl ?_;omega)|apply BL)<;>conv=>whnf))
  rw[<-Dh];refine rA i hu (by omega) ?_;(conv=>whnf)
  (repeat' ((first|(apply EL;omega)|(apply Abo;omega)|(apply HN;omega)|apply O7)<;>conv=>whnf))
  obtain ⟨s1,s2⟩:=Ac3 Ci (show pr%4294967296<4294967296 by omega) p5;have o4:=AvK p7 Dh rfl Ci p5;generalize MD (MD u (pr%4294967296)) b=t at *;refine nO i (by omega) (by omega) ?_;(conv=>whnf)
  (repeat' ((first|(apply DD;omega)|apply Abn)<;>conv=>whnf))
  refine GF [] (by (conv=>whnf);exact ⟨rfl,rfl,rfl⟩) (ih (i+1) _ _ _ (by omega) ⟨by omega,by simpa using p2,p3.set _ (by omega),m1,s2,?_,?_⟩)
  ·rw[List.drop_set_of_lt (by omega)]
   have e1:(Z.drop i).drop 1=(W.drop i).drop 1:=by rw[p6]
   simpa using e1
  ·rw[PQ (by omega),LR hd,LR Hw,Nat.pow_succ]
   exact o4
 ·obtain rfl:i=v.length:=by omega
  clear ih;obtain ⟨u,hu⟩ : ∃ u,Z[v.length]? = some u:=⟨_,zE (by omega)⟩;have Ci:=p3.at hu;have Hw:W[v.length]? = some u:=by
   have e1:(Z.drop v.length)[0]? = (W.drop v.length)[0]? := by rw[p6]
   simpa [hu] using e1.symm
  rw[JT (Nat.le_refl v.length)]at p7;obtain ⟨s1,s2⟩:=Ac3 Ci p4 p5;have o4:=AvI p7 rfl Ci p4 p5;have eW:val W=val (W.take v.length)+4294967296^v.length*u:=by
   rw[<-LR Hw,JT (by omega)]
  rw[<-eW,<-PQ (show v.length<Z.length by omega),JT (by simp;omega)]at o4;(repeat' ((first|(apply B6<;>intro hc<;>try omega)|(apply EL;omega)|apply BL)<;>conv=>whnf))
  refine rA v.length hu (by omega) ?_;(conv=>whnf)
  (repeat' ((first|(apply EL;omega)|(apply Abo;omega)|(apply HN;omega)|apply O7)<;>conv=>whnf))
  generalize MD (MD u c) b=t at *;refine nO v.length (by omega) (by omega) ?_;(conv=>whnf)
  (repeat' ((first|(apply B6<;>intro hc<;>try omega)|apply Abn|(apply L5;omega)|apply C9)<;>conv=>whnf))
  ·have ht0:t/9223372036854775808=0:=by omega
   rw[ht0,Nat.mul_zero,Nat.add_zero]at o4;obtain ⟨y1,y2⟩:=AiY gk r2 o4;exact ⟨rfl,_,rfl,hk _ _ _ (by simpa using p2) (p3.set _ (by omega)) y2 y1⟩
  ·have ht1:t/9223372036854775808=1:=by omega
   rw[ht1,Nat.mul_one]at o4;have Xk:EK (Z.set v.length (t%4294967296)):=p3.set _ (by omega);have Pq:(Z.set v.length (t%4294967296)).length=v.length+1:=by simpa using p2
   clear p7 p6 p4 p5 s1 s2 eW ht1 hu Hw Ci p1 p2 p3;generalize Z.set v.length (t%4294967296)=X at *;have Po:=NH Xk;rw[Pq,Nat.pow_succ]at Po;obtain ⟨y1,y2,y3⟩:=AiX gk r3 Po o4;have hRV:val W%val v<val v:=Nat.mod_lt _ gk;have Mn:=NH mb;obtain ⟨xw,Ox⟩ : ∃ xw,X[v.length]? = some xw:=⟨_,zE (by omega)⟩;have eX:val X=val (X.take v.length)+4294967296^v.length*xw:=by
    rw[<-LR Ox,JT (by omega)]
   refine P6 (λ i _ _=>v.length-i) (λ(i:Nat) (Z:List Nat) (c:Nat)=>i<=v.length/\Z.length=v.length+1/\EK Z/\c<=1/\Z.drop i=X.drop i/\val (Z.take i)+4294967296^i*c=val (X.take i)+val (v.take i)) (λ i Z c=>[(139,.int .i64 i),(9,.int .u64 (c:Int))]) (λ i Z c=>[(71012,71012,.rw 1 ((A++Z++C).map C3))]) 0 X 0 ⟨by omega,Pq,Xk,by omega,rfl,by simp [val]⟩ ?_;intro i Z c ⟨p1,p2,p3,p4,p6,p7⟩ ih;by_cases hi:i<v.length
   ·obtain ⟨d,hd⟩ : ∃ d,v[i]? = some d:=⟨_,zE hi⟩
    obtain ⟨u,hu⟩ : ∃ u,Z[i]? = some u:=⟨_,zE (by omega)⟩;have ft:=mb.at hd;have Ci:=p3.at hu;have vb:X[i]? = some u:=by
     have e1:(Z.drop i)[0]? = (X.drop i)[0]? := by rw[p6]
     simpa [hu] using e1.symm
    have hab:=Ah9 (d:=d) (w:=u) p7 rfl;(repeat' ((first|(apply B6<;>intro hc<;>try omega)|(apply EL;omega)|(refine E4 (by assumption) ?_ rfl ?_;omega)|apply BL)<;>conv=>whnf))
    refine rA i hu (by omega) ?_;(conv=>whnf)
    (repeat' ((first|(apply EL;omega)|(apply PR;omega)|(apply HN;omega)|apply O7)<;>conv=>whnf))
    generalize ht2:u+d+c=t2 at *;refine nO i (by omega) (by omega) ?_;(conv=>whnf)
    (repeat' ((first|(apply DD;omega)|apply N6)<;>conv=>whnf))
    refine GF [] (by (conv=>whnf);exact ⟨rfl,rfl,rfl⟩) (ih (i+1) _ _ (by omega) ⟨by omega,by simpa using p2,p3.set _ (by omega),by omega,?_,?_⟩)
    ·rw[List.drop_set_of_lt (by omega)]
     have e1:(Z.drop i).drop 1=(X.drop i).drop 1:=by rw[p6]
     simpa using e1
    ·rw[PQ (by omega),LR hd,LR vb,Nat.pow_succ]
     exact hab
   ·obtain rfl:i=v.length:=by omega
    clear ih;obtain ⟨u,hu⟩ : ∃ u,Z[v.length]? = some u:=⟨_,zE (by omega)⟩;have Ci:=p3.at hu;have vb:X[v.length]? = some u:=by
     have e1:(Z.drop v.length)[0]? = (X.drop v.length)[0]? := by rw[p6]
     simpa [hu] using e1.symm
    rw[vb]at Ox;obtain rfl:u=xw:=by simpa using Ox
    rw[JT (Nat.le_refl v.length)]at p7;have Xl:=NH (p3.take v.length);rw[List.length_take,Nat.min_eq_left (by omega)]at Xl;rw[eX]at y3;have zx:=Ah8 p7 y3 (by omega) Xl;rw[<-PQ (show v.length<Z.length by omega),JT (by simp;omega)]at zx;(repeat' ((first|(apply B6<;>intro hc<;>try omega)|(apply EL;omega)|apply BL)<;>conv=>whnf))
    refine rA v.length hu (by omega) ?_;(conv=>whnf)
    (repeat' ((first|(apply EL;omega)|apply AhS|(apply L5;omega))<;>conv=>whnf))
    refine nO v.length (by omega) (by omega) ?_;(conv=>whnf)
    (repeat' ((first|(apply ZX;omega;omega)|(apply L5;omega))<;>conv=>whnf))
    exact ⟨rfl,_,rfl,vh _ _ _ (by simpa using p2) (p3.set _ (by omega)) zx y1⟩
theorem ArI (N:e9 L) (hA:A.length=j) (hW:W.length=v.length+1) (D2:EK W) (mb:EK v) (nu:2<=v.length) (Fw:v.length<=549755813888) (gk:0<val v)
  (n2:4294967296^(v.length-1)*2147483648<=val v) (g2:val W<4294967296*val v)
  (hk : ∀ (W':List Nat) (o':List (List AV)) (q':Nat),W'.length=v.length+1->EK W'->val W'=val W%val v->q'=val W/val v->K (.int .u32 (q':Int)) [(71012,71012,.rw 1 ((A++W'++C).map C3)),(28,28,.rw 1 (w.map C3)),(71012,71012,.rw 1 o')])
  (vh : ∀ (W':List Nat) (o':List (List AV)) (q':Nat),W'.length=v.length+1->EK W'->val W'=val W%val v->q'=val W/val v->K (.int .u32 (q':Int)) [(71012,71012,.rw 1 ((A++W'++C).map C3)),(71012,71012,.rw 1 o'),(28,28,.rw 1 (w.map C3))]) :
  EU L 73 [AV.row 71012 0 1 j (v.length+1),AV.sl false (List.map C3 v)] (AeB v j m s xl) [(71012,71012,FB.rw 1 (List.map C3 (A++W++C))),(28,28,FB.rw 1 (List.map C3 w))] K:=by
 obtain ⟨UL,a1,a2⟩:=Ac9 D2 (n:=v.length+1) (by omega) (by omega);obtain ⟨VL,b5,b6⟩:=Aor mb (n:=v.length) nu (by omega);obtain ⟨u0,w0⟩ : ∃ d,W[v.length]? = some d:=⟨_,zE (by omega)⟩;obtain ⟨u1,w1⟩ : ∃ d,W[v.length-1]? = some d:=⟨_,zE (by omega)⟩;obtain ⟨u2,w2⟩ : ∃ d,W[v.length-2]? = some d:=⟨_,zE (by omega)⟩;obtain ⟨f1,x1⟩ : ∃ d,v[v.length-1]? = some d:=⟨_,zE (by omega)⟩;obtain ⟨f2,x2⟩ : ∃ d,v[v.length-2]? = some d:=⟨_,zE (by omega)⟩;rw[show v.length+1-3=v.length-2 by omega,show v.length+1-2=v.length-1 by omega,show v.length+1-1=v.length by omega,QB w0,QB w1,QB w2]at a2;rw[show v.length+1-3=v.length-2 by omega]at a1;rw[QB x1,QB x2]at b6;have Ep:=Aom mb (k:=v.length-1) (by omega) n2 x1;have k0:=D2.at w0;have k1:=D2.at w1;have k2:=D2.at w2;have k3:=mb.at x1;have k4:=mb.at x2;have z1:v[((v.length:Int)-1).toNat]? = some f1:=by rw[show ((v.length:Int)-1).toNat=v.length-1 by omega];exact x1
 have z2:v[((v.length:Int)-2).toNat]? = some f2:=by rw[show ((v.length:Int)-2).toNat=v.length-2 by omega];exact x2
 refine P8 1000 N.PK rfl rfl ?_;(repeat' ((first|(apply EL;omega)|apply C9|apply BL)<;>conv=>whnf))
 refine rA v.length w0 (by omega) ?_;(conv=>whnf)
 (repeat' ((first|(apply EL;omega)|(apply F8;omega)|(apply nJ;omega)|(apply HN;omega))<;>conv=>whnf))
 refine rA (v.length-1) w1 (by omega) ?_;(conv=>whnf)
 refine AhC (by omega) ?_;(conv=>whnf)
 refine pC (by omega) ?_;(conv=>whnf)
 generalize AEO:u0*4294967296+u1=top at *;have Ze:top<=18446744073709551615:=by omega
 have hU:val W=UL+4294967296^(v.length-2)*(u2+4294967296*top):=by rw[a2,show u1+4294967296*u0=top by omega]
 (repeat' ((first|(apply F8;omega)|(apply zJ;omega)|(apply Abm;omega;omega)|(apply HN;omega)|(refine E4 (by assumption) ?_ rfl ?_;omega))<;>conv=>whnf))
 refine zC (λ q _=>q) (λ(q r:Nat)=>Gs (val W) (val v) f1 f2 u2 top q r) (λ q r=>[(7,.int .u64 (q:Int)),(8,.int .u64 (r:Int))]) (λ_ _=>[]) [] [] (top/f1) (top%f1) (by (conv=>whnf);exact ⟨rfl,rfl,rfl⟩) (Gs.start hU b6 a1 k2 gk (by omega) k3) ?_;intro q r g ue;have hqt:q<=top:=by
  have h3:=g.hq;have h4:q*1<=q*f1:=Nat.mul_le_mul_left q (by omega);omega
 have hr:=g.hr;have zz:=g.ge;by_cases hb:4294967296<=q
 ·obtain ⟨y1,y2,y3⟩:=g.next hU b6 a1 gk g2 (Or.inl hb)
  (repeat' ((first|(apply B6<;>intro hc<;>try omega)|(apply F8;omega)|(apply PR;omega)|(apply ZX;omega;omega)|(apply HN;omega)|apply C9|(refine E4 (by assumption) ?_ rfl ?_;omega)|apply BL)<;>conv=>whnf))
  ·obtain ⟨t1,t2⟩:=xM hU b6 b5 Ep k4 g2 y2 (Or.inr (by omega))
   exact GF [] (by (conv=>whnf);exact ⟨rfl,rfl,rfl⟩) (Aes (w:=w) (C:=C) hA hW D2 mb nu Fw gk t1 y3 t2 hk vh)
  ·exact GF [] (by (conv=>whnf);exact ⟨rfl,rfl,rfl⟩) (ue (q-1) (r+f1) (by omega) ⟨y2,by omega,y3⟩)
 ·have hmq:=yA (show q<4294967296 by omega) k4
  by_cases dd:r*4294967296+u2<q*f2
  ·obtain ⟨y1,y2,y3⟩:=g.next hU b6 a1 gk g2 (Or.inr dd)
   (repeat' ((first|(apply B6<;>intro hc<;>try omega)|(apply EL;omega)|(apply F8;omega)|(apply pB;omega)|(apply nJ;omega)|(apply HN;omega)|(refine E4 (by assumption) ?_ rfl ?_;omega)|apply BL)<;>conv=>whnf))
   refine rA (v.length-2) w2 (by omega) ?_;(conv=>whnf)
   (repeat' ((first|(apply B6<;>intro hc<;>try omega)|(apply F8;omega)|(apply PR;omega)|(apply pC;omega)|(apply ZX;omega;omega)|(apply HN;omega)|apply C9|(refine E4 (by assumption) ?_ rfl ?_;omega))<;>conv=>whnf))
   ·obtain ⟨t1,t2⟩:=xM hU b6 b5 Ep k4 g2 y2 (Or.inr (by omega))
    exact GF [] (by (conv=>whnf);exact ⟨rfl,rfl,rfl⟩) (Aes (w:=w) (C:=C) hA hW D2 mb nu Fw gk t1 y3 t2 hk vh)
   ·exact GF [] (by (conv=>whnf);exact ⟨rfl,rfl,rfl⟩) (ue (q-1) (r+f1) (by omega) ⟨y2,by omega,y3⟩)
  ·obtain ⟨t1,t2⟩:=xM hU b6 b5 Ep k4 g2 g.hq (Or.inl ⟨by omega,by omega⟩)
   (repeat' ((first|(apply B6<;>intro hc<;>try omega)|(apply EL;omega)|(apply F8;omega)|(apply pB;omega)|(apply nJ;omega)|(apply HN;omega)|(refine E4 (by assumption) ?_ rfl ?_;omega)|apply BL)<;>conv=>whnf))
   refine rA (v.length-2) w2 (by omega) ?_;(conv=>whnf)
   (repeat' ((first|(apply B6<;>intro hc<;>try omega)|(apply pC;omega)|(apply HN;omega)|apply C9)<;>conv=>whnf))
   exact GF [] (by (conv=>whnf);exact ⟨rfl,rfl,rfl⟩) (Aes (w:=w) (C:=C) hA hW D2 mb nu Fw gk t1 zz t2 hk vh)
end
end Go.c9

namespace Go.c9
open F
attribute [local irreducible] A0 B0 D8 BK IH DY FC E1 HI F9 IA LT GS EF HH H4 BD EU B9 pw IO H0 JM KX J9 GV IJ GT JW
variable {L:Lib}
set_option maxHeartbeats 4000000
theorem Axa {V R y d t Q:Nat} (h:Q*y+R=V) (ht:t=R*4294967296+d):(t/y+4294967296*Q)*y+t%y=d+4294967296*V:=by
 have:=Nat.div_add_mod t y
 rw[<-h,Nat.add_mul];have e:t/y*y=y*(t/y):=Nat.mul_comm _ _;grind
theorem To (a b:List Nat):EA (.j5 [.sl false (a.map C3),.sl false (b.map C3)]):=by
 simp only[EA,GK,and_true,true_and];exact ⟨I7 a,I7 b⟩
set_option maxHeartbeats 4000000 in
theorem AeQ (N:e9 L) (X Y:Nat) (q1 q2:Bool) (hY:Y≠0) (lx:(dg X).length<=549755813888) (ly:(dg Y).length<=549755813888):Ev L 74 [.sl q1 ((dg X).map C3),.sl q2 ((dg Y).map C3)] (.j5 [.sl false ((dg (X/Y)).map C3),.sl false ((dg (X%Y)).map C3)]):=by
 have q6:=λ q q'=>pZ N (dg X) (dg Y) q q' (K0 X) (K0 Y) (by omega) (by omega)
 rw[GO,GO]at q6;have d1:=K0 X;have d2:=K0 Y;have v1:=GO X;have v2:=GO Y;have hy1:=Tw hY;refine Ev.x N.fZ rfl rfl ?_;by_cases o5:X<Y
 ·have hn:JQ X Y = -1:=(YM (by omega)).symm
  rw[hn]at q6;(repeat' ((first|(apply B6<;>intro hc<;>try omega)|apply BL|refine BF (q6 _ _) ?_|refine BF (Ajv N (dg X) _ (by omega)) ?_)<;>conv=>whnf))
  refine DH ?_ (To _ _);rw[Nat.div_eq_of_lt o5,Nat.mod_eq_of_lt o5,NE];rfl
 have zz:0<=JQ X Y:=by unfold JQ;split<;>(try split)<;>omega
 have Ff:=rK (show Y<=X by omega);generalize JQ X Y=cm at *;by_cases h1:(dg Y).length=1
 ·-- one digit
  obtain ⟨y0,An⟩ : ∃ y0,dg Y=[y0]:=List.length_eq_one_iff.1 h1;have Hi:Y=y0:=by rw[<-v2,An];simp [val]
  subst Hi;have Qp:Y<4294967296:=d2 Y (by rw[An];simp);have hyg:(dg Y)[0]? = some Y:=by rw[An];rfl
  clear An v2;generalize dg Y=y at *;generalize hx:dg X=x at *;(repeat' ((first|(apply B6<;>intro hc<;>try omega)|(apply DD;omega)|(apply F8;omega)|apply C9|apply BL|refine BF (q6 _ _) ?_)<;>conv=>whnf))
  refine K9 (enc:=C3) 0 x.length rfl (by omega) (by omega) ?_;(conv=>whnf)
  (repeat' ((first|(apply B6<;>intro hc<;>try omega)|(apply F8;omega)|apply C9)<;>conv=>whnf))
  refine P6 (λ n _ _=>n) (λ(n:Nat) (o:List Nat) (r:Nat)=>n<=x.length/\o.length=x.length/\EK o/\r<Y/\val (o.drop n)*Y+r=val (x.drop n)) (λ n o r=>[(8,.int .u64 (r:Int)),(9,.int .i64 ((n:Int)-1))]) (λ n o r=>[(28,28,.rw 1 (o.map C3))]) x.length (List.replicate x.length 0) 0 ⟨by omega,by simp,Z9 _,by omega,by rw[List.drop_of_length_le (Nat.le_refl _),List.drop_of_length_le (by simp)];simp [val]⟩ ?_;intro n o r ⟨p1,p2,p3,p4,p5⟩ ih;rcases n with _|n
  ·rw[List.drop_zero,List.drop_zero]at p5
   have hq:X/Y=val o/\X%Y=r:=by
    rw[<-v1,<-p5];have e1:(val o*Y+r)/Y=val o:=by
     rw[Nat.mul_comm,Nat.mul_add_div (by omega),Nat.div_eq_of_lt p4,Nat.add_zero]
    have e2:(val o*Y+r)%Y=r:=by
     rw[Nat.mul_comm,Nat.mul_add_mod,Nat.mod_eq_of_lt p4]
    exact ⟨e1,e2⟩
   rw[hq.1,hq.2,<-p2];clear ih hq p5;have na:=MT p3;have ji:EK [r]:=WU (by omega);have pc:=MT ji;have hv1:val [r]=r:=by simp [val]
   have hl3:[r].length=1:=rfl;(repeat' ((first|(apply B6<;>intro hc<;>try omega)|(apply L5;omega)|apply BL|refine Abe N (by assumption) (by omega) rfl (by first|rfl|omega|assumption) ?_)<;>conv=>whnf))
   refine XL (enc:=C3) (λ_=>rfl) (by omega) ?_;(conv=>whnf)
   refine XL (enc:=C3) (l:=[r]) (λ_=>rfl) (by omega) ?_;(conv=>whnf)
   refine DH ?_ (To _ _);rw[List.drop_zero,List.drop_zero,Rg p3,Rg ji,hv1]
  ·have e1:((n+1:Nat):Int)-1=n:=by omega
   rw[e1];obtain ⟨d,hd⟩ : ∃ d,x[n]? = some d:=⟨_,zE (by omega)⟩;have ft:=d1.at hd;have hYb:Y<4294967296:=Qp;have hR:r*4294967296+d<Y*4294967296:=by omega
   have Bi:(r*4294967296+d)/Y<4294967296:=(Nat.div_lt_iff_lt_mul (by omega)).2 (by omega);(repeat' ((first|(apply B6<;>intro hc<;>try omega)|(apply EL;omega)|(apply nJ;omega)|(apply pC;omega)|(apply Abm;omega;omega)|(apply HN;omega)|(apply L5;omega)|(refine E4 (by assumption) ?_ rfl ?_;omega)|apply BL)<;>conv=>whnf))
   obtain ⟨t,ht⟩ : ∃ t,t=r*4294967296+d:=⟨_,rfl⟩;rw[<-ht]at hR Bi ⊢;have hm:t%Y<Y:=Nat.mod_lt _ (by omega);have o4:=Axa p5 ht;rw[<-V7 hd]at o4;clear ht;skip
   refine NT (by omega) ?_;(conv=>whnf)
   (repeat' ((first|(apply F8;omega)|(apply zJ;omega)|(apply HN;omega)|(refine E4 (by assumption) ?_ rfl ?_;omega))<;>conv=>whnf))
   generalize t/Y=tq at *;generalize t%Y=tr at *;refine GF [] (by (conv=>whnf);exact ⟨rfl,rfl,rfl⟩) (ih n _ _ (by omega) ⟨by omega,by simpa using p2,p3.set _ (by omega),hm,?_⟩);rw[V7 (l:=o.set n tq) (d:=tq) (by rw[List.getElem?_set_self (by omega)]),List.drop_set_of_lt (by omega)];exact o4
 ·-- two digits or more
  have hn2:2<=(dg Y).length:=by omega
  obtain ⟨yt,Jp,Jq⟩:=Aer hY;have Fy:=d2.at Jp;obtain ⟨b1,b2,b3,b4⟩:=Afz Jq Fy;have Yl:=AjD N yt Fy;generalize hs:32-ae yt=s at *;have jl:s<=31:=by omega
  generalize dg Y=y at *;generalize hx:dg X=x at *;have e1:((y.length:Int)-1).toNat=y.length-1:=by omega
  rw[<-e1]at Jp;obtain ⟨rv,hrv,v,hV,ti,AEE⟩:=Atn N y q2 s y.length d2 jl (by omega) (by omega);subst AEE;(repeat' ((first|(apply B6<;>intro hc<;>try omega)|(apply DD;omega)|(apply F8;omega)|apply C9|apply BL|refine BF (q6 _ _) ?_)<;>conv=>whnf))
  refine K9 (enc:=C3) 0 (x.length-y.length+1) rfl (by omega) (by omega) ?_;(conv=>whnf)
  (repeat' ((first|(apply B6<;>intro hc<;>try omega)|(apply DD;omega)|(apply F8;omega)|(apply HN;omega)|apply C9|(refine E4 (by assumption) ?_ rfl ?_;omega)|refine BF (Yl) ?_)<;>conv=>whnf))
  refine P8 1000 N.aR rfl rfl ?_;(repeat' (apply BL<;>conv=>whnf))
  refine K9 (enc:=C3) 0 (x.length+1) rfl (by omega) (by omega) ?_;(conv=>whnf)
  (repeat' (apply C9<;>conv=>whnf))
  have Dk:=Sx (s:=s) (by omega);refine P6 (λ i _ _=>x.length-i) (λ(i:Nat) (o:List Nat) (lo:Nat)=>i<=x.length/\o.length=x.length+1/\EK o/\lo<2^s/\val (o.take i)+4294967296^i*lo=val (x.take i)*2^s) (λ i o lo=>[(8,.int .u32 (lo:Int)),(15,.int .i64 i)]) (λ i o lo=>[(71012,71012,.rw 1 (o.map C3))]) 0 (List.replicate (x.length+1) 0) 0 ⟨by omega,by simp,Z9 _,Nat.two_pow_pos s,by simp [val]⟩ ?_;intro i o lo ⟨p1,p2,p3,p4,p5⟩ ih;by_cases hi:i<x.length
  ·obtain ⟨d,hd⟩ : ∃ d,x[i]? = some d:=⟨_,zE hi⟩
   have ft:=d1.at hd;obtain ⟨f1,f2,f3,f4⟩:=uZ (s:=s) ft (by omega);(repeat' ((first|(apply B6<;>intro hc<;>try omega)|(refine E4 (by assumption) ?_ rfl ?_;omega)|apply BL)<;>conv=>whnf))
   refine AhW (by omega) ?_;(conv=>whnf)
   skip
   refine Adv s f1 p4 (by omega) ?_;(conv=>whnf)
   (repeat' ((first|(apply EL;omega)|fail)<;>conv=>whnf))
   refine NT (by omega) ?_;(conv=>whnf)
   (repeat' ((first|(apply HN;omega)|fail)<;>conv=>whnf))
   refine pJ (by omega) f4 ?_;(conv=>whnf)
   (repeat' ((first|(apply DD;omega)|apply N6|(apply L5;omega))<;>conv=>whnf))
   rw[<-uY];refine GF [] (by (conv=>whnf);exact ⟨rfl,rfl,rfl⟩) (ih (i+1) _ _ (by omega) ⟨by omega,by simpa using p2,p3.set _ (by omega),f2,?_⟩);rw[PQ (by omega),LR hd,Nat.pow_succ];exact AlF p5
  obtain rfl:i=x.length:=by omega
  clear ih;(repeat' ((first|(apply B6<;>intro hc<;>try omega)|(apply EL;omega)|apply C9|apply BL)<;>conv=>whnf))
  refine NT (by omega) ?_;(conv=>whnf)
  skip
  have hU:=AlE p3 (by omega) p2 p5;have Pp:(o.set x.length lo).length=x.length+1:=by simpa using p2
  clear p3 p4 p5 p2;generalize o.set x.length lo=u at *;refine ⟨rfl,_,rfl,?_⟩;(conv=>whnf)
  (repeat' ((first|(apply F8;omega)|apply C9|refine BF (hrv) ?_)<;>conv=>whnf))
  have AEY:y[y.length-1]? = some yt:=by rw[<-e1];exact Jp
  obtain ⟨n1,n2⟩:=Aft d2 AEY (by omega) jl b3 b4;have hVv:val v=Y*2^s:=by rw[<-v2];exact hV.2.2 (by rw[ti];exact n1)
  have hUu:val u=X*2^s:=by
   rw[<-v1];refine hU.2.2 ?_;have h3:=NH d1;rw[Pp,Nat.pow_succ];exact Nat.lt_of_lt_of_le (Nat.mul_lt_mul_of_pos_right h3 (Nat.two_pow_pos s)) (Nat.mul_le_mul_left _ Dk)
  have mb:=hV.1;have hUD:=hU.1;have Mo:=NH mb;rw[v2,<-hVv]at n2;rw[<-ti]at n2;clear hV hU q6 hrv Yl;have nu:2<=v.length:=by omega
  have hvx:v.length<=x.length:=by omega
  have Fw:v.length<=549755813888:=by omega
  have hxL:x.length<=549755813888:=by omega
  have hX:X<4294967296^x.length:=by rw[<-v1];exact NH d1
  rw[<-ti];generalize hm:x.length-v.length+1=m at *;have gk:0<val v:=by
   have:=AmG (v.length-1)
   omega
  have yj:val (u.drop m)<val v:=by
   have h1:=bR u m (by omega);rw[hUu]at h1;have h2:X*2^s<4294967296^x.length*2147483648:=Nat.lt_of_lt_of_le (Nat.mul_lt_mul_of_pos_right hX (Nat.two_pow_pos s)) (Nat.mul_le_mul_left _ (Nat.pow_le_pow_right (by omega) jl));have h3:4294967296^x.length=4294967296^m*4294967296^(v.length-1):=by rw[<-Nat.pow_add];congr 1;omega
   rw[h3,Nat.mul_assoc]at h2;refine Nat.lt_of_lt_of_le ?_ n2;refine Nat.lt_of_mul_lt_mul_left (a:=4294967296^m) ?_;omega
  have e2:(x.length:Int)-v.length=((m:Nat):Int)-1:=by omega
  rw[e2];refine P6 (λ n _ _=>n) (λ(n:Nat) (o w:List Nat)=>n<=m/\o.length=x.length+1/\EK o/\w.length=m/\EK w/\val (o.drop n)<val v/\X*2^s=val (o.take n)+4294967296^n*(val (w.drop n)*val v+val (o.drop n))) (λ n o w=>[(14,.int .i64 ((n:Int)-1))]) (λ n o w=>[(71012,71012,.rw 1 (o.map C3)),(28,28,.rw 1 (w.map C3))]) m u (List.replicate m 0) ⟨by omega,Pp,hUD,by simp,Z9 _,yj,by rw[<-hUu,List.drop_of_length_le (show (List.replicate m 0).length<=m by simp),ZT,Nat.zero_mul,Nat.zero_add];exact bR u m (by omega)⟩ ?_;intro n o w ⟨p1,p2,p3,p4,p5,p6,p7⟩ ih;rcases n with _|j
  ·clear ih
   rw[List.drop_zero]at p6;rw[List.take_zero,List.drop_zero,List.drop_zero,ZT,Nat.zero_add,Nat.pow_zero,Nat.one_mul]at p7;have zu:val o=val (o.take v.length):=by
    have h1:=vH o v.length;rcases Nat.eq_zero_or_pos (val (o.drop v.length)) with h2|h2
    ·rw[h2,Nat.mul_zero,Nat.add_zero]at h1;exact h1
    ·have h3:4294967296^v.length*1<=4294967296^v.length*val (o.drop v.length):=Nat.mul_le_mul_left _ h2
     omega
   have Hz:X/Y=val w/\X%Y=val o/2^s:=by
    obtain ⟨z1,z2⟩:=Ai2 (X:=X) (Y:=Y) (Nat.two_pow_pos s);rw[<-z1,<-z2,<-hVv,p7];have e1:(val w*val v+val o)/val v=val w:=by
     rw[Nat.mul_comm,Nat.mul_add_div gk,Nat.div_eq_of_lt p6,Nat.add_zero]
    have e2:(val w*val v+val o)%val v=val o:=by
     rw[Nat.mul_comm,Nat.mul_add_mod,Nat.mod_eq_of_lt p6]
    rw[e1,e2];exact ⟨rfl,rfl⟩
   rw[Hz.1,Hz.2];have na:=MT p5;obtain ⟨ro,Je,o2,k1,k2,k3,k4⟩:=Ato N (o.take v.length) true s (p3.take _) jl (by rw[List.length_take];omega);subst k4;rw[zu,<-k3];have pc:=MT k1;rw[List.length_take]at k2;clear p7 Hz yj;(repeat' ((first|(apply B6<;>intro hc<;>try omega)|apply BL|refine Abe N (by assumption) (by omega) rfl (by first|rfl|omega|assumption) ?_)<;>conv=>whnf))
   refine QX v.length rfl (by omega) ?_;(conv=>whnf)
   refine XL (enc:=C3) (λ_=>rfl) (by omega) ?_;(conv=>whnf)
   rw[List.drop_zero,Nat.sub_zero];(repeat' ((first|refine BF (Je) ?_|refine bV (cX N o2 _ k1 (by omega)) ?_)<;>conv=>whnf))
   refine XL (enc:=C3) (λ_=>rfl) (by omega) ?_;(conv=>whnf)
   refine DH ?_ (To _ _);rw[List.drop_zero,Rg p5]
  ·have e3:((j+1:Nat):Int)-1=j:=by omega
   rw[e3];have e4:(v.length:Int).toNat=v.length:=by omega
   obtain ⟨A,W,C,hA,hW,rfl⟩:=Ajl o j (v.length+1) (by omega);obtain ⟨g1,g2,g3⟩:=Ajn hA hW p3 p6 Mo;obtain ⟨D1,D2,D3⟩:=AiW p3;have Dr:val W/val v<4294967296:=(Nat.div_lt_iff_lt_mul gk).2 g2;have hWV:val W=val W/val v*val v+val W%val v:=by rw[Nat.mul_comm];exact (Nat.div_add_mod _ _).symm
   have Mp:val W%val v<val v:=Nat.mod_lt _ gk;have Mm:X*2^s=val A+4294967296^j*val W+4294967296^j*4294967296*(val (w.drop (j+1))*val v):=by
    rw[p7,Nat.mul_add,<-g3,Nat.pow_succ];omega
   have Az:=Ajm Mm hWV;have nr : ∀ q',q'=val W/val v->val ((w.set j q').drop j)=val W/val v+4294967296*val (w.drop (j+1)):=λ q' h=>by
    rw[V7 (l:=w.set j q') (d:=q') (by rw[List.getElem?_set_self (by omega)]),List.drop_set_of_lt (by omega),h]
   have hlen : ∀ W':List Nat,W'.length=v.length+1->(A++W'++C).length=x.length+1:=λ W' h=>by
    rw[<-p2];simp [h,hW]
   (repeat' ((first|(apply B6<;>intro hc<;>try omega)|(apply DD;omega)|(apply Adl;omega)|apply BL)<;>conv=>whnf))
   rw[show ((j:Int)+v.length+1).toNat-(j:Int).toNat=v.length+1 by omega,show 0+(j:Int).toNat=j by omega];refine ArI N hA hW D2 mb nu Fw gk n2 g2 (λ W' o' q' z1 z2 z3 z4 => ?_) (λ W' o' q' z1 z2 z3 z4 => ?_)
   ·(conv=>whnf)
    (repeat' ((first|(apply EL;omega)|fail)<;>conv=>whnf))
    refine NT (by omega) ?_;(conv=>whnf)
    (repeat' ((first|(apply F8;omega)|fail)<;>conv=>whnf))
    obtain ⟨t1,t2⟩:=AeD (A:=A) (W:=W') (C:=C) (j:=j) hA g1;refine GF [] (by (conv=>whnf);exact ⟨rfl,rfl,rfl⟩) (ih j (A++W'++C) (w.set j q') (by omega) ⟨by omega,hlen W' z1,(D1.append z2).append D3,by simpa using p4,p5.set _ (by omega),by omega,?_⟩);rw[t1,t2,nr q' z4,z3];exact Az
   ·(conv=>whnf)
    (repeat' ((first|(apply EL;omega)|fail)<;>conv=>whnf))
    refine NT (by omega) ?_;(conv=>whnf)
    (repeat' ((first|(apply F8;omega)|fail)<;>conv=>whnf))
    obtain ⟨t1,t2⟩:=AeD (A:=A) (W:=W') (C:=C) (j:=j) hA g1;refine GF [] (by (conv=>whnf);exact ⟨rfl,rfl,rfl⟩) (ih j (A++W'++C) (w.set j q') (by omega) ⟨by omega,hlen W' z1,(D1.append z2).append D3,by simpa using p4,p5.set _ (by omega),by omega,?_⟩);rw[t1,t2,nr q' z4,z3];exact Az
end Go.c9
