/-
  The references of natural numbers (ref01): division.
-/
import Derived.Test.YthgjfcjecnmflaaGreatB8
import Derived.Test.YthgjfcjecnmflaaGreatB2
set_option linter.unusedSimpArgs false
set_option linter.unusedVariables false
set_option linter.unnecessarySimpa false
namespace Go.e6
open F
attribute [local irreducible] AH A8 BT A5 EW BJ CS CR EU DK EE II C8 B5 DB FG AP CG BF pw HE FL HO HG HN G2 G5 DG FF
set_option maxHeartbeats 4000000
variable {L:Lib}
theorem AiS {V R y d t Q:Nat} (h:Q*y+R=V) (ht:t=R*4294967296+d):(t/y+4294967296*Q)*y+t%y=d+4294967296*V:=by
 have:=Nat.div_add_mod t y
 rw[<-h,Nat.add_mul];have e:t/y*y=y*(t/y):=Nat.mul_comm _ _;grind
theorem AfM (N:a8 L) (x:List Nat) (Y:Nat) (q:Bool) (d1:BZ x) (hx:x.length<=549755813888) (h0:Y≠0) (hY:Y<4294967296):Ev L 108 [.sl q (x.map BG),.int .u32 (Y:Int)] (.g8 [.sl false ((dg (val x/Y)).map BG),.int .u32 ((val x%Y:Nat):Int)]):=by
 refine Ev.x N.TD rfl rfl ?_;(repeat' ((first|apply BR|apply A7)<;>conv=>whnf))
 refine NQ (enc:=BG) 0 x.length rfl (by omega) (by omega) ?_;(conv=>whnf)
 (repeat' ((first|(apply DC;omega)|apply BR)<;>conv=>whnf))
 refine J1 (λ n _ _=>n) (λ(n:Nat) (o:List Nat) (r:Nat)=>n<=x.length/\o.length=x.length/\BZ o/\r<Y/\val (o.drop n)*Y+r=val (x.drop n)) (λ n o r=>[(7,.int .u64 (r:Int)),(8,.int .i64 ((n:Int)-1))]) (λ n o r=>[(11,11,.rw 1 (o.map BG))]) x.length (List.replicate x.length 0) 0 ⟨by omega,by simp,PG _,by omega,by rw[List.drop_of_length_le (Nat.le_refl _),List.drop_of_length_le (by simp)];simp [val]⟩ ?_;intro n o r ⟨p1,p2,p3,p4,p5⟩ ih;rcases n with _|n
 ·rw[List.drop_zero,List.drop_zero]at p5
  have hq:val x/Y=val o/\val x%Y=r:=by
   rw[<-p5];have e1:(val o*Y+r)/Y=val o:=by
    rw[Nat.mul_comm,Nat.mul_add_div (by omega),Nat.div_eq_of_lt p4,Nat.add_zero]
   have e2:(val o*Y+r)%Y=r:=by
    rw[Nat.mul_comm,Nat.mul_add_mod,Nat.mod_eq_of_lt p4]
   exact ⟨e1,e2⟩
  have hT:=λ q=>JZ N o q p3 (by omega)
  rw[hq.1,hq.2,<-p2];clear ih hq p5;(repeat' ((first|(apply BB<;>intro hc<;>try omega)|(apply GP;omega)|(refine GR (λ_=>rfl) rfl ?_ ?_;(first|rfl|simp))|apply A7|refine AY (hT _) ?_)<;>conv=>whnf))
  refine BU rfl ?_;simp only[B4,DN,and_true,true_and];exact EI _
 ·have e1:((n+1:Nat):Int)-1=n:=by omega
  rw[e1];obtain ⟨d,hd⟩ : ∃ d,x[n]? = some d:=⟨_,zE (by omega)⟩;have du:=d1.at hd;have hR:r*4294967296+d<Y*4294967296:=by omega
  have Kh:(r*4294967296+d)/Y<4294967296:=(Nat.div_lt_iff_lt_mul (by omega)).2 (by omega);(repeat' ((first|(apply BB<;>intro hc<;>try omega)|(apply B7;omega)|(apply U3;omega)|(apply V2;omega)|(apply fE;omega;omega)|(apply DL;omega)|(apply GP;omega)|(refine CT (by assumption) ?_ rfl ?_;omega)|apply A7)<;>conv=>whnf))
  obtain ⟨t,ht⟩ : ∃ t,t=r*4294967296+d:=⟨_,rfl⟩;rw[<-ht]at hR Kh ⊢;have hm:t%Y<Y:=Nat.mod_lt _ (by omega);have m9:=AiS p5 ht;rw[<-NH hd]at m9;clear ht;skip
  refine H9 (by omega) ?_;(conv=>whnf)
  (repeat' ((first|(apply DC;omega)|(apply bH;omega)|(apply DL;omega))<;>conv=>whnf))
  generalize t/Y=tq at *;generalize t%Y=tr at *;refine C5 [] (by (conv=>whnf);exact ⟨rfl,rfl,rfl⟩) (ih n _ _ (by omega) ⟨by omega,by simpa using p2,p3.set _ (by omega),hm,?_⟩);rw[NH (l:=o.set n tq) (d:=tq) (by rw[List.getElem?_set_self (by omega)]),List.drop_set_of_lt (by omega)];exact m9
theorem gC (a b:List Nat) (e:Int):B4 (.g8 [.sl false (a.map BG),.sl false (b.map BG),.int .i64 e]):=by
 simp only[B4,DN,and_true,true_and];exact ⟨EI a,EI b⟩
abbrev Aeb:List It:=[It.lp F2.l1,It.e7 0,
   It.code
    (((CP.ops F2.dj false).dr [0,75,79,80] []).seq
     (((CP.ops F2.dw false).dr [81,82,83,84,85] []).seq
      ((((CP.ops F2.fb false).dr [86,87,88,89,90] []).seq
         (CP.block 2 F2.l2.loop)).seq
       (((CP.ops F2.Lo true).dr [9,10,11,12,13,14,92,277,278,279,280,281,282,283,284]
          []).seq
        CP.ret))))]
abbrev gM:List It:=[It.lp F2.l2,It.e7 2,It.code
       (((CP.ops F2.Lo true).dr [9,10,11,12,13,14,92,277,278,279,280,281,282,283,284]
          []).seq
        CP.ret)]
abbrev gN (v:List Nat) (s ul m:Nat) (j:Int):Tm:=[(14,.int .i64 j),(13,.row 85 0 1 0 m),(12,.int .i64 v.length),(11,.sl false (v.map BG)),(10,.row 69 0 1 0 ul),(9,.int .i64 (s:Int))]
abbrev Aea:CP:=(((CP.ops F2.Tj false).dr [18,19,20,166,205,206,207] []).seq
                (((CP.ops F2.Tk false).dr [208,209,210,211,212,213,214] []).seq
                 ((CP.ops F2.Tl false).seq
                  ((((CP.ops F2.To false).dr [215,216] []).seq
                     (CP.cond 217
                      (((CP.ops F2.Tp false).dr [18,217,218,219] []).seq
                       (CP.ops F2.Tq false))
                      CP.skip)).seq
                   (((CP.ops F2.Tr false).dr
                      [23,24,217,220,221,222,223,224,225,226,227,228] []).seq
                    ((((CP.ops F2.Ts false).dr [18,229] []).seq
                       (CP.cond 230
                        (((CP.ops F2.Tt false).dr [230,231,232] []).seq
                         ((CP.ops F2.Tu false).seq
                          (((CP.ops F2.Tv false).seq
                             (CP.block 8 F2.l5.loop)).seq
                           ((CP.ops F2.Uc false).dr
                            [25,26,235,262,263,264,265,266,267,268,269,270,271]
                            []))))
                        CP.skip)).seq
                     ((CP.ops F2.Ud false).dr [16,230,272,273,274,275,276]
                      [])))))))
abbrev Aec:List It:=It.lp F2.l4::It.e7 6::It.code Aea::It.e7 3::It.code ((CP.ops F2.fw false).dr [93,94] [])::gM
section
variable {A W C w y:List Nat} {j m s ul q:Nat} {Q:Tm->Mem->Prop}
theorem ZE {e i n:Nat} (hi:i=A.length+n) (he:W[n]? = some e):(A++W++C)[i]? = some e:=by
 rw[Pl hi (zS he).1];exact he
theorem mL (hA:A.length=j) (hW:W.length=y.length+1) (D2:BZ W) (fi:BZ y) (gm:2<=y.length) (vh:y.length<=549755813888) (bg:0<val y) (gj:j<=1099511627776)
  (lu:ul=j+(y.length+1)+C.length) (Hj:w.length=m) (Gz:j<m)
  (r1:q<4294967296) (r2:val W/val y<=q) (r3:q<=val W/val y+1)
  (hk : ∀ (W':List Nat) (q':Nat),W'.length=y.length+1->BZ W'->val W'=val W%val y->q'=val W/val y->AH L gM (gN y s ul m ((j:Int)-1)) [(69,101021,.rw 1 ((A++W'++C).map BG)),(85,85,.rw 1 ((w.set j q').map BG))] Q) :
  AH L Aec ([(20,.int .i64 0),(19,.int .u64 0),(18,.int .u64 0),(16,.int .u64 (q:Int))]++gN y s ul m (j:Int)) [(69,101021,.rw 1 ((A++W++C).map BG)),(85,85,.rw 1 (w.map BG))] Q:=by
 refine rS (λ i _ _ _=>y.length-i) (λ(i:Nat) (Z:List Nat) (c b:Nat)=>i<=y.length/\Z.length=y.length+1/\BZ Z/\c<4294967296/\b<=1/\Z.drop i=W.drop i/\val (Z.take i)+q*val (y.take i)=val (W.take i)+4294967296^i*(c+b)) (λ i Z c b=>[(20,.int .i64 i),(18,.int .u64 (b:Int)),(19,.int .u64 (c:Int))]) (λ i Z c b=>[(69,101021,.rw 1 ((A++Z++C).map BG))]) [] [] 0 W 0 0 (by (conv=>whnf);exact ⟨rfl,rfl,rfl⟩) ⟨by omega,hW,D2,by omega,by omega,rfl,by simp [val]⟩ ?_;intro i Z c b ⟨p1,p2,p3,p4,p5,p6,p7⟩ ih;by_cases hi:i<y.length
 ·obtain ⟨d,hd⟩ : ∃ d,y[i]? = some d:=⟨_,zE hi⟩
  obtain ⟨u,hu⟩ : ∃ u,Z[i]? = some u:=⟨_,zE (by omega)⟩;have du:=fi.at hd;have rk:=p3.at hu;have He:(A++Z++C)[((i:Int)+(j:Int)).toNat]? = some u:=ZE (by omega) hu;obtain ⟨pr,sf⟩ : ∃ pr,pr=c+q*d:=⟨_,rfl⟩;obtain ⟨m1,m2,m3⟩:=Oa r1 du p4 (show pr=q*d+c by omega);have wy:W[i]? = some u:=by
   have e1:(Z.drop i)[0]? = (W.drop i)[0]? := by rw[p6]
   simpa [hu] using e1.symm
  have ow : ∀ w,(Z.set i w).drop (i+1)=W.drop (i+1):=λ w=>by
   rw[List.drop_set_of_lt (by omega)];have e1:(Z.drop i).drop 1=(W.drop i).drop 1:=by rw[p6]
   simpa using e1
  have m9 : ∀ have' take w dc,take=pr%4294967296+b->((have'=u/\dc=0/\take<=u)\/(have'=u+4294967296/\dc=1/\u<take))->w+take=have'->val ((Z.set i w).take (i+1))+q*val (y.take (i+1))=val (W.take (i+1))+4294967296^(i+1)*(pr/4294967296+dc):=λ have' take w dc a1 a2 a3=>by
   rw[JQ (by omega),GD hd,GD wy,Nat.pow_succ];exact AhH p7 sf a1 a2 a3
  by_cases l8:u<pr%4294967296+b
  ·have h3:=m9 (u+4294967296) (pr%4294967296+b) (u+4294967296-(pr%4294967296+b)) 1 rfl (Or.inr ⟨rfl,rfl,l8⟩) (by omega)
   (repeat' ((first|(apply BB<;>intro hc<;>try omega)|(apply B7;omega)|(apply BS;omega)|(apply JS;omega)|(apply V0;omega)|(apply sJ;omega)|(apply PB;omega;omega)|apply IK|(apply fA;omega)|(apply DL;omega)|(apply GP;omega)|(refine CT (by assumption) ?_ rfl ?_;omega)|refine PP (by assumption) ?_|apply A7)<;>conv=>whnf))
   rw[<-sf];skip
   refine U5 i (by omega) (by omega) ?_;(conv=>whnf)
   (repeat' ((first|(apply BS;omega)|fail)<;>conv=>whnf))
   exact C5 [] (by (conv=>whnf);exact ⟨rfl,rfl,rfl⟩) (ih (i+1) (Z.set i (u+4294967296-(pr%4294967296+b))) (pr/4294967296) 1 (by omega) ⟨by omega,by simpa using p2,p3.set _ (by omega),m1,by omega,ow _,h3⟩)
  ·have h3:=m9 u (pr%4294967296+b) (u-(pr%4294967296+b)) 0 rfl (Or.inl ⟨rfl,rfl,by omega⟩) (by omega)
   (repeat' ((first|(apply BB<;>intro hc<;>try omega)|(apply B7;omega)|(apply BS;omega)|(apply JS;omega)|(apply V0;omega)|(apply sJ;omega)|(apply PB;omega;omega)|apply IK|(apply DL;omega)|(apply GP;omega)|(refine CT (by assumption) ?_ rfl ?_;omega)|refine PP (by assumption) ?_|apply A7)<;>conv=>whnf))
   rw[<-sf];skip
   refine U5 i (by omega) (by omega) ?_;(conv=>whnf)
   (repeat' ((first|(apply BS;omega)|fail)<;>conv=>whnf))
   exact C5 [] (by (conv=>whnf);exact ⟨rfl,rfl,rfl⟩) (ih (i+1) (Z.set i (u-(pr%4294967296+b))) (pr/4294967296) 0 (by omega) ⟨by omega,by simpa using p2,p3.set _ (by omega),m1,by omega,ow _,h3⟩)
 ·obtain rfl:i=y.length:=by omega
  clear ih;obtain ⟨u,hu⟩ : ∃ u,Z[y.length]? = some u:=⟨_,zE (by omega)⟩;have rk:=p3.at hu;have He:(A++Z++C)[((j:Int)+(y.length:Int)).toNat]? = some u:=ZE (by omega) hu;have wy:W[y.length]? = some u:=by
   have e1:(Z.drop y.length)[0]? = (W.drop y.length)[0]? := by rw[p6]
   simpa [hu] using e1.symm
  rw[E9 (Nat.le_refl y.length)]at p7;have eW:val W=val (W.take y.length)+4294967296^y.length*u:=by
   rw[<-GD wy,E9 (by omega)]
  have m9 : ∀ have' take w dc,take=c+b->((have'=u/\dc=0/\take<=u)\/(have'=u+4294967296/\dc=1/\u<take))->w+take=have'->val (Z.set y.length w)+q*val y=val W+4294967296^y.length*4294967296*dc:=λ have' take w dc a1 a2 a3=>by
   have h1:=AhF p7 a1 a2 a3;rw[<-eW,<-JQ (show y.length<Z.length by omega),E9 (by simp;omega)]at h1;exact h1
  by_cases l8:u<c+b
  ·have h3:=m9 (u+4294967296) (c+b) (u+4294967296-(c+b)) 1 rfl (Or.inr ⟨rfl,rfl,l8⟩) (by omega)
   have Ek:BZ (Z.set y.length (u+4294967296-(c+b))):=p3.set _ (by omega);have Co:(Z.set y.length (u+4294967296-(c+b))).length=y.length+1:=by simpa using p2
   rw[Nat.mul_one]at h3;have Cm:=HS Ek;rw[Co,Nat.pow_succ]at Cm;obtain ⟨y1,y2,y3⟩:=uZ bg r3 Cm h3;(repeat' ((first|(apply BB<;>intro hc<;>try omega)|(apply B7;omega)|(apply BS;omega)|(apply JS;omega)|(apply PB;omega;omega)|(apply fA;omega)|(apply DL;omega)|(apply GP;omega)|refine PP (by assumption) ?_|apply A7)<;>conv=>whnf))
   refine U5 y.length (by omega) (by omega) ?_;(conv=>whnf)
   (repeat' ((first|(apply BB<;>intro hc<;>try omega)|(apply PB;omega;omega))<;>conv=>whnf))
   clear p7 p6 eW hu wy rk He p2 p3 m9;generalize Z.set y.length (u+4294967296-(c+b))=X at *;have hRV:val W%val y<val y:=Nat.mod_lt _ bg;have Av:=HS fi;obtain ⟨xw,Ca⟩ : ∃ xw,X[y.length]? = some xw:=⟨_,zE (by omega)⟩;have eX:val X=val (X.take y.length)+4294967296^y.length*xw:=by
    rw[<-GD Ca,E9 (by omega)]
   have Da:q-1<4294967296:=by omega
   refine J1 (λ i _ _=>y.length-i) (λ(i:Nat) (Z:List Nat) (c:Nat)=>i<=y.length/\Z.length=y.length+1/\BZ Z/\c<=1/\Z.drop i=X.drop i/\val (Z.take i)+4294967296^i*c=val (X.take i)+val (y.take i)) (λ i Z c=>[(26,.int .i64 i),(25,.int .u64 (c:Int))]) (λ i Z c=>[(69,101021,.rw 1 ((A++Z++C).map BG))]) 0 X 0 ⟨by omega,Co,Ek,by omega,rfl,by simp [val]⟩ ?_;intro i Z c ⟨p1,p2,p3,p4,p6,p7⟩ ih;by_cases hi:i<y.length
   ·obtain ⟨d,hd⟩ : ∃ d,y[i]? = some d:=⟨_,zE hi⟩
    obtain ⟨u,hu⟩ : ∃ u,Z[i]? = some u:=⟨_,zE (by omega)⟩;have du:=fi.at hd;have rk:=p3.at hu;have He:(A++Z++C)[((i:Int)+(j:Int)).toNat]? = some u:=ZE (by omega) hu;have mc:X[i]? = some u:=by
     have e1:(Z.drop i)[0]? = (X.drop i)[0]? := by rw[p6]
     simpa [hu] using e1.symm
    have Cp:=sX (d:=d) (w:=u) (t:=c+(u+d)) p7 (by omega);(repeat' ((first|(apply BB<;>intro hc<;>try omega)|(apply B7;omega)|(apply BS;omega)|(apply JS;omega)|(apply DL;omega)|apply JL|(refine CT (by assumption) ?_ rfl ?_;omega)|refine PP (by assumption) ?_|apply A7)<;>conv=>whnf))
    generalize ht2:c+(u+d)=t2 at *;refine U5 i (by omega) (by omega) ?_;(conv=>whnf)
    (repeat' ((first|(apply BS;omega)|apply IK)<;>conv=>whnf))
    refine C5 [] (by (conv=>whnf);exact ⟨rfl,rfl,rfl⟩) (ih (i+1) (Z.set i (t2%4294967296)) (t2/4294967296) (by omega) ⟨by omega,by simpa using p2,p3.set _ (by omega),by omega,?_,?_⟩)
    ·rw[List.drop_set_of_lt (by omega)]
     have e1:(Z.drop i).drop 1=(X.drop i).drop 1:=by rw[p6]
     simpa using e1
    ·rw[JQ (by omega),GD hd,GD mc,Nat.pow_succ]
     exact Cp
   ·obtain rfl:i=y.length:=by omega
    clear ih;obtain ⟨u,hu⟩ : ∃ u,Z[y.length]? = some u:=⟨_,zE (by omega)⟩;have rk:=p3.at hu;have He:(A++Z++C)[((j:Int)+(y.length:Int)).toNat]? = some u:=ZE (by omega) hu;have mc:X[y.length]? = some u:=by
     have e1:(Z.drop y.length)[0]? = (X.drop y.length)[0]? := by rw[p6]
     simpa [hu] using e1.symm
    rw[mc]at Ca;obtain rfl:u=xw:=by simpa using Ca
    rw[E9 (Nat.le_refl y.length)]at p7;have El:=HS (p3.take y.length);rw[List.length_take,Nat.min_eq_left (by omega)]at El;rw[eX]at y3;have ga:=sW p7 y3 (by omega) El;rw[<-JQ (show y.length<Z.length by omega),E9 (by simp;omega)]at ga;(repeat' ((first|(apply BB<;>intro hc<;>try omega)|(apply B7;omega)|(apply BS;omega)|apply sI|(apply GP;omega)|refine PP (by assumption) ?_|apply A7)<;>conv=>whnf))
    refine U5 y.length (by omega) (by omega) ?_;(conv=>whnf)
    (repeat' ((first|(apply B7;omega)|(apply GP;omega))<;>conv=>whnf))
    refine H9 (by omega) ?_;(conv=>whnf)
    (repeat' ((first|(apply DC;omega)|fail)<;>conv=>whnf))
    exact C5 [] (by (conv=>whnf);exact ⟨rfl,rfl,rfl⟩) (hk _ _ (by simpa using p2) (p3.set _ (by omega)) ga y1)
  ·have h3:=m9 u (c+b) (u-(c+b)) 0 rfl (Or.inl ⟨rfl,rfl,by omega⟩) (by omega)
   rw[Nat.mul_zero,Nat.add_zero]at h3;obtain ⟨y1,y2⟩:=vA bg r2 h3;(repeat' ((first|(apply BB<;>intro hc<;>try omega)|(apply B7;omega)|(apply BS;omega)|(apply JS;omega)|(apply PB;omega;omega)|(apply DL;omega)|(apply GP;omega)|refine PP (by assumption) ?_|apply A7)<;>conv=>whnf))
   refine U5 y.length (by omega) (by omega) ?_;(conv=>whnf)
   (repeat' ((first|(apply BB<;>intro hc<;>try omega)|(apply B7;omega)|(apply GP;omega))<;>conv=>whnf))
   refine H9 (by omega) ?_;(conv=>whnf)
   (repeat' ((first|(apply DC;omega)|fail)<;>conv=>whnf))
   exact C5 [] (by (conv=>whnf);exact ⟨rfl,rfl,rfl⟩) (hk _ _ (by simpa using p2) (p3.set _ (by omega)) y2 y1)
theorem Aed (hA:A.length=j) (hW:W.length=y.length+1) (D2:BZ W) (fi:BZ y) (gm:2<=y.length) (vh:y.length<=549755813888) (bg:0<val y) (gj:j<=1099511627776)
  (n2:4294967296^(y.length-1)*2147483648<=val y) (g2:val W<4294967296*val y) (lu:ul=j+(y.length+1)+C.length) (Hj:w.length=m) (Gz:j<m)
  (hk : ∀ (W':List Nat) (q':Nat),W'.length=y.length+1->BZ W'->val W'=val W%val y->q'=val W/val y->AH L gM (gN y s ul m ((j:Int)-1)) [(69,101021,.rw 1 ((A++W'++C).map BG)),(85,85,.rw 1 ((w.set j q').map BG))] Q) :
  AH L (.code F2.l2::gM) (gN y s ul m (j:Int)) [(69,101021,.rw 1 ((A++W++C).map BG)),(85,85,.rw 1 (w.map BG))] Q:=by
 obtain ⟨UL,a1,a2⟩:=kC D2 (n:=y.length+1) (by omega) (by omega);obtain ⟨VL,b5,b6⟩:=Ph fi (n:=y.length) gm (by omega);obtain ⟨u0,w0⟩ : ∃ d,W[y.length]? = some d:=⟨_,zE (by omega)⟩;obtain ⟨u1,w1⟩ : ∃ d,W[y.length-1]? = some d:=⟨_,zE (by omega)⟩;obtain ⟨u2,w2⟩ : ∃ d,W[y.length-2]? = some d:=⟨_,zE (by omega)⟩;obtain ⟨f1,x1⟩ : ∃ d,y[y.length-1]? = some d:=⟨_,zE (by omega)⟩;obtain ⟨f2,x2⟩ : ∃ d,y[y.length-2]? = some d:=⟨_,zE (by omega)⟩;rw[show y.length+1-3=y.length-2 by omega,show y.length+1-2=y.length-1 by omega,show y.length+1-1=y.length by omega,KD w0,KD w1,KD w2]at a2;rw[show y.length+1-3=y.length-2 by omega]at a1;rw[KD x1,KD x2]at b6;have ug:=Qu fi (k:=y.length-1) (by omega) n2 x1;have k0:=D2.at w0;have k1:=D2.at w1;have k2:=D2.at w2;have k3:=fi.at x1;have k4:=fi.at x2;have z1:y[((y.length:Int)-1).toNat]? = some f1:=by rw[show ((y.length:Int)-1).toNat=y.length-1 by omega];exact x1
 have z2:y[((y.length:Int)-2).toNat]? = some f2:=by rw[show ((y.length:Int)-2).toNat=y.length-2 by omega];exact x2
 have su:(A++W++C)[((j:Int)+(y.length:Int)).toNat]? = some u0:=ZE (by omega) w0;(repeat' ((first|(apply BB<;>intro hc<;>try omega)|(apply B7;omega)|(apply BS;omega)|(apply DC;omega)|(apply U3;omega)|(apply DL;omega)|refine PP (by assumption) ?_|apply A7)<;>conv=>whnf))
 have ek:(A++W++C)[((j:Int)+(y.length:Int)-1).toNat]? = some u1:=ZE (by omega) w1;refine Yu ek ?_;(conv=>whnf)
 refine rY (by omega) ?_;(conv=>whnf)
 refine V2 (by omega) ?_;(conv=>whnf)
 clear su ek;have db:(A++W++C)[((j:Int)+(y.length:Int)-2).toNat]? = some u2:=ZE (by omega) w2;generalize Kz:u0*4294967296+u1=top at *;have Fy:top<=18446744073709551615:=by omega
 have hU:val W=UL+4294967296^(y.length-2)*(u2+4294967296*top):=by rw[a2,show u1+4294967296*u0=top by omega]
 (repeat' ((first|(apply DC;omega)|(apply bH;omega)|(apply fE;omega;omega)|(apply DL;omega)|(refine CT (by assumption) ?_ rfl ?_;omega))<;>conv=>whnf))
 refine eR (λ q _=>q) (λ(q r:Nat)=>Gs (val W) (val y) f1 f2 u2 top q r) (λ q r=>[(16,.int .u64 (q:Int)),(17,.int .u64 (r:Int))]) (λ_ _=>[]) [] [] (top/f1) (top%f1) (by (conv=>whnf);exact ⟨rfl,rfl,rfl⟩) (Gs.start hU b6 a1 k2 bg (by omega) k3) ?_;intro q r g kg;have hqt:q<=top:=by
  have h3:=g.hq;have h4:q*1<=q*f1:=Nat.mul_le_mul_left q (by omega);omega
 have hr:=g.hr;have mz:=g.ge;by_cases hb:4294967296<=q
 ·obtain ⟨y1,y2,y3⟩:=g.next hU b6 a1 bg g2 (Or.inl hb)
  (repeat' ((first|(apply BB<;>intro hc<;>try omega)|(apply DC;omega)|(apply JS;omega)|(apply PB;omega;omega)|(apply DL;omega)|(refine CT (by assumption) ?_ rfl ?_;omega)|apply A7)<;>conv=>whnf))
  ·obtain ⟨t1,t2⟩:=Z7 hU b6 b5 ug k4 g2 y2 (Or.inr (by omega))
   exact C5 [] (by (conv=>whnf);exact ⟨rfl,rfl,rfl⟩) (mL (w:=w) (C:=C) hA hW D2 fi gm vh bg gj lu Hj Gz t1 y3 t2 hk)
  ·exact C5 [] (by (conv=>whnf);exact ⟨rfl,rfl,rfl⟩) (kg (q-1) (r+f1) (by omega) ⟨y2,by omega,y3⟩)
 ·have hmq:=aE (show q<4294967296 by omega) k4
  by_cases s8:r*4294967296+u2<q*f2
  ·obtain ⟨y1,y2,y3⟩:=g.next hU b6 a1 bg g2 (Or.inr s8)
   (repeat' ((first|(apply BB<;>intro hc<;>try omega)|(apply B7;omega)|(apply BS;omega)|(apply DC;omega)|(apply JS;omega)|(apply V0;omega)|(apply U3;omega)|(apply V2;omega)|(apply PB;omega;omega)|(apply DL;omega)|(refine CT (by assumption) ?_ rfl ?_;omega)|refine PP (by assumption) ?_|apply A7)<;>conv=>whnf))
   ·obtain ⟨t1,t2⟩:=Z7 hU b6 b5 ug k4 g2 y2 (Or.inr (by omega))
    exact C5 [] (by (conv=>whnf);exact ⟨rfl,rfl,rfl⟩) (mL (w:=w) (C:=C) hA hW D2 fi gm vh bg gj lu Hj Gz t1 y3 t2 hk)
   ·exact C5 [] (by (conv=>whnf);exact ⟨rfl,rfl,rfl⟩) (kg (q-1) (r+f1) (by omega) ⟨y2,by omega,y3⟩)
  ·obtain ⟨t1,t2⟩:=Z7 hU b6 b5 ug k4 g2 g.hq (Or.inl ⟨by omega,by omega⟩)
   (repeat' ((first|(apply BB<;>intro hc<;>try omega)|(apply B7;omega)|(apply BS;omega)|(apply DC;omega)|(apply V0;omega)|(apply U3;omega)|(apply V2;omega)|(apply DL;omega)|(refine CT (by assumption) ?_ rfl ?_;omega)|refine PP (by assumption) ?_|apply A7)<;>conv=>whnf))
   exact C5 [] (by (conv=>whnf);exact ⟨rfl,rfl,rfl⟩) (mL (w:=w) (C:=C) hA hW D2 fi gm vh bg gj lu Hj Gz t1 mz t2 hk)
end
theorem Ajk {l:List Nat} (hD:BZ l) (h:l[l.length-1]? = some 0):val l<4294967296^(l.length-1):=by
 have hl:=(zS h).1;have h1:=QB l (l.length-1) (by omega);have h2:=NH h;rw[List.drop_of_length_le (show l.length<=l.length-1+1 by omega),O8]at h2;rw[h2]at h1;simp only[Nat.mul_zero,Nat.add_zero]at h1;have h3:=HS (hD.take (l.length-1));rw[List.length_take,Nat.min_eq_left (by omega)]at h3;omega
theorem vC (N:a8 L) {X Y s:Nat} {x u y:List Nat} (hY:Y≠0) (dn:s<=31) (Gm:BZ u) (Gq:val u=X*2^s) (hU0:u[u.length-1]? = some 0) (lu:x.length+1<=u.length/\u.length<=549755813888) (fi:BZ y) (Gt:val y=Y*2^s) (nj:2<=y.length/\y.length<=x.length) (n2:4294967296^(y.length-1)*2147483648<=val y) :
  AH L Aeb [(10,.row 69 0 1 0 u.length),(11,.sl false (y.map BG)),(9,.int .i64 (s:Int)),(0,.sl false (x.map BG))] [(69,101021,.rw 1 (u.map BG))] (W4 F2 (.g8 [.sl false ((dg (X/Y)).map BG),.sl false ((dg (X%Y)).map BG),.int .i64 0])):=by
 refine HC (λ(_:Nat)=>0) (λ_=>True) (λ_=>[]) (λ_=>[]) 0 trivial ?_;intro _ _ _;(repeat' ((first|(apply BB<;>intro hc<;>try omega)|(apply BS;omega)|(apply DC;omega)|apply BR|apply A7)<;>conv=>whnf))
 refine NQ (enc:=BG) 0 (u.length-y.length) (by rfl) (by omega) (by omega) ?_;(conv=>whnf)
 (repeat' ((first|(apply DC;omega)|fail)<;>conv=>whnf))
 have bg:0<val y:=by
  have:=Mj (y.length-1)
  omega
 have Aw:=HS fi;generalize hm:u.length-y.length=m at *;have uj:val (u.drop m)<val y:=by
  have h1:(u.drop m).length=y.length:=by simp;omega
  have h2:=Ajk (l:=u.drop m) (Gm.drop _) (by rw[h1,List.getElem?_drop,show m+(y.length-1)=u.length-1 by omega];exact hU0);rw[h1]at h2;omega
 rw[show (u.length:Int)-y.length-1=((m:Nat):Int)-1 by omega];refine J1 (λ n _ _=>n) (λ(n:Nat) (o w:List Nat)=>n<=m/\o.length=u.length/\BZ o/\w.length=m/\BZ w/\val (o.drop n)<val y/\X*2^s=val (o.take n)+4294967296^n*(val (w.drop n)*val y+val (o.drop n))) (λ n o w=>[(14,.int .i64 ((n:Int)-1))]) (λ n o w=>[(69,101021,.rw 1 (o.map BG)),(85,85,.rw 1 (w.map BG))]) m u (List.replicate m 0) ⟨by omega,rfl,Gm,by simp,PG _,uj,by rw[<-Gq,List.drop_of_length_le (show (List.replicate m 0).length<=m by simp),O8,Nat.zero_mul,Nat.zero_add];exact QB u m (by omega)⟩ ?_;intro n o w ⟨p1,p2,p3,p4,p5,p6,p7⟩ ih;rcases n with _|j
 ·clear ih
  rw[List.drop_zero]at p6;rw[List.take_zero,List.drop_zero,List.drop_zero,O8,Nat.zero_add,Nat.pow_zero,Nat.one_mul]at p7;have ow:val o=val (o.take y.length):=by
   have h1:=ZC o y.length;rcases Nat.eq_zero_or_pos (val (o.drop y.length)) with h2|h2
   ·rw[h2,Nat.mul_zero,Nat.add_zero]at h1;exact h1
   ·have h3:4294967296^y.length*1<=4294967296^y.length*val (o.drop y.length):=Nat.mul_le_mul_left _ h2
    omega
  have wz:X/Y=val w/\X%Y=val o/2^s:=by
   obtain ⟨z1,z2⟩:=vB (X:=X) (Y:=Y) (Nat.two_pow_pos s);rw[<-z1,<-z2,<-Gt,p7];have e1:(val w*val y+val o)/val y=val w:=by
    rw[Nat.mul_comm,Nat.mul_add_div bg,Nat.div_eq_of_lt p6,Nat.add_zero]
   have e2:(val w*val y+val o)%val y=val o:=by
    rw[Nat.mul_comm,Nat.mul_add_mod,Nat.mod_eq_of_lt p6]
   rw[e1,e2];exact ⟨rfl,rfl⟩
  rw[wz.1,wz.2,ow];have hT:=λ q=>JZ N w q p5 (by omega)
  have wh:(o.take y.length).length<=549755813888:=by rw[List.length_take];omega
  clear p7 wz uj;rw[<-p4];rcases Nat.eq_zero_or_pos s with h0|h0
  ·subst h0
   have hS:=λ q=>wR N (o.take y.length) q 0 (p3.take _) wh (by omega)
   rw[Nat.pow_zero,Nat.mul_one]at hS;rw[Nat.pow_zero,Nat.div_one];(repeat' ((first|(apply BB<;>intro hc<;>try omega)|(refine GR (λ_=>rfl) rfl ?_ ?_;(first|rfl|simp))|apply A7|refine AY (hT _) ?_)<;>conv=>whnf))
   refine NN y.length rfl (by omega) ?_;(conv=>whnf)
   refine EW.neg (by omega) ?_;(conv=>whnf)
   refine N9 (enc:=BG) (λ_=>rfl) (by omega) ?_;(conv=>whnf)
   rw[List.drop_zero,Nat.sub_zero,show -((0:Nat):Int)=((0:Nat):Int) by omega];(repeat' (refine AY (hS _) ?_<;>conv=>whnf))
   exact BU rfl (gC _ _ _)
  ·have hS:=λ q=>AfL N (o.take y.length) q s (p3.take _) wh (by omega)
   (repeat' ((first|(apply BB<;>intro hc<;>try omega)|(refine GR (λ_=>rfl) rfl ?_ ?_;(first|rfl|simp))|apply A7|refine AY (hT _) ?_)<;>conv=>whnf))
   refine NN y.length rfl (by omega) ?_;(conv=>whnf)
   refine EW.neg (by omega) ?_;(conv=>whnf)
   refine N9 (enc:=BG) (λ_=>rfl) (by omega) ?_;(conv=>whnf)
   rw[List.drop_zero,Nat.sub_zero];(repeat' (refine AY (hS _) ?_<;>conv=>whnf))
   exact BU rfl (gC _ _ _)
 ·have e3:((j+1:Nat):Int)-1=j:=by omega
  rw[e3];obtain ⟨A,W,C,hA,hW,rfl⟩:=vO o j (y.length+1) (by omega);obtain ⟨g1,g2,g3⟩:=vQ hA hW p3 p6 Aw;obtain ⟨D1,D2,D3⟩:=uY p3;have Da:val W/val y<4294967296:=(Nat.div_lt_iff_lt_mul bg).2 g2;have Il:val W=val W/val y*val y+val W%val y:=by rw[Nat.mul_comm];exact (Nat.div_add_mod _ _).symm
  have hWl:val W%val y<val y:=Nat.mod_lt _ bg;have Au:X*2^s=val A+4294967296^j*val W+4294967296^j*4294967296*(val (w.drop (j+1))*val y):=by
   rw[p7,Nat.mul_add,<-g3,Nat.pow_succ];omega
  have qb:=vP Au Il;have yf : ∀ q',q'=val W/val y->val ((w.set j q').drop j)=val W/val y+4294967296*val (w.drop (j+1)):=λ q' h=>by
   rw[NH (l:=w.set j q') (d:=q') (by rw[List.getElem?_set_self (by omega)]),List.drop_set_of_lt (by omega),h]
  have hlen : ∀ W':List Nat,W'.length=y.length+1->(A++W'++C).length=u.length:=λ W' h=>by
   rw[<-p2];simp [h,hW]
  have Se:u.length=j+(y.length+1)+C.length:=by rw[<-p2];simp [hA,hW];omega
  refine C5 [] (by (conv=>whnf);exact ⟨rfl,rfl,rfl⟩) (Aed (m:=m) (s:=s) (ul:=u.length) (C:=C) hA hW D2 fi nj.1 (by omega) bg (by omega) n2 g2 Se p4 (by omega) (λ W' q' z1 z2 z3 z4 => ?_));obtain ⟨t1,t2⟩:=mP (A:=A) (W:=W') (C:=C) (j:=j) hA g1;refine C5 [] (by (conv=>whnf);exact ⟨rfl,rfl,rfl⟩) (ih j (A++W'++C) (w.set j q') (by omega) ⟨by omega,hlen W' z1,(D1.append z2).append D3,by simpa using p4,p5.set _ (by omega),by omega,?_⟩);rw[t1,t2,yf q' z4,z3];exact qb
end Go.e6
namespace Go.e6
open F
attribute [local irreducible] AH A8 BT A5 EW BJ CS CR EU DK EE II C8 B5 DB FG AP CG BF pw HE FL HO HG HN G2 G5 DG FF
variable {L:Lib}
set_option maxHeartbeats 8000000
theorem wP (N:a8 L) (a b:List Nat) (q1 q2:Bool) (hA:BZ a) (hB:BZ b) (la:a.length<=274877906944) (lb:b.length<=274877906944) (h0:val b≠0) :
  Ev L 109 [.sl q1 (a.map BG),.sl q2 (b.map BG)] (.g8 [.sl false ((dg (val a/val b)).map BG),.sl false ((dg (val a%val b)).map BG),.int .i64 0]):=by
 have t1:=λ q=>JZ N a q hA (by omega)
 have t2:=λ q=>JZ N b q hB (by omega)
 have l1:=HH hA;have l2:=HH hB;have m5:=λ q q'=>nH N (dg (val a)) (dg (val b)) q q' (GA _) (GA _) (by omega) (by omega)
 rw[CX,CX]at m5;generalize val a=X at *;generalize val b=Y at *;have d1:=GA X;have d2:=GA Y;have v1:=CX X;have v2:=CX Y;have hy1:=cO h0;refine Ev.x N.F2 rfl rfl ?_;by_cases h1:(dg Y).length=1
 ·obtain ⟨y0,pc⟩ : ∃ y0,dg Y=[y0]:=List.length_eq_one_iff.1 h1
  have wi:Y=y0:=by rw[<-v2,pc];simp [val]
  subst wi;have Di:Y<4294967296:=d2 Y (by rw[pc];simp);have hyg:(dg Y)[(0:Int).toNat]? = some Y:=by rw[pc];rfl
  have cp:=λ q=>AfM N (dg X) Y q d1 (by omega) h0 Di
  rw[v1]at cp;have Bo:X%Y<4294967296:=Nat.lt_trans (Nat.mod_lt _ (by omega)) Di;have Rn:=λ q=>JZ N [X%Y] q (LE Bo) (by simp)
  rw[show val [X%Y]=X%Y by simp [val]]at Rn;clear pc v2;generalize dg Y=y at *;(repeat' ((first|(apply BB<;>intro hc<;>try omega)|apply BR|(refine CT (by assumption) ?_ rfl ?_;omega)|refine PC rfl ?_|apply A7|refine AY (t1 _) ?_|refine AY (t2 _) ?_|refine AY (cp _) ?_|refine AY (Rn _) ?_)<;>conv=>whnf))
  exact BU rfl (gC _ _ _)
 by_cases l8:X<Y
 ·rw[<-OU (by omega)]at m5
  (repeat' ((first|(apply BB<;>intro hc<;>try omega)|apply BR|apply A7|refine AY (t1 _) ?_|refine AY (t2 _) ?_|refine AY (m5 _ _) ?_)<;>conv=>whnf))
  refine BU ?_ (gC _ _ _);rw[Nat.div_eq_of_lt l8,Nat.mod_eq_of_lt l8,HP];rfl
 have mz:=gE (show Y<=X by omega);generalize E4 X Y=cm at *;have Jy:2<=(dg Y).length:=by omega
 obtain ⟨yt,yk,ym⟩:=mJ h0;have vi:=d2.at yk;obtain ⟨b1,b2,b3,b4⟩:=pD ym vi;have rz:=λ q=>AfI N yt q ym vi
 generalize hs:32-o5 yt=s at *;have dn:s<=31:=by omega
 have Kx:=λ q=>wR N (dg Y) q s d2 (by omega) (by omega)
 obtain ⟨n1,n2⟩:=oW d2 yk (by omega) dn b3 b4;rw[v2]at Kx n1 n2;have ow:(dg Y).drop ((dg Y).length-1)=[yt]:=by
  obtain ⟨hi,he⟩:=zS yk;rw[List.drop_eq_getElem_cons hi,he,List.drop_of_length_le (by omega)]
 have nj:(dg (Y*2^s)).length=(dg Y).length:=by
  have a1:=VD.2 n1;have a2 : ¬ (dg (Y*2^s)).length<=(dg Y).length-1:=λ h=>by
   have:=VD.1 h
   omega
  omega
 have Apx:(dg (X*2^s)).length<=(dg X).length+1:=by
  refine VD.2 ?_;have a1:X<4294967296^(dg X).length:=VD.1 (Nat.le_refl _);rw[Nat.pow_succ];have a2:=dT (s:=s) (by omega);exact Nat.lt_of_lt_of_le (Nat.mul_lt_mul_of_pos_right a1 (Nat.two_pow_pos s)) (Nat.mul_le_mul_left _ a2)
 have Co:(dg X).length<=(dg (X*2^s)).length:=XB (Nat.le_mul_of_pos_right _ (Nat.two_pow_pos s));have xq:=XB (show Y<=X by omega);generalize hx:dg X=x at *;generalize hy:dg Y=y at *;have t3:=λ q=>JZ N x q d1 (by omega)
 rw[v1,hx]at t3;(repeat' ((first|(apply BB<;>intro hc<;>try omega)|(apply DC;omega)|apply BR|apply A7|refine AY (t1 _) ?_|refine AY (t2 _) ?_|refine AY (m5 _ _) ?_)<;>conv=>whnf))
 rw[show (y.length:Int)-1=((y.length-1:Nat):Int) by omega];refine Wg (k:=y.length-1) (λ_=>rfl) (by omega) ?_;(conv=>whnf)
 rw[ow];(repeat' ((first|(apply DC;omega)|refine AY (rz _) ?_)<;>conv=>whnf))
 rw[show (32:Int)-(o5 yt:Nat)=((s:Nat):Int) by omega];refine OO 1000 N.O0 rfl rfl ?_;have hsq:(s:Int)/32=((0:Nat):Int):=by omega
 have Kw:(s:Int)%32=((s:Nat):Int):=by omega
 (repeat' ((first|(apply BB<;>intro hc<;>try omega)|(refine U4 ?_ ?_ (λ_ => ?_) (λ_ _ => ?_);omega;omega;all_goals try omega)|apply BR|apply A7|refine AY (t3 _) ?_)<;>conv=>whnf))
 rw[hsq];refine NQ (enc:=BG) 0 0 rfl rfl (by omega) ?_;(conv=>whnf)
 skip
 refine J1 (λ i _ _=>x.length-i) (λ(i:Nat) (o:List Nat) (c:Nat)=>i<=x.length/\o.length=i/\BZ o/\c<2^s/\val o+4294967296^i*c=val (x.take i)*2^s) (λ i o c=>[(10,.int .i64 i),(9,.int .u64 (c:Int)),(8,.row 107069 0 1 0 i)]) (λ i o c=>[(107069,107069,.rw 1 (o.map BG))]) 0 [] 0 ⟨by omega,rfl,ZU,Nat.two_pow_pos _,by simp [val]⟩ ?_;intro i o c ⟨p1,p2,p3,p4,p5⟩ ih;have si:=dT (s:=s) (by omega);by_cases hi:i<x.length
 ·obtain ⟨d,hd⟩ : ∃ d,x[i]? = some d:=⟨_,zE hi⟩
  have du:=d1.at hd;obtain ⟨f1,f2,f3,f4⟩:=Y5 (s:=s) du (by omega);have hr:=iH (show s<=64 by omega) f4;(repeat' ((first|(apply BB<;>intro hc<;>try omega)|(refine X2 ?_ (λ_ _ _ => ?_) (λ_ _ _ _ => ?_);omega;all_goals try omega)|(apply DL;omega)|apply BR|(refine CT (by assumption) ?_ rfl ?_;omega)|apply A7)<;>conv=>whnf))
  rw[Kw];refine V7 (by omega) f4 ?_;(conv=>whnf)
  skip
  refine fD s (Nat.mul_mod_left _ _) p4 (by omega) ?_;(conv=>whnf)
  have m9:=Pf (d:=d) (P:=1) (V:=val o) (p:=4294967296^i) (lo:=c) (X:=val (x.take i)) (s:=s) (by rw[Nat.one_mul,Nat.one_mul];exact p5) rfl;have vu:(c+d*2^s)/4294967296<2^s:=by
   rw[Nat.div_lt_iff_lt_mul (by omega)];have:=zR (2^s) (show d<=4294967295 by omega)
   omega
  generalize c+d*2^s=t at *;(repeat' ((first|apply JL|apply FM)<;>conv=>whnf))
  refine G3 (enc:=BG) (t%4294967296) rfl p2.symm rfl (by omega) (by omega) ?_;(conv=>whnf)
  (repeat' ((first|(apply BS;omega)|apply IK)<;>conv=>whnf))
  rw[show (o++[t%4294967296]).length=i+1 by simp [p2]];refine C5 [(107069,107091)] (by (conv=>whnf);exact ⟨rfl,rfl,rfl⟩) (ih (i+1) (o++[t%4294967296]) (t/4294967296) (by omega) ⟨by omega,by simp;omega,p3.append (LE (by omega)),vu,?_⟩);rw[UT,p2,GD hd,Nat.pow_succ];rw[Nat.one_mul,Nat.one_mul]at m9;exact m9
 obtain rfl:i=x.length:=by omega
 clear ih;have ud:c<4294967296:=by omega
 have hOD:BZ (o++[c]):=p3.append (LE ud);have Ei:val (o++[c])=X*2^s:=by
  rw[UT,p2,p5,E9 (Nat.le_refl _),v1]
 have Eh:(o++[c]).length=x.length+1:=by simp [p2]
 (repeat' ((first|(apply BB<;>intro hc<;>try omega)|(apply GP;omega)|apply BR|apply FM|apply A7)<;>conv=>whnf))
 refine G3 (enc:=BG) c rfl p2.symm rfl (by omega) (by omega) ?_;(conv=>whnf)
 rw[Eh];generalize o++[c]=O at *;rw[<-Eh];clear p3 p4 p5;refine OO 1000 N.N1 rfl rfl ?_;(repeat' (apply A7<;>conv=>whnf))
 refine HC (λ n=>n) (λ(n:Nat)=>n<=(O).length /\ ∀ i,n<=i->i<(O).length->(O)[i]? = some 0) (λ n=>[(3,.int .i64 n)]) (λ_=>[]) (O).length ⟨Nat.le_refl _,λ i h1 h2=>by omega⟩ ?_;intro n ⟨p1,p2⟩ ih;rcases n with _|n
 ·(repeat' ((first|(apply BB<;>intro hc<;>try omega)|apply A7)<;>conv=>whnf))
  refine NN 0 (by omega) (by omega) ?_;(conv=>whnf)
  have dm:=JX (l:=O) (by assumption) p1 p2 (Or.inl rfl);have n8:(List.take 0 O).length<=(O).length:=by rw[List.length_take];omega
  clear ih p2;refine fO (enc:=BG) (by omega) ?_;(conv=>whnf)
  rw[List.drop_zero,Nat.sub_zero];generalize Ik:List.take 0 O=T0 at *;refine LC (enc:=BG) (λ_=>rfl) (by omega) (by omega) ?_;(conv=>whnf)
  refine ⟨rfl,_,rfl,?_⟩;(conv=>whnf)
  (refine ⟨rfl,_,rfl,?_⟩;(conv=>whnf);(repeat' ((first|apply FM|refine AY (Kx _) ?_)<;>conv=>whnf));refine G3 (enc:=BG) 0 rfl rfl rfl (by omega) (by omega) ?_;(conv=>whnf);rw[Ei]at dm;rw[dm];exact C5 [] (by (conv=>whnf);exact ⟨rfl,rfl,rfl⟩) (vC N (x:=x) (X:=X) (Y:=Y) (s:=s) (u:=dg (X*2^s)++[0]) (y:=dg (Y*2^s)) h0 dn ((GA _).append (LE (by omega))) (by rw[UT,CX,Nat.mul_zero,Nat.add_zero]) (by simp) (by simp;omega) (GA _) (CX _) (by omega) (by rw[CX,nj];exact n2)))
 ·have e1:((n+1:Nat):Int)-1=n:=by omega
  (repeat' ((first|(apply BB<;>intro hc<;>try omega)|(apply B7;omega)|(apply DC;omega)|(refine X1 (by assumption) ?_ (λ v hv hb => ?_);omega)|apply A7)<;>conv=>whnf))
  ·rw[e1]
   exact D0 [] (ih n (by omega) ⟨by omega,λ i h1 h2=>by
    by_cases h:i=n
    ·subst h
     rw[e1,Int.toNat_natCast]at hv;rw[hv];congr 1;omega
    ·exact p2 i (by omega) h2⟩)
  ·refine NN (n+1) (by omega) (by omega) ?_
   (conv=>whnf)
   rw[e1,Int.toNat_natCast]at hv;have dm:=JX (l:=O) (by assumption) p1 p2 (Or.inr ⟨_,hv,by omega⟩);have n8:(List.take (n+1) O).length<=(O).length:=by rw[List.length_take];omega
   clear ih p2 hv;(rw[tF (l:=O)];rotate_left;exact rfl;exact rfl);(conv=>whnf)
   refine fO (enc:=BG) (by omega) ?_;(conv=>whnf)
   rw[List.drop_zero,Nat.sub_zero];generalize Ik:List.take (n+1) O=T0 at *;refine LC (enc:=BG) (λ_=>rfl) (by omega) (by omega) ?_;(conv=>whnf)
   refine ⟨rfl,_,rfl,?_⟩;(conv=>whnf)
   (refine ⟨rfl,_,rfl,?_⟩;(conv=>whnf);(repeat' ((first|apply FM|refine AY (Kx _) ?_)<;>conv=>whnf));refine G3 (enc:=BG) 0 rfl rfl rfl (by omega) (by omega) ?_;(conv=>whnf);rw[Ei]at dm;rw[dm];exact C5 [] (by (conv=>whnf);exact ⟨rfl,rfl,rfl⟩) (vC N (x:=x) (X:=X) (Y:=Y) (s:=s) (u:=dg (X*2^s)++[0]) (y:=dg (Y*2^s)) h0 dn ((GA _).append (LE (by omega))) (by rw[UT,CX,Nat.mul_zero,Nat.add_zero]) (by simp) (by simp;omega) (GA _) (CX _) (by omega) (by rw[CX,nj];exact n2)))
theorem AfJ (N:a8 L) (a b:List Nat) (q1 q2:Bool) (hA:BZ a) (hB:BZ b) (la:a.length<=274877906944) (lb:b.length<=274877906944) :
  Ev L 110 [.sl q1 (a.map BG),.sl q2 (b.map BG)] (.sl false ((dg (Nat.gcd (val a) (val b))).map BG)):=by
 have t1:=λ q=>JZ N a q hA (by omega)
 have t2:=λ q=>JZ N b q hB (by omega)
 have l1:=HH hA;have l2:=HH hB;generalize val a=X at *;generalize val b=Y at *;refine Ev.x N.TB rfl rfl ?_;(repeat' ((first|apply A7|refine AY (t1 _) ?_|refine AY (t2 _) ?_)<;>conv=>whnf))
 refine PL (λ_ y=>y) (λ(x y:Nat)=>(dg x).length<=274877906944/\(dg y).length<=274877906944/\Nat.gcd x y=Nat.gcd X Y) (λ x y=>[(0,.sl false ((dg x).map BG)),(1,.sl false ((dg y).map BG))]) (λ_ _=>[]) X Y ⟨by omega,by omega,rfl⟩ ?_;intro x y ⟨p1,p2,p3⟩ ih;rw[<-p3];by_cases h0:y=0
 ·subst h0
  have wg:(dg 0).length=0:=by rw[HP];rfl
  clear ih;rw[Nat.gcd_zero_right];(repeat' ((first|(apply BB<;>intro hc<;>try omega)|apply BR|apply A7)<;>conv=>whnf))
  exact BU rfl (PQ _)
 ·have hp:=cO h0
  have hD:=λ q q'=>wP N (dg x) (dg y) q q' (GA _) (GA _) p1 p2 (by rw[CX];exact h0)
  rw[CX,CX]at hD;have l8:x%y<y:=Nat.mod_lt _ (by omega);have hml:=XB (Nat.le_of_lt l8);(repeat' ((first|(apply BB<;>intro hc<;>try omega)|apply BR|apply A7|refine AY (hD _ _) ?_)<;>conv=>whnf))
  rw[p3];exact D0 [] (ih y (x%y) l8 ⟨p2,by omega,by rw[dF];exact p3⟩)
theorem PR (N:a8 L) (n q:Bool) (m:List Nat) (hm:Sm 274877906944 m):Ev L 111 [.agg (rZ q n m)] (.agg (eZ (zv n m))):=by
 have hT:=λ q=>JZ N m q hm.1 (by have:=hm.2;omega)
 have hz:=KB (val m);have ha:=HM n m;refine Ev.x N.TQ rfl rfl ?_;cases n
 ·rw[G1]at *
  (repeat' ((first|apply A7|refine AY (hT _) ?_)<;>conv=>whnf))
  exact BU (G6 ha.symm (H0 (by omega))) (FQ _)
 ·rw[U2]at *
  (repeat' ((first|(apply BB<;>intro hc<;>try omega)|apply BR|apply A7|refine AY (hT _) ?_)<;>conv=>whnf))
  ·exact BU (G6 ha.symm (P5 (by omega))) (FQ _)
  ·exact BU (G6 ha.symm (H0 (by omega))) (FQ _)
theorem nM (N:a8 L) (n q:Bool) (m:List Nat) (hm:Sm 274877906944 m):Ev L 113 [.agg (rZ q n m)] (.int .i64 (u6 (zv n m))):=by
 have hT:=λ q=>PR N n q m hm
 generalize zv n m=z at *;have hz:=KB z.natAbs;refine Ev.x N.TM rfl rfl ?_;(repeat' ((first|(apply BB<;>intro hc<;>try omega)|apply BR|apply A7|refine AY (hT _) ?_)<;>conv=>whnf))
 ·exact DY (jH (by omega))
 ·cases hd:decide (z<0)
  ·(conv=>whnf)
   exact DY (qL (by have:=of_decide_eq_false hd;omega))
  ·(conv=>whnf)
   exact DY (jE (of_decide_eq_true hd))
theorem nJ (N:a8 L) (n q:Bool) (m:List Nat) (hm:Sm 274877906944 m):Ev L 114 [.agg (rZ q n m)] (.agg (eZ (-(zv n m)))):=by
 have hT:=λ q=>PR N n q m hm
 generalize zv n m=z at *;have hz:=KB z.natAbs;refine Ev.x N.TK rfl rfl ?_;(repeat' ((first|apply A7|refine AY (hT _) ?_)<;>conv=>whnf))
 cases hd:decide (z<0)
 ·have h1:=of_decide_eq_false hd
  (conv=>whnf)
  (repeat' ((first|(apply BB<;>intro hc<;>try omega)|apply BR)<;>conv=>whnf))
  ·exact BU (G6 (by omega) (P5 (by omega))) (FQ _)
  ·exact BU (G6 (by omega) (H0 (by omega))) (FQ _)
 ·have h1:=of_decide_eq_true hd
  (conv=>whnf)
  skip
  exact BU (G6 (by omega) (H0 (by omega))) (FQ _)
theorem YN (N:a8 L) (n1 n2 q1 q2:Bool) (a b:List Nat) (ha:BZ a) (hb:BZ b) (hl:a.length+b.length<=274877906944):Ev L 118 [.agg (rZ q1 n1 a),.agg (rZ q2 n2 b)] (.agg (eZ (zv n1 a*zv n2 b))):=by
 have h1:=λ q q'=>AfK N a b q q' ha hb (by omega)
 have sa:Sm a.length a:=⟨ha,Nat.le_refl _⟩;have sb:Sm b.length b:=⟨hb,Nat.le_refl _⟩;have hT:=λ n q=>PR N n q (dg (val a*val b)) ((sa.mul sb rfl).le hl)
 have e : ∀ n,zv n (dg (val a*val b))=bif n then -((val a*val b:Nat):Int) else ((val a*val b:Nat):Int):=λ n=>by unfold zv;rw[CX]
 have e2:zv n1 a*zv n2 b=zv (n1 != n2) (dg (val a*val b)):=by
  rw[e];cases n1<;>cases n2<;>simp [G1,U2,Int.mul_neg,Int.neg_mul]
 rw[e2];refine Ev.x N.TJ rfl rfl ?_;cases n1<;>cases n2;all_goals
  (repeat' ((first|apply A7|refine AY (h1 _ _) ?_|refine AY (hT _ _) ?_)<;>conv=>whnf))
  exact BU rfl (FQ _)
theorem wS (N:a8 L) (n1 n2 q1 q2:Bool) (a b:List Nat) (ha:Sm 274877906943 a) (hb:Sm 274877906943 b):Ev L 115 [.agg (rZ q1 n1 a),.agg (rZ q2 n2 b)] (.agg (eZ (zv n1 a+zv n2 b))):=by
 have t1:=λ q=>PR N n1 q a (ha.le (by omega))
 have t2:=λ q=>PR N n2 q b (hb.le (by omega))
 have s1:Sm 274877906943 (dg (zv n1 a).natAbs):=by rw[HM];exact ha.wj
 have s2:Sm 274877906943 (dg (zv n2 b).natAbs):=by rw[HM];exact hb.wj
 generalize zv n1 a=x at *;generalize zv n2 b=y at *;have h1:=λ q q'=>wO N (dg x.natAbs) (dg y.natAbs) q q' s1.1 s2.1 (by have:=s1.2;omega) (by have:=s2.2;omega)
 have h2:=λ q q'=>nI N (dg x.natAbs) (dg y.natAbs) q q' s1.1 s2.1 (by have:=s1.2;omega) (by have:=s2.2;omega)
 have h3:=λ q q'=>nI N (dg y.natAbs) (dg x.natAbs) q q' s2.1 s1.1 (by have:=s2.2;omega) (by have:=s1.2;omega)
 have m5:=λ q q'=>nH N (dg x.natAbs) (dg y.natAbs) q q' s1.1 s2.1 (by have:=s1.2;omega) (by have:=s2.2;omega)
 rw[CX,CX]at h1 h2 h3 m5;have u1:=λ n q=>PR N n q (dg (x.natAbs+y.natAbs)) (s1.add s2 (by rw[CX,CX];omega))
 have u2:=λ n q=>PR N n q (dg (x.natAbs-y.natAbs)) ((s1.low (V:=x.natAbs-y.natAbs) (by rw[CX];omega)).le (by omega))
 have u3:=λ n q=>PR N n q (dg (y.natAbs-x.natAbs)) ((s2.low (V:=y.natAbs-x.natAbs) (by rw[CX];omega)).le (by omega))
 have e : ∀ n V,zv n (dg V)=bif n then -(V:Int) else (V:Int):=λ n V=>by unfold zv;rw[CX]
 refine Ev.x N.TE rfl rfl ?_;(repeat' ((first|apply A7|refine AY (t1 _) ?_|refine AY (t2 _) ?_)<;>conv=>whnf))
 cases hx:decide (x<0)<;>cases hy:decide (y<0)
 ·have g1:=of_decide_eq_false hx
  have g2:=of_decide_eq_false hy;have hz:x+y=zv false (dg (x.natAbs+y.natAbs)):=by rw[e];simp only[cond_true,cond_false];omega
  rw[hz];(conv=>whnf)
  (repeat' ((first|refine AY (h1 _ _) ?_|refine AY (u1 _ _) ?_)<;>conv=>whnf))
  exact BU rfl (FQ _)
 ·have g1:=of_decide_eq_false hx
  have g2:=of_decide_eq_true hy;by_cases l8:x.natAbs<y.natAbs
  ·have hz:x+y=zv true (dg (y.natAbs-x.natAbs)):=by rw[e];simp only[cond_true,cond_false];omega
   rw[hz];rw[<-OU (by omega)]at m5;(conv=>whnf)
   (repeat' ((first|(apply BB<;>intro hc<;>try omega)|refine AY (m5 _ _) ?_|refine AY (h3 _ _) ?_|refine AY (u3 _ _) ?_)<;>conv=>whnf))
   exact BU rfl (FQ _)
  ·have hz:x+y=zv false (dg (x.natAbs-y.natAbs)):=by rw[e];simp only[cond_true,cond_false];omega
   rw[hz];have mz:=gE (show y.natAbs<=x.natAbs by omega);generalize E4 (x.natAbs:Nat) (y.natAbs:Nat)=cm at *;(conv=>whnf)
   (repeat' ((first|(apply BB<;>intro hc<;>try omega)|refine AY (m5 _ _) ?_|refine AY (h2 _ _) ?_|refine AY (u2 _ _) ?_)<;>conv=>whnf))
   exact BU rfl (FQ _)
 ·have g1:=of_decide_eq_true hx
  have g2:=of_decide_eq_false hy;by_cases l8:x.natAbs<y.natAbs
  ·have hz:x+y=zv false (dg (y.natAbs-x.natAbs)):=by rw[e];simp only[cond_true,cond_false];omega
   rw[hz];rw[<-OU (by omega)]at m5;(conv=>whnf)
   (repeat' ((first|(apply BB<;>intro hc<;>try omega)|refine AY (m5 _ _) ?_|refine AY (h3 _ _) ?_|refine AY (u3 _ _) ?_)<;>conv=>whnf))
   exact BU rfl (FQ _)
  ·have hz:x+y=zv true (dg (x.natAbs-y.natAbs)):=by rw[e];simp only[cond_true,cond_false];omega
   rw[hz];have mz:=gE (show y.natAbs<=x.natAbs by omega);generalize E4 (x.natAbs:Nat) (y.natAbs:Nat)=cm at *;(conv=>whnf)
   (repeat' ((first|(apply BB<;>intro hc<;>try omega)|refine AY (m5 _ _) ?_|refine AY (h2 _ _) ?_|refine AY (u2 _ _) ?_)<;>conv=>whnf))
   exact BU rfl (FQ _)
 ·have g1:=of_decide_eq_true hx
  have g2:=of_decide_eq_true hy;have hz:x+y=zv true (dg (x.natAbs+y.natAbs)):=by rw[e];simp only[cond_true,cond_false];omega
  rw[hz];(conv=>whnf)
  (repeat' ((first|refine AY (h1 _ _) ?_|refine AY (u1 _ _) ?_)<;>conv=>whnf))
  exact BU rfl (FQ _)
theorem AfP (N:a8 L) (n1 n2 q1 q2:Bool) (a b:List Nat) (ha:Sm 274877906943 a) (hb:Sm 274877906943 b):Ev L 116 [.agg (rZ q1 n1 a),.agg (rZ q2 n2 b)] (.agg (eZ (zv n1 a-zv n2 b))):=by
 have t2:=λ q=>nJ N n2 q b (hb.le (by omega))
 have s2:Sm 274877906943 (dg (-(zv n2 b)).natAbs):=by rw[Int.natAbs_neg,HM];exact hb.wj
 have h1:=λ q q'=>wS N n1 (decide (-(zv n2 b)<0)) q q' a (dg (-(zv n2 b)).natAbs) ha s2
 rw[IG,<-Int.sub_eq_add_neg]at h1;refine Ev.x N.TN rfl rfl ?_;(repeat' ((first|apply A7|refine AY (t2 _) ?_|refine AY (h1 _ _) ?_)<;>conv=>whnf))
 exact BU rfl (FQ _)
theorem AfN (N:a8 L) (n1 n2 q1 q2:Bool) (a b:List Nat) (ha:Sm 274877906943 a) (hb:Sm 274877906943 b):Ev L 117 [.agg (rZ q1 n1 a),.agg (rZ q2 n2 b)] (.int .i64 (u6 (zv n1 a-zv n2 b))):=by
 have h1:=λ q q'=>AfP N n1 n2 q q' a b ha hb
 have s1:Sm 274877906943 (dg (zv n1 a).natAbs):=by rw[HM];exact ha.wj
 have s2:Sm 274877906943 (dg (zv n2 b).natAbs):=by rw[HM];exact hb.wj
 have s3:Sm 274877906944 (dg (zv n1 a-zv n2 b).natAbs):=s1.add s2 (by rw[CX,CX];omega);have h2:=λ q=>nM N (decide (zv n1 a-zv n2 b<0)) q (dg (zv n1 a-zv n2 b).natAbs) s3
 rw[IG]at h2;refine Ev.x N.TF rfl rfl ?_;(repeat' ((first|apply A7|refine AY (h1 _ _) ?_|refine AY (h2 _) ?_)<;>conv=>whnf))
 exact DY rfl
theorem nK (N:a8 L) (z:Int) (hz : -9223372036854775808<=z/\z<=9223372036854775807):Ev L 112 [.int .i64 z] (.agg (eZ z)):=by
 have two : ∀ k:Nat,k<18446744073709551616 -> ∀ n q,Ev L 111 [.agg [.bool n,.sl q [[.int .u32 ((k%4294967296:Nat):Int)],[.int .u32 ((k/4294967296:Nat):Int)]]]] (.agg (eZ (bif n then -(k:Int) else (k:Int)))):=λ k hk n q=>by
  have:=PR N n q [k%4294967296,k/4294967296] ⟨(mG hk).2,by simp⟩
  unfold zv at this;rw[Pj hk]at this;exact this
 refine Ev.x N.TL rfl rfl ?_;by_cases h0:0<=z
 ·obtain ⟨k,rfl⟩:=Int.eq_ofNat_of_zero_le h0
  have hT:=two k (by omega);(repeat' ((first|(apply BB<;>intro hc<;>try omega)|apply IK|(apply DL;omega)|(apply GP;omega)|apply JL|refine bN rfl rfl ?_|apply A7)<;>conv=>whnf))
  generalize k%4294967296=lo at *;generalize k/4294967296=hi at *;(repeat' (refine AY (hT _ _) ?_<;>conv=>whnf))
  exact BU rfl (FQ _)
 ·obtain ⟨k,hk⟩:=Int.eq_ofNat_of_zero_le (show 0 <= -(z+1) by omega)
  have rn:z = -((k+1:Nat):Int):=by omega
  have hT:=two (k+1) (by omega);(repeat' ((first|(apply BB<;>intro hc<;>try omega)|(apply BS;omega)|apply sN|(apply EW.neg;omega)|(apply DL;omega)|apply A7)<;>conv=>whnf))
  rw[show IntKind.u64.wrap (-(z+1)+1)=((k+1:Nat):Int) by rw[IntWalk.u64_in _ (by omega)];omega];rw[rn];generalize k+1=k1 at *;(repeat' ((first|apply IK|(apply GP;omega)|apply JL|refine bN rfl rfl ?_)<;>conv=>whnf))
  generalize k1%4294967296=lo at *;generalize k1/4294967296=hi at *;(repeat' (refine AY (hT _ _) ?_<;>conv=>whnf))
  exact BU rfl (FQ _)
theorem AfO (N:a8 L) (n1 n2 q1 q2:Bool) (a b:List Nat) (ha:Sm 274877906944 a) (hb:Sm 274877906944 b):Ev L 120 [.agg (rZ q1 n1 a),.agg (rZ q2 n2 b)] (.agg (eZ ((Nat.gcd (val a) (val b):Nat):Int))):=by
 have h1:=λ q q'=>AfJ N a b q q' ha.1 hb.1 ha.2 hb.2
 refine Ev.x N.TI rfl rfl ?_;(repeat' ((first|apply A7|refine AY (h1 _ _) ?_)<;>conv=>whnf))
 exact BU (G6 (by omega) (H0 (by omega))) (FQ _)
theorem AeV (n1 n2:Bool) (A B:Nat) (hB:B≠0):(bif n1 then -(A:Int) else (A:Int))/(bif n2 then -(B:Int) else (B:Int))=(bif n1 != n2 then -((if n1=true/\A%B≠0 then A/B+1 else A/B:Nat):Int) else ((if n1=true/\A%B≠0 then A/B+1 else A/B:Nat):Int)) /\
  (bif n1 then -(A:Int) else (A:Int))%(bif n2 then -(B:Int) else (B:Int))=((if n1=true/\A%B≠0 then B-A%B else A%B:Nat):Int):=by
 have hBp:(0:Int)<B:=by omega
 have key : ∀ x:Int,x/(bif n2 then -(B:Int) else (B:Int))=(bif n2 then -(x/B) else x/B)/\x%(bif n2 then -(B:Int) else (B:Int))=x%B:=λ x=>by
  cases n2
  ·exact ⟨rfl,rfl⟩
  ·exact ⟨Int.ediv_neg x B,Int.emod_neg x B⟩
 rw[(key _).1,(key _).2];cases n1
 ·have h1:((A:Int))/B=((A/B:Nat):Int):=by simp
  have h2:((A:Int))%B=((A%B:Nat):Int):=by simp
  simp only[cond_false,h1,h2];cases n2<;>simp
 ·have hd:=Nat.div_add_mod A B
  have l8:=Nat.mod_lt A (show B>0 by omega);by_cases h0:A%B=0
  ·have e : -(A:Int)=(B:Int)*(-((A/B:Nat):Int)):=by
    rw[h0,Nat.add_zero]at hd;rw[Int.mul_neg,<-Int.natCast_mul,hd]
   have h1 : -(A:Int)/B = -((A/B:Nat):Int):=by rw[e,Int.mul_ediv_cancel_left _ (by omega)]
   have h2 : -(A:Int)%B=0:=by rw[e,Int.mul_emod_right]
   simp only[cond_true,h1,h2,h0];cases n2<;>simp
  ·have e : -(A:Int)=(B:Int)*(-((A/B+1:Nat):Int))+((B-A%B:Nat):Int):=by
    have h3:(B:Int)*((A/B:Nat):Int)+((A%B:Nat):Int)=A:=by rw[<-Int.natCast_mul,<-Int.natCast_add,hd]
    rw[Int.mul_neg,Int.natCast_add,Int.mul_add];omega
   have h1 : -(A:Int)/B = -((A/B+1:Nat):Int):=by
    rw[e,Int.mul_add_ediv_left _ _ (by omega),Int.ediv_eq_zero_of_lt (by omega) (by omega),Int.add_zero]
   have h2 : -(A:Int)%B=((B-A%B:Nat):Int):=by
    rw[e,Int.mul_add_emod_self_left,Int.emod_eq_of_lt (by omega) (by omega)]
   simp only[cond_true,h1,h2];cases n2<;>simp [h0]
theorem wT (N:a8 L) (n1 n2 q1 q2:Bool) (a b:List Nat) (ha:Sm 274877906943 a) (hb:Sm 274877906943 b) (h0:zv n2 b≠0):Ev L 119 [.agg (rZ q1 n1 a),.agg (rZ q2 n2 b)] (.g8 [.agg (eZ (zv n1 a/zv n2 b)),.agg (eZ (zv n1 a%zv n2 b)),.int .i64 0]):=by
 have t1:=λ q=>PR N n1 q a (ha.le (by omega))
 have t2:=λ q=>PR N n2 q b (hb.le (by omega))
 have s1:Sm 274877906943 (dg (zv n1 a).natAbs):=by rw[HM];exact ha.wj
 have s2:Sm 274877906943 (dg (zv n2 b).natAbs):=by rw[HM];exact hb.wj
 generalize zv n1 a=x at *;generalize zv n2 b=y at *;have Ci:=λ q q'=>wP N (dg x.natAbs) (dg y.natAbs) q q' s1.1 s2.1 (by have:=s1.2;omega) (by have:=s2.2;omega) (by rw[CX];omega)
 rw[CX,CX]at Ci;obtain ⟨e1,e2⟩:=AeV (decide (x<0)) (decide (y<0)) x.natAbs y.natAbs (by omega);have hx:(bif decide (x<0) then -(x.natAbs:Int) else (x.natAbs:Int))=x:=by have:=IG x;unfold zv at this;rw[CX]at this;exact this
 have hy:(bif decide (y<0) then -(y.natAbs:Int) else (y.natAbs:Int))=y:=by have:=IG y;unfold zv at this;rw[CX]at this;exact this
 rw[hx,hy]at e1 e2;rw[e1,e2];have l1:=s1.2;have l2:=s2.2;have hq:Sm 274877906943 (dg (x.natAbs/y.natAbs)):=s1.low (by rw[CX];exact Nat.div_le_self _ _);have hr:Sm 274877906943 (dg (x.natAbs%y.natAbs)):=s2.low (by rw[CX];exact Nat.le_of_lt (Nat.mod_lt _ (by omega)));have hrz:=KB (x.natAbs%y.natAbs);have ln:Ev L 103 [.sl false ((dg (x.natAbs/y.natAbs)).map BG),.sl true [[.int .u32 1]]] (.sl false ((dg (x.natAbs/y.natAbs+1)).map BG)):=by
  have:=wO N (dg (x.natAbs/y.natAbs)) [1] false true (GA _) (LE (by omega)) (by have:=hq.2;omega) (by simp)
  rw[CX,show val [1]=1 from rfl]at this;exact this
 have zw:Sm 274877906944 (dg (x.natAbs/y.natAbs+1)):=hq.add (b:=[1]) (qN (by omega) (by omega)) (by rw[CX];simp [val]);have Fw:=λ q q'=>nI N (dg y.natAbs) (dg (x.natAbs%y.natAbs)) q q' s2.1 hr.1 (by omega) (by have:=hr.2;omega)
 rw[CX,CX]at Fw;have u1:=λ n q=>PR N n q (dg (x.natAbs/y.natAbs)) (hq.le (by omega))
 have u2:=λ n q=>PR N n q (dg (x.natAbs/y.natAbs+1)) zw
 have ez : ∀ n V,zv n (dg V)=bif n then -(V:Int) else (V:Int):=λ n V=>by unfold zv;rw[CX]
 have fin : ∀ (z:Int) (V:Nat),BF (.g8 [.agg (eZ z),.agg [.bool false,.sl false ((dg V).map BG)],.int .i64 0]) (.g8 [.agg (eZ z),.agg (eZ (V:Int)),.int .i64 0]):=λ z V=>by
  have e3:AV.agg (eZ (V:Int)) = .agg [.bool false,.sl false ((dg V).map BG)]:=(G6 (by omega) (H0 (by omega))).symm;rw[e3];refine BU rfl ?_;simp only[B4,DN,and_true,true_and];exact ⟨EI _,EI _⟩
 clear e1 e2 hx hy;generalize x.natAbs/y.natAbs=qq at *;generalize x.natAbs%y.natAbs=rr at *;refine Ev.x N.TH rfl rfl ?_;(repeat' ((first|(apply BB<;>intro hc<;>try omega)|apply A7|refine AY (t1 _) ?_|refine AY (t2 _) ?_|refine AY (Ci _ _) ?_)<;>conv=>whnf))
 generalize decide (x<0)=p at *;generalize decide (y<0)=r at *;cases p
 ·rw[if_neg (by simp),if_neg (by simp),<-ez]
  cases r;all_goals
   (conv=>whnf)
   (repeat' (refine AY (u1 _ _) ?_<;>conv=>whnf))
   exact fin _ _
 ·by_cases su:rr=0
  ·rw[if_neg (by simp [su]),if_neg (by simp [su]),<-ez]
   cases r;all_goals
    (conv=>whnf)
    (repeat' ((first|(apply BB<;>intro hc<;>try omega)|apply BR|refine AY (u1 _ _) ?_)<;>conv=>whnf))
    exact fin _ _
  ·rw[if_pos ⟨rfl,su⟩,if_pos ⟨rfl,su⟩,<-ez]
   cases r;all_goals
    (conv=>whnf)
    (repeat' ((first|(apply BB<;>intro hc<;>try omega)|apply BR|refine PC rfl ?_|refine AY (ln) ?_|refine AY (Fw _ _) ?_|refine AY (u2 _ _) ?_)<;>conv=>whnf))
    exact fin _ _
theorem uX:dg 1=[1]:=by rw[PF (by omega)];simp [HP]
theorem tE:AV.agg [.bool false,.sl false [],.sl false [[.int .u32 1]]] = .agg (eQ 0):=by
 show _=AV.agg (rQ _ _ _ _ _);rw[Rat.zero_num,Rat.zero_den,uX,show (0:Int).natAbs=0 from rfl,HP];rfl
theorem Zj {x y:Int} (hy:y≠0):(Rat.divInt x y).num=(if y<0 then -(x/((Nat.gcd x.natAbs y.natAbs:Nat):Int)) else x/((Nat.gcd x.natAbs y.natAbs:Nat):Int))/\(Rat.divInt x y).den=(y/((Nat.gcd x.natAbs y.natAbs:Nat):Int)).natAbs:=by
 have h1:=Rat.num_divInt x y;have h2:=Rat.den_divInt x y;rw[if_neg hy]at h2;have hg:Int.gcd y x=Nat.gcd x.natAbs y.natAbs:=by rw[Int.gcd,Nat.gcd_comm]
 rw[hg]at h1 h2;have Jq:0<Nat.gcd x.natAbs y.natAbs:=Nat.gcd_pos_of_pos_right _ (by omega);have dx:((Nat.gcd x.natAbs y.natAbs:Nat):Int) ∣ x:=Int.ofNat_dvd_left.2 (Nat.gcd_dvd_left _ _);have dy:((Nat.gcd x.natAbs y.natAbs:Nat):Int) ∣ y:=Int.ofNat_dvd_left.2 (Nat.gcd_dvd_right _ _);generalize Nat.gcd x.natAbs y.natAbs=g at *;rw[h1,h2];obtain ⟨u,rfl⟩:=dx;obtain ⟨v,rfl⟩:=dy;have Bf:(g:Int)≠0:=by omega
 refine ⟨?_,?_⟩
 ·rw[Int.mul_ediv_cancel_left _ Bf]
  split
  ·rename_i h
   rw[Int.sign_eq_neg_one_of_neg h,show -1*((g:Int)*u)=g*(-u) by rw[Int.mul_neg];omega,Int.mul_ediv_cancel_left _ Bf]
  ·rw[Int.sign_eq_one_of_pos (by omega),Int.one_mul,Int.mul_ediv_cancel_left _ Bf]
 ·rw[Int.mul_ediv_cancel_left _ Bf,Int.natAbs_mul,Int.natAbs_natCast,Nat.mul_div_cancel_left _ Jq]
theorem gV (N:a8 L) (n1 n2 q1 q2:Bool) (a b:List Nat) (ha:Sm 274877906943 a) (hb:Sm 274877906943 b):Ev L 121 [.agg (rZ q1 n1 a),.agg (rZ q2 n2 b)] (.agg (eQ (Rat.divInt (zv n1 a) (zv n2 b)))):=by
 have t1:=λ q=>nM N n1 q a (ha.le (by omega))
 have t2:=λ q=>nM N n2 q b (hb.le (by omega))
 by_cases h1:zv n1 a=0
 ·rw[h1,Rat.zero_divInt,<-tE]
  rw[h1,<-jH rfl]at t1;refine Ev.x N.O1 rfl rfl ?_;(repeat' ((first|(apply BB<;>intro hc<;>try omega)|refine PC rfl ?_|apply A7|refine AY (t1 _) ?_)<;>conv=>whnf))
  exact BU rfl (gA false [] [1])
 have s1:u6 (zv n1 a)≠0:=by unfold u6;split<;>(try split)<;>omega
 by_cases h2:zv n2 b=0
 ·rw[h2,Rat.divInt_zero,<-tE]
  rw[h2,<-jH rfl]at t2;generalize u6 (zv n1 a)=sg at *;refine Ev.x N.O1 rfl rfl ?_;(repeat' ((first|(apply BB<;>intro hc<;>try omega)|refine PC rfl ?_|apply A7|refine AY (t1 _) ?_|refine AY (t2 _) ?_)<;>conv=>whnf))
  exact BU rfl (gA false [] [1])
 have s2:u6 (zv n2 b)≠0:=by unfold u6;split<;>(try split)<;>omega
 obtain ⟨p1,p2⟩:=Zj (x:=zv n1 a) h2;have hG:=λ q q'=>AfO N n1 n2 q q' a b (ha.le (by omega)) (hb.le (by omega))
 have hle:Nat.gcd (val a) (val b)<=val b:=Nat.gcd_le_right _ (by have:=HM n2 b;omega);have Jq:0<Nat.gcd (val a) (val b):=Nat.gcd_pos_of_pos_right _ (by have:=HM n2 b;omega);have sg:Sm 274877906943 (dg (Nat.gcd (val a) (val b))):=hb.low hle;rw[HM,HM]at p1 p2;have hgf:decide (((Nat.gcd (val a) (val b):Nat):Int)<0)=false:=by simp
 have Uh:Sm 274877906943 (dg (((Nat.gcd (val a) (val b):Nat):Int)).natAbs):=by rw[Int.natAbs_natCast];exact sg
 have zg:zv (decide (((Nat.gcd (val a) (val b):Nat):Int)<0)) (dg (((Nat.gcd (val a) (val b):Nat):Int)).natAbs)=((Nat.gcd (val a) (val b):Nat):Int):=IG _;have tu:=λ q q'=>wT N n1 _ q q' a _ ha Uh (by rw[zg];omega)
 have tv:=λ q q'=>wT N n2 _ q q' b _ hb Uh (by rw[zg];omega)
 rw[zg]at tu tv;have ux:Sm 274877906943 (dg (zv n1 a/((Nat.gcd (val a) (val b):Nat):Int)).natAbs):=ha.low (by
  have:(zv n1 a/((Nat.gcd (val a) (val b):Nat):Int)).natAbs<=(zv n1 a).natAbs:=Int.natAbs_ediv_le_natAbs _ _
  rw[HM]at this;exact this)
 have Bf:0<((Nat.gcd (val a) (val b):Nat):Int):=by omega
 generalize ((Nat.gcd (val a) (val b):Nat):Int)=g at *;generalize zv n1 a=x at *;generalize zv n2 b=y at *;generalize u6 x=sx at *;generalize u6 y=sy at *;have hN:=λ q=>nJ N (decide (x/g<0)) q (dg (x/g).natAbs) (ux.le (by omega))
 rw[IG]at hN;have Hl:decide (y/g<0)=decide (y<0):=by
  congr 1;rw[eq_iff_iff,Int.ediv_lt_iff_lt_mul (by omega),Int.zero_mul]
 refine Ev.x N.O1 rfl rfl ?_;(repeat' ((first|(apply BB<;>intro hc<;>try omega)|apply A7|refine AY (t1 _) ?_|refine AY (t2 _) ?_|refine AY (hG _ _) ?_|refine AY (tu _ _) ?_|refine AY (tv _ _) ?_)<;>conv=>whnf))
 cases Te:decide (y/g<0)
 ·rw[Te]at Hl
  rw[if_neg (of_decide_eq_false Hl.symm)]at p1;(conv=>whnf)
  skip
  refine BU ?_ (G7 _);show _=AV.agg (rQ _ _ _ _ _);rw[p1,p2]
 ·rw[Te]at Hl
  rw[if_pos (of_decide_eq_true Hl.symm)]at p1;(conv=>whnf)
  (repeat' (refine AY (hN _) ?_<;>conv=>whnf))
  refine BU ?_ (G7 _);show _=AV.agg (rQ _ _ _ _ _);rw[p1,p2]
theorem Zk {z:Int} {d:List Nat}:Rat.divInt z (zv false d)=mkRat z (val d):=by rw[G1,Rat.divInt_ofNat]
def Vz (n:Bool) (m d:List Nat) (n':Bool) (m' d':List Nat) (k:Nat):Prop:=Sm k m'/\Sm k d'/\val d'≠0/\qv n m d=mkRat (zv n' m') (val d')
theorem uE (n:Bool) (m d:List Nat):B4 (.g8 [.agg (rZ false n m),.agg (rZ false false d)]):=by
 simp only[B4,DN,and_true,true_and];exact ⟨EI _,EI _⟩
theorem YM (N:a8 L) (n q:Bool) (m d:List Nat) (k:Nat) (hk:1<=k/\k<=274877906943) (hm:Sm k m) (hd:Sm k d) : ∃ n' m' d',Ev L 122 [.agg (rQ false q n m d)] (.g8 [.agg (rZ false n' m'),.agg (rZ false false d')])/\Vz n m d n' m' d' k:=by
 have t1:=λ q=>JZ N d q hd.1 (by have:=hd.2;omega)
 have hl:=KB (val d);by_cases h0:val d=0
 ·refine ⟨false,[],[1],?_,Lu _,qN hk.1 (by omega),by decide,by unfold qv;rw[h0,Rat.mkRat_zero,Pq,Rat.zero_mkRat]⟩
  refine Ev.x N.P1 rfl rfl ?_;(repeat' ((first|(apply BB<;>intro hc<;>try omega)|apply BR|refine PC rfl ?_|apply A7|refine AY (t1 _) ?_)<;>conv=>whnf))
  exact BU rfl (uE false [] [1])
 ·refine ⟨n,m,dg (val d),?_,hm,hd.wj,by rw[CX];exact h0,by rw[CX];rfl⟩
  refine Ev.x N.P1 rfl rfl ?_;(repeat' ((first|(apply BB<;>intro hc<;>try omega)|apply BR|apply A7|refine AY (t1 _) ?_)<;>conv=>whnf))
  exact BU rfl (uE _ _ _)
theorem AfT (N:a8 L) (n q:Bool) (m d:List Nat) (hm:Sm 274877906943 m) (hd:Sm 274877906943 d):Ev L 123 [.agg (rQ false q n m d)] (.agg (eQ (qv n m d))):=by
 obtain ⟨n',m',d',hp,s1,s2,s3,s4⟩:=YM N n q m d 274877906943 (by omega) hm hd;have hr:=λ q q'=>gV N n' false q q' m' d' s1 s2
 rw[Zk,<-s4]at hr;refine Ev.x N.TY rfl rfl ?_;(repeat' ((first|apply A7|refine AY (hp) ?_|refine AY (hr _ _) ?_)<;>conv=>whnf))
 exact BU rfl (G7 _)
theorem Adf (z:Int):AV.agg [.bool (decide (z<0)),.sl false ((dg z.natAbs).map BG),.sl false [[.int .u32 1]]] = .agg (eQ (z:Rat)):=by
 show _=AV.agg (rQ _ _ _ _ _);rw[Rat.num_intCast,Rat.den_intCast,uX];rfl
theorem ZY (N:a8 L) (z:Int) (hz : -9223372036854775808<=z/\z<=9223372036854775807):Ev L 124 [.int .i64 z] (.agg (eQ (z:Rat))):=by
 have h1:=nK N z hz;refine Ev.x N.TW rfl rfl ?_;(repeat' ((first|refine PC rfl ?_|apply A7|refine AY (h1) ?_)<;>conv=>whnf))
 exact BU (Adf z) (G7 _)
theorem Lv {z:Int} (hz : -9223372036854775808<=z/\z<=9223372036854775808):Sm 2 (dg z.natAbs):=Sm.dg (by omega)
theorem gU (N:a8 L) (x y:Int) (hx : -9223372036854775808<=x/\x<=9223372036854775807) (hy : -9223372036854775808<=y/\y<=9223372036854775807):Ev L 125 [.int .i64 x,.int .i64 y] (.agg (eQ (Rat.divInt x y))):=by
 have h1:=nK N x hx;have h2:=nK N y hy;have hr:=λ q q'=>gV N (decide (x<0)) (decide (y<0)) q q' _ _ ((Lv (z:=x) (by omega)).le (by omega)) ((Lv (z:=y) (by omega)).le (by omega))
 rw[IG,IG]at hr;refine Ev.x N.TT rfl rfl ?_;(repeat' ((first|apply A7|refine AY (h1) ?_|refine AY (h2) ?_|refine AY (hr _ _) ?_)<;>conv=>whnf))
 exact BU rfl (G7 _)
theorem Y8 {k l:Nat} {n1 n2:Bool} {a b:List Nat} (ha:Sm k a) (hb:Sm l b):Sm (k+l) (dg (zv n1 a*zv n2 b).natAbs):=ha.mul hb (by rw[Int.natAbs_mul,HM,HM])
theorem AiP {k:Nat} {x y:Int} (ha:Sm k (dg x.natAbs)) (hb:Sm k (dg y.natAbs)):Sm (k+1) (dg (x+y).natAbs):=ha.add hb (by rw[CX,CX];omega)
theorem AfQ (N:a8 L) (k:Nat) (hk:1<=k/\k<=68719476736) (n1 n2 q2 q4:Bool) (m1 d1 m2 d2:List Nat) (lg:Sm k m1) (nt:Sm k d1) (je:Sm k m2) (rb:Sm k d2) :
  Ev L 126 [.agg (rQ false q2 n1 m1 d1),.agg (rQ false q4 n2 m2 d2)] (.agg (eQ (qv n1 m1 d1+qv n2 m2 d2))):=by
 obtain ⟨a1,a2,a3,ek,s1,s2,s3,s5⟩:=YM N n1 q2 m1 d1 k (by omega) lg nt;obtain ⟨b1,b2,b3,db,t1,t2,t3,t5⟩:=YM N n2 q4 m2 d2 k (by omega) je rb;have l1:=s1.2;have l2:=s2.2;have l3:=t1.2;have l4:=t2.2;rw[s5,t5,iF s3 t3,<-G1 b3,<-G1 a3];have kj:=λ q q'=>YN N a1 false q q' a2 b3 s1.1 t2.1 (by omega)
 have qm:=λ q q'=>YN N b1 false q q' b2 a3 t1.1 s2.1 (by omega)
 have qo:=λ q q'=>YN N false false q q' a3 b3 s2.1 t2.1 (by omega)
 have g1:Sm (k+k) (dg (zv a1 a2*zv false b3).natAbs):=Y8 s1 t2;have g2:Sm (k+k) (dg (zv b1 b2*zv false a3).natAbs):=Y8 t1 s2;have g3:=AiP g1 g2;have g4:Sm (k+k) (dg (zv false a3*zv false b3).natAbs):=Y8 s2 t2;have hA:=λ q q'=>wS N (decide (zv a1 a2*zv false b3<0)) (decide (zv b1 b2*zv false a3<0)) q q' _ _ (g1.le (by omega)) (g2.le (by omega))
 rw[IG,IG]at hA;have hR:=λ q q'=>gV N (decide (zv a1 a2*zv false b3+zv b1 b2*zv false a3<0)) (decide (zv false a3*zv false b3<0)) q q' _ _ (g3.le (by omega)) (g4.le (by omega))
 rw[IG,IG,show zv false a3*zv false b3=((val a3*val b3:Nat):Int) by rw[G1,G1];simp,Rat.divInt_ofNat]at hR;rw[show zv false a3*zv false b3=((val a3*val b3:Nat):Int) by rw[G1,G1];simp]at qo;refine Ev.x N.TR rfl rfl ?_;(repeat' ((first|apply A7|refine AY (ek) ?_|refine AY (db) ?_|refine AY (kj _ _) ?_|refine AY (qm _ _) ?_|refine AY (hA _ _) ?_|refine AY (qo _ _) ?_|refine AY (hR _ _) ?_)<;>conv=>whnf))
 exact BU rfl (G7 _)
theorem AfS (N:a8 L) (k:Nat) (hk:1<=k/\k<=68719476736) (n1 n2 q2 q4:Bool) (m1 d1 m2 d2:List Nat) (lg:Sm k m1) (nt:Sm k d1) (je:Sm k m2) (rb:Sm k d2) :
  Ev L 128 [.agg (rQ false q2 n1 m1 d1),.agg (rQ false q4 n2 m2 d2)] (.agg (eQ (qv n1 m1 d1*qv n2 m2 d2))):=by
 obtain ⟨a1,a2,a3,ek,s1,s2,s3,s5⟩:=YM N n1 q2 m1 d1 k (by omega) lg nt;obtain ⟨b1,b2,b3,db,t1,t2,t3,t5⟩:=YM N n2 q4 m2 d2 k (by omega) je rb;have l1:=s1.2;have l2:=s2.2;have l3:=t1.2;have l4:=t2.2;rw[s5,t5,pH];have kj:=λ q q'=>YN N a1 b1 q q' a2 b2 s1.1 t1.1 (by omega)
 have qo:=λ q q'=>YN N false false q q' a3 b3 s2.1 t2.1 (by omega)
 have g1:Sm (k+k) (dg (zv a1 a2*zv b1 b2).natAbs):=Y8 s1 t1;have g4:Sm (k+k) (dg (zv false a3*zv false b3).natAbs):=Y8 s2 t2;have hR:=λ q q'=>gV N (decide (zv a1 a2*zv b1 b2<0)) (decide (zv false a3*zv false b3<0)) q q' _ _ (g1.le (by omega)) (g4.le (by omega))
 rw[IG,IG,show zv false a3*zv false b3=((val a3*val b3:Nat):Int) by rw[G1,G1];simp,Rat.divInt_ofNat]at hR;rw[show zv false a3*zv false b3=((val a3*val b3:Nat):Int) by rw[G1,G1];simp]at qo;refine Ev.x N.TU rfl rfl ?_;(repeat' ((first|apply A7|refine AY (ek) ?_|refine AY (db) ?_|refine AY (kj _ _) ?_|refine AY (qo _ _) ?_|refine AY (hR _ _) ?_)<;>conv=>whnf))
 exact BU rfl (G7 _)
theorem zZ {a b:Int} {d e:Nat} (hd:d≠0) (he:e≠0):u6 (a*e-b*d)=u6 (mkRat a d-mkRat b e).num:=by
 have h:mkRat a d-mkRat b e=mkRat (a*e-b*d) (d*e):=by
  rw[Rat.sub_eq_add_neg,Rat.neg_mkRat,iF hd he,Int.neg_mul,<-Int.sub_eq_add_neg]
 rw[h,Nw (Nat.mul_ne_zero hd he)]
theorem AfR (N:a8 L) (k:Nat) (hk:1<=k/\k<=68719476736) (n1 n2 q2 q4:Bool) (m1 d1 m2 d2:List Nat) (lg:Sm k m1) (nt:Sm k d1) (je:Sm k m2) (rb:Sm k d2) :
  Ev L 127 [.agg (rQ false q2 n1 m1 d1),.agg (rQ false q4 n2 m2 d2)] (.int .i64 (u6 (qv n1 m1 d1-qv n2 m2 d2).num)):=by
 obtain ⟨a1,a2,a3,ek,s1,s2,s3,s5⟩:=YM N n1 q2 m1 d1 k (by omega) lg nt;obtain ⟨b1,b2,b3,db,t1,t2,t3,t5⟩:=YM N n2 q4 m2 d2 k (by omega) je rb;have l1:=s1.2;have l2:=s2.2;have l3:=t1.2;have l4:=t2.2;rw[s5,t5,<-zZ s3 t3,<-G1 b3,<-G1 a3];have kj:=λ q q'=>YN N a1 false q q' a2 b3 s1.1 t2.1 (by omega)
 have qm:=λ q q'=>YN N b1 false q q' b2 a3 t1.1 s2.1 (by omega)
 have g1:Sm (k+k) (dg (zv a1 a2*zv false b3).natAbs):=Y8 s1 t2;have g2:Sm (k+k) (dg (zv b1 b2*zv false a3).natAbs):=Y8 t1 s2;have hC:=λ q q'=>AfN N (decide (zv a1 a2*zv false b3<0)) (decide (zv b1 b2*zv false a3<0)) q q' _ _ (g1.le (by omega)) (g2.le (by omega))
 rw[IG,IG]at hC;refine Ev.x N.TS rfl rfl ?_;(repeat' ((first|apply A7|refine AY (ek) ?_|refine AY (db) ?_|refine AY (kj _ _) ?_|refine AY (qm _ _) ?_|refine AY (hC _ _) ?_)<;>conv=>whnf))
 exact DY rfl
theorem Bt.pg {k:Nat} {x:Rat} (h:Bt k x) (hk:k<2199023255552):Sm 68719476736 (dg x.num.natAbs)/\Sm 68719476736 (dg x.den):=h.Rc (by omega)
theorem vZ (N:a8 L) {x y:Rat} {k l:Nat} (hx:Bt k x) (hy:Bt l y) (hk:k<2199023255552) (hl:l<2199023255552):Ev L 126 [.agg (eQ x),.agg (eQ y)] (.agg (eQ (x+y))):=by
 have:=AfQ N 68719476736 (by omega) (decide (x.num<0)) (decide (y.num<0)) false false _ _ _ _ (hx.pg hk).1 (hx.pg hk).2 (hy.pg hl).1 (hy.pg hl).2
 rw[IV,IV]at this;exact this
theorem wI (N:a8 L) {x y:Rat} {k l:Nat} (hx:Bt k x) (hy:Bt l y) (hk:k<2199023255552) (hl:l<2199023255552):Ev L 128 [.agg (eQ x),.agg (eQ y)] (.agg (eQ (x*y))):=by
 have:=AfS N 68719476736 (by omega) (decide (x.num<0)) (decide (y.num<0)) false false _ _ _ _ (hx.pg hk).1 (hx.pg hk).2 (hy.pg hl).1 (hy.pg hl).2
 rw[IV,IV]at this;exact this
theorem Aga (N:a8 L) {x:Rat} {k:Nat} (hx:Bt k x) (hk:k<2199023255552):Ev L 123 [.agg (eQ x)] (.agg (eQ x)):=by
 have:=AfT N (decide (x.num<0)) false _ _ ((hx.pg hk).1.le (by omega)) ((hx.pg hk).2.le (by omega))
 rw[IV]at this;exact this
theorem YJ (N:a8 L) {x y:Rat} {k l:Nat} (hx:Bt k x) (hy:Bt l y) (hk:k<2199023255552) (hl:l<2199023255552):Ev L 127 [.agg (eQ x),.agg (eQ y)] (.int .i64 (u6 (x-y).num)):=by
 have:=AfR N 68719476736 (by omega) (decide (x.num<0)) (decide (y.num<0)) false false _ _ _ _ (hx.pg hk).1 (hx.pg hk).2 (hy.pg hl).1 (hy.pg hl).2
 rw[IV,IV]at this;exact this
theorem jG {x y:Rat}:u6 (x-y).num=0↔x=y:=by
 have h:u6 (x-y).num=0↔(x-y).num=0:=by unfold u6;split<;>(try split)<;>omega
 rw[h,Rat.num_eq_zero];constructor
 ·intro h;grind
 ·rintro rfl;exact Rat.sub_self
theorem ZW (N:a8 L) (a b:List Rat) (q1 q2:Bool) (k:Nat) (ha:Bs k a) (hb:Bs k b) (hk:k<2199023255552) (hl:a.length<=1099511627776):Ev L 129 [.sl q1 (a.map eQ),.sl q2 (b.map eQ)] (.bool (decide (a=b))):=by
 refine Ev.x N.UB rfl rfl ?_;by_cases hlen:a.length=b.length
 ·(repeat' ((first|(apply BB<;>intro hc<;>try omega)|apply BR|apply A7)<;>conv=>whnf))
  refine HC (λ i=>a.length-i) (λ(i:Nat)=>i<=a.length/\a.take i=b.take i) (λ i=>[(5,.int .i64 i)]) (λ_=>[]) 0 ⟨by omega,rfl⟩ ?_;intro i ⟨p1,p2⟩ ih;by_cases hi:i<a.length
  ·obtain ⟨x,hx⟩ : ∃ x,a[i]? = some x:=⟨_,zE hi⟩
   obtain ⟨y,hy⟩ : ∃ y,b[i]? = some y:=⟨_,zE (by omega)⟩;have Hk:a[(i:Int).toNat]? = some x:=hx;have Dh:b[(i:Int).toNat]? = some y:=hy;have Rj:=YJ N (ha.at hx) (hb.at hy) hk hk;have hs:=jG (x:=x) (y:=y);generalize u6 (x-y).num=sg at *;by_cases nk:x=y
   ·have h0:sg=0:=hs.2 nk
    (repeat' ((first|(apply BB<;>intro hc<;>try omega)|(apply BS;omega)|apply BR|(refine CT (by assumption) ?_ rfl ?_;omega)|apply A7|refine AY (Rj) ?_)<;>conv=>whnf))
    refine C5 [] (by (conv=>whnf);exact ⟨rfl,rfl,rfl⟩) (ih (i+1) (by omega) ⟨by omega,?_⟩);rw[List.take_add_one,List.take_add_one,p2,hx,hy,nk]
   ·have m7:sg≠0:=λ h=>nk (hs.1 h)
    (repeat' ((first|(apply BB<;>intro hc<;>try omega)|apply BR|(refine CT (by assumption) ?_ rfl ?_;omega)|apply A7|refine AY (Rj) ?_)<;>conv=>whnf))
    refine QF (λ h=>nk ?_);rw[h,hy]at hx;exact (Option.some.inj hx).symm
  ·obtain rfl:i=a.length:=by omega
   clear ih;(repeat' ((first|(apply BB<;>intro hc<;>try omega)|apply BR|apply A7)<;>conv=>whnf))
   refine VY ?_;rw[zT (Nat.le_refl _),zT (by omega)]at p2;exact p2
 ·(repeat' ((first|(apply BB<;>intro hc<;>try omega)|apply BR|apply A7)<;>conv=>whnf))
  exact QF (λ h=>hlen (by rw[h]))
theorem AfF (N:dh L) {x:Rat} {k:Nat} (hx:Bt k x) (hk:k<2199023255552):Ev L 152 [.agg (eQ x)] (.agg (eQ (-x))):=by
 have hT:=Aga N.toa8 hx hk;have hN:=λ q=>nJ N.toa8 (decide (x.num<0)) q (dg x.num.natAbs) ((hx.pg hk).1.le (by omega))
 rw[IG]at hN;refine Ev.x N.TV rfl rfl ?_;(repeat' ((first|apply A7|refine AY (hT) ?_|refine AY (hN _) ?_)<;>conv=>whnf))
 refine BU ?_ (G7 _);show _=AV.agg (rQ _ _ _ _ _);rw[Rat.neg_num,Rat.neg_den]
def OB (l:List Rat):Nat->Nat
 | 0=>0
 | n+1=>if l.getD n 0=0 then OB l n else n+1
theorem cJ (l:List Rat) : ∀ n,OB l n<=n
 | 0=>Nat.le_refl _
 | n+1=>by rw[OB];split;exact Nat.le_succ_of_le (cJ l n);exact Nat.le_refl _
def VW (l:List Rat):List Rat:=l.take (OB l l.length)
theorem Qv (l:List Rat):(VW l).length=OB l l.length:=by rw[VW,List.length_take];exact Nat.min_eq_left (cJ _ _)
end Go.e6

namespace Go.e6
open F
attribute [local irreducible] AH A8 BT A5 EW BJ CS CR EU DK EE II C8 B5 DB FG AP CG BF pw HE FL HO HG HN G2 G5 DG FF
set_option maxHeartbeats 4000000
variable {L:Lib}
abbrev mO (v:List Nat) (j m s xl:Nat):Tm:=[(102,AV.sl false (List.map BG v)),(101,AV.row 71012 0 1 j (v.length+1)),
           (100,AV.int IntKind.i64 (↑j + ↑v.length+1)),(99,AV.int IntKind.i64 (↑j + ↑v.length)),
           (98,AV.int IntKind.i64 ↑v.length),(97,AV.int IntKind.i64 ↑j),(96,AV.int IntKind.i64 ↑j),
           (95,AV.row 71012 0 1 0 (xl+1)),(94,AV.int IntKind.i64 ↑j),(93,AV.row 28 0 1 0 m),
           (90,AV.bool true),(14,AV.int IntKind.i64 ↑j),(13,AV.sl false (List.map BG v)),
           (12,AV.row 71012 0 1 0 (xl+1)),(11,AV.int IntKind.u64 ↑s),(7,AV.row 28 0 1 0 m),
           (6,AV.int IntKind.i64 ↑v.length)]
abbrev AeU:List It:=[It.lp JO.l2,It.e7 2,It.code
      (((CP.ops JO.fw false).dr [9,10,84,85,86,87,118,119,120,121,122,123,124,125,126]
         []).seq
       (((CP.ops JO.jz false).dr [127,128,129,130,131] []).seq
        ((((CP.ops JO.kv false).dr [15,132,133] []).seq
           (CP.cond 134
            (((CP.ops JO.nz false).dr [0,1,5,7,134,135,136] []).seq CP.ret)
            CP.skip)).seq
         (((CP.ops JO.ta false).dr [134] []).seq
          ((((CP.ops JO.td false).dr [1] []).seq (CP.block 4 JO.l3.loop)).seq
           (((CP.ops JO.Hp false).dr
              [0,5,9,137,138,139,140,162,163,164,165,166,167,168,169] []).seq
            (((CP.ops JO.Hq false).dr [7,170,171,172] []).seq CP.ret)))))))]
section
variable {A W C w v:List Nat} {j m s xl q:Nat} {K:AV->Mem->Prop}
theorem mK (hA:A.length=j) (hW:W.length=v.length+1) (D2:BZ W) (fi:BZ v) (gm:2<=v.length) (vh:v.length<=549755813888) (bg:0<val v)
  (r1:q<4294967296) (r2:val W/val v<=q) (r3:q<=val W/val v+1)
  (hk : ∀ (W':List Nat) (o':List (List AV)) (q':Nat),W'.length=v.length+1->BZ W'->val W'=val W%val v->q'=val W/val v->K (.int .u32 (q':Int)) [(71012,71012,.rw 1 ((A++W'++C).map BG)),(28,28,.rw 1 (w.map BG)),(71012,71012,.rw 1 o')])
  (se : ∀ (W':List Nat) (o':List (List AV)) (q':Nat),W'.length=v.length+1->BZ W'->val W'=val W%val v->q'=val W/val v->K (.int .u32 (q':Int)) [(71012,71012,.rw 1 ((A++W'++C).map BG)),(71012,71012,.rw 1 o'),(28,28,.rw 1 (w.map BG))]) :
  AH L AeU ([(86,.int .i64 0),(85,.int .i64 v.length),(84,.sl false (v.map BG)),(10,.int .u64 0),(9,.int .u64 0),(7,.int .u64 (q:Int)),(5,.int .i64 v.length),(0,AV.row 71012 0 1 j (v.length+1)),(1,AV.sl false (List.map BG v))]++J0 1000 (mO v j m s xl))
   [(71012,71012,B6.rw 1 (List.map BG (A++W++C))),(28,28,B6.rw 1 (List.map BG w))] (sO 1000 JO (mO v j m s xl) K):=by
 refine rS (λ i _ _ _=>v.length-i) (λ(i:Nat) (Z:List Nat) (c b:Nat)=>i<=v.length/\Z.length=v.length+1/\BZ Z/\c<4294967296/\b<=1/\Z.drop i=W.drop i/\val (Z.take i)+q*val (v.take i)=val (W.take i)+4294967296^i*(c+b)) (λ i Z c b=>[(86,.int .i64 i),(10,.int .u64 (b:Int)),(9,.int .u64 (c:Int))]) (λ i Z c b=>[(71012,71012,.rw 1 ((A++Z++C).map BG))]) [] [] 0 W 0 0 (by (conv=>whnf);exact ⟨rfl,rfl,rfl⟩) ⟨by omega,hW,D2,by omega,by omega,rfl,by simp [val]⟩ ?_;intro i Z c b ⟨p1,p2,p3,p4,p5,p6,p7⟩ ih;by_cases hi:i<v.length
 ·obtain ⟨d,hd⟩ : ∃ d,v[i]? = some d:=⟨_,zE hi⟩
  obtain ⟨u,hu⟩ : ∃ u,Z[i]? = some u:=⟨_,zE (by omega)⟩;have du:=fi.at hd;have rk:=p3.at hu;obtain ⟨pr,sf⟩ : ∃ pr,pr=q*d+c:=⟨_,rfl⟩;obtain ⟨m1,m2,m3⟩:=Oa r1 du p4 sf;have wy:W[i]? = some u:=by
   have e1:(Z.drop i)[0]? = (W.drop i)[0]? := by rw[p6]
   simpa [hu] using e1.symm
  (repeat' ((first|(apply BB<;>intro hc<;>try omega)|(apply B7;omega)|(apply JS;omega)|(apply V0;omega)|apply IK|(apply DL;omega)|(refine CT (by assumption) ?_ rfl ?_;omega)|apply A7)<;>conv=>whnf))
  rw[<-sf];refine W0 i hu (by omega) ?_;(conv=>whnf)
  (repeat' ((first|(apply B7;omega)|(apply fH;omega)|(apply DL;omega)|apply JL)<;>conv=>whnf))
  obtain ⟨s1,s2⟩:=jV rk (show pr%4294967296<4294967296 by omega) p5;have m9:=AhG p7 sf rfl rk p5;generalize GZ (GZ u (pr%4294967296)) b=t at *;refine U5 i (by omega) (by omega) ?_;(conv=>whnf)
  (repeat' ((first|(apply BS;omega)|apply fG)<;>conv=>whnf))
  refine C5 [] (by (conv=>whnf);exact ⟨rfl,rfl,rfl⟩) (ih (i+1) _ _ _ (by omega) ⟨by omega,by simpa using p2,p3.set _ (by omega),m1,s2,?_,?_⟩)
  ·rw[List.drop_set_of_lt (by omega)]
   have e1:(Z.drop i).drop 1=(W.drop i).drop 1:=by rw[p6]
   simpa using e1
  ·rw[JQ (by omega),GD hd,GD wy,Nat.pow_succ]
   exact m9
 ·obtain rfl:i=v.length:=by omega
  clear ih;obtain ⟨u,hu⟩ : ∃ u,Z[v.length]? = some u:=⟨_,zE (by omega)⟩;have rk:=p3.at hu;have wy:W[v.length]? = some u:=by
   have e1:(Z.drop v.length)[0]? = (W.drop v.length)[0]? := by rw[p6]
   simpa [hu] using e1.symm
  rw[E9 (Nat.le_refl v.length)]at p7;obtain ⟨s1,s2⟩:=jV rk p4 p5;have m9:=AhE p7 rfl rk p4 p5;have eW:val W=val (W.take v.length)+4294967296^v.length*u:=by
   rw[<-GD wy,E9 (by omega)]
  rw[<-eW,<-JQ (show v.length<Z.length by omega),E9 (by simp;omega)]at m9;(repeat' ((first|(apply BB<;>intro hc<;>try omega)|(apply B7;omega)|apply A7)<;>conv=>whnf))
  refine W0 v.length hu (by omega) ?_;(conv=>whnf)
  (repeat' ((first|(apply B7;omega)|(apply fH;omega)|(apply DL;omega)|apply JL)<;>conv=>whnf))
  generalize GZ (GZ u c) b=t at *;refine U5 v.length (by omega) (by omega) ?_;(conv=>whnf)
  (repeat' ((first|(apply BB<;>intro hc<;>try omega)|apply fG|(apply GP;omega)|apply BR)<;>conv=>whnf))
  ·have ht0:t/9223372036854775808=0:=by omega
   rw[ht0,Nat.mul_zero,Nat.add_zero]at m9;obtain ⟨y1,y2⟩:=vA bg r2 m9;exact ⟨rfl,_,rfl,hk _ _ _ (by simpa using p2) (p3.set _ (by omega)) y2 y1⟩
  ·have Sq:t/9223372036854775808=1:=by omega
   rw[Sq,Nat.mul_one]at m9;have Ek:BZ (Z.set v.length (t%4294967296)):=p3.set _ (by omega);have Co:(Z.set v.length (t%4294967296)).length=v.length+1:=by simpa using p2
   clear p7 p6 p4 p5 s1 s2 eW Sq hu wy rk p1 p2 p3;generalize Z.set v.length (t%4294967296)=X at *;have Cm:=HS Ek;rw[Co,Nat.pow_succ]at Cm;obtain ⟨y1,y2,y3⟩:=uZ bg r3 Cm m9;have hRV:val W%val v<val v:=Nat.mod_lt _ bg;have Av:=HS fi;obtain ⟨xw,Ca⟩ : ∃ xw,X[v.length]? = some xw:=⟨_,zE (by omega)⟩;have eX:val X=val (X.take v.length)+4294967296^v.length*xw:=by
    rw[<-GD Ca,E9 (by omega)]
   refine J1 (λ i _ _=>v.length-i) (λ(i:Nat) (Z:List Nat) (c:Nat)=>i<=v.length/\Z.length=v.length+1/\BZ Z/\c<=1/\Z.drop i=X.drop i/\val (Z.take i)+4294967296^i*c=val (X.take i)+val (v.take i)) (λ i Z c=>[(139,.int .i64 i),(9,.int .u64 (c:Int))]) (λ i Z c=>[(71012,71012,.rw 1 ((A++Z++C).map BG))]) 0 X 0 ⟨by omega,Co,Ek,by omega,rfl,by simp [val]⟩ ?_;intro i Z c ⟨p1,p2,p3,p4,p6,p7⟩ ih;by_cases hi:i<v.length
   ·obtain ⟨d,hd⟩ : ∃ d,v[i]? = some d:=⟨_,zE hi⟩
    obtain ⟨u,hu⟩ : ∃ u,Z[i]? = some u:=⟨_,zE (by omega)⟩;have du:=fi.at hd;have rk:=p3.at hu;have mc:X[i]? = some u:=by
     have e1:(Z.drop i)[0]? = (X.drop i)[0]? := by rw[p6]
     simpa [hu] using e1.symm
    have Cp:=sX (d:=d) (w:=u) p7 rfl;(repeat' ((first|(apply BB<;>intro hc<;>try omega)|(apply B7;omega)|(refine CT (by assumption) ?_ rfl ?_;omega)|apply A7)<;>conv=>whnf))
    refine W0 i hu (by omega) ?_;(conv=>whnf)
    (repeat' ((first|(apply B7;omega)|(apply JS;omega)|(apply DL;omega)|apply JL)<;>conv=>whnf))
    generalize ht2:u+d+c=t2 at *;refine U5 i (by omega) (by omega) ?_;(conv=>whnf)
    (repeat' ((first|(apply BS;omega)|apply IK)<;>conv=>whnf))
    refine C5 [] (by (conv=>whnf);exact ⟨rfl,rfl,rfl⟩) (ih (i+1) _ _ (by omega) ⟨by omega,by simpa using p2,p3.set _ (by omega),by omega,?_,?_⟩)
    ·rw[List.drop_set_of_lt (by omega)]
     have e1:(Z.drop i).drop 1=(X.drop i).drop 1:=by rw[p6]
     simpa using e1
    ·rw[JQ (by omega),GD hd,GD mc,Nat.pow_succ]
     exact Cp
   ·obtain rfl:i=v.length:=by omega
    clear ih;obtain ⟨u,hu⟩ : ∃ u,Z[v.length]? = some u:=⟨_,zE (by omega)⟩;have rk:=p3.at hu;have mc:X[v.length]? = some u:=by
     have e1:(Z.drop v.length)[0]? = (X.drop v.length)[0]? := by rw[p6]
     simpa [hu] using e1.symm
    rw[mc]at Ca;obtain rfl:u=xw:=by simpa using Ca
    rw[E9 (Nat.le_refl v.length)]at p7;have El:=HS (p3.take v.length);rw[List.length_take,Nat.min_eq_left (by omega)]at El;rw[eX]at y3;have ga:=sW p7 y3 (by omega) El;rw[<-JQ (show v.length<Z.length by omega),E9 (by simp;omega)]at ga;(repeat' ((first|(apply BB<;>intro hc<;>try omega)|(apply B7;omega)|apply A7)<;>conv=>whnf))
    refine W0 v.length hu (by omega) ?_;(conv=>whnf)
    (repeat' ((first|(apply B7;omega)|apply sI|(apply GP;omega))<;>conv=>whnf))
    refine U5 v.length (by omega) (by omega) ?_;(conv=>whnf)
    (repeat' ((first|(apply PB;omega;omega)|(apply GP;omega))<;>conv=>whnf))
    exact ⟨rfl,_,rfl,se _ _ _ (by simpa using p2) (p3.set _ (by omega)) ga y1⟩
theorem Zi (N:c6 L) (hA:A.length=j) (hW:W.length=v.length+1) (D2:BZ W) (fi:BZ v) (gm:2<=v.length) (vh:v.length<=549755813888) (bg:0<val v)
  (n2:4294967296^(v.length-1)*2147483648<=val v) (g2:val W<4294967296*val v)
  (hk : ∀ (W':List Nat) (o':List (List AV)) (q':Nat),W'.length=v.length+1->BZ W'->val W'=val W%val v->q'=val W/val v->K (.int .u32 (q':Int)) [(71012,71012,.rw 1 ((A++W'++C).map BG)),(28,28,.rw 1 (w.map BG)),(71012,71012,.rw 1 o')])
  (se : ∀ (W':List Nat) (o':List (List AV)) (q':Nat),W'.length=v.length+1->BZ W'->val W'=val W%val v->q'=val W/val v->K (.int .u32 (q':Int)) [(71012,71012,.rw 1 ((A++W'++C).map BG)),(71012,71012,.rw 1 o'),(28,28,.rw 1 (w.map BG))]) :
  CG L 73 [AV.row 71012 0 1 j (v.length+1),AV.sl false (List.map BG v)] (mO v j m s xl) [(71012,71012,B6.rw 1 (List.map BG (A++W++C))),(28,28,B6.rw 1 (List.map BG w))] K:=by
 obtain ⟨UL,a1,a2⟩:=kC D2 (n:=v.length+1) (by omega) (by omega);obtain ⟨VL,b5,b6⟩:=Ph fi (n:=v.length) gm (by omega);obtain ⟨u0,w0⟩ : ∃ d,W[v.length]? = some d:=⟨_,zE (by omega)⟩;obtain ⟨u1,w1⟩ : ∃ d,W[v.length-1]? = some d:=⟨_,zE (by omega)⟩;obtain ⟨u2,w2⟩ : ∃ d,W[v.length-2]? = some d:=⟨_,zE (by omega)⟩;obtain ⟨f1,x1⟩ : ∃ d,v[v.length-1]? = some d:=⟨_,zE (by omega)⟩;obtain ⟨f2,x2⟩ : ∃ d,v[v.length-2]? = some d:=⟨_,zE (by omega)⟩;rw[show v.length+1-3=v.length-2 by omega,show v.length+1-2=v.length-1 by omega,show v.length+1-1=v.length by omega,KD w0,KD w1,KD w2]at a2;rw[show v.length+1-3=v.length-2 by omega]at a1;rw[KD x1,KD x2]at b6;have ug:=Qu fi (k:=v.length-1) (by omega) n2 x1;have k0:=D2.at w0;have k1:=D2.at w1;have k2:=D2.at w2;have k3:=fi.at x1;have k4:=fi.at x2;have z1:v[((v.length:Int)-1).toNat]? = some f1:=by rw[show ((v.length:Int)-1).toNat=v.length-1 by omega];exact x1
 have z2:v[((v.length:Int)-2).toNat]? = some f2:=by rw[show ((v.length:Int)-2).toNat=v.length-2 by omega];exact x2
 refine OO 1000 N.JO rfl rfl ?_;(repeat' ((first|(apply B7;omega)|apply BR|apply A7)<;>conv=>whnf))
 refine W0 v.length w0 (by omega) ?_;(conv=>whnf)
 (repeat' ((first|(apply B7;omega)|(apply DC;omega)|(apply U3;omega)|(apply DL;omega))<;>conv=>whnf))
 refine W0 (v.length-1) w1 (by omega) ?_;(conv=>whnf)
 refine rY (by omega) ?_;(conv=>whnf)
 refine V2 (by omega) ?_;(conv=>whnf)
 generalize Kz:u0*4294967296+u1=top at *;have Fy:top<=18446744073709551615:=by omega
 have hU:val W=UL+4294967296^(v.length-2)*(u2+4294967296*top):=by rw[a2,show u1+4294967296*u0=top by omega]
 (repeat' ((first|(apply DC;omega)|(apply bH;omega)|(apply fE;omega;omega)|(apply DL;omega)|(refine CT (by assumption) ?_ rfl ?_;omega))<;>conv=>whnf))
 refine eR (λ q _=>q) (λ(q r:Nat)=>Gs (val W) (val v) f1 f2 u2 top q r) (λ q r=>[(7,.int .u64 (q:Int)),(8,.int .u64 (r:Int))]) (λ_ _=>[]) [] [] (top/f1) (top%f1) (by (conv=>whnf);exact ⟨rfl,rfl,rfl⟩) (Gs.start hU b6 a1 k2 bg (by omega) k3) ?_;intro q r g kg;have hqt:q<=top:=by
  have h3:=g.hq;have h4:q*1<=q*f1:=Nat.mul_le_mul_left q (by omega);omega
 have hr:=g.hr;have mz:=g.ge;by_cases hb:4294967296<=q
 ·obtain ⟨y1,y2,y3⟩:=g.next hU b6 a1 bg g2 (Or.inl hb)
  (repeat' ((first|(apply BB<;>intro hc<;>try omega)|(apply DC;omega)|(apply JS;omega)|(apply PB;omega;omega)|(apply DL;omega)|apply BR|(refine CT (by assumption) ?_ rfl ?_;omega)|apply A7)<;>conv=>whnf))
  ·obtain ⟨t1,t2⟩:=Z7 hU b6 b5 ug k4 g2 y2 (Or.inr (by omega))
   exact C5 [] (by (conv=>whnf);exact ⟨rfl,rfl,rfl⟩) (mK (w:=w) (C:=C) hA hW D2 fi gm vh bg t1 y3 t2 hk se)
  ·exact C5 [] (by (conv=>whnf);exact ⟨rfl,rfl,rfl⟩) (kg (q-1) (r+f1) (by omega) ⟨y2,by omega,y3⟩)
 ·have hmq:=aE (show q<4294967296 by omega) k4
  by_cases s8:r*4294967296+u2<q*f2
  ·obtain ⟨y1,y2,y3⟩:=g.next hU b6 a1 bg g2 (Or.inr s8)
   (repeat' ((first|(apply BB<;>intro hc<;>try omega)|(apply B7;omega)|(apply DC;omega)|(apply V0;omega)|(apply U3;omega)|(apply DL;omega)|(refine CT (by assumption) ?_ rfl ?_;omega)|apply A7)<;>conv=>whnf))
   refine W0 (v.length-2) w2 (by omega) ?_;(conv=>whnf)
   (repeat' ((first|(apply BB<;>intro hc<;>try omega)|(apply DC;omega)|(apply JS;omega)|(apply V2;omega)|(apply PB;omega;omega)|(apply DL;omega)|apply BR|(refine CT (by assumption) ?_ rfl ?_;omega))<;>conv=>whnf))
   ·obtain ⟨t1,t2⟩:=Z7 hU b6 b5 ug k4 g2 y2 (Or.inr (by omega))
    exact C5 [] (by (conv=>whnf);exact ⟨rfl,rfl,rfl⟩) (mK (w:=w) (C:=C) hA hW D2 fi gm vh bg t1 y3 t2 hk se)
   ·exact C5 [] (by (conv=>whnf);exact ⟨rfl,rfl,rfl⟩) (kg (q-1) (r+f1) (by omega) ⟨y2,by omega,y3⟩)
  ·obtain ⟨t1,t2⟩:=Z7 hU b6 b5 ug k4 g2 g.hq (Or.inl ⟨by omega,by omega⟩)
   (repeat' ((first|(apply BB<;>intro hc<;>try omega)|(apply B7;omega)|(apply DC;omega)|(apply V0;omega)|(apply U3;omega)|(apply DL;omega)|(refine CT (by assumption) ?_ rfl ?_;omega)|apply A7)<;>conv=>whnf))
   refine W0 (v.length-2) w2 (by omega) ?_;(conv=>whnf)
   (repeat' ((first|(apply BB<;>intro hc<;>try omega)|(apply V2;omega)|(apply DL;omega)|apply BR)<;>conv=>whnf))
   exact C5 [] (by (conv=>whnf);exact ⟨rfl,rfl,rfl⟩) (mK (w:=w) (C:=C) hA hW D2 fi gm vh bg t1 mz t2 hk se)
end
end Go.e6

namespace Go.e6
open F
attribute [local irreducible] AH A8 BT A5 EW BJ CS CR EU DK EE II C8 B5 DB FG AP CG BF pw HE FL HO HG HN G2 G5 DG FF
variable {L:Lib}
set_option maxHeartbeats 4000000
theorem AiR {V R y d t Q:Nat} (h:Q*y+R=V) (ht:t=R*4294967296+d):(t/y+4294967296*Q)*y+t%y=d+4294967296*V:=by
 have:=Nat.div_add_mod t y
 rw[<-h,Nat.add_mul];have e:t/y*y=y*(t/y):=Nat.mul_comm _ _;grind
theorem cF (a b:List Nat):B4 (.g8 [.sl false (a.map BG),.sl false (b.map BG)]):=by
 simp only[B4,DN,and_true,true_and];exact ⟨EI a,EI b⟩
set_option maxHeartbeats 4000000 in
theorem nG (N:c6 L) (X Y:Nat) (q1 q2:Bool) (hY:Y≠0) (lx:(dg X).length<=549755813888) (ly:(dg Y).length<=549755813888):Ev L 74 [.sl q1 ((dg X).map BG),.sl q2 ((dg Y).map BG)] (.g8 [.sl false ((dg (X/Y)).map BG),.sl false ((dg (X%Y)).map BG)]):=by
 have m5:=λ q q'=>WC N (dg X) (dg Y) q q' (GA X) (GA Y) (by omega) (by omega)
 rw[CX,CX]at m5;have d1:=GA X;have d2:=GA Y;have v1:=CX X;have v2:=CX Y;have hy1:=cO hY;refine Ev.x N.R7 rfl rfl ?_;by_cases l8:X<Y
 ·have hn:E4 X Y = -1:=(OU (by omega)).symm
  rw[hn]at m5;(repeat' ((first|(apply BB<;>intro hc<;>try omega)|apply A7|refine AY (m5 _ _) ?_|refine AY (vW N (dg X) _ (by omega)) ?_)<;>conv=>whnf))
  refine BU ?_ (cF _ _);rw[Nat.div_eq_of_lt l8,Nat.mod_eq_of_lt l8,HP];rfl
 have mz:0<=E4 X Y:=by unfold E4;split<;>(try split)<;>omega
 have xq:=XB (show Y<=X by omega);generalize E4 X Y=cm at *;by_cases h1:(dg Y).length=1
 ·-- one digit
  obtain ⟨y0,pc⟩ : ∃ y0,dg Y=[y0]:=List.length_eq_one_iff.1 h1;have wi:Y=y0:=by rw[<-v2,pc];simp [val]
  subst wi;have Di:Y<4294967296:=d2 Y (by rw[pc];simp);have hyg:(dg Y)[0]? = some Y:=by rw[pc];rfl
  clear pc v2;generalize dg Y=y at *;generalize hx:dg X=x at *;(repeat' ((first|(apply BB<;>intro hc<;>try omega)|(apply BS;omega)|(apply DC;omega)|apply BR|apply A7|refine AY (m5 _ _) ?_)<;>conv=>whnf))
  refine NQ (enc:=BG) 0 x.length rfl (by omega) (by omega) ?_;(conv=>whnf)
  (repeat' ((first|(apply BB<;>intro hc<;>try omega)|(apply DC;omega)|apply BR)<;>conv=>whnf))
  refine J1 (λ n _ _=>n) (λ(n:Nat) (o:List Nat) (r:Nat)=>n<=x.length/\o.length=x.length/\BZ o/\r<Y/\val (o.drop n)*Y+r=val (x.drop n)) (λ n o r=>[(8,.int .u64 (r:Int)),(9,.int .i64 ((n:Int)-1))]) (λ n o r=>[(28,28,.rw 1 (o.map BG))]) x.length (List.replicate x.length 0) 0 ⟨by omega,by simp,PG _,by omega,by rw[List.drop_of_length_le (Nat.le_refl _),List.drop_of_length_le (by simp)];simp [val]⟩ ?_;intro n o r ⟨p1,p2,p3,p4,p5⟩ ih;rcases n with _|n
  ·rw[List.drop_zero,List.drop_zero]at p5
   have hq:X/Y=val o/\X%Y=r:=by
    rw[<-v1,<-p5];have e1:(val o*Y+r)/Y=val o:=by
     rw[Nat.mul_comm,Nat.mul_add_div (by omega),Nat.div_eq_of_lt p4,Nat.add_zero]
    have e2:(val o*Y+r)%Y=r:=by
     rw[Nat.mul_comm,Nat.mul_add_mod,Nat.mod_eq_of_lt p4]
    exact ⟨e1,e2⟩
   rw[hq.1,hq.2,<-p2];clear ih hq p5;have jr:=HH p3;have ek:BZ [r]:=LE (by omega);have jd:=HH ek;have Hh:val [r]=r:=by simp [val]
   have Se:[r].length=1:=rfl;(repeat' ((first|(apply BB<;>intro hc<;>try omega)|(apply GP;omega)|apply A7|refine eT N (by assumption) (by omega) rfl (by first|rfl|omega|assumption) ?_)<;>conv=>whnf))
   refine N9 (enc:=BG) (λ_=>rfl) (by omega) ?_;(conv=>whnf)
   refine N9 (enc:=BG) (l:=[r]) (λ_=>rfl) (by omega) ?_;(conv=>whnf)
   refine BU ?_ (cF _ _);rw[List.drop_zero,List.drop_zero,eI p3,eI ek,Hh]
  ·have e1:((n+1:Nat):Int)-1=n:=by omega
   rw[e1];obtain ⟨d,hd⟩ : ∃ d,x[n]? = some d:=⟨_,zE (by omega)⟩;have du:=d1.at hd;have hYb:Y<4294967296:=Di;have hR:r*4294967296+d<Y*4294967296:=by omega
   have Kh:(r*4294967296+d)/Y<4294967296:=(Nat.div_lt_iff_lt_mul (by omega)).2 (by omega);(repeat' ((first|(apply BB<;>intro hc<;>try omega)|(apply B7;omega)|(apply U3;omega)|(apply V2;omega)|(apply fE;omega;omega)|(apply DL;omega)|(apply GP;omega)|(refine CT (by assumption) ?_ rfl ?_;omega)|apply A7)<;>conv=>whnf))
   obtain ⟨t,ht⟩ : ∃ t,t=r*4294967296+d:=⟨_,rfl⟩;rw[<-ht]at hR Kh ⊢;have hm:t%Y<Y:=Nat.mod_lt _ (by omega);have m9:=AiR p5 ht;rw[<-NH hd]at m9;clear ht;skip
   refine H9 (by omega) ?_;(conv=>whnf)
   (repeat' ((first|(apply DC;omega)|(apply bH;omega)|(apply DL;omega)|(refine CT (by assumption) ?_ rfl ?_;omega))<;>conv=>whnf))
   generalize t/Y=tq at *;generalize t%Y=tr at *;refine C5 [] (by (conv=>whnf);exact ⟨rfl,rfl,rfl⟩) (ih n _ _ (by omega) ⟨by omega,by simpa using p2,p3.set _ (by omega),hm,?_⟩);rw[NH (l:=o.set n tq) (d:=tq) (by rw[List.getElem?_set_self (by omega)]),List.drop_set_of_lt (by omega)];exact m9
 ·-- two digits or more
  have Jy:2<=(dg Y).length:=by omega
  obtain ⟨yt,yk,ym⟩:=mJ hY;have vi:=d2.at yk;obtain ⟨b1,b2,b3,b4⟩:=pD ym vi;have Fc:=vX N yt vi;generalize hs:32-o5 yt=s at *;have dn:s<=31:=by omega
  generalize dg Y=y at *;generalize hx:dg X=x at *;have e1:((y.length:Int)-1).toNat=y.length-1:=by omega
  rw[<-e1]at yk;obtain ⟨rv,Sn,v,hV,nj,Kp⟩:=AfC N y q2 s y.length d2 dn (by omega) (by omega);subst Kp;(repeat' ((first|(apply BB<;>intro hc<;>try omega)|(apply BS;omega)|(apply DC;omega)|apply BR|apply A7|refine AY (m5 _ _) ?_)<;>conv=>whnf))
  refine NQ (enc:=BG) 0 (x.length-y.length+1) rfl (by omega) (by omega) ?_;(conv=>whnf)
  (repeat' ((first|(apply BB<;>intro hc<;>try omega)|(apply BS;omega)|(apply DC;omega)|(apply DL;omega)|apply BR|(refine CT (by assumption) ?_ rfl ?_;omega)|refine AY (Fc) ?_)<;>conv=>whnf))
  refine OO 1000 N.PT rfl rfl ?_;(repeat' (apply A7<;>conv=>whnf))
  refine NQ (enc:=BG) 0 (x.length+1) rfl (by omega) (by omega) ?_;(conv=>whnf)
  (repeat' (apply BR<;>conv=>whnf))
  have si:=dT (s:=s) (by omega);refine J1 (λ i _ _=>x.length-i) (λ(i:Nat) (o:List Nat) (lo:Nat)=>i<=x.length/\o.length=x.length+1/\BZ o/\lo<2^s/\val (o.take i)+4294967296^i*lo=val (x.take i)*2^s) (λ i o lo=>[(8,.int .u32 (lo:Int)),(15,.int .i64 i)]) (λ i o lo=>[(71012,71012,.rw 1 (o.map BG))]) 0 (List.replicate (x.length+1) 0) 0 ⟨by omega,by simp,PG _,Nat.two_pow_pos s,by simp [val]⟩ ?_;intro i o lo ⟨p1,p2,p3,p4,p5⟩ ih;by_cases hi:i<x.length
  ·obtain ⟨d,hd⟩ : ∃ d,x[i]? = some d:=⟨_,zE hi⟩
   have du:=d1.at hd;obtain ⟨f1,f2,f3,f4⟩:=Y5 (s:=s) du (by omega);(repeat' ((first|(apply BB<;>intro hc<;>try omega)|(refine CT (by assumption) ?_ rfl ?_;omega)|apply A7)<;>conv=>whnf))
   refine sL (by omega) ?_;(conv=>whnf)
   skip
   refine kR s f1 p4 (by omega) ?_;(conv=>whnf)
   (repeat' ((first|(apply B7;omega)|fail)<;>conv=>whnf))
   refine H9 (by omega) ?_;(conv=>whnf)
   (repeat' ((first|(apply DL;omega)|fail)<;>conv=>whnf))
   refine V7 (by omega) f4 ?_;(conv=>whnf)
   (repeat' ((first|(apply BS;omega)|apply IK|(apply GP;omega))<;>conv=>whnf))
   rw[<-Y4];refine C5 [] (by (conv=>whnf);exact ⟨rfl,rfl,rfl⟩) (ih (i+1) _ _ (by omega) ⟨by omega,by simpa using p2,p3.set _ (by omega),f2,?_⟩);rw[JQ (by omega),GD hd,Nat.pow_succ];exact zK p5
  obtain rfl:i=x.length:=by omega
  clear ih;(repeat' ((first|(apply BB<;>intro hc<;>try omega)|(apply B7;omega)|apply BR|apply A7)<;>conv=>whnf))
  refine H9 (by omega) ?_;(conv=>whnf)
  skip
  have hU:=zJ p3 (by omega) p2 p5;have Cn:(o.set x.length lo).length=x.length+1:=by simpa using p2
  clear p3 p4 p5 p2;generalize o.set x.length lo=u at *;refine ⟨rfl,_,rfl,?_⟩;(conv=>whnf)
  (repeat' ((first|(apply DC;omega)|apply BR|refine AY (Sn) ?_)<;>conv=>whnf))
  have Le:y[y.length-1]? = some yt:=by rw[<-e1];exact yk
  obtain ⟨n1,n2⟩:=oW d2 Le (by omega) dn b3 b4;have Gt:val v=Y*2^s:=by rw[<-v2];exact hV.2.2 (by rw[nj];exact n1)
  have Gq:val u=X*2^s:=by
   rw[<-v1];refine hU.2.2 ?_;have h3:=HS d1;rw[Cn,Nat.pow_succ];exact Nat.lt_of_lt_of_le (Nat.mul_lt_mul_of_pos_right h3 (Nat.two_pow_pos s)) (Nat.mul_le_mul_left _ si)
  have fi:=hV.1;have Gm:=hU.1;have Aw:=HS fi;rw[v2,<-Gt]at n2;rw[<-nj]at n2;clear hV hU m5 Sn Fc;have gm:2<=v.length:=by omega
  have hvx:v.length<=x.length:=by omega
  have vh:v.length<=549755813888:=by omega
  have hxL:x.length<=549755813888:=by omega
  have hX:X<4294967296^x.length:=by rw[<-v1];exact HS d1
  rw[<-nj];generalize hm:x.length-v.length+1=m at *;have bg:0<val v:=by
   have:=Mj (v.length-1)
   omega
  have uj:val (u.drop m)<val v:=by
   have h1:=QB u m (by omega);rw[Gq]at h1;have h2:X*2^s<4294967296^x.length*2147483648:=Nat.lt_of_lt_of_le (Nat.mul_lt_mul_of_pos_right hX (Nat.two_pow_pos s)) (Nat.mul_le_mul_left _ (Nat.pow_le_pow_right (by omega) dn));have h3:4294967296^x.length=4294967296^m*4294967296^(v.length-1):=by rw[<-Nat.pow_add];congr 1;omega
   rw[h3,Nat.mul_assoc]at h2;refine Nat.lt_of_lt_of_le ?_ n2;refine Nat.lt_of_mul_lt_mul_left (a:=4294967296^m) ?_;omega
  have e2:(x.length:Int)-v.length=((m:Nat):Int)-1:=by omega
  rw[e2];refine J1 (λ n _ _=>n) (λ(n:Nat) (o w:List Nat)=>n<=m/\o.length=x.length+1/\BZ o/\w.length=m/\BZ w/\val (o.drop n)<val v/\X*2^s=val (o.take n)+4294967296^n*(val (w.drop n)*val v+val (o.drop n))) (λ n o w=>[(14,.int .i64 ((n:Int)-1))]) (λ n o w=>[(71012,71012,.rw 1 (o.map BG)),(28,28,.rw 1 (w.map BG))]) m u (List.replicate m 0) ⟨by omega,Cn,Gm,by simp,PG _,uj,by rw[<-Gq,List.drop_of_length_le (show (List.replicate m 0).length<=m by simp),O8,Nat.zero_mul,Nat.zero_add];exact QB u m (by omega)⟩ ?_;intro n o w ⟨p1,p2,p3,p4,p5,p6,p7⟩ ih;rcases n with _|j
  ·clear ih
   rw[List.drop_zero]at p6;rw[List.take_zero,List.drop_zero,List.drop_zero,O8,Nat.zero_add,Nat.pow_zero,Nat.one_mul]at p7;have ow:val o=val (o.take v.length):=by
    have h1:=ZC o v.length;rcases Nat.eq_zero_or_pos (val (o.drop v.length)) with h2|h2
    ·rw[h2,Nat.mul_zero,Nat.add_zero]at h1;exact h1
    ·have h3:4294967296^v.length*1<=4294967296^v.length*val (o.drop v.length):=Nat.mul_le_mul_left _ h2
     omega
   have wz:X/Y=val w/\X%Y=val o/2^s:=by
    obtain ⟨z1,z2⟩:=vB (X:=X) (Y:=Y) (Nat.two_pow_pos s);rw[<-z1,<-z2,<-Gt,p7];have e1:(val w*val v+val o)/val v=val w:=by
     rw[Nat.mul_comm,Nat.mul_add_div bg,Nat.div_eq_of_lt p6,Nat.add_zero]
    have e2:(val w*val v+val o)%val v=val o:=by
     rw[Nat.mul_comm,Nat.mul_add_mod,Nat.mod_eq_of_lt p6]
    rw[e1,e2];exact ⟨rfl,rfl⟩
   rw[wz.1,wz.2];have jr:=HH p5;obtain ⟨ro,Fu,o2,k1,k2,k3,k4⟩:=AfD N (o.take v.length) true s (p3.take _) dn (by rw[List.length_take];omega);subst k4;rw[ow,<-k3];have jd:=HH k1;rw[List.length_take]at k2;clear p7 wz uj;(repeat' ((first|(apply BB<;>intro hc<;>try omega)|apply A7|refine eT N (by assumption) (by omega) rfl (by first|rfl|omega|assumption) ?_)<;>conv=>whnf))
   refine NN v.length rfl (by omega) ?_;(conv=>whnf)
   refine N9 (enc:=BG) (λ_=>rfl) (by omega) ?_;(conv=>whnf)
   rw[List.drop_zero,Nat.sub_zero];(repeat' ((first|refine AY (Fu) ?_|refine QD (QS N o2 _ k1 (by omega)) ?_)<;>conv=>whnf))
   refine N9 (enc:=BG) (λ_=>rfl) (by omega) ?_;(conv=>whnf)
   refine BU ?_ (cF _ _);rw[List.drop_zero,eI p5]
  ·have e3:((j+1:Nat):Int)-1=j:=by omega
   rw[e3];have e4:(v.length:Int).toNat=v.length:=by omega
   obtain ⟨A,W,C,hA,hW,rfl⟩:=vO o j (v.length+1) (by omega);obtain ⟨g1,g2,g3⟩:=vQ hA hW p3 p6 Aw;obtain ⟨D1,D2,D3⟩:=uY p3;have Da:val W/val v<4294967296:=(Nat.div_lt_iff_lt_mul bg).2 g2;have Il:val W=val W/val v*val v+val W%val v:=by rw[Nat.mul_comm];exact (Nat.div_add_mod _ _).symm
   have hWl:val W%val v<val v:=Nat.mod_lt _ bg;have Au:X*2^s=val A+4294967296^j*val W+4294967296^j*4294967296*(val (w.drop (j+1))*val v):=by
    rw[p7,Nat.mul_add,<-g3,Nat.pow_succ];omega
   have qb:=vP Au Il;have yf : ∀ q',q'=val W/val v->val ((w.set j q').drop j)=val W/val v+4294967296*val (w.drop (j+1)):=λ q' h=>by
    rw[NH (l:=w.set j q') (d:=q') (by rw[List.getElem?_set_self (by omega)]),List.drop_set_of_lt (by omega),h]
   have hlen : ∀ W':List Nat,W'.length=v.length+1->(A++W'++C).length=x.length+1:=λ W' h=>by
    rw[<-p2];simp [h,hW]
   (repeat' ((first|(apply BB<;>intro hc<;>try omega)|(apply BS;omega)|(apply ON;omega)|apply A7)<;>conv=>whnf))
   rw[show ((j:Int)+v.length+1).toNat-(j:Int).toNat=v.length+1 by omega,show 0+(j:Int).toNat=j by omega];refine Zi N hA hW D2 fi gm vh bg n2 g2 (λ W' o' q' z1 z2 z3 z4 => ?_) (λ W' o' q' z1 z2 z3 z4 => ?_)
   ·(conv=>whnf)
    (repeat' ((first|(apply B7;omega)|fail)<;>conv=>whnf))
    refine H9 (by omega) ?_;(conv=>whnf)
    (repeat' ((first|(apply DC;omega)|fail)<;>conv=>whnf))
    obtain ⟨t1,t2⟩:=mP (A:=A) (W:=W') (C:=C) (j:=j) hA g1;refine C5 [] (by (conv=>whnf);exact ⟨rfl,rfl,rfl⟩) (ih j (A++W'++C) (w.set j q') (by omega) ⟨by omega,hlen W' z1,(D1.append z2).append D3,by simpa using p4,p5.set _ (by omega),by omega,?_⟩);rw[t1,t2,yf q' z4,z3];exact qb
   ·(conv=>whnf)
    (repeat' ((first|(apply B7;omega)|fail)<;>conv=>whnf))
    refine H9 (by omega) ?_;(conv=>whnf)
    (repeat' ((first|(apply DC;omega)|fail)<;>conv=>whnf))
    obtain ⟨t1,t2⟩:=mP (A:=A) (W:=W') (C:=C) (j:=j) hA g1;refine C5 [] (by (conv=>whnf);exact ⟨rfl,rfl,rfl⟩) (ih j (A++W'++C) (w.set j q') (by omega) ⟨by omega,hlen W' z1,(D1.append z2).append D3,by simpa using p4,p5.set _ (by omega),by omega,?_⟩);rw[t1,t2,yf q' z4,z3];exact qb
end Go.e6

namespace Go.e6
open F
attribute [local irreducible] AH A8 BT A5 EW BJ CS CR EU DK EE II C8 B5 DB FG AP CG BF pw HE FL HO HG HN G2 G5 DG FF
set_option maxHeartbeats 4000000
variable {L:Lib}
theorem sM {k':IntKind} {a:Int} {K:AV->Prop} (hk:K (.int .i64 (a/4294967296))):A5 .shr .i64 a k' 32 K:=by
 refine Vx (by omega) ?_;have:pw 32=4294967296:=by decide +kernel
 rw[this];exact hk
theorem rX {t:Int} {K:Int->Prop} (hk:K (cG t:Int)):BV .u32 t K:=by
 refine ⟨?_⟩;rw[IntKind.wrap_u32,<-lR];exact hk
section
variable {k':IntKind} {a b:Nat} {K:AV->Prop}
theorem Za {i:Nat} (hi:i<2) (ha:a<4294967296) (hk:K (.int .u64 ((a*4294967296^i:Nat):Int))):A5 .shl .u64 (a:Int) k' (32*(i:Int)) K:=by
 rcases i with _|_|i
 ·exact V7 (s:=0) (by omega) (by omega) hk
 ·exact V7 (s:=32) (by omega) (by omega) hk
 ·omega
end
theorem yR {x y M N:Int} (hx : -M<=x/\x<=M) (hy : -N<=y/\y<=N) : -(M*N)<=x*y/\x*y<=M*N:=by
 have h1:x.natAbs<=M.natAbs:=by omega
 have h2:y.natAbs<=N.natAbs:=by omega
 have h3:=Nat.mul_le_mul h1 h2;rw[<-Int.natAbs_mul,<-Int.natAbs_mul]at h3;have h4:0<=M*N:=Int.mul_nonneg (by omega) (by omega);omega
theorem gT (N:c6 L) (a b:List Nat) (q1 q2:Bool) (hA:BZ a) (hB:BZ b) (la:a.length<=549755813888) (lb:b.length<=549755813888) (h0:val b≠0) :
  Ev L 75 [.sl q1 (a.map BG),.sl q2 (b.map BG)] (.g8 [.sl false ((dg (val a/val b)).map BG),.sl false ((dg (val a%val b)).map BG),.int .i64 0]):=by
 have l1:=HH hA;have l2:=HH hB;have hp:=cO h0;refine Ev.x N.RY rfl rfl ?_;(repeat' ((first|(apply BB<;>intro hc<;>try omega)|apply BR|apply A7|refine QD (QS N a _ hA (by omega)) ?_|refine QD (QS N b _ hB (by omega)) ?_|refine AY (nG N _ _ _ _ h0 (by omega) (by omega)) ?_)<;>conv=>whnf))
 refine BU rfl ?_;simp only[B4,DN,and_true,true_and];exact ⟨EI _,EI _⟩
theorem wL (N:c6 L) (V:Nat) (q:Bool) (hl:(dg V).length<=2):Ev L 76 [.sl q ((dg V).map BG)] (.int .u64 (V:Int)):=by
 have hV:=VD.1 hl;have hD:=GA V;have hv:=CX V;refine Ev.x N.SB rfl rfl ?_;generalize dg V=l at *;(repeat' ((first|apply BR|apply A7)<;>conv=>whnf))
 refine PL (λ i _=>l.length-i) (λ(i:Nat) (a:Nat)=>i<=l.length/\a=val (l.take i)) (λ i a=>[(3,.int .u64 (a:Int)),(8,.int .i64 i)]) (λ_ _=>[]) 0 0 ⟨by omega,rfl⟩ ?_;intro i a ⟨p1,p2⟩ ih;by_cases hi:i<l.length
 ·obtain ⟨d,hd⟩ : ∃ d,l[i]? = some d:=⟨_,zE hi⟩
  have du:=hD.at hd;have h1:=GD hd;have h2:=HS (hD.take i);have h3:=HS (hD.take (i+1));rw[List.length_take,Nat.min_eq_left (by omega)]at h2 h3;have h4:4294967296^(i+1)<=4294967296^2:=Nat.pow_le_pow_right (by omega) (by omega);(repeat' ((first|(apply BB<;>intro hc<;>try omega)|(apply FU;omega)|(apply DL;omega)|(refine CT (by assumption) ?_ rfl ?_;omega)|apply A7)<;>conv=>whnf))
  refine Za (by omega) du ?_;(conv=>whnf)
  rw[Nat.mul_comm d];refine fD (32*i) (by rw[Nat.pow_mul];exact Nat.mul_mod_right _ _) (by rw[Nat.pow_mul,p2];exact h2) (by omega) ?_;(conv=>whnf)
  (repeat' ((first|(apply BS;omega)|fail)<;>conv=>whnf))
  exact C5 [] (by (conv=>whnf);exact ⟨rfl,rfl,rfl⟩) (ih (i+1) _ (by omega) ⟨by omega,by rw[h1,p2]⟩)
 ·obtain rfl:i=l.length:=by omega
  clear ih;(repeat' ((first|(apply BB<;>intro hc<;>try omega)|apply A7)<;>conv=>whnf))
  rw[E9 (Nat.le_refl _)]at p2;exact DY (by omega)
theorem kF {f:Nat} {vs:List AV} {tm:Tm} {M:Mem} {K:AV->Mem->Prop} {v:AV} (h:CG L f vs tm M (λ r M'=>r=v/\M'=M)) (hk:K v M):CG L f vs tm M K:=by
 unfold CG at h ⊢;intro σ own hs;obtain ⟨r,n0,σ',M',h1,h2,h3,rfl,rfl⟩:=h σ own hs;exact ⟨_,n0,σ',_,h1,h2,h3,hk⟩
theorem wK (N:c6 L) (a:List Nat) (q:Bool) (n s:Nat) (hD:BZ a) (hn:3<=n) (hl:a.length<=n) (Jy:n<=549755813888) (hs:s<=31) (l8:val a*2^s<4294967296^n) :
  Ev L 78 [.sl q (a.map BG),.int .i64 (n:Int),.int .u64 (s:Int)] (.int .i64 ((val a/Z8 n s:Nat):Int)):=by
 have b1:=XD hD (n-1);have b2:=XD hD (n-2);have b3:=XD hD (n-3);have ka:=yY hD hn hl rfl rfl l8;have heq:=yX (s:=s) hD hn hl hs rfl rfl rfl;obtain ⟨f1,f2,f3,f4⟩:=Y5 (s:=s) b3 (by omega);refine Ev.x N.R8 rfl rfl ?_;(repeat' ((first|(apply B7;omega)|(apply DC;omega)|apply A7)<;>conv=>whnf))
 refine kF (v := .int .u64 ((a.getD (n-1) 0:Nat):Int)) ?_ ?_
 ·refine OO 1000 N.OV rfl rfl ?_
  (repeat' ((first|(apply BB<;>intro hc<;>try omega)|(apply DL;omega)|apply BR|(refine W3 (by assumption) ?_ (λ e he hb => ?_);omega)|apply A7)<;>conv=>whnf))
  ·refine ⟨rfl,_,rfl,?_,rfl⟩
   rw[show ((n:Int)-1).toNat=n-1 by omega]at he;rw[KD he];rfl
  ·refine ⟨rfl,_,rfl,?_,rfl⟩
   rw[<-XF (show a.length<=n-1 by omega)];rfl
 (conv=>whnf)
 (repeat' ((first|(apply B7;omega)|(apply DC;omega)|(apply U3;omega))<;>conv=>whnf))
 refine kF (v := .int .u64 ((a.getD (n-2) 0:Nat):Int)) ?_ ?_
 ·refine OO 1000 N.OV rfl rfl ?_
  (repeat' ((first|(apply BB<;>intro hc<;>try omega)|(apply DL;omega)|apply BR|(refine W3 (by assumption) ?_ (λ e he hb => ?_);omega)|apply A7)<;>conv=>whnf))
  ·refine ⟨rfl,_,rfl,?_,rfl⟩
   rw[show ((n:Int)-2).toNat=n-2 by omega]at he;rw[KD he];rfl
  ·refine ⟨rfl,_,rfl,?_,rfl⟩
   rw[<-XF (show a.length<=n-2 by omega)];rfl
 (conv=>whnf)
 generalize a.getD (n-1) 0=d1 at *;generalize a.getD (n-2) 0=d2 at *;(repeat' ((first|(apply V2;omega)|fail)<;>conv=>whnf))
 refine V7 (by omega) ka ?_;(conv=>whnf)
 generalize hT:(d1*4294967296+d2)*2^s=T at *;(repeat' ((first|(apply B7;omega)|(apply DC;omega))<;>conv=>whnf))
 refine kF (v := .int .u64 ((a.getD (n-3) 0:Nat):Int)) ?_ ?_
 ·refine OO 1000 N.OV rfl rfl ?_
  (repeat' ((first|(apply BB<;>intro hc<;>try omega)|(apply DL;omega)|apply BR|(refine W3 (by assumption) ?_ (λ e he hb => ?_);omega)|apply A7)<;>conv=>whnf))
  ·refine ⟨rfl,_,rfl,?_,rfl⟩
   rw[show ((n:Int)-3).toNat=n-3 by omega]at he;rw[KD he];rfl
  ·refine ⟨rfl,_,rfl,?_,rfl⟩
   rw[<-XF (show a.length<=n-3 by omega)];rfl
 (conv=>whnf)
 generalize a.getD (n-3) 0=d3 at *;skip
 refine V7 (by omega) f4 ?_;(conv=>whnf)
 (repeat' (apply IK<;>conv=>whnf))
 rw[Y4]at f2;refine sK s (by rw[<-hT];exact Nat.mul_mod_left _ _) f2 (by have:=iH (k:=d1*4294967296+d2) (show s<=64 by omega) (by omega);omega) ?_;(conv=>whnf)
 (repeat' ((first|apply Yx|(apply PN;omega))<;>conv=>whnf))
 rw[heq];exact DY rfl
theorem AfA (N:c6 L) (P Q:Int) (hP:0<=P/\P<=4611686018427387904) (hQ:0<=Q/\Q<=4611686018427387904) : ∃ r,Ev L 79 [.int .i64 P,.int .i64 Q] r /\ ∃ a b c d:Int,(kH a b c d/\(-2147483647<=a/\a<=2147483647)/\(-2147483647<=b/\b<=2147483647)/\(-2147483647<=c/\c<=2147483647)/\(-2147483647<=d/\d<=2147483647))/\(b≠0->bG P Q a b c d)/\r = .g8 [.int .i64 a,.int .i64 b,.int .i64 c,.int .i64 d]:=by
 refine Ev.xE N.R5 rfl rfl ?_;(repeat' (apply A7<;>conv=>whnf))
 refine Uw (λ_ _ _ _ _ q=>(q+2147483648).toNat) (λ(a b c d p q:Int)=>X0 P Q a b c d p q/\((-2147483647<=a/\a<=2147483647)/\(-2147483647<=b/\b<=2147483647)/\(-2147483647<=c/\c<=2147483647)/\(-2147483647<=d/\d<=2147483647))/\(p<=4611686018427387904/\q<=4611686018427387904)/\ZL P Q a b c d/\(b≠0->bG P Q a b c d)) (λ a b c d p q=>[(0,.int .i64 p),(1,.int .i64 q),(4,.int .i64 a),(5,.int .i64 b),(6,.int .i64 c),(7,.int .i64 d)]) (λ_ _ _ _ _ _=>[]) [] [] 1 0 0 1 P Q (by (conv=>whnf);exact ⟨rfl,rfl,rfl⟩) ⟨X0.start hP.1 hQ.1,by omega,by omega,ZL.start P Q,λ h=>absurd rfl h⟩ ?_;intro a b c d p q ⟨p1,⟨⟨p2,p2'⟩,⟨p3,p3'⟩,⟨p4,p4'⟩,⟨p5,p5'⟩⟩,⟨p6,p7⟩,p8,p9⟩ ih;have g1:=p1.pa;have g2:=p1.pb;have g3:=p1.qc;have g4:=p1.qd;by_cases jn:q+c=0
 ·(repeat' ((first|(apply BB<;>intro hc<;>try omega)|(apply BS;omega)|apply A7)<;>conv=>whnf))
  refine ⟨.g8 [.int .i64 a,.int .i64 b,.int .i64 c,.int .i64 d],?_,a,b,c,d,⟨p1.sg,by omega⟩,p9,rfl⟩;(conv=>whnf)
  exact BU rfl (by simp [B4,DN])
 by_cases Cs:q+d=0
 ·(repeat' ((first|(apply BB<;>intro hc<;>try omega)|(apply BS;omega)|apply A7)<;>conv=>whnf))
  refine ⟨.g8 [.int .i64 a,.int .i64 b,.int .i64 c,.int .i64 d],?_,a,b,c,d,⟨p1.sg,by omega⟩,p9,rfl⟩;(conv=>whnf)
  exact BU rfl (by simp [B4,DN])
 by_cases re:(p+a)/(q+c)=(p+b)/(q+d)
 ·obtain ⟨s1,s2,s3,s4⟩:=p1.step jn Cs rfl re
  have s5:=s4 p8;have s6:=s5.half;have s7:=s1.qc;by_cases im:2147483647<(p+a)/(q+c)
  ·(repeat' ((first|(apply BB<;>intro hc<;>try omega)|(apply BS;omega)|(refine U4 ?_ ?_ (λ_ => ?_) (λ_ _ => ?_);omega;omega;all_goals try omega)|apply A7)<;>conv=>whnf))
   refine ⟨.g8 [.int .i64 a,.int .i64 b,.int .i64 c,.int .i64 d],?_,a,b,c,d,⟨p1.sg,by omega⟩,p9,rfl⟩;(conv=>whnf)
   exact BU rfl (by simp [B4,DN])
  ·have t1:=yR (x:=(p+a)/(q+c)) (y:=c) (M:=2147483647) (N:=2147483647) (by omega) (by omega)
   have t2:=yR (x:=(p+a)/(q+c)) (y:=d) (M:=2147483647) (N:=2147483647) (by omega) (by omega);(repeat' ((first|(apply BB<;>intro hc<;>try omega)|(apply BS;omega)|(apply DC;omega)|(apply FU;omega)|(refine U4 ?_ ?_ (λ_ => ?_) (λ_ _ => ?_);omega;omega;all_goals try omega)|(apply EW.neg;omega)|apply A7)<;>conv=>whnf))
   all_goals first
    | exact C5 [] (by (conv=>whnf);exact ⟨rfl,rfl,rfl⟩) (ih _ _ _ _ _ _ (by omega) ⟨s1,by omega,by omega,s6,λ_=>s5⟩)
    |(refine ⟨.g8 [.int .i64 a,.int .i64 b,.int .i64 c,.int .i64 d],?_,a,b,c,d,⟨p1.sg,by omega⟩,p9,rfl⟩
      (conv=>whnf)
      exact BU rfl (by simp [B4,DN]))
 ·(repeat' ((first|(apply BB<;>intro hc<;>try omega)|(apply BS;omega)|(refine U4 ?_ ?_ (λ_ => ?_) (λ_ _ => ?_);omega;omega;all_goals try omega)|apply A7)<;>conv=>whnf))
  refine ⟨.g8 [.int .i64 a,.int .i64 b,.int .i64 c,.int .i64 d],?_,a,b,c,d,⟨p1.sg,by omega⟩,p9,rfl⟩;(conv=>whnf)
  exact BU rfl (by simp [B4,DN])
theorem AfB (N:c6 L) (x y:List Nat) (q1 q2:Bool) (f g:Int) (hX:BZ x) (hY:BZ y) (hl:y.length<=x.length) (lx:x.length<=549755813888) (hs:WT f g) (R:Nat) (hR:(R:Int)=f*val x+g*val y) (hR2:R<=val x) :
  Ev L 80 [.sl q1 (x.map BG),.sl q2 (y.map BG),.int .i64 f,.int .i64 g] (.sl false ((dg R).map BG)):=by
 refine Ev.x N.R6 rfl rfl ?_;(repeat' ((first|apply BR|apply A7)<;>conv=>whnf))
 refine NQ (enc:=BG) 0 x.length rfl rfl (by omega) ?_;(conv=>whnf)
 (repeat' (apply BR<;>conv=>whnf))
 refine J1 (λ i _ _=>x.length-i) (λ(i:Nat) (o:List Nat) (c:Int)=>i<=x.length/\o.length=x.length/\BZ o /\ -2147483648<=c/\c<=2147483648/\(val (o.take i):Int)+((4294967296^i:Nat):Int)*c=f*val (x.take i)+g*val (y.take i)) (λ i o c=>[(10,.int .i64 c),(19,.int .i64 i)]) (λ i o c=>[(16,16,.rw 1 (o.map BG))]) 0 (List.replicate x.length 0) 0 ⟨by omega,by simp,PG _,by omega,by omega,by simp [val]⟩ ?_;intro i o c ⟨p1,p2,p3,p4,p5,p6⟩ ih;by_cases hi:i<x.length
 ·obtain ⟨d,hd⟩ : ∃ d,x[i]? = some d:=⟨_,zE hi⟩
  have du:=hX.at hd;have h1:=GD hd;by_cases hy:i<y.length
  ·obtain ⟨e,he⟩ : ∃ e,y[i]? = some e:=⟨_,zE hy⟩
   have Jj:=hY.at he;have h2:=GD he;obtain ⟨r1,r2,r3⟩:=hs.Ue du Jj;have m9:=uL (d:=d) (e:=e) p6 rfl;(repeat' ((first|(apply BB<;>intro hc<;>try omega)|(apply BS;omega)|(apply FU;omega)|(apply PN;omega)|apply BR|(refine CT (by assumption) ?_ rfl ?_;omega)|apply A7)<;>conv=>whnf))
   generalize htt:f * ↑d+c+g * ↑e=t at *;refine rX ?_;(conv=>whnf)
   (repeat' ((first|(apply B7;omega)|fail)<;>conv=>whnf))
   refine H9 (by omega) ?_;(conv=>whnf)
   refine sM ?_;(conv=>whnf)
   (repeat' ((first|(apply BS;omega)|fail)<;>conv=>whnf))
   refine C5 [] (by (conv=>whnf);exact ⟨rfl,rfl,rfl⟩) (ih (i+1) _ _ (by omega) ⟨by omega,by simpa using p2,p3.set _ (uJ t),by omega,by omega,?_⟩);rw[JQ (by omega),h1,h2,Nat.pow_succ];simp only[Int.natCast_add,Int.natCast_mul,lR];exact m9
  ·have h2:=kB (y:=y) (i:=i) (by omega)
   obtain ⟨r1,r2,r3⟩:=hs.Ue (e:=0) du (by omega);have m9:=uL (d:=d) (e:=0) p6 rfl;rw[Int.mul_zero,Int.add_zero]at m9;have r4 : -9223372030412324865<=f*(d:Int)/\f*(d:Int)<=9223372030412324865:=r1;(repeat' ((first|(apply BB<;>intro hc<;>try omega)|(apply BS;omega)|(apply FU;omega)|(apply PN;omega)|apply BR|(refine CT (by assumption) ?_ rfl ?_;omega)|apply A7)<;>conv=>whnf))
   generalize htt:f * ↑d+c=t at *;refine rX ?_;(conv=>whnf)
   (repeat' ((first|(apply B7;omega)|fail)<;>conv=>whnf))
   refine H9 (by omega) ?_;(conv=>whnf)
   refine sM ?_;(conv=>whnf)
   (repeat' ((first|(apply BS;omega)|fail)<;>conv=>whnf))
   refine C5 [] (by (conv=>whnf);exact ⟨rfl,rfl,rfl⟩) (ih (i+1) _ _ (by omega) ⟨by omega,by simpa using p2,p3.set _ (uJ t),by omega,by omega,?_⟩);rw[JQ (by omega),h1,h2,Nat.pow_succ];simp only[Int.natCast_add,Int.natCast_mul,lR];rw[Int.mul_zero,Int.add_zero]at m9;exact m9
 ·obtain rfl:i=x.length:=by omega
  clear ih;rw[E9 (by omega),E9 (Nat.le_refl _),E9 (by omega)]at p6;have Sh:=HS p3;have hxv:=HS hX;rw[p2]at Sh;have hVR:val o=R:=by
   have:=Zq Sh p6 (by omega) (by omega)
   omega
  have jr:=HH p3;rw[<-p2,<-hVR];(repeat' ((first|(apply BB<;>intro hc<;>try omega)|apply A7|refine eT N (by assumption) (by omega) rfl (by first|rfl|omega|assumption) ?_)<;>conv=>whnf))
  refine N9 (enc:=BG) (λ_=>rfl) (by omega) ?_;(conv=>whnf)
  refine BU ?_ (by simp only[B4,true_and];exact EI _);rw[List.drop_zero,eI p3]
theorem AfE (N:c6 L) (X Y:Nat) (tz:Y<=X) (hy:3<=(dg Y).length) (lx:(dg X).length<=549755813888) : ∃ r,Ev L 81 [.sl false ((dg X).map BG),.sl false ((dg Y).map BG)] r /\ ∃ A B:Nat,(B<Y/\B<=A/\A<=X/\Nat.gcd A B=Nat.gcd X Y)/\r = .g8 [.sl false ((dg A).map BG),.sl false ((dg B).map BG)]:=by
 have hY0:Y≠0:=λ h=>by rw[h,HP]at hy;simp at hy
 have wz:X≠0:=by omega
 have hlen:=XB tz;have hdv:=λ q q'=>nG N X Y q q' hY0 lx (by omega)
 have d1:=GA X;have d2:=GA Y;have v1:=CX X;have v2:=CX Y;obtain ⟨xt,Lc,Ld⟩:=mJ wz;have Gc:=d1.at Lc;obtain ⟨b1,b2,b3,b4⟩:=pD Ld Gc;have Fc:=vX N xt Gc;generalize hs:32-o5 xt=s at *;have dn:s<=31:=by omega
 obtain ⟨n1,n2⟩:=oW d1 Lc (by omega) dn b3 b4;have ud:=λ(f g:Int) (R:Nat) (hs:WT f g) (h1:(R:Int)=f*val (dg X)+g*val (dg Y)) (h2:R<=val (dg X)) (q q':Bool)=>AfB N (dg X) (dg Y) q q' f g d1 d2 (by omega) lx hs R h1 h2
 have n3:val (dg Y)*2^s<4294967296^(dg X).length:=Nat.lt_of_le_of_lt (zR _ (by omega)) n1;have jr:=λ q=>wK N (dg X) q (dg X).length s d1 (by omega) (by omega) lx dn n1
 have jd:=λ q=>wK N (dg Y) q (dg X).length s d2 (by omega) (by omega) lx dn n3
 have hK:=Ahp (dg X).length s;obtain ⟨e1,x1,x2,x3⟩:=zA (V:=X) hK;obtain ⟨e2,y1,y2,y3⟩:=zA (V:=Y) hK;rw[v1]at jr;rw[v2]at jd;have zw:=yZ d1 (n:=(dg X).length) (by omega) (by omega) dn n1;have Cz:=yZ d2 (n:=(dg X).length) (by omega) (by omega) dn n3;rw[v1]at zw;rw[v2]at Cz;generalize Z8 (dg X).length s=K at *;generalize X/K=P at *;generalize Y/K=Q at *;rw[v1,v2]at ud;obtain ⟨rc,Db,a,b,c,d,⟨z1,z2,z3,z4,z5⟩,z6,rfl⟩:=AfA N (P:Int) (Q:Int) (by omega) (by omega);have e1:(((dg X).length:Int)-1).toNat=(dg X).length-1:=by omega
 rw[<-e1]at Lc;refine Ev.xE N.SA rfl rfl ?_;by_cases hb:b=0
 ·(repeat' ((first|(apply BB<;>intro hc<;>try omega)|(apply DC;omega)|(apply DL;omega)|apply BR|(refine CT (by assumption) ?_ rfl ?_;omega)|apply A7|refine AY (Fc) ?_|refine AY (jr _) ?_|refine AY (jd _) ?_|refine AY (Db) ?_|refine AY (hdv _ _) ?_)<;>conv=>whnf))
  refine ⟨_,?_,Y,X%Y,⟨Nat.mod_lt _ (by omega),Nat.le_of_lt (Nat.mod_lt _ (by omega)),tz,dF X Y⟩,rfl⟩;(conv=>whnf)
  exact BU rfl (cF _ _)
 ·obtain ⟨g1,g2,g3,g4⟩:=z6 hb (X:Int) (Y:Int) (K:Int) _ _ (by omega) x1 y1 x2 x3 y2 y3
  obtain ⟨A,hA⟩:=Int.eq_ofNat_of_zero_le (show 0<=a*X+b*Y by omega);obtain ⟨B,hB⟩:=Int.eq_ofNat_of_zero_le g1;have s1:WT a b:=by rcases z1 with ⟨h1,h2,h3,h4⟩|⟨h1,h2,h3,h4⟩<;>unfold WT<;>omega
  have s2:WT c d:=by rcases z1 with ⟨h1,h2,h3,h4⟩|⟨h1,h2,h3,h4⟩<;>unfold WT<;>omega
  (repeat' ((first|(apply BB<;>intro hc<;>try omega)|(apply DC;omega)|(apply DL;omega)|apply BR|(refine CT (by assumption) ?_ rfl ?_;omega)|apply A7|refine AY (Fc) ?_|refine AY (jr _) ?_|refine AY (jd _) ?_|refine AY (Db) ?_|refine AY (ud a b A s1 hA.symm (by omega) _ _) ?_|refine AY (ud c d B s2 hB.symm (by omega) _ _) ?_)<;>conv=>whnf))
  rw[hA,hB]at g4;rw[hA,hB]at g2;refine ⟨_,?_,A,B,⟨by omega,by omega,by omega,by simpa using g4⟩,rfl⟩;(conv=>whnf)
  exact BU rfl (cF _ _)
theorem yA (N:c6 L) (X Y:Nat) (tz:Y<=X) (lx:(dg X).length<=549755813888) :
 AH L [It.lp KN.l1,It.e7 0,
   It.code
    ((((CP.ops KN.r6 false).dr [23,30,31] []).seq
       (CP.cond 32 (((CP.ops KN.r7 false).dr [5,6,32,33] []).seq CP.ret) CP.skip)).seq
     (((CP.ops KN.r8 false).dr [5,7,32,34,35,36,37,38,39] []).seq
      (((CP.ops KN.r9 false).dr [6,8,40,41,42,43] []).seq
       ((CP.block 2 KN.l2.loop).seq
        (((CP.ops KN.aw false).dr [9,10,45,50,51,52,53,54,55,56] []).seq CP.ret)))))]
  [(6,AV.sl false (List.map BG (dg Y))),(5,AV.sl false (List.map BG (dg X)))] []
  (W4 KN (AV.sl false (List.map BG (dg (X.gcd Y))))):=by
 refine PL (λ_ y=>y) (λ(x y:Nat)=>y<=x/\(dg x).length<=549755813888/\Nat.gcd x y=Nat.gcd X Y) (λ x y=>[(6,AV.sl false (List.map BG (dg y))),(5,AV.sl false (List.map BG (dg x)))]) (λ_ _=>[]) X Y ⟨tz,lx,rfl⟩ ?_;intro x y ⟨p1,p2,p3⟩ ih;rw[<-p3]at ih ⊢;generalize Nat.gcd X Y=G at *;clear tz lx;subst p3;have hlen:=XB p1;by_cases h3:3<=(dg y).length
 ·obtain ⟨r,hr,A,B,⟨k1,k2,k3,k4⟩,rfl⟩:=AfE N x y p1 h3 p2
  have k5:=XB k3;(repeat' ((first|(apply BB<;>intro hc<;>try omega)|apply BR|apply A7|refine AY (hr) ?_)<;>conv=>whnf))
  exact D0 [] (ih A B k1 ⟨k2,by omega,k4⟩)
 ·clear ih
  by_cases h0:y=0
  ·subst h0
   have wg:(dg 0).length=0:=by rw[HP];rfl
   (repeat' ((first|(apply BB<;>intro hc<;>try omega)|apply BR|apply A7)<;>conv=>whnf))
   rw[Nat.gcd_zero_right];exact BU rfl (by simp only[B4,true_and];exact EI _)
  ·have hp:=cO h0
   have hm:=XB (Nat.le_of_lt (Nat.mod_lt x (show y>0 by omega)));have hd:=λ q q'=>nG N x y q q' h0 p2 (by omega)
   have Dd:=λ q=>wL N y q (by omega)
   have zz:=λ q=>wL N (x%y) q (by omega)
   have hb:y<18446744073709551616:=VD.1 (show (dg y).length<=2 by omega);have hml:x%y<y:=Nat.mod_lt _ (by omega);rw[<-dF x y];(repeat' ((first|(apply BB<;>intro hc<;>try omega)|apply BR|apply A7|refine AY (hd _ _) ?_|refine AY (Dd _) ?_|refine AY (zz _) ?_)<;>conv=>whnf))
   refine eR (λ_ q=>q) (λ(p q:Nat)=>p<18446744073709551616/\q<18446744073709551616/\Nat.gcd p q=Nat.gcd y (x%y)) (λ p q=>[(9,.int .u64 (p:Int)),(10,.int .u64 (q:Int))]) (λ_ _=>[]) [] [] y (x%y) (by (conv=>whnf);exact ⟨rfl,rfl,rfl⟩) ⟨hb,by omega,rfl⟩ ?_;intro p q ⟨g1,g2,g3⟩ ih;rw[<-g3]at ih ⊢;by_cases hq:q=0
   ·subst hq
    clear ih;obtain ⟨v1,v2⟩:=mG g1;rw[Nat.gcd_zero_right];have jr:=HH v2;have ht:=eI v2;rw[v1]at jr ht;(repeat' ((first|(apply BB<;>intro hc<;>try omega)|apply IK|(apply GP;omega)|apply JL|apply A7)<;>conv=>whnf))
    generalize p%4294967296=lo at *;generalize p/4294967296=hi at *;refine eT N v2 (by simp) rfl rfl ?_;rw[v1];(conv=>whnf)
    skip
    refine N9 (enc:=BG) (l:=[lo,hi]) (λ_=>rfl) (by omega) ?_;(conv=>whnf)
    refine BU ?_ (by simp only[B4,true_and];exact EI _);rw[List.drop_zero,ht]
   ·have hpq:p%q<q:=Nat.mod_lt _ (by omega)
    (repeat' ((first|(apply BB<;>intro hc<;>try omega)|(apply bH;omega)|apply A7)<;>conv=>whnf))
    exact D0 [] (ih q (p%q) hpq ⟨g2,by omega,dF p q⟩)
theorem Afz (N:c6 L) (a b:List Nat) (q1 q2:Bool) (hA:BZ a) (hB:BZ b) (la:a.length<=549755813888) (lb:b.length<=549755813888) :
  Ev L 82 [.sl q1 (a.map BG),.sl q2 (b.map BG)] (.sl false ((dg (Nat.gcd (val a) (val b))).map BG)):=by
 have t1:=λ q=>cS N a q hA (by omega)
 have t2:=λ q=>cS N b q hB (by omega)
 have l1:=HH hA;have l2:=HH hB;have m5:=λ q q'=>WC N (dg (val a)) (dg (val b)) q q' (GA _) (GA _) (by omega) (by omega)
 rw[CX,CX]at m5;generalize val a=X at *;generalize val b=Y at *;refine Ev.x N.KN rfl rfl ?_;by_cases l8:X<Y
 ·have hn:E4 X Y = -1:=(OU (by omega)).symm
  rw[hn]at m5;(repeat' ((first|(apply BB<;>intro hc<;>try omega)|apply A7|refine AY (t1 _) ?_|refine AY (t2 _) ?_|refine AY (m5 _ _) ?_)<;>conv=>whnf))
  rw[Nat.gcd_comm];exact C5 [] (by (conv=>whnf);exact ⟨rfl,rfl,rfl⟩) (yA N Y X (by omega) (by omega))
 ·have mz:0<=E4 X Y:=by unfold E4;split<;>(try split)<;>omega
  generalize E4 X Y=cm at *;(repeat' ((first|(apply BB<;>intro hc<;>try omega)|apply A7|refine AY (t1 _) ?_|refine AY (t2 _) ?_|refine AY (m5 _ _) ?_)<;>conv=>whnf))
  exact C5 [] (by (conv=>whnf);exact ⟨rfl,rfl,rfl⟩) (yA N X Y (by omega) (by omega))
end Go.e6
