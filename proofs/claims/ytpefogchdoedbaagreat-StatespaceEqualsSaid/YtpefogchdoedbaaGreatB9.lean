/-
  The references of natural numbers (ref01): division.
-/
import Derived.Test.YtpefogchdoedbaaGreatB8
import Derived.Test.YtpefogchdoedbaaGreatB7
import Derived.Test.YtpefogchdoedbaaGreatB4
set_option linter.unusedSimpArgs false
set_option linter.unusedVariables false
set_option linter.unnecessarySimpa false
namespace Go.Eng
open F
attribute [local irreducible] AA AF AR AD B0 AU AX A8 A6 BN AP BK BV CN BI AZ BG BQ AB A7 AJ pw BH BF B9 B8 CI B7 CB BM B3
set_option maxHeartbeats 4000000
variable {L:Lib}
theorem Agw {V R y d t Q:Nat} (h:Q*y+R=V) (ht:t=R*4294967296+d):(t/y+4294967296*Q)*y+t%y=d+4294967296*V:=by
 have:=Nat.div_add_mod t y
 rw[<-h,Nat.add_mul]
 have e:t/y*y=y*(t/y):=Nat.mul_comm _ _
 grind
theorem Abp (N:RefGLib L) (x:List Nat) (Y:Nat) (q:Bool) (d1:A5 x) (hx:x.length<=549755813888) (h0:Y≠0) (hY:Y<4294967296):Ev L 108 [.sl q (x.map AM),.int .u32 (Y:Int)] (.tup [.sl false ((dg (val x/Y)).map AM),.int .u32 ((val x%Y:Nat):Int)]):=by
 refine Ev.x N.K0 rfl rfl ?_
 (repeat' (first|(refine AW ?_;conv=>whnf)|(refine AE ?_;conv=>whnf)))
 refine EB (enc:=AM) 0 x.length rfl (by omega) (by omega) ?_
 (conv=>whnf)
 (repeat' (first|(refine CF ?_ ?_;omega;conv=>whnf)|(refine AW ?_;conv=>whnf)))
 refine F9 (fun n _ _=>n) (fun (n:Nat) (o:List Nat) (r:Nat)=>n<=x.length/\o.length=x.length/\A5 o/\r<Y/\val (o.drop n)*Y+r=val (x.drop n)) (fun n o r=>[(7,.int .u64 (r:Int)),(8,.int .i64 ((n:Int)-1))]) (fun n o r=>[(11,11,.rw 1 (o.map AM))]) [] [] x.length (List.replicate x.length 0) 0 (by (conv=>whnf);exact ⟨rfl,rfl,rfl⟩) ⟨by omega,by simp,IQ _,by omega,by rw[List.drop_of_length_le (Nat.le_refl _),List.drop_of_length_le (by simp)];simp [val]⟩ ?_
 intro n o r ⟨p1,p2,p3,p4,p5⟩ ih
 rcases n with _|n
 ·rw[List.drop_zero,List.drop_zero]at p5
  have hq:val x/Y=val o/\val x%Y=r:=by
   rw[<-p5]
   have e1:(val o*Y+r)/Y=val o:=by
    rw[Nat.mul_comm,Nat.mul_add_div (by omega),Nat.div_eq_of_lt p4,Nat.add_zero]
   have e2:(val o*Y+r)%Y=r:=by
    rw[Nat.mul_comm,Nat.mul_add_mod,Nat.mod_eq_of_lt p4]
   exact ⟨e1,e2⟩
  have hT:=fun q=>F2 N o q p3 (by omega)
  rw[hq.1,hq.2,<-p2]
  clear ih hq p5
  (repeat' (first|(refine AG (fun hc => ?_) (fun hc => ?_)<;>first|(exfalso;omega)|(conv=>whnf))|(refine D8 ?_ ?_;omega;conv=>whnf)|(refine DE (fun _=>rfl) rfl ?_ ?_;(first|rfl|simp);conv=>whnf)|(refine AE ?_;conv=>whnf)|(refine AC (hT _) ?_;conv=>whnf)))
  refine AY rfl ?_
  simp only[A9,CY,and_true,true_and]
  exact CU _
 ·have e1:((n+1:Nat):Int)-1=n:=by omega
  rw[e1]
  obtain ⟨d,hd⟩ : ∃ d,x[n]? = some d:=⟨_,zE (by omega)⟩
  have hdb:=d1.at hd
  have hR:r*4294967296+d<Y*4294967296:=by omega
  have hq0:(r*4294967296+d)/Y<4294967296:=(Nat.div_lt_iff_lt_mul (by omega)).2 (by omega)
  (repeat' (first|(refine AG (fun hc => ?_) (fun hc => ?_)<;>first|(exfalso;omega)|(conv=>whnf))|(refine A3 ?_ ?_;omega;conv=>whnf)|(refine NN ?_ ?_;omega;conv=>whnf)|(refine N8 ?_ ?_;omega;conv=>whnf)|(refine VR ?_ ?_ ?_;omega;omega;conv=>whnf)|(refine CR ?_ ?_;omega;conv=>whnf)|(refine D8 ?_ ?_;omega;conv=>whnf)|(refine BL (by assumption) ?_ rfl ?_;omega;conv=>whnf)|(refine AE ?_;conv=>whnf)))
  obtain ⟨t,ht⟩ : ∃ t,t=r*4294967296+d:=⟨_,rfl⟩
  rw[<-ht]at hR hq0 ⊢
  have hm:t%Y<Y:=Nat.mod_lt _ (by omega)
  have hst:=Agw p5 ht
  rw[<-GZ hd]at hst
  clear ht
  skip
  refine E3 (by omega) ?_
  (conv=>whnf)
  (repeat' (first|(refine CF ?_ ?_;omega;conv=>whnf)|(refine TA ?_ ?_;omega;conv=>whnf)|(refine CR ?_ ?_;omega;conv=>whnf)))
  generalize t/Y=tq at *
  generalize t%Y=tr at *
  refine A4 [] (by (conv=>whnf);exact ⟨rfl,rfl,rfl⟩) (ih n _ _ (by omega) ⟨by omega,by simpa using p2,p3.set _ (by omega),hm,?_⟩)
  rw[GZ (l:=o.set n tq) (d:=tq) (by rw[List.getElem?_set_self (by omega)]),List.drop_set_of_lt (by omega)]
  exact hst
theorem WE (a b:List Nat) (e:Int):A9 (.tup [.sl false (a.map AM),.sl false (b.map AM),.int .i64 e]):=by
 simp only[A9,CY,and_true,true_and]
 exact ⟨CU a,CU b⟩
abbrev yY:List It:=[It.lp DH.l1,It.blk 0,
   It.code
    (((AL.ops DH.r14 false).dr [0,75,79,80] []).seq
     (((AL.ops DH.r15 false).dr [81,82,83,84,85] []).seq
      ((((AL.ops DH.r16 false).dr [86,87,88,89,90] []).seq
         (AL.block 2 DH.l2.loop)).seq
       (((AL.ops DH.r57 true).dr [9,10,11,12,13,14,92,277,278,279,280,281,282,283,284]
          []).seq
        AL.ret))))]
abbrev WN:List It:=[It.lp DH.l2,It.blk 2,It.code
       (((AL.ops DH.r57 true).dr [9,10,11,12,13,14,92,277,278,279,280,281,282,283,284]
          []).seq
        AL.ret)]
abbrev WO (v:List Nat) (s ul m:Nat) (j:Int):Tm:=[(14,.int .i64 j),(13,.row 85 0 1 0 m),(12,.int .i64 v.length),(11,.sl false (v.map AM)),(10,.row 69 0 1 0 ul),(9,.int .i64 (s:Int))]
abbrev yX:AL:=(((AL.ops DH.r39 false).dr [18,19,20,166,205,206,207] []).seq
                (((AL.ops DH.r40 false).dr [208,209,210,211,212,213,214] []).seq
                 ((AL.ops DH.r41 false).seq
                  ((((AL.ops DH.r42 false).dr [215,216] []).seq
                     (AL.cond 217
                      (((AL.ops DH.r43 false).dr [18,217,218,219] []).seq
                       (AL.ops DH.r44 false))
                      AL.skip)).seq
                   (((AL.ops DH.r45 false).dr
                      [23,24,217,220,221,222,223,224,225,226,227,228] []).seq
                    ((((AL.ops DH.r46 false).dr [18,229] []).seq
                       (AL.cond 230
                        (((AL.ops DH.r47 false).dr [230,231,232] []).seq
                         ((AL.ops DH.r48 false).seq
                          (((AL.ops DH.r49 false).seq
                             (AL.block 8 DH.l5.loop)).seq
                           ((AL.ops DH.r55 false).dr
                            [25,26,235,262,263,264,265,266,267,268,269,270,271]
                            []))))
                        AL.skip)).seq
                     ((AL.ops DH.r56 false).dr [16,230,272,273,274,275,276]
                      [])))))))
abbrev yZ:List It:=It.lp DH.l4::It.blk 6::It.code yX::It.blk 3::It.code ((AL.ops DH.r18 false).dr [93,94] [])::WN
section
variable {A W C w y:List Nat} {j m s ul q:Nat} {Q:Tm->Mem->Prop}
theorem RC {e i n:Nat} (hi:i=A.length+n) (he:W[n]? = some e):(A++W++C)[i]? = some e:=by
 rw[sH hi (zS he).1];exact he
theorem ZI (hA:A.length=j) (hW:W.length=y.length+1) (D2:A5 W) (hVD:A5 y) (hv2l:2<=y.length) (hvL:y.length<=549755813888) (hV0:0<val y) (hjl:j<=1099511627776)
  (hul:ul=j+(y.length+1)+C.length) (hwm:w.length=m) (hjm:j<m)
  (r1:q<4294967296) (r2:val W/val y<=q) (r3:q<=val W/val y+1)
  (hk : ∀ (W':List Nat) (q':Nat),W'.length=y.length+1->A5 W'->val W'=val W%val y->q'=val W/val y->AA L WN (WO y s ul m ((j:Int)-1)) [(69,101021,.rw 1 ((A++W'++C).map AM)),(85,85,.rw 1 ((w.set j q').map AM))] Q) :
  AA L yZ ([(20,.int .i64 0),(19,.int .u64 0),(18,.int .u64 0),(16,.int .u64 (q:Int))]++WO y s ul m (j:Int)) [(69,101021,.rw 1 ((A++W++C).map AM)),(85,85,.rw 1 (w.map AM))] Q:=by
 refine VH (fun i _ _ _=>y.length-i) (fun (i:Nat) (Z:List Nat) (c b:Nat)=>i<=y.length/\Z.length=y.length+1/\A5 Z/\c<4294967296/\b<=1/\Z.drop i=W.drop i/\val (Z.take i)+q*val (y.take i)=val (W.take i)+4294967296^i*(c+b)) (fun i Z c b=>[(20,.int .i64 i),(18,.int .u64 (b:Int)),(19,.int .u64 (c:Int))]) (fun i Z c b=>[(69,101021,.rw 1 ((A++Z++C).map AM))]) [] [] 0 W 0 0 (by (conv=>whnf);exact ⟨rfl,rfl,rfl⟩) ⟨by omega,hW,D2,by omega,by omega,rfl,by simp [val]⟩ ?_
 intro i Z c b ⟨p1,p2,p3,p4,p5,p6,p7⟩ ih
 by_cases hi:i<y.length
 ·obtain ⟨d,hd⟩ : ∃ d,y[i]? = some d:=⟨_,zE hi⟩
  obtain ⟨u,hu⟩ : ∃ u,Z[i]? = some u:=⟨_,zE (by omega)⟩
  have hdb:=hVD.at hd
  have hub:=p3.at hu
  have hru:(A++Z++C)[((i:Int)+(j:Int)).toNat]? = some u:=RC (by omega) hu
  obtain ⟨pr,hpr⟩ : ∃ pr,pr=c+q*d:=⟨_,rfl⟩
  obtain ⟨m1,m2,m3⟩:=nX r1 hdb p4 (show pr=q*d+c by omega)
  have hWi:W[i]? = some u:=by
   have e1:(Z.drop i)[0]? = (W.drop i)[0]? := by rw[p6]
   simpa [hu] using e1.symm
  have hdr : ∀ w,(Z.set i w).drop (i+1)=W.drop (i+1):=fun w=>by
   rw[List.drop_set_of_lt (by omega)]
   have e1:(Z.drop i).drop 1=(W.drop i).drop 1:=by rw[p6]
   simpa using e1
  have hst : ∀ have' take w bw',take=pr%4294967296+b->((have'=u/\bw'=0/\take<=u)\/(have'=u+4294967296/\bw'=1/\u<take))->w+take=have'->val ((Z.set i w).take (i+1))+q*val (y.take (i+1))=val (W.take (i+1))+4294967296^(i+1)*(pr/4294967296+bw'):=fun have' take w bw' a1 a2 a3=>by
   rw[FO (by omega),DW hd,DW hWi,Nat.pow_succ]
   exact Ado p7 hpr a1 a2 a3
  by_cases hlt:u<pr%4294967296+b
  ·have h3:=hst (u+4294967296) (pr%4294967296+b) (u+4294967296-(pr%4294967296+b)) 1 rfl (Or.inr ⟨rfl,rfl,hlt⟩) (by omega)
   (repeat' (first|(refine AG (fun hc => ?_) (fun hc => ?_)<;>first|(exfalso;omega)|(conv=>whnf))|(refine A3 ?_ ?_;omega;conv=>whnf)|(refine A0 ?_ ?_;omega;conv=>whnf)|(refine FQ ?_ ?_;omega;conv=>whnf)|(refine N7 ?_ ?_;omega;conv=>whnf)|(refine eL ?_ ?_;omega;conv=>whnf)|(refine IL ?_ ?_ ?_;omega;omega;conv=>whnf)|(refine E8 ?_;conv=>whnf)|(refine VP ?_ ?_;omega;conv=>whnf)|(refine CR ?_ ?_;omega;conv=>whnf)|(refine D8 ?_ ?_;omega;conv=>whnf)|(refine BL (by assumption) ?_ rfl ?_;omega;conv=>whnf)|(refine I5 (by assumption) ?_;conv=>whnf)|(refine AE ?_;conv=>whnf)))
   rw[<-hpr]
   skip
   refine NP i (by omega) (by omega) ?_
   (conv=>whnf)
   (repeat' (refine A0 ?_ ?_;omega;conv=>whnf))
   exact A4 [] (by (conv=>whnf);exact ⟨rfl,rfl,rfl⟩) (ih (i+1) (Z.set i (u+4294967296-(pr%4294967296+b))) (pr/4294967296) 1 (by omega) ⟨by omega,by simpa using p2,p3.set _ (by omega),m1,by omega,hdr _,h3⟩)
  ·have h3:=hst u (pr%4294967296+b) (u-(pr%4294967296+b)) 0 rfl (Or.inl ⟨rfl,rfl,by omega⟩) (by omega)
   (repeat' (first|(refine AG (fun hc => ?_) (fun hc => ?_)<;>first|(exfalso;omega)|(conv=>whnf))|(refine A3 ?_ ?_;omega;conv=>whnf)|(refine A0 ?_ ?_;omega;conv=>whnf)|(refine FQ ?_ ?_;omega;conv=>whnf)|(refine N7 ?_ ?_;omega;conv=>whnf)|(refine eL ?_ ?_;omega;conv=>whnf)|(refine IL ?_ ?_ ?_;omega;omega;conv=>whnf)|(refine E8 ?_;conv=>whnf)|(refine CR ?_ ?_;omega;conv=>whnf)|(refine D8 ?_ ?_;omega;conv=>whnf)|(refine BL (by assumption) ?_ rfl ?_;omega;conv=>whnf)|(refine I5 (by assumption) ?_;conv=>whnf)|(refine AE ?_;conv=>whnf)))
   rw[<-hpr]
   skip
   refine NP i (by omega) (by omega) ?_
   (conv=>whnf)
   (repeat' (refine A0 ?_ ?_;omega;conv=>whnf))
   exact A4 [] (by (conv=>whnf);exact ⟨rfl,rfl,rfl⟩) (ih (i+1) (Z.set i (u-(pr%4294967296+b))) (pr/4294967296) 0 (by omega) ⟨by omega,by simpa using p2,p3.set _ (by omega),m1,by omega,hdr _,h3⟩)
 ·obtain rfl:i=y.length:=by omega
  clear ih
  obtain ⟨u,hu⟩ : ∃ u,Z[y.length]? = some u:=⟨_,zE (by omega)⟩
  have hub:=p3.at hu
  have hru:(A++Z++C)[((j:Int)+(y.length:Int)).toNat]? = some u:=RC (by omega) hu
  have hWi:W[y.length]? = some u:=by
   have e1:(Z.drop y.length)[0]? = (W.drop y.length)[0]? := by rw[p6]
   simpa [hu] using e1.symm
  rw[C7 (Nat.le_refl y.length)]at p7
  have eW:val W=val (W.take y.length)+4294967296^y.length*u:=by
   rw[<-DW hWi,C7 (by omega)]
  have hst : ∀ have' take w bw',take=c+b->((have'=u/\bw'=0/\take<=u)\/(have'=u+4294967296/\bw'=1/\u<take))->w+take=have'->val (Z.set y.length w)+q*val y=val W+4294967296^y.length*4294967296*bw':=fun have' take w bw' a1 a2 a3=>by
   have h1:=Adm p7 a1 a2 a3
   rw[<-eW,<-FO (show y.length<Z.length by omega),C7 (by simp;omega)]at h1
   exact h1
  by_cases hlt:u<c+b
  ·have h3:=hst (u+4294967296) (c+b) (u+4294967296-(c+b)) 1 rfl (Or.inr ⟨rfl,rfl,hlt⟩) (by omega)
   have hXD:A5 (Z.set y.length (u+4294967296-(c+b))):=p3.set _ (by omega)
   have hXl:(Z.set y.length (u+4294967296-(c+b))).length=y.length+1:=by simpa using p2
   rw[Nat.mul_one]at h3
   have hU':=EV hXD
   rw[hXl,Nat.pow_succ]at hU'
   obtain ⟨y1,y2,y3⟩:=iR hV0 r3 hU' h3
   (repeat' (first|(refine AG (fun hc => ?_) (fun hc => ?_)<;>first|(exfalso;omega)|(conv=>whnf))|(refine A3 ?_ ?_;omega;conv=>whnf)|(refine A0 ?_ ?_;omega;conv=>whnf)|(refine FQ ?_ ?_;omega;conv=>whnf)|(refine IL ?_ ?_ ?_;omega;omega;conv=>whnf)|(refine VP ?_ ?_;omega;conv=>whnf)|(refine CR ?_ ?_;omega;conv=>whnf)|(refine D8 ?_ ?_;omega;conv=>whnf)|(refine I5 (by assumption) ?_;conv=>whnf)|(refine AE ?_;conv=>whnf)))
   refine NP y.length (by omega) (by omega) ?_
   (conv=>whnf)
   (repeat' (first|(refine AG (fun hc => ?_) (fun hc => ?_)<;>first|(exfalso;omega)|(conv=>whnf))|(refine IL ?_ ?_ ?_;omega;omega;conv=>whnf)))
   clear p7 p6 eW hu hWi hub hru p2 p3 hst
   generalize Z.set y.length (u+4294967296-(c+b))=X at *
   have hRV:val W%val y<val y:=Nat.mod_lt _ hV0
   have hVl:=EV hVD
   obtain ⟨xw,hxw⟩ : ∃ xw,X[y.length]? = some xw:=⟨_,zE (by omega)⟩
   have eX:val X=val (X.take y.length)+4294967296^y.length*xw:=by
    rw[<-DW hxw,C7 (by omega)]
   have hqb:q-1<4294967296:=by omega
   refine F9 (fun i _ _=>y.length-i) (fun (i:Nat) (Z:List Nat) (c:Nat)=>i<=y.length/\Z.length=y.length+1/\A5 Z/\c<=1/\Z.drop i=X.drop i/\val (Z.take i)+4294967296^i*c=val (X.take i)+val (y.take i)) (fun i Z c=>[(26,.int .i64 i),(25,.int .u64 (c:Int))]) (fun i Z c=>[(69,101021,.rw 1 ((A++Z++C).map AM))]) [] [] 0 X 0 (by (conv=>whnf);exact ⟨rfl,rfl,rfl⟩) ⟨by omega,hXl,hXD,by omega,rfl,by simp [val]⟩ ?_
   intro i Z c ⟨p1,p2,p3,p4,p6,p7⟩ ih
   by_cases hi:i<y.length
   ·obtain ⟨d,hd⟩ : ∃ d,y[i]? = some d:=⟨_,zE hi⟩
    obtain ⟨u,hu⟩ : ∃ u,Z[i]? = some u:=⟨_,zE (by omega)⟩
    have hdb:=hVD.at hd
    have hub:=p3.at hu
    have hru:(A++Z++C)[((i:Int)+(j:Int)).toNat]? = some u:=RC (by omega) hu
    have hXi:X[i]? = some u:=by
     have e1:(Z.drop i)[0]? = (X.drop i)[0]? := by rw[p6]
     simpa [hu] using e1.symm
    have hab:=fH (d:=d) (w:=u) (t:=c+(u+d)) p7 (by omega)
    (repeat' (first|(refine AG (fun hc => ?_) (fun hc => ?_)<;>first|(exfalso;omega)|(conv=>whnf))|(refine A3 ?_ ?_;omega;conv=>whnf)|(refine A0 ?_ ?_;omega;conv=>whnf)|(refine FQ ?_ ?_;omega;conv=>whnf)|(refine CR ?_ ?_;omega;conv=>whnf)|(refine FH ?_;conv=>whnf)|(refine BL (by assumption) ?_ rfl ?_;omega;conv=>whnf)|(refine I5 (by assumption) ?_;conv=>whnf)|(refine AE ?_;conv=>whnf)))
    generalize ht2:c+(u+d)=t2 at *
    refine NP i (by omega) (by omega) ?_
    (conv=>whnf)
    (repeat' (first|(refine A0 ?_ ?_;omega;conv=>whnf)|(refine E8 ?_;conv=>whnf)))
    refine A4 [] (by (conv=>whnf);exact ⟨rfl,rfl,rfl⟩) (ih (i+1) (Z.set i (t2%4294967296)) (t2/4294967296) (by omega) ⟨by omega,by simpa using p2,p3.set _ (by omega),by omega,?_,?_⟩)
    ·rw[List.drop_set_of_lt (by omega)]
     have e1:(Z.drop i).drop 1=(X.drop i).drop 1:=by rw[p6]
     simpa using e1
    ·rw[FO (by omega),DW hd,DW hXi,Nat.pow_succ]
     exact hab
   ·obtain rfl:i=y.length:=by omega
    clear ih
    obtain ⟨u,hu⟩ : ∃ u,Z[y.length]? = some u:=⟨_,zE (by omega)⟩
    have hub:=p3.at hu
    have hru:(A++Z++C)[((j:Int)+(y.length:Int)).toNat]? = some u:=RC (by omega) hu
    have hXi:X[y.length]? = some u:=by
     have e1:(Z.drop y.length)[0]? = (X.drop y.length)[0]? := by rw[p6]
     simpa [hu] using e1.symm
    rw[hXi]at hxw
    obtain rfl:u=xw:=by simpa using hxw
    rw[C7 (Nat.le_refl y.length)]at p7
    have hZl:=EV (p3.take y.length)
    rw[List.length_take,Nat.min_eq_left (by omega)]at hZl
    rw[eX]at y3
    have hend:=fG p7 y3 (by omega) hZl
    rw[<-FO (show y.length<Z.length by omega),C7 (by simp;omega)]at hend
    (repeat' (first|(refine AG (fun hc => ?_) (fun hc => ?_)<;>first|(exfalso;omega)|(conv=>whnf))|(refine A3 ?_ ?_;omega;conv=>whnf)|(refine A0 ?_ ?_;omega;conv=>whnf)|(refine eK ?_;conv=>whnf)|(refine D8 ?_ ?_;omega;conv=>whnf)|(refine I5 (by assumption) ?_;conv=>whnf)|(refine AE ?_;conv=>whnf)))
    refine NP y.length (by omega) (by omega) ?_
    (conv=>whnf)
    (repeat' (first|(refine A3 ?_ ?_;omega;conv=>whnf)|(refine D8 ?_ ?_;omega;conv=>whnf)))
    refine E3 (by omega) ?_
    (conv=>whnf)
    (repeat' (refine CF ?_ ?_;omega;conv=>whnf))
    exact A4 [] (by (conv=>whnf);exact ⟨rfl,rfl,rfl⟩) (hk _ _ (by simpa using p2) (p3.set _ (by omega)) hend y1)
  ·have h3:=hst u (c+b) (u-(c+b)) 0 rfl (Or.inl ⟨rfl,rfl,by omega⟩) (by omega)
   rw[Nat.mul_zero,Nat.add_zero]at h3
   obtain ⟨y1,y2⟩:=iS hV0 r2 h3
   (repeat' (first|(refine AG (fun hc => ?_) (fun hc => ?_)<;>first|(exfalso;omega)|(conv=>whnf))|(refine A3 ?_ ?_;omega;conv=>whnf)|(refine A0 ?_ ?_;omega;conv=>whnf)|(refine FQ ?_ ?_;omega;conv=>whnf)|(refine IL ?_ ?_ ?_;omega;omega;conv=>whnf)|(refine CR ?_ ?_;omega;conv=>whnf)|(refine D8 ?_ ?_;omega;conv=>whnf)|(refine I5 (by assumption) ?_;conv=>whnf)|(refine AE ?_;conv=>whnf)))
   refine NP y.length (by omega) (by omega) ?_
   (conv=>whnf)
   (repeat' (first|(refine AG (fun hc => ?_) (fun hc => ?_)<;>first|(exfalso;omega)|(conv=>whnf))|(refine A3 ?_ ?_;omega;conv=>whnf)|(refine D8 ?_ ?_;omega;conv=>whnf)))
   refine E3 (by omega) ?_
   (conv=>whnf)
   (repeat' (refine CF ?_ ?_;omega;conv=>whnf))
   exact A4 [] (by (conv=>whnf);exact ⟨rfl,rfl,rfl⟩) (hk _ _ (by simpa using p2) (p3.set _ (by omega)) y2 y1)
theorem zA (hA:A.length=j) (hW:W.length=y.length+1) (D2:A5 W) (hVD:A5 y) (hv2l:2<=y.length) (hvL:y.length<=549755813888) (hV0:0<val y) (hjl:j<=1099511627776)
  (n2:4294967296^(y.length-1)*2147483648<=val y) (g2:val W<4294967296*val y) (hul:ul=j+(y.length+1)+C.length) (hwm:w.length=m) (hjm:j<m)
  (hk : ∀ (W':List Nat) (q':Nat),W'.length=y.length+1->A5 W'->val W'=val W%val y->q'=val W/val y->AA L WN (WO y s ul m ((j:Int)-1)) [(69,101021,.rw 1 ((A++W'++C).map AM)),(85,85,.rw 1 ((w.set j q').map AM))] Q) :
  AA L (.code DH.l2::WN) (WO y s ul m (j:Int)) [(69,101021,.rw 1 ((A++W++C).map AM)),(85,85,.rw 1 (w.map AM))] Q:=by
 obtain ⟨UL,a1,a2⟩:=YB D2 (n:=y.length+1) (by omega) (by omega)
 obtain ⟨VL,b5,b6⟩:=sE hVD (n:=y.length) hv2l (by omega)
 obtain ⟨u0,w0⟩ : ∃ d,W[y.length]? = some d:=⟨_,zE (by omega)⟩
 obtain ⟨u1,w1⟩ : ∃ d,W[y.length-1]? = some d:=⟨_,zE (by omega)⟩
 obtain ⟨u2,w2⟩ : ∃ d,W[y.length-2]? = some d:=⟨_,zE (by omega)⟩
 obtain ⟨f1,x1⟩ : ∃ d,y[y.length-1]? = some d:=⟨_,zE (by omega)⟩
 obtain ⟨f2,x2⟩ : ∃ d,y[y.length-2]? = some d:=⟨_,zE (by omega)⟩
 rw[show y.length+1-3=y.length-2 by omega,show y.length+1-2=y.length-1 by omega,show y.length+1-1=y.length by omega,GG w0,GG w1,GG w2]at a2
 rw[show y.length+1-3=y.length-2 by omega]at a1
 rw[GG x1,GG x2]at b6
 have hf1:=rW hVD (k:=y.length-1) (by omega) n2 x1
 have k0:=D2.at w0
 have k1:=D2.at w1
 have k2:=D2.at w2
 have k3:=hVD.at x1
 have k4:=hVD.at x2
 have z1:y[((y.length:Int)-1).toNat]? = some f1:=by rw[show ((y.length:Int)-1).toNat=y.length-1 by omega];exact x1
 have z2:y[((y.length:Int)-2).toNat]? = some f2:=by rw[show ((y.length:Int)-2).toNat=y.length-2 by omega];exact x2
 have hr0:(A++W++C)[((j:Int)+(y.length:Int)).toNat]? = some u0:=RC (by omega) w0
 (repeat' (first|(refine AG (fun hc => ?_) (fun hc => ?_)<;>first|(exfalso;omega)|(conv=>whnf))|(refine A3 ?_ ?_;omega;conv=>whnf)|(refine A0 ?_ ?_;omega;conv=>whnf)|(refine CF ?_ ?_;omega;conv=>whnf)|(refine NN ?_ ?_;omega;conv=>whnf)|(refine CR ?_ ?_;omega;conv=>whnf)|(refine I5 (by assumption) ?_;conv=>whnf)|(refine AE ?_;conv=>whnf)))
 have hr1:(A++W++C)[((j:Int)+(y.length:Int)-1).toNat]? = some u1:=RC (by omega) w1
 refine uH hr1 ?_
 (conv=>whnf)
 refine eG (by omega) ?_
 (conv=>whnf)
 refine N8 (by omega) ?_
 (conv=>whnf)
 clear hr0 hr1
 have hr2:(A++W++C)[((j:Int)+(y.length:Int)-2).toNat]? = some u2:=RC (by omega) w2
 generalize htop:u0*4294967296+u1=top at *
 have htb:top<=18446744073709551615:=by omega
 have hU:val W=UL+4294967296^(y.length-2)*(u2+4294967296*top):=by rw[a2,show u1+4294967296*u0=top by omega]
 (repeat' (first|(refine CF ?_ ?_;omega;conv=>whnf)|(refine TA ?_ ?_;omega;conv=>whnf)|(refine VR ?_ ?_ ?_;omega;omega;conv=>whnf)|(refine CR ?_ ?_;omega;conv=>whnf)|(refine BL (by assumption) ?_ rfl ?_;omega;conv=>whnf)))
 refine HG (fun q _=>q) (fun (q r:Nat)=>Gs (val W) (val y) f1 f2 u2 top q r) (fun q r=>[(16,.int .u64 (q:Int)),(17,.int .u64 (r:Int))]) (fun _ _=>[]) [] [] (top/f1) (top%f1) (by (conv=>whnf);exact ⟨rfl,rfl,rfl⟩) (Gs.start hU b6 a1 k2 hV0 (by omega) k3) ?_
 intro q r g ih2
 have hqt:q<=top:=by
  have h3:=g.hq
  have h4:q*1<=q*f1:=Nat.mul_le_mul_left q (by omega)
  omega
 have hr:=g.hr
 have hge:=g.ge
 by_cases hb:4294967296<=q
 ·obtain ⟨y1,y2,y3⟩:=g.next hU b6 a1 hV0 g2 (Or.inl hb)
  (repeat' (first|(refine AG (fun hc => ?_) (fun hc => ?_)<;>first|(exfalso;omega)|(conv=>whnf))|(refine CF ?_ ?_;omega;conv=>whnf)|(refine FQ ?_ ?_;omega;conv=>whnf)|(refine IL ?_ ?_ ?_;omega;omega;conv=>whnf)|(refine CR ?_ ?_;omega;conv=>whnf)|(refine BL (by assumption) ?_ rfl ?_;omega;conv=>whnf)|(refine AE ?_;conv=>whnf)))
  ·obtain ⟨t1,t2⟩:=R8 hU b6 b5 hf1 k4 g2 y2 (Or.inr (by omega))
   exact A4 [] (by (conv=>whnf);exact ⟨rfl,rfl,rfl⟩) (ZI (w:=w) (C:=C) hA hW D2 hVD hv2l hvL hV0 hjl hul hwm hjm t1 y3 t2 hk)
  ·exact A4 [] (by (conv=>whnf);exact ⟨rfl,rfl,rfl⟩) (ih2 (q-1) (r+f1) (by omega) ⟨y2,by omega,y3⟩)
 ·have hmq:=SG (show q<4294967296 by omega) k4
  by_cases hb2:r*4294967296+u2<q*f2
  ·obtain ⟨y1,y2,y3⟩:=g.next hU b6 a1 hV0 g2 (Or.inr hb2)
   (repeat' (first|(refine AG (fun hc => ?_) (fun hc => ?_)<;>first|(exfalso;omega)|(conv=>whnf))|(refine A3 ?_ ?_;omega;conv=>whnf)|(refine A0 ?_ ?_;omega;conv=>whnf)|(refine CF ?_ ?_;omega;conv=>whnf)|(refine FQ ?_ ?_;omega;conv=>whnf)|(refine N7 ?_ ?_;omega;conv=>whnf)|(refine NN ?_ ?_;omega;conv=>whnf)|(refine N8 ?_ ?_;omega;conv=>whnf)|(refine IL ?_ ?_ ?_;omega;omega;conv=>whnf)|(refine CR ?_ ?_;omega;conv=>whnf)|(refine BL (by assumption) ?_ rfl ?_;omega;conv=>whnf)|(refine I5 (by assumption) ?_;conv=>whnf)|(refine AE ?_;conv=>whnf)))
   ·obtain ⟨t1,t2⟩:=R8 hU b6 b5 hf1 k4 g2 y2 (Or.inr (by omega))
    exact A4 [] (by (conv=>whnf);exact ⟨rfl,rfl,rfl⟩) (ZI (w:=w) (C:=C) hA hW D2 hVD hv2l hvL hV0 hjl hul hwm hjm t1 y3 t2 hk)
   ·exact A4 [] (by (conv=>whnf);exact ⟨rfl,rfl,rfl⟩) (ih2 (q-1) (r+f1) (by omega) ⟨y2,by omega,y3⟩)
  ·obtain ⟨t1,t2⟩:=R8 hU b6 b5 hf1 k4 g2 g.hq (Or.inl ⟨by omega,by omega⟩)
   (repeat' (first|(refine AG (fun hc => ?_) (fun hc => ?_)<;>first|(exfalso;omega)|(conv=>whnf))|(refine A3 ?_ ?_;omega;conv=>whnf)|(refine A0 ?_ ?_;omega;conv=>whnf)|(refine CF ?_ ?_;omega;conv=>whnf)|(refine N7 ?_ ?_;omega;conv=>whnf)|(refine NN ?_ ?_;omega;conv=>whnf)|(refine N8 ?_ ?_;omega;conv=>whnf)|(refine CR ?_ ?_;omega;conv=>whnf)|(refine BL (by assumption) ?_ rfl ?_;omega;conv=>whnf)|(refine I5 (by assumption) ?_;conv=>whnf)|(refine AE ?_;conv=>whnf)))
   exact A4 [] (by (conv=>whnf);exact ⟨rfl,rfl,rfl⟩) (ZI (w:=w) (C:=C) hA hW D2 hVD hv2l hvL hV0 hjl hul hwm hjm t1 hge t2 hk)
end
theorem Ag1 {l:List Nat} (hD:A5 l) (h:l[l.length-1]? = some 0):val l<4294967296^(l.length-1):=by
 have hl:=(zS h).1
 have h1:=L9 l (l.length-1) (by omega)
 have h2:=GZ h
 rw[List.drop_of_length_le (show l.length<=l.length-1+1 by omega),IJ]at h2
 rw[h2]at h1
 simp only[Nat.mul_zero,Nat.add_zero]at h1
 have h3:=EV (hD.take (l.length-1))
 rw[List.length_take,Nat.min_eq_left (by omega)]at h3
 omega
theorem iW (N:RefGLib L) {X Y s:Nat} {x u y:List Nat} (hY:Y≠0) (hs31:s<=31) (hUD:A5 u) (hUu:val u=X*2^s) (hU0:u[u.length-1]? = some 0) (hul:x.length+1<=u.length/\u.length<=549755813888) (hVD:A5 y) (hVv:val y=Y*2^s) (hvl:2<=y.length/\y.length<=x.length) (n2:4294967296^(y.length-1)*2147483648<=val y) :
  AA L yY [(10,.row 69 0 1 0 u.length),(11,.sl false (y.map AM)),(9,.int .i64 (s:Int)),(0,.sl false (x.map AM))] [(69,101021,.rw 1 (u.map AM))] (O5 DH (.tup [.sl false ((dg (X/Y)).map AM),.sl false ((dg (X%Y)).map AM),.int .i64 0])):=by
 refine CE (fun (_:Nat)=>0) (fun _=>True) (fun _=>[]) (fun _=>[]) [] [] 0 (by (conv=>whnf);exact ⟨rfl,rfl,rfl⟩) trivial ?_
 intro _ _ _
 (repeat' (first|(refine AG (fun hc => ?_) (fun hc => ?_)<;>first|(exfalso;omega)|(conv=>whnf))|(refine A0 ?_ ?_;omega;conv=>whnf)|(refine CF ?_ ?_;omega;conv=>whnf)|(refine AW ?_;conv=>whnf)|(refine AE ?_;conv=>whnf)))
 refine EB (enc:=AM) 0 (u.length-y.length) (by rfl) (by omega) (by omega) ?_
 (conv=>whnf)
 (repeat' (refine CF ?_ ?_;omega;conv=>whnf))
 have hV0:0<val y:=by
  have:=pF (y.length-1)
  omega
 have hVlt:=EV hVD
 generalize hm:u.length-y.length=m at *
 have hi0:val (u.drop m)<val y:=by
  have h1:(u.drop m).length=y.length:=by simp;omega
  have h2:=Ag1 (l:=u.drop m) (hUD.drop _) (by rw[h1,List.getElem?_drop,show m+(y.length-1)=u.length-1 by omega];exact hU0)
  rw[h1]at h2
  omega
 rw[show (u.length:Int)-y.length-1=((m:Nat):Int)-1 by omega]
 refine F9 (fun n _ _=>n) (fun (n:Nat) (o w:List Nat)=>n<=m/\o.length=u.length/\A5 o/\w.length=m/\A5 w/\val (o.drop n)<val y/\X*2^s=val (o.take n)+4294967296^n*(val (w.drop n)*val y+val (o.drop n))) (fun n o w=>[(14,.int .i64 ((n:Int)-1))]) (fun n o w=>[(69,101021,.rw 1 (o.map AM)),(85,85,.rw 1 (w.map AM))]) [] [] m u (List.replicate m 0) (by (conv=>whnf);exact ⟨rfl,rfl,rfl⟩) ⟨by omega,rfl,hUD,by simp,IQ _,hi0,by rw[<-hUu,List.drop_of_length_le (show (List.replicate m 0).length<=m by simp),IJ,Nat.zero_mul,Nat.zero_add];exact L9 u m (by omega)⟩ ?_
 intro n o w ⟨p1,p2,p3,p4,p5,p6,p7⟩ ih
 rcases n with _|j
 ·clear ih
  rw[List.drop_zero]at p6
  rw[List.take_zero,List.drop_zero,List.drop_zero,IJ,Nat.zero_add,Nat.pow_zero,Nat.one_mul]at p7
  have hdr:val o=val (o.take y.length):=by
   have h1:=RA o y.length
   rcases Nat.eq_zero_or_pos (val (o.drop y.length)) with h2|h2
   ·rw[h2,Nat.mul_zero,Nat.add_zero]at h1;exact h1
   ·have h3:4294967296^y.length*1<=4294967296^y.length*val (o.drop y.length):=Nat.mul_le_mul_left _ h2
    omega
  have hX0:X/Y=val w/\X%Y=val o/2^s:=by
   obtain ⟨z1,z2⟩:=iV (X:=X) (Y:=Y) (Nat.two_pow_pos s)
   rw[<-z1,<-z2,<-hVv,p7]
   have e1:(val w*val y+val o)/val y=val w:=by
    rw[Nat.mul_comm,Nat.mul_add_div hV0,Nat.div_eq_of_lt p6,Nat.add_zero]
   have e2:(val w*val y+val o)%val y=val o:=by
    rw[Nat.mul_comm,Nat.mul_add_mod,Nat.mod_eq_of_lt p6]
   rw[e1,e2]
   exact ⟨rfl,rfl⟩
  rw[hX0.1,hX0.2,hdr]
  have hT:=fun q=>F2 N w q p5 (by omega)
  have htl:(o.take y.length).length<=549755813888:=by rw[List.length_take];omega
  clear p7 hX0 hi0
  rw[<-p4]
  rcases Nat.eq_zero_or_pos s with h0|h0
  ·subst h0
   have hS:=fun q=>kS N (o.take y.length) q 0 (p3.take _) htl (by omega)
   rw[Nat.pow_zero,Nat.mul_one]at hS
   rw[Nat.pow_zero,Nat.div_one]
   (repeat' (first|(refine AG (fun hc => ?_) (fun hc => ?_)<;>first|(exfalso;omega)|(conv=>whnf))|(refine DE (fun _=>rfl) rfl ?_ ?_;(first|rfl|simp);conv=>whnf)|(refine AE ?_;conv=>whnf)|(refine AC (hT _) ?_;conv=>whnf)))
   refine GA y.length rfl (by omega) ?_
   (conv=>whnf)
   refine B0.neg (by omega) ?_
   (conv=>whnf)
   refine GP (enc:=AM) (fun _=>rfl) (by omega) ?_
   (conv=>whnf)
   rw[List.drop_zero,Nat.sub_zero,show -((0:Nat):Int)=((0:Nat):Int) by omega]
   (repeat' (refine AC (hS _) ?_;conv=>whnf))
   exact AY rfl (WE _ _ _)
  ·have hS:=fun q=>Abo N (o.take y.length) q s (p3.take _) htl (by omega)
   (repeat' (first|(refine AG (fun hc => ?_) (fun hc => ?_)<;>first|(exfalso;omega)|(conv=>whnf))|(refine DE (fun _=>rfl) rfl ?_ ?_;(first|rfl|simp);conv=>whnf)|(refine AE ?_;conv=>whnf)|(refine AC (hT _) ?_;conv=>whnf)))
   refine GA y.length rfl (by omega) ?_
   (conv=>whnf)
   refine B0.neg (by omega) ?_
   (conv=>whnf)
   refine GP (enc:=AM) (fun _=>rfl) (by omega) ?_
   (conv=>whnf)
   rw[List.drop_zero,Nat.sub_zero]
   (repeat' (refine AC (hS _) ?_;conv=>whnf))
   exact AY rfl (WE _ _ _)
 ·have e3:((j+1:Nat):Int)-1=j:=by omega
  rw[e3]
  obtain ⟨A,W,C,hA,hW,rfl⟩:=jL o j (y.length+1) (by omega)
  obtain ⟨g1,g2,g3⟩:=jN hA hW p3 p6 hVlt
  obtain ⟨D1,D2,D3⟩:=iQ p3
  have hqb:val W/val y<4294967296:=(Nat.div_lt_iff_lt_mul hV0).2 g2
  have hWV:val W=val W/val y*val y+val W%val y:=by rw[Nat.mul_comm];exact (Nat.div_add_mod _ _).symm
  have hWl:val W%val y<val y:=Nat.mod_lt _ hV0
  have hTot:X*2^s=val A+4294967296^j*val W+4294967296^j*4294967296*(val (w.drop (j+1))*val y):=by
   rw[p7,Nat.mul_add,<-g3,Nat.pow_succ];omega
  have hTot2:=jM hTot hWV
  have hset : ∀ q',q'=val W/val y->val ((w.set j q').drop j)=val W/val y+4294967296*val (w.drop (j+1)):=fun q' h=>by
   rw[GZ (l:=w.set j q') (d:=q') (by rw[List.getElem?_set_self (by omega)]),List.drop_set_of_lt (by omega),h]
  have hlen : ∀ W':List Nat,W'.length=y.length+1->(A++W'++C).length=u.length:=fun W' h=>by
   rw[<-p2];simp [h,hW]
  have hl3:u.length=j+(y.length+1)+C.length:=by rw[<-p2];simp [hA,hW];omega
  refine A4 [] (by (conv=>whnf);exact ⟨rfl,rfl,rfl⟩) (zA (m:=m) (s:=s) (ul:=u.length) (C:=C) hA hW D2 hVD hvl.1 (by omega) hV0 (by omega) n2 g2 hl3 p4 (by omega) (fun W' q' z1 z2 z3 z4 => ?_))
  obtain ⟨t1,t2⟩:=ZQ (A:=A) (W:=W') (C:=C) (j:=j) hA g1
  refine A4 [] (by (conv=>whnf);exact ⟨rfl,rfl,rfl⟩) (ih j (A++W'++C) (w.set j q') (by omega) ⟨by omega,hlen W' z1,(D1.append z2).append D3,by simpa using p4,p5.set _ (by omega),by omega,?_⟩)
  rw[t1,t2,hset q' z4,z3]
  exact hTot2
end Go.Eng
namespace Go.Eng
open F
attribute [local irreducible] AA AF AR AD B0 AU AX A8 A6 BN AP BK BV CN BI AZ BG BQ AB A7 AJ pw BH BF B9 B8 CI B7 CB BM B3
set_option maxHeartbeats 8000000
variable {L:Lib}
theorem kR (N:RefGLib L) (a b:List Nat) (q1 q2:Bool) (hA:A5 a) (hB:A5 b) (la:a.length<=274877906944) (lb:b.length<=274877906944) (h0:val b≠0) :
  Ev L 109 [.sl q1 (a.map AM),.sl q2 (b.map AM)] (.tup [.sl false ((dg (val a/val b)).map AM),.sl false ((dg (val a%val b)).map AM),.int .i64 0]):=by
 have t1:=fun q=>F2 N a q hA (by omega)
 have t2:=fun q=>F2 N b q hB (by omega)
 have l1:=EN hA
 have l2:=EN hB
 have hcmp:=fun q q'=>Z3 N (dg (val a)) (dg (val b)) q q' (DT _) (DT _) (by omega) (by omega)
 rw[BU,BU]at hcmp
 generalize val a=X at *
 generalize val b=Y at *
 have d1:=DT X
 have d2:=DT Y
 have v1:=BU X
 have v2:=BU Y
 have hy1:=TQ h0
 refine Ev.x N.DH rfl rfl ?_
 by_cases h1:(dg Y).length=1
 ·obtain ⟨y0,hy0⟩ : ∃ y0,dg Y=[y0]:=List.length_eq_one_iff.1 h1
  have hyv:Y=y0:=by rw[<-v2,hy0];simp [val]
  subst hyv
  have hyb:Y<4294967296:=d2 Y (by rw[hy0];simp)
  have hyg:(dg Y)[(0:Int).toNat]? = some Y:=by rw[hy0];rfl
  have hsm:=fun q=>Abp N (dg X) Y q d1 (by omega) h0 hyb
  rw[v1]at hsm
  have hrb:X%Y<4294967296:=Nat.lt_trans (Nat.mod_lt _ (by omega)) hyb
  have hT3:=fun q=>F2 N [X%Y] q (G6 hrb) (by simp)
  rw[show val [X%Y]=X%Y by simp [val]]at hT3
  clear hy0 v2
  generalize dg Y=y at *
  (repeat' (first|(refine AG (fun hc => ?_) (fun hc => ?_)<;>first|(exfalso;omega)|(conv=>whnf))|(refine AW ?_;conv=>whnf)|(refine BL (by assumption) ?_ rfl ?_;omega;conv=>whnf)|(refine IM rfl ?_;conv=>whnf)|(refine AE ?_;conv=>whnf)|(refine AC (t1 _) ?_;conv=>whnf)|(refine AC (t2 _) ?_;conv=>whnf)|(refine AC (hsm _) ?_;conv=>whnf)|(refine AC (hT3 _) ?_;conv=>whnf)))
  exact AY rfl (WE _ _ _)
 by_cases hlt:X<Y
 ·rw[<-HX (by omega)]at hcmp
  (repeat' (first|(refine AG (fun hc => ?_) (fun hc => ?_)<;>first|(exfalso;omega)|(conv=>whnf))|(refine AW ?_;conv=>whnf)|(refine AE ?_;conv=>whnf)|(refine AC (t1 _) ?_;conv=>whnf)|(refine AC (t2 _) ?_;conv=>whnf)|(refine AC (hcmp _ _) ?_;conv=>whnf)))
  refine AY ?_ (WE _ _ _)
  rw[Nat.div_eq_of_lt hlt,Nat.mod_eq_of_lt hlt,ET];rfl
 have hge:=WF (show Y<=X by omega)
 generalize C6 X Y=cm at *
 have hn2:2<=(dg Y).length:=by omega
 obtain ⟨yt,hyt,hyt0⟩:=ZF h0
 have hytb:=d2.at hyt
 obtain ⟨b1,b2,b3,b4⟩:=bJ hyt0 hytb
 have hbl:=fun q=>Abl N yt q hyt0 hytb
 generalize hs:32-blen yt=s at *
 have hs31:s<=31:=by omega
 have hsv:=fun q=>kS N (dg Y) q s d2 (by omega) (by omega)
 obtain ⟨n1,n2⟩:=bG d2 hyt (by omega) hs31 b3 b4
 rw[v2]at hsv n1 n2
 have hdr:(dg Y).drop ((dg Y).length-1)=[yt]:=by
  obtain ⟨hi,he⟩:=zS hyt
  rw[List.drop_eq_getElem_cons hi,he,List.drop_of_length_le (by omega)]
 have hvl:(dg (Y*2^s)).length=(dg Y).length:=by
  have a1:=NY.2 n1
  have a2 : ¬ (dg (Y*2^s)).length<=(dg Y).length-1:=fun h=>by
   have:=NY.1 h
   omega
  omega
 have hXl2:(dg (X*2^s)).length<=(dg X).length+1:=by
  refine NY.2 ?_
  have a1:X<4294967296^(dg X).length:=NY.1 (Nat.le_refl _)
  rw[Nat.pow_succ]
  have a2:=UV (s:=s) (by omega)
  exact Nat.lt_of_lt_of_le (Nat.mul_lt_mul_of_pos_right a1 (Nat.two_pow_pos s)) (Nat.mul_le_mul_left _ a2)
 have hXl:(dg X).length<=(dg (X*2^s)).length:=PA (Nat.le_mul_of_pos_right _ (Nat.two_pow_pos s))
 have hll:=PA (show Y<=X by omega)
 generalize hx:dg X=x at *
 generalize hy:dg Y=y at *
 have t3:=fun q=>F2 N x q d1 (by omega)
 rw[v1,hx]at t3
 (repeat' (first|(refine AG (fun hc => ?_) (fun hc => ?_)<;>first|(exfalso;omega)|(conv=>whnf))|(refine CF ?_ ?_;omega;conv=>whnf)|(refine AW ?_;conv=>whnf)|(refine AE ?_;conv=>whnf)|(refine AC (t1 _) ?_;conv=>whnf)|(refine AC (t2 _) ?_;conv=>whnf)|(refine AC (hcmp _ _) ?_;conv=>whnf)))
 rw[show (y.length:Int)-1=((y.length-1:Nat):Int) by omega]
 refine uX (k:=y.length-1) (fun _=>rfl) (by omega) ?_
 (conv=>whnf)
 rw[hdr]
 (repeat' (first|(refine CF ?_ ?_;omega;conv=>whnf)|(refine AC (hbl _) ?_;conv=>whnf)))
 rw[show (32:Int)-(blen yt:Nat)=((s:Nat):Int) by omega]
 refine E6 1000 N.HD rfl rfl ?_
 have hsq:(s:Int)/32=((0:Nat):Int):=by omega
 have hsr:(s:Int)%32=((s:Nat):Int):=by omega
 (repeat' (first|(refine AG (fun hc => ?_) (fun hc => ?_)<;>first|(exfalso;omega)|(conv=>whnf))|(refine P0 ?_ ?_ (fun _ => ?_) (fun _ _ => ?_);omega;omega;all_goals first|(exfalso;omega)|(conv=>whnf))|(refine AW ?_;conv=>whnf)|(refine AE ?_;conv=>whnf)|(refine AC (t3 _) ?_;conv=>whnf)))
 rw[hsq]
 refine EB (enc:=AM) 0 0 rfl rfl (by omega) ?_
 (conv=>whnf)
 skip
 refine F9 (fun i _ _=>x.length-i) (fun (i:Nat) (o:List Nat) (c:Nat)=>i<=x.length/\o.length=i/\A5 o/\c<2^s/\val o+4294967296^i*c=val (x.take i)*2^s) (fun i o c=>[(10,.int .i64 i),(9,.int .u64 (c:Int)),(8,.row 107069 0 1 0 i)]) (fun i o c=>[(107069,107069,.rw 1 (o.map AM))]) [] [] 0 [] 0 (by (conv=>whnf);exact ⟨rfl,rfl,rfl⟩) ⟨by omega,rfl,RV,Nat.two_pow_pos _,by simp [val]⟩ ?_
 intro i o c ⟨p1,p2,p3,p4,p5⟩ ih
 have hps:=UV (s:=s) (by omega)
 by_cases hi:i<x.length
 ·obtain ⟨d,hd⟩ : ∃ d,x[i]? = some d:=⟨_,zE hi⟩
  have hdb:=d1.at hd
  obtain ⟨f1,f2,f3,f4⟩:=Q5 (s:=s) hdb (by omega)
  have hr:=W8 (show s<=64 by omega) f4
  (repeat' (first|(refine AG (fun hc => ?_) (fun hc => ?_)<;>first|(exfalso;omega)|(conv=>whnf))|(refine RJ ?_ (fun _ _ _ => ?_) (fun _ _ _ _ => ?_);omega;all_goals first|(exfalso;omega)|(conv=>whnf))|(refine CR ?_ ?_;omega;conv=>whnf)|(refine AW ?_;conv=>whnf)|(refine BL (by assumption) ?_ rfl ?_;omega;conv=>whnf)|(refine AE ?_;conv=>whnf)))
  rw[hsr]
  refine OA (by omega) f4 ?_
  (conv=>whnf)
  skip
  refine VQ s (Nat.mul_mod_left _ _) p4 (by omega) ?_
  (conv=>whnf)
  have hst:=sB (d:=d) (P:=1) (V:=val o) (p:=4294967296^i) (lo:=c) (X:=val (x.take i)) (s:=s) (by rw[Nat.one_mul,Nat.one_mul];exact p5) rfl
  have hc2:(c+d*2^s)/4294967296<2^s:=by
   rw[Nat.div_lt_iff_lt_mul (by omega)]
   have:=Nat.mul_le_mul_right (2^s) (show d<=4294967295 by omega)
   omega
  generalize c+d*2^s=t at *
  (repeat' (first|(refine FH ?_;conv=>whnf)|(refine EK ?_;conv=>whnf)))
  refine E2 (enc:=AM) (t%4294967296) rfl p2.symm rfl (by omega) (by omega) ?_
  (conv=>whnf)
  (repeat' (first|(refine A0 ?_ ?_;omega;conv=>whnf)|(refine E8 ?_;conv=>whnf)))
  rw[show (o++[t%4294967296]).length=i+1 by simp [p2]]
  refine A4 [(107069,107091)] (by (conv=>whnf);exact ⟨rfl,rfl,rfl⟩) (ih (i+1) (o++[t%4294967296]) (t/4294967296) (by omega) ⟨by omega,by simp;omega,p3.append (G6 (by omega)),hc2,?_⟩)
  rw[NL,p2,DW hd,Nat.pow_succ]
  rw[Nat.one_mul,Nat.one_mul]at hst
  exact hst
 obtain rfl:i=x.length:=by omega
 clear ih
 have hcb:c<4294967296:=by omega
 have hOD:A5 (o++[c]):=p3.append (G6 hcb)
 have hOv:val (o++[c])=X*2^s:=by
  rw[NL,p2,p5,C7 (Nat.le_refl _),v1]
 have hOl:(o++[c]).length=x.length+1:=by simp [p2]
 (repeat' (first|(refine AG (fun hc => ?_) (fun hc => ?_)<;>first|(exfalso;omega)|(conv=>whnf))|(refine D8 ?_ ?_;omega;conv=>whnf)|(refine AW ?_;conv=>whnf)|(refine EK ?_;conv=>whnf)|(refine AE ?_;conv=>whnf)))
 refine E2 (enc:=AM) c rfl p2.symm rfl (by omega) (by omega) ?_
 (conv=>whnf)
 rw[hOl]
 generalize o++[c]=O at *
 rw[<-hOl]
 clear p3 p4 p5
 refine E6 1000 N.GJ rfl rfl ?_
 (repeat' (refine AE ?_;conv=>whnf))
 refine CE (fun n=>n) (fun (n:Nat)=>n<=(O).length /\ ∀ i,n<=i->i<(O).length->(O)[i]? = some 0) (fun n=>[(3,.int .i64 n)]) (fun _=>[]) [] [] (O).length (by (conv=>whnf);exact ⟨rfl,rfl,rfl⟩) ⟨Nat.le_refl _,fun i h1 h2=>by omega⟩ ?_
 intro n ⟨p1,p2⟩ ih
 rcases n with _|n
 ·(repeat' (first|(refine AG (fun hc => ?_) (fun hc => ?_)<;>first|(exfalso;omega)|(conv=>whnf))|(refine AE ?_;conv=>whnf)))
  refine GA 0 (by omega) (by omega) ?_
  (conv=>whnf)
  have hct:=FZ (l:=O) (by assumption) p1 p2 (Or.inl rfl)
  have hcl:(List.take 0 O).length<=(O).length:=by rw[List.length_take];omega
  clear ih p2
  refine VV (enc:=AM) (by omega) ?_
  (conv=>whnf)
  rw[List.drop_zero,Nat.sub_zero]
  generalize hT0:List.take 0 O=T0 at *
  refine O0 (enc:=AM) (fun _=>rfl) (by omega) (by omega) ?_
  (conv=>whnf)
  refine ⟨rfl,_,rfl,?_⟩
  (conv=>whnf)
  (refine ⟨rfl,_,rfl,?_⟩;(conv=>whnf);(repeat' (first|(refine EK ?_;conv=>whnf)|(refine AC (hsv _) ?_;conv=>whnf)));refine E2 (enc:=AM) 0 rfl rfl rfl (by omega) (by omega) ?_;(conv=>whnf);rw[hOv]at hct;rw[hct];exact A4 [] (by (conv=>whnf);exact ⟨rfl,rfl,rfl⟩) (iW N (x:=x) (X:=X) (Y:=Y) (s:=s) (u:=dg (X*2^s)++[0]) (y:=dg (Y*2^s)) h0 hs31 ((DT _).append (G6 (by omega))) (by rw[NL,BU,Nat.mul_zero,Nat.add_zero]) (by simp) (by simp;omega) (DT _) (BU _) (by omega) (by rw[BU,hvl];exact n2)))
 ·have e1:((n+1:Nat):Int)-1=n:=by omega
  (repeat' (first|(refine AG (fun hc => ?_) (fun hc => ?_)<;>first|(exfalso;omega)|(conv=>whnf))|(refine A3 ?_ ?_;omega;conv=>whnf)|(refine CF ?_ ?_;omega;conv=>whnf)|(refine PZ (by assumption) ?_ (fun v hv hb => ?_);omega;conv=>whnf)|(refine AE ?_;conv=>whnf)))
  ·rw[e1]
   exact A4 [] (by (conv=>whnf);exact ⟨rfl,rfl,rfl⟩) (ih n (by omega) ⟨by omega,fun i h1 h2=>by
    by_cases h:i=n
    ·subst h
     rw[e1,Int.toNat_natCast]at hv
     rw[hv];congr 1;omega
    ·exact p2 i (by omega) h2⟩)
  ·refine GA (n+1) (by omega) (by omega) ?_
   (conv=>whnf)
   rw[e1,Int.toNat_natCast]at hv
   have hct:=FZ (l:=O) (by assumption) p1 p2 (Or.inr ⟨_,hv,by omega⟩)
   have hcl:(List.take (n+1) O).length<=(O).length:=by rw[List.length_take];omega
   clear ih p2 hv
   (rw[fS (l:=O)];rotate_left;exact rfl;exact rfl);(conv=>whnf)
   refine VV (enc:=AM) (by omega) ?_
   (conv=>whnf)
   rw[List.drop_zero,Nat.sub_zero]
   generalize hT0:List.take (n+1) O=T0 at *
   refine O0 (enc:=AM) (fun _=>rfl) (by omega) (by omega) ?_
   (conv=>whnf)
   refine ⟨rfl,_,rfl,?_⟩
   (conv=>whnf)
   (refine ⟨rfl,_,rfl,?_⟩;(conv=>whnf);(repeat' (first|(refine EK ?_;conv=>whnf)|(refine AC (hsv _) ?_;conv=>whnf)));refine E2 (enc:=AM) 0 rfl rfl rfl (by omega) (by omega) ?_;(conv=>whnf);rw[hOv]at hct;rw[hct];exact A4 [] (by (conv=>whnf);exact ⟨rfl,rfl,rfl⟩) (iW N (x:=x) (X:=X) (Y:=Y) (s:=s) (u:=dg (X*2^s)++[0]) (y:=dg (Y*2^s)) h0 hs31 ((DT _).append (G6 (by omega))) (by rw[NL,BU,Nat.mul_zero,Nat.add_zero]) (by simp) (by simp;omega) (DT _) (BU _) (by omega) (by rw[BU,hvl];exact n2)))
theorem Abm (N:RefGLib L) (a b:List Nat) (q1 q2:Bool) (hA:A5 a) (hB:A5 b) (la:a.length<=274877906944) (lb:b.length<=274877906944) :
  Ev L 110 [.sl q1 (a.map AM),.sl q2 (b.map AM)] (.sl false ((dg (Nat.gcd (val a) (val b))).map AM)):=by
 have t1:=fun q=>F2 N a q hA (by omega)
 have t2:=fun q=>F2 N b q hB (by omega)
 have l1:=EN hA
 have l2:=EN hB
 generalize val a=X at *
 generalize val b=Y at *
 refine Ev.x N.KY rfl rfl ?_
 (repeat' (first|(refine AE ?_;conv=>whnf)|(refine AC (t1 _) ?_;conv=>whnf)|(refine AC (t2 _) ?_;conv=>whnf)))
 refine HG (fun _ y=>y) (fun (x y:Nat)=>(dg x).length<=274877906944/\(dg y).length<=274877906944/\Nat.gcd x y=Nat.gcd X Y) (fun x y=>[(0,.sl false ((dg x).map AM)),(1,.sl false ((dg y).map AM))]) (fun _ _=>[]) [] [] X Y (by (conv=>whnf);exact ⟨rfl,rfl,rfl⟩) ⟨by omega,by omega,rfl⟩ ?_
 intro x y ⟨p1,p2,p3⟩ ih
 rw[<-p3]
 by_cases h0:y=0
 ·subst h0
  have hl0:(dg 0).length=0:=by rw[ET];rfl
  clear ih
  rw[Nat.gcd_zero_right]
  (repeat' (first|(refine AG (fun hc => ?_) (fun hc => ?_)<;>first|(exfalso;omega)|(conv=>whnf))|(refine AW ?_;conv=>whnf)|(refine AE ?_;conv=>whnf)))
  exact AY rfl (I7 _)
 ·have hp:=TQ h0
  have hD:=fun q q'=>kR N (dg x) (dg y) q q' (DT _) (DT _) p1 p2 (by rw[BU];exact h0)
  rw[BU,BU]at hD
  have hlt:x%y<y:=Nat.mod_lt _ (by omega)
  have hml:=PA (Nat.le_of_lt hlt)
  (repeat' (first|(refine AG (fun hc => ?_) (fun hc => ?_)<;>first|(exfalso;omega)|(conv=>whnf))|(refine AW ?_;conv=>whnf)|(refine AE ?_;conv=>whnf)|(refine AC (hD _ _) ?_;conv=>whnf)))
  rw[p3]
  exact A4 [] (by (conv=>whnf);exact ⟨rfl,rfl,rfl⟩) (ih y (x%y) hlt ⟨p2,by omega,by rw[UD];exact p3⟩)
end Go.Eng

namespace Go.Eng
open F
attribute [local irreducible] AA AF AR AD B0 AU AX A8 A6 BN AP BK BV CN BI AZ BG BQ AB A7 AJ pw BH BF B9 B8 CI B7 CB BM B3
set_option maxHeartbeats 4000000
variable {L:Lib}
theorem JD (N:RefGLib L) (n q:Bool) (m:List Nat) (hm:Sm 274877906944 m):Ev L 111 [.agg (rZ q n m)] (.agg (eZ (zv n m))):=by
 have hT:=fun q=>F2 N m q hm.1 (by have:=hm.2;omega)
 have hz:=HY (val m)
 have ha:=ER n m
 refine Ev.x N.LA rfl rfl ?_
 cases n
 ·rw[EG]at *
  (repeat' (first|(refine AE ?_;conv=>whnf)|(refine AC (hT _) ?_;conv=>whnf)))
  exact AY (EL ha.symm (F5 (by omega))) (DJ _)
 ·rw[N5]at *
  (repeat' (first|(refine AG (fun hc => ?_) (fun hc => ?_)<;>first|(exfalso;omega)|(conv=>whnf))|(refine AW ?_;conv=>whnf)|(refine AE ?_;conv=>whnf)|(refine AC (hT _) ?_;conv=>whnf)))
  ·exact AY (EL ha.symm (NI (by omega))) (DJ _)
  ·exact AY (EL ha.symm (F5 (by omega))) (DJ _)
theorem T4 (N:RefGLib L) (n q:Bool) (m:List Nat) (hm:Sm 274877906944 m):Ev L 113 [.agg (rZ q n m)] (.int .i64 (sgn (zv n m))):=by
 have hT:=fun q=>JD N n q m hm
 generalize zv n m=z at *
 have hz:=HY z.natAbs
 refine Ev.x N.K8 rfl rfl ?_
 (repeat' (first|(refine AG (fun hc => ?_) (fun hc => ?_)<;>first|(exfalso;omega)|(conv=>whnf))|(refine AW ?_;conv=>whnf)|(refine AE ?_;conv=>whnf)|(refine AC (hT _) ?_;conv=>whnf)))
 ·exact C4 (U3 (by omega))
 ·cases hd:decide (z<0)
  ·(conv=>whnf)
   exact C4 (dA (by have:=of_decide_eq_false hd;omega))
  ·(conv=>whnf)
   exact C4 (cZ (of_decide_eq_true hd))
theorem Z5 (N:RefGLib L) (n q:Bool) (m:List Nat) (hm:Sm 274877906944 m):Ev L 114 [.agg (rZ q n m)] (.agg (eZ (-(zv n m)))):=by
 have hT:=fun q=>JD N n q m hm
 generalize zv n m=z at *
 have hz:=HY z.natAbs
 refine Ev.x N.K6 rfl rfl ?_
 (repeat' (first|(refine AE ?_;conv=>whnf)|(refine AC (hT _) ?_;conv=>whnf)))
 cases hd:decide (z<0)
 ·have h1:=of_decide_eq_false hd
  (conv=>whnf)
  (repeat' (first|(refine AG (fun hc => ?_) (fun hc => ?_)<;>first|(exfalso;omega)|(conv=>whnf))|(refine AW ?_;conv=>whnf)))
  ·exact AY (EL (by omega) (NI (by omega))) (DJ _)
  ·exact AY (EL (by omega) (F5 (by omega))) (DJ _)
 ·have h1:=of_decide_eq_true hd
  (conv=>whnf)
  skip
  exact AY (EL (by omega) (F5 (by omega))) (DJ _)
theorem OK (N:RefGLib L) (n1 n2 q1 q2:Bool) (a b:List Nat) (ha:A5 a) (hb:A5 b) (hl:a.length+b.length<=274877906944):Ev L 118 [.agg (rZ q1 n1 a),.agg (rZ q2 n2 b)] (.agg (eZ (zv n1 a*zv n2 b))):=by
 have h1:=fun q q'=>Abn N a b q q' ha hb (by omega)
 have sa:Sm a.length a:=⟨ha,Nat.le_refl _⟩
 have sb:Sm b.length b:=⟨hb,Nat.le_refl _⟩
 have hT:=fun n q=>JD N n q (dg (val a*val b)) ((sa.mul sb rfl).le hl)
 have e : ∀ n,zv n (dg (val a*val b))=bif n then -((val a*val b:Nat):Int) else ((val a*val b:Nat):Int):=fun n=>by unfold zv;rw[BU]
 have e2:zv n1 a*zv n2 b=zv (n1 != n2) (dg (val a*val b)):=by
  rw[e]
  cases n1<;>cases n2<;>simp [EG,N5,Int.mul_neg,Int.neg_mul]
 rw[e2]
 refine Ev.x N.K5 rfl rfl ?_
 cases n1<;>cases n2
 all_goals
  (repeat' (first|(refine AE ?_;conv=>whnf)|(refine AC (h1 _ _) ?_;conv=>whnf)|(refine AC (hT _ _) ?_;conv=>whnf)))
  exact AY rfl (DJ _)
theorem kT (N:RefGLib L) (n1 n2 q1 q2:Bool) (a b:List Nat) (ha:Sm 274877906943 a) (hb:Sm 274877906943 b):Ev L 115 [.agg (rZ q1 n1 a),.agg (rZ q2 n2 b)] (.agg (eZ (zv n1 a+zv n2 b))):=by
 have t1:=fun q=>JD N n1 q a (ha.le (by omega))
 have t2:=fun q=>JD N n2 q b (hb.le (by omega))
 have s1:Sm 274877906943 (dg (zv n1 a).natAbs):=by rw[ER];exact ha.nrm
 have s2:Sm 274877906943 (dg (zv n2 b).natAbs):=by rw[ER];exact hb.nrm
 generalize zv n1 a=x at *
 generalize zv n2 b=y at *
 have h1:=fun q q'=>kQ N (dg x.natAbs) (dg y.natAbs) q q' s1.1 s2.1 (by have:=s1.2;omega) (by have:=s2.2;omega)
 have h2:=fun q q'=>Z4 N (dg x.natAbs) (dg y.natAbs) q q' s1.1 s2.1 (by have:=s1.2;omega) (by have:=s2.2;omega)
 have h3:=fun q q'=>Z4 N (dg y.natAbs) (dg x.natAbs) q q' s2.1 s1.1 (by have:=s2.2;omega) (by have:=s1.2;omega)
 have hcmp:=fun q q'=>Z3 N (dg x.natAbs) (dg y.natAbs) q q' s1.1 s2.1 (by have:=s1.2;omega) (by have:=s2.2;omega)
 rw[BU,BU]at h1 h2 h3 hcmp
 have u1:=fun n q=>JD N n q (dg (x.natAbs+y.natAbs)) (s1.add s2 (by rw[BU,BU];omega))
 have u2:=fun n q=>JD N n q (dg (x.natAbs-y.natAbs)) ((s1.low (V:=x.natAbs-y.natAbs) (by rw[BU];omega)).le (by omega))
 have u3:=fun n q=>JD N n q (dg (y.natAbs-x.natAbs)) ((s2.low (V:=y.natAbs-x.natAbs) (by rw[BU];omega)).le (by omega))
 have e : ∀ n V,zv n (dg V)=bif n then -(V:Int) else (V:Int):=fun n V=>by unfold zv;rw[BU]
 refine Ev.x N.K1 rfl rfl ?_
 (repeat' (first|(refine AE ?_;conv=>whnf)|(refine AC (t1 _) ?_;conv=>whnf)|(refine AC (t2 _) ?_;conv=>whnf)))
 cases hx:decide (x<0)<;>cases hy:decide (y<0)
 ·have g1:=of_decide_eq_false hx
  have g2:=of_decide_eq_false hy
  have hz:x+y=zv false (dg (x.natAbs+y.natAbs)):=by rw[e];simp only[cond_true,cond_false];omega
  rw[hz]
  (conv=>whnf)
  (repeat' (first|(refine AC (h1 _ _) ?_;conv=>whnf)|(refine AC (u1 _ _) ?_;conv=>whnf)))
  exact AY rfl (DJ _)
 ·have g1:=of_decide_eq_false hx
  have g2:=of_decide_eq_true hy
  by_cases hlt:x.natAbs<y.natAbs
  ·have hz:x+y=zv true (dg (y.natAbs-x.natAbs)):=by rw[e];simp only[cond_true,cond_false];omega
   rw[hz]
   rw[<-HX (by omega)]at hcmp
   (conv=>whnf)
   (repeat' (first|(refine AG (fun hc => ?_) (fun hc => ?_)<;>first|(exfalso;omega)|(conv=>whnf))|(refine AC (hcmp _ _) ?_;conv=>whnf)|(refine AC (h3 _ _) ?_;conv=>whnf)|(refine AC (u3 _ _) ?_;conv=>whnf)))
   exact AY rfl (DJ _)
  ·have hz:x+y=zv false (dg (x.natAbs-y.natAbs)):=by rw[e];simp only[cond_true,cond_false];omega
   rw[hz]
   have hge:=WF (show y.natAbs<=x.natAbs by omega)
   generalize C6 (x.natAbs:Nat) (y.natAbs:Nat)=cm at *
   (conv=>whnf)
   (repeat' (first|(refine AG (fun hc => ?_) (fun hc => ?_)<;>first|(exfalso;omega)|(conv=>whnf))|(refine AC (hcmp _ _) ?_;conv=>whnf)|(refine AC (h2 _ _) ?_;conv=>whnf)|(refine AC (u2 _ _) ?_;conv=>whnf)))
   exact AY rfl (DJ _)
 ·have g1:=of_decide_eq_true hx
  have g2:=of_decide_eq_false hy
  by_cases hlt:x.natAbs<y.natAbs
  ·have hz:x+y=zv false (dg (y.natAbs-x.natAbs)):=by rw[e];simp only[cond_true,cond_false];omega
   rw[hz]
   rw[<-HX (by omega)]at hcmp
   (conv=>whnf)
   (repeat' (first|(refine AG (fun hc => ?_) (fun hc => ?_)<;>first|(exfalso;omega)|(conv=>whnf))|(refine AC (hcmp _ _) ?_;conv=>whnf)|(refine AC (h3 _ _) ?_;conv=>whnf)|(refine AC (u3 _ _) ?_;conv=>whnf)))
   exact AY rfl (DJ _)
  ·have hz:x+y=zv true (dg (x.natAbs-y.natAbs)):=by rw[e];simp only[cond_true,cond_false];omega
   rw[hz]
   have hge:=WF (show y.natAbs<=x.natAbs by omega)
   generalize C6 (x.natAbs:Nat) (y.natAbs:Nat)=cm at *
   (conv=>whnf)
   (repeat' (first|(refine AG (fun hc => ?_) (fun hc => ?_)<;>first|(exfalso;omega)|(conv=>whnf))|(refine AC (hcmp _ _) ?_;conv=>whnf)|(refine AC (h2 _ _) ?_;conv=>whnf)|(refine AC (u2 _ _) ?_;conv=>whnf)))
   exact AY rfl (DJ _)
 ·have g1:=of_decide_eq_true hx
  have g2:=of_decide_eq_true hy
  have hz:x+y=zv true (dg (x.natAbs+y.natAbs)):=by rw[e];simp only[cond_true,cond_false];omega
  rw[hz]
  (conv=>whnf)
  (repeat' (first|(refine AC (h1 _ _) ?_;conv=>whnf)|(refine AC (u1 _ _) ?_;conv=>whnf)))
  exact AY rfl (DJ _)
theorem Abs (N:RefGLib L) (n1 n2 q1 q2:Bool) (a b:List Nat) (ha:Sm 274877906943 a) (hb:Sm 274877906943 b):Ev L 116 [.agg (rZ q1 n1 a),.agg (rZ q2 n2 b)] (.agg (eZ (zv n1 a-zv n2 b))):=by
 have t2:=fun q=>Z5 N n2 q b (hb.le (by omega))
 have s2:Sm 274877906943 (dg (-(zv n2 b)).natAbs):=by rw[Int.natAbs_neg,ER];exact hb.nrm
 have h1:=fun q q'=>kT N n1 (decide (-(zv n2 b)<0)) q q' a (dg (-(zv n2 b)).natAbs) ha s2
 rw[EW,<-Int.sub_eq_add_neg]at h1
 refine Ev.x N.K9 rfl rfl ?_
 (repeat' (first|(refine AE ?_;conv=>whnf)|(refine AC (t2 _) ?_;conv=>whnf)|(refine AC (h1 _ _) ?_;conv=>whnf)))
 exact AY rfl (DJ _)
theorem Abq (N:RefGLib L) (n1 n2 q1 q2:Bool) (a b:List Nat) (ha:Sm 274877906943 a) (hb:Sm 274877906943 b):Ev L 117 [.agg (rZ q1 n1 a),.agg (rZ q2 n2 b)] (.int .i64 (sgn (zv n1 a-zv n2 b))):=by
 have h1:=fun q q'=>Abs N n1 n2 q q' a b ha hb
 have s1:Sm 274877906943 (dg (zv n1 a).natAbs):=by rw[ER];exact ha.nrm
 have s2:Sm 274877906943 (dg (zv n2 b).natAbs):=by rw[ER];exact hb.nrm
 have s3:Sm 274877906944 (dg (zv n1 a-zv n2 b).natAbs):=s1.add s2 (by rw[BU,BU];omega)
 have h2:=fun q=>T4 N (decide (zv n1 a-zv n2 b<0)) q (dg (zv n1 a-zv n2 b).natAbs) s3
 rw[EW]at h2
 refine Ev.x N.K2 rfl rfl ?_
 (repeat' (first|(refine AE ?_;conv=>whnf)|(refine AC (h1 _ _) ?_;conv=>whnf)|(refine AC (h2 _) ?_;conv=>whnf)))
 exact C4 rfl
theorem Z6 (N:RefGLib L) (z:Int) (hz : -9223372036854775808<=z/\z<=9223372036854775807):Ev L 112 [.int .i64 z] (.agg (eZ z)):=by
 have two : ∀ k:Nat,k<18446744073709551616 -> ∀ n q,Ev L 111 [.agg [.bool n,.sl q [[.int .u32 ((k%4294967296:Nat):Int)],[.int .u32 ((k/4294967296:Nat):Int)]]]] (.agg (eZ (bif n then -(k:Int) else (k:Int)))):=fun k hk n q=>by
  have:=JD N n q [k%4294967296,k/4294967296] ⟨(ZC hk).2,by simp⟩
  unfold zv at this
  rw[sF hk]at this
  exact this
 refine Ev.x N.K7 rfl rfl ?_
 by_cases h0:0<=z
 ·obtain ⟨k,rfl⟩:=Int.eq_ofNat_of_zero_le h0
  have hT:=two k (by omega)
  (repeat' (first|(refine AG (fun hc => ?_) (fun hc => ?_)<;>first|(exfalso;omega)|(conv=>whnf))|(refine E8 ?_;conv=>whnf)|(refine CR ?_ ?_;omega;conv=>whnf)|(refine D8 ?_ ?_;omega;conv=>whnf)|(refine FH ?_;conv=>whnf)|(refine TD rfl rfl ?_;conv=>whnf)|(refine AE ?_;conv=>whnf)))
  generalize k%4294967296=lo at *
  generalize k/4294967296=hi at *
  (repeat' (refine AC (hT _ _) ?_;conv=>whnf))
  exact AY rfl (DJ _)
 ·obtain ⟨k,hk⟩:=Int.eq_ofNat_of_zero_le (show 0 <= -(z+1) by omega)
  have hz2:z = -((k+1:Nat):Int):=by omega
  have hT:=two (k+1) (by omega)
  (repeat' (first|(refine AG (fun hc => ?_) (fun hc => ?_)<;>first|(exfalso;omega)|(conv=>whnf))|(refine A0 ?_ ?_;omega;conv=>whnf)|(refine uQ ?_;conv=>whnf)|(refine B0.neg ?_ ?_;omega;conv=>whnf)|(refine CR ?_ ?_;omega;conv=>whnf)|(refine AE ?_;conv=>whnf)))
  rw[show IntKind.u64.wrap (-(z+1)+1)=((k+1:Nat):Int) by rw[IntWalk.u64_in _ (by omega)];omega]
  rw[hz2]
  generalize k+1=k1 at *
  (repeat' (first|(refine E8 ?_;conv=>whnf)|(refine D8 ?_ ?_;omega;conv=>whnf)|(refine FH ?_;conv=>whnf)|(refine TD rfl rfl ?_;conv=>whnf)))
  generalize k1%4294967296=lo at *
  generalize k1/4294967296=hi at *
  (repeat' (refine AC (hT _ _) ?_;conv=>whnf))
  exact AY rfl (DJ _)
theorem Abr (N:RefGLib L) (n1 n2 q1 q2:Bool) (a b:List Nat) (ha:Sm 274877906944 a) (hb:Sm 274877906944 b):Ev L 120 [.agg (rZ q1 n1 a),.agg (rZ q2 n2 b)] (.agg (eZ ((Nat.gcd (val a) (val b):Nat):Int))):=by
 have h1:=fun q q'=>Abm N a b q q' ha.1 hb.1 ha.2 hb.2
 refine Ev.x N.K4 rfl rfl ?_
 (repeat' (first|(refine AE ?_;conv=>whnf)|(refine AC (h1 _ _) ?_;conv=>whnf)))
 exact AY (EL (by omega) (F5 (by omega))) (DJ _)
theorem Aaz (n1 n2:Bool) (A B:Nat) (hB:B≠0):(bif n1 then -(A:Int) else (A:Int))/(bif n2 then -(B:Int) else (B:Int))=(bif n1 != n2 then -((if n1=true/\A%B≠0 then A/B+1 else A/B:Nat):Int) else ((if n1=true/\A%B≠0 then A/B+1 else A/B:Nat):Int)) /\
  (bif n1 then -(A:Int) else (A:Int))%(bif n2 then -(B:Int) else (B:Int))=((if n1=true/\A%B≠0 then B-A%B else A%B:Nat):Int):=by
 have hBp:(0:Int)<B:=by omega
 have key : ∀ x:Int,x/(bif n2 then -(B:Int) else (B:Int))=(bif n2 then -(x/B) else x/B)/\x%(bif n2 then -(B:Int) else (B:Int))=x%B:=fun x=>by
  cases n2
  ·exact ⟨rfl,rfl⟩
  ·exact ⟨Int.ediv_neg x B,Int.emod_neg x B⟩
 rw[(key _).1,(key _).2]
 cases n1
 ·have h1:((A:Int))/B=((A/B:Nat):Int):=by simp
  have h2:((A:Int))%B=((A%B:Nat):Int):=by simp
  simp only[cond_false,h1,h2]
  cases n2<;>simp
 ·have hd:=Nat.div_add_mod A B
  have hlt:=Nat.mod_lt A (show B>0 by omega)
  by_cases h0:A%B=0
  ·have e : -(A:Int)=(B:Int)*(-((A/B:Nat):Int)):=by
    rw[h0,Nat.add_zero]at hd
    rw[Int.mul_neg,<-Int.natCast_mul,hd]
   have h1 : -(A:Int)/B = -((A/B:Nat):Int):=by rw[e,Int.mul_ediv_cancel_left _ (by omega)]
   have h2 : -(A:Int)%B=0:=by rw[e,Int.mul_emod_right]
   simp only[cond_true,h1,h2,h0]
   cases n2<;>simp
  ·have e : -(A:Int)=(B:Int)*(-((A/B+1:Nat):Int))+((B-A%B:Nat):Int):=by
    have h3:(B:Int)*((A/B:Nat):Int)+((A%B:Nat):Int)=A:=by rw[<-Int.natCast_mul,<-Int.natCast_add,hd]
    rw[Int.mul_neg,Int.natCast_add,Int.mul_add]
    omega
   have h1 : -(A:Int)/B = -((A/B+1:Nat):Int):=by
    rw[e,Int.mul_add_ediv_left _ _ (by omega),Int.ediv_eq_zero_of_lt (by omega) (by omega),Int.add_zero]
   have h2 : -(A:Int)%B=((B-A%B:Nat):Int):=by
    rw[e,Int.mul_add_emod_self_left,Int.emod_eq_of_lt (by omega) (by omega)]
   simp only[cond_true,h1,h2]
   cases n2<;>simp [h0]
theorem kU (N:RefGLib L) (n1 n2 q1 q2:Bool) (a b:List Nat) (ha:Sm 274877906943 a) (hb:Sm 274877906943 b) (h0:zv n2 b≠0):Ev L 119 [.agg (rZ q1 n1 a),.agg (rZ q2 n2 b)] (.tup [.agg (eZ (zv n1 a/zv n2 b)),.agg (eZ (zv n1 a%zv n2 b)),.int .i64 0]):=by
 have t1:=fun q=>JD N n1 q a (ha.le (by omega))
 have t2:=fun q=>JD N n2 q b (hb.le (by omega))
 have s1:Sm 274877906943 (dg (zv n1 a).natAbs):=by rw[ER];exact ha.nrm
 have s2:Sm 274877906943 (dg (zv n2 b).natAbs):=by rw[ER];exact hb.nrm
 generalize zv n1 a=x at *
 generalize zv n2 b=y at *
 have hDM:=fun q q'=>kR N (dg x.natAbs) (dg y.natAbs) q q' s1.1 s2.1 (by have:=s1.2;omega) (by have:=s2.2;omega) (by rw[BU];omega)
 rw[BU,BU]at hDM
 obtain ⟨e1,e2⟩:=Aaz (decide (x<0)) (decide (y<0)) x.natAbs y.natAbs (by omega)
 have hx:(bif decide (x<0) then -(x.natAbs:Int) else (x.natAbs:Int))=x:=by have:=EW x;unfold zv at this;rw[BU]at this;exact this
 have hy:(bif decide (y<0) then -(y.natAbs:Int) else (y.natAbs:Int))=y:=by have:=EW y;unfold zv at this;rw[BU]at this;exact this
 rw[hx,hy]at e1 e2
 rw[e1,e2]
 have l1:=s1.2
 have l2:=s2.2
 have hq:Sm 274877906943 (dg (x.natAbs/y.natAbs)):=s1.low (by rw[BU];exact Nat.div_le_self _ _)
 have hr:Sm 274877906943 (dg (x.natAbs%y.natAbs)):=s2.low (by rw[BU];exact Nat.le_of_lt (Nat.mod_lt _ (by omega)))
 have hrz:=HY (x.natAbs%y.natAbs)
 have hone:Ev L 103 [.sl false ((dg (x.natAbs/y.natAbs)).map AM),.sl true [[.int .u32 1]]] (.sl false ((dg (x.natAbs/y.natAbs+1)).map AM)):=by
  have:=kQ N (dg (x.natAbs/y.natAbs)) [1] false true (DT _) (G6 (by omega)) (by have:=hq.2;omega) (by simp)
  rw[BU,show val [1]=1 from rfl]at this
  exact this
 have hq1:Sm 274877906944 (dg (x.natAbs/y.natAbs+1)):=hq.add (b:=[1]) (dC (by omega) (by omega)) (by rw[BU];simp [val])
 have hsub:=fun q q'=>Z4 N (dg y.natAbs) (dg (x.natAbs%y.natAbs)) q q' s2.1 hr.1 (by omega) (by have:=hr.2;omega)
 rw[BU,BU]at hsub
 have u1:=fun n q=>JD N n q (dg (x.natAbs/y.natAbs)) (hq.le (by omega))
 have u2:=fun n q=>JD N n q (dg (x.natAbs/y.natAbs+1)) hq1
 have ez : ∀ n V,zv n (dg V)=bif n then -(V:Int) else (V:Int):=fun n V=>by unfold zv;rw[BU]
 have fin : ∀ (z:Int) (V:Nat),AJ (.tup [.agg (eZ z),.agg [.bool false,.sl false ((dg V).map AM)],.int .i64 0]) (.tup [.agg (eZ z),.agg (eZ (V:Int)),.int .i64 0]):=fun z V=>by
  have e3:AV.agg (eZ (V:Int)) = .agg [.bool false,.sl false ((dg V).map AM)]:=(EL (by omega) (F5 (by omega))).symm
  rw[e3]
  refine AY rfl ?_
  simp only[A9,CY,and_true,true_and]
  exact ⟨CU _,CU _⟩
 clear e1 e2 hx hy
 generalize x.natAbs/y.natAbs=qq at *
 generalize x.natAbs%y.natAbs=rr at *
 refine Ev.x N.K3 rfl rfl ?_
 (repeat' (first|(refine AG (fun hc => ?_) (fun hc => ?_)<;>first|(exfalso;omega)|(conv=>whnf))|(refine AE ?_;conv=>whnf)|(refine AC (t1 _) ?_;conv=>whnf)|(refine AC (t2 _) ?_;conv=>whnf)|(refine AC (hDM _ _) ?_;conv=>whnf)))
 generalize decide (x<0)=p at *
 generalize decide (y<0)=r at *
 cases p
 ·rw[if_neg (by simp),if_neg (by simp),<-ez]
  cases r
  all_goals
   (conv=>whnf)
   (repeat' (refine AC (u1 _ _) ?_;conv=>whnf))
   exact fin _ _
 ·by_cases hr0:rr=0
  ·rw[if_neg (by simp [hr0]),if_neg (by simp [hr0]),<-ez]
   cases r
   all_goals
    (conv=>whnf)
    (repeat' (first|(refine AG (fun hc => ?_) (fun hc => ?_)<;>first|(exfalso;omega)|(conv=>whnf))|(refine AW ?_;conv=>whnf)|(refine AC (u1 _ _) ?_;conv=>whnf)))
    exact fin _ _
  ·rw[if_pos ⟨rfl,hr0⟩,if_pos ⟨rfl,hr0⟩,<-ez]
   cases r
   all_goals
    (conv=>whnf)
    (repeat' (first|(refine AG (fun hc => ?_) (fun hc => ?_)<;>first|(exfalso;omega)|(conv=>whnf))|(refine AW ?_;conv=>whnf)|(refine IM rfl ?_;conv=>whnf)|(refine AC (hone) ?_;conv=>whnf)|(refine AC (hsub _ _) ?_;conv=>whnf)|(refine AC (u2 _ _) ?_;conv=>whnf)))
    exact fin _ _
end Go.Eng

namespace Go.Eng
open F
attribute [local irreducible] AA AF AR AD B0 AU AX A8 A6 BN AP BK BV CN BI AZ BG BQ AB A7 AJ pw BH BF B9 B8 CI B7 CB BM B3
set_option maxHeartbeats 4000000
variable {L:Lib}
theorem iP:dg 1=[1]:=by rw[IP (by omega)];simp [ET]
theorem fR:AV.agg [.bool false,.sl false [],.sl false [[.int .u32 1]]] = .agg (eQ 0):=by
 show _=AV.agg (rQ _ _ _ _ _)
 rw[Rat.zero_num,Rat.zero_den,iP,show (0:Int).natAbs=0 from rfl,ET];rfl
theorem yU {x y:Int} (hy:y≠0):(Rat.divInt x y).num=(if y<0 then -(x/((Nat.gcd x.natAbs y.natAbs:Nat):Int)) else x/((Nat.gcd x.natAbs y.natAbs:Nat):Int))/\(Rat.divInt x y).den=(y/((Nat.gcd x.natAbs y.natAbs:Nat):Int)).natAbs:=by
 have h1:=Rat.num_divInt x y
 have h2:=Rat.den_divInt x y
 rw[if_neg hy]at h2
 have hg:Int.gcd y x=Nat.gcd x.natAbs y.natAbs:=by rw[Int.gcd,Nat.gcd_comm]
 rw[hg]at h1 h2
 have hgp:0<Nat.gcd x.natAbs y.natAbs:=Nat.gcd_pos_of_pos_right _ (by omega)
 have dx:((Nat.gcd x.natAbs y.natAbs:Nat):Int) ∣ x:=Int.ofNat_dvd_left.2 (Nat.gcd_dvd_left _ _)
 have dy:((Nat.gcd x.natAbs y.natAbs:Nat):Int) ∣ y:=Int.ofNat_dvd_left.2 (Nat.gcd_dvd_right _ _)
 generalize Nat.gcd x.natAbs y.natAbs=g at *
 rw[h1,h2]
 obtain ⟨u,rfl⟩:=dx
 obtain ⟨v,rfl⟩:=dy
 have hg0:(g:Int)≠0:=by omega
 refine ⟨?_,?_⟩
 ·rw[Int.mul_ediv_cancel_left _ hg0]
  split
  ·rename_i h
   rw[Int.sign_eq_neg_one_of_neg h,show -1*((g:Int)*u)=g*(-u) by rw[Int.mul_neg];omega,Int.mul_ediv_cancel_left _ hg0]
  ·rw[Int.sign_eq_one_of_pos (by omega),Int.one_mul,Int.mul_ediv_cancel_left _ hg0]
 ·rw[Int.mul_ediv_cancel_left _ hg0,Int.natAbs_mul,Int.natAbs_natCast,Nat.mul_div_cancel_left _ hgp]
theorem T5 (N:RefGLib L) (n1 n2 q1 q2:Bool) (a b:List Nat) (ha:Sm 274877906943 a) (hb:Sm 274877906943 b):Ev L 121 [.agg (rZ q1 n1 a),.agg (rZ q2 n2 b)] (.agg (eQ (Rat.divInt (zv n1 a) (zv n2 b)))):=by
 have t1:=fun q=>T4 N n1 q a (ha.le (by omega))
 have t2:=fun q=>T4 N n2 q b (hb.le (by omega))
 by_cases h1:zv n1 a=0
 ·rw[h1,Rat.zero_divInt,<-fR]
  rw[h1,<-U3 rfl]at t1
  refine Ev.x N.HE rfl rfl ?_
  (repeat' (first|(refine AG (fun hc => ?_) (fun hc => ?_)<;>first|(exfalso;omega)|(conv=>whnf))|(refine IM rfl ?_;conv=>whnf)|(refine AE ?_;conv=>whnf)|(refine AC (t1 _) ?_;conv=>whnf)))
  exact AY rfl (WB false [] [1])
 have s1:sgn (zv n1 a)≠0:=by unfold sgn;split<;>(try split)<;>omega
 by_cases h2:zv n2 b=0
 ·rw[h2,Rat.divInt_zero,<-fR]
  rw[h2,<-U3 rfl]at t2
  generalize sgn (zv n1 a)=sg at *
  refine Ev.x N.HE rfl rfl ?_
  (repeat' (first|(refine AG (fun hc => ?_) (fun hc => ?_)<;>first|(exfalso;omega)|(conv=>whnf))|(refine IM rfl ?_;conv=>whnf)|(refine AE ?_;conv=>whnf)|(refine AC (t1 _) ?_;conv=>whnf)|(refine AC (t2 _) ?_;conv=>whnf)))
  exact AY rfl (WB false [] [1])
 have s2:sgn (zv n2 b)≠0:=by unfold sgn;split<;>(try split)<;>omega
 obtain ⟨p1,p2⟩:=yU (x:=zv n1 a) h2
 have hG:=fun q q'=>Abr N n1 n2 q q' a b (ha.le (by omega)) (hb.le (by omega))
 have hle:Nat.gcd (val a) (val b)<=val b:=Nat.gcd_le_right _ (by have:=ER n2 b;omega)
 have hgp:0<Nat.gcd (val a) (val b):=Nat.gcd_pos_of_pos_right _ (by have:=ER n2 b;omega)
 have sg:Sm 274877906943 (dg (Nat.gcd (val a) (val b))):=hb.low hle
 rw[ER,ER]at p1 p2
 have hgf:decide (((Nat.gcd (val a) (val b):Nat):Int)<0)=false:=by simp
 have sg':Sm 274877906943 (dg (((Nat.gcd (val a) (val b):Nat):Int)).natAbs):=by rw[Int.natAbs_natCast];exact sg
 have zg:zv (decide (((Nat.gcd (val a) (val b):Nat):Int)<0)) (dg (((Nat.gcd (val a) (val b):Nat):Int)).natAbs)=((Nat.gcd (val a) (val b):Nat):Int):=EW _
 have hD1:=fun q q'=>kU N n1 _ q q' a _ ha sg' (by rw[zg];omega)
 have hD2:=fun q q'=>kU N n2 _ q q' b _ hb sg' (by rw[zg];omega)
 rw[zg]at hD1 hD2
 have hnb:Sm 274877906943 (dg (zv n1 a/((Nat.gcd (val a) (val b):Nat):Int)).natAbs):=ha.low (by
  have:(zv n1 a/((Nat.gcd (val a) (val b):Nat):Int)).natAbs<=(zv n1 a).natAbs:=Int.natAbs_ediv_le_natAbs _ _
  rw[ER]at this;exact this)
 have hg0:0<((Nat.gcd (val a) (val b):Nat):Int):=by omega
 generalize ((Nat.gcd (val a) (val b):Nat):Int)=g at *
 generalize zv n1 a=x at *
 generalize zv n2 b=y at *
 generalize sgn x=sx at *
 generalize sgn y=sy at *
 have hN:=fun q=>Z5 N (decide (x/g<0)) q (dg (x/g).natAbs) (hnb.le (by omega))
 rw[EW]at hN
 have hyd:decide (y/g<0)=decide (y<0):=by
  congr 1
  rw[eq_iff_iff,Int.ediv_lt_iff_lt_mul (by omega),Int.zero_mul]
 refine Ev.x N.HE rfl rfl ?_
 (repeat' (first|(refine AG (fun hc => ?_) (fun hc => ?_)<;>first|(exfalso;omega)|(conv=>whnf))|(refine AE ?_;conv=>whnf)|(refine AC (t1 _) ?_;conv=>whnf)|(refine AC (t2 _) ?_;conv=>whnf)|(refine AC (hG _ _) ?_;conv=>whnf)|(refine AC (hD1 _ _) ?_;conv=>whnf)|(refine AC (hD2 _ _) ?_;conv=>whnf)))
 cases hyn:decide (y/g<0)
 ·rw[hyn]at hyd
  rw[if_neg (of_decide_eq_false hyd.symm)]at p1
  (conv=>whnf)
  skip
  refine AY ?_ (DS _)
  show _=AV.agg (rQ _ _ _ _ _)
  rw[p1,p2]
 ·rw[hyn]at hyd
  rw[if_pos (of_decide_eq_true hyd.symm)]at p1
  (conv=>whnf)
  (repeat' (refine AC (hN _) ?_;conv=>whnf))
  refine AY ?_ (DS _)
  show _=AV.agg (rQ _ _ _ _ _)
  rw[p1,p2]
theorem yV {z:Int} {d:List Nat}:Rat.divInt z (zv false d)=mkRat z (val d):=by rw[EG,Rat.divInt_ofNat]
def uR (n:Bool) (m d:List Nat) (n':Bool) (m' d':List Nat) (k:Nat):Prop:=Sm k m'/\Sm k d'/\val d'≠0/\qv n m d=mkRat (zv n' m') (val d')
theorem gJ (n:Bool) (m d:List Nat):A9 (.tup [.agg (rZ false n m),.agg (rZ false false d)]):=by
 simp only[A9,CY,and_true,true_and]
 exact ⟨CU _,CU _⟩
theorem N1 (N:RefGLib L) (n q:Bool) (m d:List Nat) (k:Nat) (hk:1<=k/\k<=274877906943) (hm:Sm k m) (hd:Sm k d) : ∃ n' m' d',Ev L 122 [.agg (rQ false q n m d)] (.tup [.agg (rZ false n' m'),.agg (rZ false false d')])/\uR n m d n' m' d' k:=by
 have t1:=fun q=>F2 N d q hd.1 (by have:=hd.2;omega)
 have hl:=HY (val d)
 by_cases h0:val d=0
 ·refine ⟨false,[],[1],?_,qL _,dC hk.1 (by omega),by decide,by unfold qv;rw[h0,Rat.mkRat_zero,sL,Rat.zero_mkRat]⟩
  refine Ev.x N.H9 rfl rfl ?_
  (repeat' (first|(refine AG (fun hc => ?_) (fun hc => ?_)<;>first|(exfalso;omega)|(conv=>whnf))|(refine AW ?_;conv=>whnf)|(refine IM rfl ?_;conv=>whnf)|(refine AE ?_;conv=>whnf)|(refine AC (t1 _) ?_;conv=>whnf)))
  exact AY rfl (gJ false [] [1])
 ·refine ⟨n,m,dg (val d),?_,hm,hd.nrm,by rw[BU];exact h0,by rw[BU];rfl⟩
  refine Ev.x N.H9 rfl rfl ?_
  (repeat' (first|(refine AG (fun hc => ?_) (fun hc => ?_)<;>first|(exfalso;omega)|(conv=>whnf))|(refine AW ?_;conv=>whnf)|(refine AE ?_;conv=>whnf)|(refine AC (t1 _) ?_;conv=>whnf)))
  exact AY rfl (gJ _ _ _)
theorem Abw (N:RefGLib L) (n q:Bool) (m d:List Nat) (hm:Sm 274877906943 m) (hd:Sm 274877906943 d):Ev L 123 [.agg (rQ false q n m d)] (.agg (eQ (qv n m d))):=by
 obtain ⟨n',m',d',hp,s1,s2,s3,s4⟩:=N1 N n q m d 274877906943 (by omega) hm hd
 have hr:=fun q q'=>T5 N n' false q q' m' d' s1 s2
 rw[yV,<-s4]at hr
 refine Ev.x N.LL rfl rfl ?_
 (repeat' (first|(refine AE ?_;conv=>whnf)|(refine AC (hp) ?_;conv=>whnf)|(refine AC (hr _ _) ?_;conv=>whnf)))
 exact AY rfl (DS _)
theorem wO (z:Int):AV.agg [.bool (decide (z<0)),.sl false ((dg z.natAbs).map AM),.sl false [[.int .u32 1]]] = .agg (eQ (z:Rat)):=by
 show _=AV.agg (rQ _ _ _ _ _)
 rw[Rat.num_intCast,Rat.den_intCast,iP];rfl
theorem R4 (N:RefGLib L) (z:Int) (hz : -9223372036854775808<=z/\z<=9223372036854775807):Ev L 124 [.int .i64 z] (.agg (eQ (z:Rat))):=by
 have h1:=Z6 N z hz
 refine Ev.x N.LH rfl rfl ?_
 (repeat' (first|(refine IM rfl ?_;conv=>whnf)|(refine AE ?_;conv=>whnf)|(refine AC (h1) ?_;conv=>whnf)))
 exact AY (wO z) (DS _)
theorem qM {z:Int} (hz : -9223372036854775808<=z/\z<=9223372036854775808):Sm 2 (dg z.natAbs):=Sm.dg (by omega)
theorem kV (N:RefGLib L) (x y:Int) (hx : -9223372036854775808<=x/\x<=9223372036854775807) (hy : -9223372036854775808<=y/\y<=9223372036854775807):Ev L 125 [.int .i64 x,.int .i64 y] (.agg (eQ (Rat.divInt x y))):=by
 have h1:=Z6 N x hx
 have h2:=Z6 N y hy
 have hr:=fun q q'=>T5 N (decide (x<0)) (decide (y<0)) q q' _ _ ((qM (z:=x) (by omega)).le (by omega)) ((qM (z:=y) (by omega)).le (by omega))
 rw[EW,EW]at hr
 refine Ev.x N.LE rfl rfl ?_
 (repeat' (first|(refine AE ?_;conv=>whnf)|(refine AC (h1) ?_;conv=>whnf)|(refine AC (h2) ?_;conv=>whnf)|(refine AC (hr _ _) ?_;conv=>whnf)))
 exact AY rfl (DS _)
theorem OV {k l:Nat} {n1 n2:Bool} {a b:List Nat} (ha:Sm k a) (hb:Sm l b):Sm (k+l) (dg (zv n1 a*zv n2 b).natAbs):=ha.mul hb (by rw[Int.natAbs_mul,ER,ER])
theorem Agu {k:Nat} {x y:Int} (ha:Sm k (dg x.natAbs)) (hb:Sm k (dg y.natAbs)):Sm (k+1) (dg (x+y).natAbs):=ha.add hb (by rw[BU,BU];omega)
theorem Abt (N:RefGLib L) (k:Nat) (hk:1<=k/\k<=68719476736) (n1 n2 q2 q4:Bool) (m1 d1 m2 d2:List Nat) (hm1:Sm k m1) (hd1:Sm k d1) (hm2:Sm k m2) (hd2:Sm k d2) :
  Ev L 126 [.agg (rQ false q2 n1 m1 d1),.agg (rQ false q4 n2 m2 d2)] (.agg (eQ (qv n1 m1 d1+qv n2 m2 d2))):=by
 obtain ⟨a1,a2,a3,hr1,s1,s2,s3,s5⟩:=N1 N n1 q2 m1 d1 k (by omega) hm1 hd1
 obtain ⟨b1,b2,b3,hr2,t1,t2,t3,t5⟩:=N1 N n2 q4 m2 d2 k (by omega) hm2 hd2
 have l1:=s1.2
 have l2:=s2.2
 have l3:=t1.2
 have l4:=t2.2
 rw[s5,t5,W4 s3 t3,<-EG b3,<-EG a3]
 have hM1:=fun q q'=>OK N a1 false q q' a2 b3 s1.1 t2.1 (by omega)
 have hM2:=fun q q'=>OK N b1 false q q' b2 a3 t1.1 s2.1 (by omega)
 have hM3:=fun q q'=>OK N false false q q' a3 b3 s2.1 t2.1 (by omega)
 have g1:Sm (k+k) (dg (zv a1 a2*zv false b3).natAbs):=OV s1 t2
 have g2:Sm (k+k) (dg (zv b1 b2*zv false a3).natAbs):=OV t1 s2
 have g3:=Agu g1 g2
 have g4:Sm (k+k) (dg (zv false a3*zv false b3).natAbs):=OV s2 t2
 have hA:=fun q q'=>kT N (decide (zv a1 a2*zv false b3<0)) (decide (zv b1 b2*zv false a3<0)) q q' _ _ (g1.le (by omega)) (g2.le (by omega))
 rw[EW,EW]at hA
 have hR:=fun q q'=>T5 N (decide (zv a1 a2*zv false b3+zv b1 b2*zv false a3<0)) (decide (zv false a3*zv false b3<0)) q q' _ _ (g3.le (by omega)) (g4.le (by omega))
 rw[EW,EW,show zv false a3*zv false b3=((val a3*val b3:Nat):Int) by rw[EG,EG];simp,Rat.divInt_ofNat]at hR
 rw[show zv false a3*zv false b3=((val a3*val b3:Nat):Int) by rw[EG,EG];simp]at hM3
 refine Ev.x N.LB rfl rfl ?_
 (repeat' (first|(refine AE ?_;conv=>whnf)|(refine AC (hr1) ?_;conv=>whnf)|(refine AC (hr2) ?_;conv=>whnf)|(refine AC (hM1 _ _) ?_;conv=>whnf)|(refine AC (hM2 _ _) ?_;conv=>whnf)|(refine AC (hA _ _) ?_;conv=>whnf)|(refine AC (hM3 _ _) ?_;conv=>whnf)|(refine AC (hR _ _) ?_;conv=>whnf)))
 exact AY rfl (DS _)
theorem Abv (N:RefGLib L) (k:Nat) (hk:1<=k/\k<=68719476736) (n1 n2 q2 q4:Bool) (m1 d1 m2 d2:List Nat) (hm1:Sm k m1) (hd1:Sm k d1) (hm2:Sm k m2) (hd2:Sm k d2) :
  Ev L 128 [.agg (rQ false q2 n1 m1 d1),.agg (rQ false q4 n2 m2 d2)] (.agg (eQ (qv n1 m1 d1*qv n2 m2 d2))):=by
 obtain ⟨a1,a2,a3,hr1,s1,s2,s3,s5⟩:=N1 N n1 q2 m1 d1 k (by omega) hm1 hd1
 obtain ⟨b1,b2,b3,hr2,t1,t2,t3,t5⟩:=N1 N n2 q4 m2 d2 k (by omega) hm2 hd2
 have l1:=s1.2
 have l2:=s2.2
 have l3:=t1.2
 have l4:=t2.2
 rw[s5,t5,bQ]
 have hM1:=fun q q'=>OK N a1 b1 q q' a2 b2 s1.1 t1.1 (by omega)
 have hM3:=fun q q'=>OK N false false q q' a3 b3 s2.1 t2.1 (by omega)
 have g1:Sm (k+k) (dg (zv a1 a2*zv b1 b2).natAbs):=OV s1 t1
 have g4:Sm (k+k) (dg (zv false a3*zv false b3).natAbs):=OV s2 t2
 have hR:=fun q q'=>T5 N (decide (zv a1 a2*zv b1 b2<0)) (decide (zv false a3*zv false b3<0)) q q' _ _ (g1.le (by omega)) (g4.le (by omega))
 rw[EW,EW,show zv false a3*zv false b3=((val a3*val b3:Nat):Int) by rw[EG,EG];simp,Rat.divInt_ofNat]at hR
 rw[show zv false a3*zv false b3=((val a3*val b3:Nat):Int) by rw[EG,EG];simp]at hM3
 refine Ev.x N.LF rfl rfl ?_
 (repeat' (first|(refine AE ?_;conv=>whnf)|(refine AC (hr1) ?_;conv=>whnf)|(refine AC (hr2) ?_;conv=>whnf)|(refine AC (hM1 _ _) ?_;conv=>whnf)|(refine AC (hM3 _ _) ?_;conv=>whnf)|(refine AC (hR _ _) ?_;conv=>whnf)))
 exact AY rfl (DS _)
theorem nS {a b:Int} {d e:Nat} (hd:d≠0) (he:e≠0):sgn (a*e-b*d)=sgn (mkRat a d-mkRat b e).num:=by
 have h:mkRat a d-mkRat b e=mkRat (a*e-b*d) (d*e):=by
  rw[Rat.sub_eq_add_neg,Rat.neg_mkRat,W4 hd he,Int.neg_mul,<-Int.sub_eq_add_neg]
 rw[h,nU (Nat.mul_ne_zero hd he)]
theorem Abu (N:RefGLib L) (k:Nat) (hk:1<=k/\k<=68719476736) (n1 n2 q2 q4:Bool) (m1 d1 m2 d2:List Nat) (hm1:Sm k m1) (hd1:Sm k d1) (hm2:Sm k m2) (hd2:Sm k d2) :
  Ev L 127 [.agg (rQ false q2 n1 m1 d1),.agg (rQ false q4 n2 m2 d2)] (.int .i64 (sgn (qv n1 m1 d1-qv n2 m2 d2).num)):=by
 obtain ⟨a1,a2,a3,hr1,s1,s2,s3,s5⟩:=N1 N n1 q2 m1 d1 k (by omega) hm1 hd1
 obtain ⟨b1,b2,b3,hr2,t1,t2,t3,t5⟩:=N1 N n2 q4 m2 d2 k (by omega) hm2 hd2
 have l1:=s1.2
 have l2:=s2.2
 have l3:=t1.2
 have l4:=t2.2
 rw[s5,t5,<-nS s3 t3,<-EG b3,<-EG a3]
 have hM1:=fun q q'=>OK N a1 false q q' a2 b3 s1.1 t2.1 (by omega)
 have hM2:=fun q q'=>OK N b1 false q q' b2 a3 t1.1 s2.1 (by omega)
 have g1:Sm (k+k) (dg (zv a1 a2*zv false b3).natAbs):=OV s1 t2
 have g2:Sm (k+k) (dg (zv b1 b2*zv false a3).natAbs):=OV t1 s2
 have hC:=fun q q'=>Abq N (decide (zv a1 a2*zv false b3<0)) (decide (zv b1 b2*zv false a3<0)) q q' _ _ (g1.le (by omega)) (g2.le (by omega))
 rw[EW,EW]at hC
 refine Ev.x N.LC rfl rfl ?_
 (repeat' (first|(refine AE ?_;conv=>whnf)|(refine AC (hr1) ?_;conv=>whnf)|(refine AC (hr2) ?_;conv=>whnf)|(refine AC (hM1 _ _) ?_;conv=>whnf)|(refine AC (hM2 _ _) ?_;conv=>whnf)|(refine AC (hC _ _) ?_;conv=>whnf)))
 exact C4 rfl
end Go.Eng

namespace Go.Eng
open F
attribute [local irreducible] AA AF AR AD B0 AU AX A8 A6 BN AP BK BV CN BI AZ BG BQ AB A7 AJ pw BH BF B9 B8 CI B7 CB BM B3
set_option maxHeartbeats 4000000
variable {L:Lib}
theorem Bt.sm3 {k:Nat} {x:Rat} (h:Bt k x) (hk:k<2199023255552):Sm 68719476736 (dg x.num.natAbs)/\Sm 68719476736 (dg x.den):=h.dig (by omega)
theorem ZV (N:RefGLib L) {x y:Rat} {k l:Nat} (hx:Bt k x) (hy:Bt l y) (hk:k<2199023255552) (hl:l<2199023255552):Ev L 126 [.agg (eQ x),.agg (eQ y)] (.agg (eQ (x+y))):=by
 have:=Abt N 68719476736 (by omega) (decide (x.num<0)) (decide (y.num<0)) false false _ _ _ _ (hx.sm3 hk).1 (hx.sm3 hk).2 (hy.sm3 hl).1 (hy.sm3 hl).2
 rw[EZ,EZ]at this
 exact this
theorem TZ (N:RefGLib L) {x y:Rat} {k l:Nat} (hx:Bt k x) (hy:Bt l y) (hk:k<2199023255552) (hl:l<2199023255552):Ev L 128 [.agg (eQ x),.agg (eQ y)] (.agg (eQ (x*y))):=by
 have:=Abv N 68719476736 (by omega) (decide (x.num<0)) (decide (y.num<0)) false false _ _ _ _ (hx.sm3 hk).1 (hx.sm3 hk).2 (hy.sm3 hl).1 (hy.sm3 hl).2
 rw[EZ,EZ]at this
 exact this
theorem WS (N:RefGLib L) {x:Rat} {k:Nat} (hx:Bt k x) (hk:k<2199023255552):Ev L 123 [.agg (eQ x)] (.agg (eQ x)):=by
 have:=Abw N (decide (x.num<0)) false _ _ ((hx.sm3 hk).1.le (by omega)) ((hx.sm3 hk).2.le (by omega))
 rw[EZ]at this
 exact this
theorem kC (N:RefGLib L) {x y:Rat} {k l:Nat} (hx:Bt k x) (hy:Bt l y) (hk:k<2199023255552) (hl:l<2199023255552):Ev L 127 [.agg (eQ x),.agg (eQ y)] (.int .i64 (sgn (x-y).num)):=by
 have:=Abu N 68719476736 (by omega) (decide (x.num<0)) (decide (y.num<0)) false false _ _ _ _ (hx.sm3 hk).1 (hx.sm3 hk).2 (hy.sm3 hl).1 (hy.sm3 hl).2
 rw[EZ,EZ]at this
 exact this
theorem U2 {x y:Rat}:sgn (x-y).num=0↔x=y:=by
 have h:sgn (x-y).num=0↔(x-y).num=0:=by unfold sgn;split<;>(try split)<;>omega
 rw[h,Rat.num_eq_zero]
 constructor
 ·intro h;grind
 ·rintro rfl;exact Rat.sub_self
theorem ZT (N:RefGLib L) (a b:List Rat) (q1 q2:Bool) (k:Nat) (ha:Bs k a) (hb:Bs k b) (hk:k<2199023255552) (hl:a.length<=1099511627776):Ev L 129 [.sl q1 (a.map eQ),.sl q2 (b.map eQ)] (.bool (decide (a=b))):=by
 refine Ev.x N.LR rfl rfl ?_
 by_cases hlen:a.length=b.length
 ·(repeat' (first|(refine AG (fun hc => ?_) (fun hc => ?_)<;>first|(exfalso;omega)|(conv=>whnf))|(refine AW ?_;conv=>whnf)|(refine AE ?_;conv=>whnf)))
  refine CE (fun i=>a.length-i) (fun (i:Nat)=>i<=a.length/\a.take i=b.take i) (fun i=>[(5,.int .i64 i)]) (fun _=>[]) [] [] 0 (by (conv=>whnf);exact ⟨rfl,rfl,rfl⟩) ⟨by omega,rfl⟩ ?_
  intro i ⟨p1,p2⟩ ih
  by_cases hi:i<a.length
  ·obtain ⟨x,hx⟩ : ∃ x,a[i]? = some x:=⟨_,zE hi⟩
   obtain ⟨y,hy⟩ : ∃ y,b[i]? = some y:=⟨_,zE (by omega)⟩
   have hx':a[(i:Int).toNat]? = some x:=hx
   have hy':b[(i:Int).toNat]? = some y:=hy
   have hC3:=kC N (ha.at hx) (hb.at hy) hk hk
   have hs:=U2 (x:=x) (y:=y)
   generalize sgn (x-y).num=sg at *
   by_cases hxy:x=y
   ·have h0:sg=0:=hs.2 hxy
    (repeat' (first|(refine AG (fun hc => ?_) (fun hc => ?_)<;>first|(exfalso;omega)|(conv=>whnf))|(refine A0 ?_ ?_;omega;conv=>whnf)|(refine AW ?_;conv=>whnf)|(refine BL (by assumption) ?_ rfl ?_;omega;conv=>whnf)|(refine AE ?_;conv=>whnf)|(refine AC (hC3) ?_;conv=>whnf)))
    refine A4 [] (by (conv=>whnf);exact ⟨rfl,rfl,rfl⟩) (ih (i+1) (by omega) ⟨by omega,?_⟩)
    rw[List.take_add_one,List.take_add_one,p2,hx,hy,hxy]
   ·have hne:sg≠0:=fun h=>hxy (hs.1 h)
    (repeat' (first|(refine AG (fun hc => ?_) (fun hc => ?_)<;>first|(exfalso;omega)|(conv=>whnf))|(refine AW ?_;conv=>whnf)|(refine BL (by assumption) ?_ rfl ?_;omega;conv=>whnf)|(refine AE ?_;conv=>whnf)|(refine AC (hC3) ?_;conv=>whnf)))
    refine RG (fun h=>hxy ?_)
    rw[h,hy]at hx
    exact (Option.some.inj hx).symm
  ·obtain rfl:i=a.length:=by omega
   clear ih
   (repeat' (first|(refine AG (fun hc => ?_) (fun hc => ?_)<;>first|(exfalso;omega)|(conv=>whnf))|(refine AW ?_;conv=>whnf)|(refine AE ?_;conv=>whnf)))
   refine YH ?_
   rw[List.take_of_length_le (Nat.le_refl _),List.take_of_length_le (by omega)]at p2
   exact p2
 ·(repeat' (first|(refine AG (fun hc => ?_) (fun hc => ?_)<;>first|(exfalso;omega)|(conv=>whnf))|(refine AW ?_;conv=>whnf)|(refine AE ?_;conv=>whnf)))
  exact RG (fun h=>hlen (by rw[h]))
end Go.Eng

namespace Go.Eng
open F
attribute [local irreducible] AA AF AR AD B0 AU AX A8 A6 BN AP BK BV CN BI AZ BG BQ AB A7 AJ pw BH BF B9 B8 CI B7 CB BM B3
set_option maxHeartbeats 4000000
variable {L:Lib}
theorem Z2 (N:RefHLib L) {x:Rat} {k:Nat} (hx:Bt k x) (hk:k<2199023255552):Ev L 152 [.agg (eQ x)] (.agg (eQ (-x))):=by
 have hT:=WS N.toRefGLib hx hk
 have hN:=fun q=>Z5 N.toRefGLib (decide (x.num<0)) q (dg x.num.natAbs) ((hx.sm3 hk).1.le (by omega))
 rw[EW]at hN
 refine Ev.x N.LG rfl rfl ?_
 (repeat' (first|(refine AE ?_;conv=>whnf)|(refine AC (hT) ?_;conv=>whnf)|(refine AC (hN _) ?_;conv=>whnf)))
 refine AY ?_ (DS _)
 show _=AV.agg (rQ _ _ _ _ _)
 rw[Rat.neg_num,Rat.neg_den]
theorem AbG (N:RefHLib L) {x y:Rat} {k l:Nat} (hx:Bt k x) (hy:Bt l y) (hk:k<2199023255552) (hl:l<2199023255552):Ev L 153 [.agg (eQ x),.agg (eQ y)] (.agg (eQ (x-y))):=by
 have hn:Bt l (-y):=⟨by rw[Rat.neg_num,Int.natAbs_neg];exact hy.1,by rw[Rat.neg_den];exact hy.2⟩
 have hN:=Z2 N hy hl
 have hA:=ZV N.toRefGLib hx hn hk hl
 rw[<-Rat.sub_eq_add_neg]at hA
 refine Ev.x N.LK rfl rfl ?_
 (repeat' (first|(refine AE ?_;conv=>whnf)|(refine AC (hN) ?_;conv=>whnf)|(refine AC (hA) ?_;conv=>whnf)))
 exact AY rfl (DS _)
theorem Adj {a c:Int} {b d:Nat} (hb:b≠0) (hd:d≠0) (hc:c≠0):mkRat a b/mkRat c d=Rat.divInt (a*d) (b*c):=by
 rw[Rat.div_def,<-Rat.divInt_ofNat,<-Rat.divInt_ofNat,Rat.inv_divInt,Rat.divInt_mul_divInt]
theorem Aa1 (N:RefHLib L) {x y:Rat} {k l:Nat} (hx:Bt k x) (hy:Bt l y) (hk:k<2199023255552) (hl:l<2199023255552) (h0:y≠0):Ev L 154 [.agg (eQ x),.agg (eQ y)] (.tup [.agg (eQ (x/y)),.int .i64 0]):=by
 obtain ⟨a1,a2,a3,hr1,s1,s2,s3,s5⟩:=N1 N.toRefGLib (decide (x.num<0)) false (dg x.num.natAbs) (dg x.den) 68719476736 (by omega) (hx.sm3 hk).1 (hx.sm3 hk).2
 obtain ⟨b1,b2,b3,hr2,t1,t2,t3,t5⟩:=N1 N.toRefGLib (decide (y.num<0)) false (dg y.num.natAbs) (dg y.den) 68719476736 (by omega) (hy.sm3 hl).1 (hy.sm3 hl).2
 have l1:=s1.2
 have l2:=s2.2
 have l3:=t1.2
 have l4:=t2.2
 rw[EZ]at s5 t5
 have hb0:zv b1 b2≠0:=fun h=>h0 (by rw[t5,h,Rat.zero_mkRat])
 have hS:=fun q=>T4 N.toRefGLib b1 q b2 (t1.le (by omega))
 have hsg:sgn (zv b1 b2)≠0:=by unfold sgn;split<;>(try split)<;>omega
 have hM1:=fun q q'=>OK N.toRefGLib a1 false q q' a2 b3 s1.1 t2.1 (by omega)
 have hM2:=fun q q'=>OK N.toRefGLib false b1 q q' a3 b2 s2.1 t1.1 (by omega)
 have g1:Sm (68719476736+68719476736) (dg (zv a1 a2*zv false b3).natAbs):=OV s1 t2
 have g2:Sm (68719476736+68719476736) (dg (zv false a3*zv b1 b2).natAbs):=OV s2 t1
 have hR:=fun q q'=>T5 N.toRefGLib (decide (zv a1 a2*zv false b3<0)) (decide (zv false a3*zv b1 b2<0)) q q' _ _ (g1.le (by omega)) (g2.le (by omega))
 rw[EW,EW]at hR
 have he:x/y=Rat.divInt (zv a1 a2*zv false b3) (zv false a3*zv b1 b2):=by rw[s5,t5,Adj s3 t3 hb0,EG,EG]
 rw[he]
 generalize sgn (zv b1 b2)=sg at *
 refine Ev.x N.LD rfl rfl ?_
 (repeat' (first|(refine AG (fun hc => ?_) (fun hc => ?_)<;>first|(exfalso;omega)|(conv=>whnf))|(refine AE ?_;conv=>whnf)|(refine AC (hr1) ?_;conv=>whnf)|(refine AC (hr2) ?_;conv=>whnf)|(refine AC (hS _) ?_;conv=>whnf)|(refine AC (hM1 _ _) ?_;conv=>whnf)|(refine AC (hM2 _ _) ?_;conv=>whnf)|(refine AC (hR _ _) ?_;conv=>whnf)))
 exact AY rfl (by simp only[A9,CY,and_true,true_and];exact ⟨CU _,CU _⟩)
end Go.Eng

namespace Go.Eng
abbrev eO:Option Rat->List AV
 | none=>[.bool false,.nil,.nil]
 | some x=>eQ x
def EH (l:List Rat) (m:Nat):List (Option Rat):=l.map some++List.replicate (m-l.length) none
theorem IU (m:Nat):EH [] m=List.replicate m none:=by simp [EH]
theorem H0 {l:List Rat} {m:Nat} (h:l.length<=m):(EH l m).length=m:=by simp [EH];omega
theorem IV {l:List Rat} {m:Nat} {x:Rat} (h:l.length<m):(EH l m).set l.length (some x)=EH (l++[x]) m:=by
 unfold EH
 have e:m-l.length=(m-(l++[x]).length)+1:=by simp;omega
 rw[e,List.replicate_succ,List.set_append_right _ _ (by simp)]
 simp
theorem IR {l:List Rat} {m:Nat} (h:l.length=m):(EH l m).map eO=l.map eQ:=by
 unfold EH
 rw[h,Nat.sub_self]
 simp [Function.comp_def]
abbrev eS (S:B4):List AV:=[.sl false (S.a.map fun r=>[AV.sl false (r.map eQ)]),.sl false (S.b.map eQ),.sl false (S.c.map eQ)]++eQ S.d
theorem FR (l:List Rat):FG (l.map eQ):=TL (fun x=>by simp only[CY,A9,and_true,true_and];exact ⟨CU _,CU _⟩) l
theorem OX {l:List Rat} {i:Nat} {x:Rat} (h:l[i]? = some x):l.take (i+1)=l.take i++[x]:=by
 rw[List.take_add_one,h];rfl
theorem xS (a b:List Rat) (e:Int):A9 (.tup [.sl false (a.map eQ),.sl false (b.map eQ),.int .i64 e]):=by
 simp only[A9,CY,and_true,true_and]
 exact ⟨FR a,FR b⟩
theorem gK (a:List Rat) (e:Int):A9 (.tup [.sl false (a.map eQ),.int .i64 e]):=by
 simp only[A9,CY,and_true,true_and]
 exact FR a
theorem WC (S:B4):A9 (.agg (eS S)):=by
 have h:FG (S.a.map fun r=>[AV.sl false (r.map eQ)]):=TL (fun r=>by simp only[CY,A9,and_true,true_and];exact FR r) S.a
 simp only[A9,List.cons_append,List.nil_append,CY,and_true,true_and]
 exact ⟨h,FR _,FR _,CU _,CU _⟩
end Go.Eng

namespace Go.Eng
open F
attribute [local irreducible] AA AF AR AD B0 AU AX A8 A6 BN AP BK BV CN BI AZ BG BQ AB A7 AJ pw BH BF B9 B8 CI B7 CB BM B3
set_option maxHeartbeats 8000000
variable {L:Lib}
theorem kZ (N:RefHLib L) {x:Rat} {k:Nat} (hx:Bt k x) (hk:k<2199023255552) : ∃ s:Int,Ev L 155 [.agg (eQ x)] (.int .i64 s)/\(s=0↔x=0):=by
 have hm:=hx.sm3 hk
 obtain ⟨n',m',d',hp,s1,s2,s3,s4⟩:=N1 N.toRefGLib (decide (x.num<0)) false (dg x.num.natAbs) (dg x.den) 274877906943 (by omega) (hm.1.le (by omega)) (hm.2.le (by omega))
 have hS:=fun q=>T4 N.toRefGLib n' q m' (s1.le (by omega))
 rw[EZ]at s4
 have hz:sgn (zv n' m')=0↔x=0:=by
  rw[s4,Rat.mkRat_eq_zero s3]
  unfold sgn;split<;>(try split)<;>omega
 generalize sgn (zv n' m')=s at *
 refine ⟨s,?_,hz⟩
 refine Ev.x N.LJ rfl rfl ?_
 (repeat' (first|(refine AE ?_;conv=>whnf)|(refine AC (hp) ?_;conv=>whnf)|(refine AC (hS _) ?_;conv=>whnf)))
 exact C4 rfl
def C3 (l:List Rat):Nat->Nat
 | 0=>0
 | n+1=>if l.getD n 0=0 then C3 l n else n+1
theorem JC (l:List Rat) : ∀ n,C3 l n<=n
 | 0=>Nat.le_refl _
 | n+1=>by rw[C3];split;exact Nat.le_succ_of_le (JC l n);exact Nat.le_refl _
def B5 (l:List Rat):List Rat:=l.take (C3 l l.length)
theorem iC (l:List Rat) (k:Nat) : ∀ n,n<=k->C3 (l.take k) n=C3 l n
 | 0,_=>rfl
 | n+1,h=>by
  rw[C3,C3,iC l k n (by omega),List.getD_eq_getElem?_getD,List.getD_eq_getElem?_getD,List.getElem?_take_of_lt (by omega)]
theorem iB (l:List Rat) : ∀ n,C3 l (C3 l n)=C3 l n
 | 0=>rfl
 | n+1=>by
  rw[C3];split
  ·exact iB l n
  ·next h=>rw[C3,if_neg h]
theorem NK (l:List Rat):(B5 l).length=C3 l l.length:=by rw[B5,List.length_take];exact Nat.min_eq_left (JC _ _)
theorem SU (l:List Rat):B5 (B5 l)=B5 l:=by
 have h:=NK l
 have h2:C3 (B5 l) (B5 l).length=(B5 l).length:=by
  rw[h,B5,iC _ _ _ (Nat.le_refl _),iB]
 rw[B5,h2,List.take_length]
theorem Bs.trim {k:Nat} {l:List Rat} (h:Bs k l):Bs k (B5 l):=fun x hx=>h x (List.mem_of_mem_take hx)
theorem U9 {l:List Rat} {i:Nat} {x:Rat} (h:l[i]? = some x):l.take (i+1)=l.take i++[x]:=by
 rw[List.take_add_one,h];rfl
end Go.Eng

namespace Go.Eng
open F
theorem AaK {L:Lib} {f:Nat} {fn:AFn} {vs:List AV} {own own':AH} {r:AV} (hL:L f=some fn) (hro:HV fn.body=true) (h:GC L f vs own r own'):own'=own:=by
 obtain ⟨n,h⟩:=h
 cases n with
 | zero=>simp [DK]at h
 | succ n =>
  rw[TV]at h
  simp only[hL]at h
  split at h
  ·split at h
   ·rename_i st hst
    split at h
    ·simp only[Option.some.injEq,Prod.mk.injEq]at h
     rw[<-h.2]
     exact ID n (by simp [OM,hro]) hst
    ·cases h
   ·cases h
  ·cases h
attribute [local irreducible] AA AF AR AD B0 AU AX A8 A6 BN AP BK BV CN BI AZ BG BQ AB A7 AJ pw BH BF B9 B8 CI B7 CB BM B3
set_option maxHeartbeats 1000000
variable {L:Lib}
theorem yI (N:NatGLib L) (l:List Nat) (s:Nat) (hD:A5 l) (hl:l.length<=1099511627776):A7 L 65 [.row 5 0 1 0 l.length] [(0,.row 5 0 1 0 l.length)] [(5,s,.rw 1 (l.map AM))] (fun r _=>r = .row 5 0 1 0 (dg (val l)).length):=by
 have hlen : ∀ n,n<=l.length->l.take n=dg (val l)->n=(dg (val l)).length:=fun n h1 h2=>by
  rw[<-h2,List.length_take];omega
 refine E6 1000 N.E4 rfl rfl ?_
 (repeat' (refine AE ?_;conv=>whnf))
 refine CE (fun n=>n) (fun (n:Nat)=>n<=l.length /\ ∀ i,n<=i->i<l.length->l[i]? = some 0) (fun n=>[(3,.int .i64 n)]) (fun _=>[]) [] [] l.length (by (conv=>whnf);exact ⟨rfl,rfl,rfl⟩) ⟨Nat.le_refl _,fun i h1 h2=>by omega⟩ ?_
 intro n ⟨p1,p2⟩ ih
 rcases n with _|n
 ·(repeat' (first|(refine AG (fun hc => ?_) (fun hc => ?_)<;>first|(exfalso;omega)|(conv=>whnf))|(refine AE ?_;conv=>whnf)))
  refine GA 0 (by omega) (by omega) ?_
  (conv=>whnf)
  refine ⟨rfl,_,rfl,?_⟩
  rw[<-hlen 0 p1 (FZ hD p1 p2 (Or.inl rfl))]
  rfl
 ·have e1:((n+1:Nat):Int)-1=n:=by omega
  (repeat' (first|(refine AG (fun hc => ?_) (fun hc => ?_)<;>first|(exfalso;omega)|(conv=>whnf))|(refine A3 ?_ ?_;omega;conv=>whnf)|(refine CF ?_ ?_;omega;conv=>whnf)|(refine PZ (by assumption) ?_ (fun v hv hb => ?_);omega;conv=>whnf)|(refine AE ?_;conv=>whnf)))
  ·rw[e1]
   exact A4 [] (by (conv=>whnf);exact ⟨rfl,rfl,rfl⟩) (ih n (by omega) ⟨by omega,fun i h1 h2=>by
    by_cases h:i=n
    ·subst h
     rw[e1,Int.toNat_natCast]at hv
     rw[hv];congr 1;omega
    ·exact p2 i (by omega) h2⟩)
  ·refine GA (n+1) (by omega) (by omega) ?_
   (conv=>whnf)
   refine ⟨rfl,_,rfl,?_⟩
   rw[e1,Int.toNat_natCast]at hv
   rw[<-hlen (n+1) p1 (FZ hD p1 p2 (Or.inr ⟨_,hv,by omega⟩))]
   rfl
theorem yH (N:NatGLib L) (l:List Nat) (s t:Nat) (own:AH) (hD:A5 l) (hl:l.length<=1099511627776) (hb:(own s).blk t=some ⟨1,l.map AM⟩) (ht:t<(own s).cnt) (hlo:EO s=true):GC L 65 [.row s t 1 0 l.length] own (.row s t 1 0 (dg (val l)).length) own:=by
 have hs:MJ (fun _ _=>(s,t)) own [(5,s,.rw 1 (l.map AM))]:=by
  have key : ∀ k u c,mref [(5,s,BB.rw 1 (l.map AM))] k u=some c->k=5/\u=0/\c = .rw 1 (l.map AM):=fun k u c e=>by
   simp only[mref,mget]at e
   cases hk:Nat.beq k 5<;>simp only[hk,cond_true,cond_false]at e
   ·cases e
   ·cases u with
    | zero=>simp only[Option.some.injEq]at e;exact ⟨Nat.eq_of_beq_eq_true hk,rfl,e.symm⟩
    | succ u=>cases e
  refine ⟨fun k s' c e => ?_,fun k u c e => ?_,fun k u c e=>ht,fun k u k' u' c c' e e' _ => ?_,fun _ _ _ _ _=>hlo⟩
  ·simp only[mget]at e
   cases hk:Nat.beq k 5<;>simp only[hk,cond_true,cond_false]at e
   ·cases e
   ·simp only[Option.some.injEq,Prod.mk.injEq]at e;exact e.1
  ·obtain ⟨_,_,rfl⟩:=key k u c e
   exact hb
  ·obtain ⟨rfl,rfl,_⟩:=key k u c e
   obtain ⟨rfl,rfl,_⟩:=key k' u' c' e'
   exact ⟨rfl,rfl⟩
 have hw:=yI N l s hD hl
 unfold A7 at hw
 obtain ⟨r,own',σ',M',h1,h2,h3,rfl⟩:=hw _ own hs
 have ho:=AaK N.E4 (by decide +kernel) h1
 subst ho
 have h4:AV.row (σ' 5 0).1 (σ' 5 0).2 1 0 l.length=AV.row s t 1 0 l.length:=h3 0
 simp only[AV.row.injEq]at h4
 have h5:GC L 65 [.row s t 1 0 l.length] own' (.row (σ' 5 0).1 (σ' 5 0).2 1 0 (dg (val l)).length) own':=h1
 rw[h4.1,h4.2.1]at h5
 exact h5
theorem VK (N:NatGLib L) {l:List Nat} {tm:Tm} {M:Mem} {K:AV->Mem->Prop} {key s len:Nat} (hD:A5 l) (hl:l.length<=1099511627776) (hm:mget M key=some (s,.rw 1 (l.map AM))) (hlen:len=l.length) (hk:K (.row key 0 1 0 (dg (val l)).length) M):A7 L 65 [.row key 0 1 0 len] tm M K:=by
 subst hlen
 unfold A7
 intro σ own hs
 have hsite:=hs.site _ _ _ hm
 have href:mref M key 0=some (.rw 1 (l.map AM)):=by simp only[mref,hm]
 have hb:=hs.blk _ _ _ href
 have ht:=hs.old _ _ _ href
 refine ⟨.row key 0 1 0 (dg (val l)).length,own,σ,M,?_,hs,fun _=>rfl,hk⟩
 exact yH N l (σ key 0).1 (σ key 0).2 own hD hl hb ht (hs.low _ _ _ (DU hm) rfl)
end Go.Eng

namespace Go.Eng
open F
attribute [local irreducible] AA AF AR AD B0 AU AX A8 A6 BN AP BK BV CN BI AZ BG BQ AB A7 AJ pw BH BF B9 B8 CI B7 CB BM B3
set_option maxHeartbeats 4000000
variable {L:Lib}
abbrev ZP (v:List Nat) (j m s xl:Nat):Tm:=[(102,AV.sl false (List.map AM v)),(101,AV.row 71012 0 1 j (v.length+1)),
           (100,AV.int IntKind.i64 (↑j + ↑v.length+1)),(99,AV.int IntKind.i64 (↑j + ↑v.length)),
           (98,AV.int IntKind.i64 ↑v.length),(97,AV.int IntKind.i64 ↑j),(96,AV.int IntKind.i64 ↑j),
           (95,AV.row 71012 0 1 0 (xl+1)),(94,AV.int IntKind.i64 ↑j),(93,AV.row 28 0 1 0 m),
           (90,AV.bool true),(14,AV.int IntKind.i64 ↑j),(13,AV.sl false (List.map AM v)),
           (12,AV.row 71012 0 1 0 (xl+1)),(11,AV.int IntKind.u64 ↑s),(7,AV.row 28 0 1 0 m),
           (6,AV.int IntKind.i64 ↑v.length)]
abbrev Aay:List It:=[It.lp FB.l2,It.blk 2,It.code
      (((AL.ops FB.r18 false).dr [9,10,84,85,86,87,118,119,120,121,122,123,124,125,126]
         []).seq
       (((AL.ops FB.r19 false).dr [127,128,129,130,131] []).seq
        ((((AL.ops FB.r20 false).dr [15,132,133] []).seq
           (AL.cond 134
            (((AL.ops FB.r21 false).dr [0,1,5,7,134,135,136] []).seq AL.ret)
            AL.skip)).seq
         (((AL.ops FB.r22 false).dr [134] []).seq
          ((((AL.ops FB.r23 false).dr [1] []).seq (AL.block 4 FB.l3.loop)).seq
           (((AL.ops FB.r30 false).dr
              [0,5,9,137,138,139,140,162,163,164,165,166,167,168,169] []).seq
            (((AL.ops FB.r31 false).dr [7,170,171,172] []).seq AL.ret)))))))]
section
variable {A W C w v:List Nat} {j m s xl q:Nat} {K:AV->Mem->Prop}
theorem ZG (hA:A.length=j) (hW:W.length=v.length+1) (D2:A5 W) (hVD:A5 v) (hv2l:2<=v.length) (hvL:v.length<=549755813888) (hV0:0<val v)
  (r1:q<4294967296) (r2:val W/val v<=q) (r3:q<=val W/val v+1)
  (hk : ∀ (W':List Nat) (o':List (List AV)) (q':Nat),W'.length=v.length+1->A5 W'->val W'=val W%val v->q'=val W/val v->K (.int .u32 (q':Int)) [(71012,71012,.rw 1 ((A++W'++C).map AM)),(28,28,.rw 1 (w.map AM)),(71012,71012,.rw 1 o')])
  (hk2 : ∀ (W':List Nat) (o':List (List AV)) (q':Nat),W'.length=v.length+1->A5 W'->val W'=val W%val v->q'=val W/val v->K (.int .u32 (q':Int)) [(71012,71012,.rw 1 ((A++W'++C).map AM)),(71012,71012,.rw 1 o'),(28,28,.rw 1 (w.map AM))]) :
  AA L Aay ([(86,.int .i64 0),(85,.int .i64 v.length),(84,.sl false (v.map AM)),(10,.int .u64 0),(9,.int .u64 0),(7,.int .u64 (q:Int)),(5,.int .i64 v.length),(0,AV.row 71012 0 1 j (v.length+1)),(1,AV.sl false (List.map AM v))]++F6 1000 (ZP v j m s xl))
   [(71012,71012,BB.rw 1 (List.map AM (A++W++C))),(28,28,BB.rw 1 (List.map AM w))] (eU 1000 FB (ZP v j m s xl) K):=by
 refine VH (fun i _ _ _=>v.length-i) (fun (i:Nat) (Z:List Nat) (c b:Nat)=>i<=v.length/\Z.length=v.length+1/\A5 Z/\c<4294967296/\b<=1/\Z.drop i=W.drop i/\val (Z.take i)+q*val (v.take i)=val (W.take i)+4294967296^i*(c+b)) (fun i Z c b=>[(86,.int .i64 i),(10,.int .u64 (b:Int)),(9,.int .u64 (c:Int))]) (fun i Z c b=>[(71012,71012,.rw 1 ((A++Z++C).map AM))]) [] [] 0 W 0 0 (by (conv=>whnf);exact ⟨rfl,rfl,rfl⟩) ⟨by omega,hW,D2,by omega,by omega,rfl,by simp [val]⟩ ?_
 intro i Z c b ⟨p1,p2,p3,p4,p5,p6,p7⟩ ih
 by_cases hi:i<v.length
 ·obtain ⟨d,hd⟩ : ∃ d,v[i]? = some d:=⟨_,zE hi⟩
  obtain ⟨u,hu⟩ : ∃ u,Z[i]? = some u:=⟨_,zE (by omega)⟩
  have hdb:=hVD.at hd
  have hub:=p3.at hu
  obtain ⟨pr,hpr⟩ : ∃ pr,pr=q*d+c:=⟨_,rfl⟩
  obtain ⟨m1,m2,m3⟩:=nX r1 hdb p4 hpr
  have hWi:W[i]? = some u:=by
   have e1:(Z.drop i)[0]? = (W.drop i)[0]? := by rw[p6]
   simpa [hu] using e1.symm
  (repeat' (first|(refine AG (fun hc => ?_) (fun hc => ?_)<;>first|(exfalso;omega)|(conv=>whnf))|(refine A3 ?_ ?_;omega;conv=>whnf)|(refine FQ ?_ ?_;omega;conv=>whnf)|(refine N7 ?_ ?_;omega;conv=>whnf)|(refine E8 ?_;conv=>whnf)|(refine CR ?_ ?_;omega;conv=>whnf)|(refine BL (by assumption) ?_ rfl ?_;omega;conv=>whnf)|(refine AE ?_;conv=>whnf)))
  rw[<-hpr]
  refine O3 i hu (by omega) ?_
  (conv=>whnf)
  (repeat' (first|(refine A3 ?_ ?_;omega;conv=>whnf)|(refine VT ?_ ?_;omega;conv=>whnf)|(refine CR ?_ ?_;omega;conv=>whnf)|(refine FH ?_;conv=>whnf)))
  obtain ⟨s1,s2⟩:=X4 hub (show pr%4294967296<4294967296 by omega) p5
  have hst:=Adn p7 hpr rfl hub p5
  generalize EF (EF u (pr%4294967296)) b=t at *
  refine NP i (by omega) (by omega) ?_
  (conv=>whnf)
  (repeat' (first|(refine A0 ?_ ?_;omega;conv=>whnf)|(refine VS ?_;conv=>whnf)))
  refine A4 [] (by (conv=>whnf);exact ⟨rfl,rfl,rfl⟩) (ih (i+1) _ _ _ (by omega) ⟨by omega,by simpa using p2,p3.set _ (by omega),m1,s2,?_,?_⟩)
  ·rw[List.drop_set_of_lt (by omega)]
   have e1:(Z.drop i).drop 1=(W.drop i).drop 1:=by rw[p6]
   simpa using e1
  ·rw[FO (by omega),DW hd,DW hWi,Nat.pow_succ]
   exact hst
 ·obtain rfl:i=v.length:=by omega
  clear ih
  obtain ⟨u,hu⟩ : ∃ u,Z[v.length]? = some u:=⟨_,zE (by omega)⟩
  have hub:=p3.at hu
  have hWi:W[v.length]? = some u:=by
   have e1:(Z.drop v.length)[0]? = (W.drop v.length)[0]? := by rw[p6]
   simpa [hu] using e1.symm
  rw[C7 (Nat.le_refl v.length)]at p7
  obtain ⟨s1,s2⟩:=X4 hub p4 p5
  have hst:=Adl p7 rfl hub p4 p5
  have eW:val W=val (W.take v.length)+4294967296^v.length*u:=by
   rw[<-DW hWi,C7 (by omega)]
  rw[<-eW,<-FO (show v.length<Z.length by omega),C7 (by simp;omega)]at hst
  (repeat' (first|(refine AG (fun hc => ?_) (fun hc => ?_)<;>first|(exfalso;omega)|(conv=>whnf))|(refine A3 ?_ ?_;omega;conv=>whnf)|(refine AE ?_;conv=>whnf)))
  refine O3 v.length hu (by omega) ?_
  (conv=>whnf)
  (repeat' (first|(refine A3 ?_ ?_;omega;conv=>whnf)|(refine VT ?_ ?_;omega;conv=>whnf)|(refine CR ?_ ?_;omega;conv=>whnf)|(refine FH ?_;conv=>whnf)))
  generalize EF (EF u c) b=t at *
  refine NP v.length (by omega) (by omega) ?_
  (conv=>whnf)
  (repeat' (first|(refine AG (fun hc => ?_) (fun hc => ?_)<;>first|(exfalso;omega)|(conv=>whnf))|(refine VS ?_;conv=>whnf)|(refine D8 ?_ ?_;omega;conv=>whnf)|(refine AW ?_;conv=>whnf)))
  ·have ht0:t/9223372036854775808=0:=by omega
   rw[ht0,Nat.mul_zero,Nat.add_zero]at hst
   obtain ⟨y1,y2⟩:=iS hV0 r2 hst
   exact ⟨rfl,_,rfl,hk _ _ _ (by simpa using p2) (p3.set _ (by omega)) y2 y1⟩
  ·have ht1:t/9223372036854775808=1:=by omega
   rw[ht1,Nat.mul_one]at hst
   have hXD:A5 (Z.set v.length (t%4294967296)):=p3.set _ (by omega)
   have hXl:(Z.set v.length (t%4294967296)).length=v.length+1:=by simpa using p2
   clear p7 p6 p4 p5 s1 s2 eW ht1 hu hWi hub p1 p2 p3
   generalize Z.set v.length (t%4294967296)=X at *
   have hU':=EV hXD
   rw[hXl,Nat.pow_succ]at hU'
   obtain ⟨y1,y2,y3⟩:=iR hV0 r3 hU' hst
   have hRV:val W%val v<val v:=Nat.mod_lt _ hV0
   have hVl:=EV hVD
   obtain ⟨xw,hxw⟩ : ∃ xw,X[v.length]? = some xw:=⟨_,zE (by omega)⟩
   have eX:val X=val (X.take v.length)+4294967296^v.length*xw:=by
    rw[<-DW hxw,C7 (by omega)]
   refine F9 (fun i _ _=>v.length-i) (fun (i:Nat) (Z:List Nat) (c:Nat)=>i<=v.length/\Z.length=v.length+1/\A5 Z/\c<=1/\Z.drop i=X.drop i/\val (Z.take i)+4294967296^i*c=val (X.take i)+val (v.take i)) (fun i Z c=>[(139,.int .i64 i),(9,.int .u64 (c:Int))]) (fun i Z c=>[(71012,71012,.rw 1 ((A++Z++C).map AM))]) [] [] 0 X 0 (by (conv=>whnf);exact ⟨rfl,rfl,rfl⟩) ⟨by omega,hXl,hXD,by omega,rfl,by simp [val]⟩ ?_
   intro i Z c ⟨p1,p2,p3,p4,p6,p7⟩ ih
   by_cases hi:i<v.length
   ·obtain ⟨d,hd⟩ : ∃ d,v[i]? = some d:=⟨_,zE hi⟩
    obtain ⟨u,hu⟩ : ∃ u,Z[i]? = some u:=⟨_,zE (by omega)⟩
    have hdb:=hVD.at hd
    have hub:=p3.at hu
    have hXi:X[i]? = some u:=by
     have e1:(Z.drop i)[0]? = (X.drop i)[0]? := by rw[p6]
     simpa [hu] using e1.symm
    have hab:=fH (d:=d) (w:=u) p7 rfl
    (repeat' (first|(refine AG (fun hc => ?_) (fun hc => ?_)<;>first|(exfalso;omega)|(conv=>whnf))|(refine A3 ?_ ?_;omega;conv=>whnf)|(refine BL (by assumption) ?_ rfl ?_;omega;conv=>whnf)|(refine AE ?_;conv=>whnf)))
    refine O3 i hu (by omega) ?_
    (conv=>whnf)
    (repeat' (first|(refine A3 ?_ ?_;omega;conv=>whnf)|(refine FQ ?_ ?_;omega;conv=>whnf)|(refine CR ?_ ?_;omega;conv=>whnf)|(refine FH ?_;conv=>whnf)))
    generalize ht2:u+d+c=t2 at *
    refine NP i (by omega) (by omega) ?_
    (conv=>whnf)
    (repeat' (first|(refine A0 ?_ ?_;omega;conv=>whnf)|(refine E8 ?_;conv=>whnf)))
    refine A4 [] (by (conv=>whnf);exact ⟨rfl,rfl,rfl⟩) (ih (i+1) _ _ (by omega) ⟨by omega,by simpa using p2,p3.set _ (by omega),by omega,?_,?_⟩)
    ·rw[List.drop_set_of_lt (by omega)]
     have e1:(Z.drop i).drop 1=(X.drop i).drop 1:=by rw[p6]
     simpa using e1
    ·rw[FO (by omega),DW hd,DW hXi,Nat.pow_succ]
     exact hab
   ·obtain rfl:i=v.length:=by omega
    clear ih
    obtain ⟨u,hu⟩ : ∃ u,Z[v.length]? = some u:=⟨_,zE (by omega)⟩
    have hub:=p3.at hu
    have hXi:X[v.length]? = some u:=by
     have e1:(Z.drop v.length)[0]? = (X.drop v.length)[0]? := by rw[p6]
     simpa [hu] using e1.symm
    rw[hXi]at hxw
    obtain rfl:u=xw:=by simpa using hxw
    rw[C7 (Nat.le_refl v.length)]at p7
    have hZl:=EV (p3.take v.length)
    rw[List.length_take,Nat.min_eq_left (by omega)]at hZl
    rw[eX]at y3
    have hend:=fG p7 y3 (by omega) hZl
    rw[<-FO (show v.length<Z.length by omega),C7 (by simp;omega)]at hend
    (repeat' (first|(refine AG (fun hc => ?_) (fun hc => ?_)<;>first|(exfalso;omega)|(conv=>whnf))|(refine A3 ?_ ?_;omega;conv=>whnf)|(refine AE ?_;conv=>whnf)))
    refine O3 v.length hu (by omega) ?_
    (conv=>whnf)
    (repeat' (first|(refine A3 ?_ ?_;omega;conv=>whnf)|(refine eK ?_;conv=>whnf)|(refine D8 ?_ ?_;omega;conv=>whnf)))
    refine NP v.length (by omega) (by omega) ?_
    (conv=>whnf)
    (repeat' (first|(refine IL ?_ ?_ ?_;omega;omega;conv=>whnf)|(refine D8 ?_ ?_;omega;conv=>whnf)))
    exact ⟨rfl,_,rfl,hk2 _ _ _ (by simpa using p2) (p3.set _ (by omega)) hend y1⟩
theorem yT (N:NatGLib L) (hA:A.length=j) (hW:W.length=v.length+1) (D2:A5 W) (hVD:A5 v) (hv2l:2<=v.length) (hvL:v.length<=549755813888) (hV0:0<val v)
  (n2:4294967296^(v.length-1)*2147483648<=val v) (g2:val W<4294967296*val v)
  (hk : ∀ (W':List Nat) (o':List (List AV)) (q':Nat),W'.length=v.length+1->A5 W'->val W'=val W%val v->q'=val W/val v->K (.int .u32 (q':Int)) [(71012,71012,.rw 1 ((A++W'++C).map AM)),(28,28,.rw 1 (w.map AM)),(71012,71012,.rw 1 o')])
  (hk2 : ∀ (W':List Nat) (o':List (List AV)) (q':Nat),W'.length=v.length+1->A5 W'->val W'=val W%val v->q'=val W/val v->K (.int .u32 (q':Int)) [(71012,71012,.rw 1 ((A++W'++C).map AM)),(71012,71012,.rw 1 o'),(28,28,.rw 1 (w.map AM))]) :
  A7 L 73 [AV.row 71012 0 1 j (v.length+1),AV.sl false (List.map AM v)] (ZP v j m s xl) [(71012,71012,BB.rw 1 (List.map AM (A++W++C))),(28,28,BB.rw 1 (List.map AM w))] K:=by
 obtain ⟨UL,a1,a2⟩:=YB D2 (n:=v.length+1) (by omega) (by omega)
 obtain ⟨VL,b5,b6⟩:=sE hVD (n:=v.length) hv2l (by omega)
 obtain ⟨u0,w0⟩ : ∃ d,W[v.length]? = some d:=⟨_,zE (by omega)⟩
 obtain ⟨u1,w1⟩ : ∃ d,W[v.length-1]? = some d:=⟨_,zE (by omega)⟩
 obtain ⟨u2,w2⟩ : ∃ d,W[v.length-2]? = some d:=⟨_,zE (by omega)⟩
 obtain ⟨f1,x1⟩ : ∃ d,v[v.length-1]? = some d:=⟨_,zE (by omega)⟩
 obtain ⟨f2,x2⟩ : ∃ d,v[v.length-2]? = some d:=⟨_,zE (by omega)⟩
 rw[show v.length+1-3=v.length-2 by omega,show v.length+1-2=v.length-1 by omega,show v.length+1-1=v.length by omega,GG w0,GG w1,GG w2]at a2
 rw[show v.length+1-3=v.length-2 by omega]at a1
 rw[GG x1,GG x2]at b6
 have hf1:=rW hVD (k:=v.length-1) (by omega) n2 x1
 have k0:=D2.at w0
 have k1:=D2.at w1
 have k2:=D2.at w2
 have k3:=hVD.at x1
 have k4:=hVD.at x2
 have z1:v[((v.length:Int)-1).toNat]? = some f1:=by rw[show ((v.length:Int)-1).toNat=v.length-1 by omega];exact x1
 have z2:v[((v.length:Int)-2).toNat]? = some f2:=by rw[show ((v.length:Int)-2).toNat=v.length-2 by omega];exact x2
 refine E6 1000 N.FB rfl rfl ?_
 (repeat' (first|(refine A3 ?_ ?_;omega;conv=>whnf)|(refine AW ?_;conv=>whnf)|(refine AE ?_;conv=>whnf)))
 refine O3 v.length w0 (by omega) ?_
 (conv=>whnf)
 (repeat' (first|(refine A3 ?_ ?_;omega;conv=>whnf)|(refine CF ?_ ?_;omega;conv=>whnf)|(refine NN ?_ ?_;omega;conv=>whnf)|(refine CR ?_ ?_;omega;conv=>whnf)))
 refine O3 (v.length-1) w1 (by omega) ?_
 (conv=>whnf)
 refine eG (by omega) ?_
 (conv=>whnf)
 refine N8 (by omega) ?_
 (conv=>whnf)
 generalize htop:u0*4294967296+u1=top at *
 have htb:top<=18446744073709551615:=by omega
 have hU:val W=UL+4294967296^(v.length-2)*(u2+4294967296*top):=by rw[a2,show u1+4294967296*u0=top by omega]
 (repeat' (first|(refine CF ?_ ?_;omega;conv=>whnf)|(refine TA ?_ ?_;omega;conv=>whnf)|(refine VR ?_ ?_ ?_;omega;omega;conv=>whnf)|(refine CR ?_ ?_;omega;conv=>whnf)|(refine BL (by assumption) ?_ rfl ?_;omega;conv=>whnf)))
 refine HG (fun q _=>q) (fun (q r:Nat)=>Gs (val W) (val v) f1 f2 u2 top q r) (fun q r=>[(7,.int .u64 (q:Int)),(8,.int .u64 (r:Int))]) (fun _ _=>[]) [] [] (top/f1) (top%f1) (by (conv=>whnf);exact ⟨rfl,rfl,rfl⟩) (Gs.start hU b6 a1 k2 hV0 (by omega) k3) ?_
 intro q r g ih2
 have hqt:q<=top:=by
  have h3:=g.hq
  have h4:q*1<=q*f1:=Nat.mul_le_mul_left q (by omega)
  omega
 have hr:=g.hr
 have hge:=g.ge
 by_cases hb:4294967296<=q
 ·obtain ⟨y1,y2,y3⟩:=g.next hU b6 a1 hV0 g2 (Or.inl hb)
  (repeat' (first|(refine AG (fun hc => ?_) (fun hc => ?_)<;>first|(exfalso;omega)|(conv=>whnf))|(refine CF ?_ ?_;omega;conv=>whnf)|(refine FQ ?_ ?_;omega;conv=>whnf)|(refine IL ?_ ?_ ?_;omega;omega;conv=>whnf)|(refine CR ?_ ?_;omega;conv=>whnf)|(refine AW ?_;conv=>whnf)|(refine BL (by assumption) ?_ rfl ?_;omega;conv=>whnf)|(refine AE ?_;conv=>whnf)))
  ·obtain ⟨t1,t2⟩:=R8 hU b6 b5 hf1 k4 g2 y2 (Or.inr (by omega))
   exact A4 [] (by (conv=>whnf);exact ⟨rfl,rfl,rfl⟩) (ZG (w:=w) (C:=C) hA hW D2 hVD hv2l hvL hV0 t1 y3 t2 hk hk2)
  ·exact A4 [] (by (conv=>whnf);exact ⟨rfl,rfl,rfl⟩) (ih2 (q-1) (r+f1) (by omega) ⟨y2,by omega,y3⟩)
 ·have hmq:=SG (show q<4294967296 by omega) k4
  by_cases hb2:r*4294967296+u2<q*f2
  ·obtain ⟨y1,y2,y3⟩:=g.next hU b6 a1 hV0 g2 (Or.inr hb2)
   (repeat' (first|(refine AG (fun hc => ?_) (fun hc => ?_)<;>first|(exfalso;omega)|(conv=>whnf))|(refine A3 ?_ ?_;omega;conv=>whnf)|(refine CF ?_ ?_;omega;conv=>whnf)|(refine N7 ?_ ?_;omega;conv=>whnf)|(refine NN ?_ ?_;omega;conv=>whnf)|(refine CR ?_ ?_;omega;conv=>whnf)|(refine BL (by assumption) ?_ rfl ?_;omega;conv=>whnf)|(refine AE ?_;conv=>whnf)))
   refine O3 (v.length-2) w2 (by omega) ?_
   (conv=>whnf)
   (repeat' (first|(refine AG (fun hc => ?_) (fun hc => ?_)<;>first|(exfalso;omega)|(conv=>whnf))|(refine CF ?_ ?_;omega;conv=>whnf)|(refine FQ ?_ ?_;omega;conv=>whnf)|(refine N8 ?_ ?_;omega;conv=>whnf)|(refine IL ?_ ?_ ?_;omega;omega;conv=>whnf)|(refine CR ?_ ?_;omega;conv=>whnf)|(refine AW ?_;conv=>whnf)|(refine BL (by assumption) ?_ rfl ?_;omega;conv=>whnf)))
   ·obtain ⟨t1,t2⟩:=R8 hU b6 b5 hf1 k4 g2 y2 (Or.inr (by omega))
    exact A4 [] (by (conv=>whnf);exact ⟨rfl,rfl,rfl⟩) (ZG (w:=w) (C:=C) hA hW D2 hVD hv2l hvL hV0 t1 y3 t2 hk hk2)
   ·exact A4 [] (by (conv=>whnf);exact ⟨rfl,rfl,rfl⟩) (ih2 (q-1) (r+f1) (by omega) ⟨y2,by omega,y3⟩)
  ·obtain ⟨t1,t2⟩:=R8 hU b6 b5 hf1 k4 g2 g.hq (Or.inl ⟨by omega,by omega⟩)
   (repeat' (first|(refine AG (fun hc => ?_) (fun hc => ?_)<;>first|(exfalso;omega)|(conv=>whnf))|(refine A3 ?_ ?_;omega;conv=>whnf)|(refine CF ?_ ?_;omega;conv=>whnf)|(refine N7 ?_ ?_;omega;conv=>whnf)|(refine NN ?_ ?_;omega;conv=>whnf)|(refine CR ?_ ?_;omega;conv=>whnf)|(refine BL (by assumption) ?_ rfl ?_;omega;conv=>whnf)|(refine AE ?_;conv=>whnf)))
   refine O3 (v.length-2) w2 (by omega) ?_
   (conv=>whnf)
   (repeat' (first|(refine AG (fun hc => ?_) (fun hc => ?_)<;>first|(exfalso;omega)|(conv=>whnf))|(refine N8 ?_ ?_;omega;conv=>whnf)|(refine CR ?_ ?_;omega;conv=>whnf)|(refine AW ?_;conv=>whnf)))
   exact A4 [] (by (conv=>whnf);exact ⟨rfl,rfl,rfl⟩) (ZG (w:=w) (C:=C) hA hW D2 hVD hv2l hvL hV0 t1 hge t2 hk hk2)
end
end Go.Eng

namespace Go.Eng
open F
attribute [local irreducible] AA AF AR AD B0 AU AX A8 A6 BN AP BK BV CN BI AZ BG BQ AB A7 AJ pw BH BF B9 B8 CI B7 CB BM B3
set_option maxHeartbeats 4000000
variable {L:Lib}
theorem Agv {V R y d t Q:Nat} (h:Q*y+R=V) (ht:t=R*4294967296+d):(t/y+4294967296*Q)*y+t%y=d+4294967296*V:=by
 have:=Nat.div_add_mod t y
 rw[<-h,Nat.add_mul]
 have e:t/y*y=y*(t/y):=Nat.mul_comm _ _
 grind
theorem TK (a b:List Nat):A9 (.tup [.sl false (a.map AM),.sl false (b.map AM)]):=by
 simp only[A9,CY,and_true,true_and]
 exact ⟨CU a,CU b⟩
set_option maxHeartbeats 4000000 in
theorem Z1 (N:NatGLib L) (X Y:Nat) (q1 q2:Bool) (hY:Y≠0) (lx:(dg X).length<=549755813888) (ly:(dg Y).length<=549755813888):Ev L 74 [.sl q1 ((dg X).map AM),.sl q2 ((dg Y).map AM)] (.tup [.sl false ((dg (X/Y)).map AM),.sl false ((dg (X%Y)).map AM)]):=by
 have hcmp:=fun q q'=>OJ N (dg X) (dg Y) q q' (DT X) (DT Y) (by omega) (by omega)
 rw[BU,BU]at hcmp
 have d1:=DT X
 have d2:=DT Y
 have v1:=BU X
 have v2:=BU Y
 have hy1:=TQ hY
 refine Ev.x N.JX rfl rfl ?_
 by_cases hlt:X<Y
 ·have hn:C6 X Y = -1:=(HX (by omega)).symm
  rw[hn]at hcmp
  (repeat' (first|(refine AG (fun hc => ?_) (fun hc => ?_)<;>first|(exfalso;omega)|(conv=>whnf))|(refine AE ?_;conv=>whnf)|(refine AC (hcmp _ _) ?_;conv=>whnf)|(refine AC (jW N (dg X) _ (by omega)) ?_;conv=>whnf)))
  refine AY ?_ (TK _ _)
  rw[Nat.div_eq_of_lt hlt,Nat.mod_eq_of_lt hlt,ET];rfl
 have hge:0<=C6 X Y:=by unfold C6;split<;>(try split)<;>omega
 have hll:=PA (show Y<=X by omega)
 generalize C6 X Y=cm at *
 by_cases h1:(dg Y).length=1
 ·-- one digit
  obtain ⟨y0,hy0⟩ : ∃ y0,dg Y=[y0]:=List.length_eq_one_iff.1 h1
  have hyv:Y=y0:=by rw[<-v2,hy0];simp [val]
  subst hyv
  have hyb:Y<4294967296:=d2 Y (by rw[hy0];simp)
  have hyg:(dg Y)[0]? = some Y:=by rw[hy0];rfl
  clear hy0 v2
  generalize dg Y=y at *
  generalize hx:dg X=x at *
  (repeat' (first|(refine AG (fun hc => ?_) (fun hc => ?_)<;>first|(exfalso;omega)|(conv=>whnf))|(refine A0 ?_ ?_;omega;conv=>whnf)|(refine CF ?_ ?_;omega;conv=>whnf)|(refine AW ?_;conv=>whnf)|(refine AE ?_;conv=>whnf)|(refine AC (hcmp _ _) ?_;conv=>whnf)))
  refine EB (enc:=AM) 0 x.length rfl (by omega) (by omega) ?_
  (conv=>whnf)
  (repeat' (first|(refine AG (fun hc => ?_) (fun hc => ?_)<;>first|(exfalso;omega)|(conv=>whnf))|(refine CF ?_ ?_;omega;conv=>whnf)|(refine AW ?_;conv=>whnf)))
  refine F9 (fun n _ _=>n) (fun (n:Nat) (o:List Nat) (r:Nat)=>n<=x.length/\o.length=x.length/\A5 o/\r<Y/\val (o.drop n)*Y+r=val (x.drop n)) (fun n o r=>[(8,.int .u64 (r:Int)),(9,.int .i64 ((n:Int)-1))]) (fun n o r=>[(28,28,.rw 1 (o.map AM))]) [] [] x.length (List.replicate x.length 0) 0 (by (conv=>whnf);exact ⟨rfl,rfl,rfl⟩) ⟨by omega,by simp,IQ _,by omega,by rw[List.drop_of_length_le (Nat.le_refl _),List.drop_of_length_le (by simp)];simp [val]⟩ ?_
  intro n o r ⟨p1,p2,p3,p4,p5⟩ ih
  rcases n with _|n
  ·rw[List.drop_zero,List.drop_zero]at p5
   have hq:X/Y=val o/\X%Y=r:=by
    rw[<-v1,<-p5]
    have e1:(val o*Y+r)/Y=val o:=by
     rw[Nat.mul_comm,Nat.mul_add_div (by omega),Nat.div_eq_of_lt p4,Nat.add_zero]
    have e2:(val o*Y+r)%Y=r:=by
     rw[Nat.mul_comm,Nat.mul_add_mod,Nat.mod_eq_of_lt p4]
    exact ⟨e1,e2⟩
   rw[hq.1,hq.2,<-p2]
   clear ih hq p5
   have hl1:=EN p3
   have hr1:A5 [r]:=G6 (by omega)
   have hl2:=EN hr1
   have hv1:val [r]=r:=by simp [val]
   have hl3:[r].length=1:=rfl
   (repeat' (first|(refine AG (fun hc => ?_) (fun hc => ?_)<;>first|(exfalso;omega)|(conv=>whnf))|(refine D8 ?_ ?_;omega;conv=>whnf)|(refine AE ?_;conv=>whnf)|(refine VK N (by assumption) (by omega) rfl (by first|rfl|omega|assumption) ?_;conv=>whnf)))
   refine GP (enc:=AM) (fun _=>rfl) (by omega) ?_
   (conv=>whnf)
   refine GP (enc:=AM) (l:=[r]) (fun _=>rfl) (by omega) ?_
   (conv=>whnf)
   refine AY ?_ (TK _ _)
   rw[List.drop_zero,List.drop_zero,U8 p3,U8 hr1,hv1]
  ·have e1:((n+1:Nat):Int)-1=n:=by omega
   rw[e1]
   obtain ⟨d,hd⟩ : ∃ d,x[n]? = some d:=⟨_,zE (by omega)⟩
   have hdb:=d1.at hd
   have hYb:Y<4294967296:=hyb
   have hR:r*4294967296+d<Y*4294967296:=by omega
   have hq0:(r*4294967296+d)/Y<4294967296:=(Nat.div_lt_iff_lt_mul (by omega)).2 (by omega)
   (repeat' (first|(refine AG (fun hc => ?_) (fun hc => ?_)<;>first|(exfalso;omega)|(conv=>whnf))|(refine A3 ?_ ?_;omega;conv=>whnf)|(refine NN ?_ ?_;omega;conv=>whnf)|(refine N8 ?_ ?_;omega;conv=>whnf)|(refine VR ?_ ?_ ?_;omega;omega;conv=>whnf)|(refine CR ?_ ?_;omega;conv=>whnf)|(refine D8 ?_ ?_;omega;conv=>whnf)|(refine BL (by assumption) ?_ rfl ?_;omega;conv=>whnf)|(refine AE ?_;conv=>whnf)))
   obtain ⟨t,ht⟩ : ∃ t,t=r*4294967296+d:=⟨_,rfl⟩
   rw[<-ht]at hR hq0 ⊢
   have hm:t%Y<Y:=Nat.mod_lt _ (by omega)
   have hst:=Agv p5 ht
   rw[<-GZ hd]at hst
   clear ht
   skip
   refine E3 (by omega) ?_
   (conv=>whnf)
   (repeat' (first|(refine CF ?_ ?_;omega;conv=>whnf)|(refine TA ?_ ?_;omega;conv=>whnf)|(refine CR ?_ ?_;omega;conv=>whnf)|(refine BL (by assumption) ?_ rfl ?_;omega;conv=>whnf)))
   generalize t/Y=tq at *
   generalize t%Y=tr at *
   refine A4 [] (by (conv=>whnf);exact ⟨rfl,rfl,rfl⟩) (ih n _ _ (by omega) ⟨by omega,by simpa using p2,p3.set _ (by omega),hm,?_⟩)
   rw[GZ (l:=o.set n tq) (d:=tq) (by rw[List.getElem?_set_self (by omega)]),List.drop_set_of_lt (by omega)]
   exact hst
 ·-- two digits or more
  have hn2:2<=(dg Y).length:=by omega
  obtain ⟨yt,hyt,hyt0⟩:=ZF hY
  have hytb:=d2.at hyt
  obtain ⟨b1,b2,b3,b4⟩:=bJ hyt0 hytb
  have hlz:=jY N yt hytb
  generalize hs:32-blen yt=s at *
  have hs31:s<=31:=by omega
  generalize dg Y=y at *
  generalize hx:dg X=x at *
  have e1:((y.length:Int)-1).toNat=y.length-1:=by omega
  rw[<-e1]at hyt
  obtain ⟨rv,hrv,v,hV,hvl,hrve⟩:=Abb N y q2 s y.length d2 hs31 (by omega) (by omega)
  subst hrve
  (repeat' (first|(refine AG (fun hc => ?_) (fun hc => ?_)<;>first|(exfalso;omega)|(conv=>whnf))|(refine A0 ?_ ?_;omega;conv=>whnf)|(refine CF ?_ ?_;omega;conv=>whnf)|(refine AW ?_;conv=>whnf)|(refine AE ?_;conv=>whnf)|(refine AC (hcmp _ _) ?_;conv=>whnf)))
  refine EB (enc:=AM) 0 (x.length-y.length+1) rfl (by omega) (by omega) ?_
  (conv=>whnf)
  (repeat' (first|(refine AG (fun hc => ?_) (fun hc => ?_)<;>first|(exfalso;omega)|(conv=>whnf))|(refine A0 ?_ ?_;omega;conv=>whnf)|(refine CF ?_ ?_;omega;conv=>whnf)|(refine CR ?_ ?_;omega;conv=>whnf)|(refine AW ?_;conv=>whnf)|(refine BL (by assumption) ?_ rfl ?_;omega;conv=>whnf)|(refine AC (hlz) ?_;conv=>whnf)))
  refine E6 1000 N.H1 rfl rfl ?_
  (repeat' (refine AE ?_;conv=>whnf))
  refine EB (enc:=AM) 0 (x.length+1) rfl (by omega) (by omega) ?_
  (conv=>whnf)
  (repeat' (refine AW ?_;conv=>whnf))
  have hps:=UV (s:=s) (by omega)
  refine F9 (fun i _ _=>x.length-i) (fun (i:Nat) (o:List Nat) (lo:Nat)=>i<=x.length/\o.length=x.length+1/\A5 o/\lo<2^s/\val (o.take i)+4294967296^i*lo=val (x.take i)*2^s) (fun i o lo=>[(8,.int .u32 (lo:Int)),(15,.int .i64 i)]) (fun i o lo=>[(71012,71012,.rw 1 (o.map AM))]) [] [] 0 (List.replicate (x.length+1) 0) 0 (by (conv=>whnf);exact ⟨rfl,rfl,rfl⟩) ⟨by omega,by simp,IQ _,Nat.two_pow_pos s,by simp [val]⟩ ?_
  intro i o lo ⟨p1,p2,p3,p4,p5⟩ ih
  by_cases hi:i<x.length
  ·obtain ⟨d,hd⟩ : ∃ d,x[i]? = some d:=⟨_,zE hi⟩
   have hdb:=d1.at hd
   obtain ⟨f1,f2,f3,f4⟩:=Q5 (s:=s) hdb (by omega)
   (repeat' (first|(refine AG (fun hc => ?_) (fun hc => ?_)<;>first|(exfalso;omega)|(conv=>whnf))|(refine BL (by assumption) ?_ rfl ?_;omega;conv=>whnf)|(refine AE ?_;conv=>whnf)))
   refine eP (by omega) ?_
   (conv=>whnf)
   skip
   refine YM s f1 p4 (by omega) ?_
   (conv=>whnf)
   (repeat' (first|(refine A3 ?_ ?_;omega;conv=>whnf)|fail))
   refine E3 (by omega) ?_
   (conv=>whnf)
   (repeat' (refine CR ?_ ?_;omega;conv=>whnf))
   refine OA (by omega) f4 ?_
   (conv=>whnf)
   (repeat' (first|(refine A0 ?_ ?_;omega;conv=>whnf)|(refine E8 ?_;conv=>whnf)|(refine D8 ?_ ?_;omega;conv=>whnf)))
   rw[<-Q4]
   refine A4 [] (by (conv=>whnf);exact ⟨rfl,rfl,rfl⟩) (ih (i+1) _ _ (by omega) ⟨by omega,by simpa using p2,p3.set _ (by omega),f2,?_⟩)
   rw[FO (by omega),DW hd,Nat.pow_succ]
   exact nC p5
  obtain rfl:i=x.length:=by omega
  clear ih
  (repeat' (first|(refine AG (fun hc => ?_) (fun hc => ?_)<;>first|(exfalso;omega)|(conv=>whnf))|(refine A3 ?_ ?_;omega;conv=>whnf)|(refine AW ?_;conv=>whnf)|(refine AE ?_;conv=>whnf)))
  refine E3 (by omega) ?_
  (conv=>whnf)
  skip
  have hU:=nB p3 (by omega) p2 p5
  have hUl:(o.set x.length lo).length=x.length+1:=by simpa using p2
  clear p3 p4 p5 p2
  generalize o.set x.length lo=u at *
  refine ⟨rfl,_,rfl,?_⟩
  (conv=>whnf)
  (repeat' (first|(refine CF ?_ ?_;omega;conv=>whnf)|(refine AW ?_;conv=>whnf)|(refine AC (hrv) ?_;conv=>whnf)))
  have hyt':y[y.length-1]? = some yt:=by rw[<-e1];exact hyt
  obtain ⟨n1,n2⟩:=bG d2 hyt' (by omega) hs31 b3 b4
  have hVv:val v=Y*2^s:=by rw[<-v2];exact hV.2.2 (by rw[hvl];exact n1)
  have hUu:val u=X*2^s:=by
   rw[<-v1]
   refine hU.2.2 ?_
   have h3:=EV d1
   rw[hUl,Nat.pow_succ]
   exact Nat.lt_of_lt_of_le (Nat.mul_lt_mul_of_pos_right h3 (Nat.two_pow_pos s)) (Nat.mul_le_mul_left _ hps)
  have hVD:=hV.1
  have hUD:=hU.1
  have hVlt:=EV hVD
  rw[v2,<-hVv]at n2
  rw[<-hvl]at n2
  clear hV hU hcmp hrv hlz
  have hv2l:2<=v.length:=by omega
  have hvx:v.length<=x.length:=by omega
  have hvL:v.length<=549755813888:=by omega
  have hxL:x.length<=549755813888:=by omega
  have hX:X<4294967296^x.length:=by rw[<-v1];exact EV d1
  rw[<-hvl]
  generalize hm:x.length-v.length+1=m at *
  have hV0:0<val v:=by
   have:=pF (v.length-1)
   omega
  have hi0:val (u.drop m)<val v:=by
   have h1:=L9 u m (by omega)
   rw[hUu]at h1
   have h2:X*2^s<4294967296^x.length*2147483648:=Nat.lt_of_lt_of_le (Nat.mul_lt_mul_of_pos_right hX (Nat.two_pow_pos s)) (Nat.mul_le_mul_left _ (Nat.pow_le_pow_right (by omega) hs31))
   have h3:4294967296^x.length=4294967296^m*4294967296^(v.length-1):=by rw[<-Nat.pow_add];congr 1;omega
   rw[h3,Nat.mul_assoc]at h2
   refine Nat.lt_of_lt_of_le ?_ n2
   refine Nat.lt_of_mul_lt_mul_left (a:=4294967296^m) ?_
   omega
  have e2:(x.length:Int)-v.length=((m:Nat):Int)-1:=by omega
  rw[e2]
  refine F9 (fun n _ _=>n) (fun (n:Nat) (o w:List Nat)=>n<=m/\o.length=x.length+1/\A5 o/\w.length=m/\A5 w/\val (o.drop n)<val v/\X*2^s=val (o.take n)+4294967296^n*(val (w.drop n)*val v+val (o.drop n))) (fun n o w=>[(14,.int .i64 ((n:Int)-1))]) (fun n o w=>[(71012,71012,.rw 1 (o.map AM)),(28,28,.rw 1 (w.map AM))]) [] [] m u (List.replicate m 0) (by (conv=>whnf);exact ⟨rfl,rfl,rfl⟩) ⟨by omega,hUl,hUD,by simp,IQ _,hi0,by rw[<-hUu,List.drop_of_length_le (show (List.replicate m 0).length<=m by simp),IJ,Nat.zero_mul,Nat.zero_add];exact L9 u m (by omega)⟩ ?_
  intro n o w ⟨p1,p2,p3,p4,p5,p6,p7⟩ ih
  rcases n with _|j
  ·clear ih
   rw[List.drop_zero]at p6
   rw[List.take_zero,List.drop_zero,List.drop_zero,IJ,Nat.zero_add,Nat.pow_zero,Nat.one_mul]at p7
   have hdr:val o=val (o.take v.length):=by
    have h1:=RA o v.length
    rcases Nat.eq_zero_or_pos (val (o.drop v.length)) with h2|h2
    ·rw[h2,Nat.mul_zero,Nat.add_zero]at h1;exact h1
    ·have h3:4294967296^v.length*1<=4294967296^v.length*val (o.drop v.length):=Nat.mul_le_mul_left _ h2
     omega
   have hX0:X/Y=val w/\X%Y=val o/2^s:=by
    obtain ⟨z1,z2⟩:=iV (X:=X) (Y:=Y) (Nat.two_pow_pos s)
    rw[<-z1,<-z2,<-hVv,p7]
    have e1:(val w*val v+val o)/val v=val w:=by
     rw[Nat.mul_comm,Nat.mul_add_div hV0,Nat.div_eq_of_lt p6,Nat.add_zero]
    have e2:(val w*val v+val o)%val v=val o:=by
     rw[Nat.mul_comm,Nat.mul_add_mod,Nat.mod_eq_of_lt p6]
    rw[e1,e2]
    exact ⟨rfl,rfl⟩
   rw[hX0.1,hX0.2]
   have hl1:=EN p5
   obtain ⟨ro,hro,o2,k1,k2,k3,k4⟩:=Abc N (o.take v.length) true s (p3.take _) hs31 (by rw[List.length_take];omega)
   subst k4
   rw[hdr,<-k3]
   have hl2:=EN k1
   rw[List.length_take]at k2
   clear p7 hX0 hi0
   (repeat' (first|(refine AG (fun hc => ?_) (fun hc => ?_)<;>first|(exfalso;omega)|(conv=>whnf))|(refine AE ?_;conv=>whnf)|(refine VK N (by assumption) (by omega) rfl (by first|rfl|omega|assumption) ?_;conv=>whnf)))
   refine GA v.length rfl (by omega) ?_
   (conv=>whnf)
   refine GP (enc:=AM) (fun _=>rfl) (by omega) ?_
   (conv=>whnf)
   rw[List.drop_zero,Nat.sub_zero]
   (repeat' (first|(refine AC (hro) ?_;conv=>whnf)|(refine MH (MV N o2 _ k1 (by omega)) ?_;conv=>whnf)))
   refine GP (enc:=AM) (fun _=>rfl) (by omega) ?_
   (conv=>whnf)
   refine AY ?_ (TK _ _)
   rw[List.drop_zero,U8 p5]
  ·have e3:((j+1:Nat):Int)-1=j:=by omega
   rw[e3]
   have e4:(v.length:Int).toNat=v.length:=by omega
   obtain ⟨A,W,C,hA,hW,rfl⟩:=jL o j (v.length+1) (by omega)
   obtain ⟨g1,g2,g3⟩:=jN hA hW p3 p6 hVlt
   obtain ⟨D1,D2,D3⟩:=iQ p3
   have hqb:val W/val v<4294967296:=(Nat.div_lt_iff_lt_mul hV0).2 g2
   have hWV:val W=val W/val v*val v+val W%val v:=by rw[Nat.mul_comm];exact (Nat.div_add_mod _ _).symm
   have hWl:val W%val v<val v:=Nat.mod_lt _ hV0
   have hTot:X*2^s=val A+4294967296^j*val W+4294967296^j*4294967296*(val (w.drop (j+1))*val v):=by
    rw[p7,Nat.mul_add,<-g3,Nat.pow_succ];omega
   have hTot2:=jM hTot hWV
   have hset : ∀ q',q'=val W/val v->val ((w.set j q').drop j)=val W/val v+4294967296*val (w.drop (j+1)):=fun q' h=>by
    rw[GZ (l:=w.set j q') (d:=q') (by rw[List.getElem?_set_self (by omega)]),List.drop_set_of_lt (by omega),h]
   have hlen : ∀ W':List Nat,W'.length=v.length+1->(A++W'++C).length=x.length+1:=fun W' h=>by
    rw[<-p2];simp [h,hW]
   (repeat' (first|(refine AG (fun hc => ?_) (fun hc => ?_)<;>first|(exfalso;omega)|(conv=>whnf))|(refine A0 ?_ ?_;omega;conv=>whnf)|(refine S1 ?_ ?_;omega;conv=>whnf)|(refine AE ?_;conv=>whnf)))
   rw[show ((j:Int)+v.length+1).toNat-(j:Int).toNat=v.length+1 by omega,show 0+(j:Int).toNat=j by omega]
   refine yT N hA hW D2 hVD hv2l hvL hV0 n2 g2 (fun W' o' q' z1 z2 z3 z4 => ?_) (fun W' o' q' z1 z2 z3 z4 => ?_)
   ·(conv=>whnf)
    (repeat' (first|(refine A3 ?_ ?_;omega;conv=>whnf)|fail))
    refine E3 (by omega) ?_
    (conv=>whnf)
    (repeat' (refine CF ?_ ?_;omega;conv=>whnf))
    obtain ⟨t1,t2⟩:=ZQ (A:=A) (W:=W') (C:=C) (j:=j) hA g1
    refine A4 [] (by (conv=>whnf);exact ⟨rfl,rfl,rfl⟩) (ih j (A++W'++C) (w.set j q') (by omega) ⟨by omega,hlen W' z1,(D1.append z2).append D3,by simpa using p4,p5.set _ (by omega),by omega,?_⟩)
    rw[t1,t2,hset q' z4,z3]
    exact hTot2
   ·(conv=>whnf)
    (repeat' (first|(refine A3 ?_ ?_;omega;conv=>whnf)|fail))
    refine E3 (by omega) ?_
    (conv=>whnf)
    (repeat' (refine CF ?_ ?_;omega;conv=>whnf))
    obtain ⟨t1,t2⟩:=ZQ (A:=A) (W:=W') (C:=C) (j:=j) hA g1
    refine A4 [] (by (conv=>whnf);exact ⟨rfl,rfl,rfl⟩) (ih j (A++W'++C) (w.set j q') (by omega) ⟨by omega,hlen W' z1,(D1.append z2).append D3,by simpa using p4,p5.set _ (by omega),by omega,?_⟩)
    rw[t1,t2,hset q' z4,z3]
    exact hTot2
end Go.Eng
