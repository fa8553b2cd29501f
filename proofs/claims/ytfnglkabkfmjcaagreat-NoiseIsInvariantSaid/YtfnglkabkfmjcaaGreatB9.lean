/-
  The references of natural numbers (ref01): division.
-/
import Derived.Test.YtfnglkabkfmjcaaGreatB8
import Derived.Test.YtfnglkabkfmjcaaGreatB4
import Derived.Test.YtfnglkabkfmjcaaGreatB7
set_option linter.unusedSimpArgs false
set_option linter.unusedVariables false
set_option linter.unnecessarySimpa false
namespace Go.e9
open F
attribute [local irreducible] AA AF AM AC CK AR AW BD A7 BW AQ BT CD DB BP A4 BO CE AB A8 AJ pw B4 BK CF CI CN CX CJ BS CM
set_option maxHeartbeats 4000000
variable {L:Lib}
theorem Ap0 {V R y d t Q:Nat} (h:Q*y+R=V) (ht:t=R*4294967296+d):(t/y+4294967296*Q)*y+t%y=d+4294967296*V:=by
 have:=Nat.div_add_mod t y
 rw[<-h,Nat.add_mul];have e:t/y*y=y*(t/y):=Nat.mul_comm _ _;grind
theorem Aml (N:l7 L) (x:List Nat) (Y:Nat) (q:Bool) (d1:A3 x) (hx:x.length<=549755813888) (h0:Y≠0) (hY:Y<4294967296):Ev L 108 [.sl q (x.map AL),.int .u32 (Y:Int)] (.m9 [.sl false ((dg (val x/Y)).map AL),.int .u32 ((val x%Y:Nat):Int)]):=by
 refine Ev.x N.Z1 rfl rfl ?_;(repeat' ((first|apply AU|apply AE)<;>conv=>whnf))
 refine EK (enc:=AL) 0 x.length rfl (by omega) (by omega) ?_;(conv=>whnf)
 (repeat' ((first|(apply CB;omega)|apply AU)<;>conv=>whnf))
 refine GT (λ n _ _=>n) (λ(n:Nat) (o:List Nat) (r:Nat)=>n<=x.length/\o.length=x.length/\A3 o/\r<Y/\val (o.drop n)*Y+r=val (x.drop n)) (λ n o r=>[(7,.int .u64 (r:Int)),(8,.int .i64 ((n:Int)-1))]) (λ n o r=>[(11,11,.rw 1 (o.map AL))]) [] [] x.length (List.replicate x.length 0) 0 (by (conv=>whnf);exact ⟨rfl,rfl,rfl⟩) ⟨by omega,by simp,ON _,by omega,by rw[List.drop_of_length_le (Nat.le_refl _),List.drop_of_length_le (by simp)];simp [val]⟩ ?_;intro n o r ⟨p1,p2,p3,p4,p5⟩ ih;rcases n with _|n
 ·rw[List.drop_zero,List.drop_zero]at p5
  have hq:val x/Y=val o/\val x%Y=r:=by
   rw[<-p5];have e1:(val o*Y+r)/Y=val o:=by
    rw[Nat.mul_comm,Nat.mul_add_div (by omega),Nat.div_eq_of_lt p4,Nat.add_zero]
   have e2:(val o*Y+r)%Y=r:=by
    rw[Nat.mul_comm,Nat.mul_add_mod,Nat.mod_eq_of_lt p4]
   exact ⟨e1,e2⟩
  have hT:=λ q=>GP N o q p3 (by omega)
  rw[hq.1,hq.2,<-p2];clear ih hq p5;(repeat' ((first|(apply AG<;>intro hc<;>try (exfalso;omega))|(apply EJ;omega)|(refine DR (λ_=>rfl) rfl ?_ ?_;(first|rfl|simp))|apply AE|refine AD (hT _) ?_)<;>conv=>whnf))
  refine AY rfl ?_;simp only[A6,CW,and_true,true_and];exact CS _
 ·have e1:((n+1:Nat):Int)-1=n:=by omega
  rw[e1];obtain ⟨d,hd⟩ : ∃ d,x[n]? = some d:=⟨_,zE (by omega)⟩;have gl:=d1.at hd;have hR:r*4294967296+d<Y*4294967296:=by omega
  have vt:(r*4294967296+d)/Y<4294967296:=(Nat.div_lt_iff_lt_mul (by omega)).2 (by omega);(repeat' ((first|(apply AG<;>intro hc<;>try (exfalso;omega))|(apply A0;omega)|(apply bJ;omega)|(apply cL;omega)|(apply pG;omega;omega)|(apply CP;omega)|(apply EJ;omega)|(refine BH (by assumption) ?_ rfl ?_;omega)|apply AE)<;>conv=>whnf))
  obtain ⟨t,ht⟩ : ∃ t,t=r*4294967296+d:=⟨_,rfl⟩;rw[<-ht]at hR vt ⊢;have hm:t%Y<Y:=Nat.mod_lt _ (by omega);have o9:=Ap0 p5 ht;rw[<-HT hd]at o9;clear ht;skip
  refine FH (by omega) ?_;(conv=>whnf)
  (repeat' ((first|(apply CB;omega)|(apply lL;omega)|(apply CP;omega))<;>conv=>whnf))
  generalize t/Y=tq at *;generalize t%Y=tr at *;refine B3 [] (by (conv=>whnf);exact ⟨rfl,rfl,rfl⟩) (ih n _ _ (by omega) ⟨by omega,by simpa using p2,p3.set _ (by omega),hm,?_⟩);rw[HT (l:=o.set n tq) (d:=tq) (by rw[List.getElem?_set_self (by omega)]),List.drop_set_of_lt (by omega)];exact o9
theorem qD (a b:List Nat) (e:Int):A6 (.m9 [.sl false (a.map AL),.sl false (b.map AL),.int .i64 e]):=by
 simp only[A6,CW,and_true,true_and];exact ⟨CS a,CS b⟩
abbrev AjX:List It:=[It.lp D5.l1,It.m5 0,
   It.code
    (((BJ.ops D5.ft false).dr [0,75,79,80] []).seq
     (((BJ.ops D5.fu false).dr [81,82,83,84,85] []).seq
      ((((BJ.ops D5.iv false).dr [86,87,88,89,90] []).seq
         (BJ.block 2 D5.l2.loop)).seq
       (((BJ.ops D5.Un true).dr [9,10,11,12,13,14,92,277,278,279,280,281,282,283,284]
          []).seq
        BJ.ret))))]
abbrev qQ:List It:=[It.lp D5.l2,It.m5 2,It.code
       (((BJ.ops D5.Un true).dr [9,10,11,12,13,14,92,277,278,279,280,281,282,283,284]
          []).seq
        BJ.ret)]
abbrev qR (v:List Nat) (s ul m:Nat) (j:Int):Tm:=[(14,.int .i64 j),(13,.row 85 0 1 0 m),(12,.int .i64 v.length),(11,.sl false (v.map AL)),(10,.row 69 0 1 0 ul),(9,.int .i64 (s:Int))]
abbrev AjW:BJ:=(((BJ.ops D5.r39 false).dr [18,19,20,166,205,206,207] []).seq
                (((BJ.ops D5.r40 false).dr [208,209,210,211,212,213,214] []).seq
                 ((BJ.ops D5.r41 false).seq
                  ((((BJ.ops D5.r42 false).dr [215,216] []).seq
                     (BJ.cond 217
                      (((BJ.ops D5.r43 false).dr [18,217,218,219] []).seq
                       (BJ.ops D5.r44 false))
                      BJ.skip)).seq
                   (((BJ.ops D5.r45 false).dr
                      [23,24,217,220,221,222,223,224,225,226,227,228] []).seq
                    ((((BJ.ops D5.r46 false).dr [18,229] []).seq
                       (BJ.cond 230
                        (((BJ.ops D5.r47 false).dr [230,231,232] []).seq
                         ((BJ.ops D5.r48 false).seq
                          (((BJ.ops D5.r49 false).seq
                             (BJ.block 8 D5.l5.loop)).seq
                           ((BJ.ops D5.r55 false).dr
                            [25,26,235,262,263,264,265,266,267,268,269,270,271]
                            []))))
                        BJ.skip)).seq
                     ((BJ.ops D5.r56 false).dr [16,230,272,273,274,275,276]
                      [])))))))
abbrev AjY:List It:=It.lp D5.l4::It.m5 6::It.code AjW::It.m5 3::It.code ((BJ.ops D5.jf false).dr [93,94] [])::qQ
section
variable {A W C w y:List Nat} {j m s ul q:Nat} {Q:Tm->Mem->Prop}
theorem iV {e i n:Nat} (hi:i=A.length+n) (he:W[n]? = some e):(A++W++C)[i]? = some e:=by
 rw[AgE hi (zS he).1];exact he
theorem vY (hA:A.length=j) (hW:W.length=y.length+1) (D2:A3 W) (jx:A3 y) (lk:2<=y.length) (zt:y.length<=549755813888) (fg:0<val y) (iq:j<=1099511627776)
  (lg:ul=j+(y.length+1)+C.length) (Mc:w.length=m) (Lq:j<m)
  (r1:q<4294967296) (r2:val W/val y<=q) (r3:q<=val W/val y+1)
  (hk : ∀ (W':List Nat) (q':Nat),W'.length=y.length+1->A3 W'->val W'=val W%val y->q'=val W/val y->AA L qQ (qR y s ul m ((j:Int)-1)) [(69,101021,.rw 1 ((A++W'++C).map AL)),(85,85,.rw 1 ((w.set j q').map AL))] Q) :
  AA L AjY ([(20,.int .i64 0),(19,.int .u64 0),(18,.int .u64 0),(16,.int .u64 (q:Int))]++qR y s ul m (j:Int)) [(69,101021,.rw 1 ((A++W++C).map AL)),(85,85,.rw 1 (w.map AL))] Q:=by
 refine Uv (λ i _ _ _=>y.length-i) (λ(i:Nat) (Z:List Nat) (c b:Nat)=>i<=y.length/\Z.length=y.length+1/\A3 Z/\c<4294967296/\b<=1/\Z.drop i=W.drop i/\val (Z.take i)+q*val (y.take i)=val (W.take i)+4294967296^i*(c+b)) (λ i Z c b=>[(20,.int .i64 i),(18,.int .u64 (b:Int)),(19,.int .u64 (c:Int))]) (λ i Z c b=>[(69,101021,.rw 1 ((A++Z++C).map AL))]) [] [] 0 W 0 0 (by (conv=>whnf);exact ⟨rfl,rfl,rfl⟩) ⟨by omega,hW,D2,by omega,by omega,rfl,by simp [val]⟩ ?_;intro i Z c b ⟨p1,p2,p3,p4,p5,p6,p7⟩ ih;by_cases hi:i<y.length
 ·obtain ⟨d,hd⟩ : ∃ d,y[i]? = some d:=⟨_,zE hi⟩
  obtain ⟨u,hu⟩ : ∃ u,Z[i]? = some u:=⟨_,zE (by omega)⟩;have gl:=jx.at hd;have xh:=p3.at hu;have Lw:(A++Z++C)[((i:Int)+(j:Int)).toNat]? = some u:=iV (by omega) hu;obtain ⟨pr,ya⟩ : ∃ pr,pr=c+q*d:=⟨_,rfl⟩;obtain ⟨m1,m2,m3⟩:=AeI r1 gl p4 (show pr=q*d+c by omega);have Be:W[i]? = some u:=by
   have e1:(Z.drop i)[0]? = (W.drop i)[0]? := by rw[p6]
   simpa [hu] using e1.symm
  have ua : ∀ w,(Z.set i w).drop (i+1)=W.drop (i+1):=λ w=>by
   rw[List.drop_set_of_lt (by omega)];have e1:(Z.drop i).drop 1=(W.drop i).drop 1:=by rw[p6]
   simpa using e1
  have o9 : ∀ have' take w gn,take=pr%4294967296+b->((have'=u/\gn=0/\take<=u)\/(have'=u+4294967296/\gn=1/\u<take))->w+take=have'->val ((Z.set i w).take (i+1))+q*val (y.take (i+1))=val (W.take (i+1))+4294967296^(i+1)*(pr/4294967296+gn):=λ have' take w gn a1 a2 a3=>by
   rw[GF (by omega),EC hd,EC Be,Nat.pow_succ];exact Aox p7 ya a1 a2 a3
  by_cases v9:u<pr%4294967296+b
  ·have h3:=o9 (u+4294967296) (pr%4294967296+b) (u+4294967296-(pr%4294967296+b)) 1 rfl (Or.inr ⟨rfl,rfl,v9⟩) (by omega)
   (repeat' ((first|(apply AG<;>intro hc<;>try (exfalso;omega))|(apply A0;omega)|(apply AX;omega)|(apply GH;omega)|(apply cK;omega)|(apply Xd;omega)|(apply OD;omega;omega)|apply FN|(apply pE;omega)|(apply CP;omega)|(apply EJ;omega)|(refine BH (by assumption) ?_ rfl ?_;omega)|refine O4 (by assumption) ?_|apply AE)<;>conv=>whnf))
   rw[<-ya];skip
   refine bK i (by omega) (by omega) ?_;(conv=>whnf)
   (repeat' ((first|(apply AX;omega)|fail)<;>conv=>whnf))
   exact B3 [] (by (conv=>whnf);exact ⟨rfl,rfl,rfl⟩) (ih (i+1) (Z.set i (u+4294967296-(pr%4294967296+b))) (pr/4294967296) 1 (by omega) ⟨by omega,by simpa using p2,p3.set _ (by omega),m1,by omega,ua _,h3⟩)
  ·have h3:=o9 u (pr%4294967296+b) (u-(pr%4294967296+b)) 0 rfl (Or.inl ⟨rfl,rfl,by omega⟩) (by omega)
   (repeat' ((first|(apply AG<;>intro hc<;>try (exfalso;omega))|(apply A0;omega)|(apply AX;omega)|(apply GH;omega)|(apply cK;omega)|(apply Xd;omega)|(apply OD;omega;omega)|apply FN|(apply CP;omega)|(apply EJ;omega)|(refine BH (by assumption) ?_ rfl ?_;omega)|refine O4 (by assumption) ?_|apply AE)<;>conv=>whnf))
   rw[<-ya];skip
   refine bK i (by omega) (by omega) ?_;(conv=>whnf)
   (repeat' ((first|(apply AX;omega)|fail)<;>conv=>whnf))
   exact B3 [] (by (conv=>whnf);exact ⟨rfl,rfl,rfl⟩) (ih (i+1) (Z.set i (u-(pr%4294967296+b))) (pr/4294967296) 0 (by omega) ⟨by omega,by simpa using p2,p3.set _ (by omega),m1,by omega,ua _,h3⟩)
 ·obtain rfl:i=y.length:=by omega
  clear ih;obtain ⟨u,hu⟩ : ∃ u,Z[y.length]? = some u:=⟨_,zE (by omega)⟩;have xh:=p3.at hu;have Lw:(A++Z++C)[((j:Int)+(y.length:Int)).toNat]? = some u:=iV (by omega) hu;have Be:W[y.length]? = some u:=by
   have e1:(Z.drop y.length)[0]? = (W.drop y.length)[0]? := by rw[p6]
   simpa [hu] using e1.symm
  rw[DG (Nat.le_refl y.length)]at p7;have eW:val W=val (W.take y.length)+4294967296^y.length*u:=by
   rw[<-EC Be,DG (by omega)]
  have o9 : ∀ have' take w gn,take=c+b->((have'=u/\gn=0/\take<=u)\/(have'=u+4294967296/\gn=1/\u<take))->w+take=have'->val (Z.set y.length w)+q*val y=val W+4294967296^y.length*4294967296*gn:=λ have' take w gn a1 a2 a3=>by
   have h1:=Aov p7 a1 a2 a3;rw[<-eW,<-GF (show y.length<Z.length by omega),DG (by simp;omega)]at h1;exact h1
  by_cases v9:u<c+b
  ·have h3:=o9 (u+4294967296) (c+b) (u+4294967296-(c+b)) 1 rfl (Or.inr ⟨rfl,rfl,v9⟩) (by omega)
   have Ib:A3 (Z.set y.length (u+4294967296-(c+b))):=p3.set _ (by omega);have vg:(Z.set y.length (u+4294967296-(c+b))).length=y.length+1:=by simpa using p2
   rw[Nat.mul_one]at h3;have Gg:=FA Ib;rw[vg,Nat.pow_succ]at Gg;obtain ⟨y1,y2,y3⟩:=Zq fg r3 Gg h3;(repeat' ((first|(apply AG<;>intro hc<;>try (exfalso;omega))|(apply A0;omega)|(apply AX;omega)|(apply GH;omega)|(apply OD;omega;omega)|(apply pE;omega)|(apply CP;omega)|(apply EJ;omega)|refine O4 (by assumption) ?_|apply AE)<;>conv=>whnf))
   refine bK y.length (by omega) (by omega) ?_;(conv=>whnf)
   (repeat' ((first|(apply AG<;>intro hc<;>try (exfalso;omega))|(apply OD;omega;omega))<;>conv=>whnf))
   clear p7 p6 eW hu Be xh Lw p2 p3 o9;generalize Z.set y.length (u+4294967296-(c+b))=X at *;have hRV:val W%val y<val y:=Nat.mod_lt _ fg;have Ee:=FA jx;obtain ⟨xw,Ft⟩ : ∃ xw,X[y.length]? = some xw:=⟨_,zE (by omega)⟩;have eX:val X=val (X.take y.length)+4294967296^y.length*xw:=by
    rw[<-EC Ft,DG (by omega)]
   have yc:q-1<4294967296:=by omega
   refine GT (λ i _ _=>y.length-i) (λ(i:Nat) (Z:List Nat) (c:Nat)=>i<=y.length/\Z.length=y.length+1/\A3 Z/\c<=1/\Z.drop i=X.drop i/\val (Z.take i)+4294967296^i*c=val (X.take i)+val (y.take i)) (λ i Z c=>[(26,.int .i64 i),(25,.int .u64 (c:Int))]) (λ i Z c=>[(69,101021,.rw 1 ((A++Z++C).map AL))]) [] [] 0 X 0 (by (conv=>whnf);exact ⟨rfl,rfl,rfl⟩) ⟨by omega,vg,Ib,by omega,rfl,by simp [val]⟩ ?_;intro i Z c ⟨p1,p2,p3,p4,p6,p7⟩ ih;by_cases hi:i<y.length
   ·obtain ⟨d,hd⟩ : ∃ d,y[i]? = some d:=⟨_,zE hi⟩
    obtain ⟨u,hu⟩ : ∃ u,Z[i]? = some u:=⟨_,zE (by omega)⟩;have gl:=jx.at hd;have xh:=p3.at hu;have Lw:(A++Z++C)[((i:Int)+(j:Int)).toNat]? = some u:=iV (by omega) hu;have qe:X[i]? = some u:=by
     have e1:(Z.drop i)[0]? = (X.drop i)[0]? := by rw[p6]
     simpa [hu] using e1.symm
    have ij:=Xp (d:=d) (w:=u) (t:=c+(u+d)) p7 (by omega);(repeat' ((first|(apply AG<;>intro hc<;>try (exfalso;omega))|(apply A0;omega)|(apply AX;omega)|(apply GH;omega)|(apply CP;omega)|apply F9|(refine BH (by assumption) ?_ rfl ?_;omega)|refine O4 (by assumption) ?_|apply AE)<;>conv=>whnf))
    generalize Tj:c+(u+d)=t2 at *;refine bK i (by omega) (by omega) ?_;(conv=>whnf)
    (repeat' ((first|(apply AX;omega)|apply FN)<;>conv=>whnf))
    refine B3 [] (by (conv=>whnf);exact ⟨rfl,rfl,rfl⟩) (ih (i+1) (Z.set i (t2%4294967296)) (t2/4294967296) (by omega) ⟨by omega,by simpa using p2,p3.set _ (by omega),by omega,?_,?_⟩)
    ·rw[List.drop_set_of_lt (by omega)]
     have e1:(Z.drop i).drop 1=(X.drop i).drop 1:=by rw[p6]
     simpa using e1
    ·rw[GF (by omega),EC hd,EC qe,Nat.pow_succ]
     exact ij
   ·obtain rfl:i=y.length:=by omega
    clear ih;obtain ⟨u,hu⟩ : ∃ u,Z[y.length]? = some u:=⟨_,zE (by omega)⟩;have xh:=p3.at hu;have Lw:(A++Z++C)[((j:Int)+(y.length:Int)).toNat]? = some u:=iV (by omega) hu;have qe:X[y.length]? = some u:=by
     have e1:(Z.drop y.length)[0]? = (X.drop y.length)[0]? := by rw[p6]
     simpa [hu] using e1.symm
    rw[qe]at Ft;obtain rfl:u=xw:=by simpa using Ft
    rw[DG (Nat.le_refl y.length)]at p7;have Ic:=FA (p3.take y.length);rw[List.length_take,Nat.min_eq_left (by omega)]at Ic;rw[eX]at y3;have nf:=Xo p7 y3 (by omega) Ic;rw[<-GF (show y.length<Z.length by omega),DG (by simp;omega)]at nf;(repeat' ((first|(apply AG<;>intro hc<;>try (exfalso;omega))|(apply A0;omega)|(apply AX;omega)|apply Xc|(apply EJ;omega)|refine O4 (by assumption) ?_|apply AE)<;>conv=>whnf))
    refine bK y.length (by omega) (by omega) ?_;(conv=>whnf)
    (repeat' ((first|(apply A0;omega)|(apply EJ;omega))<;>conv=>whnf))
    refine FH (by omega) ?_;(conv=>whnf)
    (repeat' ((first|(apply CB;omega)|fail)<;>conv=>whnf))
    exact B3 [] (by (conv=>whnf);exact ⟨rfl,rfl,rfl⟩) (hk _ _ (by simpa using p2) (p3.set _ (by omega)) nf y1)
  ·have h3:=o9 u (c+b) (u-(c+b)) 0 rfl (Or.inl ⟨rfl,rfl,by omega⟩) (by omega)
   rw[Nat.mul_zero,Nat.add_zero]at h3;obtain ⟨y1,y2⟩:=Zr fg r2 h3;(repeat' ((first|(apply AG<;>intro hc<;>try (exfalso;omega))|(apply A0;omega)|(apply AX;omega)|(apply GH;omega)|(apply OD;omega;omega)|(apply CP;omega)|(apply EJ;omega)|refine O4 (by assumption) ?_|apply AE)<;>conv=>whnf))
   refine bK y.length (by omega) (by omega) ?_;(conv=>whnf)
   (repeat' ((first|(apply AG<;>intro hc<;>try (exfalso;omega))|(apply A0;omega)|(apply EJ;omega))<;>conv=>whnf))
   refine FH (by omega) ?_;(conv=>whnf)
   (repeat' ((first|(apply CB;omega)|fail)<;>conv=>whnf))
   exact B3 [] (by (conv=>whnf);exact ⟨rfl,rfl,rfl⟩) (hk _ _ (by simpa using p2) (p3.set _ (by omega)) y2 y1)
theorem AjZ (hA:A.length=j) (hW:W.length=y.length+1) (D2:A3 W) (jx:A3 y) (lk:2<=y.length) (zt:y.length<=549755813888) (fg:0<val y) (iq:j<=1099511627776)
  (n2:4294967296^(y.length-1)*2147483648<=val y) (g2:val W<4294967296*val y) (lg:ul=j+(y.length+1)+C.length) (Mc:w.length=m) (Lq:j<m)
  (hk : ∀ (W':List Nat) (q':Nat),W'.length=y.length+1->A3 W'->val W'=val W%val y->q'=val W/val y->AA L qQ (qR y s ul m ((j:Int)-1)) [(69,101021,.rw 1 ((A++W'++C).map AL)),(85,85,.rw 1 ((w.set j q').map AL))] Q) :
  AA L (.code D5.l2::qQ) (qR y s ul m (j:Int)) [(69,101021,.rw 1 ((A++W++C).map AL)),(85,85,.rw 1 (w.map AL))] Q:=by
 obtain ⟨UL,a1,a2⟩:=tW D2 (n:=y.length+1) (by omega) (by omega);obtain ⟨VL,b5,b6⟩:=Agx jx (n:=y.length) lk (by omega);obtain ⟨u0,w0⟩ : ∃ d,W[y.length]? = some d:=⟨_,zE (by omega)⟩;obtain ⟨u1,w1⟩ : ∃ d,W[y.length-1]? = some d:=⟨_,zE (by omega)⟩;obtain ⟨u2,w2⟩ : ∃ d,W[y.length-2]? = some d:=⟨_,zE (by omega)⟩;obtain ⟨f1,x1⟩ : ∃ d,y[y.length-1]? = some d:=⟨_,zE (by omega)⟩;obtain ⟨f2,x2⟩ : ∃ d,y[y.length-2]? = some d:=⟨_,zE (by omega)⟩;rw[show y.length+1-3=y.length-2 by omega,show y.length+1-2=y.length-1 by omega,show y.length+1-1=y.length by omega,G2 w0,G2 w1,G2 w2]at a2;rw[show y.length+1-3=y.length-2 by omega]at a1;rw[G2 x1,G2 x2]at b6;have yp:=Ago jx (k:=y.length-1) (by omega) n2 x1;have k0:=D2.at w0;have k1:=D2.at w1;have k2:=D2.at w2;have k3:=jx.at x1;have k4:=jx.at x2;have z1:y[((y.length:Int)-1).toNat]? = some f1:=by rw[show ((y.length:Int)-1).toNat=y.length-1 by omega];exact x1
 have z2:y[((y.length:Int)-2).toNat]? = some f2:=by rw[show ((y.length:Int)-2).toNat=y.length-2 by omega];exact x2
 have du:(A++W++C)[((j:Int)+(y.length:Int)).toNat]? = some u0:=iV (by omega) w0;(repeat' ((first|(apply AG<;>intro hc<;>try (exfalso;omega))|(apply A0;omega)|(apply AX;omega)|(apply CB;omega)|(apply bJ;omega)|(apply CP;omega)|refine O4 (by assumption) ?_|apply AE)<;>conv=>whnf))
 have gi:(A++W++C)[((j:Int)+(y.length:Int)-1).toNat]? = some u1:=iV (by omega) w1;refine Aho gi ?_;(conv=>whnf)
 refine Wu (by omega) ?_;(conv=>whnf)
 refine cL (by omega) ?_;(conv=>whnf)
 clear du gi;have iu:(A++W++C)[((j:Int)+(y.length:Int)-2).toNat]? = some u2:=iV (by omega) w2;generalize Tp:u0*4294967296+u1=top at *;have Dk:top<=18446744073709551615:=by omega
 have hU:val W=UL+4294967296^(y.length-2)*(u2+4294967296*top):=by rw[a2,show u1+4294967296*u0=top by omega]
 (repeat' ((first|(apply CB;omega)|(apply lL;omega)|(apply pG;omega;omega)|(apply CP;omega)|(refine BH (by assumption) ?_ rfl ?_;omega))<;>conv=>whnf))
 refine G8 (λ q _=>q) (λ(q r:Nat)=>Gs (val W) (val y) f1 f2 u2 top q r) (λ q r=>[(16,.int .u64 (q:Int)),(17,.int .u64 (r:Int))]) (λ_ _=>[]) [] [] (top/f1) (top%f1) (by (conv=>whnf);exact ⟨rfl,rfl,rfl⟩) (Gs.start hU b6 a1 k2 fg (by omega) k3) ?_;intro q r g ti;have hqt:q<=top:=by
  have h3:=g.hq;have h4:q*1<=q*f1:=Nat.mul_le_mul_left q (by omega);omega
 have hr:=g.hr;have qt:=g.ge;by_cases hb:4294967296<=q
 ·obtain ⟨y1,y2,y3⟩:=g.next hU b6 a1 fg g2 (Or.inl hb)
  (repeat' ((first|(apply AG<;>intro hc<;>try (exfalso;omega))|(apply CB;omega)|(apply GH;omega)|(apply OD;omega;omega)|(apply CP;omega)|(refine BH (by assumption) ?_ rfl ?_;omega)|apply AE)<;>conv=>whnf))
  ·obtain ⟨t1,t2⟩:=jW hU b6 b5 yp k4 g2 y2 (Or.inr (by omega))
   exact B3 [] (by (conv=>whnf);exact ⟨rfl,rfl,rfl⟩) (vY (w:=w) (C:=C) hA hW D2 jx lk zt fg iq lg Mc Lq t1 y3 t2 hk)
  ·exact B3 [] (by (conv=>whnf);exact ⟨rfl,rfl,rfl⟩) (ti (q-1) (r+f1) (by omega) ⟨y2,by omega,y3⟩)
 ·have hmq:=kF (show q<4294967296 by omega) k4
  by_cases bn:r*4294967296+u2<q*f2
  ·obtain ⟨y1,y2,y3⟩:=g.next hU b6 a1 fg g2 (Or.inr bn)
   (repeat' ((first|(apply AG<;>intro hc<;>try (exfalso;omega))|(apply A0;omega)|(apply AX;omega)|(apply CB;omega)|(apply GH;omega)|(apply cK;omega)|(apply bJ;omega)|(apply cL;omega)|(apply OD;omega;omega)|(apply CP;omega)|(refine BH (by assumption) ?_ rfl ?_;omega)|refine O4 (by assumption) ?_|apply AE)<;>conv=>whnf))
   ·obtain ⟨t1,t2⟩:=jW hU b6 b5 yp k4 g2 y2 (Or.inr (by omega))
    exact B3 [] (by (conv=>whnf);exact ⟨rfl,rfl,rfl⟩) (vY (w:=w) (C:=C) hA hW D2 jx lk zt fg iq lg Mc Lq t1 y3 t2 hk)
   ·exact B3 [] (by (conv=>whnf);exact ⟨rfl,rfl,rfl⟩) (ti (q-1) (r+f1) (by omega) ⟨y2,by omega,y3⟩)
  ·obtain ⟨t1,t2⟩:=jW hU b6 b5 yp k4 g2 g.hq (Or.inl ⟨by omega,by omega⟩)
   (repeat' ((first|(apply AG<;>intro hc<;>try (exfalso;omega))|(apply A0;omega)|(apply AX;omega)|(apply CB;omega)|(apply cK;omega)|(apply bJ;omega)|(apply cL;omega)|(apply CP;omega)|(refine BH (by assumption) ?_ rfl ?_;omega)|refine O4 (by assumption) ?_|apply AE)<;>conv=>whnf))
   exact B3 [] (by (conv=>whnf);exact ⟨rfl,rfl,rfl⟩) (vY (w:=w) (C:=C) hA hW D2 jx lk zt fg iq lg Mc Lq t1 qt t2 hk)
end
theorem AqC {l:List Nat} (hD:A3 l) (h:l[l.length-1]? = some 0):val l<4294967296^(l.length-1):=by
 have hl:=(zS h).1;have h1:=S6 l (l.length-1) (by omega);have h2:=HT h;rw[List.drop_of_length_le (show l.length<=l.length-1+1 by omega),OB]at h2;rw[h2]at h1;simp only[Nat.mul_zero,Nat.add_zero]at h1;have h3:=FA (hD.take (l.length-1));rw[List.length_take,Nat.min_eq_left (by omega)]at h3;omega
theorem Zt (N:l7 L) {X Y s:Nat} {x u y:List Nat} (hY:Y≠0) (ix:s<=31) (Lb:A3 u) (Le:val u=X*2^s) (hU0:u[u.length-1]? = some 0) (lg:x.length+1<=u.length/\u.length<=549755813888) (jx:A3 y) (Lg:val y=Y*2^s) (ow:2<=y.length/\y.length<=x.length) (n2:4294967296^(y.length-1)*2147483648<=val y) :
  AA L AjX [(10,.row 69 0 1 0 u.length),(11,.sl false (y.map AL)),(9,.int .i64 (s:Int)),(0,.sl false (x.map AL))] [(69,101021,.rw 1 (u.map AL))] (dW D5 (.m9 [.sl false ((dg (X/Y)).map AL),.sl false ((dg (X%Y)).map AL),.int .i64 0])):=by
 refine B6 (λ(_:Nat)=>0) (λ_=>True) (λ_=>[]) (λ_=>[]) [] [] 0 (by (conv=>whnf);exact ⟨rfl,rfl,rfl⟩) trivial ?_;intro _ _ _;(repeat' ((first|(apply AG<;>intro hc<;>try (exfalso;omega))|(apply AX;omega)|(apply CB;omega)|apply AU|apply AE)<;>conv=>whnf))
 refine EK (enc:=AL) 0 (u.length-y.length) (by rfl) (by omega) (by omega) ?_;(conv=>whnf)
 (repeat' ((first|(apply CB;omega)|fail)<;>conv=>whnf))
 have fg:0<val y:=by
  have:=Aff (y.length-1)
  omega
 have Ef:=FA jx;generalize hm:u.length-y.length=m at *;have vo:val (u.drop m)<val y:=by
  have h1:(u.drop m).length=y.length:=by simp;omega
  have h2:=AqC (l:=u.drop m) (Lb.drop _) (by rw[h1,List.getElem?_drop,show m+(y.length-1)=u.length-1 by omega];exact hU0);rw[h1]at h2;omega
 rw[show (u.length:Int)-y.length-1=((m:Nat):Int)-1 by omega];refine GT (λ n _ _=>n) (λ(n:Nat) (o w:List Nat)=>n<=m/\o.length=u.length/\A3 o/\w.length=m/\A3 w/\val (o.drop n)<val y/\X*2^s=val (o.take n)+4294967296^n*(val (w.drop n)*val y+val (o.drop n))) (λ n o w=>[(14,.int .i64 ((n:Int)-1))]) (λ n o w=>[(69,101021,.rw 1 (o.map AL)),(85,85,.rw 1 (w.map AL))]) [] [] m u (List.replicate m 0) (by (conv=>whnf);exact ⟨rfl,rfl,rfl⟩) ⟨by omega,rfl,Lb,by simp,ON _,vo,by rw[<-Le,List.drop_of_length_le (show (List.replicate m 0).length<=m by simp),OB,Nat.zero_mul,Nat.zero_add];exact S6 u m (by omega)⟩ ?_;intro n o w ⟨p1,p2,p3,p4,p5,p6,p7⟩ ih;rcases n with _|j
 ·clear ih
  rw[List.drop_zero]at p6;rw[List.take_zero,List.drop_zero,List.drop_zero,OB,Nat.zero_add,Nat.pow_zero,Nat.one_mul]at p7;have ua:val o=val (o.take y.length):=by
   have h1:=iT o y.length;rcases Nat.eq_zero_or_pos (val (o.drop y.length)) with h2|h2
   ·rw[h2,Nat.mul_zero,Nat.add_zero]at h1;exact h1
   ·have h3:4294967296^y.length*1<=4294967296^y.length*val (o.drop y.length):=Nat.mul_le_mul_left _ h2
    omega
  have Bf:X/Y=val w/\X%Y=val o/2^s:=by
   obtain ⟨z1,z2⟩:=Zs (X:=X) (Y:=Y) (Nat.two_pow_pos s);rw[<-z1,<-z2,<-Lg,p7];have e1:(val w*val y+val o)/val y=val w:=by
    rw[Nat.mul_comm,Nat.mul_add_div fg,Nat.div_eq_of_lt p6,Nat.add_zero]
   have e2:(val w*val y+val o)%val y=val o:=by
    rw[Nat.mul_comm,Nat.mul_add_mod,Nat.mod_eq_of_lt p6]
   rw[e1,e2];exact ⟨rfl,rfl⟩
  rw[Bf.1,Bf.2,ua];have hT:=λ q=>GP N w q p5 (by omega)
  have fm:(o.take y.length).length<=549755813888:=by rw[List.length_take];omega
  clear p7 Bf vo;rw[<-p4];rcases Nat.eq_zero_or_pos s with h0|h0
  ·subst h0
   have hS:=λ q=>Adc N (o.take y.length) q 0 (p3.take _) fm (by omega)
   rw[Nat.pow_zero,Nat.mul_one]at hS;rw[Nat.pow_zero,Nat.div_one];(repeat' ((first|(apply AG<;>intro hc<;>try (exfalso;omega))|(refine DR (λ_=>rfl) rfl ?_ ?_;(first|rfl|simp))|apply AE|refine AD (hT _) ?_)<;>conv=>whnf))
   refine HU y.length rfl (by omega) ?_;(conv=>whnf)
   refine CK.neg (by omega) ?_;(conv=>whnf)
   refine IZ (enc:=AL) (λ_=>rfl) (by omega) ?_;(conv=>whnf)
   rw[List.drop_zero,Nat.sub_zero,show -((0:Nat):Int)=((0:Nat):Int) by omega];(repeat' (refine AD (hS _) ?_<;>conv=>whnf))
   exact AY rfl (qD _ _ _)
  ·have hS:=λ q=>Amk N (o.take y.length) q s (p3.take _) fm (by omega)
   (repeat' ((first|(apply AG<;>intro hc<;>try (exfalso;omega))|(refine DR (λ_=>rfl) rfl ?_ ?_;(first|rfl|simp))|apply AE|refine AD (hT _) ?_)<;>conv=>whnf))
   refine HU y.length rfl (by omega) ?_;(conv=>whnf)
   refine CK.neg (by omega) ?_;(conv=>whnf)
   refine IZ (enc:=AL) (λ_=>rfl) (by omega) ?_;(conv=>whnf)
   rw[List.drop_zero,Nat.sub_zero];(repeat' (refine AD (hS _) ?_<;>conv=>whnf))
   exact AY rfl (qD _ _ _)
 ·have e3:((j+1:Nat):Int)-1=j:=by omega
  rw[e3];obtain ⟨A,W,C,hA,hW,rfl⟩:=Yk o j (y.length+1) (by omega);obtain ⟨g1,g2,g3⟩:=Ym hA hW p3 p6 Ef;obtain ⟨D1,D2,D3⟩:=Zp p3;have yc:val W/val y<4294967296:=(Nat.div_lt_iff_lt_mul fg).2 g2;have Qi:val W=val W/val y*val y+val W%val y:=by rw[Nat.mul_comm];exact (Nat.div_add_mod _ _).symm
  have Eg:val W%val y<val y:=Nat.mod_lt _ fg;have Ed:X*2^s=val A+4294967296^j*val W+4294967296^j*4294967296*(val (w.drop (j+1))*val y):=by
   rw[p7,Nat.mul_add,<-g3,Nat.pow_succ];omega
  have vf:=Yl Ed Qi;have ue : ∀ q',q'=val W/val y->val ((w.set j q').drop j)=val W/val y+4294967296*val (w.drop (j+1)):=λ q' h=>by
   rw[HT (l:=w.set j q') (d:=q') (by rw[List.getElem?_set_self (by omega)]),List.drop_set_of_lt (by omega),h]
  have hlen : ∀ W':List Nat,W'.length=y.length+1->(A++W'++C).length=u.length:=λ W' h=>by
   rw[<-p2];simp [h,hW]
  have hl3:u.length=j+(y.length+1)+C.length:=by rw[<-p2];simp [hA,hW];omega
  refine B3 [] (by (conv=>whnf);exact ⟨rfl,rfl,rfl⟩) (AjZ (m:=m) (s:=s) (ul:=u.length) (C:=C) hA hW D2 jx ow.1 (by omega) fg (by omega) n2 g2 hl3 p4 (by omega) (λ W' q' z1 z2 z3 z4 => ?_));obtain ⟨t1,t2⟩:=wJ (A:=A) (W:=W') (C:=C) (j:=j) hA g1;refine B3 [] (by (conv=>whnf);exact ⟨rfl,rfl,rfl⟩) (ih j (A++W'++C) (w.set j q') (by omega) ⟨by omega,hlen W' z1,(D1.append z2).append D3,by simpa using p4,p5.set _ (by omega),by omega,?_⟩);rw[t1,t2,ue q' z4,z3];exact vf
end Go.e9
namespace Go.e9
open F
attribute [local irreducible] AA AF AM AC CK AR AW BD A7 BW AQ BT CD DB BP A4 BO CE AB A8 AJ pw B4 BK CF CI CN CX CJ BS CM
variable {L:Lib}
set_option maxHeartbeats 8000000
theorem Adb (N:l7 L) (a b:List Nat) (q1 q2:Bool) (hA:A3 a) (hB:A3 b) (la:a.length<=274877906944) (lb:b.length<=274877906944) (h0:val b≠0) :
  Ev L 109 [.sl q1 (a.map AL),.sl q2 (b.map AL)] (.m9 [.sl false ((dg (val a/val b)).map AL),.sl false ((dg (val a%val b)).map AL),.int .i64 0]):=by
 have t1:=λ q=>GP N a q hA (by omega)
 have t2:=λ q=>GP N b q hB (by omega)
 have l1:=E2 hA;have l2:=E2 hB;have u6:=λ q q'=>wZ N (dg (val a)) (dg (val b)) q q' (EA _) (EA _) (by omega) (by omega)
 rw[B5,B5]at u6;generalize val a=X at *;generalize val b=Y at *;have d1:=EA X;have d2:=EA Y;have v1:=B5 X;have v2:=B5 Y;have hy1:=mI h0;refine Ev.x N.D5 rfl rfl ?_;by_cases h1:(dg Y).length=1
 ·obtain ⟨y0,ui⟩ : ∃ y0,dg Y=[y0]:=List.length_eq_one_iff.1 h1
  have As:Y=y0:=by rw[<-v2,ui];simp [val]
  subst As;have Dr:Y<4294967296:=d2 Y (by rw[ui];simp);have hyg:(dg Y)[(0:Int).toNat]? = some Y:=by rw[ui];rfl
  have Gx:=λ q=>Aml N (dg X) Y q d1 (by omega) h0 Dr
  rw[v1]at Gx;have mo:X%Y<4294967296:=Nat.lt_trans (Nat.mod_lt _ (by omega)) Dr;have Hx:=λ q=>GP N [X%Y] q (II mo) (by simp)
  rw[show val [X%Y]=X%Y by simp [val]]at Hx;clear ui v2;generalize dg Y=y at *;(repeat' ((first|(apply AG<;>intro hc<;>try (exfalso;omega))|apply AU|(refine BH (by assumption) ?_ rfl ?_;omega)|refine H6 rfl ?_|apply AE|refine AD (t1 _) ?_|refine AD (t2 _) ?_|refine AD (Gx _) ?_|refine AD (Hx _) ?_)<;>conv=>whnf))
  exact AY rfl (qD _ _ _)
 by_cases v9:X<Y
 ·rw[<-JZ (by omega)]at u6
  (repeat' ((first|(apply AG<;>intro hc<;>try (exfalso;omega))|apply AU|apply AE|refine AD (t1 _) ?_|refine AD (t2 _) ?_|refine AD (u6 _ _) ?_)<;>conv=>whnf))
  refine AY ?_ (qD _ _ _);rw[Nat.div_eq_of_lt v9,Nat.mod_eq_of_lt v9,E8];rfl
 have qt:=qF (show Y<=X by omega);generalize DD X Y=cm at *;have Ls:2<=(dg Y).length:=by omega
 obtain ⟨yt,Cd,Ce⟩:=vW h0;have zz:=d2.at Cd;obtain ⟨b1,b2,b3,b4⟩:=zA Ce zz;have jk:=λ q=>Amh N yt q Ce zz
 generalize hs:32-aw yt=s at *;have ix:s<=31:=by omega
 have Th:=λ q=>Adc N (dg Y) q s d2 (by omega) (by omega)
 obtain ⟨n1,n2⟩:=yV d2 Cd (by omega) ix b3 b4;rw[v2]at Th n1 n2;have ua:(dg Y).drop ((dg Y).length-1)=[yt]:=by
  obtain ⟨hi,he⟩:=zS Cd;rw[List.drop_eq_getElem_cons hi,he,List.drop_of_length_le (by omega)]
 have ow:(dg (Y*2^s)).length=(dg Y).length:=by
  have a1:=bS.2 n1;have a2 : ¬ (dg (Y*2^s)).length<=(dg Y).length-1:=λ h=>by
   have:=bS.1 h
   omega
  omega
 have AFa:(dg (X*2^s)).length<=(dg X).length+1:=by
  refine bS.2 ?_;have a1:X<4294967296^(dg X).length:=bS.1 (Nat.le_refl _);rw[Nat.pow_succ];have a2:=nR (s:=s) (by omega);exact Nat.lt_of_lt_of_le (Nat.mul_lt_mul_of_pos_right a1 (Nat.two_pow_pos s)) (Nat.mul_le_mul_left _ a2)
 have vg:(dg X).length<=(dg (X*2^s)).length:=eC (Nat.le_mul_of_pos_right _ (Nat.two_pow_pos s));have Am:=eC (show Y<=X by omega);generalize hx:dg X=x at *;generalize hy:dg Y=y at *;have t3:=λ q=>GP N x q d1 (by omega)
 rw[v1,hx]at t3;(repeat' ((first|(apply AG<;>intro hc<;>try (exfalso;omega))|(apply CB;omega)|apply AU|apply AE|refine AD (t1 _) ?_|refine AD (t2 _) ?_|refine AD (u6 _ _) ?_)<;>conv=>whnf))
 rw[show (y.length:Int)-1=((y.length-1:Nat):Int) by omega];refine AhE (k:=y.length-1) (λ_=>rfl) (by omega) ?_;(conv=>whnf)
 rw[ua];(repeat' ((first|(apply CB;omega)|refine AD (jk _) ?_)<;>conv=>whnf))
 rw[show (32:Int)-(aw yt:Nat)=((s:Nat):Int) by omega];refine FY 1000 N.KR rfl rfl ?_;have Tc:(s:Int)/32=((0:Nat):Int):=by omega
 have hsr:(s:Int)%32=((s:Nat):Int):=by omega
 (repeat' ((first|(apply AG<;>intro hc<;>try (exfalso;omega))|(refine dU ?_ ?_ (λ_ => ?_) (λ_ _ => ?_);omega;omega;all_goals try (exfalso;omega))|apply AU|apply AE|refine AD (t3 _) ?_)<;>conv=>whnf))
 rw[Tc];refine EK (enc:=AL) 0 0 rfl rfl (by omega) ?_;(conv=>whnf)
 skip
 refine GT (λ i _ _=>x.length-i) (λ(i:Nat) (o:List Nat) (c:Nat)=>i<=x.length/\o.length=i/\A3 o/\c<2^s/\val o+4294967296^i*c=val (x.take i)*2^s) (λ i o c=>[(10,.int .i64 i),(9,.int .u64 (c:Int)),(8,.row 107069 0 1 0 i)]) (λ i o c=>[(107069,107069,.rw 1 (o.map AL))]) [] [] 0 [] 0 (by (conv=>whnf);exact ⟨rfl,rfl,rfl⟩) ⟨by omega,rfl,jP,Nat.two_pow_pos _,by simp [val]⟩ ?_;intro i o c ⟨p1,p2,p3,p4,p5⟩ ih;have yb:=nR (s:=s) (by omega);by_cases hi:i<x.length
 ·obtain ⟨d,hd⟩ : ∃ d,x[i]? = some d:=⟨_,zE hi⟩
  have gl:=d1.at hd;obtain ⟨f1,f2,f3,f4⟩:=iN (s:=s) gl (by omega);have hr:=rP (show s<=64 by omega) f4;(repeat' ((first|(apply AG<;>intro hc<;>try (exfalso;omega))|(refine gA ?_ (λ_ _ _ => ?_) (λ_ _ _ _ => ?_);omega;all_goals try (exfalso;omega))|(apply CP;omega)|apply AU|(refine BH (by assumption) ?_ rfl ?_;omega)|apply AE)<;>conv=>whnf))
  rw[hsr];refine cN (by omega) f4 ?_;(conv=>whnf)
  skip
  refine pF s (Nat.mul_mod_left _ _) p4 (by omega) ?_;(conv=>whnf)
  have o9:=Agv (d:=d) (P:=1) (V:=val o) (p:=4294967296^i) (lo:=c) (X:=val (x.take i)) (s:=s) (by rw[Nat.one_mul,Nat.one_mul];exact p5) rfl;have vi:(c+d*2^s)/4294967296<2^s:=by
   rw[Nat.div_lt_iff_lt_mul (by omega)];have:=Nat.mul_le_mul_right (2^s) (show d<=4294967295 by omega)
   omega
  generalize c+d*2^s=t at *;(repeat' ((first|apply F9|apply EL)<;>conv=>whnf))
  refine E6 (enc:=AL) (t%4294967296) rfl p2.symm rfl (by omega) (by omega) ?_;(conv=>whnf)
  (repeat' ((first|(apply AX;omega)|apply FN)<;>conv=>whnf))
  rw[show (o++[t%4294967296]).length=i+1 by simp [p2]];refine B3 [(107069,107091)] (by (conv=>whnf);exact ⟨rfl,rfl,rfl⟩) (ih (i+1) (o++[t%4294967296]) (t/4294967296) (by omega) ⟨by omega,by simp;omega,p3.append (II (by omega)),vi,?_⟩);rw[bC,p2,EC hd,Nat.pow_succ];rw[Nat.one_mul,Nat.one_mul]at o9;exact o9
 obtain rfl:i=x.length:=by omega
 clear ih;have og:c<4294967296:=by omega
 have hOD:A3 (o++[c]):=p3.append (II og);have Hr:val (o++[c])=X*2^s:=by
  rw[bC,p2,p5,DG (Nat.le_refl _),v1]
 have Hq:(o++[c]).length=x.length+1:=by simp [p2]
 (repeat' ((first|(apply AG<;>intro hc<;>try (exfalso;omega))|(apply EJ;omega)|apply AU|apply EL|apply AE)<;>conv=>whnf))
 refine E6 (enc:=AL) c rfl p2.symm rfl (by omega) (by omega) ?_;(conv=>whnf)
 rw[Hq];generalize o++[c]=O at *;rw[<-Hq];clear p3 p4 p5;refine FY 1000 N.IO rfl rfl ?_;(repeat' (apply AE<;>conv=>whnf))
 refine B6 (λ n=>n) (λ(n:Nat)=>n<=(O).length /\ ∀ i,n<=i->i<(O).length->(O)[i]? = some 0) (λ n=>[(3,.int .i64 n)]) (λ_=>[]) [] [] (O).length (by (conv=>whnf);exact ⟨rfl,rfl,rfl⟩) ⟨Nat.le_refl _,λ i h1 h2=>by omega⟩ ?_;intro n ⟨p1,p2⟩ ih;rcases n with _|n
 ·(repeat' ((first|(apply AG<;>intro hc<;>try (exfalso;omega))|apply AE)<;>conv=>whnf))
  refine HU 0 (by omega) (by omega) ?_;(conv=>whnf)
  have gf:=GO (l:=O) (by assumption) p1 p2 (Or.inl rfl);have z7:(List.take 0 O).length<=(O).length:=by rw[List.length_take];omega
  clear ih p2;refine pK (enc:=AL) (by omega) ?_;(conv=>whnf)
  rw[List.drop_zero,Nat.sub_zero];generalize Cr:List.take 0 O=T0 at *;refine dP (enc:=AL) (λ_=>rfl) (by omega) (by omega) ?_;(conv=>whnf)
  refine ⟨rfl,_,rfl,?_⟩;(conv=>whnf)
  (refine ⟨rfl,_,rfl,?_⟩;(conv=>whnf);(repeat' ((first|apply EL|refine AD (Th _) ?_)<;>conv=>whnf));refine E6 (enc:=AL) 0 rfl rfl rfl (by omega) (by omega) ?_;(conv=>whnf);rw[Hr]at gf;rw[gf];exact B3 [] (by (conv=>whnf);exact ⟨rfl,rfl,rfl⟩) (Zt N (x:=x) (X:=X) (Y:=Y) (s:=s) (u:=dg (X*2^s)++[0]) (y:=dg (Y*2^s)) h0 ix ((EA _).append (II (by omega))) (by rw[bC,B5,Nat.mul_zero,Nat.add_zero]) (by simp) (by simp;omega) (EA _) (B5 _) (by omega) (by rw[B5,ow];exact n2)))
 ·have e1:((n+1:Nat):Int)-1=n:=by omega
  (repeat' ((first|(apply AG<;>intro hc<;>try (exfalso;omega))|(apply A0;omega)|(apply CB;omega)|(refine fZ (by assumption) ?_ (λ v hv hb => ?_);omega)|apply AE)<;>conv=>whnf))
  ·rw[e1]
   exact BL [] (ih n (by omega) ⟨by omega,λ i h1 h2=>by
    by_cases h:i=n
    ·subst h
     rw[e1,Int.toNat_natCast]at hv;rw[hv];congr 1;omega
    ·exact p2 i (by omega) h2⟩)
  ·refine HU (n+1) (by omega) (by omega) ?_
   (conv=>whnf)
   rw[e1,Int.toNat_natCast]at hv;have gf:=GO (l:=O) (by assumption) p1 p2 (Or.inr ⟨_,hv,by omega⟩);have z7:(List.take (n+1) O).length<=(O).length:=by rw[List.length_take];omega
   clear ih p2 hv;(rw[Vs (l:=O)];rotate_left;exact rfl;exact rfl);(conv=>whnf)
   refine pK (enc:=AL) (by omega) ?_;(conv=>whnf)
   rw[List.drop_zero,Nat.sub_zero];generalize Cr:List.take (n+1) O=T0 at *;refine dP (enc:=AL) (λ_=>rfl) (by omega) (by omega) ?_;(conv=>whnf)
   refine ⟨rfl,_,rfl,?_⟩;(conv=>whnf)
   (refine ⟨rfl,_,rfl,?_⟩;(conv=>whnf);(repeat' ((first|apply EL|refine AD (Th _) ?_)<;>conv=>whnf));refine E6 (enc:=AL) 0 rfl rfl rfl (by omega) (by omega) ?_;(conv=>whnf);rw[Hr]at gf;rw[gf];exact B3 [] (by (conv=>whnf);exact ⟨rfl,rfl,rfl⟩) (Zt N (x:=x) (X:=X) (Y:=Y) (s:=s) (u:=dg (X*2^s)++[0]) (y:=dg (Y*2^s)) h0 ix ((EA _).append (II (by omega))) (by rw[bC,B5,Nat.mul_zero,Nat.add_zero]) (by simp) (by simp;omega) (EA _) (B5 _) (by omega) (by rw[B5,ow];exact n2)))
theorem Ami (N:l7 L) (a b:List Nat) (q1 q2:Bool) (hA:A3 a) (hB:A3 b) (la:a.length<=274877906944) (lb:b.length<=274877906944) :
  Ev L 110 [.sl q1 (a.map AL),.sl q2 (b.map AL)] (.sl false ((dg (Nat.gcd (val a) (val b))).map AL)):=by
 have t1:=λ q=>GP N a q hA (by omega)
 have t2:=λ q=>GP N b q hB (by omega)
 have l1:=E2 hA;have l2:=E2 hB;generalize val a=X at *;generalize val b=Y at *;refine Ev.x N.ZZ rfl rfl ?_;(repeat' ((first|apply AE|refine AD (t1 _) ?_|refine AD (t2 _) ?_)<;>conv=>whnf))
 refine G8 (λ_ y=>y) (λ(x y:Nat)=>(dg x).length<=274877906944/\(dg y).length<=274877906944/\Nat.gcd x y=Nat.gcd X Y) (λ x y=>[(0,.sl false ((dg x).map AL)),(1,.sl false ((dg y).map AL))]) (λ_ _=>[]) [] [] X Y (by (conv=>whnf);exact ⟨rfl,rfl,rfl⟩) ⟨by omega,by omega,rfl⟩ ?_;intro x y ⟨p1,p2,p3⟩ ih;rw[<-p3];by_cases h0:y=0
 ·subst h0
  have ns:(dg 0).length=0:=by rw[E8];rfl
  clear ih;rw[Nat.gcd_zero_right];(repeat' ((first|(apply AG<;>intro hc<;>try (exfalso;omega))|apply AU|apply AE)<;>conv=>whnf))
  exact AY rfl (PN _)
 ·have hp:=mI h0
  have hD:=λ q q'=>Adb N (dg x) (dg y) q q' (EA _) (EA _) p1 p2 (by rw[B5];exact h0)
  rw[B5,B5]at hD;have v9:x%y<y:=Nat.mod_lt _ (by omega);have lf:=eC (Nat.le_of_lt v9);(repeat' ((first|(apply AG<;>intro hc<;>try (exfalso;omega))|apply AU|apply AE|refine AD (hD _ _) ?_)<;>conv=>whnf))
  rw[p3];exact BL [] (ih y (x%y) v9 ⟨p2,by omega,by rw[mZ];exact p3⟩)
theorem PQ (N:l7 L) (n q:Bool) (m:List Nat) (hm:Sm 274877906944 m):Ev L 111 [.agg (rZ q n m)] (.agg (eZ (zv n m))):=by
 have hT:=λ q=>GP N m q hm.1 (by have:=hm.2;omega)
 have hz:=J0 (val m);have ha:=E5 n m;refine Ev.x N.aB rfl rfl ?_;cases n
 ·rw[F8]at *
  (repeat' ((first|apply AE|refine AD (hT _) ?_)<;>conv=>whnf))
  exact AY (EW ha.symm (GR (by omega))) (DY _)
 ·rw[cG]at *
  (repeat' ((first|(apply AG<;>intro hc<;>try (exfalso;omega))|apply AU|apply AE|refine AD (hT _) ?_)<;>conv=>whnf))
  ·exact AY (EW ha.symm (aL (by omega))) (DY _)
  ·exact AY (EW ha.symm (GR (by omega))) (DY _)
theorem xD (N:l7 L) (n q:Bool) (m:List Nat) (hm:Sm 274877906944 m):Ev L 113 [.agg (rZ q n m)] (.int .i64 (dp (zv n m))):=by
 have hT:=λ q=>PQ N n q m hm
 generalize zv n m=z at *;have hz:=J0 z.natAbs;refine Ev.x N.Z9 rfl rfl ?_;(repeat' ((first|(apply AG<;>intro hc<;>try (exfalso;omega))|apply AU|apply AE|refine AD (hT _) ?_)<;>conv=>whnf))
 ·exact DC (tC (by omega))
 ·cases hd:decide (z<0)
  ·(conv=>whnf)
   exact DC (On (by have:=of_decide_eq_false hd;omega))
  ·(conv=>whnf)
   exact DC (Om (of_decide_eq_true hd))
theorem xB (N:l7 L) (n q:Bool) (m:List Nat) (hm:Sm 274877906944 m):Ev L 114 [.agg (rZ q n m)] (.agg (eZ (-(zv n m)))):=by
 have hT:=λ q=>PQ N n q m hm
 generalize zv n m=z at *;have hz:=J0 z.natAbs;refine Ev.x N.Z7 rfl rfl ?_;(repeat' ((first|apply AE|refine AD (hT _) ?_)<;>conv=>whnf))
 cases hd:decide (z<0)
 ·have h1:=of_decide_eq_false hd
  (conv=>whnf)
  (repeat' ((first|(apply AG<;>intro hc<;>try (exfalso;omega))|apply AU)<;>conv=>whnf))
  ·exact AY (EW (by omega) (aL (by omega))) (DY _)
  ·exact AY (EW (by omega) (GR (by omega))) (DY _)
 ·have h1:=of_decide_eq_true hd
  (conv=>whnf)
  skip
  exact AY (EW (by omega) (GR (by omega))) (DY _)
theorem rC (N:l7 L) (n1 n2 q1 q2:Bool) (a b:List Nat) (ha:A3 a) (hb:A3 b) (hl:a.length+b.length<=274877906944):Ev L 118 [.agg (rZ q1 n1 a),.agg (rZ q2 n2 b)] (.agg (eZ (zv n1 a*zv n2 b))):=by
 have h1:=λ q q'=>Amj N a b q q' ha hb (by omega)
 have sa:Sm a.length a:=⟨ha,Nat.le_refl _⟩;have sb:Sm b.length b:=⟨hb,Nat.le_refl _⟩;have hT:=λ n q=>PQ N n q (dg (val a*val b)) ((sa.mul sb rfl).le hl)
 have e : ∀ n,zv n (dg (val a*val b))=bif n then -((val a*val b:Nat):Int) else ((val a*val b:Nat):Int):=λ n=>by unfold zv;rw[B5]
 have e2:zv n1 a*zv n2 b=zv (n1 != n2) (dg (val a*val b)):=by
  rw[e];cases n1<;>cases n2<;>simp [F8,cG,Int.mul_neg,Int.neg_mul]
 rw[e2];refine Ev.x N.Z6 rfl rfl ?_;cases n1<;>cases n2;all_goals
  (repeat' ((first|apply AE|refine AD (h1 _ _) ?_|refine AD (hT _ _) ?_)<;>conv=>whnf))
  exact AY rfl (DY _)
theorem Amm (N:l7 L) (n1 n2 q1 q2:Bool) (a b:List Nat) (ha:Sm 274877906943 a) (hb:Sm 274877906943 b):Ev L 115 [.agg (rZ q1 n1 a),.agg (rZ q2 n2 b)] (.agg (eZ (zv n1 a+zv n2 b))):=by
 have t1:=λ q=>PQ N n1 q a (ha.le (by omega))
 have t2:=λ q=>PQ N n2 q b (hb.le (by omega))
 have s1:Sm 274877906943 (dg (zv n1 a).natAbs):=by rw[E5];exact ha.Au
 have s2:Sm 274877906943 (dg (zv n2 b).natAbs):=by rw[E5];exact hb.Au
 generalize zv n1 a=x at *;generalize zv n2 b=y at *;have h1:=λ q q'=>Ada N (dg x.natAbs) (dg y.natAbs) q q' s1.1 s2.1 (by have:=s1.2;omega) (by have:=s2.2;omega)
 have h2:=λ q q'=>xA N (dg x.natAbs) (dg y.natAbs) q q' s1.1 s2.1 (by have:=s1.2;omega) (by have:=s2.2;omega)
 have h3:=λ q q'=>xA N (dg y.natAbs) (dg x.natAbs) q q' s2.1 s1.1 (by have:=s2.2;omega) (by have:=s1.2;omega)
 have u6:=λ q q'=>wZ N (dg x.natAbs) (dg y.natAbs) q q' s1.1 s2.1 (by have:=s1.2;omega) (by have:=s2.2;omega)
 rw[B5,B5]at h1 h2 h3 u6;have u1:=λ n q=>PQ N n q (dg (x.natAbs+y.natAbs)) (s1.add s2 (by rw[B5,B5];omega))
 have u2:=λ n q=>PQ N n q (dg (x.natAbs-y.natAbs)) ((s1.low (V:=x.natAbs-y.natAbs) (by rw[B5];omega)).le (by omega))
 have u3:=λ n q=>PQ N n q (dg (y.natAbs-x.natAbs)) ((s2.low (V:=y.natAbs-x.natAbs) (by rw[B5];omega)).le (by omega))
 have e : ∀ n V,zv n (dg V)=bif n then -(V:Int) else (V:Int):=λ n V=>by unfold zv;rw[B5]
 refine Ev.x N.Z2 rfl rfl ?_;(repeat' ((first|apply AE|refine AD (t1 _) ?_|refine AD (t2 _) ?_)<;>conv=>whnf))
 cases hx:decide (x<0)<;>cases hy:decide (y<0)
 ·have g1:=of_decide_eq_false hx
  have g2:=of_decide_eq_false hy;have hz:x+y=zv false (dg (x.natAbs+y.natAbs)):=by rw[e];simp only[cond_true,cond_false];omega
  rw[hz];(conv=>whnf)
  (repeat' ((first|refine AD (h1 _ _) ?_|refine AD (u1 _ _) ?_)<;>conv=>whnf))
  exact AY rfl (DY _)
 ·have g1:=of_decide_eq_false hx
  have g2:=of_decide_eq_true hy;by_cases v9:x.natAbs<y.natAbs
  ·have hz:x+y=zv true (dg (y.natAbs-x.natAbs)):=by rw[e];simp only[cond_true,cond_false];omega
   rw[hz];rw[<-JZ (by omega)]at u6;(conv=>whnf)
   (repeat' ((first|(apply AG<;>intro hc<;>try (exfalso;omega))|refine AD (u6 _ _) ?_|refine AD (h3 _ _) ?_|refine AD (u3 _ _) ?_)<;>conv=>whnf))
   exact AY rfl (DY _)
  ·have hz:x+y=zv false (dg (x.natAbs-y.natAbs)):=by rw[e];simp only[cond_true,cond_false];omega
   rw[hz];have qt:=qF (show y.natAbs<=x.natAbs by omega);generalize DD (x.natAbs:Nat) (y.natAbs:Nat)=cm at *;(conv=>whnf)
   (repeat' ((first|(apply AG<;>intro hc<;>try (exfalso;omega))|refine AD (u6 _ _) ?_|refine AD (h2 _ _) ?_|refine AD (u2 _ _) ?_)<;>conv=>whnf))
   exact AY rfl (DY _)
 ·have g1:=of_decide_eq_true hx
  have g2:=of_decide_eq_false hy;by_cases v9:x.natAbs<y.natAbs
  ·have hz:x+y=zv false (dg (y.natAbs-x.natAbs)):=by rw[e];simp only[cond_true,cond_false];omega
   rw[hz];rw[<-JZ (by omega)]at u6;(conv=>whnf)
   (repeat' ((first|(apply AG<;>intro hc<;>try (exfalso;omega))|refine AD (u6 _ _) ?_|refine AD (h3 _ _) ?_|refine AD (u3 _ _) ?_)<;>conv=>whnf))
   exact AY rfl (DY _)
  ·have hz:x+y=zv true (dg (x.natAbs-y.natAbs)):=by rw[e];simp only[cond_true,cond_false];omega
   rw[hz];have qt:=qF (show y.natAbs<=x.natAbs by omega);generalize DD (x.natAbs:Nat) (y.natAbs:Nat)=cm at *;(conv=>whnf)
   (repeat' ((first|(apply AG<;>intro hc<;>try (exfalso;omega))|refine AD (u6 _ _) ?_|refine AD (h2 _ _) ?_|refine AD (u2 _ _) ?_)<;>conv=>whnf))
   exact AY rfl (DY _)
 ·have g1:=of_decide_eq_true hx
  have g2:=of_decide_eq_true hy;have hz:x+y=zv true (dg (x.natAbs+y.natAbs)):=by rw[e];simp only[cond_true,cond_false];omega
  rw[hz];(conv=>whnf)
  (repeat' ((first|refine AD (h1 _ _) ?_|refine AD (u1 _ _) ?_)<;>conv=>whnf))
  exact AY rfl (DY _)
theorem Amr (N:l7 L) (n1 n2 q1 q2:Bool) (a b:List Nat) (ha:Sm 274877906943 a) (hb:Sm 274877906943 b):Ev L 116 [.agg (rZ q1 n1 a),.agg (rZ q2 n2 b)] (.agg (eZ (zv n1 a-zv n2 b))):=by
 have t2:=λ q=>xB N n2 q b (hb.le (by omega))
 have s2:Sm 274877906943 (dg (-(zv n2 b)).natAbs):=by rw[Int.natAbs_neg,E5];exact hb.Au
 have h1:=λ q q'=>Amm N n1 (decide (-(zv n2 b)<0)) q q' a (dg (-(zv n2 b)).natAbs) ha s2
 rw[GK,<-Int.sub_eq_add_neg]at h1;refine Ev.x N.aA rfl rfl ?_;(repeat' ((first|apply AE|refine AD (t2 _) ?_|refine AD (h1 _ _) ?_)<;>conv=>whnf))
 exact AY rfl (DY _)
theorem Amp (N:l7 L) (n1 n2 q1 q2:Bool) (a b:List Nat) (ha:Sm 274877906943 a) (hb:Sm 274877906943 b):Ev L 117 [.agg (rZ q1 n1 a),.agg (rZ q2 n2 b)] (.int .i64 (dp (zv n1 a-zv n2 b))):=by
 have h1:=λ q q'=>Amr N n1 n2 q q' a b ha hb
 have s1:Sm 274877906943 (dg (zv n1 a).natAbs):=by rw[E5];exact ha.Au
 have s2:Sm 274877906943 (dg (zv n2 b).natAbs):=by rw[E5];exact hb.Au
 have s3:Sm 274877906944 (dg (zv n1 a-zv n2 b).natAbs):=s1.add s2 (by rw[B5,B5];omega);have h2:=λ q=>xD N (decide (zv n1 a-zv n2 b<0)) q (dg (zv n1 a-zv n2 b).natAbs) s3
 rw[GK]at h2;refine Ev.x N.Z3 rfl rfl ?_;(repeat' ((first|apply AE|refine AD (h1 _ _) ?_|refine AD (h2 _) ?_)<;>conv=>whnf))
 exact DC rfl
theorem xC (N:l7 L) (z:Int) (hz : -9223372036854775808<=z/\z<=9223372036854775807):Ev L 112 [.int .i64 z] (.agg (eZ z)):=by
 have two : ∀ k:Nat,k<18446744073709551616 -> ∀ n q,Ev L 111 [.agg [.bool n,.sl q [[.int .u32 ((k%4294967296:Nat):Int)],[.int .u32 ((k/4294967296:Nat):Int)]]]] (.agg (eZ (bif n then -(k:Int) else (k:Int)))):=λ k hk n q=>by
  have:=PQ N n q [k%4294967296,k/4294967296] ⟨(vS hk).2,by simp⟩
  unfold zv at this;rw[Agy hk]at this;exact this
 refine Ev.x N.Z8 rfl rfl ?_;by_cases h0:0<=z
 ·obtain ⟨k,rfl⟩:=Int.eq_ofNat_of_zero_le h0
  have hT:=two k (by omega);(repeat' ((first|(apply AG<;>intro hc<;>try (exfalso;omega))|apply FN|(apply CP;omega)|(apply EJ;omega)|apply F9|refine jE rfl rfl ?_|apply AE)<;>conv=>whnf))
  generalize k%4294967296=lo at *;generalize k/4294967296=hi at *;(repeat' (refine AD (hT _ _) ?_<;>conv=>whnf))
  exact AY rfl (DY _)
 ·obtain ⟨k,hk⟩:=Int.eq_ofNat_of_zero_le (show 0 <= -(z+1) by omega)
  have wg:z = -((k+1:Nat):Int):=by omega
  have hT:=two (k+1) (by omega);(repeat' ((first|(apply AG<;>intro hc<;>try (exfalso;omega))|(apply AX;omega)|apply Ahx|(apply CK.neg;omega)|(apply CP;omega)|apply AE)<;>conv=>whnf))
  rw[show IntKind.u64.wrap (-(z+1)+1)=((k+1:Nat):Int) by rw[IntWalk.u64_in _ (by omega)];omega];rw[wg];generalize k+1=k1 at *;(repeat' ((first|apply FN|(apply EJ;omega)|apply F9|refine jE rfl rfl ?_)<;>conv=>whnf))
  generalize k1%4294967296=lo at *;generalize k1/4294967296=hi at *;(repeat' (refine AD (hT _ _) ?_<;>conv=>whnf))
  exact AY rfl (DY _)
theorem Amq (N:l7 L) (n1 n2 q1 q2:Bool) (a b:List Nat) (ha:Sm 274877906944 a) (hb:Sm 274877906944 b):Ev L 120 [.agg (rZ q1 n1 a),.agg (rZ q2 n2 b)] (.agg (eZ ((Nat.gcd (val a) (val b):Nat):Int))):=by
 have h1:=λ q q'=>Ami N a b q q' ha.1 hb.1 ha.2 hb.2
 refine Ev.x N.Z5 rfl rfl ?_;(repeat' ((first|apply AE|refine AD (h1 _ _) ?_)<;>conv=>whnf))
 exact AY (EW (by omega) (GR (by omega))) (DY _)
theorem Ak8 (n1 n2:Bool) (A B:Nat) (hB:B≠0):(bif n1 then -(A:Int) else (A:Int))/(bif n2 then -(B:Int) else (B:Int))=(bif n1 != n2 then -((if n1=true/\A%B≠0 then A/B+1 else A/B:Nat):Int) else ((if n1=true/\A%B≠0 then A/B+1 else A/B:Nat):Int)) /\
  (bif n1 then -(A:Int) else (A:Int))%(bif n2 then -(B:Int) else (B:Int))=((if n1=true/\A%B≠0 then B-A%B else A%B:Nat):Int):=by
 have hBp:(0:Int)<B:=by omega
 have key : ∀ x:Int,x/(bif n2 then -(B:Int) else (B:Int))=(bif n2 then -(x/B) else x/B)/\x%(bif n2 then -(B:Int) else (B:Int))=x%B:=λ x=>by
  cases n2
  ·exact ⟨rfl,rfl⟩
  ·exact ⟨Int.ediv_neg x B,Int.emod_neg x B⟩
 rw[(key _).1,(key _).2];cases n1
 ·have h1:((A:Int))/B=((A/B:Nat):Int):=by simp
  have h2:((A:Int))%B=((A%B:Nat):Int):=by simp
  simp only[cond_false,h1,h2];cases n2<;>simp
 ·have hd:=Nat.div_add_mod A B
  have v9:=Nat.mod_lt A (show B>0 by omega);by_cases h0:A%B=0
  ·have e : -(A:Int)=(B:Int)*(-((A/B:Nat):Int)):=by
    rw[h0,Nat.add_zero]at hd;rw[Int.mul_neg,<-Int.natCast_mul,hd]
   have h1 : -(A:Int)/B = -((A/B:Nat):Int):=by rw[e,Int.mul_ediv_cancel_left _ (by omega)]
   have h2 : -(A:Int)%B=0:=by rw[e,Int.mul_emod_right]
   simp only[cond_true,h1,h2,h0];cases n2<;>simp
  ·have e : -(A:Int)=(B:Int)*(-((A/B+1:Nat):Int))+((B-A%B:Nat):Int):=by
    have h3:(B:Int)*((A/B:Nat):Int)+((A%B:Nat):Int)=A:=by rw[<-Int.natCast_mul,<-Int.natCast_add,hd]
    rw[Int.mul_neg,Int.natCast_add,Int.mul_add];omega
   have h1 : -(A:Int)/B = -((A/B+1:Nat):Int):=by
    rw[e,Int.mul_add_ediv_left _ _ (by omega),Int.ediv_eq_zero_of_lt (by omega) (by omega),Int.add_zero]
   have h2 : -(A:Int)%B=((B-A%B:Nat):Int):=by
    rw[e,Int.mul_add_emod_self_left,Int.emod_eq_of_lt (by omega) (by omega)]
   simp only[cond_true,h1,h2];cases n2<;>simp [h0]
theorem Add (N:l7 L) (n1 n2 q1 q2:Bool) (a b:List Nat) (ha:Sm 274877906943 a) (hb:Sm 274877906943 b) (h0:zv n2 b≠0):Ev L 119 [.agg (rZ q1 n1 a),.agg (rZ q2 n2 b)] (.m9 [.agg (eZ (zv n1 a/zv n2 b)),.agg (eZ (zv n1 a%zv n2 b)),.int .i64 0]):=by
 have t1:=λ q=>PQ N n1 q a (ha.le (by omega))
 have t2:=λ q=>PQ N n2 q b (hb.le (by omega))
 have s1:Sm 274877906943 (dg (zv n1 a).natAbs):=by rw[E5];exact ha.Au
 have s2:Sm 274877906943 (dg (zv n2 b).natAbs):=by rw[E5];exact hb.Au
 generalize zv n1 a=x at *;generalize zv n2 b=y at *;have Gc:=λ q q'=>Adb N (dg x.natAbs) (dg y.natAbs) q q' s1.1 s2.1 (by have:=s1.2;omega) (by have:=s2.2;omega) (by rw[B5];omega)
 rw[B5,B5]at Gc;obtain ⟨e1,e2⟩:=Ak8 (decide (x<0)) (decide (y<0)) x.natAbs y.natAbs (by omega);have hx:(bif decide (x<0) then -(x.natAbs:Int) else (x.natAbs:Int))=x:=by have:=GK x;unfold zv at this;rw[B5]at this;exact this
 have hy:(bif decide (y<0) then -(y.natAbs:Int) else (y.natAbs:Int))=y:=by have:=GK y;unfold zv at this;rw[B5]at this;exact this
 rw[hx,hy]at e1 e2;rw[e1,e2];have l1:=s1.2;have l2:=s2.2;have hq:Sm 274877906943 (dg (x.natAbs/y.natAbs)):=s1.low (by rw[B5];exact Nat.div_le_self _ _);have hr:Sm 274877906943 (dg (x.natAbs%y.natAbs)):=s2.low (by rw[B5];exact Nat.le_of_lt (Nat.mod_lt _ (by omega)));have hrz:=J0 (x.natAbs%y.natAbs);have pq:Ev L 103 [.sl false ((dg (x.natAbs/y.natAbs)).map AL),.sl true [[.int .u32 1]]] (.sl false ((dg (x.natAbs/y.natAbs+1)).map AL)):=by
  have:=Ada N (dg (x.natAbs/y.natAbs)) [1] false true (EA _) (II (by omega)) (by have:=hq.2;omega) (by simp)
  rw[B5,show val [1]=1 from rfl]at this;exact this
 have Bv:Sm 274877906944 (dg (x.natAbs/y.natAbs+1)):=hq.add (b:=[1]) (Mo (by omega) (by omega)) (by rw[B5];simp [val]);have Kd:=λ q q'=>xA N (dg y.natAbs) (dg (x.natAbs%y.natAbs)) q q' s2.1 hr.1 (by omega) (by have:=hr.2;omega)
 rw[B5,B5]at Kd;have u1:=λ n q=>PQ N n q (dg (x.natAbs/y.natAbs)) (hq.le (by omega))
 have u2:=λ n q=>PQ N n q (dg (x.natAbs/y.natAbs+1)) Bv
 have ez : ∀ n V,zv n (dg V)=bif n then -(V:Int) else (V:Int):=λ n V=>by unfold zv;rw[B5]
 have fin : ∀ (z:Int) (V:Nat),AJ (.m9 [.agg (eZ z),.agg [.bool false,.sl false ((dg V).map AL)],.int .i64 0]) (.m9 [.agg (eZ z),.agg (eZ (V:Int)),.int .i64 0]):=λ z V=>by
  have e3:AV.agg (eZ (V:Int)) = .agg [.bool false,.sl false ((dg V).map AL)]:=(EW (by omega) (GR (by omega))).symm;rw[e3];refine AY rfl ?_;simp only[A6,CW,and_true,true_and];exact ⟨CS _,CS _⟩
 clear e1 e2 hx hy;generalize x.natAbs/y.natAbs=qq at *;generalize x.natAbs%y.natAbs=rr at *;refine Ev.x N.Z4 rfl rfl ?_;(repeat' ((first|(apply AG<;>intro hc<;>try (exfalso;omega))|apply AE|refine AD (t1 _) ?_|refine AD (t2 _) ?_|refine AD (Gc _ _) ?_)<;>conv=>whnf))
 generalize decide (x<0)=p at *;generalize decide (y<0)=r at *;cases p
 ·rw[if_neg (by simp),if_neg (by simp),<-ez]
  cases r;all_goals
   (conv=>whnf)
   (repeat' (refine AD (u1 _ _) ?_<;>conv=>whnf))
   exact fin _ _
 ·by_cases du:rr=0
  ·rw[if_neg (by simp [du]),if_neg (by simp [du]),<-ez]
   cases r;all_goals
    (conv=>whnf)
    (repeat' ((first|(apply AG<;>intro hc<;>try (exfalso;omega))|apply AU|refine AD (u1 _ _) ?_)<;>conv=>whnf))
    exact fin _ _
  ·rw[if_pos ⟨rfl,du⟩,if_pos ⟨rfl,du⟩,<-ez]
   cases r;all_goals
    (conv=>whnf)
    (repeat' ((first|(apply AG<;>intro hc<;>try (exfalso;omega))|apply AU|refine H6 rfl ?_|refine AD (pq) ?_|refine AD (Kd _ _) ?_|refine AD (u2 _ _) ?_)<;>conv=>whnf))
    exact fin _ _
end Go.e9

namespace Go.e9
abbrev rQ (q1 q2 n:Bool) (m d:List Nat):List AV:=[.bool n,.sl q1 (m.map AL),.sl q2 (d.map AL)]
abbrev eQ (x:Rat):List AV:=rQ false false (decide (x.num<0)) (dg x.num.natAbs) (dg x.den)
def qv (n:Bool) (m d:List Nat):Rat:=mkRat (zv n m) (val d)
theorem FF (x:Rat):qv (decide (x.num<0)) (dg x.num.natAbs) (dg x.den)=x:=by
 unfold qv;rw[GK,B5,Rat.mkRat_self]
theorem Adz {d:Nat} (z:Nat) (hd:d≠0):0<Nat.gcd d z:=Nat.gcd_pos_of_pos_left z (by omega)
theorem zH {z:Int} {d:Nat} (hd:d≠0):(mkRat z d).num.natAbs=z.natAbs/Nat.gcd d z.natAbs/\(mkRat z d).den=d/Nat.gcd d z.natAbs/\decide ((mkRat z d).num<0)=decide (z<0):=by
 have hg:=Adz z.natAbs hd;have h1:=Rat.num_mkRat z d;have h2:=Rat.den_mkRat z d;rw[if_neg hd]at h1 h2;rw[h1,h2];obtain ⟨k,hk⟩:=Nat.gcd_dvd_right d z.natAbs;generalize hG:Nat.gcd d z.natAbs=g at *;have hz:z=(g:Int)*(z.sign*k):=by
  rw[<-Int.mul_assoc,Int.mul_comm (g:Int),Int.mul_assoc,<-Int.natCast_mul,<-hk,Int.sign_mul_natAbs]
 have e1:z/(g:Int)=z.sign*k:=by
  rw[hz,Int.mul_ediv_cancel_left _ (by omega),<-hz]
 refine ⟨?_,rfl,?_⟩
 ·rw[e1,Int.natAbs_mul,hk,Nat.mul_div_cancel_left _ hg]
  by_cases h0:z=0
  ·subst h0
   have:k=0:=by
    have h5:g*k=0:=hk.symm;rcases Nat.mul_eq_zero.1 h5 with h|h
    ·omega
    ·exact h
   subst this;simp
  ·rw[Int.natAbs_sign_of_ne_zero h0,Nat.one_mul];simp
 ·congr 1
  rw[eq_iff_iff];rw[Int.ediv_lt_iff_lt_mul (by omega),Int.zero_mul]
theorem EE (x:Rat):A6 (.agg (eQ x)):=by
 simp only[A6,CW,and_true,true_and];exact ⟨CS _,CS _⟩
theorem lZ (b w:Bool) (m d:List Nat):A6 (.agg [.bool b,.sl false (m.map AL),.sl false (d.map AL),.bool w]):=by
 simp only[A6,CW,and_true,true_and];exact ⟨CS _,CS _⟩
theorem Ai0 (b:Bool) (m:List Nat):A6 (.agg [.bool b,.sl false (m.map AL)]):=by
 simp only[A6,CW,and_true,true_and];exact CS _
theorem qC (b:Bool) (m d:List Nat):A6 (.agg [.bool b,.sl false (m.map AL),.sl false (d.map AL)]):=by
 simp only[A6,CW,and_true,true_and];exact ⟨CS _,CS _⟩
theorem mY (q:Bool) (l:List Nat):lH (.sl q (l.map AL)):=by
 intro e he c hc;obtain ⟨x,_,rfl⟩:=List.mem_map.1 he;simp at hc;subst hc;rfl
theorem uC {r:AV} {K:AV->Prop} (h:TT r) (hk:K (Ch r)):BS r K:=⟨Or.inl h,by rw[yX h];exact hk⟩
theorem HC {b w q1 q2:Bool} {m d:List Nat} {K:AV->Prop} (hk:K (.agg [.bool b,.sl true (m.map AL),.sl true (d.map AL),.bool w])):BS (.agg [.bool b,.sl q1 (m.map AL),.sl q2 (d.map AL),.bool w]) K:=by
 refine uC ?_ hk;intro c hc;simp only[List.mem_cons,List.not_mem_nil,or_false]at hc;rcases hc with rfl|rfl|rfl|rfl
 ·trivial
 ·exact mY _ _
 ·exact mY _ _
 ·trivial
theorem Wx {b q1 q2:Bool} {m d:List Nat} {K:AV->Prop} (hk:K (.agg [.bool b,.sl true (m.map AL),.sl true (d.map AL)])):BS (.agg [.bool b,.sl q1 (m.map AL),.sl q2 (d.map AL)]) K:=by
 refine uC ?_ hk;intro c hc;simp only[List.mem_cons,List.not_mem_nil,or_false]at hc;rcases hc with rfl|rfl|rfl
 ·trivial
 ·exact mY _ _
 ·exact mY _ _
theorem fW {b q1:Bool} {m:List Nat} {K:AV->Prop} (hk:K (.agg [.bool b,.sl true (m.map AL)])):BS (.agg [.bool b,.sl q1 (m.map AL)]) K:=by
 refine uC ?_ hk;intro c hc;simp only[List.mem_cons,List.not_mem_nil,or_false]at hc;rcases hc with rfl|rfl
 ·trivial
 ·exact mY _ _
theorem zD {a b:Int} {d e:Nat} (hd:d≠0) (he:e≠0):mkRat a d+mkRat b e=mkRat (a*e+b*d) (d*e):=Rat.mkRat_add_mkRat a b hd he
theorem AeC {a b:Int} {d:Nat} (hd:d≠0):mkRat a d+mkRat b d=mkRat (a+b) d:=by
 rw[zD hd hd,<-Int.add_mul,Rat.mkRat_mul_right hd]
theorem zF (a b:Int) (d e:Nat):mkRat a d*mkRat b e=mkRat (a*b) (d*e):=Rat.mkRat_mul_mkRat a b d e
theorem AeE (a:Int):mkRat a 1=(a:Rat):=by
 have h:=Rat.mkRat_self (a:Rat);rw[Rat.num_intCast,Rat.den_intCast]at h;exact h
theorem zG {z:Int} {d:Nat} (hd:d≠0):mkRat z d=0↔z=0:=Rat.mkRat_eq_zero hd
theorem AeF {z:Int} {d:Nat} (hd:d≠0):dp (mkRat z d).num=dp z:=by
 obtain ⟨_,_,h⟩:=zH (z:=z) hd;have h0:(mkRat z d).num=0↔z=0:=by rw[Rat.num_eq_zero,zG hd]
 have h1:(mkRat z d).num<0↔z<0:=by simpa using h
 unfold dp;by_cases a:z<0
 ·rw[if_pos a,if_pos (h1.2 a)]
 ·rw[if_neg a,if_neg (λ h=>a (h1.1 h))]
  by_cases b:z=0
  ·rw[if_neg (by omega),if_neg (by have:=h0.2 b;omega)]
  ·rw[if_pos (by omega),if_pos (by have:=mt h0.1 b;have:=mt h1.1 a;omega)]
theorem Aot {a b:Int} {d e:Nat} (hd:d≠0) (he:e≠0) (hb:b≠0):mkRat a d/mkRat b e=mkRat (b.sign*(a*e)) (d*b.natAbs):=by
 have hbn:b.natAbs≠0:=by omega
 have h1:mkRat b e≠0:=λ h=>hb ((zG he).1 h)
 have key:mkRat (b.sign*(a*e)) (d*b.natAbs)*mkRat b e=mkRat a d:=by
  rw[zF];have e1:b.sign*(a*e)*b=a*((b.natAbs*e:Nat):Int):=by
   have:=Int.sign_mul_self b
   rw[Int.natCast_mul,<-this];grind
  rw[e1,show d*b.natAbs*e=d*(b.natAbs*e) by rw[Nat.mul_assoc]];exact Rat.mkRat_mul_right (Nat.mul_ne_zero hbn he)
 rw[<-key,Rat.mul_div_cancel h1]
theorem AqY {x y:Int} (hy:y≠0):zv (decide (x<0) != decide (y<0)) (dg x.natAbs)=y.sign*x:=by
 unfold zv;rw[B5];rcases Int.lt_or_gt_of_ne hy with h|h
 ·rw[Int.sign_eq_neg_one_of_neg h]
  by_cases hx:x<0
  ·simp [hx,h];omega
  ·simp [hx,h];omega
 ·rw[Int.sign_eq_one_of_pos h]
  by_cases hx:x<0
  ·simp [hx,show ¬ y<0 by omega];omega
  ·simp [hx,show ¬ y<0 by omega];omega
end Go.e9

namespace Go.e9
open F
attribute [local irreducible] AA AF AM AC CK AR AW BD A7 BW AQ BT CD DB BP A4 BO CE AB A8 AJ pw B4 BK CF CI CN CX CJ BS CM
variable {L:Lib}
set_option maxHeartbeats 4000000
theorem Zo:dg 1=[1]:=by rw[OM (by omega)];simp [E8]
theorem Vp:AV.agg [.bool false,.sl false [],.sl false [[.int .u32 1]]] = .agg (eQ 0):=by
 show _=AV.agg (rQ _ _ _ _ _);rw[Rat.zero_num,Rat.zero_den,Zo,show (0:Int).natAbs=0 from rfl,E8];rfl
theorem AjT {x y:Int} (hy:y≠0):(Rat.divInt x y).num=(if y<0 then -(x/((Nat.gcd x.natAbs y.natAbs:Nat):Int)) else x/((Nat.gcd x.natAbs y.natAbs:Nat):Int))/\(Rat.divInt x y).den=(y/((Nat.gcd x.natAbs y.natAbs:Nat):Int)).natAbs:=by
 have h1:=Rat.num_divInt x y;have h2:=Rat.den_divInt x y;rw[if_neg hy]at h2;have hg:Int.gcd y x=Nat.gcd x.natAbs y.natAbs:=by rw[Int.gcd,Nat.gcd_comm]
 rw[hg]at h1 h2;have Rn:0<Nat.gcd x.natAbs y.natAbs:=Nat.gcd_pos_of_pos_right _ (by omega);have dx:((Nat.gcd x.natAbs y.natAbs:Nat):Int) ∣ x:=Int.ofNat_dvd_left.2 (Nat.gcd_dvd_left _ _);have dy:((Nat.gcd x.natAbs y.natAbs:Nat):Int) ∣ y:=Int.ofNat_dvd_left.2 (Nat.gcd_dvd_right _ _);generalize Nat.gcd x.natAbs y.natAbs=g at *;rw[h1,h2];obtain ⟨u,rfl⟩:=dx;obtain ⟨v,rfl⟩:=dy;have Fa:(g:Int)≠0:=by omega
 refine ⟨?_,?_⟩
 ·rw[Int.mul_ediv_cancel_left _ Fa]
  split
  ·rename_i h
   rw[Int.sign_eq_neg_one_of_neg h,show -1*((g:Int)*u)=g*(-u) by rw[Int.mul_neg];omega,Int.mul_ediv_cancel_left _ Fa]
  ·rw[Int.sign_eq_one_of_pos (by omega),Int.one_mul,Int.mul_ediv_cancel_left _ Fa]
 ·rw[Int.mul_ediv_cancel_left _ Fa,Int.natAbs_mul,Int.natAbs_natCast,Nat.mul_div_cancel_left _ Rn]
theorem xH (N:l7 L) (n1 n2 q1 q2:Bool) (a b:List Nat) (ha:Sm 274877906943 a) (hb:Sm 274877906943 b):Ev L 121 [.agg (rZ q1 n1 a),.agg (rZ q2 n2 b)] (.agg (eQ (Rat.divInt (zv n1 a) (zv n2 b)))):=by
 have t1:=λ q=>xD N n1 q a (ha.le (by omega))
 have t2:=λ q=>xD N n2 q b (hb.le (by omega))
 by_cases h1:zv n1 a=0
 ·rw[h1,Rat.zero_divInt,<-Vp]
  rw[h1,<-tC rfl]at t1;refine Ev.x N.K6 rfl rfl ?_;(repeat' ((first|(apply AG<;>intro hc<;>try (exfalso;omega))|refine H6 rfl ?_|apply AE|refine AD (t1 _) ?_)<;>conv=>whnf))
  exact AY rfl (qC false [] [1])
 have s1:dp (zv n1 a)≠0:=by unfold dp;split<;>(try split)<;>omega
 by_cases h2:zv n2 b=0
 ·rw[h2,Rat.divInt_zero,<-Vp]
  rw[h2,<-tC rfl]at t2;generalize dp (zv n1 a)=sg at *;refine Ev.x N.K6 rfl rfl ?_;(repeat' ((first|(apply AG<;>intro hc<;>try (exfalso;omega))|refine H6 rfl ?_|apply AE|refine AD (t1 _) ?_|refine AD (t2 _) ?_)<;>conv=>whnf))
  exact AY rfl (qC false [] [1])
 have s2:dp (zv n2 b)≠0:=by unfold dp;split<;>(try split)<;>omega
 obtain ⟨p1,p2⟩:=AjT (x:=zv n1 a) h2;have hG:=λ q q'=>Amq N n1 n2 q q' a b (ha.le (by omega)) (hb.le (by omega))
 have hle:Nat.gcd (val a) (val b)<=val b:=Nat.gcd_le_right _ (by have:=E5 n2 b;omega);have Rn:0<Nat.gcd (val a) (val b):=Nat.gcd_pos_of_pos_right _ (by have:=E5 n2 b;omega);have sg:Sm 274877906943 (dg (Nat.gcd (val a) (val b))):=hb.low hle;rw[E5,E5]at p1 p2;have hgf:decide (((Nat.gcd (val a) (val b):Nat):Int)<0)=false:=by simp
 have sg':Sm 274877906943 (dg (((Nat.gcd (val a) (val b):Nat):Int)).natAbs):=by rw[Int.natAbs_natCast];exact sg
 have zg:zv (decide (((Nat.gcd (val a) (val b):Nat):Int)<0)) (dg (((Nat.gcd (val a) (val b):Nat):Int)).natAbs)=((Nat.gcd (val a) (val b):Nat):Int):=GK _;have tu:=λ q q'=>Add N n1 _ q q' a _ ha sg' (by rw[zg];omega)
 have tv:=λ q q'=>Add N n2 _ q q' b _ hb sg' (by rw[zg];omega)
 rw[zg]at tu tv;have zh:Sm 274877906943 (dg (zv n1 a/((Nat.gcd (val a) (val b):Nat):Int)).natAbs):=ha.low (by
  have:(zv n1 a/((Nat.gcd (val a) (val b):Nat):Int)).natAbs<=(zv n1 a).natAbs:=Int.natAbs_ediv_le_natAbs _ _
  rw[E5]at this;exact this)
 have Fa:0<((Nat.gcd (val a) (val b):Nat):Int):=by omega
 generalize ((Nat.gcd (val a) (val b):Nat):Int)=g at *;generalize zv n1 a=x at *;generalize zv n2 b=y at *;generalize dp x=sx at *;generalize dp y=sy at *;have hN:=λ q=>xB N (decide (x/g<0)) q (dg (x/g).natAbs) (zh.le (by omega))
 rw[GK]at hN;have Hc:decide (y/g<0)=decide (y<0):=by
  congr 1;rw[eq_iff_iff,Int.ediv_lt_iff_lt_mul (by omega),Int.zero_mul]
 refine Ev.x N.K6 rfl rfl ?_;(repeat' ((first|(apply AG<;>intro hc<;>try (exfalso;omega))|apply AE|refine AD (t1 _) ?_|refine AD (t2 _) ?_|refine AD (hG _ _) ?_|refine AD (tu _ _) ?_|refine AD (tv _ _) ?_)<;>conv=>whnf))
 cases hyn:decide (y/g<0)
 ·rw[hyn]at Hc
  rw[if_neg (of_decide_eq_false Hc.symm)]at p1;(conv=>whnf)
  skip
  refine AY ?_ (EE _);show _=AV.agg (rQ _ _ _ _ _);rw[p1,p2]
 ·rw[hyn]at Hc
  rw[if_pos (of_decide_eq_true Hc.symm)]at p1;(conv=>whnf)
  (repeat' (refine AD (hN _) ?_<;>conv=>whnf))
  refine AY ?_ (EE _);show _=AV.agg (rQ _ _ _ _ _);rw[p1,p2]
theorem AjU {z:Int} {d:List Nat}:Rat.divInt z (zv false d)=mkRat z (val d):=by rw[F8,Rat.divInt_ofNat]
def Ahy (n:Bool) (m d:List Nat) (n':Bool) (m' d':List Nat) (k:Nat):Prop:=Sm k m'/\Sm k d'/\val d'≠0/\qv n m d=mkRat (zv n' m') (val d')
theorem Wn (n:Bool) (m d:List Nat):A6 (.m9 [.agg (rZ false n m),.agg (rZ false false d)]):=by
 simp only[A6,CW,and_true,true_and];exact ⟨CS _,CS _⟩
theorem mP (N:l7 L) (n q:Bool) (m d:List Nat) (k:Nat) (hk:1<=k/\k<=274877906943) (hm:Sm k m) (hd:Sm k d) : ∃ n' m' d',Ev L 122 [.agg (rQ false q n m d)] (.m9 [.agg (rZ false n' m'),.agg (rZ false false d')])/\Ahy n m d n' m' d' k:=by
 have t1:=λ q=>GP N d q hd.1 (by have:=hd.2;omega)
 have hl:=J0 (val d);by_cases h0:val d=0
 ·refine ⟨false,[],[1],?_,AfP _,Mo hk.1 (by omega),by decide,by unfold qv;rw[h0,Rat.mkRat_zero,AgH,Rat.zero_mkRat]⟩
  refine Ev.x N.SF rfl rfl ?_;(repeat' ((first|(apply AG<;>intro hc<;>try (exfalso;omega))|apply AU|refine H6 rfl ?_|apply AE|refine AD (t1 _) ?_)<;>conv=>whnf))
  exact AY rfl (Wn false [] [1])
 ·refine ⟨n,m,dg (val d),?_,hm,hd.Au,by rw[B5];exact h0,by rw[B5];rfl⟩
  refine Ev.x N.SF rfl rfl ?_;(repeat' ((first|(apply AG<;>intro hc<;>try (exfalso;omega))|apply AU|apply AE|refine AD (t1 _) ?_)<;>conv=>whnf))
  exact AY rfl (Wn _ _ _)
theorem Amv (N:l7 L) (n q:Bool) (m d:List Nat) (hm:Sm 274877906943 m) (hd:Sm 274877906943 d):Ev L 123 [.agg (rQ false q n m d)] (.agg (eQ (qv n m d))):=by
 obtain ⟨n',m',d',hp,s1,s2,s3,s4⟩:=mP N n q m d 274877906943 (by omega) hm hd;have hr:=λ q q'=>xH N n' false q q' m' d' s1 s2
 rw[AjU,<-s4]at hr;refine Ev.x N.aH rfl rfl ?_;(repeat' ((first|apply AE|refine AD (hp) ?_|refine AD (hr _ _) ?_)<;>conv=>whnf))
 exact AY rfl (EE _)
theorem AiB (z:Int):AV.agg [.bool (decide (z<0)),.sl false ((dg z.natAbs).map AL),.sl false [[.int .u32 1]]] = .agg (eQ (z:Rat)):=by
 show _=AV.agg (rQ _ _ _ _ _);rw[Rat.num_intCast,Rat.den_intCast,Zo];rfl
theorem Amu (N:l7 L) (z:Int) (hz : -9223372036854775808<=z/\z<=9223372036854775807):Ev L 124 [.int .i64 z] (.agg (eQ (z:Rat))):=by
 have h1:=xC N z hz;refine Ev.x N.aG rfl rfl ?_;(repeat' ((first|refine H6 rfl ?_|apply AE|refine AD (h1) ?_)<;>conv=>whnf))
 exact AY (AiB z) (EE _)
theorem AfQ {z:Int} (hz : -9223372036854775808<=z/\z<=9223372036854775808):Sm 2 (dg z.natAbs):=Sm.dg (by omega)
theorem jT (N:l7 L) (x y:Int) (hx : -9223372036854775808<=x/\x<=9223372036854775807) (hy : -9223372036854775808<=y/\y<=9223372036854775807):Ev L 125 [.int .i64 x,.int .i64 y] (.agg (eQ (Rat.divInt x y))):=by
 have h1:=xC N x hx;have h2:=xC N y hy;have hr:=λ q q'=>xH N (decide (x<0)) (decide (y<0)) q q' _ _ ((AfQ (z:=x) (by omega)).le (by omega)) ((AfQ (z:=y) (by omega)).le (by omega))
 rw[GK,GK]at hr;refine Ev.x N.aD rfl rfl ?_;(repeat' ((first|apply AE|refine AD (h1) ?_|refine AD (h2) ?_|refine AD (hr _ _) ?_)<;>conv=>whnf))
 exact AY rfl (EE _)
theorem tE {k l:Nat} {n1 n2:Bool} {a b:List Nat} (ha:Sm k a) (hb:Sm l b):Sm (k+l) (dg (zv n1 a*zv n2 b).natAbs):=ha.mul hb (by rw[Int.natAbs_mul,E5,E5])
theorem Amt (N:l7 L) (k:Nat) (hk:1<=k/\k<=68719476736) (n1 n2 q2 q4:Bool) (m1 d1 m2 d2:List Nat) (pj:Sm k m1) (se:Sm k d1) (np:Sm k m2) (vj:Sm k d2) :
  Ev L 128 [.agg (rQ false q2 n1 m1 d1),.agg (rQ false q4 n2 m2 d2)] (.agg (eQ (qv n1 m1 d1*qv n2 m2 d2))):=by
 obtain ⟨a1,a2,a3,gi,s1,s2,s3,s5⟩:=mP N n1 q2 m1 d1 k (by omega) pj se;obtain ⟨b1,b2,b3,iu,t1,t2,t3,t5⟩:=mP N n2 q4 m2 d2 k (by omega) np vj;have l1:=s1.2;have l2:=s2.2;have l3:=t1.2;have l4:=t2.2;rw[s5,t5,zF];have fj:=λ q q'=>rC N a1 b1 q q' a2 b2 s1.1 t1.1 (by omega)
 have Ag:=λ q q'=>rC N false false q q' a3 b3 s2.1 t2.1 (by omega)
 have g1:Sm (k+k) (dg (zv a1 a2*zv b1 b2).natAbs):=tE s1 t1;have g4:Sm (k+k) (dg (zv false a3*zv false b3).natAbs):=tE s2 t2;have hR:=λ q q'=>xH N (decide (zv a1 a2*zv b1 b2<0)) (decide (zv false a3*zv false b3<0)) q q' _ _ (g1.le (by omega)) (g4.le (by omega))
 rw[GK,GK,show zv false a3*zv false b3=((val a3*val b3:Nat):Int) by rw[F8,F8];simp,Rat.divInt_ofNat]at hR;rw[show zv false a3*zv false b3=((val a3*val b3:Nat):Int) by rw[F8,F8];simp]at Ag;refine Ev.x N.aE rfl rfl ?_;(repeat' ((first|apply AE|refine AD (gi) ?_|refine AD (iu) ?_|refine AD (fj _ _) ?_|refine AD (Ag _ _) ?_|refine AD (hR _ _) ?_)<;>conv=>whnf))
 exact AY rfl (EE _)
theorem AeD {a b:Int} {d e:Nat} (hd:d≠0) (he:e≠0):dp (a*e-b*d)=dp (mkRat a d-mkRat b e).num:=by
 have h:mkRat a d-mkRat b e=mkRat (a*e-b*d) (d*e):=by
  rw[Rat.sub_eq_add_neg,Rat.neg_mkRat,zD hd he,Int.neg_mul,<-Int.sub_eq_add_neg]
 rw[h,AeF (Nat.mul_ne_zero hd he)]
theorem Ams (N:l7 L) (k:Nat) (hk:1<=k/\k<=68719476736) (n1 n2 q2 q4:Bool) (m1 d1 m2 d2:List Nat) (pj:Sm k m1) (se:Sm k d1) (np:Sm k m2) (vj:Sm k d2) :
  Ev L 127 [.agg (rQ false q2 n1 m1 d1),.agg (rQ false q4 n2 m2 d2)] (.int .i64 (dp (qv n1 m1 d1-qv n2 m2 d2).num)):=by
 obtain ⟨a1,a2,a3,gi,s1,s2,s3,s5⟩:=mP N n1 q2 m1 d1 k (by omega) pj se;obtain ⟨b1,b2,b3,iu,t1,t2,t3,t5⟩:=mP N n2 q4 m2 d2 k (by omega) np vj;have l1:=s1.2;have l2:=s2.2;have l3:=t1.2;have l4:=t2.2;rw[s5,t5,<-AeD s3 t3,<-F8 b3,<-F8 a3];have fj:=λ q q'=>rC N a1 false q q' a2 b3 s1.1 t2.1 (by omega)
 have jd:=λ q q'=>rC N b1 false q q' b2 a3 t1.1 s2.1 (by omega)
 have g1:Sm (k+k) (dg (zv a1 a2*zv false b3).natAbs):=tE s1 t2;have g2:Sm (k+k) (dg (zv b1 b2*zv false a3).natAbs):=tE t1 s2;have hC:=λ q q'=>Amp N (decide (zv a1 a2*zv false b3<0)) (decide (zv b1 b2*zv false a3<0)) q q' _ _ (g1.le (by omega)) (g2.le (by omega))
 rw[GK,GK]at hC;refine Ev.x N.aC rfl rfl ?_;(repeat' ((first|apply AE|refine AD (gi) ?_|refine AD (iu) ?_|refine AD (fj _ _) ?_|refine AD (jd _ _) ?_|refine AD (hC _ _) ?_)<;>conv=>whnf))
 exact DC rfl
end Go.e9

namespace Go.e9
def Bt (k:Nat) (x:Rat):Prop:=x.num.natAbs<=2^k/\x.den<=2^k
theorem Bt.le {k l:Nat} {x:Rat} (h:Bt k x) (hl:k<=l):Bt l x:=by
 have:=Nat.pow_le_pow_right (show 0<2 by omega) hl
 exact ⟨Nat.le_trans h.1 this,Nat.le_trans h.2 this⟩
theorem Bt.mk {k:Nat} {z:Int} {d:Nat} (hz:z.natAbs<=2^k) (hd:d<=2^k):Bt k (mkRat z d):=by
 by_cases h0:d=0
 ·subst h0
  rw[Rat.mkRat_zero];exact ⟨by simp,by simp;exact Nat.one_le_two_pow⟩
 ·obtain ⟨e1,e2,_⟩:=zH (z:=z) h0
  unfold Bt;rw[e1,e2];exact ⟨Nat.le_trans (Nat.div_le_self _ _) hz,Nat.le_trans (Nat.div_le_self _ _) hd⟩
theorem Bt.add {k l:Nat} {x y:Rat} (hx:Bt k x) (hy:Bt l y):Bt (k+l+1) (x+y):=by
 rw[Rat.add_def'];refine Bt.mk ?_ ?_
 ·have h1:(x.num*y.den).natAbs<=2^k*2^l:=by rw[Int.natAbs_mul,Int.natAbs_natCast];exact Nat.mul_le_mul hx.1 hy.2
  have h2:(y.num*x.den).natAbs<=2^l*2^k:=by rw[Int.natAbs_mul,Int.natAbs_natCast];exact Nat.mul_le_mul hy.1 hx.2
  rw[Nat.mul_comm (2^l)]at h2;rw[Nat.pow_succ,Nat.pow_add];have h3:=Int.natAbs_add_le (x.num*y.den) (y.num*x.den);omega
 ·rw[Nat.pow_succ,Nat.pow_add]
  have:=Nat.mul_le_mul hx.2 hy.2
  omega
theorem Bt.mul {k l:Nat} {x y:Rat} (hx:Bt k x) (hy:Bt l y):Bt (k+l) (x*y):=by
 rw[Rat.mul_def'];refine Bt.mk ?_ ?_
 ·rw[Int.natAbs_mul,Nat.pow_add];exact Nat.mul_le_mul hx.1 hy.1
 ·rw[Nat.pow_add];exact Nat.mul_le_mul hx.2 hy.2
theorem Bt.zero (k:Nat):Bt k 0:=⟨by simp,by simp;exact Nat.one_le_two_pow⟩
theorem Bt.one (k:Nat):Bt k 1:=⟨by simp;exact Nat.one_le_two_pow,by simp;exact Nat.one_le_two_pow⟩
theorem Bt.dig {k n:Nat} {x:Rat} (h:Bt k x) (hn:k<32*n):Sm n (dg x.num.natAbs)/\Sm n (dg x.den):=by
 have e:2^k<4294967296^n:=by
  rw[show 4294967296=2^32 from rfl,<-Nat.pow_mul];exact (Nat.pow_lt_pow_iff_right (by omega)).2 hn
 exact ⟨Sm.dg (Nat.lt_of_le_of_lt h.1 e),Sm.dg (Nat.lt_of_le_of_lt h.2 e)⟩
def Bs (k:Nat) (l:List Rat):Prop := ∀ x∈l,Bt k x
theorem Bs.at {k:Nat} {l:List Rat} (h:Bs k l) {i:Nat} {x:Rat} (hx:l[i]? = some x):Bt k x:=h x (zM hx)
theorem Bs.le {k j:Nat} {l:List Rat} (h:Bs k l) (hj:k<=j):Bs j l:=λ x hx=>(h x hx).le hj
theorem Bs.take {k:Nat} {l:List Rat} (h:Bs k l) (n:Nat):Bs k (l.take n):=λ x hx=>h x (List.mem_of_mem_take hx)
def AZ:List Rat->List Rat->Rat
 | x::xs,y::ys=>x*y+AZ xs ys
 | _,_=>0
theorem eE (l:List Rat):AZ l []=0:=by cases l<;>rfl
theorem Acy : ∀ {a b:List Rat} {x y:Rat},a.length=b.length->AZ (a++[x]) (b++[y])=AZ a b+x*y
 | [],[],x,y,_=>by show x*y+0=0+x*y;rw[Rat.add_zero,Rat.zero_add]
 | p::a,q::b,x,y,h=>by
  show p*q+AZ (a++[x]) (b++[y])=p*q+AZ a b+x*y;rw[Acy (by simpa using h),Rat.add_assoc]
theorem qU {a b:List Rat} {i:Nat} {x y:Rat} (hx:a[i]? = some x) (hy:b[i]? = some y):AZ (a.take (i+1)) (b.take (i+1))=AZ (a.take i) (b.take i)+x*y:=by
 have h1:=(zS hx).1;have h2:=(zS hy).1;rw[List.take_add_one,List.take_add_one,hx,hy,Option.toList_some,Option.toList_some,Acy (by rw[List.length_take,List.length_take];omega)]
theorem mJ {a b:List Rat} {n:Nat} (h:a.length=n):AZ (a.take n) (b.take n)=AZ a b:=by
 subst h;rw[List.take_of_length_le (Nat.le_refl _)];induction a generalizing b with
 | nil=>cases b<;>rfl
 | cons x a ih=>cases b with
  | nil=>rfl
  | cons y b=>simp only[List.length_cons,List.take_succ_cons,AZ,ih]
theorem Bs.dot {k l:Nat} : ∀ {a b:List Rat},Bs k a->Bs l b->Bt (a.length*(k+l+1)) (AZ a b)
 | [],b,_,_=>by cases b<;>exact Bt.zero _
 | x::a,[],_,_=>Bt.zero _
 | x::a,y::b,ha,hb=>by
  have h1:=(ha x (by simp)).mul (hb y (by simp));have h2:=Bs.dot (a:=a) (b:=b) (λ z hz=>ha z (by simp [hz])) (λ z hz=>hb z (by simp [hz]));refine (h1.add h2).le ?_;rw[List.length_cons,Nat.succ_mul];omega
def dY (a b:List Rat):List Rat:=List.zipWith (· + ·) a b
theorem wD : ∀ {a u v:List Rat},u.length=v.length->AZ a (dY u v)=AZ a u+AZ a v
 | [],_,_,_=>by simp only[AZ];rw[Rat.add_zero]
 | x::a,[],[],_=>by simp only[dY,List.zipWith_nil_left,AZ];rw[Rat.add_zero]
 | x::a,p::u,q::v,h=>by
  show x*(p+q)+AZ a (dY u v)=_;rw[wD (by simpa using h)];simp only[AZ];grind
structure E7 where
 a:List (List Rat)
 b:List Rat
 c:List Rat
 d:Rat
structure E7.Ok (S:E7) (n k:Nat):Prop where
 la:S.a.length=n
 lr : ∀ r∈S.a,r.length=n
 lb:S.b.length=n
 lc:S.c.length=n
 ba : ∀ r∈S.a,Bs k r
 bb:Bs k S.b
 bc:Bs k S.c
 bd:Bt k S.d
def EZ (n:Nat) (j:Int):List Rat:=(List.range n).map λ i:Nat=>if (i:Int)=j then 1 else 0
theorem oP (n:Nat) (j:Int):(EZ n j).length=n:=by simp [EZ]
end Go.e9

namespace Go.e9
open F
attribute [local irreducible] AA AF AM AC CK AR AW BD A7 BW AQ BT CD DB BP A4 BO CE AB A8 AJ pw B4 BK CF CI CN CX CJ BS CM
variable {L:Lib}
set_option maxHeartbeats 4000000
theorem Bt.Ad {k:Nat} {x:Rat} (h:Bt k x) (hk:k<2199023255552):Sm 68719476736 (dg x.num.natAbs)/\Sm 68719476736 (dg x.den):=h.dig (by omega)
theorem AlS (N:l7 L) {x y:Rat} {k l:Nat} (hx:Bt k x) (hy:Bt l y) (hk:k<2199023255552) (hl:l<2199023255552):Ev L 128 [.agg (eQ x),.agg (eQ y)] (.agg (eQ (x*y))):=by
 have:=Amt N 68719476736 (by omega) (decide (x.num<0)) (decide (y.num<0)) false false _ _ _ _ (hx.Ad hk).1 (hx.Ad hk).2 (hy.Ad hl).1 (hy.Ad hl).2
 rw[FF,FF]at this;exact this
theorem AmD (N:l7 L) {x:Rat} {k:Nat} (hx:Bt k x) (hk:k<2199023255552):Ev L 123 [.agg (eQ x)] (.agg (eQ x)):=by
 have:=Amv N (decide (x.num<0)) false _ _ ((hx.Ad hk).1.le (by omega)) ((hx.Ad hk).2.le (by omega))
 rw[FF]at this;exact this
theorem wR (N:l7 L) {x y:Rat} {k l:Nat} (hx:Bt k x) (hy:Bt l y) (hk:k<2199023255552) (hl:l<2199023255552):Ev L 127 [.agg (eQ x),.agg (eQ y)] (.int .i64 (dp (x-y).num)):=by
 have:=Ams N 68719476736 (by omega) (decide (x.num<0)) (decide (y.num<0)) false false _ _ _ _ (hx.Ad hk).1 (hx.Ad hk).2 (hy.Ad hl).1 (hy.Ad hl).2
 rw[FF,FF]at this;exact this
theorem Oo {x y:Rat}:dp (x-y).num=0↔x=y:=by
 have h:dp (x-y).num=0↔(x-y).num=0:=by unfold dp;split<;>(try split)<;>omega
 rw[h,Rat.num_eq_zero];constructor
 ·intro h;grind
 ·rintro rfl;exact Rat.sub_self
theorem Al1 (N:ic L) {x:Rat} {k:Nat} (hx:Bt k x) (hk:k<2199023255552):Ev L 152 [.agg (eQ x)] (.agg (eQ (-x))):=by
 have hT:=AmD N.tol7 hx hk;have hN:=λ q=>xB N.tol7 (decide (x.num<0)) q (dg x.num.natAbs) ((hx.Ad hk).1.le (by omega))
 rw[GK]at hN;refine Ev.x N.aF rfl rfl ?_;(repeat' ((first|apply AE|refine AD (hT) ?_|refine AD (hN _) ?_)<;>conv=>whnf))
 refine AY ?_ (EE _);show _=AV.agg (rQ _ _ _ _ _);rw[Rat.neg_num,Rat.neg_den]
end Go.e9

namespace Go.e9
abbrev eO:Option Rat->List AV
 | none=>[.bool false,.nil,.nil]
 | some x=>eQ x
def DH (l:List Rat) (m:Nat):List (Option Rat):=l.map some++List.replicate (m-l.length) none
theorem OQ (m:Nat):DH [] m=List.replicate m none:=by simp [DH]
theorem J3 {l:List Rat} {m:Nat} (h:l.length<=m):(DH l m).length=m:=by simp [DH];omega
theorem OR {l:List Rat} {m:Nat} {x:Rat} (h:l.length<m):(DH l m).set l.length (some x)=DH (l++[x]) m:=by
 unfold DH;have e:m-l.length=(m-(l++[x]).length)+1:=by simp;omega
 rw[e,List.replicate_succ,List.set_append_right _ _ (by simp)];simp
theorem OO {l:List Rat} {m:Nat} (h:l.length=m):(DH l m).map eO=l.map eQ:=by
 unfold DH;rw[h,Nat.sub_self];simp [Function.comp_def]
abbrev eS (S:E7):List AV:=[.sl false (S.a.map λ r=>[AV.sl false (r.map eQ)]),.sl false (S.b.map eQ),.sl false (S.c.map eQ)]++eQ S.d
theorem OK (l:List Rat):F2 (l.map eQ):=jM (λ x=>by simp only[CW,A6,and_true,true_and];exact ⟨CS _,CS _⟩) l
theorem SZ {l:List Rat} {i:Nat} {x:Rat} (h:l[i]? = some x):l.take (i+1)=l.take i++[x]:=by
 rw[List.take_add_one,h];rfl
theorem mA (S:E7):A6 (.agg (eS S)):=by
 have h:F2 (S.a.map λ r=>[AV.sl false (r.map eQ)]):=jM (λ r=>by simp only[CW,A6,and_true,true_and];exact OK r) S.a;simp only[A6,List.cons_append,List.nil_append,CW,and_true,true_and];exact ⟨h,OK _,OK _,CS _,CS _⟩
end Go.e9

namespace Go.e9
open F
attribute [local irreducible] AA AF AM AC CK AR AW BD A7 BW AQ BT CD DB BP A4 BO CE AB A8 AJ pw B4 BK CF CI CN CX CJ BS CM
variable {L:Lib}
set_option maxHeartbeats 8000000
def I0 (l:List Rat):Nat->Nat
 | 0=>0
 | n+1=>if l.getD n 0=0 then I0 l n else n+1
theorem mD (l:List Rat) : ∀ n,I0 l n<=n
 | 0=>Nat.le_refl _
 | n+1=>by rw[I0];split;exact Nat.le_succ_of_le (mD l n);exact Nat.le_refl _
def cE (l:List Rat):List Rat:=l.take (I0 l l.length)
theorem Agt (l:List Rat):(cE l).length=I0 l l.length:=by rw[cE,List.length_take];exact Nat.min_eq_left (mD _ _)
end Go.e9

namespace Go.e9
open F
theorem Alj {L:Lib} {f:Nat} {fn:AFn} {vs:List AV} {own w8:AH} {r:AV} (hL:L f=some fn) (Jv:JW fn.body=true) (h:GU L f vs own r w8):w8=own:=by
 obtain ⟨n,h⟩:=h;cases n with
 | zero=>simp [DZ]at h
 | succ n =>
  rw[mL]at h;simp only[hL]at h;split at h
  ·split at h
   ·rename_i st o9
    split at h
    ·simp only[Option.some.injEq,Prod.mk.injEq]at h
     rw[<-h.2];exact L1 n (by simp [dC,Jv]) o9
    ·cases h
   ·cases h
  ·cases h
attribute [local irreducible] AA AF AM AC CK AR AW BD A7 BW AQ BT CD DB BP A4 BO CE AB A8 AJ pw B4 BK CF CI CN CX CJ BS CM
set_option maxHeartbeats 1000000
variable {L:Lib}
theorem Aju (N:l9 L) (l:List Nat) (s:Nat) (hD:A3 l) (hl:l.length<=1099511627776):A8 L 65 [.row 5 0 1 0 l.length] [(0,.row 5 0 1 0 l.length)] [(5,s,.rw 1 (l.map AL))] (λ r _=>r = .row 5 0 1 0 (dg (val l)).length):=by
 have hlen : ∀ n,n<=l.length->l.take n=dg (val l)->n=(dg (val l)).length:=λ n h1 h2=>by
  rw[<-h2,List.length_take];omega
 refine FY 1000 N.F6 rfl rfl ?_;(repeat' (apply AE<;>conv=>whnf))
 refine B6 (λ n=>n) (λ(n:Nat)=>n<=l.length /\ ∀ i,n<=i->i<l.length->l[i]? = some 0) (λ n=>[(3,.int .i64 n)]) (λ_=>[]) [] [] l.length (by (conv=>whnf);exact ⟨rfl,rfl,rfl⟩) ⟨Nat.le_refl _,λ i h1 h2=>by omega⟩ ?_;intro n ⟨p1,p2⟩ ih;rcases n with _|n
 ·(repeat' ((first|(apply AG<;>intro hc<;>try (exfalso;omega))|apply AE)<;>conv=>whnf))
  refine HU 0 (by omega) (by omega) ?_;(conv=>whnf)
  refine ⟨rfl,_,rfl,?_⟩;rw[<-hlen 0 p1 (GO hD p1 p2 (Or.inl rfl))];rfl
 ·have e1:((n+1:Nat):Int)-1=n:=by omega
  (repeat' ((first|(apply AG<;>intro hc<;>try (exfalso;omega))|(apply A0;omega)|(apply CB;omega)|(refine fZ (by assumption) ?_ (λ v hv hb => ?_);omega)|apply AE)<;>conv=>whnf))
  ·rw[e1]
   exact BL [] (ih n (by omega) ⟨by omega,λ i h1 h2=>by
    by_cases h:i=n
    ·subst h
     rw[e1,Int.toNat_natCast]at hv;rw[hv];congr 1;omega
    ·exact p2 i (by omega) h2⟩)
  ·refine HU (n+1) (by omega) (by omega) ?_
   (conv=>whnf)
   refine ⟨rfl,_,rfl,?_⟩;rw[e1,Int.toNat_natCast]at hv;rw[<-hlen (n+1) p1 (GO hD p1 p2 (Or.inr ⟨_,hv,by omega⟩))];rfl
theorem Ajt (N:l9 L) (l:List Nat) (s t:Nat) (own:AH) (hD:A3 l) (hl:l.length<=1099511627776) (hb:(own s).m5 t=some ⟨1,l.map AL⟩) (ht:t<(own s).n6) (sj:E3 s=true):GU L 65 [.row s t 1 0 l.length] own (.row s t 1 0 (dg (val l)).length) own:=by
 have hs:TW (λ_ _=>(s,t)) own [(5,s,.rw 1 (l.map AL))]:=by
  have key : ∀ k u c,g8 [(5,s,A9.rw 1 (l.map AL))] k u=some c->k=5/\u=0/\c = .rw 1 (l.map AL):=λ k u c e=>by
   simp only[g8,l6]at e;cases hk:Nat.beq k 5<;>simp only[hk,cond_true,cond_false]at e
   ·cases e
   ·cases u with
    | zero=>simp only[Option.some.injEq]at e;exact ⟨Nat.eq_of_beq_eq_true hk,rfl,e.symm⟩
    | succ u=>cases e
  refine ⟨λ k s' c e => ?_,λ k u c e => ?_,λ k u c e=>ht,λ k u k' u' c c' e e' _ => ?_,λ_ _ _ _ _=>sj⟩
  ·simp only[l6]at e
   cases hk:Nat.beq k 5<;>simp only[hk,cond_true,cond_false]at e
   ·cases e
   ·simp only[Option.some.injEq,Prod.mk.injEq]at e;exact e.1
  ·obtain ⟨_,_,rfl⟩:=key k u c e
   exact hb
  ·obtain ⟨rfl,rfl,_⟩:=key k u c e
   obtain ⟨rfl,rfl,_⟩:=key k' u' c' e';exact ⟨rfl,rfl⟩
 have hw:=Aju N l s hD hl;unfold A8 at hw;obtain ⟨r,w8,σ',M',h1,h2,h3,rfl⟩:=hw _ own hs;have ho:=Alj N.F6 (by decide +kernel) h1;subst ho;have h4:AV.row (σ' 5 0).1 (σ' 5 0).2 1 0 l.length=AV.row s t 1 0 l.length:=h3 0;simp only[AV.row.injEq]at h4;have h5:GU L 65 [.row s t 1 0 l.length] w8 (.row (σ' 5 0).1 (σ' 5 0).2 1 0 (dg (val l)).length) w8:=h1;rw[h4.1,h4.2.1]at h5;exact h5
theorem oS (N:l9 L) {l:List Nat} {tm:Tm} {M:Mem} {K:AV->Mem->Prop} {key s len:Nat} (hD:A3 l) (hl:l.length<=1099511627776) (hm:l6 M key=some (s,.rw 1 (l.map AL))) (hlen:len=l.length) (hk:K (.row key 0 1 0 (dg (val l)).length) M):A8 L 65 [.row key 0 1 0 len] tm M K:=by
 subst hlen;unfold A8;intro σ own hs;have ka:=hs.site _ _ _ hm;have Jt:g8 M key 0=some (.rw 1 (l.map AL)):=by simp only[g8,hm]
 have hb:=hs.m5 _ _ _ Jt;have ht:=hs.old _ _ _ Jt;refine ⟨.row key 0 1 0 (dg (val l)).length,own,σ,M,?_,hs,λ_=>rfl,hk⟩;exact Ajt N l (σ key 0).1 (σ key 0).2 own hD hl hb ht (hs.low _ _ _ (EM hm) rfl)
end Go.e9

namespace Go.e9
open F
attribute [local irreducible] AA AF AM AC CK AR AW BD A7 BW AQ BT CD DB BP A4 BO CE AB A8 AJ pw B4 BK CF CI CN CX CJ BS CM
set_option maxHeartbeats 4000000
variable {L:Lib}
abbrev wI (v:List Nat) (j m s xl:Nat):Tm:=[(102,AV.sl false (List.map AL v)),(101,AV.row 71012 0 1 j (v.length+1)),
           (100,AV.int IntKind.i64 (↑j + ↑v.length+1)),(99,AV.int IntKind.i64 (↑j + ↑v.length)),
           (98,AV.int IntKind.i64 ↑v.length),(97,AV.int IntKind.i64 ↑j),(96,AV.int IntKind.i64 ↑j),
           (95,AV.row 71012 0 1 0 (xl+1)),(94,AV.int IntKind.i64 ↑j),(93,AV.row 28 0 1 0 m),
           (90,AV.bool true),(14,AV.int IntKind.i64 ↑j),(13,AV.sl false (List.map AL v)),
           (12,AV.row 71012 0 1 0 (xl+1)),(11,AV.int IntKind.u64 ↑s),(7,AV.row 28 0 1 0 m),
           (6,AV.int IntKind.i64 ↑v.length)]
abbrev Ak6:List It:=[It.lp GC.l2,It.m5 2,It.code
      (((BJ.ops GC.jf false).dr [9,10,84,85,86,87,118,119,120,121,122,123,124,125,126]
         []).seq
       (((BJ.ops GC.ko false).dr [127,128,129,130,131] []).seq
        ((((BJ.ops GC.mf false).dr [15,132,133] []).seq
           (BJ.cond 134
            (((BJ.ops GC.oy false).dr [0,1,5,7,134,135,136] []).seq BJ.ret)
            BJ.skip)).seq
         (((BJ.ops GC.qh false).dr [134] []).seq
          ((((BJ.ops GC.tk false).dr [1] []).seq (BJ.block 4 GC.l3.loop)).seq
           (((BJ.ops GC.Mf false).dr
              [0,5,9,137,138,139,140,162,163,164,165,166,167,168,169] []).seq
            (((BJ.ops GC.Mg false).dr [7,170,171,172] []).seq BJ.ret)))))))]
section
variable {A W C w v:List Nat} {j m s xl q:Nat} {K:AV->Mem->Prop}
theorem vX (hA:A.length=j) (hW:W.length=v.length+1) (D2:A3 W) (jx:A3 v) (lk:2<=v.length) (zt:v.length<=549755813888) (fg:0<val v)
  (r1:q<4294967296) (r2:val W/val v<=q) (r3:q<=val W/val v+1)
  (hk : ∀ (W':List Nat) (o':List (List AV)) (q':Nat),W'.length=v.length+1->A3 W'->val W'=val W%val v->q'=val W/val v->K (.int .u32 (q':Int)) [(71012,71012,.rw 1 ((A++W'++C).map AL)),(28,28,.rw 1 (w.map AL)),(71012,71012,.rw 1 o')])
  (re : ∀ (W':List Nat) (o':List (List AV)) (q':Nat),W'.length=v.length+1->A3 W'->val W'=val W%val v->q'=val W/val v->K (.int .u32 (q':Int)) [(71012,71012,.rw 1 ((A++W'++C).map AL)),(71012,71012,.rw 1 o'),(28,28,.rw 1 (w.map AL))]) :
  AA L Ak6 ([(86,.int .i64 0),(85,.int .i64 v.length),(84,.sl false (v.map AL)),(10,.int .u64 0),(9,.int .u64 0),(7,.int .u64 (q:Int)),(5,.int .i64 v.length),(0,AV.row 71012 0 1 j (v.length+1)),(1,AV.sl false (List.map AL v))]++GS 1000 (wI v j m s xl))
   [(71012,71012,A9.rw 1 (List.map AL (A++W++C))),(28,28,A9.rw 1 (List.map AL w))] (Xi 1000 GC (wI v j m s xl) K):=by
 refine Uv (λ i _ _ _=>v.length-i) (λ(i:Nat) (Z:List Nat) (c b:Nat)=>i<=v.length/\Z.length=v.length+1/\A3 Z/\c<4294967296/\b<=1/\Z.drop i=W.drop i/\val (Z.take i)+q*val (v.take i)=val (W.take i)+4294967296^i*(c+b)) (λ i Z c b=>[(86,.int .i64 i),(10,.int .u64 (b:Int)),(9,.int .u64 (c:Int))]) (λ i Z c b=>[(71012,71012,.rw 1 ((A++Z++C).map AL))]) [] [] 0 W 0 0 (by (conv=>whnf);exact ⟨rfl,rfl,rfl⟩) ⟨by omega,hW,D2,by omega,by omega,rfl,by simp [val]⟩ ?_;intro i Z c b ⟨p1,p2,p3,p4,p5,p6,p7⟩ ih;by_cases hi:i<v.length
 ·obtain ⟨d,hd⟩ : ∃ d,v[i]? = some d:=⟨_,zE hi⟩
  obtain ⟨u,hu⟩ : ∃ u,Z[i]? = some u:=⟨_,zE (by omega)⟩;have gl:=jx.at hd;have xh:=p3.at hu;obtain ⟨pr,ya⟩ : ∃ pr,pr=q*d+c:=⟨_,rfl⟩;obtain ⟨m1,m2,m3⟩:=AeI r1 gl p4 ya;have Be:W[i]? = some u:=by
   have e1:(Z.drop i)[0]? = (W.drop i)[0]? := by rw[p6]
   simpa [hu] using e1.symm
  (repeat' ((first|(apply AG<;>intro hc<;>try (exfalso;omega))|(apply A0;omega)|(apply GH;omega)|(apply cK;omega)|apply FN|(apply CP;omega)|(refine BH (by assumption) ?_ rfl ?_;omega)|apply AE)<;>conv=>whnf))
  rw[<-ya];refine dT i hu (by omega) ?_;(conv=>whnf)
  (repeat' ((first|(apply A0;omega)|(apply pI;omega)|(apply CP;omega)|apply F9)<;>conv=>whnf))
  obtain ⟨s1,s2⟩:=tN xh (show pr%4294967296<4294967296 by omega) p5;have o9:=Aow p7 ya rfl xh p5;generalize ER (ER u (pr%4294967296)) b=t at *;refine bK i (by omega) (by omega) ?_;(conv=>whnf)
  (repeat' ((first|(apply AX;omega)|apply pH)<;>conv=>whnf))
  refine B3 [] (by (conv=>whnf);exact ⟨rfl,rfl,rfl⟩) (ih (i+1) _ _ _ (by omega) ⟨by omega,by simpa using p2,p3.set _ (by omega),m1,s2,?_,?_⟩)
  ·rw[List.drop_set_of_lt (by omega)]
   have e1:(Z.drop i).drop 1=(W.drop i).drop 1:=by rw[p6]
   simpa using e1
  ·rw[GF (by omega),EC hd,EC Be,Nat.pow_succ]
   exact o9
 ·obtain rfl:i=v.length:=by omega
  clear ih;obtain ⟨u,hu⟩ : ∃ u,Z[v.length]? = some u:=⟨_,zE (by omega)⟩;have xh:=p3.at hu;have Be:W[v.length]? = some u:=by
   have e1:(Z.drop v.length)[0]? = (W.drop v.length)[0]? := by rw[p6]
   simpa [hu] using e1.symm
  rw[DG (Nat.le_refl v.length)]at p7;obtain ⟨s1,s2⟩:=tN xh p4 p5;have o9:=Aou p7 rfl xh p4 p5;have eW:val W=val (W.take v.length)+4294967296^v.length*u:=by
   rw[<-EC Be,DG (by omega)]
  rw[<-eW,<-GF (show v.length<Z.length by omega),DG (by simp;omega)]at o9;(repeat' ((first|(apply AG<;>intro hc<;>try (exfalso;omega))|(apply A0;omega)|apply AE)<;>conv=>whnf))
  refine dT v.length hu (by omega) ?_;(conv=>whnf)
  (repeat' ((first|(apply A0;omega)|(apply pI;omega)|(apply CP;omega)|apply F9)<;>conv=>whnf))
  generalize ER (ER u c) b=t at *;refine bK v.length (by omega) (by omega) ?_;(conv=>whnf)
  (repeat' ((first|(apply AG<;>intro hc<;>try (exfalso;omega))|apply pH|(apply EJ;omega)|apply AU)<;>conv=>whnf))
  ·have Lx:t/9223372036854775808=0:=by omega
   rw[Lx,Nat.mul_zero,Nat.add_zero]at o9;obtain ⟨y1,y2⟩:=Zr fg r2 o9;exact ⟨rfl,_,rfl,hk _ _ _ (by simpa using p2) (p3.set _ (by omega)) y2 y1⟩
  ·have Ly:t/9223372036854775808=1:=by omega
   rw[Ly,Nat.mul_one]at o9;have Ib:A3 (Z.set v.length (t%4294967296)):=p3.set _ (by omega);have vg:(Z.set v.length (t%4294967296)).length=v.length+1:=by simpa using p2
   clear p7 p6 p4 p5 s1 s2 eW Ly hu Be xh p1 p2 p3;generalize Z.set v.length (t%4294967296)=X at *;have Gg:=FA Ib;rw[vg,Nat.pow_succ]at Gg;obtain ⟨y1,y2,y3⟩:=Zq fg r3 Gg o9;have hRV:val W%val v<val v:=Nat.mod_lt _ fg;have Ee:=FA jx;obtain ⟨xw,Ft⟩ : ∃ xw,X[v.length]? = some xw:=⟨_,zE (by omega)⟩;have eX:val X=val (X.take v.length)+4294967296^v.length*xw:=by
    rw[<-EC Ft,DG (by omega)]
   refine GT (λ i _ _=>v.length-i) (λ(i:Nat) (Z:List Nat) (c:Nat)=>i<=v.length/\Z.length=v.length+1/\A3 Z/\c<=1/\Z.drop i=X.drop i/\val (Z.take i)+4294967296^i*c=val (X.take i)+val (v.take i)) (λ i Z c=>[(139,.int .i64 i),(9,.int .u64 (c:Int))]) (λ i Z c=>[(71012,71012,.rw 1 ((A++Z++C).map AL))]) [] [] 0 X 0 (by (conv=>whnf);exact ⟨rfl,rfl,rfl⟩) ⟨by omega,vg,Ib,by omega,rfl,by simp [val]⟩ ?_;intro i Z c ⟨p1,p2,p3,p4,p6,p7⟩ ih;by_cases hi:i<v.length
   ·obtain ⟨d,hd⟩ : ∃ d,v[i]? = some d:=⟨_,zE hi⟩
    obtain ⟨u,hu⟩ : ∃ u,Z[i]? = some u:=⟨_,zE (by omega)⟩;have gl:=jx.at hd;have xh:=p3.at hu;have qe:X[i]? = some u:=by
     have e1:(Z.drop i)[0]? = (X.drop i)[0]? := by rw[p6]
     simpa [hu] using e1.symm
    have ij:=Xp (d:=d) (w:=u) p7 rfl;(repeat' ((first|(apply AG<;>intro hc<;>try (exfalso;omega))|(apply A0;omega)|(refine BH (by assumption) ?_ rfl ?_;omega)|apply AE)<;>conv=>whnf))
    refine dT i hu (by omega) ?_;(conv=>whnf)
    (repeat' ((first|(apply A0;omega)|(apply GH;omega)|(apply CP;omega)|apply F9)<;>conv=>whnf))
    generalize Tj:u+d+c=t2 at *;refine bK i (by omega) (by omega) ?_;(conv=>whnf)
    (repeat' ((first|(apply AX;omega)|apply FN)<;>conv=>whnf))
    refine B3 [] (by (conv=>whnf);exact ⟨rfl,rfl,rfl⟩) (ih (i+1) _ _ (by omega) ⟨by omega,by simpa using p2,p3.set _ (by omega),by omega,?_,?_⟩)
    ·rw[List.drop_set_of_lt (by omega)]
     have e1:(Z.drop i).drop 1=(X.drop i).drop 1:=by rw[p6]
     simpa using e1
    ·rw[GF (by omega),EC hd,EC qe,Nat.pow_succ]
     exact ij
   ·obtain rfl:i=v.length:=by omega
    clear ih;obtain ⟨u,hu⟩ : ∃ u,Z[v.length]? = some u:=⟨_,zE (by omega)⟩;have xh:=p3.at hu;have qe:X[v.length]? = some u:=by
     have e1:(Z.drop v.length)[0]? = (X.drop v.length)[0]? := by rw[p6]
     simpa [hu] using e1.symm
    rw[qe]at Ft;obtain rfl:u=xw:=by simpa using Ft
    rw[DG (Nat.le_refl v.length)]at p7;have Ic:=FA (p3.take v.length);rw[List.length_take,Nat.min_eq_left (by omega)]at Ic;rw[eX]at y3;have nf:=Xo p7 y3 (by omega) Ic;rw[<-GF (show v.length<Z.length by omega),DG (by simp;omega)]at nf;(repeat' ((first|(apply AG<;>intro hc<;>try (exfalso;omega))|(apply A0;omega)|apply AE)<;>conv=>whnf))
    refine dT v.length hu (by omega) ?_;(conv=>whnf)
    (repeat' ((first|(apply A0;omega)|apply Xc|(apply EJ;omega))<;>conv=>whnf))
    refine bK v.length (by omega) (by omega) ?_;(conv=>whnf)
    (repeat' ((first|(apply OD;omega;omega)|(apply EJ;omega))<;>conv=>whnf))
    exact ⟨rfl,_,rfl,re _ _ _ (by simpa using p2) (p3.set _ (by omega)) nf y1⟩
theorem AjS (N:l9 L) (hA:A.length=j) (hW:W.length=v.length+1) (D2:A3 W) (jx:A3 v) (lk:2<=v.length) (zt:v.length<=549755813888) (fg:0<val v)
  (n2:4294967296^(v.length-1)*2147483648<=val v) (g2:val W<4294967296*val v)
  (hk : ∀ (W':List Nat) (o':List (List AV)) (q':Nat),W'.length=v.length+1->A3 W'->val W'=val W%val v->q'=val W/val v->K (.int .u32 (q':Int)) [(71012,71012,.rw 1 ((A++W'++C).map AL)),(28,28,.rw 1 (w.map AL)),(71012,71012,.rw 1 o')])
  (re : ∀ (W':List Nat) (o':List (List AV)) (q':Nat),W'.length=v.length+1->A3 W'->val W'=val W%val v->q'=val W/val v->K (.int .u32 (q':Int)) [(71012,71012,.rw 1 ((A++W'++C).map AL)),(71012,71012,.rw 1 o'),(28,28,.rw 1 (w.map AL))]) :
  A8 L 73 [AV.row 71012 0 1 j (v.length+1),AV.sl false (List.map AL v)] (wI v j m s xl) [(71012,71012,A9.rw 1 (List.map AL (A++W++C))),(28,28,A9.rw 1 (List.map AL w))] K:=by
 obtain ⟨UL,a1,a2⟩:=tW D2 (n:=v.length+1) (by omega) (by omega);obtain ⟨VL,b5,b6⟩:=Agx jx (n:=v.length) lk (by omega);obtain ⟨u0,w0⟩ : ∃ d,W[v.length]? = some d:=⟨_,zE (by omega)⟩;obtain ⟨u1,w1⟩ : ∃ d,W[v.length-1]? = some d:=⟨_,zE (by omega)⟩;obtain ⟨u2,w2⟩ : ∃ d,W[v.length-2]? = some d:=⟨_,zE (by omega)⟩;obtain ⟨f1,x1⟩ : ∃ d,v[v.length-1]? = some d:=⟨_,zE (by omega)⟩;obtain ⟨f2,x2⟩ : ∃ d,v[v.length-2]? = some d:=⟨_,zE (by omega)⟩;rw[show v.length+1-3=v.length-2 by omega,show v.length+1-2=v.length-1 by omega,show v.length+1-1=v.length by omega,G2 w0,G2 w1,G2 w2]at a2;rw[show v.length+1-3=v.length-2 by omega]at a1;rw[G2 x1,G2 x2]at b6;have yp:=Ago jx (k:=v.length-1) (by omega) n2 x1;have k0:=D2.at w0;have k1:=D2.at w1;have k2:=D2.at w2;have k3:=jx.at x1;have k4:=jx.at x2;have z1:v[((v.length:Int)-1).toNat]? = some f1:=by rw[show ((v.length:Int)-1).toNat=v.length-1 by omega];exact x1
 have z2:v[((v.length:Int)-2).toNat]? = some f2:=by rw[show ((v.length:Int)-2).toNat=v.length-2 by omega];exact x2
 refine FY 1000 N.GC rfl rfl ?_;(repeat' ((first|(apply A0;omega)|apply AU|apply AE)<;>conv=>whnf))
 refine dT v.length w0 (by omega) ?_;(conv=>whnf)
 (repeat' ((first|(apply A0;omega)|(apply CB;omega)|(apply bJ;omega)|(apply CP;omega))<;>conv=>whnf))
 refine dT (v.length-1) w1 (by omega) ?_;(conv=>whnf)
 refine Wu (by omega) ?_;(conv=>whnf)
 refine cL (by omega) ?_;(conv=>whnf)
 generalize Tp:u0*4294967296+u1=top at *;have Dk:top<=18446744073709551615:=by omega
 have hU:val W=UL+4294967296^(v.length-2)*(u2+4294967296*top):=by rw[a2,show u1+4294967296*u0=top by omega]
 (repeat' ((first|(apply CB;omega)|(apply lL;omega)|(apply pG;omega;omega)|(apply CP;omega)|(refine BH (by assumption) ?_ rfl ?_;omega))<;>conv=>whnf))
 refine G8 (λ q _=>q) (λ(q r:Nat)=>Gs (val W) (val v) f1 f2 u2 top q r) (λ q r=>[(7,.int .u64 (q:Int)),(8,.int .u64 (r:Int))]) (λ_ _=>[]) [] [] (top/f1) (top%f1) (by (conv=>whnf);exact ⟨rfl,rfl,rfl⟩) (Gs.start hU b6 a1 k2 fg (by omega) k3) ?_;intro q r g ti;have hqt:q<=top:=by
  have h3:=g.hq;have h4:q*1<=q*f1:=Nat.mul_le_mul_left q (by omega);omega
 have hr:=g.hr;have qt:=g.ge;by_cases hb:4294967296<=q
 ·obtain ⟨y1,y2,y3⟩:=g.next hU b6 a1 fg g2 (Or.inl hb)
  (repeat' ((first|(apply AG<;>intro hc<;>try (exfalso;omega))|(apply CB;omega)|(apply GH;omega)|(apply OD;omega;omega)|(apply CP;omega)|apply AU|(refine BH (by assumption) ?_ rfl ?_;omega)|apply AE)<;>conv=>whnf))
  ·obtain ⟨t1,t2⟩:=jW hU b6 b5 yp k4 g2 y2 (Or.inr (by omega))
   exact B3 [] (by (conv=>whnf);exact ⟨rfl,rfl,rfl⟩) (vX (w:=w) (C:=C) hA hW D2 jx lk zt fg t1 y3 t2 hk re)
  ·exact B3 [] (by (conv=>whnf);exact ⟨rfl,rfl,rfl⟩) (ti (q-1) (r+f1) (by omega) ⟨y2,by omega,y3⟩)
 ·have hmq:=kF (show q<4294967296 by omega) k4
  by_cases bn:r*4294967296+u2<q*f2
  ·obtain ⟨y1,y2,y3⟩:=g.next hU b6 a1 fg g2 (Or.inr bn)
   (repeat' ((first|(apply AG<;>intro hc<;>try (exfalso;omega))|(apply A0;omega)|(apply CB;omega)|(apply cK;omega)|(apply bJ;omega)|(apply CP;omega)|(refine BH (by assumption) ?_ rfl ?_;omega)|apply AE)<;>conv=>whnf))
   refine dT (v.length-2) w2 (by omega) ?_;(conv=>whnf)
   (repeat' ((first|(apply AG<;>intro hc<;>try (exfalso;omega))|(apply CB;omega)|(apply GH;omega)|(apply cL;omega)|(apply OD;omega;omega)|(apply CP;omega)|apply AU|(refine BH (by assumption) ?_ rfl ?_;omega))<;>conv=>whnf))
   ·obtain ⟨t1,t2⟩:=jW hU b6 b5 yp k4 g2 y2 (Or.inr (by omega))
    exact B3 [] (by (conv=>whnf);exact ⟨rfl,rfl,rfl⟩) (vX (w:=w) (C:=C) hA hW D2 jx lk zt fg t1 y3 t2 hk re)
   ·exact B3 [] (by (conv=>whnf);exact ⟨rfl,rfl,rfl⟩) (ti (q-1) (r+f1) (by omega) ⟨y2,by omega,y3⟩)
  ·obtain ⟨t1,t2⟩:=jW hU b6 b5 yp k4 g2 g.hq (Or.inl ⟨by omega,by omega⟩)
   (repeat' ((first|(apply AG<;>intro hc<;>try (exfalso;omega))|(apply A0;omega)|(apply CB;omega)|(apply cK;omega)|(apply bJ;omega)|(apply CP;omega)|(refine BH (by assumption) ?_ rfl ?_;omega)|apply AE)<;>conv=>whnf))
   refine dT (v.length-2) w2 (by omega) ?_;(conv=>whnf)
   (repeat' ((first|(apply AG<;>intro hc<;>try (exfalso;omega))|(apply cL;omega)|(apply CP;omega)|apply AU)<;>conv=>whnf))
   exact B3 [] (by (conv=>whnf);exact ⟨rfl,rfl,rfl⟩) (vX (w:=w) (C:=C) hA hW D2 jx lk zt fg t1 qt t2 hk re)
end
end Go.e9

namespace Go.e9
open F
attribute [local irreducible] AA AF AM AC CK AR AW BD A7 BW AQ BT CD DB BP A4 BO CE AB A8 AJ pw B4 BK CF CI CN CX CJ BS CM
variable {L:Lib}
set_option maxHeartbeats 4000000
theorem ApZ {V R y d t Q:Nat} (h:Q*y+R=V) (ht:t=R*4294967296+d):(t/y+4294967296*Q)*y+t%y=d+4294967296*V:=by
 have:=Nat.div_add_mod t y
 rw[<-h,Nat.add_mul];have e:t/y*y=y*(t/y):=Nat.mul_comm _ _;grind
theorem mB (a b:List Nat):A6 (.m9 [.sl false (a.map AL),.sl false (b.map AL)]):=by
 simp only[A6,CW,and_true,true_and];exact ⟨CS a,CS b⟩
set_option maxHeartbeats 4000000 in
theorem wX (N:l9 L) (X Y:Nat) (q1 q2:Bool) (hY:Y≠0) (lx:(dg X).length<=549755813888) (ly:(dg Y).length<=549755813888):Ev L 74 [.sl q1 ((dg X).map AL),.sl q2 ((dg Y).map AL)] (.m9 [.sl false ((dg (X/Y)).map AL),.sl false ((dg (X%Y)).map AL)]):=by
 have u6:=λ q q'=>cX N (dg X) (dg Y) q q' (EA X) (EA Y) (by omega) (by omega)
 rw[B5,B5]at u6;have d1:=EA X;have d2:=EA Y;have v1:=B5 X;have v2:=B5 Y;have hy1:=mI hY;refine Ev.x N.YR rfl rfl ?_;by_cases v9:X<Y
 ·have hn:DD X Y = -1:=(JZ (by omega)).symm
  rw[hn]at u6;(repeat' ((first|(apply AG<;>intro hc<;>try (exfalso;omega))|apply AE|refine AD (u6 _ _) ?_|refine AD (Yu N (dg X) _ (by omega)) ?_)<;>conv=>whnf))
  refine AY ?_ (mB _ _);rw[Nat.div_eq_of_lt v9,Nat.mod_eq_of_lt v9,E8];rfl
 have qt:0<=DD X Y:=by unfold DD;split<;>(try split)<;>omega
 have Am:=eC (show Y<=X by omega);generalize DD X Y=cm at *;by_cases h1:(dg Y).length=1
 ·-- one digit
  obtain ⟨y0,ui⟩ : ∃ y0,dg Y=[y0]:=List.length_eq_one_iff.1 h1;have As:Y=y0:=by rw[<-v2,ui];simp [val]
  subst As;have Dr:Y<4294967296:=d2 Y (by rw[ui];simp);have hyg:(dg Y)[0]? = some Y:=by rw[ui];rfl
  clear ui v2;generalize dg Y=y at *;generalize hx:dg X=x at *;(repeat' ((first|(apply AG<;>intro hc<;>try (exfalso;omega))|(apply AX;omega)|(apply CB;omega)|apply AU|apply AE|refine AD (u6 _ _) ?_)<;>conv=>whnf))
  refine EK (enc:=AL) 0 x.length rfl (by omega) (by omega) ?_;(conv=>whnf)
  (repeat' ((first|(apply AG<;>intro hc<;>try (exfalso;omega))|(apply CB;omega)|apply AU)<;>conv=>whnf))
  refine GT (λ n _ _=>n) (λ(n:Nat) (o:List Nat) (r:Nat)=>n<=x.length/\o.length=x.length/\A3 o/\r<Y/\val (o.drop n)*Y+r=val (x.drop n)) (λ n o r=>[(8,.int .u64 (r:Int)),(9,.int .i64 ((n:Int)-1))]) (λ n o r=>[(28,28,.rw 1 (o.map AL))]) [] [] x.length (List.replicate x.length 0) 0 (by (conv=>whnf);exact ⟨rfl,rfl,rfl⟩) ⟨by omega,by simp,ON _,by omega,by rw[List.drop_of_length_le (Nat.le_refl _),List.drop_of_length_le (by simp)];simp [val]⟩ ?_;intro n o r ⟨p1,p2,p3,p4,p5⟩ ih;rcases n with _|n
  ·rw[List.drop_zero,List.drop_zero]at p5
   have hq:X/Y=val o/\X%Y=r:=by
    rw[<-v1,<-p5];have e1:(val o*Y+r)/Y=val o:=by
     rw[Nat.mul_comm,Nat.mul_add_div (by omega),Nat.div_eq_of_lt p4,Nat.add_zero]
    have e2:(val o*Y+r)%Y=r:=by
     rw[Nat.mul_comm,Nat.mul_add_mod,Nat.mod_eq_of_lt p4]
    exact ⟨e1,e2⟩
   rw[hq.1,hq.2,<-p2];clear ih hq p5;have oo:=E2 p3;have gi:A3 [r]:=II (by omega);have ma:=E2 gi;have Ma:val [r]=r:=by simp [val]
   have hl3:[r].length=1:=rfl;(repeat' ((first|(apply AG<;>intro hc<;>try (exfalso;omega))|(apply EJ;omega)|apply AE|refine oS N (by assumption) (by omega) rfl (by first|rfl|omega|assumption) ?_)<;>conv=>whnf))
   refine IZ (enc:=AL) (λ_=>rfl) (by omega) ?_;(conv=>whnf)
   refine IZ (enc:=AL) (l:=[r]) (λ_=>rfl) (by omega) ?_;(conv=>whnf)
   refine AY ?_ (mB _ _);rw[List.drop_zero,List.drop_zero,oI p3,oI gi,Ma]
  ·have e1:((n+1:Nat):Int)-1=n:=by omega
   rw[e1];obtain ⟨d,hd⟩ : ∃ d,x[n]? = some d:=⟨_,zE (by omega)⟩;have gl:=d1.at hd;have hYb:Y<4294967296:=Dr;have hR:r*4294967296+d<Y*4294967296:=by omega
   have vt:(r*4294967296+d)/Y<4294967296:=(Nat.div_lt_iff_lt_mul (by omega)).2 (by omega);(repeat' ((first|(apply AG<;>intro hc<;>try (exfalso;omega))|(apply A0;omega)|(apply bJ;omega)|(apply cL;omega)|(apply pG;omega;omega)|(apply CP;omega)|(apply EJ;omega)|(refine BH (by assumption) ?_ rfl ?_;omega)|apply AE)<;>conv=>whnf))
   obtain ⟨t,ht⟩ : ∃ t,t=r*4294967296+d:=⟨_,rfl⟩;rw[<-ht]at hR vt ⊢;have hm:t%Y<Y:=Nat.mod_lt _ (by omega);have o9:=ApZ p5 ht;rw[<-HT hd]at o9;clear ht;skip
   refine FH (by omega) ?_;(conv=>whnf)
   (repeat' ((first|(apply CB;omega)|(apply lL;omega)|(apply CP;omega)|(refine BH (by assumption) ?_ rfl ?_;omega))<;>conv=>whnf))
   generalize t/Y=tq at *;generalize t%Y=tr at *;refine B3 [] (by (conv=>whnf);exact ⟨rfl,rfl,rfl⟩) (ih n _ _ (by omega) ⟨by omega,by simpa using p2,p3.set _ (by omega),hm,?_⟩);rw[HT (l:=o.set n tq) (d:=tq) (by rw[List.getElem?_set_self (by omega)]),List.drop_set_of_lt (by omega)];exact o9
 ·-- two digits or more
  have Ls:2<=(dg Y).length:=by omega
  obtain ⟨yt,Cd,Ce⟩:=vW hY;have zz:=d2.at Cd;obtain ⟨b1,b2,b3,b4⟩:=zA Ce zz;have Iz:=Yv N yt zz;generalize hs:32-aw yt=s at *;have ix:s<=31:=by omega
  generalize dg Y=y at *;generalize hx:dg X=x at *;have e1:((y.length:Int)-1).toNat=y.length-1:=by omega
  rw[<-e1]at Cd;obtain ⟨rv,hrv,v,hV,ow,Ss⟩:=AlY N y q2 s y.length d2 ix (by omega) (by omega);subst Ss;(repeat' ((first|(apply AG<;>intro hc<;>try (exfalso;omega))|(apply AX;omega)|(apply CB;omega)|apply AU|apply AE|refine AD (u6 _ _) ?_)<;>conv=>whnf))
  refine EK (enc:=AL) 0 (x.length-y.length+1) rfl (by omega) (by omega) ?_;(conv=>whnf)
  (repeat' ((first|(apply AG<;>intro hc<;>try (exfalso;omega))|(apply AX;omega)|(apply CB;omega)|(apply CP;omega)|apply AU|(refine BH (by assumption) ?_ rfl ?_;omega)|refine AD (Iz) ?_)<;>conv=>whnf))
  refine FY 1000 N.QF rfl rfl ?_;(repeat' (apply AE<;>conv=>whnf))
  refine EK (enc:=AL) 0 (x.length+1) rfl (by omega) (by omega) ?_;(conv=>whnf)
  (repeat' (apply AU<;>conv=>whnf))
  have yb:=nR (s:=s) (by omega);refine GT (λ i _ _=>x.length-i) (λ(i:Nat) (o:List Nat) (lo:Nat)=>i<=x.length/\o.length=x.length+1/\A3 o/\lo<2^s/\val (o.take i)+4294967296^i*lo=val (x.take i)*2^s) (λ i o lo=>[(8,.int .u32 (lo:Int)),(15,.int .i64 i)]) (λ i o lo=>[(71012,71012,.rw 1 (o.map AL))]) [] [] 0 (List.replicate (x.length+1) 0) 0 (by (conv=>whnf);exact ⟨rfl,rfl,rfl⟩) ⟨by omega,by simp,ON _,Nat.two_pow_pos s,by simp [val]⟩ ?_;intro i o lo ⟨p1,p2,p3,p4,p5⟩ ih;by_cases hi:i<x.length
  ·obtain ⟨d,hd⟩ : ∃ d,x[i]? = some d:=⟨_,zE hi⟩
   have gl:=d1.at hd;obtain ⟨f1,f2,f3,f4⟩:=iN (s:=s) gl (by omega);(repeat' ((first|(apply AG<;>intro hc<;>try (exfalso;omega))|(refine BH (by assumption) ?_ rfl ?_;omega)|apply AE)<;>conv=>whnf))
   refine Xg (by omega) ?_;(conv=>whnf)
   skip
   refine uH s f1 p4 (by omega) ?_;(conv=>whnf)
   (repeat' ((first|(apply A0;omega)|fail)<;>conv=>whnf))
   refine FH (by omega) ?_;(conv=>whnf)
   (repeat' ((first|(apply CP;omega)|fail)<;>conv=>whnf))
   refine cN (by omega) f4 ?_;(conv=>whnf)
   (repeat' ((first|(apply AX;omega)|apply FN|(apply EJ;omega))<;>conv=>whnf))
   rw[<-iM];refine B3 [] (by (conv=>whnf);exact ⟨rfl,rfl,rfl⟩) (ih (i+1) _ _ (by omega) ⟨by omega,by simpa using p2,p3.set _ (by omega),f2,?_⟩);rw[GF (by omega),EC hd,Nat.pow_succ];exact Aer p5
  obtain rfl:i=x.length:=by omega
  clear ih;(repeat' ((first|(apply AG<;>intro hc<;>try (exfalso;omega))|(apply A0;omega)|apply AU|apply AE)<;>conv=>whnf))
  refine FH (by omega) ?_;(conv=>whnf)
  skip
  have hU:=Aeq p3 (by omega) p2 p5;have Ah:(o.set x.length lo).length=x.length+1:=by simpa using p2
  clear p3 p4 p5 p2;generalize o.set x.length lo=u at *;refine ⟨rfl,_,rfl,?_⟩;(conv=>whnf)
  (repeat' ((first|(apply CB;omega)|apply AU|refine AD (hrv) ?_)<;>conv=>whnf))
  have Uf:y[y.length-1]? = some yt:=by rw[<-e1];exact Cd
  obtain ⟨n1,n2⟩:=yV d2 Uf (by omega) ix b3 b4;have Lg:val v=Y*2^s:=by rw[<-v2];exact hV.2.2 (by rw[ow];exact n1)
  have Le:val u=X*2^s:=by
   rw[<-v1];refine hU.2.2 ?_;have h3:=FA d1;rw[Ah,Nat.pow_succ];exact Nat.lt_of_lt_of_le (Nat.mul_lt_mul_of_pos_right h3 (Nat.two_pow_pos s)) (Nat.mul_le_mul_left _ yb)
  have jx:=hV.1;have Lb:=hU.1;have Ef:=FA jx;rw[v2,<-Lg]at n2;rw[<-ow]at n2;clear hV hU u6 hrv Iz;have lk:2<=v.length:=by omega
  have hvx:v.length<=x.length:=by omega
  have zt:v.length<=549755813888:=by omega
  have hxL:x.length<=549755813888:=by omega
  have hX:X<4294967296^x.length:=by rw[<-v1];exact FA d1
  rw[<-ow];generalize hm:x.length-v.length+1=m at *;have fg:0<val v:=by
   have:=Aff (v.length-1)
   omega
  have vo:val (u.drop m)<val v:=by
   have h1:=S6 u m (by omega);rw[Le]at h1;have h2:X*2^s<4294967296^x.length*2147483648:=Nat.lt_of_lt_of_le (Nat.mul_lt_mul_of_pos_right hX (Nat.two_pow_pos s)) (Nat.mul_le_mul_left _ (Nat.pow_le_pow_right (by omega) ix));have h3:4294967296^x.length=4294967296^m*4294967296^(v.length-1):=by rw[<-Nat.pow_add];congr 1;omega
   rw[h3,Nat.mul_assoc]at h2;refine Nat.lt_of_lt_of_le ?_ n2;refine Nat.lt_of_mul_lt_mul_left (a:=4294967296^m) ?_;omega
  have e2:(x.length:Int)-v.length=((m:Nat):Int)-1:=by omega
  rw[e2];refine GT (λ n _ _=>n) (λ(n:Nat) (o w:List Nat)=>n<=m/\o.length=x.length+1/\A3 o/\w.length=m/\A3 w/\val (o.drop n)<val v/\X*2^s=val (o.take n)+4294967296^n*(val (w.drop n)*val v+val (o.drop n))) (λ n o w=>[(14,.int .i64 ((n:Int)-1))]) (λ n o w=>[(71012,71012,.rw 1 (o.map AL)),(28,28,.rw 1 (w.map AL))]) [] [] m u (List.replicate m 0) (by (conv=>whnf);exact ⟨rfl,rfl,rfl⟩) ⟨by omega,Ah,Lb,by simp,ON _,vo,by rw[<-Le,List.drop_of_length_le (show (List.replicate m 0).length<=m by simp),OB,Nat.zero_mul,Nat.zero_add];exact S6 u m (by omega)⟩ ?_;intro n o w ⟨p1,p2,p3,p4,p5,p6,p7⟩ ih;rcases n with _|j
  ·clear ih
   rw[List.drop_zero]at p6;rw[List.take_zero,List.drop_zero,List.drop_zero,OB,Nat.zero_add,Nat.pow_zero,Nat.one_mul]at p7;have ua:val o=val (o.take v.length):=by
    have h1:=iT o v.length;rcases Nat.eq_zero_or_pos (val (o.drop v.length)) with h2|h2
    ·rw[h2,Nat.mul_zero,Nat.add_zero]at h1;exact h1
    ·have h3:4294967296^v.length*1<=4294967296^v.length*val (o.drop v.length):=Nat.mul_le_mul_left _ h2
     omega
   have Bf:X/Y=val w/\X%Y=val o/2^s:=by
    obtain ⟨z1,z2⟩:=Zs (X:=X) (Y:=Y) (Nat.two_pow_pos s);rw[<-z1,<-z2,<-Lg,p7];have e1:(val w*val v+val o)/val v=val w:=by
     rw[Nat.mul_comm,Nat.mul_add_div fg,Nat.div_eq_of_lt p6,Nat.add_zero]
    have e2:(val w*val v+val o)%val v=val o:=by
     rw[Nat.mul_comm,Nat.mul_add_mod,Nat.mod_eq_of_lt p6]
    rw[e1,e2];exact ⟨rfl,rfl⟩
   rw[Bf.1,Bf.2];have oo:=E2 p5;obtain ⟨ro,Jv,o2,k1,k2,k3,k4⟩:=AlZ N (o.take v.length) true s (p3.take _) ix (by rw[List.length_take];omega);subst k4;rw[ua,<-k3];have ma:=E2 k1;rw[List.length_take]at k2;clear p7 Bf vo;(repeat' ((first|(apply AG<;>intro hc<;>try (exfalso;omega))|apply AE|refine oS N (by assumption) (by omega) rfl (by first|rfl|omega|assumption) ?_)<;>conv=>whnf))
   refine HU v.length rfl (by omega) ?_;(conv=>whnf)
   refine IZ (enc:=AL) (λ_=>rfl) (by omega) ?_;(conv=>whnf)
   rw[List.drop_zero,Nat.sub_zero];(repeat' ((first|refine AD (Jv) ?_|refine TS (XB N o2 _ k1 (by omega)) ?_)<;>conv=>whnf))
   refine IZ (enc:=AL) (λ_=>rfl) (by omega) ?_;(conv=>whnf)
   refine AY ?_ (mB _ _);rw[List.drop_zero,oI p5]
  ·have e3:((j+1:Nat):Int)-1=j:=by omega
   rw[e3];have e4:(v.length:Int).toNat=v.length:=by omega
   obtain ⟨A,W,C,hA,hW,rfl⟩:=Yk o j (v.length+1) (by omega);obtain ⟨g1,g2,g3⟩:=Ym hA hW p3 p6 Ef;obtain ⟨D1,D2,D3⟩:=Zp p3;have yc:val W/val v<4294967296:=(Nat.div_lt_iff_lt_mul fg).2 g2;have Qi:val W=val W/val v*val v+val W%val v:=by rw[Nat.mul_comm];exact (Nat.div_add_mod _ _).symm
   have Eg:val W%val v<val v:=Nat.mod_lt _ fg;have Ed:X*2^s=val A+4294967296^j*val W+4294967296^j*4294967296*(val (w.drop (j+1))*val v):=by
    rw[p7,Nat.mul_add,<-g3,Nat.pow_succ];omega
   have vf:=Yl Ed Qi;have ue : ∀ q',q'=val W/val v->val ((w.set j q').drop j)=val W/val v+4294967296*val (w.drop (j+1)):=λ q' h=>by
    rw[HT (l:=w.set j q') (d:=q') (by rw[List.getElem?_set_self (by omega)]),List.drop_set_of_lt (by omega),h]
   have hlen : ∀ W':List Nat,W'.length=v.length+1->(A++W'++C).length=x.length+1:=λ W' h=>by
    rw[<-p2];simp [h,hW]
   (repeat' ((first|(apply AG<;>intro hc<;>try (exfalso;omega))|(apply AX;omega)|(apply cH;omega)|apply AE)<;>conv=>whnf))
   rw[show ((j:Int)+v.length+1).toNat-(j:Int).toNat=v.length+1 by omega,show 0+(j:Int).toNat=j by omega];refine AjS N hA hW D2 jx lk zt fg n2 g2 (λ W' o' q' z1 z2 z3 z4 => ?_) (λ W' o' q' z1 z2 z3 z4 => ?_)
   ·(conv=>whnf)
    (repeat' ((first|(apply A0;omega)|fail)<;>conv=>whnf))
    refine FH (by omega) ?_;(conv=>whnf)
    (repeat' ((first|(apply CB;omega)|fail)<;>conv=>whnf))
    obtain ⟨t1,t2⟩:=wJ (A:=A) (W:=W') (C:=C) (j:=j) hA g1;refine B3 [] (by (conv=>whnf);exact ⟨rfl,rfl,rfl⟩) (ih j (A++W'++C) (w.set j q') (by omega) ⟨by omega,hlen W' z1,(D1.append z2).append D3,by simpa using p4,p5.set _ (by omega),by omega,?_⟩);rw[t1,t2,ue q' z4,z3];exact vf
   ·(conv=>whnf)
    (repeat' ((first|(apply A0;omega)|fail)<;>conv=>whnf))
    refine FH (by omega) ?_;(conv=>whnf)
    (repeat' ((first|(apply CB;omega)|fail)<;>conv=>whnf))
    obtain ⟨t1,t2⟩:=wJ (A:=A) (W:=W') (C:=C) (j:=j) hA g1;refine B3 [] (by (conv=>whnf);exact ⟨rfl,rfl,rfl⟩) (ih j (A++W'++C) (w.set j q') (by omega) ⟨by omega,hlen W' z1,(D1.append z2).append D3,by simpa using p4,p5.set _ (by omega),by omega,?_⟩);rw[t1,t2,ue q' z4,z3];exact vf
end Go.e9
