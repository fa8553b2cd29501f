/-
  The references of natural numbers (ref01): division.
-/
import Derived.Test.YtplhdlbnneoobaaGreatB8
import Derived.Test.YtplhdlbnneoobaaGreatB7
import Derived.Test.YtplhdlbnneoobaaGreatB4
set_option linter.unusedSimpArgs false
set_option linter.unusedVariables false
set_option linter.unnecessarySimpa false
namespace Go.c4
open F
attribute [local irreducible] AA AF AU AC B6 AQ AX A9 A4 BS AP BR B0 C2 BN A0 BK B2 AB A5 AJ pw CG B4 CM CZ CU CP CN BJ B9
set_option maxHeartbeats 4000000
variable {L:Lib}
theorem Sb {V R y d t Q:Nat} (h:Q*y+R=V) (ht:t=R*4294967296+d):(t/y+4294967296*Q)*y+t%y=d+4294967296*V:=by
 have:=Nat.div_add_mod t y
 rw[<-h,Nat.add_mul];have e:t/y*y=y*(t/y):=Nat.mul_comm _ _;grind
theorem zX (N:a8 L) (x:List Nat) (Y:Nat) (q:Bool) (d1:AZ x) (hx:x.length<=549755813888) (h0:Y≠0) (hY:Y<4294967296):Ev L 108 [.sl q (x.map AL),.int .u32 (Y:Int)] (.j5 [.sl false ((dg (val x/Y)).map AL),.int .u32 ((val x%Y:Nat):Int)]):=by
 refine Ev.x N.LH rfl rfl ?_;(repeat' ((first|apply AR|apply AE)<;>conv=>whnf))
 refine ET (enc:=AL) 0 x.length rfl (by omega) (by omega) ?_;(conv=>whnf)
 (repeat' ((first|(apply B1;omega)|apply AR)<;>conv=>whnf))
 refine FW (λ n _ _=>n) (λ(n:Nat) (o:List Nat) (r:Nat)=>n<=x.length/\o.length=x.length/\AZ o/\r<Y/\val (o.drop n)*Y+r=val (x.drop n)) (λ n o r=>[(7,.int .u64 (r:Int)),(8,.int .i64 ((n:Int)-1))]) (λ n o r=>[(11,11,.rw 1 (o.map AL))]) [] [] x.length (List.replicate x.length 0) 0 (by (conv=>whnf);exact ⟨rfl,rfl,rfl⟩) ⟨by omega,by simp,H4 _,by omega,by rw[List.drop_of_length_le (Nat.le_refl _),List.drop_of_length_le (by simp)];simp [val]⟩ ?_;intro n o r ⟨p1,p2,p3,p4,p5⟩ ih;rcases n with _|n
 ·rw[List.drop_zero,List.drop_zero]at p5
  have hq:val x/Y=val o/\val x%Y=r:=by
   rw[<-p5];have e1:(val o*Y+r)/Y=val o:=by
    rw[Nat.mul_comm,Nat.mul_add_div (by omega),Nat.div_eq_of_lt p4,Nat.add_zero]
   have e2:(val o*Y+r)%Y=r:=by
    rw[Nat.mul_comm,Nat.mul_add_mod,Nat.mod_eq_of_lt p4]
   exact ⟨e1,e2⟩
  have hT:=λ q=>FK N o q p3 (by omega)
  rw[hq.1,hq.2,<-p2];clear ih hq p5;(repeat' ((first|(apply AG<;>intro hc<;>try (exfalso;omega))|(apply D4;omega)|(refine DE (λ_=>rfl) rfl ?_ ?_;(first|rfl|simp))|apply AE|refine AD (hT _) ?_)<;>conv=>whnf))
  refine AW rfl ?_;simp only[A1,CQ,and_true,true_and];exact CT _
 ·have e1:((n+1:Nat):Int)-1=n:=by omega
  rw[e1];obtain ⟨d,hd⟩ : ∃ d,x[n]? = some d:=⟨_,zE (by omega)⟩;have v5:=d1.at hd;have hR:r*4294967296+d<Y*4294967296:=by omega
  have rj:(r*4294967296+d)/Y<4294967296:=(Nat.div_lt_iff_lt_mul (by omega)).2 (by omega);(repeat' ((first|(apply AG<;>intro hc<;>try (exfalso;omega))|(apply BA;omega)|(apply MM;omega)|(apply NC;omega)|(apply UB;omega;omega)|(apply CB;omega)|(apply D4;omega)|(refine BG (by assumption) ?_ rfl ?_;omega)|apply AE)<;>conv=>whnf))
  obtain ⟨t,ht⟩ : ∃ t,t=r*4294967296+d:=⟨_,rfl⟩;rw[<-ht]at hR rj ⊢;have hm:t%Y<Y:=Nat.mod_lt _ (by omega);have j9:=Sb p5 ht;rw[<-GL hd]at j9;clear ht;skip
  refine EU (by omega) ?_;(conv=>whnf)
  (repeat' ((first|(apply B1;omega)|(apply RT;omega)|(apply CB;omega))<;>conv=>whnf))
  generalize t/Y=tq at *;generalize t%Y=tr at *;refine BV [] (by (conv=>whnf);exact ⟨rfl,rfl,rfl⟩) (ih n _ _ (by omega) ⟨by omega,by simpa using p2,p3.set _ (by omega),hm,?_⟩);rw[GL (l:=o.set n tq) (d:=tq) (by rw[List.getElem?_set_self (by omega)]),List.drop_set_of_lt (by omega)];exact j9
theorem UY (a b:List Nat) (e:Int):A1 (.j5 [.sl false (a.map AL),.sl false (b.map AL),.int .i64 e]):=by
 simp only[A1,CQ,and_true,true_and];exact ⟨CT a,CT b⟩
abbrev vW:List It:=[It.lp DI.l1,It.e8 0,
   It.code
    (((BC.ops DI.br false).dr [0,75,79,80] []).seq
     (((BC.ops DI.db false).dr [81,82,83,84,85] []).seq
      ((((BC.ops DI.fg false).dr [86,87,88,89,90] []).seq
         (BC.block 2 DI.l2.loop)).seq
       (((BC.ops DI.Gm true).dr [9,10,11,12,13,14,92,277,278,279,280,281,282,283,284]
          []).seq
        BC.ret))))]
abbrev U8:List It:=[It.lp DI.l2,It.e8 2,It.code
       (((BC.ops DI.Gm true).dr [9,10,11,12,13,14,92,277,278,279,280,281,282,283,284]
          []).seq
        BC.ret)]
abbrev U9 (v:List Nat) (s ul m:Nat) (j:Int):Tm:=[(14,.int .i64 j),(13,.row 85 0 1 0 m),(12,.int .i64 v.length),(11,.sl false (v.map AL)),(10,.row 69 0 1 0 ul),(9,.int .i64 (s:Int))]
abbrev vV:BC:=(((BC.ops DI.Jc false).dr [18,19,20,166,205,206,207] []).seq
                (((BC.ops DI.Jd false).dr [208,209,210,211,212,213,214] []).seq
                 ((BC.ops DI.Je false).seq
                  ((((BC.ops DI.Jf false).dr [215,216] []).seq
                     (BC.cond 217
                      (((BC.ops DI.Jg false).dr [18,217,218,219] []).seq
                       (BC.ops DI.Jh false))
                      BC.skip)).seq
                   (((BC.ops DI.Ji false).dr
                      [23,24,217,220,221,222,223,224,225,226,227,228] []).seq
                    ((((BC.ops DI.Jj false).dr [18,229] []).seq
                       (BC.cond 230
                        (((BC.ops DI.Jk false).dr [230,231,232] []).seq
                         ((BC.ops DI.Jl false).seq
                          (((BC.ops DI.Jm false).seq
                             (BC.block 8 DI.l5.loop)).seq
                           ((BC.ops DI.Jn false).dr
                            [25,26,235,262,263,264,265,266,267,268,269,270,271]
                            []))))
                        BC.skip)).seq
                     ((BC.ops DI.Jo false).dr [16,230,272,273,274,275,276]
                      [])))))))
abbrev vX:List It:=It.lp DI.l4::It.e8 6::It.code vV::It.e8 3::It.code ((BC.ops DI.fw false).dr [93,94] [])::U8
section
variable {A W C w y:List Nat} {j m s ul q:Nat} {Q:Tm->Mem->Prop}
theorem QF {e i n:Nat} (hi:i=A.length+n) (he:W[n]? = some e):(A++W++C)[i]? = some e:=by
 rw[pH hi (zS he).1];exact he
theorem X6 (hA:A.length=j) (hW:W.length=y.length+1) (D2:AZ W) (bu:AZ y) (cq:2<=y.length) (pq:y.length<=549755813888) (v8:0<val y) (bp:j<=1099511627776)
  (er:ul=j+(y.length+1)+C.length) (Cn:w.length=m) (Cb:j<m)
  (r1:q<4294967296) (r2:val W/val y<=q) (r3:q<=val W/val y+1)
  (hk : ∀ (W':List Nat) (q':Nat),W'.length=y.length+1->AZ W'->val W'=val W%val y->q'=val W/val y->AA L U8 (U9 y s ul m ((j:Int)-1)) [(69,101021,.rw 1 ((A++W'++C).map AL)),(85,85,.rw 1 ((w.set j q').map AL))] Q) :
  AA L vX ([(20,.int .i64 0),(19,.int .u64 0),(18,.int .u64 0),(16,.int .u64 (q:Int))]++U9 y s ul m (j:Int)) [(69,101021,.rw 1 ((A++W++C).map AL)),(85,85,.rw 1 (w.map AL))] Q:=by
 refine WZ (λ i _ _ _=>y.length-i) (λ(i:Nat) (Z:List Nat) (c b:Nat)=>i<=y.length/\Z.length=y.length+1/\AZ Z/\c<4294967296/\b<=1/\Z.drop i=W.drop i/\val (Z.take i)+q*val (y.take i)=val (W.take i)+4294967296^i*(c+b)) (λ i Z c b=>[(20,.int .i64 i),(18,.int .u64 (b:Int)),(19,.int .u64 (c:Int))]) (λ i Z c b=>[(69,101021,.rw 1 ((A++Z++C).map AL))]) [] [] 0 W 0 0 (by (conv=>whnf);exact ⟨rfl,rfl,rfl⟩) ⟨by omega,hW,D2,by omega,by omega,rfl,by simp [val]⟩ ?_;intro i Z c b ⟨p1,p2,p3,p4,p5,p6,p7⟩ ih;by_cases hi:i<y.length
 ·obtain ⟨d,hd⟩ : ∃ d,y[i]? = some d:=⟨_,zE hi⟩
  obtain ⟨u,hu⟩ : ∃ u,Z[i]? = some u:=⟨_,zE (by omega)⟩;have v5:=bu.at hd;have mo:=p3.at hu;have Cg:(A++Z++C)[((i:Int)+(j:Int)).toNat]? = some u:=QF (by omega) hu;obtain ⟨pr,nh⟩ : ∃ pr,pr=c+q*d:=⟨_,rfl⟩;obtain ⟨m1,m2,m3⟩:=lR r1 v5 p4 (show pr=q*d+c by omega);have rb:W[i]? = some u:=by
   have e1:(Z.drop i)[0]? = (W.drop i)[0]? := by rw[p6]
   simpa [hu] using e1.symm
  have jv : ∀ w,(Z.set i w).drop (i+1)=W.drop (i+1):=λ w=>by
   rw[List.drop_set_of_lt (by omega)];have e1:(Z.drop i).drop 1=(W.drop i).drop 1:=by rw[p6]
   simpa using e1
  have j9 : ∀ have' take w y8,take=pr%4294967296+b->((have'=u/\y8=0/\take<=u)\/(have'=u+4294967296/\y8=1/\u<take))->w+take=have'->val ((Z.set i w).take (i+1))+q*val (y.take (i+1))=val (W.take (i+1))+4294967296^(i+1)*(pr/4294967296+y8):=λ have' take w y8 a1 a2 a3=>by
   rw[FG (by omega),DQ hd,DQ rb,Nat.pow_succ];exact Mk p7 nh a1 a2 a3
  by_cases l6:u<pr%4294967296+b
  ·have h3:=j9 (u+4294967296) (pr%4294967296+b) (u+4294967296-(pr%4294967296+b)) 1 rfl (Or.inr ⟨rfl,rfl,l6⟩) (by omega)
   (repeat' ((first|(apply AG<;>intro hc<;>try (exfalso;omega))|(apply BA;omega)|(apply AY;omega)|(apply FI;omega)|(apply NB;omega)|(apply dC;omega)|(apply H0;omega;omega)|apply EW|(apply T9;omega)|(apply CB;omega)|(apply D4;omega)|(refine BG (by assumption) ?_ rfl ?_;omega)|refine IE (by assumption) ?_|apply AE)<;>conv=>whnf))
   rw[<-nh];skip
   refine MN i (by omega) (by omega) ?_;(conv=>whnf)
   (repeat' ((first|(apply AY;omega)|fail)<;>conv=>whnf))
   exact BV [] (by (conv=>whnf);exact ⟨rfl,rfl,rfl⟩) (ih (i+1) (Z.set i (u+4294967296-(pr%4294967296+b))) (pr/4294967296) 1 (by omega) ⟨by omega,by simpa using p2,p3.set _ (by omega),m1,by omega,jv _,h3⟩)
  ·have h3:=j9 u (pr%4294967296+b) (u-(pr%4294967296+b)) 0 rfl (Or.inl ⟨rfl,rfl,by omega⟩) (by omega)
   (repeat' ((first|(apply AG<;>intro hc<;>try (exfalso;omega))|(apply BA;omega)|(apply AY;omega)|(apply FI;omega)|(apply NB;omega)|(apply dC;omega)|(apply H0;omega;omega)|apply EW|(apply CB;omega)|(apply D4;omega)|(refine BG (by assumption) ?_ rfl ?_;omega)|refine IE (by assumption) ?_|apply AE)<;>conv=>whnf))
   rw[<-nh];skip
   refine MN i (by omega) (by omega) ?_;(conv=>whnf)
   (repeat' ((first|(apply AY;omega)|fail)<;>conv=>whnf))
   exact BV [] (by (conv=>whnf);exact ⟨rfl,rfl,rfl⟩) (ih (i+1) (Z.set i (u-(pr%4294967296+b))) (pr/4294967296) 0 (by omega) ⟨by omega,by simpa using p2,p3.set _ (by omega),m1,by omega,jv _,h3⟩)
 ·obtain rfl:i=y.length:=by omega
  clear ih;obtain ⟨u,hu⟩ : ∃ u,Z[y.length]? = some u:=⟨_,zE (by omega)⟩;have mo:=p3.at hu;have Cg:(A++Z++C)[((j:Int)+(y.length:Int)).toNat]? = some u:=QF (by omega) hu;have rb:W[y.length]? = some u:=by
   have e1:(Z.drop y.length)[0]? = (W.drop y.length)[0]? := by rw[p6]
   simpa [hu] using e1.symm
  rw[C1 (Nat.le_refl y.length)]at p7;have eW:val W=val (W.take y.length)+4294967296^y.length*u:=by
   rw[<-DQ rb,C1 (by omega)]
  have j9 : ∀ have' take w y8,take=c+b->((have'=u/\y8=0/\take<=u)\/(have'=u+4294967296/\y8=1/\u<take))->w+take=have'->val (Z.set y.length w)+q*val y=val W+4294967296^y.length*4294967296*y8:=λ have' take w y8 a1 a2 a3=>by
   have h1:=Mi p7 a1 a2 a3;rw[<-eW,<-FG (show y.length<Z.length by omega),C1 (by simp;omega)]at h1;exact h1
  by_cases l6:u<c+b
  ·have h3:=j9 (u+4294967296) (c+b) (u+4294967296-(c+b)) 1 rfl (Or.inr ⟨rfl,rfl,l6⟩) (by omega)
   have yw:AZ (Z.set y.length (u+4294967296-(c+b))):=p3.set _ (by omega);have oe:(Z.set y.length (u+4294967296-(c+b))).length=y.length+1:=by simpa using p2
   rw[Nat.mul_one]at h3;have wq:=EL yw;rw[oe,Nat.pow_succ]at wq;obtain ⟨y1,y2,y3⟩:=gC v8 r3 wq h3;(repeat' ((first|(apply AG<;>intro hc<;>try (exfalso;omega))|(apply BA;omega)|(apply AY;omega)|(apply FI;omega)|(apply H0;omega;omega)|(apply T9;omega)|(apply CB;omega)|(apply D4;omega)|refine IE (by assumption) ?_|apply AE)<;>conv=>whnf))
   refine MN y.length (by omega) (by omega) ?_;(conv=>whnf)
   (repeat' ((first|(apply AG<;>intro hc<;>try (exfalso;omega))|(apply H0;omega;omega))<;>conv=>whnf))
   clear p7 p6 eW hu rb mo Cg p2 p3 j9;generalize Z.set y.length (u+4294967296-(c+b))=X at *;have Tu:val W%val y<val y:=Nat.mod_lt _ v8;have uj:=EL bu;obtain ⟨xw,vq⟩ : ∃ xw,X[y.length]? = some xw:=⟨_,zE (by omega)⟩;have eX:val X=val (X.take y.length)+4294967296^y.length*xw:=by
    rw[<-DQ vq,C1 (by omega)]
   have qk:q-1<4294967296:=by omega
   refine FW (λ i _ _=>y.length-i) (λ(i:Nat) (Z:List Nat) (c:Nat)=>i<=y.length/\Z.length=y.length+1/\AZ Z/\c<=1/\Z.drop i=X.drop i/\val (Z.take i)+4294967296^i*c=val (X.take i)+val (y.take i)) (λ i Z c=>[(26,.int .i64 i),(25,.int .u64 (c:Int))]) (λ i Z c=>[(69,101021,.rw 1 ((A++Z++C).map AL))]) [] [] 0 X 0 (by (conv=>whnf);exact ⟨rfl,rfl,rfl⟩) ⟨by omega,oe,yw,by omega,rfl,by simp [val]⟩ ?_;intro i Z c ⟨p1,p2,p3,p4,p6,p7⟩ ih;by_cases hi:i<y.length
   ·obtain ⟨d,hd⟩ : ∃ d,y[i]? = some d:=⟨_,zE hi⟩
    obtain ⟨u,hu⟩ : ∃ u,Z[i]? = some u:=⟨_,zE (by omega)⟩;have v5:=bu.at hd;have mo:=p3.at hu;have Cg:(A++Z++C)[((i:Int)+(j:Int)).toNat]? = some u:=QF (by omega) hu;have gl:X[i]? = some u:=by
     have e1:(Z.drop i)[0]? = (X.drop i)[0]? := by rw[p6]
     simpa [hu] using e1.symm
    have wv:=dP (d:=d) (w:=u) (t:=c+(u+d)) p7 (by omega);(repeat' ((first|(apply AG<;>intro hc<;>try (exfalso;omega))|(apply BA;omega)|(apply AY;omega)|(apply FI;omega)|(apply CB;omega)|apply E8|(refine BG (by assumption) ?_ rfl ?_;omega)|refine IE (by assumption) ?_|apply AE)<;>conv=>whnf))
    generalize Wj:c+(u+d)=t2 at *;refine MN i (by omega) (by omega) ?_;(conv=>whnf)
    (repeat' ((first|(apply AY;omega)|apply EW)<;>conv=>whnf))
    refine BV [] (by (conv=>whnf);exact ⟨rfl,rfl,rfl⟩) (ih (i+1) (Z.set i (t2%4294967296)) (t2/4294967296) (by omega) ⟨by omega,by simpa using p2,p3.set _ (by omega),by omega,?_,?_⟩)
    ·rw[List.drop_set_of_lt (by omega)]
     have e1:(Z.drop i).drop 1=(X.drop i).drop 1:=by rw[p6]
     simpa using e1
    ·rw[FG (by omega),DQ hd,DQ gl,Nat.pow_succ]
     exact wv
   ·obtain rfl:i=y.length:=by omega
    clear ih;obtain ⟨u,hu⟩ : ∃ u,Z[y.length]? = some u:=⟨_,zE (by omega)⟩;have mo:=p3.at hu;have Cg:(A++Z++C)[((j:Int)+(y.length:Int)).toNat]? = some u:=QF (by omega) hu;have gl:X[y.length]? = some u:=by
     have e1:(Z.drop y.length)[0]? = (X.drop y.length)[0]? := by rw[p6]
     simpa [hu] using e1.symm
    rw[gl]at vq;obtain rfl:u=xw:=by simpa using vq
    rw[C1 (Nat.le_refl y.length)]at p7;have yx:=EL (p3.take y.length);rw[List.length_take,Nat.min_eq_left (by omega)]at yx;rw[eX]at y3;have jx:=dO p7 y3 (by omega) yx;rw[<-FG (show y.length<Z.length by omega),C1 (by simp;omega)]at jx;(repeat' ((first|(apply AG<;>intro hc<;>try (exfalso;omega))|(apply BA;omega)|(apply AY;omega)|apply dB|(apply D4;omega)|refine IE (by assumption) ?_|apply AE)<;>conv=>whnf))
    refine MN y.length (by omega) (by omega) ?_;(conv=>whnf)
    (repeat' ((first|(apply BA;omega)|(apply D4;omega))<;>conv=>whnf))
    refine EU (by omega) ?_;(conv=>whnf)
    (repeat' ((first|(apply B1;omega)|fail)<;>conv=>whnf))
    exact BV [] (by (conv=>whnf);exact ⟨rfl,rfl,rfl⟩) (hk _ _ (by simpa using p2) (p3.set _ (by omega)) jx y1)
  ·have h3:=j9 u (c+b) (u-(c+b)) 0 rfl (Or.inl ⟨rfl,rfl,by omega⟩) (by omega)
   rw[Nat.mul_zero,Nat.add_zero]at h3;obtain ⟨y1,y2⟩:=gD v8 r2 h3;(repeat' ((first|(apply AG<;>intro hc<;>try (exfalso;omega))|(apply BA;omega)|(apply AY;omega)|(apply FI;omega)|(apply H0;omega;omega)|(apply CB;omega)|(apply D4;omega)|refine IE (by assumption) ?_|apply AE)<;>conv=>whnf))
   refine MN y.length (by omega) (by omega) ?_;(conv=>whnf)
   (repeat' ((first|(apply AG<;>intro hc<;>try (exfalso;omega))|(apply BA;omega)|(apply D4;omega))<;>conv=>whnf))
   refine EU (by omega) ?_;(conv=>whnf)
   (repeat' ((first|(apply B1;omega)|fail)<;>conv=>whnf))
   exact BV [] (by (conv=>whnf);exact ⟨rfl,rfl,rfl⟩) (hk _ _ (by simpa using p2) (p3.set _ (by omega)) y2 y1)
theorem vY (hA:A.length=j) (hW:W.length=y.length+1) (D2:AZ W) (bu:AZ y) (cq:2<=y.length) (pq:y.length<=549755813888) (v8:0<val y) (bp:j<=1099511627776)
  (n2:4294967296^(y.length-1)*2147483648<=val y) (g2:val W<4294967296*val y) (er:ul=j+(y.length+1)+C.length) (Cn:w.length=m) (Cb:j<m)
  (hk : ∀ (W':List Nat) (q':Nat),W'.length=y.length+1->AZ W'->val W'=val W%val y->q'=val W/val y->AA L U8 (U9 y s ul m ((j:Int)-1)) [(69,101021,.rw 1 ((A++W'++C).map AL)),(85,85,.rw 1 ((w.set j q').map AL))] Q) :
  AA L (.code DI.l2::U8) (U9 y s ul m (j:Int)) [(69,101021,.rw 1 ((A++W++C).map AL)),(85,85,.rw 1 (w.map AL))] Q:=by
 obtain ⟨UL,a1,a2⟩:=WU D2 (n:=y.length+1) (by omega) (by omega);obtain ⟨VL,b5,b6⟩:=pA bu (n:=y.length) cq (by omega);obtain ⟨u0,w0⟩ : ∃ d,W[y.length]? = some d:=⟨_,zE (by omega)⟩;obtain ⟨u1,w1⟩ : ∃ d,W[y.length-1]? = some d:=⟨_,zE (by omega)⟩;obtain ⟨u2,w2⟩ : ∃ d,W[y.length-2]? = some d:=⟨_,zE (by omega)⟩;obtain ⟨f1,x1⟩ : ∃ d,y[y.length-1]? = some d:=⟨_,zE (by omega)⟩;obtain ⟨f2,x2⟩ : ∃ d,y[y.length-2]? = some d:=⟨_,zE (by omega)⟩;rw[show y.length+1-3=y.length-2 by omega,show y.length+1-2=y.length-1 by omega,show y.length+1-1=y.length by omega,FZ w0,FZ w1,FZ w2]at a2;rw[show y.length+1-3=y.length-2 by omega]at a1;rw[FZ x1,FZ x2]at b6;have oo:=oV bu (k:=y.length-1) (by omega) n2 x1;have k0:=D2.at w0;have k1:=D2.at w1;have k2:=D2.at w2;have k3:=bu.at x1;have k4:=bu.at x2;have z1:y[((y.length:Int)-1).toNat]? = some f1:=by rw[show ((y.length:Int)-1).toNat=y.length-1 by omega];exact x1
 have z2:y[((y.length:Int)-2).toNat]? = some f2:=by rw[show ((y.length:Int)-2).toNat=y.length-2 by omega];exact x2
 have ik:(A++W++C)[((j:Int)+(y.length:Int)).toNat]? = some u0:=QF (by omega) w0;(repeat' ((first|(apply AG<;>intro hc<;>try (exfalso;omega))|(apply BA;omega)|(apply AY;omega)|(apply B1;omega)|(apply MM;omega)|(apply CB;omega)|refine IE (by assumption) ?_|apply AE)<;>conv=>whnf))
 have bh:(A++W++C)[((j:Int)+(y.length:Int)-1).toNat]? = some u1:=QF (by omega) w1;refine rB bh ?_;(conv=>whnf)
 refine cU (by omega) ?_;(conv=>whnf)
 refine NC (by omega) ?_;(conv=>whnf)
 clear ik bh;have ah:(A++W++C)[((j:Int)+(y.length:Int)-2).toNat]? = some u2:=QF (by omega) w2;generalize Fw:u0*4294967296+u1=top at *;have Fu:top<=18446744073709551615:=by omega
 have hU:val W=UL+4294967296^(y.length-2)*(u2+4294967296*top):=by rw[a2,show u1+4294967296*u0=top by omega]
 (repeat' ((first|(apply B1;omega)|(apply RT;omega)|(apply UB;omega;omega)|(apply CB;omega)|(refine BG (by assumption) ?_ rfl ?_;omega))<;>conv=>whnf))
 refine FV (λ q _=>q) (λ(q r:Nat)=>Gs (val W) (val y) f1 f2 u2 top q r) (λ q r=>[(16,.int .u64 (q:Int)),(17,.int .u64 (r:Int))]) (λ_ _=>[]) [] [] (top/f1) (top%f1) (by (conv=>whnf);exact ⟨rfl,rfl,rfl⟩) (Gs.start hU b6 a1 k2 v8 (by omega) k3) ?_;intro q r g jg;have Wb:q<=top:=by
  have h3:=g.hq;have h4:q*1<=q*f1:=Nat.mul_le_mul_left q (by omega);omega
 have hr:=g.hr;have ig:=g.ge;by_cases hb:4294967296<=q
 ·obtain ⟨y1,y2,y3⟩:=g.next hU b6 a1 v8 g2 (Or.inl hb)
  (repeat' ((first|(apply AG<;>intro hc<;>try (exfalso;omega))|(apply B1;omega)|(apply FI;omega)|(apply H0;omega;omega)|(apply CB;omega)|(refine BG (by assumption) ?_ rfl ?_;omega)|apply AE)<;>conv=>whnf))
  ·obtain ⟨t1,t2⟩:=Q2 hU b6 b5 oo k4 g2 y2 (Or.inr (by omega))
   exact BV [] (by (conv=>whnf);exact ⟨rfl,rfl,rfl⟩) (X6 (w:=w) (C:=C) hA hW D2 bu cq pq v8 bp er Cn Cb t1 y3 t2 hk)
  ·exact BV [] (by (conv=>whnf);exact ⟨rfl,rfl,rfl⟩) (jg (q-1) (r+f1) (by omega) ⟨y2,by omega,y3⟩)
 ·have Vp:=Q8 (show q<4294967296 by omega) k4
  by_cases o7:r*4294967296+u2<q*f2
  ·obtain ⟨y1,y2,y3⟩:=g.next hU b6 a1 v8 g2 (Or.inr o7)
   (repeat' ((first|(apply AG<;>intro hc<;>try (exfalso;omega))|(apply BA;omega)|(apply AY;omega)|(apply B1;omega)|(apply FI;omega)|(apply NB;omega)|(apply MM;omega)|(apply NC;omega)|(apply H0;omega;omega)|(apply CB;omega)|(refine BG (by assumption) ?_ rfl ?_;omega)|refine IE (by assumption) ?_|apply AE)<;>conv=>whnf))
   ·obtain ⟨t1,t2⟩:=Q2 hU b6 b5 oo k4 g2 y2 (Or.inr (by omega))
    exact BV [] (by (conv=>whnf);exact ⟨rfl,rfl,rfl⟩) (X6 (w:=w) (C:=C) hA hW D2 bu cq pq v8 bp er Cn Cb t1 y3 t2 hk)
   ·exact BV [] (by (conv=>whnf);exact ⟨rfl,rfl,rfl⟩) (jg (q-1) (r+f1) (by omega) ⟨y2,by omega,y3⟩)
  ·obtain ⟨t1,t2⟩:=Q2 hU b6 b5 oo k4 g2 g.hq (Or.inl ⟨by omega,by omega⟩)
   (repeat' ((first|(apply AG<;>intro hc<;>try (exfalso;omega))|(apply BA;omega)|(apply AY;omega)|(apply B1;omega)|(apply NB;omega)|(apply MM;omega)|(apply NC;omega)|(apply CB;omega)|(refine BG (by assumption) ?_ rfl ?_;omega)|refine IE (by assumption) ?_|apply AE)<;>conv=>whnf))
   exact BV [] (by (conv=>whnf);exact ⟨rfl,rfl,rfl⟩) (X6 (w:=w) (C:=C) hA hW D2 bu cq pq v8 bp er Cn Cb t1 ig t2 hk)
end
theorem Rj {l:List Nat} (hD:AZ l) (h:l[l.length-1]? = some 0):val l<4294967296^(l.length-1):=by
 have hl:=(zS h).1;have h1:=IY l (l.length-1) (by omega);have h2:=GL h;rw[List.drop_of_length_le (show l.length<=l.length-1+1 by omega),HX]at h2;rw[h2]at h1;simp only[Nat.mul_zero,Nat.add_zero]at h1;have h3:=EL (hD.take (l.length-1));rw[List.length_take,Nat.min_eq_left (by omega)]at h3;omega
theorem gF (N:a8 L) {X Y s:Nat} {x u y:List Nat} (hY:Y≠0) (ak:s<=31) (Bq:AZ u) (Bu:val u=X*2^s) (Ua:u[u.length-1]? = some 0) (er:x.length+1<=u.length/\u.length<=549755813888) (bu:AZ y) (Bv:val y=Y*2^s) (gv:2<=y.length/\y.length<=x.length) (n2:4294967296^(y.length-1)*2147483648<=val y) :
  AA L vW [(10,.row 69 0 1 0 u.length),(11,.sl false (y.map AL)),(9,.int .i64 (s:Int)),(0,.sl false (x.map AL))] [(69,101021,.rw 1 (u.map AL))] (OC DI (.j5 [.sl false ((dg (X/Y)).map AL),.sl false ((dg (X%Y)).map AL),.int .i64 0])):=by
 refine CK (λ(_:Nat)=>0) (λ_=>True) (λ_=>[]) (λ_=>[]) [] [] 0 (by (conv=>whnf);exact ⟨rfl,rfl,rfl⟩) trivial ?_;intro _ _ _;(repeat' ((first|(apply AG<;>intro hc<;>try (exfalso;omega))|(apply AY;omega)|(apply B1;omega)|apply AR|apply AE)<;>conv=>whnf))
 refine ET (enc:=AL) 0 (u.length-y.length) (by rfl) (by omega) (by omega) ?_;(conv=>whnf)
 (repeat' ((first|(apply B1;omega)|fail)<;>conv=>whnf))
 have v8:0<val y:=by
  have:=mR (y.length-1)
  omega
 have uk:=EL bu;generalize hm:u.length-y.length=m at *;have lj:val (u.drop m)<val y:=by
  have h1:(u.drop m).length=y.length:=by simp;omega
  have h2:=Rj (l:=u.drop m) (Bq.drop _) (by rw[h1,List.getElem?_drop,show m+(y.length-1)=u.length-1 by omega];exact Ua);rw[h1]at h2;omega
 rw[show (u.length:Int)-y.length-1=((m:Nat):Int)-1 by omega];refine FW (λ n _ _=>n) (λ(n:Nat) (o w:List Nat)=>n<=m/\o.length=u.length/\AZ o/\w.length=m/\AZ w/\val (o.drop n)<val y/\X*2^s=val (o.take n)+4294967296^n*(val (w.drop n)*val y+val (o.drop n))) (λ n o w=>[(14,.int .i64 ((n:Int)-1))]) (λ n o w=>[(69,101021,.rw 1 (o.map AL)),(85,85,.rw 1 (w.map AL))]) [] [] m u (List.replicate m 0) (by (conv=>whnf);exact ⟨rfl,rfl,rfl⟩) ⟨by omega,rfl,Bq,by simp,H4 _,lj,by rw[<-Bu,List.drop_of_length_le (show (List.replicate m 0).length<=m by simp),HX,Nat.zero_mul,Nat.zero_add];exact IY u m (by omega)⟩ ?_;intro n o w ⟨p1,p2,p3,p4,p5,p6,p7⟩ ih;rcases n with _|j
 ·clear ih
  rw[List.drop_zero]at p6;rw[List.take_zero,List.drop_zero,List.drop_zero,HX,Nat.zero_add,Nat.pow_zero,Nat.one_mul]at p7;have jv:val o=val (o.take y.length):=by
   have h1:=QD o y.length;rcases Nat.eq_zero_or_pos (val (o.drop y.length)) with h2|h2
   ·rw[h2,Nat.mul_zero,Nat.add_zero]at h1;exact h1
   ·have h3:4294967296^y.length*1<=4294967296^y.length*val (o.drop y.length):=Nat.mul_le_mul_left _ h2
    omega
  have re:X/Y=val w/\X%Y=val o/2^s:=by
   obtain ⟨z1,z2⟩:=gE (X:=X) (Y:=Y) (Nat.two_pow_pos s);rw[<-z1,<-z2,<-Bv,p7];have e1:(val w*val y+val o)/val y=val w:=by
    rw[Nat.mul_comm,Nat.mul_add_div v8,Nat.div_eq_of_lt p6,Nat.add_zero]
   have e2:(val w*val y+val o)%val y=val o:=by
    rw[Nat.mul_comm,Nat.mul_add_mod,Nat.mod_eq_of_lt p6]
   rw[e1,e2];exact ⟨rfl,rfl⟩
  rw[re.1,re.2,jv];have hT:=λ q=>FK N w q p5 (by omega)
  have im:(o.take y.length).length<=549755813888:=by rw[List.length_take];omega
  clear p7 re lj;rw[<-p4];rcases Nat.eq_zero_or_pos s with h0|h0
  ·subst h0
   have hS:=λ q=>jB N (o.take y.length) q 0 (p3.take _) im (by omega)
   rw[Nat.pow_zero,Nat.mul_one]at hS;rw[Nat.pow_zero,Nat.div_one];(repeat' ((first|(apply AG<;>intro hc<;>try (exfalso;omega))|(refine DE (λ_=>rfl) rfl ?_ ?_;(first|rfl|simp))|apply AE|refine AD (hT _) ?_)<;>conv=>whnf))
   refine GM y.length rfl (by omega) ?_;(conv=>whnf)
   refine B6.neg (by omega) ?_;(conv=>whnf)
   refine G2 (enc:=AL) (λ_=>rfl) (by omega) ?_;(conv=>whnf)
   rw[List.drop_zero,Nat.sub_zero,show -((0:Nat):Int)=((0:Nat):Int) by omega];(repeat' (refine AD (hS _) ?_<;>conv=>whnf))
   exact AW rfl (UY _ _ _)
  ·have hS:=λ q=>zW N (o.take y.length) q s (p3.take _) im (by omega)
   (repeat' ((first|(apply AG<;>intro hc<;>try (exfalso;omega))|(refine DE (λ_=>rfl) rfl ?_ ?_;(first|rfl|simp))|apply AE|refine AD (hT _) ?_)<;>conv=>whnf))
   refine GM y.length rfl (by omega) ?_;(conv=>whnf)
   refine B6.neg (by omega) ?_;(conv=>whnf)
   refine G2 (enc:=AL) (λ_=>rfl) (by omega) ?_;(conv=>whnf)
   rw[List.drop_zero,Nat.sub_zero];(repeat' (refine AD (hS _) ?_<;>conv=>whnf))
   exact AW rfl (UY _ _ _)
 ·have e3:((j+1:Nat):Int)-1=j:=by omega
  rw[e3];obtain ⟨A,W,C,hA,hW,rfl⟩:=gW o j (y.length+1) (by omega);obtain ⟨g1,g2,g3⟩:=gY hA hW p3 p6 uk;obtain ⟨D1,D2,D3⟩:=gB p3;have qk:val W/val y<4294967296:=(Nat.div_lt_iff_lt_mul v8).2 g2;have Dr:val W=val W/val y*val y+val W%val y:=by rw[Nat.mul_comm];exact (Nat.div_add_mod _ _).symm
  have um:val W%val y<val y:=Nat.mod_lt _ v8;have ui:X*2^s=val A+4294967296^j*val W+4294967296^j*4294967296*(val (w.drop (j+1))*val y):=by
   rw[p7,Nat.mul_add,<-g3,Nat.pow_succ];omega
  have ku:=gX ui Dr;have jz : ∀ q',q'=val W/val y->val ((w.set j q').drop j)=val W/val y+4294967296*val (w.drop (j+1)):=λ q' h=>by
   rw[GL (l:=w.set j q') (d:=q') (by rw[List.getElem?_set_self (by omega)]),List.drop_set_of_lt (by omega),h]
  have hlen : ∀ W':List Nat,W'.length=y.length+1->(A++W'++C).length=u.length:=λ W' h=>by
   rw[<-p2];simp [h,hW]
  have Ie:u.length=j+(y.length+1)+C.length:=by rw[<-p2];simp [hA,hW];omega
  refine BV [] (by (conv=>whnf);exact ⟨rfl,rfl,rfl⟩) (vY (m:=m) (s:=s) (ul:=u.length) (C:=C) hA hW D2 bu gv.1 (by omega) v8 (by omega) n2 g2 Ie p4 (by omega) (λ W' q' z1 z2 z3 z4 => ?_));obtain ⟨t1,t2⟩:=YE (A:=A) (W:=W') (C:=C) (j:=j) hA g1;refine BV [] (by (conv=>whnf);exact ⟨rfl,rfl,rfl⟩) (ih j (A++W'++C) (w.set j q') (by omega) ⟨by omega,hlen W' z1,(D1.append z2).append D3,by simpa using p4,p5.set _ (by omega),by omega,?_⟩);rw[t1,t2,jz q' z4,z3];exact ku
end Go.c4
namespace Go.c4
open F
attribute [local irreducible] AA AF AU AC B6 AQ AX A9 A4 BS AP BR B0 C2 BN A0 BK B2 AB A5 AJ pw CG B4 CM CZ CU CP CN BJ B9
variable {L:Lib}
set_option maxHeartbeats 8000000
theorem jA (N:a8 L) (a b:List Nat) (q1 q2:Bool) (hA:AZ a) (hB:AZ b) (la:a.length<=274877906944) (lb:b.length<=274877906944) (h0:val b≠0) :
  Ev L 109 [.sl q1 (a.map AL),.sl q2 (b.map AL)] (.j5 [.sl false ((dg (val a/val b)).map AL),.sl false ((dg (val a%val b)).map AL),.int .i64 0]):=by
 have t1:=λ q=>FK N a q hA (by omega)
 have t2:=λ q=>FK N b q hB (by omega)
 have l1:=EG hA;have l2:=EG hB;have k7:=λ q q'=>YP N (dg (val a)) (dg (val b)) q q' (DK _) (DK _) (by omega) (by omega)
 rw[BL,BL]at k7;generalize val a=X at *;generalize val b=Y at *;have d1:=DK X;have d2:=DK Y;have v1:=BL X;have v2:=BL Y;have Wu:=SF h0;refine Ev.x N.DI rfl rfl ?_;by_cases h1:(dg Y).length=1
 ·obtain ⟨y0,iu⟩ : ∃ y0,dg Y=[y0]:=List.length_eq_one_iff.1 h1
  have ka:Y=y0:=by rw[<-v2,iu];simp [val]
  subst ka;have xv:Y<4294967296:=d2 Y (by rw[iu];simp);have Wv:(dg Y)[(0:Int).toNat]? = some Y:=by rw[iu];rfl
  have Ij:=λ q=>zX N (dg X) Y q d1 (by omega) h0 xv
  rw[v1]at Ij;have ql:X%Y<4294967296:=Nat.lt_trans (Nat.mod_lt _ (by omega)) xv;have Hk:=λ q=>FK N [X%Y] q (GR ql) (by simp)
  rw[show val [X%Y]=X%Y by simp [val]]at Hk;clear iu v2;generalize dg Y=y at *;(repeat' ((first|(apply AG<;>intro hc<;>try (exfalso;omega))|apply AR|(refine BG (by assumption) ?_ rfl ?_;omega)|refine H1 rfl ?_|apply AE|refine AD (t1 _) ?_|refine AD (t2 _) ?_|refine AD (Ij _) ?_|refine AD (Hk _) ?_)<;>conv=>whnf))
  exact AW rfl (UY _ _ _)
 by_cases l6:X<Y
 ·rw[<-HJ (by omega)]at k7
  (repeat' ((first|(apply AG<;>intro hc<;>try (exfalso;omega))|apply AR|apply AE|refine AD (t1 _) ?_|refine AD (t2 _) ?_|refine AD (k7 _ _) ?_)<;>conv=>whnf))
  refine AW ?_ (UY _ _ _);rw[Nat.div_eq_of_lt l6,Nat.mod_eq_of_lt l6,EJ];rfl
 have ig:=U0 (show Y<=X by omega);generalize C0 X Y=cm at *;have Es:2<=(dg Y).length:=by omega
 obtain ⟨yt,px,rp⟩:=X4 h0;have pz:=d2.at px;obtain ⟨b1,b2,b3,b4⟩:=ZU rp pz;have sj:=λ q=>zT N yt q rp pz
 generalize hs:32-m9 yt=s at *;have ak:s<=31:=by omega
 have Fs:=λ q=>jB N (dg Y) q s d2 (by omega) (by omega)
 obtain ⟨n1,n2⟩:=ZO d2 px (by omega) ak b3 b4;rw[v2]at Fs n1 n2;have jv:(dg Y).drop ((dg Y).length-1)=[yt]:=by
  obtain ⟨hi,he⟩:=zS px;rw[List.drop_eq_getElem_cons hi,he,List.drop_of_length_le (by omega)]
 have gv:(dg (Y*2^s)).length=(dg Y).length:=by
  have a1:=MU.2 n1;have a2 : ¬ (dg (Y*2^s)).length<=(dg Y).length-1:=λ h=>by
   have:=MU.1 h
   omega
  omega
 have Ue:(dg (X*2^s)).length<=(dg X).length+1:=by
  refine MU.2 ?_;have a1:X<4294967296^(dg X).length:=MU.1 (Nat.le_refl _);rw[Nat.pow_succ];have a2:=TD (s:=s) (by omega);exact Nat.lt_of_lt_of_le (Nat.mul_lt_mul_of_pos_right a1 (Nat.two_pow_pos s)) (Nat.mul_le_mul_left _ a2)
 have oe:(dg X).length<=(dg (X*2^s)).length:=OI (Nat.le_mul_of_pos_right _ (Nat.two_pow_pos s));have qj:=OI (show Y<=X by omega);generalize hx:dg X=x at *;generalize hy:dg Y=y at *;have t3:=λ q=>FK N x q d1 (by omega)
 rw[v1,hx]at t3;(repeat' ((first|(apply AG<;>intro hc<;>try (exfalso;omega))|(apply B1;omega)|apply AR|apply AE|refine AD (t1 _) ?_|refine AD (t2 _) ?_|refine AD (k7 _ _) ?_)<;>conv=>whnf))
 rw[show (y.length:Int)-1=((y.length-1:Nat):Int) by omega];refine rS (k:=y.length-1) (λ_=>rfl) (by omega) ?_;(conv=>whnf)
 rw[jv];(repeat' ((first|(apply B1;omega)|refine AD (sj _) ?_)<;>conv=>whnf))
 rw[show (32:Int)-(m9 yt:Nat)=((s:Nat):Int) by omega];refine GZ 1000 N.HR rfl rfl ?_;have Wg:(s:Int)/32=((0:Nat):Int):=by omega
 have As:(s:Int)%32=((s:Nat):Int):=by omega
 (repeat' ((first|(apply AG<;>intro hc<;>try (exfalso;omega))|(refine O6 ?_ ?_ (λ_ => ?_) (λ_ _ => ?_);omega;omega;all_goals try (exfalso;omega))|apply AR|apply AE|refine AD (t3 _) ?_)<;>conv=>whnf))
 rw[Wg];refine ET (enc:=AL) 0 0 rfl rfl (by omega) ?_;(conv=>whnf)
 skip
 refine FW (λ i _ _=>x.length-i) (λ(i:Nat) (o:List Nat) (c:Nat)=>i<=x.length/\o.length=i/\AZ o/\c<2^s/\val o+4294967296^i*c=val (x.take i)*2^s) (λ i o c=>[(10,.int .i64 i),(9,.int .u64 (c:Int)),(8,.row 107069 0 1 0 i)]) (λ i o c=>[(107069,107069,.rw 1 (o.map AL))]) [] [] 0 [] 0 (by (conv=>whnf);exact ⟨rfl,rfl,rfl⟩) ⟨by omega,rfl,QQ,Nat.two_pow_pos _,by simp [val]⟩ ?_;intro i o c ⟨p1,p2,p3,p4,p5⟩ ih;have ni:=TD (s:=s) (by omega);by_cases hi:i<x.length
 ·obtain ⟨d,hd⟩ : ∃ d,x[i]? = some d:=⟨_,zE hi⟩
  have v5:=d1.at hd;obtain ⟨f1,f2,f3,f4⟩:=P7 (s:=s) v5 (by omega);have hr:=VS (show s<=64 by omega) f4;(repeat' ((first|(apply AG<;>intro hc<;>try (exfalso;omega))|(refine QL ?_ (λ_ _ _ => ?_) (λ_ _ _ _ => ?_);omega;all_goals try (exfalso;omega))|(apply CB;omega)|apply AR|(refine BG (by assumption) ?_ rfl ?_;omega)|apply AE)<;>conv=>whnf))
  rw[As];refine NE (by omega) f4 ?_;(conv=>whnf)
  skip
  refine UA s (Nat.mul_mod_left _ _) p4 (by omega) ?_;(conv=>whnf)
  have j9:=oX (d:=d) (P:=1) (V:=val o) (p:=4294967296^i) (lo:=c) (X:=val (x.take i)) (s:=s) (by rw[Nat.one_mul,Nat.one_mul];exact p5) rfl;have qh:(c+d*2^s)/4294967296<2^s:=by
   rw[Nat.div_lt_iff_lt_mul (by omega)];have:=Nat.mul_le_mul_right (2^s) (show d<=4294967295 by omega)
   omega
  generalize c+d*2^s=t at *;(repeat' ((first|apply E8|apply EN)<;>conv=>whnf))
  refine FH (enc:=AL) (t%4294967296) rfl p2.symm rfl (by omega) (by omega) ?_;(conv=>whnf)
  (repeat' ((first|(apply AY;omega)|apply EW)<;>conv=>whnf))
  rw[show (o++[t%4294967296]).length=i+1 by simp [p2]];refine BV [(107069,107091)] (by (conv=>whnf);exact ⟨rfl,rfl,rfl⟩) (ih (i+1) (o++[t%4294967296]) (t/4294967296) (by omega) ⟨by omega,by simp;omega,p3.append (GR (by omega)),qh,?_⟩);rw[MH,p2,DQ hd,Nat.pow_succ];rw[Nat.one_mul,Nat.one_mul]at j9;exact j9
 obtain rfl:i=x.length:=by omega
 clear ih;have lf:c<4294967296:=by omega
 have Ts:AZ (o++[c]):=p3.append (GR lf);have yn:val (o++[c])=X*2^s:=by
  rw[MH,p2,p5,C1 (Nat.le_refl _),v1]
 have ym:(o++[c]).length=x.length+1:=by simp [p2]
 (repeat' ((first|(apply AG<;>intro hc<;>try (exfalso;omega))|(apply D4;omega)|apply AR|apply EN|apply AE)<;>conv=>whnf))
 refine FH (enc:=AL) c rfl p2.symm rfl (by omega) (by omega) ?_;(conv=>whnf)
 rw[ym];generalize o++[c]=O at *;rw[<-ym];clear p3 p4 p5;refine GZ 1000 N.GU rfl rfl ?_;(repeat' (apply AE<;>conv=>whnf))
 refine CK (λ n=>n) (λ(n:Nat)=>n<=(O).length /\ ∀ i,n<=i->i<(O).length->(O)[i]? = some 0) (λ n=>[(3,.int .i64 n)]) (λ_=>[]) [] [] (O).length (by (conv=>whnf);exact ⟨rfl,rfl,rfl⟩) ⟨Nat.le_refl _,λ i h1 h2=>by omega⟩ ?_;intro n ⟨p1,p2⟩ ih;rcases n with _|n
 ·(repeat' ((first|(apply AG<;>intro hc<;>try (exfalso;omega))|apply AE)<;>conv=>whnf))
  refine GM 0 (by omega) (by omega) ?_;(conv=>whnf)
  have aj:=FN (l:=O) (by assumption) p1 p2 (Or.inl rfl);have n6:(List.take 0 O).length<=(O).length:=by rw[List.length_take];omega
  clear ih p2;refine UF (enc:=AL) (by omega) ?_;(conv=>whnf)
  rw[List.drop_zero,Nat.sub_zero];generalize wo:List.take 0 O=T0 at *;refine N7 (enc:=AL) (λ_=>rfl) (by omega) (by omega) ?_;(conv=>whnf)
  refine ⟨rfl,_,rfl,?_⟩;(conv=>whnf)
  (refine ⟨rfl,_,rfl,?_⟩;(conv=>whnf);(repeat' ((first|apply EN|refine AD (Fs _) ?_)<;>conv=>whnf));refine FH (enc:=AL) 0 rfl rfl rfl (by omega) (by omega) ?_;(conv=>whnf);rw[yn]at aj;rw[aj];exact BV [] (by (conv=>whnf);exact ⟨rfl,rfl,rfl⟩) (gF N (x:=x) (X:=X) (Y:=Y) (s:=s) (u:=dg (X*2^s)++[0]) (y:=dg (Y*2^s)) h0 ak ((DK _).append (GR (by omega))) (by rw[MH,BL,Nat.mul_zero,Nat.add_zero]) (by simp) (by simp;omega) (DK _) (BL _) (by omega) (by rw[BL,gv];exact n2)))
 ·have e1:((n+1:Nat):Int)-1=n:=by omega
  (repeat' ((first|(apply AG<;>intro hc<;>try (exfalso;omega))|(apply BA;omega)|(apply B1;omega)|(refine O5 (by assumption) ?_ (λ v hv hb => ?_);omega)|apply AE)<;>conv=>whnf))
  ·rw[e1]
   exact BQ [] (ih n (by omega) ⟨by omega,λ i h1 h2=>by
    by_cases h:i=n
    ·subst h
     rw[e1,Int.toNat_natCast]at hv;rw[hv];congr 1;omega
    ·exact p2 i (by omega) h2⟩)
  ·refine GM (n+1) (by omega) (by omega) ?_
   (conv=>whnf)
   rw[e1,Int.toNat_natCast]at hv;have aj:=FN (l:=O) (by assumption) p1 p2 (Or.inr ⟨_,hv,by omega⟩);have n6:(List.take (n+1) O).length<=(O).length:=by rw[List.length_take];omega
   clear ih p2 hv;(rw[dU (l:=O)];rotate_left;exact rfl;exact rfl);(conv=>whnf)
   refine UF (enc:=AL) (by omega) ?_;(conv=>whnf)
   rw[List.drop_zero,Nat.sub_zero];generalize wo:List.take (n+1) O=T0 at *;refine N7 (enc:=AL) (λ_=>rfl) (by omega) (by omega) ?_;(conv=>whnf)
   refine ⟨rfl,_,rfl,?_⟩;(conv=>whnf)
   (refine ⟨rfl,_,rfl,?_⟩;(conv=>whnf);(repeat' ((first|apply EN|refine AD (Fs _) ?_)<;>conv=>whnf));refine FH (enc:=AL) 0 rfl rfl rfl (by omega) (by omega) ?_;(conv=>whnf);rw[yn]at aj;rw[aj];exact BV [] (by (conv=>whnf);exact ⟨rfl,rfl,rfl⟩) (gF N (x:=x) (X:=X) (Y:=Y) (s:=s) (u:=dg (X*2^s)++[0]) (y:=dg (Y*2^s)) h0 ak ((DK _).append (GR (by omega))) (by rw[MH,BL,Nat.mul_zero,Nat.add_zero]) (by simp) (by simp;omega) (DK _) (BL _) (by omega) (by rw[BL,gv];exact n2)))
theorem zU (N:a8 L) (a b:List Nat) (q1 q2:Bool) (hA:AZ a) (hB:AZ b) (la:a.length<=274877906944) (lb:b.length<=274877906944) :
  Ev L 110 [.sl q1 (a.map AL),.sl q2 (b.map AL)] (.sl false ((dg (Nat.gcd (val a) (val b))).map AL)):=by
 have t1:=λ q=>FK N a q hA (by omega)
 have t2:=λ q=>FK N b q hB (by omega)
 have l1:=EG hA;have l2:=EG hB;generalize val a=X at *;generalize val b=Y at *;refine Ev.x N.LF rfl rfl ?_;(repeat' ((first|apply AE|refine AD (t1 _) ?_|refine AD (t2 _) ?_)<;>conv=>whnf))
 refine FV (λ_ y=>y) (λ(x y:Nat)=>(dg x).length<=274877906944/\(dg y).length<=274877906944/\Nat.gcd x y=Nat.gcd X Y) (λ x y=>[(0,.sl false ((dg x).map AL)),(1,.sl false ((dg y).map AL))]) (λ_ _=>[]) [] [] X Y (by (conv=>whnf);exact ⟨rfl,rfl,rfl⟩) ⟨by omega,by omega,rfl⟩ ?_;intro x y ⟨p1,p2,p3⟩ ih;rw[<-p3];by_cases h0:y=0
 ·subst h0
  have nc:(dg 0).length=0:=by rw[EJ];rfl
  clear ih;rw[Nat.gcd_zero_right];(repeat' ((first|(apply AG<;>intro hc<;>try (exfalso;omega))|apply AR|apply AE)<;>conv=>whnf))
  exact AW rfl (IH _)
 ·have hp:=SF h0
  have hD:=λ q q'=>jA N (dg x) (dg y) q q' (DK _) (DK _) p1 p2 (by rw[BL];exact h0)
  rw[BL,BL]at hD;have l6:x%y<y:=Nat.mod_lt _ (by omega);have pd:=OI (Nat.le_of_lt l6);(repeat' ((first|(apply AG<;>intro hc<;>try (exfalso;omega))|apply AR|apply AE|refine AD (hD _ _) ?_)<;>conv=>whnf))
  rw[p3];exact BQ [] (ih y (x%y) l6 ⟨p2,by omega,by rw[SX];exact p3⟩)
theorem II (N:a8 L) (n q:Bool) (m:List Nat) (hm:Sm 274877906944 m):Ev L 111 [.agg (rZ q n m)] (.agg (eZ (zv n m))):=by
 have hT:=λ q=>FK N m q hm.1 (by have:=hm.2;omega)
 have hz:=HK (val m);have ha:=EI n m;refine Ev.x N.LS rfl rfl ?_;cases n
 ·rw[EF]at *
  (repeat' ((first|apply AE|refine AD (hT _) ?_)<;>conv=>whnf))
  exact AW (EE ha.symm (FQ (by omega))) (DC _)
 ·rw[M8]at *
  (repeat' ((first|(apply AG<;>intro hc<;>try (exfalso;omega))|apply AR|apply AE|refine AD (hT _) ?_)<;>conv=>whnf))
  ·exact AW (EE ha.symm (MD (by omega))) (DC _)
  ·exact AW (EE ha.symm (FQ (by omega))) (DC _)
theorem YT (N:a8 L) (n q:Bool) (m:List Nat) (hm:Sm 274877906944 m):Ev L 113 [.agg (rZ q n m)] (.int .i64 (o5 (zv n m))):=by
 have hT:=λ q=>II N n q m hm
 generalize zv n m=z at *;have hz:=HK z.natAbs;refine Ev.x N.LQ rfl rfl ?_;(repeat' ((first|(apply AG<;>intro hc<;>try (exfalso;omega))|apply AR|apply AE|refine AD (hT _) ?_)<;>conv=>whnf))
 ·exact CY (WE (by omega))
 ·cases hd:decide (z<0)
  ·(conv=>whnf)
   exact CY (aW (by have:=of_decide_eq_false hd;omega))
  ·(conv=>whnf)
   exact CY (aV (of_decide_eq_true hd))
theorem YR (N:a8 L) (n q:Bool) (m:List Nat) (hm:Sm 274877906944 m):Ev L 114 [.agg (rZ q n m)] (.agg (eZ (-(zv n m)))):=by
 have hT:=λ q=>II N n q m hm
 generalize zv n m=z at *;have hz:=HK z.natAbs;refine Ev.x N.LO rfl rfl ?_;(repeat' ((first|apply AE|refine AD (hT _) ?_)<;>conv=>whnf))
 cases hd:decide (z<0)
 ·have h1:=of_decide_eq_false hd
  (conv=>whnf)
  (repeat' ((first|(apply AG<;>intro hc<;>try (exfalso;omega))|apply AR)<;>conv=>whnf))
  ·exact AW (EE (by omega) (MD (by omega))) (DC _)
  ·exact AW (EE (by omega) (FQ (by omega))) (DC _)
 ·have h1:=of_decide_eq_true hd
  (conv=>whnf)
  skip
  exact AW (EE (by omega) (FQ (by omega))) (DC _)
theorem PP (N:a8 L) (n1 n2 q1 q2:Bool) (a b:List Nat) (ha:AZ a) (hb:AZ b) (hl:a.length+b.length<=274877906944):Ev L 118 [.agg (rZ q1 n1 a),.agg (rZ q2 n2 b)] (.agg (eZ (zv n1 a*zv n2 b))):=by
 have h1:=λ q q'=>zV N a b q q' ha hb (by omega)
 have sa:Sm a.length a:=⟨ha,Nat.le_refl _⟩;have sb:Sm b.length b:=⟨hb,Nat.le_refl _⟩;have hT:=λ n q=>II N n q (dg (val a*val b)) ((sa.mul sb rfl).le hl)
 have e : ∀ n,zv n (dg (val a*val b))=bif n then -((val a*val b:Nat):Int) else ((val a*val b:Nat):Int):=λ n=>by unfold zv;rw[BL]
 have e2:zv n1 a*zv n2 b=zv (n1 != n2) (dg (val a*val b)):=by
  rw[e];cases n1<;>cases n2<;>simp [EF,M8,Int.mul_neg,Int.neg_mul]
 rw[e2];refine Ev.x N.LN rfl rfl ?_;cases n1<;>cases n2;all_goals
  (repeat' ((first|apply AE|refine AD (h1 _ _) ?_|refine AD (hT _ _) ?_)<;>conv=>whnf))
  exact AW rfl (DC _)
theorem jC (N:a8 L) (n1 n2 q1 q2:Bool) (a b:List Nat) (ha:Sm 274877906943 a) (hb:Sm 274877906943 b):Ev L 115 [.agg (rZ q1 n1 a),.agg (rZ q2 n2 b)] (.agg (eZ (zv n1 a+zv n2 b))):=by
 have t1:=λ q=>II N n1 q a (ha.le (by omega))
 have t2:=λ q=>II N n2 q b (hb.le (by omega))
 have s1:Sm 274877906943 (dg (zv n1 a).natAbs):=by rw[EI];exact ha.qp
 have s2:Sm 274877906943 (dg (zv n2 b).natAbs):=by rw[EI];exact hb.qp
 generalize zv n1 a=x at *;generalize zv n2 b=y at *;have h1:=λ q q'=>iZ N (dg x.natAbs) (dg y.natAbs) q q' s1.1 s2.1 (by have:=s1.2;omega) (by have:=s2.2;omega)
 have h2:=λ q q'=>YQ N (dg x.natAbs) (dg y.natAbs) q q' s1.1 s2.1 (by have:=s1.2;omega) (by have:=s2.2;omega)
 have h3:=λ q q'=>YQ N (dg y.natAbs) (dg x.natAbs) q q' s2.1 s1.1 (by have:=s2.2;omega) (by have:=s1.2;omega)
 have k7:=λ q q'=>YP N (dg x.natAbs) (dg y.natAbs) q q' s1.1 s2.1 (by have:=s1.2;omega) (by have:=s2.2;omega)
 rw[BL,BL]at h1 h2 h3 k7;have u1:=λ n q=>II N n q (dg (x.natAbs+y.natAbs)) (s1.add s2 (by rw[BL,BL];omega))
 have u2:=λ n q=>II N n q (dg (x.natAbs-y.natAbs)) ((s1.low (V:=x.natAbs-y.natAbs) (by rw[BL];omega)).le (by omega))
 have u3:=λ n q=>II N n q (dg (y.natAbs-x.natAbs)) ((s2.low (V:=y.natAbs-x.natAbs) (by rw[BL];omega)).le (by omega))
 have e : ∀ n V,zv n (dg V)=bif n then -(V:Int) else (V:Int):=λ n V=>by unfold zv;rw[BL]
 refine Ev.x N.LJ rfl rfl ?_;(repeat' ((first|apply AE|refine AD (t1 _) ?_|refine AD (t2 _) ?_)<;>conv=>whnf))
 cases hx:decide (x<0)<;>cases hy:decide (y<0)
 ·have g1:=of_decide_eq_false hx
  have g2:=of_decide_eq_false hy;have hz:x+y=zv false (dg (x.natAbs+y.natAbs)):=by rw[e];simp only[cond_true,cond_false];omega
  rw[hz];(conv=>whnf)
  (repeat' ((first|refine AD (h1 _ _) ?_|refine AD (u1 _ _) ?_)<;>conv=>whnf))
  exact AW rfl (DC _)
 ·have g1:=of_decide_eq_false hx
  have g2:=of_decide_eq_true hy;by_cases l6:x.natAbs<y.natAbs
  ·have hz:x+y=zv true (dg (y.natAbs-x.natAbs)):=by rw[e];simp only[cond_true,cond_false];omega
   rw[hz];rw[<-HJ (by omega)]at k7;(conv=>whnf)
   (repeat' ((first|(apply AG<;>intro hc<;>try (exfalso;omega))|refine AD (k7 _ _) ?_|refine AD (h3 _ _) ?_|refine AD (u3 _ _) ?_)<;>conv=>whnf))
   exact AW rfl (DC _)
  ·have hz:x+y=zv false (dg (x.natAbs-y.natAbs)):=by rw[e];simp only[cond_true,cond_false];omega
   rw[hz];have ig:=U0 (show y.natAbs<=x.natAbs by omega);generalize C0 (x.natAbs:Nat) (y.natAbs:Nat)=cm at *;(conv=>whnf)
   (repeat' ((first|(apply AG<;>intro hc<;>try (exfalso;omega))|refine AD (k7 _ _) ?_|refine AD (h2 _ _) ?_|refine AD (u2 _ _) ?_)<;>conv=>whnf))
   exact AW rfl (DC _)
 ·have g1:=of_decide_eq_true hx
  have g2:=of_decide_eq_false hy;by_cases l6:x.natAbs<y.natAbs
  ·have hz:x+y=zv false (dg (y.natAbs-x.natAbs)):=by rw[e];simp only[cond_true,cond_false];omega
   rw[hz];rw[<-HJ (by omega)]at k7;(conv=>whnf)
   (repeat' ((first|(apply AG<;>intro hc<;>try (exfalso;omega))|refine AD (k7 _ _) ?_|refine AD (h3 _ _) ?_|refine AD (u3 _ _) ?_)<;>conv=>whnf))
   exact AW rfl (DC _)
  ·have hz:x+y=zv true (dg (x.natAbs-y.natAbs)):=by rw[e];simp only[cond_true,cond_false];omega
   rw[hz];have ig:=U0 (show y.natAbs<=x.natAbs by omega);generalize C0 (x.natAbs:Nat) (y.natAbs:Nat)=cm at *;(conv=>whnf)
   (repeat' ((first|(apply AG<;>intro hc<;>try (exfalso;omega))|refine AD (k7 _ _) ?_|refine AD (h2 _ _) ?_|refine AD (u2 _ _) ?_)<;>conv=>whnf))
   exact AW rfl (DC _)
 ·have g1:=of_decide_eq_true hx
  have g2:=of_decide_eq_true hy;have hz:x+y=zv true (dg (x.natAbs+y.natAbs)):=by rw[e];simp only[cond_true,cond_false];omega
  rw[hz];(conv=>whnf)
  (repeat' ((first|refine AD (h1 _ _) ?_|refine AD (u1 _ _) ?_)<;>conv=>whnf))
  exact AW rfl (DC _)
theorem Le (N:a8 L) (n1 n2 q1 q2:Bool) (a b:List Nat) (ha:Sm 274877906943 a) (hb:Sm 274877906943 b):Ev L 116 [.agg (rZ q1 n1 a),.agg (rZ q2 n2 b)] (.agg (eZ (zv n1 a-zv n2 b))):=by
 have t2:=λ q=>YR N n2 q b (hb.le (by omega))
 have s2:Sm 274877906943 (dg (-(zv n2 b)).natAbs):=by rw[Int.natAbs_neg,EI];exact hb.qp
 have h1:=λ q q'=>jC N n1 (decide (-(zv n2 b)<0)) q q' a (dg (-(zv n2 b)).natAbs) ha s2
 rw[EV,<-Int.sub_eq_add_neg]at h1;refine Ev.x N.LR rfl rfl ?_;(repeat' ((first|apply AE|refine AD (t2 _) ?_|refine AD (h1 _ _) ?_)<;>conv=>whnf))
 exact AW rfl (DC _)
theorem zY (N:a8 L) (n1 n2 q1 q2:Bool) (a b:List Nat) (ha:Sm 274877906943 a) (hb:Sm 274877906943 b):Ev L 117 [.agg (rZ q1 n1 a),.agg (rZ q2 n2 b)] (.int .i64 (o5 (zv n1 a-zv n2 b))):=by
 have h1:=λ q q'=>Le N n1 n2 q q' a b ha hb
 have s1:Sm 274877906943 (dg (zv n1 a).natAbs):=by rw[EI];exact ha.qp
 have s2:Sm 274877906943 (dg (zv n2 b).natAbs):=by rw[EI];exact hb.qp
 have s3:Sm 274877906944 (dg (zv n1 a-zv n2 b).natAbs):=s1.add s2 (by rw[BL,BL];omega);have h2:=λ q=>YT N (decide (zv n1 a-zv n2 b<0)) q (dg (zv n1 a-zv n2 b).natAbs) s3
 rw[EV]at h2;refine Ev.x N.LK rfl rfl ?_;(repeat' ((first|apply AE|refine AD (h1 _ _) ?_|refine AD (h2 _) ?_)<;>conv=>whnf))
 exact CY rfl
theorem YS (N:a8 L) (z:Int) (hz : -9223372036854775808<=z/\z<=9223372036854775807):Ev L 112 [.int .i64 z] (.agg (eZ z)):=by
 have two : ∀ k:Nat,k<18446744073709551616 -> ∀ n q,Ev L 111 [.agg [.bool n,.sl q [[.int .u32 ((k%4294967296:Nat):Int)],[.int .u32 ((k/4294967296:Nat):Int)]]]] (.agg (eZ (bif n then -(k:Int) else (k:Int)))):=λ k hk n q=>by
  have:=II N n q [k%4294967296,k/4294967296] ⟨(X1 hk).2,by simp⟩
  unfold zv at this;rw[pB hk]at this;exact this
 refine Ev.x N.LP rfl rfl ?_;by_cases h0:0<=z
 ·obtain ⟨k,rfl⟩:=Int.eq_ofNat_of_zero_le h0
  have hT:=two k (by omega);(repeat' ((first|(apply AG<;>intro hc<;>try (exfalso;omega))|apply EW|(apply CB;omega)|(apply D4;omega)|apply E8|refine RW rfl rfl ?_|apply AE)<;>conv=>whnf))
  generalize k%4294967296=lo at *;generalize k/4294967296=hi at *;(repeat' (refine AD (hT _ _) ?_<;>conv=>whnf))
  exact AW rfl (DC _)
 ·obtain ⟨k,hk⟩:=Int.eq_ofNat_of_zero_le (show 0 <= -(z+1) by omega)
  have lv:z = -((k+1:Nat):Int):=by omega
  have hT:=two (k+1) (by omega);(repeat' ((first|(apply AG<;>intro hc<;>try (exfalso;omega))|(apply AY;omega)|apply rK|(apply B6.neg;omega)|(apply CB;omega)|apply AE)<;>conv=>whnf))
  rw[show IntKind.u64.wrap (-(z+1)+1)=((k+1:Nat):Int) by rw[IntWalk.u64_in _ (by omega)];omega];rw[lv];generalize k+1=k1 at *;(repeat' ((first|apply EW|(apply D4;omega)|apply E8|refine RW rfl rfl ?_)<;>conv=>whnf))
  generalize k1%4294967296=lo at *;generalize k1/4294967296=hi at *;(repeat' (refine AD (hT _ _) ?_<;>conv=>whnf))
  exact AW rfl (DC _)
theorem zZ (N:a8 L) (n1 n2 q1 q2:Bool) (a b:List Nat) (ha:Sm 274877906944 a) (hb:Sm 274877906944 b):Ev L 120 [.agg (rZ q1 n1 a),.agg (rZ q2 n2 b)] (.agg (eZ ((Nat.gcd (val a) (val b):Nat):Int))):=by
 have h1:=λ q q'=>zU N a b q q' ha.1 hb.1 ha.2 hb.2
 refine Ev.x N.LM rfl rfl ?_;(repeat' ((first|apply AE|refine AD (h1 _ _) ?_)<;>conv=>whnf))
 exact AW (EE (by omega) (FQ (by omega))) (DC _)
theorem xY (n1 n2:Bool) (A B:Nat) (hB:B≠0):(bif n1 then -(A:Int) else (A:Int))/(bif n2 then -(B:Int) else (B:Int))=(bif n1 != n2 then -((if n1=true/\A%B≠0 then A/B+1 else A/B:Nat):Int) else ((if n1=true/\A%B≠0 then A/B+1 else A/B:Nat):Int)) /\
  (bif n1 then -(A:Int) else (A:Int))%(bif n2 then -(B:Int) else (B:Int))=((if n1=true/\A%B≠0 then B-A%B else A%B:Nat):Int):=by
 have Yb:(0:Int)<B:=by omega
 have key : ∀ x:Int,x/(bif n2 then -(B:Int) else (B:Int))=(bif n2 then -(x/B) else x/B)/\x%(bif n2 then -(B:Int) else (B:Int))=x%B:=λ x=>by
  cases n2
  ·exact ⟨rfl,rfl⟩
  ·exact ⟨Int.ediv_neg x B,Int.emod_neg x B⟩
 rw[(key _).1,(key _).2];cases n1
 ·have h1:((A:Int))/B=((A/B:Nat):Int):=by simp
  have h2:((A:Int))%B=((A%B:Nat):Int):=by simp
  simp only[cond_false,h1,h2];cases n2<;>simp
 ·have hd:=Nat.div_add_mod A B
  have l6:=Nat.mod_lt A (show B>0 by omega);by_cases h0:A%B=0
  ·have e : -(A:Int)=(B:Int)*(-((A/B:Nat):Int)):=by
    rw[h0,Nat.add_zero]at hd;rw[Int.mul_neg,<-Int.natCast_mul,hd]
   have h1 : -(A:Int)/B = -((A/B:Nat):Int):=by rw[e,Int.mul_ediv_cancel_left _ (by omega)]
   have h2 : -(A:Int)%B=0:=by rw[e,Int.mul_emod_right]
   simp only[cond_true,h1,h2,h0];cases n2<;>simp
  ·have e : -(A:Int)=(B:Int)*(-((A/B+1:Nat):Int))+((B-A%B:Nat):Int):=by
    have h3:(B:Int)*((A/B:Nat):Int)+((A%B:Nat):Int)=A:=by rw[<-Int.natCast_mul,<-Int.natCast_add,hd]
    rw[Int.mul_neg,Int.natCast_add,Int.mul_add];omega
   have h1 : -(A:Int)/B = -((A/B+1:Nat):Int):=by
    rw[e,Int.mul_add_ediv_left _ _ (by omega),Int.ediv_eq_zero_of_lt (by omega) (by omega),Int.add_zero]
   have h2 : -(A:Int)%B=((B-A%B:Nat):Int):=by
    rw[e,Int.mul_add_emod_self_left,Int.emod_eq_of_lt (by omega) (by omega)]
   simp only[cond_true,h1,h2];cases n2<;>simp [h0]
theorem jD (N:a8 L) (n1 n2 q1 q2:Bool) (a b:List Nat) (ha:Sm 274877906943 a) (hb:Sm 274877906943 b) (h0:zv n2 b≠0):Ev L 119 [.agg (rZ q1 n1 a),.agg (rZ q2 n2 b)] (.j5 [.agg (eZ (zv n1 a/zv n2 b)),.agg (eZ (zv n1 a%zv n2 b)),.int .i64 0]):=by
 have t1:=λ q=>II N n1 q a (ha.le (by omega))
 have t2:=λ q=>II N n2 q b (hb.le (by omega))
 have s1:Sm 274877906943 (dg (zv n1 a).natAbs):=by rw[EI];exact ha.qp
 have s2:Sm 274877906943 (dg (zv n2 b).natAbs):=by rw[EI];exact hb.qp
 generalize zv n1 a=x at *;generalize zv n2 b=y at *;have wk:=λ q q'=>jA N (dg x.natAbs) (dg y.natAbs) q q' s1.1 s2.1 (by have:=s1.2;omega) (by have:=s2.2;omega) (by rw[BL];omega)
 rw[BL,BL]at wk;obtain ⟨e1,e2⟩:=xY (decide (x<0)) (decide (y<0)) x.natAbs y.natAbs (by omega);have hx:(bif decide (x<0) then -(x.natAbs:Int) else (x.natAbs:Int))=x:=by have:=EV x;unfold zv at this;rw[BL]at this;exact this
 have hy:(bif decide (y<0) then -(y.natAbs:Int) else (y.natAbs:Int))=y:=by have:=EV y;unfold zv at this;rw[BL]at this;exact this
 rw[hx,hy]at e1 e2;rw[e1,e2];have l1:=s1.2;have l2:=s2.2;have hq:Sm 274877906943 (dg (x.natAbs/y.natAbs)):=s1.low (by rw[BL];exact Nat.div_le_self _ _);have hr:Sm 274877906943 (dg (x.natAbs%y.natAbs)):=s2.low (by rw[BL];exact Nat.le_of_lt (Nat.mod_lt _ (by omega)));have Ym:=HK (x.natAbs%y.natAbs);have cp:Ev L 103 [.sl false ((dg (x.natAbs/y.natAbs)).map AL),.sl true [[.int .u32 1]]] (.sl false ((dg (x.natAbs/y.natAbs+1)).map AL)):=by
  have:=iZ N (dg (x.natAbs/y.natAbs)) [1] false true (DK _) (GR (by omega)) (by have:=hq.2;omega) (by simp)
  rw[BL,show val [1]=1 from rfl]at this;exact this
 have tf:Sm 274877906944 (dg (x.natAbs/y.natAbs+1)):=hq.add (b:=[1]) (bG (by omega) (by omega)) (by rw[BL];simp [val]);have Av:=λ q q'=>YQ N (dg y.natAbs) (dg (x.natAbs%y.natAbs)) q q' s2.1 hr.1 (by omega) (by have:=hr.2;omega)
 rw[BL,BL]at Av;have u1:=λ n q=>II N n q (dg (x.natAbs/y.natAbs)) (hq.le (by omega))
 have u2:=λ n q=>II N n q (dg (x.natAbs/y.natAbs+1)) tf
 have ez : ∀ n V,zv n (dg V)=bif n then -(V:Int) else (V:Int):=λ n V=>by unfold zv;rw[BL]
 have fin : ∀ (z:Int) (V:Nat),AJ (.j5 [.agg (eZ z),.agg [.bool false,.sl false ((dg V).map AL)],.int .i64 0]) (.j5 [.agg (eZ z),.agg (eZ (V:Int)),.int .i64 0]):=λ z V=>by
  have e3:AV.agg (eZ (V:Int)) = .agg [.bool false,.sl false ((dg V).map AL)]:=(EE (by omega) (FQ (by omega))).symm;rw[e3];refine AW rfl ?_;simp only[A1,CQ,and_true,true_and];exact ⟨CT _,CT _⟩
 clear e1 e2 hx hy;generalize x.natAbs/y.natAbs=qq at *;generalize x.natAbs%y.natAbs=rr at *;refine Ev.x N.LL rfl rfl ?_;(repeat' ((first|(apply AG<;>intro hc<;>try (exfalso;omega))|apply AE|refine AD (t1 _) ?_|refine AD (t2 _) ?_|refine AD (wk _ _) ?_)<;>conv=>whnf))
 generalize decide (x<0)=p at *;generalize decide (y<0)=r at *;cases p
 ·rw[if_neg (by simp),if_neg (by simp),<-ez]
  cases r;all_goals
   (conv=>whnf)
   (repeat' (refine AD (u1 _ _) ?_<;>conv=>whnf))
   exact fin _ _
 ·by_cases ik:rr=0
  ·rw[if_neg (by simp [ik]),if_neg (by simp [ik]),<-ez]
   cases r;all_goals
    (conv=>whnf)
    (repeat' ((first|(apply AG<;>intro hc<;>try (exfalso;omega))|apply AR|refine AD (u1 _ _) ?_)<;>conv=>whnf))
    exact fin _ _
  ·rw[if_pos ⟨rfl,ik⟩,if_pos ⟨rfl,ik⟩,<-ez]
   cases r;all_goals
    (conv=>whnf)
    (repeat' ((first|(apply AG<;>intro hc<;>try (exfalso;omega))|apply AR|refine H1 rfl ?_|refine AD (cp) ?_|refine AD (Av _ _) ?_|refine AD (u2 _ _) ?_)<;>conv=>whnf))
    exact fin _ _
end Go.c4

namespace Go.c4
abbrev rQ (q1 q2 n:Bool) (m d:List Nat):List AV:=[.bool n,.sl q1 (m.map AL),.sl q2 (d.map AL)]
abbrev eQ (x:Rat):List AV:=rQ false false (decide (x.num<0)) (dg x.num.natAbs) (dg x.den)
def qv (n:Bool) (m d:List Nat):Rat:=mkRat (zv n m) (val d)
theorem EP (x:Rat):qv (decide (x.num<0)) (dg x.num.natAbs) (dg x.den)=x:=by
 unfold qv;rw[EV,BL,Rat.mkRat_self]
theorem jX {d:Nat} (z:Nat) (hd:d≠0):0<Nat.gcd d z:=Nat.gcd_pos_of_pos_left z (by omega)
theorem ZZ {z:Int} {d:Nat} (hd:d≠0):(mkRat z d).num.natAbs=z.natAbs/Nat.gcd d z.natAbs/\(mkRat z d).den=d/Nat.gcd d z.natAbs/\decide ((mkRat z d).num<0)=decide (z<0):=by
 have hg:=jX z.natAbs hd;have h1:=Rat.num_mkRat z d;have h2:=Rat.den_mkRat z d;rw[if_neg hd]at h1 h2;rw[h1,h2];obtain ⟨k,hk⟩:=Nat.gcd_dvd_right d z.natAbs;generalize hG:Nat.gcd d z.natAbs=g at *;have hz:z=(g:Int)*(z.sign*k):=by
  rw[<-Int.mul_assoc,Int.mul_comm (g:Int),Int.mul_assoc,<-Int.natCast_mul,<-hk,Int.sign_mul_natAbs]
 have e1:z/(g:Int)=z.sign*k:=by
  rw[hz,Int.mul_ediv_cancel_left _ (by omega),<-hz]
 refine ⟨?_,rfl,?_⟩
 ·rw[e1,Int.natAbs_mul,hk,Nat.mul_div_cancel_left _ hg]
  by_cases h0:z=0
  ·subst h0
   have:k=0:=by
    have h5:g*k=0:=hk.symm;rcases Nat.mul_eq_zero.1 h5 with h|h
    ·omega
    ·exact h
   subst this;simp
  ·rw[Int.natAbs_sign_of_ne_zero h0,Nat.one_mul];simp
 ·congr 1
  rw[eq_iff_iff];rw[Int.ediv_lt_iff_lt_mul (by omega),Int.zero_mul]
theorem C4 (x:Rat):A1 (.agg (eQ x)):=by
 simp only[A1,CQ,and_true,true_and];exact ⟨CT _,CT _⟩
theorem R7 (b w:Bool) (m d:List Nat):A1 (.agg [.bool b,.sl false (m.map AL),.sl false (d.map AL),.bool w]):=by
 simp only[A1,CQ,and_true,true_and];exact ⟨CT _,CT _⟩
theorem eI (b:Bool) (m:List Nat):A1 (.agg [.bool b,.sl false (m.map AL)]):=by
 simp only[A1,CQ,and_true,true_and];exact CT _
theorem UX (b:Bool) (m d:List Nat):A1 (.agg [.bool b,.sl false (m.map AL),.sl false (d.map AL)]):=by
 simp only[A1,CQ,and_true,true_and];exact ⟨CT _,CT _⟩
theorem SW (q:Bool) (l:List Nat):RR (.sl q (l.map AL)):=by
 intro e he c hc;obtain ⟨x,_,rfl⟩:=List.mem_map.1 he;simp at hc;subst hc;rfl
theorem W1 {r:AV} {K:AV->Prop} (h:HE r) (hk:K (ru r)):BJ r K:=⟨Or.inl h,by rw[ZR h];exact hk⟩
theorem qX {r:AV} {K:AV->Prop} (h : ¬ HE r) (hd:O2 r) (hk:K (I9 r)):BJ r K:=⟨Or.inr hd,by rw[ZQ h];exact hk⟩
theorem GA {b w q1 q2:Bool} {m d:List Nat} {K:AV->Prop} (hk:K (.agg [.bool b,.sl true (m.map AL),.sl true (d.map AL),.bool w])):BJ (.agg [.bool b,.sl q1 (m.map AL),.sl q2 (d.map AL),.bool w]) K:=by
 refine W1 ?_ hk;intro c hc;simp only[List.mem_cons,List.not_mem_nil,or_false]at hc;rcases hc with rfl|rfl|rfl|rfl
 ·trivial
 ·exact SW _ _
 ·exact SW _ _
 ·trivial
theorem cX {b q1 q2:Bool} {m d:List Nat} {K:AV->Prop} (hk:K (.agg [.bool b,.sl true (m.map AL),.sl true (d.map AL)])):BJ (.agg [.bool b,.sl q1 (m.map AL),.sl q2 (d.map AL)]) K:=by
 refine W1 ?_ hk;intro c hc;simp only[List.mem_cons,List.not_mem_nil,or_false]at hc;rcases hc with rfl|rfl|rfl
 ·trivial
 ·exact SW _ _
 ·exact SW _ _
theorem O3 {b q1:Bool} {m:List Nat} {K:AV->Prop} (hk:K (.agg [.bool b,.sl true (m.map AL)])):BJ (.agg [.bool b,.sl q1 (m.map AL)]) K:=by
 refine W1 ?_ hk;intro c hc;simp only[List.mem_cons,List.not_mem_nil,or_false]at hc;rcases hc with rfl|rfl
 ·trivial
 ·exact SW _ _
theorem VQ {a b:Int} {d e:Nat} (hd:d≠0) (he:e≠0):mkRat a d+mkRat b e=mkRat (a*e+b*d) (d*e):=Rat.mkRat_add_mkRat a b hd he
theorem lL {a b:Int} {d:Nat} (hd:d≠0):mkRat a d+mkRat b d=mkRat (a+b) d:=by
 rw[VQ hd hd,<-Int.add_mul,Rat.mkRat_mul_right hd]
theorem ZX (a b:Int) (d e:Nat):mkRat a d*mkRat b e=mkRat (a*b) (d*e):=Rat.mkRat_mul_mkRat a b d e
theorem lN (a:Int):mkRat a 1=(a:Rat):=by
 have h:=Rat.mkRat_self (a:Rat);rw[Rat.num_intCast,Rat.den_intCast]at h;exact h
theorem ZY {z:Int} {d:Nat} (hd:d≠0):mkRat z d=0↔z=0:=Rat.mkRat_eq_zero hd
theorem lO {z:Int} {d:Nat} (hd:d≠0):o5 (mkRat z d).num=o5 z:=by
 obtain ⟨_,_,h⟩:=ZZ (z:=z) hd;have h0:(mkRat z d).num=0↔z=0:=by rw[Rat.num_eq_zero,ZY hd]
 have h1:(mkRat z d).num<0↔z<0:=by simpa using h
 unfold o5;by_cases a:z<0
 ·rw[if_pos a,if_pos (h1.2 a)]
 ·rw[if_neg a,if_neg (λ h=>a (h1.1 h))]
  by_cases b:z=0
  ·rw[if_neg (by omega),if_neg (by have:=h0.2 b;omega)]
  ·rw[if_pos (by omega),if_pos (by have:=mt h0.1 b;have:=mt h1.1 a;omega)]
theorem Mf {a b:Int} {d e:Nat} (hd:d≠0) (he:e≠0) (hb:b≠0):mkRat a d/mkRat b e=mkRat (b.sign*(a*e)) (d*b.natAbs):=by
 have Uk:b.natAbs≠0:=by omega
 have h1:mkRat b e≠0:=λ h=>hb ((ZY he).1 h)
 have key:mkRat (b.sign*(a*e)) (d*b.natAbs)*mkRat b e=mkRat a d:=by
  rw[ZX];have e1:b.sign*(a*e)*b=a*((b.natAbs*e:Nat):Int):=by
   have:=Int.sign_mul_self b
   rw[Int.natCast_mul,<-this];grind
  rw[e1,show d*b.natAbs*e=d*(b.natAbs*e) by rw[Nat.mul_assoc]];exact Rat.mkRat_mul_right (Nat.mul_ne_zero Uk he)
 rw[<-key,Rat.mul_div_cancel h1]
theorem Rw {x y:Int} (hy:y≠0):zv (decide (x<0) != decide (y<0)) (dg x.natAbs)=y.sign*x:=by
 unfold zv;rw[BL];rcases Int.lt_or_gt_of_ne hy with h|h
 ·rw[Int.sign_eq_neg_one_of_neg h]
  by_cases hx:x<0
  ·simp [hx,h];omega
  ·simp [hx,h];omega
 ·rw[Int.sign_eq_one_of_pos h]
  by_cases hx:x<0
  ·simp [hx,show ¬ y<0 by omega];omega
  ·simp [hx,show ¬ y<0 by omega];omega
end Go.c4

namespace Go.c4
open F
attribute [local irreducible] AA AF AU AC B6 AQ AX A9 A4 BS AP BR B0 C2 BN A0 BK B2 AB A5 AJ pw CG B4 CM CZ CU CP CN BJ B9
variable {L:Lib}
set_option maxHeartbeats 4000000
theorem gA:dg 1=[1]:=by rw[H3 (by omega)];simp [EJ]
theorem dT:AV.agg [.bool false,.sl false [],.sl false [[.int .u32 1]]] = .agg (eQ 0):=by
 show _=AV.agg (rQ _ _ _ _ _);rw[Rat.zero_num,Rat.zero_den,gA,show (0:Int).natAbs=0 from rfl,EJ];rfl
theorem vS {x y:Int} (hy:y≠0):(Rat.divInt x y).num=(if y<0 then -(x/((Nat.gcd x.natAbs y.natAbs:Nat):Int)) else x/((Nat.gcd x.natAbs y.natAbs:Nat):Int))/\(Rat.divInt x y).den=(y/((Nat.gcd x.natAbs y.natAbs:Nat):Int)).natAbs:=by
 have h1:=Rat.num_divInt x y;have h2:=Rat.den_divInt x y;rw[if_neg hy]at h2;have hg:Int.gcd y x=Nat.gcd x.natAbs y.natAbs:=by rw[Int.gcd,Nat.gcd_comm]
 rw[hg]at h1 h2;have Ej:0<Nat.gcd x.natAbs y.natAbs:=Nat.gcd_pos_of_pos_right _ (by omega);have dx:((Nat.gcd x.natAbs y.natAbs:Nat):Int) ∣ x:=Int.ofNat_dvd_left.2 (Nat.gcd_dvd_left _ _);have dy:((Nat.gcd x.natAbs y.natAbs:Nat):Int) ∣ y:=Int.ofNat_dvd_left.2 (Nat.gcd_dvd_right _ _);generalize Nat.gcd x.natAbs y.natAbs=g at *;rw[h1,h2];obtain ⟨u,rfl⟩:=dx;obtain ⟨v,rfl⟩:=dy;have vg:(g:Int)≠0:=by omega
 refine ⟨?_,?_⟩
 ·rw[Int.mul_ediv_cancel_left _ vg]
  split
  ·rename_i h
   rw[Int.sign_eq_neg_one_of_neg h,show -1*((g:Int)*u)=g*(-u) by rw[Int.mul_neg];omega,Int.mul_ediv_cancel_left _ vg]
  ·rw[Int.sign_eq_one_of_pos (by omega),Int.one_mul,Int.mul_ediv_cancel_left _ vg]
 ·rw[Int.mul_ediv_cancel_left _ vg,Int.natAbs_mul,Int.natAbs_natCast,Nat.mul_div_cancel_left _ Ej]
theorem VI (N:a8 L) (n1 n2 q1 q2:Bool) (a b:List Nat) (ha:Sm 274877906943 a) (hb:Sm 274877906943 b):Ev L 121 [.agg (rZ q1 n1 a),.agg (rZ q2 n2 b)] (.agg (eQ (Rat.divInt (zv n1 a) (zv n2 b)))):=by
 have t1:=λ q=>YT N n1 q a (ha.le (by omega))
 have t2:=λ q=>YT N n2 q b (hb.le (by omega))
 by_cases h1:zv n1 a=0
 ·rw[h1,Rat.zero_divInt,<-dT]
  rw[h1,<-WE rfl]at t1;refine Ev.x N.HS rfl rfl ?_;(repeat' ((first|(apply AG<;>intro hc<;>try (exfalso;omega))|refine H1 rfl ?_|apply AE|refine AD (t1 _) ?_)<;>conv=>whnf))
  exact AW rfl (UX false [] [1])
 have s1:o5 (zv n1 a)≠0:=by unfold o5;split<;>(try split)<;>omega
 by_cases h2:zv n2 b=0
 ·rw[h2,Rat.divInt_zero,<-dT]
  rw[h2,<-WE rfl]at t2;generalize o5 (zv n1 a)=sg at *;refine Ev.x N.HS rfl rfl ?_;(repeat' ((first|(apply AG<;>intro hc<;>try (exfalso;omega))|refine H1 rfl ?_|apply AE|refine AD (t1 _) ?_|refine AD (t2 _) ?_)<;>conv=>whnf))
  exact AW rfl (UX false [] [1])
 have s2:o5 (zv n2 b)≠0:=by unfold o5;split<;>(try split)<;>omega
 obtain ⟨p1,p2⟩:=vS (x:=zv n1 a) h2;have hG:=λ q q'=>zZ N n1 n2 q q' a b (ha.le (by omega)) (hb.le (by omega))
 have hle:Nat.gcd (val a) (val b)<=val b:=Nat.gcd_le_right _ (by have:=EI n2 b;omega);have Ej:0<Nat.gcd (val a) (val b):=Nat.gcd_pos_of_pos_right _ (by have:=EI n2 b;omega);have sg:Sm 274877906943 (dg (Nat.gcd (val a) (val b))):=hb.low hle;rw[EI,EI]at p1 p2;have Ye:decide (((Nat.gcd (val a) (val b):Nat):Int)<0)=false:=by simp
 have Js:Sm 274877906943 (dg (((Nat.gcd (val a) (val b):Nat):Int)).natAbs):=by rw[Int.natAbs_natCast];exact sg
 have zg:zv (decide (((Nat.gcd (val a) (val b):Nat):Int)<0)) (dg (((Nat.gcd (val a) (val b):Nat):Int)).natAbs)=((Nat.gcd (val a) (val b):Nat):Int):=EV _;have mc:=λ q q'=>jD N n1 _ q q' a _ ha Js (by rw[zg];omega)
 have me:=λ q q'=>jD N n2 _ q q' b _ hb Js (by rw[zg];omega)
 rw[zg]at mc me;have pe:Sm 274877906943 (dg (zv n1 a/((Nat.gcd (val a) (val b):Nat):Int)).natAbs):=ha.low (by
  have:(zv n1 a/((Nat.gcd (val a) (val b):Nat):Int)).natAbs<=(zv n1 a).natAbs:=Int.natAbs_ediv_le_natAbs _ _
  rw[EI]at this;exact this)
 have vg:0<((Nat.gcd (val a) (val b):Nat):Int):=by omega
 generalize ((Nat.gcd (val a) (val b):Nat):Int)=g at *;generalize zv n1 a=x at *;generalize zv n2 b=y at *;generalize o5 x=sx at *;generalize o5 y=sy at *;have hN:=λ q=>YR N (decide (x/g<0)) q (dg (x/g).natAbs) (pe.le (by omega))
 rw[EV]at hN;have Cq:decide (y/g<0)=decide (y<0):=by
  congr 1;rw[eq_iff_iff,Int.ediv_lt_iff_lt_mul (by omega),Int.zero_mul]
 refine Ev.x N.HS rfl rfl ?_;(repeat' ((first|(apply AG<;>intro hc<;>try (exfalso;omega))|apply AE|refine AD (t1 _) ?_|refine AD (t2 _) ?_|refine AD (hG _ _) ?_|refine AD (mc _ _) ?_|refine AD (me _ _) ?_)<;>conv=>whnf))
 cases Iw:decide (y/g<0)
 ·rw[Iw]at Cq
  rw[if_neg (of_decide_eq_false Cq.symm)]at p1;(conv=>whnf)
  skip
  refine AW ?_ (C4 _);show _=AV.agg (rQ _ _ _ _ _);rw[p1,p2]
 ·rw[Iw]at Cq
  rw[if_pos (of_decide_eq_true Cq.symm)]at p1;(conv=>whnf)
  (repeat' (refine AD (hN _) ?_<;>conv=>whnf))
  refine AW ?_ (C4 _);show _=AV.agg (rQ _ _ _ _ _);rw[p1,p2]
theorem vT {z:Int} {d:List Nat}:Rat.divInt z (zv false d)=mkRat z (val d):=by rw[EF,Rat.divInt_ofNat]
def rL (n:Bool) (m d:List Nat) (n':Bool) (m' d':List Nat) (k:Nat):Prop:=Sm k m'/\Sm k d'/\val d'≠0/\qv n m d=mkRat (zv n' m') (val d')
theorem eL (n:Bool) (m d:List Nat):A1 (.j5 [.agg (rZ false n m),.agg (rZ false false d)]):=by
 simp only[A1,CQ,and_true,true_and];exact ⟨CT _,CT _⟩
theorem PO (N:a8 L) (n q:Bool) (m d:List Nat) (k:Nat) (hk:1<=k/\k<=274877906943) (hm:Sm k m) (hd:Sm k d) : ∃ n' m' d',Ev L 122 [.agg (rQ false q n m d)] (.j5 [.agg (rZ false n' m'),.agg (rZ false false d')])/\rL n m d n' m' d' k:=by
 have t1:=λ q=>FK N d q hd.1 (by have:=hd.2;omega)
 have hl:=HK (val d);by_cases h0:val d=0
 ·refine ⟨false,[],[1],?_,nS _,bG hk.1 (by omega),by decide,by unfold qv;rw[h0,Rat.mkRat_zero,pN,Rat.zero_mkRat]⟩
  refine Ev.x N.IR rfl rfl ?_;(repeat' ((first|(apply AG<;>intro hc<;>try (exfalso;omega))|apply AR|refine H1 rfl ?_|apply AE|refine AD (t1 _) ?_)<;>conv=>whnf))
  exact AW rfl (eL false [] [1])
 ·refine ⟨n,m,dg (val d),?_,hm,hd.qp,by rw[BL];exact h0,by rw[BL];rfl⟩
  refine Ev.x N.IR rfl rfl ?_;(repeat' ((first|(apply AG<;>intro hc<;>try (exfalso;omega))|apply AR|apply AE|refine AD (t1 _) ?_)<;>conv=>whnf))
  exact AW rfl (eL _ _ _)
theorem Li (N:a8 L) (n q:Bool) (m d:List Nat) (hm:Sm 274877906943 m) (hd:Sm 274877906943 d):Ev L 123 [.agg (rQ false q n m d)] (.agg (eQ (qv n m d))):=by
 obtain ⟨n',m',d',hp,s1,s2,s3,s4⟩:=PO N n q m d 274877906943 (by omega) hm hd;have hr:=λ q q'=>VI N n' false q q' m' d' s1 s2
 rw[vT,<-s4]at hr;refine Ev.x N.L0 rfl rfl ?_;(repeat' ((first|apply AE|refine AD (hp) ?_|refine AD (hr _ _) ?_)<;>conv=>whnf))
 exact AW rfl (C4 _)
theorem tL (z:Int):AV.agg [.bool (decide (z<0)),.sl false ((dg z.natAbs).map AL),.sl false [[.int .u32 1]]] = .agg (eQ (z:Rat)):=by
 show _=AV.agg (rQ _ _ _ _ _);rw[Rat.num_intCast,Rat.den_intCast,gA];rfl
theorem QY (N:a8 L) (z:Int) (hz : -9223372036854775808<=z/\z<=9223372036854775807):Ev L 124 [.int .i64 z] (.agg (eQ (z:Rat))):=by
 have h1:=YS N z hz;refine Ev.x N.LZ rfl rfl ?_;(repeat' ((first|refine H1 rfl ?_|apply AE|refine AD (h1) ?_)<;>conv=>whnf))
 exact AW (tL z) (C4 _)
theorem nT {z:Int} (hz : -9223372036854775808<=z/\z<=9223372036854775808):Sm 2 (dg z.natAbs):=Sm.dg (by omega)
theorem VG (N:a8 L) (x y:Int) (hx : -9223372036854775808<=x/\x<=9223372036854775807) (hy : -9223372036854775808<=y/\y<=9223372036854775807):Ev L 125 [.int .i64 x,.int .i64 y] (.agg (eQ (Rat.divInt x y))):=by
 have h1:=YS N x hx;have h2:=YS N y hy;have hr:=λ q q'=>VI N (decide (x<0)) (decide (y<0)) q q' _ _ ((nT (z:=x) (by omega)).le (by omega)) ((nT (z:=y) (by omega)).le (by omega))
 rw[EV,EV]at hr;refine Ev.x N.LW rfl rfl ?_;(repeat' ((first|apply AE|refine AD (h1) ?_|refine AD (h2) ?_|refine AD (hr _ _) ?_)<;>conv=>whnf))
 exact AW rfl (C4 _)
theorem P9 {k l:Nat} {n1 n2:Bool} {a b:List Nat} (ha:Sm k a) (hb:Sm l b):Sm (k+l) (dg (zv n1 a*zv n2 b).natAbs):=ha.mul hb (by rw[Int.natAbs_mul,EI,EI])
theorem Add {k:Nat} {x y:Int} (ha:Sm k (dg x.natAbs)) (hb:Sm k (dg y.natAbs)):Sm (k+1) (dg (x+y).natAbs):=ha.add hb (by rw[BL,BL];omega)
theorem Lf (N:a8 L) (k:Nat) (hk:1<=k/\k<=68719476736) (n1 n2 q2 q4:Bool) (m1 d1 m2 d2:List Nat) (eh:Sm k m1) (jb:Sm k d1) (dp:Sm k m2) (mi:Sm k d2) :
  Ev L 126 [.agg (rQ false q2 n1 m1 d1),.agg (rQ false q4 n2 m2 d2)] (.agg (eQ (qv n1 m1 d1+qv n2 m2 d2))):=by
 obtain ⟨a1,a2,a3,bh,s1,s2,s3,s5⟩:=PO N n1 q2 m1 d1 k (by omega) eh jb;obtain ⟨b1,b2,b3,ah,t1,t2,t3,t5⟩:=PO N n2 q4 m2 d2 k (by omega) dp mi;have l1:=s1.2;have l2:=s2.2;have l3:=t1.2;have l4:=t2.2;rw[s5,t5,VQ s3 t3,<-EF b3,<-EF a3];have dj:=λ q q'=>PP N a1 false q q' a2 b3 s1.1 t2.1 (by omega)
 have fo:=λ q q'=>PP N b1 false q q' b2 a3 t1.1 s2.1 (by omega)
 have mf:=λ q q'=>PP N false false q q' a3 b3 s2.1 t2.1 (by omega)
 have g1:Sm (k+k) (dg (zv a1 a2*zv false b3).natAbs):=P9 s1 t2;have g2:Sm (k+k) (dg (zv b1 b2*zv false a3).natAbs):=P9 t1 s2;have g3:=Add g1 g2;have g4:Sm (k+k) (dg (zv false a3*zv false b3).natAbs):=P9 s2 t2;have hA:=λ q q'=>jC N (decide (zv a1 a2*zv false b3<0)) (decide (zv b1 b2*zv false a3<0)) q q' _ _ (g1.le (by omega)) (g2.le (by omega))
 rw[EV,EV]at hA;have hR:=λ q q'=>VI N (decide (zv a1 a2*zv false b3+zv b1 b2*zv false a3<0)) (decide (zv false a3*zv false b3<0)) q q' _ _ (g3.le (by omega)) (g4.le (by omega))
 rw[EV,EV,show zv false a3*zv false b3=((val a3*val b3:Nat):Int) by rw[EF,EF];simp,Rat.divInt_ofNat]at hR;rw[show zv false a3*zv false b3=((val a3*val b3:Nat):Int) by rw[EF,EF];simp]at mf;refine Ev.x N.LU rfl rfl ?_;(repeat' ((first|apply AE|refine AD (bh) ?_|refine AD (ah) ?_|refine AD (dj _ _) ?_|refine AD (fo _ _) ?_|refine AD (hA _ _) ?_|refine AD (mf _ _) ?_|refine AD (hR _ _) ?_)<;>conv=>whnf))
 exact AW rfl (C4 _)
theorem Lh (N:a8 L) (k:Nat) (hk:1<=k/\k<=68719476736) (n1 n2 q2 q4:Bool) (m1 d1 m2 d2:List Nat) (eh:Sm k m1) (jb:Sm k d1) (dp:Sm k m2) (mi:Sm k d2) :
  Ev L 128 [.agg (rQ false q2 n1 m1 d1),.agg (rQ false q4 n2 m2 d2)] (.agg (eQ (qv n1 m1 d1*qv n2 m2 d2))):=by
 obtain ⟨a1,a2,a3,bh,s1,s2,s3,s5⟩:=PO N n1 q2 m1 d1 k (by omega) eh jb;obtain ⟨b1,b2,b3,ah,t1,t2,t3,t5⟩:=PO N n2 q4 m2 d2 k (by omega) dp mi;have l1:=s1.2;have l2:=s2.2;have l3:=t1.2;have l4:=t2.2;rw[s5,t5,ZX];have dj:=λ q q'=>PP N a1 b1 q q' a2 b2 s1.1 t1.1 (by omega)
 have mf:=λ q q'=>PP N false false q q' a3 b3 s2.1 t2.1 (by omega)
 have g1:Sm (k+k) (dg (zv a1 a2*zv b1 b2).natAbs):=P9 s1 t1;have g4:Sm (k+k) (dg (zv false a3*zv false b3).natAbs):=P9 s2 t2;have hR:=λ q q'=>VI N (decide (zv a1 a2*zv b1 b2<0)) (decide (zv false a3*zv false b3<0)) q q' _ _ (g1.le (by omega)) (g4.le (by omega))
 rw[EV,EV,show zv false a3*zv false b3=((val a3*val b3:Nat):Int) by rw[EF,EF];simp,Rat.divInt_ofNat]at hR;rw[show zv false a3*zv false b3=((val a3*val b3:Nat):Int) by rw[EF,EF];simp]at mf;refine Ev.x N.LX rfl rfl ?_;(repeat' ((first|apply AE|refine AD (bh) ?_|refine AD (ah) ?_|refine AD (dj _ _) ?_|refine AD (mf _ _) ?_|refine AD (hR _ _) ?_)<;>conv=>whnf))
 exact AW rfl (C4 _)
theorem lM {a b:Int} {d e:Nat} (hd:d≠0) (he:e≠0):o5 (a*e-b*d)=o5 (mkRat a d-mkRat b e).num:=by
 have h:mkRat a d-mkRat b e=mkRat (a*e-b*d) (d*e):=by
  rw[Rat.sub_eq_add_neg,Rat.neg_mkRat,VQ hd he,Int.neg_mul,<-Int.sub_eq_add_neg]
 rw[h,lO (Nat.mul_ne_zero hd he)]
theorem Lg (N:a8 L) (k:Nat) (hk:1<=k/\k<=68719476736) (n1 n2 q2 q4:Bool) (m1 d1 m2 d2:List Nat) (eh:Sm k m1) (jb:Sm k d1) (dp:Sm k m2) (mi:Sm k d2) :
  Ev L 127 [.agg (rQ false q2 n1 m1 d1),.agg (rQ false q4 n2 m2 d2)] (.int .i64 (o5 (qv n1 m1 d1-qv n2 m2 d2).num)):=by
 obtain ⟨a1,a2,a3,bh,s1,s2,s3,s5⟩:=PO N n1 q2 m1 d1 k (by omega) eh jb;obtain ⟨b1,b2,b3,ah,t1,t2,t3,t5⟩:=PO N n2 q4 m2 d2 k (by omega) dp mi;have l1:=s1.2;have l2:=s2.2;have l3:=t1.2;have l4:=t2.2;rw[s5,t5,<-lM s3 t3,<-EF b3,<-EF a3];have dj:=λ q q'=>PP N a1 false q q' a2 b3 s1.1 t2.1 (by omega)
 have fo:=λ q q'=>PP N b1 false q q' b2 a3 t1.1 s2.1 (by omega)
 have g1:Sm (k+k) (dg (zv a1 a2*zv false b3).natAbs):=P9 s1 t2;have g2:Sm (k+k) (dg (zv b1 b2*zv false a3).natAbs):=P9 t1 s2;have hC:=λ q q'=>zY N (decide (zv a1 a2*zv false b3<0)) (decide (zv b1 b2*zv false a3<0)) q q' _ _ (g1.le (by omega)) (g2.le (by omega))
 rw[EV,EV]at hC;refine Ev.x N.LV rfl rfl ?_;(repeat' ((first|apply AE|refine AD (bh) ?_|refine AD (ah) ?_|refine AD (dj _ _) ?_|refine AD (fo _ _) ?_|refine AD (hC _ _) ?_)<;>conv=>whnf))
 exact CY rfl
end Go.c4

namespace Go.c4
def Bt (k:Nat) (x:Rat):Prop:=x.num.natAbs<=2^k/\x.den<=2^k
theorem Bt.le {k l:Nat} {x:Rat} (h:Bt k x) (hl:k<=l):Bt l x:=by
 have:=Nat.pow_le_pow_right (show 0<2 by omega) hl
 exact ⟨Nat.le_trans h.1 this,Nat.le_trans h.2 this⟩
theorem Bt.mk {k:Nat} {z:Int} {d:Nat} (hz:z.natAbs<=2^k) (hd:d<=2^k):Bt k (mkRat z d):=by
 by_cases h0:d=0
 ·subst h0
  rw[Rat.mkRat_zero];exact ⟨by simp,by simp;exact Nat.one_le_two_pow⟩
 ·obtain ⟨e1,e2,_⟩:=ZZ (z:=z) h0
  unfold Bt;rw[e1,e2];exact ⟨Nat.le_trans (Nat.div_le_self _ _) hz,Nat.le_trans (Nat.div_le_self _ _) hd⟩
theorem Bt.add {k l:Nat} {x y:Rat} (hx:Bt k x) (hy:Bt l y):Bt (k+l+1) (x+y):=by
 rw[Rat.add_def'];refine Bt.mk ?_ ?_
 ·have h1:(x.num*y.den).natAbs<=2^k*2^l:=by rw[Int.natAbs_mul,Int.natAbs_natCast];exact Nat.mul_le_mul hx.1 hy.2
  have h2:(y.num*x.den).natAbs<=2^l*2^k:=by rw[Int.natAbs_mul,Int.natAbs_natCast];exact Nat.mul_le_mul hy.1 hx.2
  rw[Nat.mul_comm (2^l)]at h2;rw[Nat.pow_succ,Nat.pow_add];have h3:=Int.natAbs_add_le (x.num*y.den) (y.num*x.den);omega
 ·rw[Nat.pow_succ,Nat.pow_add]
  have:=Nat.mul_le_mul hx.2 hy.2
  omega
theorem Bt.mul {k l:Nat} {x y:Rat} (hx:Bt k x) (hy:Bt l y):Bt (k+l) (x*y):=by
 rw[Rat.mul_def'];refine Bt.mk ?_ ?_
 ·rw[Int.natAbs_mul,Nat.pow_add];exact Nat.mul_le_mul hx.1 hy.1
 ·rw[Nat.pow_add];exact Nat.mul_le_mul hx.2 hy.2
theorem Bt.zero (k:Nat):Bt k 0:=⟨by simp,by simp;exact Nat.one_le_two_pow⟩
theorem Bt.one (k:Nat):Bt k 1:=⟨by simp;exact Nat.one_le_two_pow,by simp;exact Nat.one_le_two_pow⟩
theorem Bt.Gy {k n:Nat} {x:Rat} (h:Bt k x) (hn:k<32*n):Sm n (dg x.num.natAbs)/\Sm n (dg x.den):=by
 have e:2^k<4294967296^n:=by
  rw[show 4294967296=2^32 from rfl,<-Nat.pow_mul];exact (Nat.pow_lt_pow_iff_right (by omega)).2 hn
 exact ⟨Sm.dg (Nat.lt_of_le_of_lt h.1 e),Sm.dg (Nat.lt_of_le_of_lt h.2 e)⟩
def Bs (k:Nat) (l:List Rat):Prop := ∀ x∈l,Bt k x
theorem Bs.at {k:Nat} {l:List Rat} (h:Bs k l) {i:Nat} {x:Rat} (hx:l[i]? = some x):Bt k x:=h x (zM hx)
theorem Bs.le {k j:Nat} {l:List Rat} (h:Bs k l) (hj:k<=j):Bs j l:=λ x hx=>(h x hx).le hj
theorem Bs.take {k:Nat} {l:List Rat} (h:Bs k l) (n:Nat):Bs k (l.take n):=λ x hx=>h x (List.mem_of_mem_take hx)
def A6:List Rat->List Rat->Rat
 | x::xs,y::ys=>x*y+A6 xs ys
 | _,_=>0
theorem SH (l:List Rat):A6 l []=0:=by cases l<;>rfl
theorem gQ : ∀ {a b:List Rat} {x y:Rat},a.length=b.length->A6 (a++[x]) (b++[y])=A6 a b+x*y
 | [],[],x,y,_=>by show x*y+0=0+x*y;rw[Rat.add_zero,Rat.zero_add]
 | p::a,q::b,x,y,h=>by
  show p*q+A6 (a++[x]) (b++[y])=p*q+A6 a b+x*y;rw[gQ (by simpa using h),Rat.add_assoc]
theorem QR {a b:List Rat} {i:Nat} {x y:Rat} (hx:a[i]? = some x) (hy:b[i]? = some y):A6 (a.take (i+1)) (b.take (i+1))=A6 (a.take i) (b.take i)+x*y:=by
 have h1:=(zS hx).1;have h2:=(zS hy).1;rw[List.take_add_one,List.take_add_one,hx,hy,Option.toList_some,Option.toList_some,gQ (by rw[List.length_take,List.length_take];omega)]
theorem SG {a b:List Rat} {n:Nat} (h:a.length=n):A6 (a.take n) (b.take n)=A6 a b:=by
 subst h;rw[List.take_of_length_le (Nat.le_refl _)];induction a generalizing b with
 | nil=>cases b<;>rfl
 | cons x a ih=>cases b with
  | nil=>rfl
  | cons y b=>simp only[List.length_cons,List.take_succ_cons,A6,ih]
theorem Bs.dot {k l:Nat} : ∀ {a b:List Rat},Bs k a->Bs l b->Bt (a.length*(k+l+1)) (A6 a b)
 | [],b,_,_=>by cases b<;>exact Bt.zero _
 | x::a,[],_,_=>Bt.zero _
 | x::a,y::b,ha,hb=>by
  have h1:=(ha x (by simp)).mul (hb y (by simp));have h2:=Bs.dot (a:=a) (b:=b) (λ z hz=>ha z (by simp [hz])) (λ z hz=>hb z (by simp [hz]));refine (h1.add h2).le ?_;rw[List.length_cons,Nat.succ_mul];omega
def RZ (a b:List Rat):List Rat:=List.zipWith (· + ·) a b
theorem gN : ∀ {a u v:List Rat},u.length=v.length->A6 a (RZ u v)=A6 a u+A6 a v
 | [],_,_,_=>by simp only[A6];rw[Rat.add_zero]
 | x::a,[],[],_=>by simp only[RZ,List.zipWith_nil_left,A6];rw[Rat.add_zero]
 | x::a,p::u,q::v,h=>by
  show x*(p+q)+A6 a (RZ u v)=_;rw[gN (by simpa using h)];simp only[A6];grind
structure CR where
 a:List (List Rat)
 b:List Rat
 c:List Rat
 d:Rat
structure CR.Ok (S:CR) (n k:Nat):Prop where
 la:S.a.length=n
 lr : ∀ r∈S.a,r.length=n
 lb:S.b.length=n
 lc:S.c.length=n
 ba : ∀ r∈S.a,Bs k r
 bb:Bs k S.b
 bc:Bs k S.c
 bd:Bt k S.d
def CR.out (S:CR) (now:List Rat) (x:Rat):Rat:=A6 S.c now+S.d*x
def H5 (now:List Rat) (x:Rat):List (List Rat)->List Rat->List Rat
 | r::a,b::bs=>(A6 r now+b*x)::H5 now x a bs
 | _,_=>[]
def CR.next (S:CR) (now:List Rat) (x:Rat):List Rat:=H5 now x S.a S.b
def CR.state (S:CR):List Rat->List Rat->List Rat
 | now,[]=>now
 | now,x::xs=>S.state (S.next now x) xs
def CR.outs (S:CR):List Rat->List Rat->List Rat
 | _,[]=>[]
 | now,x::xs=>S.out now x::S.outs (S.next now x) xs
theorem lV (now:List Rat) (x:Rat) : ∀ (a:List (List Rat)) (b:List Rat),a.length=b.length->(H5 now x a b).length=a.length
 | [],[],_=>rfl
 | r::a,y::b,h=>by simp only[H5,List.length_cons];rw[lV now x a b (by simpa using h)]
theorem lT (now:List Rat) (x:Rat) : ∀ (a:List (List Rat)) (b:List Rat) (i:Nat) (r:List Rat) (y:Rat),a[i]? = some r->b[i]? = some y->(H5 now x a b)[i]? = some (A6 r now+y*x)
 | [],_,i,r,y,h,_=>by simp at h
 | _::_,[],i,r,y,_,h=>by simp at h
 | r0::a,y0::b,0,r,y,h,h'=>by
  simp at h h';subst h;subst h';rfl
 | r0::a,y0::b,i+1,r,y,h,h'=>by
  simp only[H5,List.getElem?_cons_succ]at h h' ⊢;exact lT now x a b i r y h h'
theorem oJ (S:CR) (x:Rat) : ∀ (xs now:List Rat),S.state now (xs++[x])=S.next (S.state now xs) x
 | [],_=>rfl
 | y::xs,now=>oJ S x xs (S.next now y)
theorem mM (S:CR) (x:Rat) : ∀ (xs now:List Rat),S.outs now (xs++[x])=S.outs now xs++[S.out (S.state now xs) x]
 | [],_=>rfl
 | y::xs,now=>by
  show S.out now y::S.outs (S.next now y) (xs++[x])=_;rw[mM S x xs (S.next now y)];rfl
theorem V0 (S:CR) : ∀ (xs now:List Rat),(S.outs now xs).length=xs.length
 | [],_=>rfl
 | y::xs,now=>by simp only[CR.outs,List.length_cons,V0 S xs]
theorem CR.Ok.eu {S:CR} {n k:Nat} (h:S.Ok n k) (now:List Rat) (x:Rat):(S.next now x).length=n:=by
 unfold CR.next;rw[lV _ _ _ _ (by rw[h.la,h.lb]),h.la]
theorem CR.Ok.fx {S:CR} {n k:Nat} (h:S.Ok n k) : ∀ (xs now:List Rat),now.length=n->(S.state now xs).length=n
 | [],_,hn=>hn
 | x::xs,now,_=>h.fx xs _ (h.eu now x)
def N3 (n k s:Nat):Nat:=n*(k+s+1)+(k+k)+1
def NX (n k:Nat):Nat->Nat->Nat
 | s,0=>s
 | s,i+1=>NX n k (N3 n k s) i
theorem CR.Ok.ma {S:CR} {n k s:Nat} (h:S.Ok n k) {now:List Rat} {x:Rat} (hl:now.length=n) (hs:Bs s now) (hx:Bt k x):Bs (N3 n k s) (S.next now x)/\Bt (N3 n k s) (S.out now x):=by
 constructor
 ·have key : ∀ (a:List (List Rat)) (b:List Rat),(∀ r∈a,r.length=n/\Bs k r)->Bs k b->Bs (N3 n k s) (H5 now x a b):=by
   intro a;induction a with
   | nil=>intro b _ _ y hy;simp [H5]at hy
   | cons r a ih =>
    intro b ha hb;cases b with
    | nil=>intro y hy;simp [H5]at hy
    | cons c b =>
     intro y hy;simp only[H5,List.mem_cons]at hy;rcases hy with rfl|hy
     ·obtain ⟨l1,l2⟩:=ha r (by simp)
      have h1:=l2.dot (b:=now) hs;rw[l1]at h1;refine (h1.add ((hb c (by simp)).mul hx)).le ?_;unfold N3;omega
     ·exact ih b (λ r hr=>ha r (by simp [hr])) (λ z hz=>hb z (by simp [hz])) y hy
  exact key S.a S.b (λ r hr=>⟨h.lr r hr,h.ba r hr⟩) h.bb
 ·have h1:=h.bc.dot (b:=now) hs
  rw[h.lc]at h1;refine (h1.add (h.bd.mul hx)).le ?_;unfold N3;omega
theorem mY (n k:Nat) : ∀ (i s:Nat),NX n k s (i+1)=N3 n k (NX n k s i)
 | 0,_=>rfl
 | i+1,s=>mY n k i (N3 n k s)
theorem CR.Ok.iy {S:CR} {n k:Nat} (h:S.Ok n k) : ∀ (xs now:List Rat) (s:Nat),now.length=n->Bs s now->Bs k xs->Bs (NX n k s xs.length) (S.state now xs)
 | [],_,_,_,hs,_=>hs
 | x::xs,now,s,hl,hs,hx=>by
  exact h.iy xs _ _ (h.eu now x) (h.ma hl hs (hx x (by simp))).1 (λ z hz=>hx z (by simp [hz]))
def E5:Nat->List Rat
 | 0=>[]
 | n+1=>1::List.replicate n 0
theorem S1 (n:Nat):(E5 n).length=n:=by cases n<;>simp [E5]
theorem Ns (k n:Nat):Bs k (E5 n):=by
 intro x hx;cases n with
 | zero=>simp [E5]at hx
 | succ n =>
  simp only[E5,List.mem_cons,List.mem_replicate]at hx;rcases hx with rfl|⟨_,rfl⟩
  ·exact Bt.one k
  ·exact Bt.zero k
def HD (n:Nat) (j:Int):List Rat:=(List.range n).map λ i:Nat=>if (i:Int)=j then 1 else 0
theorem cF (n:Nat) (j:Int):(HD n j).length=n:=by simp [HD]
end Go.c4

namespace Go.c4
open F
attribute [local irreducible] AA AF AU AC B6 AQ AX A9 A4 BS AP BR B0 C2 BN A0 BK B2 AB A5 AJ pw CG B4 CM CZ CU CP CN BJ B9
variable {L:Lib}
set_option maxHeartbeats 4000000
theorem Bt.jk {k:Nat} {x:Rat} (h:Bt k x) (hk:k<2199023255552):Sm 68719476736 (dg x.num.natAbs)/\Sm 68719476736 (dg x.den):=h.Gy (by omega)
theorem QW (N:a8 L) {x y:Rat} {k l:Nat} (hx:Bt k x) (hy:Bt l y) (hk:k<2199023255552) (hl:l<2199023255552):Ev L 126 [.agg (eQ x),.agg (eQ y)] (.agg (eQ (x+y))):=by
 have:=Lf N 68719476736 (by omega) (decide (x.num<0)) (decide (y.num<0)) false false _ _ _ _ (hx.jk hk).1 (hx.jk hk).2 (hy.jk hl).1 (hy.jk hl).2
 rw[EP,EP]at this;exact this
theorem SP (N:a8 L) {x y:Rat} {k l:Nat} (hx:Bt k x) (hy:Bt l y) (hk:k<2199023255552) (hl:l<2199023255552):Ev L 128 [.agg (eQ x),.agg (eQ y)] (.agg (eQ (x*y))):=by
 have:=Lh N 68719476736 (by omega) (decide (x.num<0)) (decide (y.num<0)) false false _ _ _ _ (hx.jk hk).1 (hx.jk hk).2 (hy.jk hl).1 (hy.jk hl).2
 rw[EP,EP]at this;exact this
theorem jI (N:a8 L) {x:Rat} {k:Nat} (hx:Bt k x) (hk:k<2199023255552):Ev L 123 [.agg (eQ x)] (.agg (eQ x)):=by
 have:=Li N (decide (x.num<0)) false _ _ ((hx.jk hk).1.le (by omega)) ((hx.jk hk).2.le (by omega))
 rw[EP]at this;exact this
theorem SM (N:a8 L) {x y:Rat} {k l:Nat} (hx:Bt k x) (hy:Bt l y) (hk:k<2199023255552) (hl:l<2199023255552):Ev L 127 [.agg (eQ x),.agg (eQ y)] (.int .i64 (o5 (x-y).num)):=by
 have:=Lg N 68719476736 (by omega) (decide (x.num<0)) (decide (y.num<0)) false false _ _ _ _ (hx.jk hk).1 (hx.jk hk).2 (hy.jk hl).1 (hy.jk hl).2
 rw[EP,EP]at this;exact this
theorem aX {x y:Rat}:o5 (x-y).num=0↔x=y:=by
 have h:o5 (x-y).num=0↔(x-y).num=0:=by unfold o5;split<;>(try split)<;>omega
 rw[h,Rat.num_eq_zero];constructor
 ·intro h;grind
 ·rintro rfl;exact Rat.sub_self
end Go.c4

namespace Go.c4
abbrev eO:Option Rat->List AV
 | none=>[.bool false,.nil,.nil]
 | some x=>eQ x
def FB (l:List Rat) (m:Nat):List (Option Rat):=l.map some++List.replicate (m-l.length) none
theorem OM (m:Nat):FB [] m=List.replicate m none:=by simp [FB]
theorem OL {l:List Rat} {m:Nat} (h:l.length<=m):(FB l m).length=m:=by simp [FB];omega
theorem ON {l:List Rat} {m:Nat} {x:Rat} (h:l.length<m):(FB l m).set l.length (some x)=FB (l++[x]) m:=by
 unfold FB;have e:m-l.length=(m-(l++[x]).length)+1:=by simp;omega
 rw[e,List.replicate_succ,List.set_append_right _ _ (by simp)];simp
theorem OK {l:List Rat} {m:Nat} (h:l.length=m):(FB l m).map eO=l.map eQ:=by
 unfold FB;rw[h,Nat.sub_self];simp [Function.comp_def]
abbrev eS (S:CR):List AV:=[.sl false (S.a.map λ r=>[AV.sl false (r.map eQ)]),.sl false (S.b.map eQ),.sl false (S.c.map eQ)]++eQ S.d
theorem IG (l:List Rat):FM (l.map eQ):=SA (λ x=>by simp only[CQ,A1,and_true,true_and];exact ⟨CT _,CT _⟩) l
theorem TV {l:List Rat} {i:Nat} {x:Rat} (h:l[i]? = some x):l.take (i+1)=l.take i++[x]:=by
 rw[List.take_add_one,h];rfl
theorem uH (a b:List Rat) (e:Int):A1 (.j5 [.sl false (a.map eQ),.sl false (b.map eQ),.int .i64 e]):=by
 simp only[A1,CQ,and_true,true_and];exact ⟨IG a,IG b⟩
theorem eN (a:List Rat) (e:Int):A1 (.j5 [.sl false (a.map eQ),.int .i64 e]):=by
 simp only[A1,CQ,and_true,true_and];exact IG a
theorem R8 (S:CR):A1 (.agg (eS S)):=by
 have h:FM (S.a.map λ r=>[AV.sl false (r.map eQ)]):=SA (λ r=>by simp only[CQ,A1,and_true,true_and];exact IG r) S.a;simp only[A1,List.cons_append,List.nil_append,CQ,and_true,true_and];exact ⟨h,IG _,IG _,CT _,CT _⟩
end Go.c4

namespace Go.c4
open F
attribute [local irreducible] AA AF AU AC B6 AQ AX A9 A4 BS AP BR B0 C2 BN A0 BK B2 AB A5 AJ pw CG B4 CM CZ CU CP CN BJ B9
variable {L:Lib}
set_option maxHeartbeats 4000000
def RC (v:Int):Rat:=Rat.divInt (v%25-12) (1+v/25%8)
def GG (l:List Int) (n:Nat):List Rat:=(List.range n).map λ i:Nat=>RC (FU (G3 l (i:Int)) 2000)
theorem V3 (l:List Int) (n:Nat):(GG l n).length=n:=by simp [GG]
theorem Pm (l:List Int) (n:Nat):GG l (n+1)=GG l n++[RC (FU (G3 l (n:Int)) 2000)]:=by simp [GG,List.range_succ]
theorem Pl {v:Int} (h:0<=v):Bt 4 (RC v):=by
 unfold RC;obtain ⟨d,hd⟩:=Int.eq_ofNat_of_zero_le (show 0<=1+v/25%8 by omega);rw[hd,Rat.divInt_ofNat];refine Bt.mk ?_ ?_
 ·show _<=16;omega
 ·show _<=16;omega
theorem mV (l:List Int) (n:Nat):Bs 4 (GG l n):=by
 intro x hx;simp only[GG,List.mem_map]at hx;obtain ⟨i,_,rfl⟩:=hx;refine Pl ?_;unfold FU;split<;>omega
def WA (X:List Rat) (n j:Nat):List Rat:=(X.take (j*n+n)).drop (j*n)
def WB (X:List Rat) (n i:Nat):List (List Rat):=(List.range i).map (WA X n)
def N5 (l:List Int) (n:Nat):CR :=
 let X:=GG l (n*n+2*n+1)
 ⟨WB X n n,(X.take (n*n+n)).drop (n*n),(X.take (n*n+2*n)).drop (n*n+n),X.getD (n*n+2*n) 0⟩
end Go.c4

namespace Go.c4
def CW (m:List (List Rat)) (j:Nat):List Rat:=m.map λ r=>r.getD j 0
def DZ (r:List Rat) (m:List (List Rat)) (n:Nat):List Rat:=(List.range n).map λ j=>A6 r (CW m j)
def FC (a m:List (List Rat)) (n:Nat):List (List Rat):=a.map λ r=>DZ r m n
def DP (m:List (List Rat)) (b:List Rat):List Rat:=m.map λ r=>A6 r b
theorem uN (m:List (List Rat)) (j:Nat):(CW m j).length=m.length:=by simp [CW]
theorem lS (r:List Rat) (m:List (List Rat)) (n:Nat):(DZ r m n).length=n:=by simp [DZ]
theorem Ml (a m:List (List Rat)) (n:Nat):(FC a m n).length=a.length:=by simp [FC]
theorem Z1 (m:List (List Rat)) (b:List Rat):(DP m b).length=m.length:=by simp [DP]
structure Sq (n:Nat) (m:List (List Rat)):Prop where
 l:m.length=n
 r : ∀ r∈m,r.length=n
theorem Sq.at {n:Nat} {m:List (List Rat)} (h:Sq n m) {i:Nat} {r:List Rat} (hr:m[i]? = some r):r.length=n:=h.r r (zM hr)
theorem Sq.mul {n:Nat} {a:List (List Rat)} (h:a.length=n) (m:List (List Rat)):Sq n (FC a m n):=by
 refine ⟨by rw[Ml,h],λ r hr => ?_⟩;obtain ⟨x,_,rfl⟩:=List.mem_map.1 hr;exact lS _ _ _
def Ms (k:Nat) (m:List (List Rat)):Prop := ∀ r∈m,Bs k r
theorem Ms.at {k:Nat} {m:List (List Rat)} (h:Ms k m) {i:Nat} {r:List Rat} (hr:m[i]? = some r):Bs k r:=h r (zM hr)
theorem Ms.le {k j:Nat} {m:List (List Rat)} (h:Ms k m) (hj:k<=j):Ms j m:=λ r hr=>(h r hr).le hj
theorem Ms.Bj {k:Nat} {m:List (List Rat)} (h:Ms k m) (j:Nat):Bs k (CW m j):=by
 intro x hx;obtain ⟨r,hr,rfl⟩:=List.mem_map.1 hx;rw[List.getD_eq_getElem?_getD];cases e:r[j]? with
 | none=>exact Bt.zero k
 | some x=>exact (h r hr).at e
theorem Ms.mul {n k s:Nat} {a m:List (List Rat)} (ha:Ms k a) (hs:Sq n a) (hm:Ms s m):Ms (n*(k+s+1)) (FC a m n):=by
 intro r hr x hx;obtain ⟨r,h1,rfl⟩:=List.mem_map.1 hr;obtain ⟨j,_,rfl⟩:=List.mem_map.1 hx;have:=(ha r h1).dot (hm.Bj j)
 rw[hs.r r h1]at this;exact this
theorem PJ : ∀ a b:List Rat,A6 a b=A6 b a
 | [],[]=>rfl
 | [],_::_=>rfl
 | _::_,[]=>rfl
 | x::a,y::b=>by simp only[A6,PJ a b,Rat.mul_comm]
theorem VC : ∀ (v:List Rat) (n:Nat),A6 (List.replicate n 0) v=0
 | [],n=>SH _
 | y::v,0=>rfl
 | y::v,n+1=>by rw[List.replicate_succ];simp only[A6,VC v n];grind
theorem gR (v:List Rat) (n:Nat):A6 v (List.replicate n 0)=0:=by rw[PJ,VC]
theorem gP (x:Rat) : ∀ a b:List Rat,A6 (a.map (x * ·)) b=x*A6 a b
 | [],_=>by simp [A6]
 | _::_,[]=>by simp [A6]
 | p::a,q::b=>by simp only[List.map_cons,A6,gP x a b];grind
theorem Qb (u:List Rat) (n:Nat):DZ u [] n=List.replicate n 0:=by
 refine List.ext_getElem? λ j => ?_
 simp only[DZ,CW,List.map_nil,SH,List.getElem?_map,List.getElem?_replicate];by_cases h:j<n
 ·rw[List.getElem?_range h,if_pos h];rfl
 ·rw[List.getElem?_eq_none (by simp;omega),if_neg h];rfl
theorem Qc (m:List (List Rat)) (n:Nat):DZ [] m n=List.replicate n 0:=by
 refine List.ext_getElem? λ j => ?_
 simp only[DZ,A6,List.getElem?_map,List.getElem?_replicate];by_cases h:j<n
 ·rw[List.getElem?_range h,if_pos h];rfl
 ·rw[List.getElem?_eq_none (by simp;omega),if_neg h];rfl
theorem Mn (x:Rat) (u r:List Rat) (m:List (List Rat)) (n:Nat) (hr:r.length=n):DZ (x::u) (r::m) n=RZ (r.map (x * ·)) (DZ u m n):=by
 refine List.ext_getElem? λ j => ?_
 simp only[DZ,RZ,List.getElem?_map,List.getElem?_zipWith];by_cases h:j<n
 ·rw[List.getElem?_range h]
  obtain ⟨y,hy⟩ : ∃ y,r[j]? = some y:=⟨_,zE (by omega)⟩;rw[hy];simp only[Option.map_some,CW,List.map_cons,A6,List.getD_eq_getElem?_getD,hy,Option.getD_some]
 ·rw[List.getElem?_eq_none (by simp;omega),List.getElem?_eq_none (l:=r) (by omega)]
  rfl
theorem gO {n:Nat} {v:List Rat} : ∀ (m:List (List Rat)) (u:List Rat),(∀ r∈m,r.length=n)->A6 (DZ u m n) v=A6 u (DP m v)
 | [],u,_=>by rw[Qb,VC,DP,List.map_nil,SH]
 | r::m,[],_=>by rw[Qc,VC];rfl
 | r::m,x::u,h=>by
  have hr:=h r (by simp);rw[Mn x u r m n hr,PJ,gN (by rw[List.length_map,lS];exact hr),PJ v,PJ v,gP,gO m u λ r hr=>h r (by simp [hr])];rfl
theorem Qd {n:Nat} (a m:List (List Rat)) (v:List Rat) (h : ∀ r∈m,r.length=n):DP (FC a m n) v=DP a (DP m v):=by
 simp only[DP,FC,List.map_map];exact List.map_congr_left λ r _=>gO m r h
def wQ (S:CR):Nat->List Rat
 | 0=>S.b
 | j+1=>DP S.a (wQ S j)
def conv (A h:Nat->Rat) (K:Nat):Nat->Rat
 | 0=>0
 | a+1=>conv A h K a+A a*h (K-a)
def B8 (f:Nat->Rat):Nat->Rat
 | 0=>0
 | n+1=>B8 f n+f n
theorem X9 (x:Rat) : ∀ a b:List Rat,A6 (a.map (· * x)) b=A6 a b*x
 | [],b=>by simp [A6]
 | a::l,[]=>by rw[SH,SH,Rat.zero_mul]
 | a::l,b::k=>by
  simp only[List.map_cons,A6,X9 x l k];grind
theorem Bt.ofInt {k:Nat} {z:Int} (h:z.natAbs<=2^k):Bt k ((z:Int):Rat):=⟨by rw[Rat.num_intCast];exact h,by rw[Rat.den_intCast];exact Nat.one_le_two_pow⟩
end Go.c4

namespace Go.c4
theorem Bt.Gg {k:Nat} {y:Rat} (h:Bt k y):Bt k y⁻¹:=by
 rw[Rat.inv_def];rcases Int.natAbs_eq y.num with e|e
 ·rw[e,Rat.divInt_ofNat]
  exact Bt.mk (by simpa using h.2) h.1
 ·rw[e,Rat.divInt_neg',Rat.divInt_ofNat]
  exact Bt.mk (by simpa using h.2) h.1
theorem Bt.yj {k l:Nat} {x y:Rat} (hx:Bt k x) (hy:Bt l y):Bt (k+l) (x/y):=by
 rw[Rat.div_def];exact hx.mul hy.Gg
theorem Bt.Bg {k:Nat} {x:Rat} (h:Bt k x):Bt k (-x):=⟨by rw[Rat.neg_num,Int.natAbs_neg];exact h.1,by rw[Rat.neg_den];exact h.2⟩
def TM (s x:Rat):Rat:=s*(((s*x).den:Nat):Rat)
def HW (r:List Rat):Rat:=r.foldl TM 1
theorem Pg (r:List Rat) (x:Rat):HW (r++[x])=TM (HW r) x:=by rw[HW,List.foldl_append];rfl
theorem Acc {a b c:Rat} (h:c≠0) (e:a*c=b*c):a=b:=by
 have h1:=Rat.mul_inv_cancel c h;have:a*c*c⁻¹=b*c*c⁻¹:=by rw[e]
 rwa [Rat.mul_assoc,Rat.mul_assoc,h1,Rat.mul_one,Rat.mul_one]at this
section
variable {m0 m:List (List Rat)} {K W Te c:Nat} {P:List Nat} {odd:Bool} {l:Rat}
end
end Go.c4

namespace Go.c4
structure Pt where
 x:Rat
 y:Rat
 w:Rat
def Sy (g:List Pt) (f:Pt->Rat):Rat:=g.foldl (λ s p=>s+f p) 0
def rhs (g:List Pt) (k:Nat):Rat:=Sy g λ p=>p.w*p.x^k*p.y
def Wh (k:Nat) (x:Rat):Prop := ∃ z:Int,x=(z:Rat)/\z.natAbs<=2^k
theorem Wh.le {k l:Nat} {x:Rat} (h:Wh k x) (hl:k<=l):Wh l x:=by
 obtain ⟨z,e,b⟩:=h;exact ⟨z,e,Nat.le_trans b (Nat.pow_le_pow_right (by omega) hl)⟩
theorem Wh.mul {k l:Nat} {x y:Rat} (hx:Wh k x) (hy:Wh l y):Wh (k+l) (x*y):=by
 obtain ⟨z,rfl,b⟩:=hx;obtain ⟨u,rfl,c⟩:=hy;exact ⟨z*u,by rw[Rat.intCast_mul],by rw[Int.natAbs_mul,Nat.pow_add];exact Nat.mul_le_mul b c⟩
theorem Wh.add {k:Nat} {x y:Rat} (hx:Wh k x) (hy:Wh k y):Wh (k+1) (x+y):=by
 obtain ⟨z,rfl,b⟩:=hx;obtain ⟨u,rfl,c⟩:=hy;refine ⟨z+u,by rw[Rat.intCast_add],?_⟩;rw[Nat.pow_succ];have:=Int.natAbs_add_le z u
 omega
theorem Wh.zero (k:Nat):Wh k 0:=⟨0,rfl,Nat.zero_le _⟩
theorem Wh.bt {k:Nat} {x:Rat} (h:Wh k x):Bt k x:=by
 obtain ⟨z,rfl,b⟩:=h;exact Bt.ofInt b
theorem Wh.dot {k l:Nat} : ∀ {a b:List Rat},(∀ x∈a,Wh k x)->(∀ x∈b,Wh l x)->Wh (k+l+a.length) (A6 a b)
 | [],b,_,_=>by cases b<;>exact Wh.zero _
 | x::a,[],_,_=>Wh.zero _
 | x::a,y::b,ha,hb=>by
  rw[A6,List.length_cons,<-Nat.add_assoc];exact (((ha x List.mem_cons_self).mul (hb y List.mem_cons_self)).le (by omega)).add (Wh.dot (λ z hz=>ha z (List.mem_cons_of_mem _ hz)) λ z hz=>hb z (List.mem_cons_of_mem _ hz))
theorem PX (y:Rat):y*(y.den:Rat)=(y.num:Rat):=by
 have h:=Rat.num_divInt_den y;rw[Rat.divInt_eq_div]at h;have h0:((y.den:Int):Rat)≠0:=λ e=>by
  have:((y.den:Int):Rat)=((0:Int):Rat):=e
  have:=Rat.intCast_inj.1 this
  have:=y.den_pos
  omega
 have h2:=Rat.div_mul_cancel h0 (a:=(y.num:Rat));rw[h,Rat.intCast_natCast]at h2;exact h2
theorem X0 {y:Rat} {T:Nat} {z:Int} (h:(T:Rat)*y=(z:Rat)):y.den ∣ T:=by
 have h1:y*(y.den:Rat)=(y.num:Rat):=PX y;have h2:(((T:Int)*y.num:Int):Rat)=((z*(y.den:Int):Int):Rat):=by
  rw[Rat.intCast_mul,Rat.intCast_mul,<-h1,<-h,Rat.intCast_natCast,Rat.intCast_natCast,Rat.mul_assoc]
 have h3:=Rat.intCast_inj.1 h2;have h4:(y.den:Int) ∣ (T:Int)*y.num:=⟨z,by rw[h3,Int.mul_comm]⟩;have h5:y.den ∣ T*y.num.natAbs:=by
  have:=Int.natAbs_dvd_natAbs.2 h4
  simpa [Int.natAbs_mul] using this
 exact Nat.Coprime.dvd_of_dvd_mul_right (Nat.Coprime.symm y.reduced) h5
end Go.c4

namespace Go.c4
open F
attribute [local irreducible] AA AF AU AC B6 AQ AX A9 A4 BS AP BR B0 C2 BN A0 BK B2 AB A5 AJ pw CG B4 CM CZ CU CP CN BJ B9
variable {L:Lib}
set_option maxHeartbeats 8000000
theorem zI (N:di L) {x:Rat} {k:Nat} (hx:Bt k x) (hk:k<2199023255552):Ev L 152 [.agg (eQ x)] (.agg (eQ (-x))):=by
 have hT:=jI N.toa8 hx hk;have hN:=λ q=>YR N.toa8 (decide (x.num<0)) q (dg x.num.natAbs) ((hx.jk hk).1.le (by omega))
 rw[EV]at hN;refine Ev.x N.LY rfl rfl ?_;(repeat' ((first|apply AE|refine AD (hT) ?_|refine AD (hN _) ?_)<;>conv=>whnf))
 refine AW ?_ (C4 _);show _=AV.agg (rQ _ _ _ _ _);rw[Rat.neg_num,Rat.neg_den]
def G4 (l:List Rat):Nat->Nat
 | 0=>0
 | n+1=>if l.getD n 0=0 then G4 l n else n+1
theorem SC (l:List Rat) : ∀ n,G4 l n<=n
 | 0=>Nat.le_refl _
 | n+1=>by rw[G4];split;exact Nat.le_succ_of_le (SC l n);exact Nat.le_refl _
def M7 (l:List Rat):List Rat:=l.take (G4 l l.length)
theorem oW (l:List Rat):(M7 l).length=G4 l l.length:=by rw[M7,List.length_take];exact Nat.min_eq_left (SC _ _)
end Go.c4

namespace Go.c4
open F
theorem yI {L:Lib} {f:Nat} {fn:AFn} {vs:List AV} {own l8:AH} {r:AV} (hL:L f=some fn) (Ao:HI fn.body=true) (h:FX L f vs own r l8):l8=own:=by
 obtain ⟨n,h⟩:=h;cases n with
 | zero=>simp [DD]at h
 | succ n =>
  rw[SK]at h;simp only[hL]at h;split at h
  ·split at h
   ·rename_i st j9
    split at h
    ·simp only[Option.some.injEq,Prod.mk.injEq]at h
     rw[<-h.2];exact HU n (by simp [NQ,Ao]) j9
    ·cases h
   ·cases h
  ·cases h
attribute [local irreducible] AA AF AU AC B6 AQ AX A9 A4 BS AP BR B0 C2 BN A0 BK B2 AB A5 AJ pw CG B4 CM CZ CU CP CN BJ B9
set_option maxHeartbeats 1000000
variable {L:Lib}
theorem vE (N:c5 L) (l:List Nat) (s:Nat) (hD:AZ l) (hl:l.length<=1099511627776):A5 L 65 [.row 5 0 1 0 l.length] [(0,.row 5 0 1 0 l.length)] [(5,s,.rw 1 (l.map AL))] (λ r _=>r = .row 5 0 1 0 (dg (val l)).length):=by
 have hlen : ∀ n,n<=l.length->l.take n=dg (val l)->n=(dg (val l)).length:=λ n h1 h2=>by
  rw[<-h2,List.length_take];omega
 refine GZ 1000 N.E6 rfl rfl ?_;(repeat' (apply AE<;>conv=>whnf))
 refine CK (λ n=>n) (λ(n:Nat)=>n<=l.length /\ ∀ i,n<=i->i<l.length->l[i]? = some 0) (λ n=>[(3,.int .i64 n)]) (λ_=>[]) [] [] l.length (by (conv=>whnf);exact ⟨rfl,rfl,rfl⟩) ⟨Nat.le_refl _,λ i h1 h2=>by omega⟩ ?_;intro n ⟨p1,p2⟩ ih;rcases n with _|n
 ·(repeat' ((first|(apply AG<;>intro hc<;>try (exfalso;omega))|apply AE)<;>conv=>whnf))
  refine GM 0 (by omega) (by omega) ?_;(conv=>whnf)
  refine ⟨rfl,_,rfl,?_⟩;rw[<-hlen 0 p1 (FN hD p1 p2 (Or.inl rfl))];rfl
 ·have e1:((n+1:Nat):Int)-1=n:=by omega
  (repeat' ((first|(apply AG<;>intro hc<;>try (exfalso;omega))|(apply BA;omega)|(apply B1;omega)|(refine O5 (by assumption) ?_ (λ v hv hb => ?_);omega)|apply AE)<;>conv=>whnf))
  ·rw[e1]
   exact BQ [] (ih n (by omega) ⟨by omega,λ i h1 h2=>by
    by_cases h:i=n
    ·subst h
     rw[e1,Int.toNat_natCast]at hv;rw[hv];congr 1;omega
    ·exact p2 i (by omega) h2⟩)
  ·refine GM (n+1) (by omega) (by omega) ?_
   (conv=>whnf)
   refine ⟨rfl,_,rfl,?_⟩;rw[e1,Int.toNat_natCast]at hv;rw[<-hlen (n+1) p1 (FN hD p1 p2 (Or.inr ⟨_,hv,by omega⟩))];rfl
theorem vD (N:c5 L) (l:List Nat) (s t:Nat) (own:AH) (hD:AZ l) (hl:l.length<=1099511627776) (hb:(own s).e8 t=some ⟨1,l.map AL⟩) (ht:t<(own s).g7) (jc:EC s=true):FX L 65 [.row s t 1 0 l.length] own (.row s t 1 0 (dg (val l)).length) own:=by
 have hs:I2 (λ_ _=>(s,t)) own [(5,s,.rw 1 (l.map AL))]:=by
  have key : ∀ k u c,c6 [(5,s,A3.rw 1 (l.map AL))] k u=some c->k=5/\u=0/\c = .rw 1 (l.map AL):=λ k u c e=>by
   simp only[c6,c7]at e;cases hk:Nat.beq k 5<;>simp only[hk,cond_true,cond_false]at e
   ·cases e
   ·cases u with
    | zero=>simp only[Option.some.injEq]at e;exact ⟨Nat.eq_of_beq_eq_true hk,rfl,e.symm⟩
    | succ u=>cases e
  refine ⟨λ k s' c e => ?_,λ k u c e => ?_,λ k u c e=>ht,λ k u k' u' c c' e e' _ => ?_,λ_ _ _ _ _=>jc⟩
  ·simp only[c7]at e
   cases hk:Nat.beq k 5<;>simp only[hk,cond_true,cond_false]at e
   ·cases e
   ·simp only[Option.some.injEq,Prod.mk.injEq]at e;exact e.1
  ·obtain ⟨_,_,rfl⟩:=key k u c e
   exact hb
  ·obtain ⟨rfl,rfl,_⟩:=key k u c e
   obtain ⟨rfl,rfl,_⟩:=key k' u' c' e';exact ⟨rfl,rfl⟩
 have hw:=vE N l s hD hl;unfold A5 at hw;obtain ⟨r,l8,σ',M',h1,h2,h3,rfl⟩:=hw _ own hs;have ho:=yI N.E6 (by decide +kernel) h1;subst ho;have h4:AV.row (σ' 5 0).1 (σ' 5 0).2 1 0 l.length=AV.row s t 1 0 l.length:=h3 0;simp only[AV.row.injEq]at h4;have h5:FX L 65 [.row s t 1 0 l.length] l8 (.row (σ' 5 0).1 (σ' 5 0).2 1 0 (dg (val l)).length) l8:=h1;rw[h4.1,h4.2.1]at h5;exact h5
theorem T4 (N:c5 L) {l:List Nat} {tm:Tm} {M:Mem} {K:AV->Mem->Prop} {key s len:Nat} (hD:AZ l) (hl:l.length<=1099511627776) (hm:c7 M key=some (s,.rw 1 (l.map AL))) (hlen:len=l.length) (hk:K (.row key 0 1 0 (dg (val l)).length) M):A5 L 65 [.row key 0 1 0 len] tm M K:=by
 subst hlen;unfold A5;intro σ own hs;have cb:=hs.site _ _ _ hm;have Am:c6 M key 0=some (.rw 1 (l.map AL)):=by simp only[c6,hm]
 have hb:=hs.e8 _ _ _ Am;have ht:=hs.old _ _ _ Am;refine ⟨.row key 0 1 0 (dg (val l)).length,own,σ,M,?_,hs,λ_=>rfl,hk⟩;exact vD N l (σ key 0).1 (σ key 0).2 own hD hl hb ht (hs.low _ _ _ (DY hm) rfl)
end Go.c4

namespace Go.c4
open F
attribute [local irreducible] AA AF AU AC B6 AQ AX A9 A4 BS AP BR B0 C2 BN A0 BK B2 AB A5 AJ pw CG B4 CM CZ CU CP CN BJ B9
set_option maxHeartbeats 4000000
variable {L:Lib}
abbrev YD (v:List Nat) (j m s xl:Nat):Tm:=[(102,AV.sl false (List.map AL v)),(101,AV.row 71012 0 1 j (v.length+1)),
           (100,AV.int IntKind.i64 (↑j + ↑v.length+1)),(99,AV.int IntKind.i64 (↑j + ↑v.length)),
           (98,AV.int IntKind.i64 ↑v.length),(97,AV.int IntKind.i64 ↑j),(96,AV.int IntKind.i64 ↑j),
           (95,AV.row 71012 0 1 0 (xl+1)),(94,AV.int IntKind.i64 ↑j),(93,AV.row 28 0 1 0 m),
           (90,AV.bool true),(14,AV.int IntKind.i64 ↑j),(13,AV.sl false (List.map AL v)),
           (12,AV.row 71012 0 1 0 (xl+1)),(11,AV.int IntKind.u64 ↑s),(7,AV.row 28 0 1 0 m),
           (6,AV.int IntKind.i64 ↑v.length)]
abbrev xV:List It:=[It.lp FD.l2,It.e8 2,It.code
      (((BC.ops FD.fw false).dr [9,10,84,85,86,87,118,119,120,121,122,123,124,125,126]
         []).seq
       (((BC.ops FD.jj false).dr [127,128,129,130,131] []).seq
        ((((BC.ops FD.mb false).dr [15,132,133] []).seq
           (BC.cond 134
            (((BC.ops FD.nn false).dr [0,1,5,7,134,135,136] []).seq BC.ret)
            BC.skip)).seq
         (((BC.ops FD.np false).dr [134] []).seq
          ((((BC.ops FD.nq false).dr [1] []).seq (BC.block 4 FD.l3.loop)).seq
           (((BC.ops FD.Ct false).dr
              [0,5,9,137,138,139,140,162,163,164,165,166,167,168,169] []).seq
            (((BC.ops FD.Cu false).dr [7,170,171,172] []).seq BC.ret)))))))]
section
variable {A W C w v:List Nat} {j m s xl q:Nat} {K:AV->Mem->Prop}
theorem X5 (hA:A.length=j) (hW:W.length=v.length+1) (D2:AZ W) (bu:AZ v) (cq:2<=v.length) (pq:v.length<=549755813888) (v8:0<val v)
  (r1:q<4294967296) (r2:val W/val v<=q) (r3:q<=val W/val v+1)
  (hk : ∀ (W':List Nat) (o':List (List AV)) (q':Nat),W'.length=v.length+1->AZ W'->val W'=val W%val v->q'=val W/val v->K (.int .u32 (q':Int)) [(71012,71012,.rw 1 ((A++W'++C).map AL)),(28,28,.rw 1 (w.map AL)),(71012,71012,.rw 1 o')])
  (fh : ∀ (W':List Nat) (o':List (List AV)) (q':Nat),W'.length=v.length+1->AZ W'->val W'=val W%val v->q'=val W/val v->K (.int .u32 (q':Int)) [(71012,71012,.rw 1 ((A++W'++C).map AL)),(71012,71012,.rw 1 o'),(28,28,.rw 1 (w.map AL))]) :
  AA L xV ([(86,.int .i64 0),(85,.int .i64 v.length),(84,.sl false (v.map AL)),(10,.int .u64 0),(9,.int .u64 0),(7,.int .u64 (q:Int)),(5,.int .i64 v.length),(0,AV.row 71012 0 1 j (v.length+1)),(1,AV.sl false (List.map AL v))]++FR 1000 (YD v j m s xl))
   [(71012,71012,A3.rw 1 (List.map AL (A++W++C))),(28,28,A3.rw 1 (List.map AL w))] (dG 1000 FD (YD v j m s xl) K):=by
 refine WZ (λ i _ _ _=>v.length-i) (λ(i:Nat) (Z:List Nat) (c b:Nat)=>i<=v.length/\Z.length=v.length+1/\AZ Z/\c<4294967296/\b<=1/\Z.drop i=W.drop i/\val (Z.take i)+q*val (v.take i)=val (W.take i)+4294967296^i*(c+b)) (λ i Z c b=>[(86,.int .i64 i),(10,.int .u64 (b:Int)),(9,.int .u64 (c:Int))]) (λ i Z c b=>[(71012,71012,.rw 1 ((A++Z++C).map AL))]) [] [] 0 W 0 0 (by (conv=>whnf);exact ⟨rfl,rfl,rfl⟩) ⟨by omega,hW,D2,by omega,by omega,rfl,by simp [val]⟩ ?_;intro i Z c b ⟨p1,p2,p3,p4,p5,p6,p7⟩ ih;by_cases hi:i<v.length
 ·obtain ⟨d,hd⟩ : ∃ d,v[i]? = some d:=⟨_,zE hi⟩
  obtain ⟨u,hu⟩ : ∃ u,Z[i]? = some u:=⟨_,zE (by omega)⟩;have v5:=bu.at hd;have mo:=p3.at hu;obtain ⟨pr,nh⟩ : ∃ pr,pr=q*d+c:=⟨_,rfl⟩;obtain ⟨m1,m2,m3⟩:=lR r1 v5 p4 nh;have rb:W[i]? = some u:=by
   have e1:(Z.drop i)[0]? = (W.drop i)[0]? := by rw[p6]
   simpa [hu] using e1.symm
  (repeat' ((first|(apply AG<;>intro hc<;>try (exfalso;omega))|(apply BA;omega)|(apply FI;omega)|(apply NB;omega)|apply EW|(apply CB;omega)|(refine BG (by assumption) ?_ rfl ?_;omega)|apply AE)<;>conv=>whnf))
  rw[<-nh];refine OA i hu (by omega) ?_;(conv=>whnf)
  (repeat' ((first|(apply BA;omega)|(apply UD;omega)|(apply CB;omega)|apply E8)<;>conv=>whnf))
  obtain ⟨s1,s2⟩:=WO mo (show pr%4294967296<4294967296 by omega) p5;have j9:=Mj p7 nh rfl mo p5;generalize EB (EB u (pr%4294967296)) b=t at *;refine MN i (by omega) (by omega) ?_;(conv=>whnf)
  (repeat' ((first|(apply AY;omega)|apply UC)<;>conv=>whnf))
  refine BV [] (by (conv=>whnf);exact ⟨rfl,rfl,rfl⟩) (ih (i+1) _ _ _ (by omega) ⟨by omega,by simpa using p2,p3.set _ (by omega),m1,s2,?_,?_⟩)
  ·rw[List.drop_set_of_lt (by omega)]
   have e1:(Z.drop i).drop 1=(W.drop i).drop 1:=by rw[p6]
   simpa using e1
  ·rw[FG (by omega),DQ hd,DQ rb,Nat.pow_succ]
   exact j9
 ·obtain rfl:i=v.length:=by omega
  clear ih;obtain ⟨u,hu⟩ : ∃ u,Z[v.length]? = some u:=⟨_,zE (by omega)⟩;have mo:=p3.at hu;have rb:W[v.length]? = some u:=by
   have e1:(Z.drop v.length)[0]? = (W.drop v.length)[0]? := by rw[p6]
   simpa [hu] using e1.symm
  rw[C1 (Nat.le_refl v.length)]at p7;obtain ⟨s1,s2⟩:=WO mo p4 p5;have j9:=Mh p7 rfl mo p4 p5;have eW:val W=val (W.take v.length)+4294967296^v.length*u:=by
   rw[<-DQ rb,C1 (by omega)]
  rw[<-eW,<-FG (show v.length<Z.length by omega),C1 (by simp;omega)]at j9;(repeat' ((first|(apply AG<;>intro hc<;>try (exfalso;omega))|(apply BA;omega)|apply AE)<;>conv=>whnf))
  refine OA v.length hu (by omega) ?_;(conv=>whnf)
  (repeat' ((first|(apply BA;omega)|(apply UD;omega)|(apply CB;omega)|apply E8)<;>conv=>whnf))
  generalize EB (EB u c) b=t at *;refine MN v.length (by omega) (by omega) ?_;(conv=>whnf)
  (repeat' ((first|(apply AG<;>intro hc<;>try (exfalso;omega))|apply UC|(apply D4;omega)|apply AR)<;>conv=>whnf))
  ·have Wi:t/9223372036854775808=0:=by omega
   rw[Wi,Nat.mul_zero,Nat.add_zero]at j9;obtain ⟨y1,y2⟩:=gD v8 r2 j9;exact ⟨rfl,_,rfl,hk _ _ _ (by simpa using p2) (p3.set _ (by omega)) y2 y1⟩
  ·have Ik:t/9223372036854775808=1:=by omega
   rw[Ik,Nat.mul_one]at j9;have yw:AZ (Z.set v.length (t%4294967296)):=p3.set _ (by omega);have oe:(Z.set v.length (t%4294967296)).length=v.length+1:=by simpa using p2
   clear p7 p6 p4 p5 s1 s2 eW Ik hu rb mo p1 p2 p3;generalize Z.set v.length (t%4294967296)=X at *;have wq:=EL yw;rw[oe,Nat.pow_succ]at wq;obtain ⟨y1,y2,y3⟩:=gC v8 r3 wq j9;have Tu:val W%val v<val v:=Nat.mod_lt _ v8;have uj:=EL bu;obtain ⟨xw,vq⟩ : ∃ xw,X[v.length]? = some xw:=⟨_,zE (by omega)⟩;have eX:val X=val (X.take v.length)+4294967296^v.length*xw:=by
    rw[<-DQ vq,C1 (by omega)]
   refine FW (λ i _ _=>v.length-i) (λ(i:Nat) (Z:List Nat) (c:Nat)=>i<=v.length/\Z.length=v.length+1/\AZ Z/\c<=1/\Z.drop i=X.drop i/\val (Z.take i)+4294967296^i*c=val (X.take i)+val (v.take i)) (λ i Z c=>[(139,.int .i64 i),(9,.int .u64 (c:Int))]) (λ i Z c=>[(71012,71012,.rw 1 ((A++Z++C).map AL))]) [] [] 0 X 0 (by (conv=>whnf);exact ⟨rfl,rfl,rfl⟩) ⟨by omega,oe,yw,by omega,rfl,by simp [val]⟩ ?_;intro i Z c ⟨p1,p2,p3,p4,p6,p7⟩ ih;by_cases hi:i<v.length
   ·obtain ⟨d,hd⟩ : ∃ d,v[i]? = some d:=⟨_,zE hi⟩
    obtain ⟨u,hu⟩ : ∃ u,Z[i]? = some u:=⟨_,zE (by omega)⟩;have v5:=bu.at hd;have mo:=p3.at hu;have gl:X[i]? = some u:=by
     have e1:(Z.drop i)[0]? = (X.drop i)[0]? := by rw[p6]
     simpa [hu] using e1.symm
    have wv:=dP (d:=d) (w:=u) p7 rfl;(repeat' ((first|(apply AG<;>intro hc<;>try (exfalso;omega))|(apply BA;omega)|(refine BG (by assumption) ?_ rfl ?_;omega)|apply AE)<;>conv=>whnf))
    refine OA i hu (by omega) ?_;(conv=>whnf)
    (repeat' ((first|(apply BA;omega)|(apply FI;omega)|(apply CB;omega)|apply E8)<;>conv=>whnf))
    generalize Wj:u+d+c=t2 at *;refine MN i (by omega) (by omega) ?_;(conv=>whnf)
    (repeat' ((first|(apply AY;omega)|apply EW)<;>conv=>whnf))
    refine BV [] (by (conv=>whnf);exact ⟨rfl,rfl,rfl⟩) (ih (i+1) _ _ (by omega) ⟨by omega,by simpa using p2,p3.set _ (by omega),by omega,?_,?_⟩)
    ·rw[List.drop_set_of_lt (by omega)]
     have e1:(Z.drop i).drop 1=(X.drop i).drop 1:=by rw[p6]
     simpa using e1
    ·rw[FG (by omega),DQ hd,DQ gl,Nat.pow_succ]
     exact wv
   ·obtain rfl:i=v.length:=by omega
    clear ih;obtain ⟨u,hu⟩ : ∃ u,Z[v.length]? = some u:=⟨_,zE (by omega)⟩;have mo:=p3.at hu;have gl:X[v.length]? = some u:=by
     have e1:(Z.drop v.length)[0]? = (X.drop v.length)[0]? := by rw[p6]
     simpa [hu] using e1.symm
    rw[gl]at vq;obtain rfl:u=xw:=by simpa using vq
    rw[C1 (Nat.le_refl v.length)]at p7;have yx:=EL (p3.take v.length);rw[List.length_take,Nat.min_eq_left (by omega)]at yx;rw[eX]at y3;have jx:=dO p7 y3 (by omega) yx;rw[<-FG (show v.length<Z.length by omega),C1 (by simp;omega)]at jx;(repeat' ((first|(apply AG<;>intro hc<;>try (exfalso;omega))|(apply BA;omega)|apply AE)<;>conv=>whnf))
    refine OA v.length hu (by omega) ?_;(conv=>whnf)
    (repeat' ((first|(apply BA;omega)|apply dB|(apply D4;omega))<;>conv=>whnf))
    refine MN v.length (by omega) (by omega) ?_;(conv=>whnf)
    (repeat' ((first|(apply H0;omega;omega)|(apply D4;omega))<;>conv=>whnf))
    exact ⟨rfl,_,rfl,fh _ _ _ (by simpa using p2) (p3.set _ (by omega)) jx y1⟩
theorem vR (N:c5 L) (hA:A.length=j) (hW:W.length=v.length+1) (D2:AZ W) (bu:AZ v) (cq:2<=v.length) (pq:v.length<=549755813888) (v8:0<val v)
  (n2:4294967296^(v.length-1)*2147483648<=val v) (g2:val W<4294967296*val v)
  (hk : ∀ (W':List Nat) (o':List (List AV)) (q':Nat),W'.length=v.length+1->AZ W'->val W'=val W%val v->q'=val W/val v->K (.int .u32 (q':Int)) [(71012,71012,.rw 1 ((A++W'++C).map AL)),(28,28,.rw 1 (w.map AL)),(71012,71012,.rw 1 o')])
  (fh : ∀ (W':List Nat) (o':List (List AV)) (q':Nat),W'.length=v.length+1->AZ W'->val W'=val W%val v->q'=val W/val v->K (.int .u32 (q':Int)) [(71012,71012,.rw 1 ((A++W'++C).map AL)),(71012,71012,.rw 1 o'),(28,28,.rw 1 (w.map AL))]) :
  A5 L 73 [AV.row 71012 0 1 j (v.length+1),AV.sl false (List.map AL v)] (YD v j m s xl) [(71012,71012,A3.rw 1 (List.map AL (A++W++C))),(28,28,A3.rw 1 (List.map AL w))] K:=by
 obtain ⟨UL,a1,a2⟩:=WU D2 (n:=v.length+1) (by omega) (by omega);obtain ⟨VL,b5,b6⟩:=pA bu (n:=v.length) cq (by omega);obtain ⟨u0,w0⟩ : ∃ d,W[v.length]? = some d:=⟨_,zE (by omega)⟩;obtain ⟨u1,w1⟩ : ∃ d,W[v.length-1]? = some d:=⟨_,zE (by omega)⟩;obtain ⟨u2,w2⟩ : ∃ d,W[v.length-2]? = some d:=⟨_,zE (by omega)⟩;obtain ⟨f1,x1⟩ : ∃ d,v[v.length-1]? = some d:=⟨_,zE (by omega)⟩;obtain ⟨f2,x2⟩ : ∃ d,v[v.length-2]? = some d:=⟨_,zE (by omega)⟩;rw[show v.length+1-3=v.length-2 by omega,show v.length+1-2=v.length-1 by omega,show v.length+1-1=v.length by omega,FZ w0,FZ w1,FZ w2]at a2;rw[show v.length+1-3=v.length-2 by omega]at a1;rw[FZ x1,FZ x2]at b6;have oo:=oV bu (k:=v.length-1) (by omega) n2 x1;have k0:=D2.at w0;have k1:=D2.at w1;have k2:=D2.at w2;have k3:=bu.at x1;have k4:=bu.at x2;have z1:v[((v.length:Int)-1).toNat]? = some f1:=by rw[show ((v.length:Int)-1).toNat=v.length-1 by omega];exact x1
 have z2:v[((v.length:Int)-2).toNat]? = some f2:=by rw[show ((v.length:Int)-2).toNat=v.length-2 by omega];exact x2
 refine GZ 1000 N.FD rfl rfl ?_;(repeat' ((first|(apply BA;omega)|apply AR|apply AE)<;>conv=>whnf))
 refine OA v.length w0 (by omega) ?_;(conv=>whnf)
 (repeat' ((first|(apply BA;omega)|(apply B1;omega)|(apply MM;omega)|(apply CB;omega))<;>conv=>whnf))
 refine OA (v.length-1) w1 (by omega) ?_;(conv=>whnf)
 refine cU (by omega) ?_;(conv=>whnf)
 refine NC (by omega) ?_;(conv=>whnf)
 generalize Fw:u0*4294967296+u1=top at *;have Fu:top<=18446744073709551615:=by omega
 have hU:val W=UL+4294967296^(v.length-2)*(u2+4294967296*top):=by rw[a2,show u1+4294967296*u0=top by omega]
 (repeat' ((first|(apply B1;omega)|(apply RT;omega)|(apply UB;omega;omega)|(apply CB;omega)|(refine BG (by assumption) ?_ rfl ?_;omega))<;>conv=>whnf))
 refine FV (λ q _=>q) (λ(q r:Nat)=>Gs (val W) (val v) f1 f2 u2 top q r) (λ q r=>[(7,.int .u64 (q:Int)),(8,.int .u64 (r:Int))]) (λ_ _=>[]) [] [] (top/f1) (top%f1) (by (conv=>whnf);exact ⟨rfl,rfl,rfl⟩) (Gs.start hU b6 a1 k2 v8 (by omega) k3) ?_;intro q r g jg;have Wb:q<=top:=by
  have h3:=g.hq;have h4:q*1<=q*f1:=Nat.mul_le_mul_left q (by omega);omega
 have hr:=g.hr;have ig:=g.ge;by_cases hb:4294967296<=q
 ·obtain ⟨y1,y2,y3⟩:=g.next hU b6 a1 v8 g2 (Or.inl hb)
  (repeat' ((first|(apply AG<;>intro hc<;>try (exfalso;omega))|(apply B1;omega)|(apply FI;omega)|(apply H0;omega;omega)|(apply CB;omega)|apply AR|(refine BG (by assumption) ?_ rfl ?_;omega)|apply AE)<;>conv=>whnf))
  ·obtain ⟨t1,t2⟩:=Q2 hU b6 b5 oo k4 g2 y2 (Or.inr (by omega))
   exact BV [] (by (conv=>whnf);exact ⟨rfl,rfl,rfl⟩) (X5 (w:=w) (C:=C) hA hW D2 bu cq pq v8 t1 y3 t2 hk fh)
  ·exact BV [] (by (conv=>whnf);exact ⟨rfl,rfl,rfl⟩) (jg (q-1) (r+f1) (by omega) ⟨y2,by omega,y3⟩)
 ·have Vp:=Q8 (show q<4294967296 by omega) k4
  by_cases o7:r*4294967296+u2<q*f2
  ·obtain ⟨y1,y2,y3⟩:=g.next hU b6 a1 v8 g2 (Or.inr o7)
   (repeat' ((first|(apply AG<;>intro hc<;>try (exfalso;omega))|(apply BA;omega)|(apply B1;omega)|(apply NB;omega)|(apply MM;omega)|(apply CB;omega)|(refine BG (by assumption) ?_ rfl ?_;omega)|apply AE)<;>conv=>whnf))
   refine OA (v.length-2) w2 (by omega) ?_;(conv=>whnf)
   (repeat' ((first|(apply AG<;>intro hc<;>try (exfalso;omega))|(apply B1;omega)|(apply FI;omega)|(apply NC;omega)|(apply H0;omega;omega)|(apply CB;omega)|apply AR|(refine BG (by assumption) ?_ rfl ?_;omega))<;>conv=>whnf))
   ·obtain ⟨t1,t2⟩:=Q2 hU b6 b5 oo k4 g2 y2 (Or.inr (by omega))
    exact BV [] (by (conv=>whnf);exact ⟨rfl,rfl,rfl⟩) (X5 (w:=w) (C:=C) hA hW D2 bu cq pq v8 t1 y3 t2 hk fh)
   ·exact BV [] (by (conv=>whnf);exact ⟨rfl,rfl,rfl⟩) (jg (q-1) (r+f1) (by omega) ⟨y2,by omega,y3⟩)
  ·obtain ⟨t1,t2⟩:=Q2 hU b6 b5 oo k4 g2 g.hq (Or.inl ⟨by omega,by omega⟩)
   (repeat' ((first|(apply AG<;>intro hc<;>try (exfalso;omega))|(apply BA;omega)|(apply B1;omega)|(apply NB;omega)|(apply MM;omega)|(apply CB;omega)|(refine BG (by assumption) ?_ rfl ?_;omega)|apply AE)<;>conv=>whnf))
   refine OA (v.length-2) w2 (by omega) ?_;(conv=>whnf)
   (repeat' ((first|(apply AG<;>intro hc<;>try (exfalso;omega))|(apply NC;omega)|(apply CB;omega)|apply AR)<;>conv=>whnf))
   exact BV [] (by (conv=>whnf);exact ⟨rfl,rfl,rfl⟩) (X5 (w:=w) (C:=C) hA hW D2 bu cq pq v8 t1 ig t2 hk fh)
end
end Go.c4
