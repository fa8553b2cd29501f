/-
  The references of natural numbers (ref01): division.
-/
import Derived.Test.YtfnglkabkfmjcaaGreatB8
import Derived.Test.YtfnglkabkfmjcaaGreatB4
import Derived.Test.YtfnglkabkfmjcaaGreatB7
set_option linter.unusedSimpArgs false
set_option linter.unusedVariables false
set_option linter.unnecessarySimpa false
namespace Go.c9
open F
attribute [local irreducible] AA AF AP AD CI AY AW A6 A5 B2 AM BQ B8 C8 BM A1 BR B9 AB A7 AJ pw BO BH CH CK CS CP CD BT CJ
set_option maxHeartbeats 4000000
variable {L:Lib}
theorem AkH {V R y d t Q:Nat} (h:Q*y+R=V) (ht:t=R*4294967296+d):(t/y+4294967296*Q)*y+t%y=d+4294967296*V:=by
 have:=Nat.div_add_mod t y
 rw[<-h,Nat.add_mul];have e:t/y*y=y*(t/y):=Nat.mul_comm _ _;grind
theorem AgZ (N:b8 L) (x:List Nat) (Y:Nat) (q:Bool) (d1:A2 x) (hx:x.length<=549755813888) (h0:Y≠0) (hY:Y<4294967296):Ev L 108 [.sl q (x.map AL),.int .u32 (Y:Int)] (.j5 [.sl false ((dg (val x/Y)).map AL),.int .u32 ((val x%Y:Nat):Int)]):=by
 refine Ev.x N.RB rfl rfl ?_;(repeat' ((first|apply AR|apply AE)<;>conv=>whnf))
 refine EJ (enc:=AL) 0 x.length rfl (by omega) (by omega) ?_;(conv=>whnf)
 (repeat' ((first|(apply B7;omega)|apply AR)<;>conv=>whnf))
 refine GR (λ n _ _=>n) (λ(n:Nat) (o:List Nat) (r:Nat)=>n<=x.length/\o.length=x.length/\A2 o/\r<Y/\val (o.drop n)*Y+r=val (x.drop n)) (λ n o r=>[(7,.int .u64 (r:Int)),(8,.int .i64 ((n:Int)-1))]) (λ n o r=>[(11,11,.rw 1 (o.map AL))]) [] [] x.length (List.replicate x.length 0) 0 (by (conv=>whnf);exact ⟨rfl,rfl,rfl⟩) ⟨by omega,by simp,JS _,by omega,by rw[List.drop_of_length_le (Nat.le_refl _),List.drop_of_length_le (by simp)];simp [val]⟩ ?_;intro n o r ⟨p1,p2,p3,p4,p5⟩ ih;rcases n with _|n
 ·rw[List.drop_zero,List.drop_zero]at p5
  have hq:val x/Y=val o/\val x%Y=r:=by
   rw[<-p5];have e1:(val o*Y+r)/Y=val o:=by
    rw[Nat.mul_comm,Nat.mul_add_div (by omega),Nat.div_eq_of_lt p4,Nat.add_zero]
   have e2:(val o*Y+r)%Y=r:=by
    rw[Nat.mul_comm,Nat.mul_add_mod,Nat.mod_eq_of_lt p4]
   exact ⟨e1,e2⟩
  have hT:=λ q=>GE N o q p3 (by omega)
  rw[hq.1,hq.2,<-p2];clear ih hq p5;(repeat' ((first|(apply AG<;>intro hc<;>try (exfalso;omega))|(apply EI;omega)|(refine C9 (λ_=>rfl) rfl ?_ ?_;(first|rfl|simp))|apply AE|refine AC (hT _) ?_)<;>conv=>whnf))
  refine AX rfl ?_;simp only[A3,CG,and_true,true_and];exact CM _
 ·have e1:((n+1:Nat):Int)-1=n:=by omega
  rw[e1];obtain ⟨d,hd⟩ : ∃ d,x[n]? = some d:=⟨_,zE (by omega)⟩;have cj:=d1.at hd;have hR:r*4294967296+d<Y*4294967296:=by omega
  have ft:(r*4294967296+d)/Y<4294967296:=(Nat.div_lt_iff_lt_mul (by omega)).2 (by omega);(repeat' ((first|(apply AG<;>intro hc<;>try (exfalso;omega))|(apply AZ;omega)|(apply SX;omega)|(apply TV;omega)|(apply cJ;omega;omega)|(apply CR;omega)|(apply EI;omega)|(refine BA (by assumption) ?_ rfl ?_;omega)|apply AE)<;>conv=>whnf))
  obtain ⟨t,ht⟩ : ∃ t,t=r*4294967296+d:=⟨_,rfl⟩;rw[<-ht]at hR ft ⊢;have hm:t%Y<Y:=Nat.mod_lt _ (by omega);have k6:=AkH p5 ht;rw[<-HB hd]at k6;clear ht;skip
  refine FE (by omega) ?_;(conv=>whnf)
  (repeat' ((first|(apply B7;omega)|(apply ZI;omega)|(apply CR;omega))<;>conv=>whnf))
  generalize t/Y=tq at *;generalize t%Y=tr at *;refine BW [] (by (conv=>whnf);exact ⟨rfl,rfl,rfl⟩) (ih n _ _ (by omega) ⟨by omega,by simpa using p2,p3.set _ (by omega),hm,?_⟩);rw[HB (l:=o.set n tq) (d:=tq) (by rw[List.getElem?_set_self (by omega)]),List.drop_set_of_lt (by omega)];exact k6
theorem dG (a b:List Nat) (e:Int):A3 (.j5 [.sl false (a.map AL),.sl false (b.map AL),.int .i64 e]):=by
 simp only[A3,CG,and_true,true_and];exact ⟨CM a,CM b⟩
abbrev AeW:List It:=[It.lp DU.l1,It.g7 0,
   It.code
    (((BJ.ops DU.z8 false).dr [0,75,79,80] []).seq
     (((BJ.ops DU.aw false).dr [81,82,83,84,85] []).seq
      ((((BJ.ops DU.bp false).dr [86,87,88,89,90] []).seq
         (BJ.block 2 DU.l2.loop)).seq
       (((BJ.ops DU.Pc true).dr [9,10,11,12,13,14,92,277,278,279,280,281,282,283,284]
          []).seq
        BJ.ret))))]
abbrev dR:List It:=[It.lp DU.l2,It.g7 2,It.code
       (((BJ.ops DU.Pc true).dr [9,10,11,12,13,14,92,277,278,279,280,281,282,283,284]
          []).seq
        BJ.ret)]
abbrev dS (v:List Nat) (s ul m:Nat) (j:Int):Tm:=[(14,.int .i64 j),(13,.row 85 0 1 0 m),(12,.int .i64 v.length),(11,.sl false (v.map AL)),(10,.row 69 0 1 0 ul),(9,.int .i64 (s:Int))]
abbrev AeV:BJ:=(((BJ.ops DU.Jq false).dr [18,19,20,166,205,206,207] []).seq
                (((BJ.ops DU.Xb false).dr [208,209,210,211,212,213,214] []).seq
                 ((BJ.ops DU.Xc false).seq
                  ((((BJ.ops DU.Xd false).dr [215,216] []).seq
                     (BJ.cond 217
                      (((BJ.ops DU.Xf false).dr [18,217,218,219] []).seq
                       (BJ.ops DU.Xg false))
                      BJ.skip)).seq
                   (((BJ.ops DU.Xh false).dr
                      [23,24,217,220,221,222,223,224,225,226,227,228] []).seq
                    ((((BJ.ops DU.Xi false).dr [18,229] []).seq
                       (BJ.cond 230
                        (((BJ.ops DU.Xj false).dr [230,231,232] []).seq
                         ((BJ.ops DU.Xk false).seq
                          (((BJ.ops DU.Xl false).seq
                             (BJ.block 8 DU.l5.loop)).seq
                           ((BJ.ops DU.Xm false).dr
                            [25,26,235,262,263,264,265,266,267,268,269,270,271]
                            []))))
                        BJ.skip)).seq
                     ((BJ.ops DU.Xn false).dr [16,230,272,273,274,275,276]
                      [])))))))
abbrev AeX:List It:=It.lp DU.l4::It.g7 6::It.code AeV::It.g7 3::It.code ((BJ.ops DU.ct false).dr [93,94] [])::dR
section
variable {A W C w y:List Nat} {j m s ul q:Nat} {Q:Tm->Mem->Prop}
theorem XJ {e i n:Nat} (hi:i=A.length+n) (he:W[n]? = some e):(A++W++C)[i]? = some e:=by
 rw[Sp hi (zS he).1];exact he
theorem kG (hA:A.length=j) (hW:W.length=y.length+1) (D2:A2 W) (fo:A2 y) (gm:2<=y.length) (wo:y.length<=549755813888) (au:0<val y) (cp:j<=1099511627776)
  (je:ul=j+(y.length+1)+C.length) (Jl:w.length=m) (Iy:j<m)
  (r1:q<4294967296) (r2:val W/val y<=q) (r3:q<=val W/val y+1)
  (hk : ∀ (W':List Nat) (q':Nat),W'.length=y.length+1->A2 W'->val W'=val W%val y->q'=val W/val y->AA L dR (dS y s ul m ((j:Int)-1)) [(69,101021,.rw 1 ((A++W'++C).map AL)),(85,85,.rw 1 ((w.set j q').map AL))] Q) :
  AA L AeX ([(20,.int .i64 0),(19,.int .u64 0),(18,.int .u64 0),(16,.int .u64 (q:Int))]++dS y s ul m (j:Int)) [(69,101021,.rw 1 ((A++W++C).map AL)),(85,85,.rw 1 (w.map AL))] Q:=by
 refine bW (λ i _ _ _=>y.length-i) (λ(i:Nat) (Z:List Nat) (c b:Nat)=>i<=y.length/\Z.length=y.length+1/\A2 Z/\c<4294967296/\b<=1/\Z.drop i=W.drop i/\val (Z.take i)+q*val (y.take i)=val (W.take i)+4294967296^i*(c+b)) (λ i Z c b=>[(20,.int .i64 i),(18,.int .u64 (b:Int)),(19,.int .u64 (c:Int))]) (λ i Z c b=>[(69,101021,.rw 1 ((A++Z++C).map AL))]) [] [] 0 W 0 0 (by (conv=>whnf);exact ⟨rfl,rfl,rfl⟩) ⟨by omega,hW,D2,by omega,by omega,rfl,by simp [val]⟩ ?_;intro i Z c b ⟨p1,p2,p3,p4,p5,p6,p7⟩ ih;by_cases hi:i<y.length
 ·obtain ⟨d,hd⟩ : ∃ d,y[i]? = some d:=⟨_,zE hi⟩
  obtain ⟨u,hu⟩ : ∃ u,Z[i]? = some u:=⟨_,zE (by omega)⟩;have cj:=fo.at hd;have nr:=p3.at hu;have Jf:(A++Z++C)[((i:Int)+(j:Int)).toNat]? = some u:=XJ (by omega) hu;obtain ⟨pr,ug⟩ : ∃ pr,pr=c+q*d:=⟨_,rfl⟩;obtain ⟨m1,m2,m3⟩:=zD r1 cj p4 (show pr=q*d+c by omega);have ym:W[i]? = some u:=by
   have e1:(Z.drop i)[0]? = (W.drop i)[0]? := by rw[p6]
   simpa [hu] using e1.symm
  have qf : ∀ w,(Z.set i w).drop (i+1)=W.drop (i+1):=λ w=>by
   rw[List.drop_set_of_lt (by omega)];have e1:(Z.drop i).drop 1=(W.drop i).drop 1:=by rw[p6]
   simpa using e1
  have k6 : ∀ have' take w db,take=pr%4294967296+b->((have'=u/\db=0/\take<=u)\/(have'=u+4294967296/\db=1/\u<take))->w+take=have'->val ((Z.set i w).take (i+1))+q*val (y.take (i+1))=val (W.take (i+1))+4294967296^(i+1)*(pr/4294967296+db):=λ have' take w db a1 a2 a3=>by
   rw[F6 (by omega),EB hd,EB ym,Nat.pow_succ];exact Ajg p7 ug a1 a2 a3
  by_cases l9:u<pr%4294967296+b
  ·have h3:=k6 (u+4294967296) (pr%4294967296+b) (u+4294967296-(pr%4294967296+b)) 1 rfl (Or.inr ⟨rfl,rfl,l9⟩) (by omega)
   (repeat' ((first|(apply AG<;>intro hc<;>try (exfalso;omega))|(apply AZ;omega)|(apply AU;omega)|(apply GC;omega)|(apply TU;omega)|(apply qZ;omega)|(apply JP;omega;omega)|apply FL|(apply cH;omega)|(apply CR;omega)|(apply EI;omega)|(refine BA (by assumption) ?_ rfl ?_;omega)|refine J3 (by assumption) ?_|apply AE)<;>conv=>whnf))
   rw[<-ug];skip
   refine SY i (by omega) (by omega) ?_;(conv=>whnf)
   (repeat' ((first|(apply AU;omega)|fail)<;>conv=>whnf))
   exact BW [] (by (conv=>whnf);exact ⟨rfl,rfl,rfl⟩) (ih (i+1) (Z.set i (u+4294967296-(pr%4294967296+b))) (pr/4294967296) 1 (by omega) ⟨by omega,by simpa using p2,p3.set _ (by omega),m1,by omega,qf _,h3⟩)
  ·have h3:=k6 u (pr%4294967296+b) (u-(pr%4294967296+b)) 0 rfl (Or.inl ⟨rfl,rfl,by omega⟩) (by omega)
   (repeat' ((first|(apply AG<;>intro hc<;>try (exfalso;omega))|(apply AZ;omega)|(apply AU;omega)|(apply GC;omega)|(apply TU;omega)|(apply qZ;omega)|(apply JP;omega;omega)|apply FL|(apply CR;omega)|(apply EI;omega)|(refine BA (by assumption) ?_ rfl ?_;omega)|refine J3 (by assumption) ?_|apply AE)<;>conv=>whnf))
   rw[<-ug];skip
   refine SY i (by omega) (by omega) ?_;(conv=>whnf)
   (repeat' ((first|(apply AU;omega)|fail)<;>conv=>whnf))
   exact BW [] (by (conv=>whnf);exact ⟨rfl,rfl,rfl⟩) (ih (i+1) (Z.set i (u-(pr%4294967296+b))) (pr/4294967296) 0 (by omega) ⟨by omega,by simpa using p2,p3.set _ (by omega),m1,by omega,qf _,h3⟩)
 ·obtain rfl:i=y.length:=by omega
  clear ih;obtain ⟨u,hu⟩ : ∃ u,Z[y.length]? = some u:=⟨_,zE (by omega)⟩;have nr:=p3.at hu;have Jf:(A++Z++C)[((j:Int)+(y.length:Int)).toNat]? = some u:=XJ (by omega) hu;have ym:W[y.length]? = some u:=by
   have e1:(Z.drop y.length)[0]? = (W.drop y.length)[0]? := by rw[p6]
   simpa [hu] using e1.symm
  rw[DE (Nat.le_refl y.length)]at p7;have eW:val W=val (W.take y.length)+4294967296^y.length*u:=by
   rw[<-EB ym,DE (by omega)]
  have k6 : ∀ have' take w db,take=c+b->((have'=u/\db=0/\take<=u)\/(have'=u+4294967296/\db=1/\u<take))->w+take=have'->val (Z.set y.length w)+q*val y=val W+4294967296^y.length*4294967296*db:=λ have' take w db a1 a2 a3=>by
   have h1:=Aje p7 a1 a2 a3;rw[<-eW,<-F6 (show y.length<Z.length by omega),DE (by simp;omega)]at h1;exact h1
  by_cases l9:u<c+b
  ·have h3:=k6 (u+4294967296) (c+b) (u+4294967296-(c+b)) 1 rfl (Or.inr ⟨rfl,rfl,l9⟩) (by omega)
   have Fm:A2 (Z.set y.length (u+4294967296-(c+b))):=p3.set _ (by omega);have pt:(Z.set y.length (u+4294967296-(c+b))).length=y.length+1:=by simpa using p2
   rw[Nat.mul_one]at h3;have Dw:=E6 Fm;rw[pt,Nat.pow_succ]at Dw;obtain ⟨y1,y2,y3⟩:=tX au r3 Dw h3;(repeat' ((first|(apply AG<;>intro hc<;>try (exfalso;omega))|(apply AZ;omega)|(apply AU;omega)|(apply GC;omega)|(apply JP;omega;omega)|(apply cH;omega)|(apply CR;omega)|(apply EI;omega)|refine J3 (by assumption) ?_|apply AE)<;>conv=>whnf))
   refine SY y.length (by omega) (by omega) ?_;(conv=>whnf)
   (repeat' ((first|(apply AG<;>intro hc<;>try (exfalso;omega))|(apply JP;omega;omega))<;>conv=>whnf))
   clear p7 p6 eW hu ym nr Jf p2 p3 k6;generalize Z.set y.length (u+4294967296-(c+b))=X at *;have hRV:val W%val y<val y:=Nat.mod_lt _ au;have Bw:=E6 fo;obtain ⟨xw,Di⟩ : ∃ xw,X[y.length]? = some xw:=⟨_,zE (by omega)⟩;have eX:val X=val (X.take y.length)+4294967296^y.length*xw:=by
    rw[<-EB Di,DE (by omega)]
   have tj:q-1<4294967296:=by omega
   refine GR (λ i _ _=>y.length-i) (λ(i:Nat) (Z:List Nat) (c:Nat)=>i<=y.length/\Z.length=y.length+1/\A2 Z/\c<=1/\Z.drop i=X.drop i/\val (Z.take i)+4294967296^i*c=val (X.take i)+val (y.take i)) (λ i Z c=>[(26,.int .i64 i),(25,.int .u64 (c:Int))]) (λ i Z c=>[(69,101021,.rw 1 ((A++Z++C).map AL))]) [] [] 0 X 0 (by (conv=>whnf);exact ⟨rfl,rfl,rfl⟩) ⟨by omega,pt,Fm,by omega,rfl,by simp [val]⟩ ?_;intro i Z c ⟨p1,p2,p3,p4,p6,p7⟩ ih;by_cases hi:i<y.length
   ·obtain ⟨d,hd⟩ : ∃ d,y[i]? = some d:=⟨_,zE hi⟩
    obtain ⟨u,hu⟩ : ∃ u,Z[i]? = some u:=⟨_,zE (by omega)⟩;have cj:=fo.at hd;have nr:=p3.at hu;have Jf:(A++Z++C)[((i:Int)+(j:Int)).toNat]? = some u:=XJ (by omega) hu;have mv:X[i]? = some u:=by
     have e1:(Z.drop i)[0]? = (X.drop i)[0]? := by rw[p6]
     simpa [hu] using e1.symm
    have jk:=rM (d:=d) (w:=u) (t:=c+(u+d)) p7 (by omega);(repeat' ((first|(apply AG<;>intro hc<;>try (exfalso;omega))|(apply AZ;omega)|(apply AU;omega)|(apply GC;omega)|(apply CR;omega)|apply FW|(refine BA (by assumption) ?_ rfl ?_;omega)|refine J3 (by assumption) ?_|apply AE)<;>conv=>whnf))
    generalize Od:c+(u+d)=t2 at *;refine SY i (by omega) (by omega) ?_;(conv=>whnf)
    (repeat' ((first|(apply AU;omega)|apply FL)<;>conv=>whnf))
    refine BW [] (by (conv=>whnf);exact ⟨rfl,rfl,rfl⟩) (ih (i+1) (Z.set i (t2%4294967296)) (t2/4294967296) (by omega) ⟨by omega,by simpa using p2,p3.set _ (by omega),by omega,?_,?_⟩)
    ·rw[List.drop_set_of_lt (by omega)]
     have e1:(Z.drop i).drop 1=(X.drop i).drop 1:=by rw[p6]
     simpa using e1
    ·rw[F6 (by omega),EB hd,EB mv,Nat.pow_succ]
     exact jk
   ·obtain rfl:i=y.length:=by omega
    clear ih;obtain ⟨u,hu⟩ : ∃ u,Z[y.length]? = some u:=⟨_,zE (by omega)⟩;have nr:=p3.at hu;have Jf:(A++Z++C)[((j:Int)+(y.length:Int)).toNat]? = some u:=XJ (by omega) hu;have mv:X[y.length]? = some u:=by
     have e1:(Z.drop y.length)[0]? = (X.drop y.length)[0]? := by rw[p6]
     simpa [hu] using e1.symm
    rw[mv]at Di;obtain rfl:u=xw:=by simpa using Di
    rw[DE (Nat.le_refl y.length)]at p7;have Fo:=E6 (p3.take y.length);rw[List.length_take,Nat.min_eq_left (by omega)]at Fo;rw[eX]at y3;have gi:=rL p7 y3 (by omega) Fo;rw[<-F6 (show y.length<Z.length by omega),DE (by simp;omega)]at gi;(repeat' ((first|(apply AG<;>intro hc<;>try (exfalso;omega))|(apply AZ;omega)|(apply AU;omega)|apply qY|(apply EI;omega)|refine J3 (by assumption) ?_|apply AE)<;>conv=>whnf))
    refine SY y.length (by omega) (by omega) ?_;(conv=>whnf)
    (repeat' ((first|(apply AZ;omega)|(apply EI;omega))<;>conv=>whnf))
    refine FE (by omega) ?_;(conv=>whnf)
    (repeat' ((first|(apply B7;omega)|fail)<;>conv=>whnf))
    exact BW [] (by (conv=>whnf);exact ⟨rfl,rfl,rfl⟩) (hk _ _ (by simpa using p2) (p3.set _ (by omega)) gi y1)
  ·have h3:=k6 u (c+b) (u-(c+b)) 0 rfl (Or.inl ⟨rfl,rfl,by omega⟩) (by omega)
   rw[Nat.mul_zero,Nat.add_zero]at h3;obtain ⟨y1,y2⟩:=tY au r2 h3;(repeat' ((first|(apply AG<;>intro hc<;>try (exfalso;omega))|(apply AZ;omega)|(apply AU;omega)|(apply GC;omega)|(apply JP;omega;omega)|(apply CR;omega)|(apply EI;omega)|refine J3 (by assumption) ?_|apply AE)<;>conv=>whnf))
   refine SY y.length (by omega) (by omega) ?_;(conv=>whnf)
   (repeat' ((first|(apply AG<;>intro hc<;>try (exfalso;omega))|(apply AZ;omega)|(apply EI;omega))<;>conv=>whnf))
   refine FE (by omega) ?_;(conv=>whnf)
   (repeat' ((first|(apply B7;omega)|fail)<;>conv=>whnf))
   exact BW [] (by (conv=>whnf);exact ⟨rfl,rfl,rfl⟩) (hk _ _ (by simpa using p2) (p3.set _ (by omega)) y2 y1)
theorem AeY (hA:A.length=j) (hW:W.length=y.length+1) (D2:A2 W) (fo:A2 y) (gm:2<=y.length) (wo:y.length<=549755813888) (au:0<val y) (cp:j<=1099511627776)
  (n2:4294967296^(y.length-1)*2147483648<=val y) (g2:val W<4294967296*val y) (je:ul=j+(y.length+1)+C.length) (Jl:w.length=m) (Iy:j<m)
  (hk : ∀ (W':List Nat) (q':Nat),W'.length=y.length+1->A2 W'->val W'=val W%val y->q'=val W/val y->AA L dR (dS y s ul m ((j:Int)-1)) [(69,101021,.rw 1 ((A++W'++C).map AL)),(85,85,.rw 1 ((w.set j q').map AL))] Q) :
  AA L (.code DU.l2::dR) (dS y s ul m (j:Int)) [(69,101021,.rw 1 ((A++W++C).map AL)),(85,85,.rw 1 (w.map AL))] Q:=by
 obtain ⟨UL,a1,a2⟩:=iH D2 (n:=y.length+1) (by omega) (by omega);obtain ⟨VL,b5,b6⟩:=Sc fo (n:=y.length) gm (by omega);obtain ⟨u0,w0⟩ : ∃ d,W[y.length]? = some d:=⟨_,zE (by omega)⟩;obtain ⟨u1,w1⟩ : ∃ d,W[y.length-1]? = some d:=⟨_,zE (by omega)⟩;obtain ⟨u2,w2⟩ : ∃ d,W[y.length-2]? = some d:=⟨_,zE (by omega)⟩;obtain ⟨f1,x1⟩ : ∃ d,y[y.length-1]? = some d:=⟨_,zE (by omega)⟩;obtain ⟨f2,x2⟩ : ∃ d,y[y.length-2]? = some d:=⟨_,zE (by omega)⟩;rw[show y.length+1-3=y.length-2 by omega,show y.length+1-2=y.length-1 by omega,show y.length+1-1=y.length by omega,GU w0,GU w1,GU w2]at a2;rw[show y.length+1-3=y.length-2 by omega]at a1;rw[GU x1,GU x2]at b6;have vg:=Rw fo (k:=y.length-1) (by omega) n2 x1;have k0:=D2.at w0;have k1:=D2.at w1;have k2:=D2.at w2;have k3:=fo.at x1;have k4:=fo.at x2;have z1:y[((y.length:Int)-1).toNat]? = some f1:=by rw[show ((y.length:Int)-1).toNat=y.length-1 by omega];exact x1
 have z2:y[((y.length:Int)-2).toNat]? = some f2:=by rw[show ((y.length:Int)-2).toNat=y.length-2 by omega];exact x2
 have s9:(A++W++C)[((j:Int)+(y.length:Int)).toNat]? = some u0:=XJ (by omega) w0;(repeat' ((first|(apply AG<;>intro hc<;>try (exfalso;omega))|(apply AZ;omega)|(apply AU;omega)|(apply B7;omega)|(apply SX;omega)|(apply CR;omega)|refine J3 (by assumption) ?_|apply AE)<;>conv=>whnf))
 have ak:(A++W++C)[((j:Int)+(y.length:Int)-1).toNat]? = some u1:=XJ (by omega) w1;refine Yx ak ?_;(conv=>whnf)
 refine qR (by omega) ?_;(conv=>whnf)
 refine TV (by omega) ?_;(conv=>whnf)
 clear s9 ak;have bj:(A++W++C)[((j:Int)+(y.length:Int)-2).toNat]? = some u2:=XJ (by omega) w2;generalize Og:u0*4294967296+u1=top at *;have pc:top<=18446744073709551615:=by omega
 have hU:val W=UL+4294967296^(y.length-2)*(u2+4294967296*top):=by rw[a2,show u1+4294967296*u0=top by omega]
 (repeat' ((first|(apply B7;omega)|(apply ZI;omega)|(apply cJ;omega;omega)|(apply CR;omega)|(refine BA (by assumption) ?_ rfl ?_;omega))<;>conv=>whnf))
 refine FV (λ q _=>q) (λ(q r:Nat)=>Gs (val W) (val y) f1 f2 u2 top q r) (λ q r=>[(16,.int .u64 (q:Int)),(17,.int .u64 (r:Int))]) (λ_ _=>[]) [] [] (top/f1) (top%f1) (by (conv=>whnf);exact ⟨rfl,rfl,rfl⟩) (Gs.start hU b6 a1 k2 au (by omega) k3) ?_;intro q r g pf;have hqt:q<=top:=by
  have h3:=g.hq;have h4:q*1<=q*f1:=Nat.mul_le_mul_left q (by omega);omega
 have hr:=g.hr;have kg:=g.ge;by_cases hb:4294967296<=q
 ·obtain ⟨y1,y2,y3⟩:=g.next hU b6 a1 au g2 (Or.inl hb)
  (repeat' ((first|(apply AG<;>intro hc<;>try (exfalso;omega))|(apply B7;omega)|(apply GC;omega)|(apply JP;omega;omega)|(apply CR;omega)|(refine BA (by assumption) ?_ rfl ?_;omega)|apply AE)<;>conv=>whnf))
  ·obtain ⟨t1,t2⟩:=YP hU b6 b5 vg k4 g2 y2 (Or.inr (by omega))
   exact BW [] (by (conv=>whnf);exact ⟨rfl,rfl,rfl⟩) (kG (w:=w) (C:=C) hA hW D2 fo gm wo au cp je Jl Iy t1 y3 t2 hk)
  ·exact BW [] (by (conv=>whnf);exact ⟨rfl,rfl,rfl⟩) (pf (q-1) (r+f1) (by omega) ⟨y2,by omega,y3⟩)
 ·have hmq:=YV (show q<4294967296 by omega) k4
  by_cases u7:r*4294967296+u2<q*f2
  ·obtain ⟨y1,y2,y3⟩:=g.next hU b6 a1 au g2 (Or.inr u7)
   (repeat' ((first|(apply AG<;>intro hc<;>try (exfalso;omega))|(apply AZ;omega)|(apply AU;omega)|(apply B7;omega)|(apply GC;omega)|(apply TU;omega)|(apply SX;omega)|(apply TV;omega)|(apply JP;omega;omega)|(apply CR;omega)|(refine BA (by assumption) ?_ rfl ?_;omega)|refine J3 (by assumption) ?_|apply AE)<;>conv=>whnf))
   ·obtain ⟨t1,t2⟩:=YP hU b6 b5 vg k4 g2 y2 (Or.inr (by omega))
    exact BW [] (by (conv=>whnf);exact ⟨rfl,rfl,rfl⟩) (kG (w:=w) (C:=C) hA hW D2 fo gm wo au cp je Jl Iy t1 y3 t2 hk)
   ·exact BW [] (by (conv=>whnf);exact ⟨rfl,rfl,rfl⟩) (pf (q-1) (r+f1) (by omega) ⟨y2,by omega,y3⟩)
  ·obtain ⟨t1,t2⟩:=YP hU b6 b5 vg k4 g2 g.hq (Or.inl ⟨by omega,by omega⟩)
   (repeat' ((first|(apply AG<;>intro hc<;>try (exfalso;omega))|(apply AZ;omega)|(apply AU;omega)|(apply B7;omega)|(apply TU;omega)|(apply SX;omega)|(apply TV;omega)|(apply CR;omega)|(refine BA (by assumption) ?_ rfl ?_;omega)|refine J3 (by assumption) ?_|apply AE)<;>conv=>whnf))
   exact BW [] (by (conv=>whnf);exact ⟨rfl,rfl,rfl⟩) (kG (w:=w) (C:=C) hA hW D2 fo gm wo au cp je Jl Iy t1 kg t2 hk)
end
theorem Alg {l:List Nat} (hD:A2 l) (h:l[l.length-1]? = some 0):val l<4294967296^(l.length-1):=by
 have hl:=(zS h).1;have h1:=LZ l (l.length-1) (by omega);have h2:=HB h;rw[List.drop_of_length_le (show l.length<=l.length-1+1 by omega),JN]at h2;rw[h2]at h1;simp only[Nat.mul_zero,Nat.add_zero]at h1;have h3:=E6 (hD.take (l.length-1));rw[List.length_take,Nat.min_eq_left (by omega)]at h3;omega
theorem uB (N:b8 L) {X Y s:Nat} {x u y:List Nat} (hY:Y≠0) (du:s<=31) (Ij:A2 u) (Io:val u=X*2^s) (hU0:u[u.length-1]? = some 0) (je:x.length+1<=u.length/\u.length<=549755813888) (fo:A2 y) (Ip:val y=Y*2^s) (iw:2<=y.length/\y.length<=x.length) (n2:4294967296^(y.length-1)*2147483648<=val y) :
  AA L AeW [(10,.row 69 0 1 0 u.length),(11,.sl false (y.map AL)),(9,.int .i64 (s:Int)),(0,.sl false (x.map AL))] [(69,101021,.rw 1 (u.map AL))] (U5 DU (.j5 [.sl false ((dg (X/Y)).map AL),.sl false ((dg (X%Y)).map AL),.int .i64 0])):=by
 refine BP (λ(_:Nat)=>0) (λ_=>True) (λ_=>[]) (λ_=>[]) [] [] 0 (by (conv=>whnf);exact ⟨rfl,rfl,rfl⟩) trivial ?_;intro _ _ _;(repeat' ((first|(apply AG<;>intro hc<;>try (exfalso;omega))|(apply AU;omega)|(apply B7;omega)|apply AR|apply AE)<;>conv=>whnf))
 refine EJ (enc:=AL) 0 (u.length-y.length) (by rfl) (by omega) (by omega) ?_;(conv=>whnf)
 (repeat' ((first|(apply B7;omega)|fail)<;>conv=>whnf))
 have au:0<val y:=by
  have:=Ro (y.length-1)
  omega
 have Bx:=E6 fo;generalize hm:u.length-y.length=m at *;have rn:val (u.drop m)<val y:=by
  have h1:(u.drop m).length=y.length:=by simp;omega
  have h2:=Alg (l:=u.drop m) (Ij.drop _) (by rw[h1,List.getElem?_drop,show m+(y.length-1)=u.length-1 by omega];exact hU0);rw[h1]at h2;omega
 rw[show (u.length:Int)-y.length-1=((m:Nat):Int)-1 by omega];refine GR (λ n _ _=>n) (λ(n:Nat) (o w:List Nat)=>n<=m/\o.length=u.length/\A2 o/\w.length=m/\A2 w/\val (o.drop n)<val y/\X*2^s=val (o.take n)+4294967296^n*(val (w.drop n)*val y+val (o.drop n))) (λ n o w=>[(14,.int .i64 ((n:Int)-1))]) (λ n o w=>[(69,101021,.rw 1 (o.map AL)),(85,85,.rw 1 (w.map AL))]) [] [] m u (List.replicate m 0) (by (conv=>whnf);exact ⟨rfl,rfl,rfl⟩) ⟨by omega,rfl,Ij,by simp,JS _,rn,by rw[<-Io,List.drop_of_length_le (show (List.replicate m 0).length<=m by simp),JN,Nat.zero_mul,Nat.zero_add];exact LZ u m (by omega)⟩ ?_;intro n o w ⟨p1,p2,p3,p4,p5,p6,p7⟩ ih;rcases n with _|j
 ·clear ih
  rw[List.drop_zero]at p6;rw[List.take_zero,List.drop_zero,List.drop_zero,JN,Nat.zero_add,Nat.pow_zero,Nat.one_mul]at p7;have qf:val o=val (o.take y.length):=by
   have h1:=XG o y.length;rcases Nat.eq_zero_or_pos (val (o.drop y.length)) with h2|h2
   ·rw[h2,Nat.mul_zero,Nat.add_zero]at h1;exact h1
   ·have h3:4294967296^y.length*1<=4294967296^y.length*val (o.drop y.length):=Nat.mul_le_mul_left _ h2
    omega
  have xm:X/Y=val w/\X%Y=val o/2^s:=by
   obtain ⟨z1,z2⟩:=uA (X:=X) (Y:=Y) (Nat.two_pow_pos s);rw[<-z1,<-z2,<-Ip,p7];have e1:(val w*val y+val o)/val y=val w:=by
    rw[Nat.mul_comm,Nat.mul_add_div au,Nat.div_eq_of_lt p6,Nat.add_zero]
   have e2:(val w*val y+val o)%val y=val o:=by
    rw[Nat.mul_comm,Nat.mul_add_mod,Nat.mod_eq_of_lt p6]
   rw[e1,e2];exact ⟨rfl,rfl⟩
  rw[xm.1,xm.2,qf];have hT:=λ q=>GE N w q p5 (by omega)
  have bm:(o.take y.length).length<=549755813888:=by rw[List.length_take];omega
  clear p7 xm rn;rw[<-p4];rcases Nat.eq_zero_or_pos s with h0|h0
  ·subst h0
   have hS:=λ q=>wA N (o.take y.length) q 0 (p3.take _) bm (by omega)
   rw[Nat.pow_zero,Nat.mul_one]at hS;rw[Nat.pow_zero,Nat.div_one];(repeat' ((first|(apply AG<;>intro hc<;>try (exfalso;omega))|(refine C9 (λ_=>rfl) rfl ?_ ?_;(first|rfl|simp))|apply AE|refine AC (hT _) ?_)<;>conv=>whnf))
   refine HD y.length rfl (by omega) ?_;(conv=>whnf)
   refine CI.neg (by omega) ?_;(conv=>whnf)
   refine H5 (enc:=AL) (λ_=>rfl) (by omega) ?_;(conv=>whnf)
   rw[List.drop_zero,Nat.sub_zero,show -((0:Nat):Int)=((0:Nat):Int) by omega];(repeat' (refine AC (hS _) ?_<;>conv=>whnf))
   exact AX rfl (dG _ _ _)
  ·have hS:=λ q=>AgY N (o.take y.length) q s (p3.take _) bm (by omega)
   (repeat' ((first|(apply AG<;>intro hc<;>try (exfalso;omega))|(refine C9 (λ_=>rfl) rfl ?_ ?_;(first|rfl|simp))|apply AE|refine AC (hT _) ?_)<;>conv=>whnf))
   refine HD y.length rfl (by omega) ?_;(conv=>whnf)
   refine CI.neg (by omega) ?_;(conv=>whnf)
   refine H5 (enc:=AL) (λ_=>rfl) (by omega) ?_;(conv=>whnf)
   rw[List.drop_zero,Nat.sub_zero];(repeat' (refine AC (hS _) ?_<;>conv=>whnf))
   exact AX rfl (dG _ _ _)
 ·have e3:((j+1:Nat):Int)-1=j:=by omega
  rw[e3];obtain ⟨A,W,C,hA,hW,rfl⟩:=uU o j (y.length+1) (by omega);obtain ⟨g1,g2,g3⟩:=uW hA hW p3 p6 Bx;obtain ⟨D1,D2,D3⟩:=tW p3;have tj:val W/val y<4294967296:=(Nat.div_lt_iff_lt_mul au).2 g2;have Ky:val W=val W/val y*val y+val W%val y:=by rw[Nat.mul_comm];exact (Nat.div_add_mod _ _).symm
  have Bz:val W%val y<val y:=Nat.mod_lt _ au;have Bv:X*2^s=val A+4294967296^j*val W+4294967296^j*4294967296*(val (w.drop (j+1))*val y):=by
   rw[p7,Nat.mul_add,<-g3,Nat.pow_succ];omega
  have ri:=uV Bv Ky;have qi : ∀ q',q'=val W/val y->val ((w.set j q').drop j)=val W/val y+4294967296*val (w.drop (j+1)):=λ q' h=>by
   rw[HB (l:=w.set j q') (d:=q') (by rw[List.getElem?_set_self (by omega)]),List.drop_set_of_lt (by omega),h]
  have hlen : ∀ W':List Nat,W'.length=y.length+1->(A++W'++C).length=u.length:=λ W' h=>by
   rw[<-p2];simp [h,hW]
  have Vz:u.length=j+(y.length+1)+C.length:=by rw[<-p2];simp [hA,hW];omega
  refine BW [] (by (conv=>whnf);exact ⟨rfl,rfl,rfl⟩) (AeY (m:=m) (s:=s) (ul:=u.length) (C:=C) hA hW D2 fo iw.1 (by omega) au (by omega) n2 g2 Vz p4 (by omega) (λ W' q' z1 z2 z3 z4 => ?_));obtain ⟨t1,t2⟩:=kP (A:=A) (W:=W') (C:=C) (j:=j) hA g1;refine BW [] (by (conv=>whnf);exact ⟨rfl,rfl,rfl⟩) (ih j (A++W'++C) (w.set j q') (by omega) ⟨by omega,hlen W' z1,(D1.append z2).append D3,by simpa using p4,p5.set _ (by omega),by omega,?_⟩);rw[t1,t2,qi q' z4,z3];exact ri
end Go.c9
namespace Go.c9
open F
attribute [local irreducible] AA AF AP AD CI AY AW A6 A5 B2 AM BQ B8 C8 BM A1 BR B9 AB A7 AJ pw BO BH CH CK CS CP CD BT CJ
variable {L:Lib}
set_option maxHeartbeats 8000000
theorem vZ (N:b8 L) (a b:List Nat) (q1 q2:Bool) (hA:A2 a) (hB:A2 b) (la:a.length<=274877906944) (lb:b.length<=274877906944) (h0:val b≠0) :
  Ev L 109 [.sl q1 (a.map AL),.sl q2 (b.map AL)] (.j5 [.sl false ((dg (val a/val b)).map AL),.sl false ((dg (val a%val b)).map AL),.int .i64 0]):=by
 have t1:=λ q=>GE N a q hA (by omega)
 have t2:=λ q=>GE N b q hB (by omega)
 have l1:=EX hA;have l2:=EX hB;have m4:=λ q q'=>lD N (dg (val a)) (dg (val b)) q q' (DX _) (DX _) (by omega) (by omega)
 rw[B3,B3]at m4;generalize val a=X at *;generalize val b=Y at *;have d1:=DX X;have d2:=DX Y;have v1:=B3 X;have v2:=B3 Y;have hy1:=Z2 h0;refine Ev.x N.DU rfl rfl ?_;by_cases h1:(dg Y).length=1
 ·obtain ⟨y0,nv⟩ : ∃ y0,dg Y=[y0]:=List.length_eq_one_iff.1 h1
  have xy:Y=y0:=by rw[<-v2,nv];simp [val]
  subst xy;have Bc:Y<4294967296:=d2 Y (by rw[nv];simp);have hyg:(dg Y)[(0:Int).toNat]? = some Y:=by rw[nv];rfl
  have Wm:=λ q=>AgZ N (dg X) Y q d1 (by omega) h0 Bc
  rw[v1]at Wm;have jd:X%Y<4294967296:=Nat.lt_trans (Nat.mod_lt _ (by omega)) Bc;have Ii:=λ q=>GE N [X%Y] q (HR jd) (by simp)
  rw[show val [X%Y]=X%Y by simp [val]]at Ii;clear nv v2;generalize dg Y=y at *;(repeat' ((first|(apply AG<;>intro hc<;>try (exfalso;omega))|apply AR|(refine BA (by assumption) ?_ rfl ?_;omega)|refine JQ rfl ?_|apply AE|refine AC (t1 _) ?_|refine AC (t2 _) ?_|refine AC (Wm _) ?_|refine AC (Ii _) ?_)<;>conv=>whnf))
  exact AX rfl (dG _ _ _)
 by_cases l9:X<Y
 ·rw[<-IR (by omega)]at m4
  (repeat' ((first|(apply AG<;>intro hc<;>try (exfalso;omega))|apply AR|apply AE|refine AC (t1 _) ?_|refine AC (t2 _) ?_|refine AC (m4 _ _) ?_)<;>conv=>whnf))
  refine AX ?_ (dG _ _ _);rw[Nat.div_eq_of_lt l9,Nat.mod_eq_of_lt l9,E4];rfl
 have kg:=dI (show Y<=X by omega);generalize DC X Y=cm at *;have Jc:2<=(dg Y).length:=by omega
 obtain ⟨yt,zk,zl⟩:=kD h0;have wu:=d2.at zk;obtain ⟨b1,b2,b3,b4⟩:=mP zl wu;have fy:=λ q=>AgV N yt q zl wu
 generalize hs:32-o4 yt=s at *;have du:s<=31:=by omega
 have Ob:=λ q=>wA N (dg Y) q s d2 (by omega) (by omega)
 obtain ⟨n1,n2⟩:=mK d2 zk (by omega) du b3 b4;rw[v2]at Ob n1 n2;have qf:(dg Y).drop ((dg Y).length-1)=[yt]:=by
  obtain ⟨hi,he⟩:=zS zk;rw[List.drop_eq_getElem_cons hi,he,List.drop_of_length_le (by omega)]
 have iw:(dg (Y*2^s)).length=(dg Y).length:=by
  have a1:=S9.2 n1;have a2 : ¬ (dg (Y*2^s)).length<=(dg Y).length-1:=λ h=>by
   have:=S9.1 h
   omega
  omega
 have AuD:(dg (X*2^s)).length<=(dg X).length+1:=by
  refine S9.2 ?_;have a1:X<4294967296^(dg X).length:=S9.1 (Nat.le_refl _);rw[Nat.pow_succ];have a2:=aY (s:=s) (by omega);exact Nat.lt_of_lt_of_le (Nat.mul_lt_mul_of_pos_right a1 (Nat.two_pow_pos s)) (Nat.mul_le_mul_left _ a2)
 have pt:(dg X).length<=(dg (X*2^s)).length:=VB (Nat.le_mul_of_pos_right _ (Nat.two_pow_pos s));have xq:=VB (show Y<=X by omega);generalize hx:dg X=x at *;generalize hy:dg Y=y at *;have t3:=λ q=>GE N x q d1 (by omega)
 rw[v1,hx]at t3;(repeat' ((first|(apply AG<;>intro hc<;>try (exfalso;omega))|(apply B7;omega)|apply AR|apply AE|refine AC (t1 _) ?_|refine AC (t2 _) ?_|refine AC (m4 _ _) ?_)<;>conv=>whnf))
 rw[show (y.length:Int)-1=((y.length-1:Nat):Int) by omega];refine Zr (k:=y.length-1) (λ_=>rfl) (by omega) ?_;(conv=>whnf)
 rw[qf];(repeat' ((first|(apply B7;omega)|refine AC (fy _) ?_)<;>conv=>whnf))
 rw[show (32:Int)-(o4 yt:Nat)=((s:Nat):Int) by omega];refine GI 1000 N.I5 rfl rfl ?_;have hsq:(s:Int)/32=((0:Nat):Int):=by omega
 have hsr:(s:Int)%32=((s:Nat):Int):=by omega
 (repeat' ((first|(apply AG<;>intro hc<;>try (exfalso;omega))|(refine OW ?_ ?_ (λ_ => ?_) (λ_ _ => ?_);omega;omega;all_goals try (exfalso;omega))|apply AR|apply AE|refine AC (t3 _) ?_)<;>conv=>whnf))
 rw[hsq];refine EJ (enc:=AL) 0 0 rfl rfl (by omega) ?_;(conv=>whnf)
 skip
 refine GR (λ i _ _=>x.length-i) (λ(i:Nat) (o:List Nat) (c:Nat)=>i<=x.length/\o.length=i/\A2 o/\c<2^s/\val o+4294967296^i*c=val (x.take i)*2^s) (λ i o c=>[(10,.int .i64 i),(9,.int .u64 (c:Int)),(8,.row 107069 0 1 0 i)]) (λ i o c=>[(107069,107069,.rw 1 (o.map AL))]) [] [] 0 [] 0 (by (conv=>whnf);exact ⟨rfl,rfl,rfl⟩) ⟨by omega,rfl,X8,Nat.two_pow_pos _,by simp [val]⟩ ?_;intro i o c ⟨p1,p2,p3,p4,p5⟩ ih;have ui:=aY (s:=s) (by omega);by_cases hi:i<x.length
 ·obtain ⟨d,hd⟩ : ∃ d,x[i]? = some d:=⟨_,zE hi⟩
  have cj:=d1.at hd;obtain ⟨f1,f2,f3,f4⟩:=W9 (s:=s) cj (by omega);have hr:=fD (show s<=64 by omega) f4;(repeat' ((first|(apply AG<;>intro hc<;>try (exfalso;omega))|(refine XY ?_ (λ_ _ _ => ?_) (λ_ _ _ _ => ?_);omega;all_goals try (exfalso;omega))|(apply CR;omega)|apply AR|(refine BA (by assumption) ?_ rfl ?_;omega)|apply AE)<;>conv=>whnf))
  rw[hsr];refine TY (by omega) f4 ?_;(conv=>whnf)
  skip
  refine cI s (Nat.mul_mod_left _ _) p4 (by omega) ?_;(conv=>whnf)
  have k6:=Sa (d:=d) (P:=1) (V:=val o) (p:=4294967296^i) (lo:=c) (X:=val (x.take i)) (s:=s) (by rw[Nat.one_mul,Nat.one_mul];exact p5) rfl;have rl:(c+d*2^s)/4294967296<2^s:=by
   rw[Nat.div_lt_iff_lt_mul (by omega)];have:=Nat.mul_le_mul_right (2^s) (show d<=4294967295 by omega)
   omega
  generalize c+d*2^s=t at *;(repeat' ((first|apply FW|apply DW)<;>conv=>whnf))
  refine EO (enc:=AL) (t%4294967296) rfl p2.symm rfl (by omega) (by omega) ?_;(conv=>whnf)
  (repeat' ((first|(apply AU;omega)|apply FL)<;>conv=>whnf))
  rw[show (o++[t%4294967296]).length=i+1 by simp [p2]];refine BW [(107069,107091)] (by (conv=>whnf);exact ⟨rfl,rfl,rfl⟩) (ih (i+1) (o++[t%4294967296]) (t/4294967296) (by omega) ⟨by omega,by simp;omega,p3.append (HR (by omega)),rl,?_⟩);rw[SR,p2,EB hd,Nat.pow_succ];rw[Nat.one_mul,Nat.one_mul]at k6;exact k6
 obtain rfl:i=x.length:=by omega
 clear ih;have qa:c<4294967296:=by omega
 have hOD:A2 (o++[c]):=p3.append (HR qa);have Fc:val (o++[c])=X*2^s:=by
  rw[SR,p2,p5,DE (Nat.le_refl _),v1]
 have Fb:(o++[c]).length=x.length+1:=by simp [p2]
 (repeat' ((first|(apply AG<;>intro hc<;>try (exfalso;omega))|(apply EI;omega)|apply AR|apply DW|apply AE)<;>conv=>whnf))
 refine EO (enc:=AL) c rfl p2.symm rfl (by omega) (by omega) ?_;(conv=>whnf)
 rw[Fb];generalize o++[c]=O at *;rw[<-Fb];clear p3 p4 p5;refine GI 1000 N.HX rfl rfl ?_;(repeat' (apply AE<;>conv=>whnf))
 refine BP (λ n=>n) (λ(n:Nat)=>n<=(O).length /\ ∀ i,n<=i->i<(O).length->(O)[i]? = some 0) (λ n=>[(3,.int .i64 n)]) (λ_=>[]) [] [] (O).length (by (conv=>whnf);exact ⟨rfl,rfl,rfl⟩) ⟨Nat.le_refl _,λ i h1 h2=>by omega⟩ ?_;intro n ⟨p1,p2⟩ ih;rcases n with _|n
 ·(repeat' ((first|(apply AG<;>intro hc<;>try (exfalso;omega))|apply AE)<;>conv=>whnf))
  refine HD 0 (by omega) (by omega) ?_;(conv=>whnf)
  have bu:=GM (l:=O) (by assumption) p1 p2 (Or.inl rfl);have n7:(List.take 0 O).length<=(O).length:=by rw[List.length_take];omega
  clear ih p2;refine cO (enc:=AL) (by omega) ?_;(conv=>whnf)
  rw[List.drop_zero,Nat.sub_zero];generalize Kw:List.take 0 O=T0 at *;refine U0 (enc:=AL) (λ_=>rfl) (by omega) (by omega) ?_;(conv=>whnf)
  refine ⟨rfl,_,rfl,?_⟩;(conv=>whnf)
  (refine ⟨rfl,_,rfl,?_⟩;(conv=>whnf);(repeat' ((first|apply DW|refine AC (Ob _) ?_)<;>conv=>whnf));refine EO (enc:=AL) 0 rfl rfl rfl (by omega) (by omega) ?_;(conv=>whnf);rw[Fc]at bu;rw[bu];exact BW [] (by (conv=>whnf);exact ⟨rfl,rfl,rfl⟩) (uB N (x:=x) (X:=X) (Y:=Y) (s:=s) (u:=dg (X*2^s)++[0]) (y:=dg (Y*2^s)) h0 du ((DX _).append (HR (by omega))) (by rw[SR,B3,Nat.mul_zero,Nat.add_zero]) (by simp) (by simp;omega) (DX _) (B3 _) (by omega) (by rw[B3,iw];exact n2)))
 ·have e1:((n+1:Nat):Int)-1=n:=by omega
  (repeat' ((first|(apply AG<;>intro hc<;>try (exfalso;omega))|(apply AZ;omega)|(apply B7;omega)|(refine V7 (by assumption) ?_ (λ v hv hb => ?_);omega)|apply AE)<;>conv=>whnf))
  ·rw[e1]
   exact BG [] (ih n (by omega) ⟨by omega,λ i h1 h2=>by
    by_cases h:i=n
    ·subst h
     rw[e1,Int.toNat_natCast]at hv;rw[hv];congr 1;omega
    ·exact p2 i (by omega) h2⟩)
  ·refine HD (n+1) (by omega) (by omega) ?_
   (conv=>whnf)
   rw[e1,Int.toNat_natCast]at hv;have bu:=GM (l:=O) (by assumption) p1 p2 (Or.inr ⟨_,hv,by omega⟩);have n7:(List.take (n+1) O).length<=(O).length:=by rw[List.length_take];omega
   clear ih p2 hv;(rw[rV (l:=O)];rotate_left;exact rfl;exact rfl);(conv=>whnf)
   refine cO (enc:=AL) (by omega) ?_;(conv=>whnf)
   rw[List.drop_zero,Nat.sub_zero];generalize Kw:List.take (n+1) O=T0 at *;refine U0 (enc:=AL) (λ_=>rfl) (by omega) (by omega) ?_;(conv=>whnf)
   refine ⟨rfl,_,rfl,?_⟩;(conv=>whnf)
   (refine ⟨rfl,_,rfl,?_⟩;(conv=>whnf);(repeat' ((first|apply DW|refine AC (Ob _) ?_)<;>conv=>whnf));refine EO (enc:=AL) 0 rfl rfl rfl (by omega) (by omega) ?_;(conv=>whnf);rw[Fc]at bu;rw[bu];exact BW [] (by (conv=>whnf);exact ⟨rfl,rfl,rfl⟩) (uB N (x:=x) (X:=X) (Y:=Y) (s:=s) (u:=dg (X*2^s)++[0]) (y:=dg (Y*2^s)) h0 du ((DX _).append (HR (by omega))) (by rw[SR,B3,Nat.mul_zero,Nat.add_zero]) (by simp) (by simp;omega) (DX _) (B3 _) (by omega) (by rw[B3,iw];exact n2)))
theorem AgW (N:b8 L) (a b:List Nat) (q1 q2:Bool) (hA:A2 a) (hB:A2 b) (la:a.length<=274877906944) (lb:b.length<=274877906944) :
  Ev L 110 [.sl q1 (a.map AL),.sl q2 (b.map AL)] (.sl false ((dg (Nat.gcd (val a) (val b))).map AL)):=by
 have t1:=λ q=>GE N a q hA (by omega)
 have t2:=λ q=>GE N b q hB (by omega)
 have l1:=EX hA;have l2:=EX hB;generalize val a=X at *;generalize val b=Y at *;refine Ev.x N.Q9 rfl rfl ?_;(repeat' ((first|apply AE|refine AC (t1 _) ?_|refine AC (t2 _) ?_)<;>conv=>whnf))
 refine FV (λ_ y=>y) (λ(x y:Nat)=>(dg x).length<=274877906944/\(dg y).length<=274877906944/\Nat.gcd x y=Nat.gcd X Y) (λ x y=>[(0,.sl false ((dg x).map AL)),(1,.sl false ((dg y).map AL))]) (λ_ _=>[]) [] [] X Y (by (conv=>whnf);exact ⟨rfl,rfl,rfl⟩) ⟨by omega,by omega,rfl⟩ ?_;intro x y ⟨p1,p2,p3⟩ ih;rw[<-p3];by_cases h0:y=0
 ·subst h0
  have mf:(dg 0).length=0:=by rw[E4];rfl
  clear ih;rw[Nat.gcd_zero_right];(repeat' ((first|(apply AG<;>intro hc<;>try (exfalso;omega))|apply AR|apply AE)<;>conv=>whnf))
  exact AX rfl (J7 _)
 ·have hp:=Z2 h0
  have hD:=λ q q'=>vZ N (dg x) (dg y) q q' (DX _) (DX _) p1 p2 (by rw[B3];exact h0)
  rw[B3,B3]at hD;have l9:x%y<y:=Nat.mod_lt _ (by omega);have dk:=VB (Nat.le_of_lt l9);(repeat' ((first|(apply AG<;>intro hc<;>try (exfalso;omega))|apply AR|apply AE|refine AC (hD _ _) ?_)<;>conv=>whnf))
  rw[p3];exact BG [] (ih y (x%y) l9 ⟨p2,by omega,by rw[aG];exact p3⟩)
theorem J8 (N:b8 L) (n q:Bool) (m:List Nat) (hm:Sm 274877906944 m):Ev L 111 [.agg (rZ q n m)] (.agg (eZ (zv n m))):=by
 have hT:=λ q=>GE N m q hm.1 (by have:=hm.2;omega)
 have hz:=IV (val m);have ha:=E1 n m;refine Ev.x N.RM rfl rfl ?_;cases n
 ·rw[ER]at *
  (repeat' ((first|apply AE|refine AC (hT _) ?_)<;>conv=>whnf))
  exact AX (EU ha.symm (GO (by omega))) (DP _)
 ·rw[TR]at *
  (repeat' ((first|(apply AG<;>intro hc<;>try (exfalso;omega))|apply AR|apply AE|refine AC (hT _) ?_)<;>conv=>whnf))
  ·exact AX (EU ha.symm (SH (by omega))) (DP _)
  ·exact AX (EU ha.symm (GO (by omega))) (DP _)
theorem YF (N:b8 L) (n q:Bool) (m:List Nat) (hm:Sm 274877906944 m):Ev L 113 [.agg (rZ q n m)] (.int .i64 (q6 (zv n m))):=by
 have hT:=λ q=>J8 N n q m hm
 generalize zv n m=z at *;have hz:=IV z.natAbs;refine Ev.x N.RK rfl rfl ?_;(repeat' ((first|(apply AG<;>intro hc<;>try (exfalso;omega))|apply AR|apply AE|refine AC (hT _) ?_)<;>conv=>whnf))
 ·exact C2 (gO (by omega))
 ·cases hd:decide (z<0)
  ·(conv=>whnf)
   exact C2 (oO (by have:=of_decide_eq_false hd;omega))
  ·(conv=>whnf)
   exact C2 (oN (of_decide_eq_true hd))
theorem lF (N:b8 L) (n q:Bool) (m:List Nat) (hm:Sm 274877906944 m):Ev L 114 [.agg (rZ q n m)] (.agg (eZ (-(zv n m)))):=by
 have hT:=λ q=>J8 N n q m hm
 generalize zv n m=z at *;have hz:=IV z.natAbs;refine Ev.x N.RI rfl rfl ?_;(repeat' ((first|apply AE|refine AC (hT _) ?_)<;>conv=>whnf))
 cases hd:decide (z<0)
 ·have h1:=of_decide_eq_false hd
  (conv=>whnf)
  (repeat' ((first|(apply AG<;>intro hc<;>try (exfalso;omega))|apply AR)<;>conv=>whnf))
  ·exact AX (EU (by omega) (SH (by omega))) (DP _)
  ·exact AX (EU (by omega) (GO (by omega))) (DP _)
 ·have h1:=of_decide_eq_true hd
  (conv=>whnf)
  skip
  exact AX (EU (by omega) (GO (by omega))) (DP _)
theorem UA (N:b8 L) (n1 n2 q1 q2:Bool) (a b:List Nat) (ha:A2 a) (hb:A2 b) (hl:a.length+b.length<=274877906944):Ev L 118 [.agg (rZ q1 n1 a),.agg (rZ q2 n2 b)] (.agg (eZ (zv n1 a*zv n2 b))):=by
 have h1:=λ q q'=>AgX N a b q q' ha hb (by omega)
 have sa:Sm a.length a:=⟨ha,Nat.le_refl _⟩;have sb:Sm b.length b:=⟨hb,Nat.le_refl _⟩;have hT:=λ n q=>J8 N n q (dg (val a*val b)) ((sa.mul sb rfl).le hl)
 have e : ∀ n,zv n (dg (val a*val b))=bif n then -((val a*val b:Nat):Int) else ((val a*val b:Nat):Int):=λ n=>by unfold zv;rw[B3]
 have e2:zv n1 a*zv n2 b=zv (n1 != n2) (dg (val a*val b)):=by
  rw[e];cases n1<;>cases n2<;>simp [ER,TR,Int.mul_neg,Int.neg_mul]
 rw[e2];refine Ev.x N.RH rfl rfl ?_;cases n1<;>cases n2;all_goals
  (repeat' ((first|apply AE|refine AC (h1 _ _) ?_|refine AC (hT _ _) ?_)<;>conv=>whnf))
  exact AX rfl (DP _)
theorem wB (N:b8 L) (n1 n2 q1 q2:Bool) (a b:List Nat) (ha:Sm 274877906943 a) (hb:Sm 274877906943 b):Ev L 115 [.agg (rZ q1 n1 a),.agg (rZ q2 n2 b)] (.agg (eZ (zv n1 a+zv n2 b))):=by
 have t1:=λ q=>J8 N n1 q a (ha.le (by omega))
 have t2:=λ q=>J8 N n2 q b (hb.le (by omega))
 have s1:Sm 274877906943 (dg (zv n1 a).natAbs):=by rw[E1];exact ha.yb
 have s2:Sm 274877906943 (dg (zv n2 b).natAbs):=by rw[E1];exact hb.yb
 generalize zv n1 a=x at *;generalize zv n2 b=y at *;have h1:=λ q q'=>vY N (dg x.natAbs) (dg y.natAbs) q q' s1.1 s2.1 (by have:=s1.2;omega) (by have:=s2.2;omega)
 have h2:=λ q q'=>lE N (dg x.natAbs) (dg y.natAbs) q q' s1.1 s2.1 (by have:=s1.2;omega) (by have:=s2.2;omega)
 have h3:=λ q q'=>lE N (dg y.natAbs) (dg x.natAbs) q q' s2.1 s1.1 (by have:=s2.2;omega) (by have:=s1.2;omega)
 have m4:=λ q q'=>lD N (dg x.natAbs) (dg y.natAbs) q q' s1.1 s2.1 (by have:=s1.2;omega) (by have:=s2.2;omega)
 rw[B3,B3]at h1 h2 h3 m4;have u1:=λ n q=>J8 N n q (dg (x.natAbs+y.natAbs)) (s1.add s2 (by rw[B3,B3];omega))
 have u2:=λ n q=>J8 N n q (dg (x.natAbs-y.natAbs)) ((s1.low (V:=x.natAbs-y.natAbs) (by rw[B3];omega)).le (by omega))
 have u3:=λ n q=>J8 N n q (dg (y.natAbs-x.natAbs)) ((s2.low (V:=y.natAbs-x.natAbs) (by rw[B3];omega)).le (by omega))
 have e : ∀ n V,zv n (dg V)=bif n then -(V:Int) else (V:Int):=λ n V=>by unfold zv;rw[B3]
 refine Ev.x N.RD rfl rfl ?_;(repeat' ((first|apply AE|refine AC (t1 _) ?_|refine AC (t2 _) ?_)<;>conv=>whnf))
 cases hx:decide (x<0)<;>cases hy:decide (y<0)
 ·have g1:=of_decide_eq_false hx
  have g2:=of_decide_eq_false hy;have hz:x+y=zv false (dg (x.natAbs+y.natAbs)):=by rw[e];simp only[cond_true,cond_false];omega
  rw[hz];(conv=>whnf)
  (repeat' ((first|refine AC (h1 _ _) ?_|refine AC (u1 _ _) ?_)<;>conv=>whnf))
  exact AX rfl (DP _)
 ·have g1:=of_decide_eq_false hx
  have g2:=of_decide_eq_true hy;by_cases l9:x.natAbs<y.natAbs
  ·have hz:x+y=zv true (dg (y.natAbs-x.natAbs)):=by rw[e];simp only[cond_true,cond_false];omega
   rw[hz];rw[<-IR (by omega)]at m4;(conv=>whnf)
   (repeat' ((first|(apply AG<;>intro hc<;>try (exfalso;omega))|refine AC (m4 _ _) ?_|refine AC (h3 _ _) ?_|refine AC (u3 _ _) ?_)<;>conv=>whnf))
   exact AX rfl (DP _)
  ·have hz:x+y=zv false (dg (x.natAbs-y.natAbs)):=by rw[e];simp only[cond_true,cond_false];omega
   rw[hz];have kg:=dI (show y.natAbs<=x.natAbs by omega);generalize DC (x.natAbs:Nat) (y.natAbs:Nat)=cm at *;(conv=>whnf)
   (repeat' ((first|(apply AG<;>intro hc<;>try (exfalso;omega))|refine AC (m4 _ _) ?_|refine AC (h2 _ _) ?_|refine AC (u2 _ _) ?_)<;>conv=>whnf))
   exact AX rfl (DP _)
 ·have g1:=of_decide_eq_true hx
  have g2:=of_decide_eq_false hy;by_cases l9:x.natAbs<y.natAbs
  ·have hz:x+y=zv false (dg (y.natAbs-x.natAbs)):=by rw[e];simp only[cond_true,cond_false];omega
   rw[hz];rw[<-IR (by omega)]at m4;(conv=>whnf)
   (repeat' ((first|(apply AG<;>intro hc<;>try (exfalso;omega))|refine AC (m4 _ _) ?_|refine AC (h3 _ _) ?_|refine AC (u3 _ _) ?_)<;>conv=>whnf))
   exact AX rfl (DP _)
  ·have hz:x+y=zv true (dg (x.natAbs-y.natAbs)):=by rw[e];simp only[cond_true,cond_false];omega
   rw[hz];have kg:=dI (show y.natAbs<=x.natAbs by omega);generalize DC (x.natAbs:Nat) (y.natAbs:Nat)=cm at *;(conv=>whnf)
   (repeat' ((first|(apply AG<;>intro hc<;>try (exfalso;omega))|refine AC (m4 _ _) ?_|refine AC (h2 _ _) ?_|refine AC (u2 _ _) ?_)<;>conv=>whnf))
   exact AX rfl (DP _)
 ·have g1:=of_decide_eq_true hx
  have g2:=of_decide_eq_true hy;have hz:x+y=zv true (dg (x.natAbs+y.natAbs)):=by rw[e];simp only[cond_true,cond_false];omega
  rw[hz];(conv=>whnf)
  (repeat' ((first|refine AC (h1 _ _) ?_|refine AC (u1 _ _) ?_)<;>conv=>whnf))
  exact AX rfl (DP _)
theorem Ag2 (N:b8 L) (n1 n2 q1 q2:Bool) (a b:List Nat) (ha:Sm 274877906943 a) (hb:Sm 274877906943 b):Ev L 116 [.agg (rZ q1 n1 a),.agg (rZ q2 n2 b)] (.agg (eZ (zv n1 a-zv n2 b))):=by
 have t2:=λ q=>lF N n2 q b (hb.le (by omega))
 have s2:Sm 274877906943 (dg (-(zv n2 b)).natAbs):=by rw[Int.natAbs_neg,E1];exact hb.yb
 have h1:=λ q q'=>wB N n1 (decide (-(zv n2 b)<0)) q q' a (dg (-(zv n2 b)).natAbs) ha s2
 rw[E8,<-Int.sub_eq_add_neg]at h1;refine Ev.x N.RL rfl rfl ?_;(repeat' ((first|apply AE|refine AC (t2 _) ?_|refine AC (h1 _ _) ?_)<;>conv=>whnf))
 exact AX rfl (DP _)
theorem Ag0 (N:b8 L) (n1 n2 q1 q2:Bool) (a b:List Nat) (ha:Sm 274877906943 a) (hb:Sm 274877906943 b):Ev L 117 [.agg (rZ q1 n1 a),.agg (rZ q2 n2 b)] (.int .i64 (q6 (zv n1 a-zv n2 b))):=by
 have h1:=λ q q'=>Ag2 N n1 n2 q q' a b ha hb
 have s1:Sm 274877906943 (dg (zv n1 a).natAbs):=by rw[E1];exact ha.yb
 have s2:Sm 274877906943 (dg (zv n2 b).natAbs):=by rw[E1];exact hb.yb
 have s3:Sm 274877906944 (dg (zv n1 a-zv n2 b).natAbs):=s1.add s2 (by rw[B3,B3];omega);have h2:=λ q=>YF N (decide (zv n1 a-zv n2 b<0)) q (dg (zv n1 a-zv n2 b).natAbs) s3
 rw[E8]at h2;refine Ev.x N.RE rfl rfl ?_;(repeat' ((first|apply AE|refine AC (h1 _ _) ?_|refine AC (h2 _) ?_)<;>conv=>whnf))
 exact C2 rfl
theorem lG (N:b8 L) (z:Int) (hz : -9223372036854775808<=z/\z<=9223372036854775807):Ev L 112 [.int .i64 z] (.agg (eZ z)):=by
 have two : ∀ k:Nat,k<18446744073709551616 -> ∀ n q,Ev L 111 [.agg [.bool n,.sl q [[.int .u32 ((k%4294967296:Nat):Int)],[.int .u32 ((k/4294967296:Nat):Int)]]]] (.agg (eZ (bif n then -(k:Int) else (k:Int)))):=λ k hk n q=>by
  have:=J8 N n q [k%4294967296,k/4294967296] ⟨(jZ hk).2,by simp⟩
  unfold zv at this;rw[Sd hk]at this;exact this
 refine Ev.x N.RJ rfl rfl ?_;by_cases h0:0<=z
 ·obtain ⟨k,rfl⟩:=Int.eq_ofNat_of_zero_le h0
  have hT:=two k (by omega);(repeat' ((first|(apply AG<;>intro hc<;>try (exfalso;omega))|apply FL|(apply CR;omega)|(apply EI;omega)|apply FW|refine X0 rfl rfl ?_|apply AE)<;>conv=>whnf))
  generalize k%4294967296=lo at *;generalize k/4294967296=hi at *;(repeat' (refine AC (hT _ _) ?_<;>conv=>whnf))
  exact AX rfl (DP _)
 ·obtain ⟨k,hk⟩:=Int.eq_ofNat_of_zero_le (show 0 <= -(z+1) by omega)
  have ya:z = -((k+1:Nat):Int):=by omega
  have hT:=two (k+1) (by omega);(repeat' ((first|(apply AG<;>intro hc<;>try (exfalso;omega))|(apply AU;omega)|apply Zk|(apply CI.neg;omega)|(apply CR;omega)|apply AE)<;>conv=>whnf))
  rw[show IntKind.u64.wrap (-(z+1)+1)=((k+1:Nat):Int) by rw[IntWalk.u64_in _ (by omega)];omega];rw[ya];generalize k+1=k1 at *;(repeat' ((first|apply FL|(apply EI;omega)|apply FW|refine X0 rfl rfl ?_)<;>conv=>whnf))
  generalize k1%4294967296=lo at *;generalize k1/4294967296=hi at *;(repeat' (refine AC (hT _ _) ?_<;>conv=>whnf))
  exact AX rfl (DP _)
theorem Ag1 (N:b8 L) (n1 n2 q1 q2:Bool) (a b:List Nat) (ha:Sm 274877906944 a) (hb:Sm 274877906944 b):Ev L 120 [.agg (rZ q1 n1 a),.agg (rZ q2 n2 b)] (.agg (eZ ((Nat.gcd (val a) (val b):Nat):Int))):=by
 have h1:=λ q q'=>AgW N a b q q' ha.1 hb.1 ha.2 hb.2
 refine Ev.x N.RG rfl rfl ?_;(repeat' ((first|apply AE|refine AC (h1 _ _) ?_)<;>conv=>whnf))
 exact AX (EU (by omega) (GO (by omega))) (DP _)
theorem AfU (n1 n2:Bool) (A B:Nat) (hB:B≠0):(bif n1 then -(A:Int) else (A:Int))/(bif n2 then -(B:Int) else (B:Int))=(bif n1 != n2 then -((if n1=true/\A%B≠0 then A/B+1 else A/B:Nat):Int) else ((if n1=true/\A%B≠0 then A/B+1 else A/B:Nat):Int)) /\
  (bif n1 then -(A:Int) else (A:Int))%(bif n2 then -(B:Int) else (B:Int))=((if n1=true/\A%B≠0 then B-A%B else A%B:Nat):Int):=by
 have hBp:(0:Int)<B:=by omega
 have key : ∀ x:Int,x/(bif n2 then -(B:Int) else (B:Int))=(bif n2 then -(x/B) else x/B)/\x%(bif n2 then -(B:Int) else (B:Int))=x%B:=λ x=>by
  cases n2
  ·exact ⟨rfl,rfl⟩
  ·exact ⟨Int.ediv_neg x B,Int.emod_neg x B⟩
 rw[(key _).1,(key _).2];cases n1
 ·have h1:((A:Int))/B=((A/B:Nat):Int):=by simp
  have h2:((A:Int))%B=((A%B:Nat):Int):=by simp
  simp only[cond_false,h1,h2];cases n2<;>simp
 ·have hd:=Nat.div_add_mod A B
  have l9:=Nat.mod_lt A (show B>0 by omega);by_cases h0:A%B=0
  ·have e : -(A:Int)=(B:Int)*(-((A/B:Nat):Int)):=by
    rw[h0,Nat.add_zero]at hd;rw[Int.mul_neg,<-Int.natCast_mul,hd]
   have h1 : -(A:Int)/B = -((A/B:Nat):Int):=by rw[e,Int.mul_ediv_cancel_left _ (by omega)]
   have h2 : -(A:Int)%B=0:=by rw[e,Int.mul_emod_right]
   simp only[cond_true,h1,h2,h0];cases n2<;>simp
  ·have e : -(A:Int)=(B:Int)*(-((A/B+1:Nat):Int))+((B-A%B:Nat):Int):=by
    have h3:(B:Int)*((A/B:Nat):Int)+((A%B:Nat):Int)=A:=by rw[<-Int.natCast_mul,<-Int.natCast_add,hd]
    rw[Int.mul_neg,Int.natCast_add,Int.mul_add];omega
   have h1 : -(A:Int)/B = -((A/B+1:Nat):Int):=by
    rw[e,Int.mul_add_ediv_left _ _ (by omega),Int.ediv_eq_zero_of_lt (by omega) (by omega),Int.add_zero]
   have h2 : -(A:Int)%B=((B-A%B:Nat):Int):=by
    rw[e,Int.mul_add_emod_self_left,Int.emod_eq_of_lt (by omega) (by omega)]
   simp only[cond_true,h1,h2];cases n2<;>simp [h0]
theorem wC (N:b8 L) (n1 n2 q1 q2:Bool) (a b:List Nat) (ha:Sm 274877906943 a) (hb:Sm 274877906943 b) (h0:zv n2 b≠0):Ev L 119 [.agg (rZ q1 n1 a),.agg (rZ q2 n2 b)] (.j5 [.agg (eZ (zv n1 a/zv n2 b)),.agg (eZ (zv n1 a%zv n2 b)),.int .i64 0]):=by
 have t1:=λ q=>J8 N n1 q a (ha.le (by omega))
 have t2:=λ q=>J8 N n2 q b (hb.le (by omega))
 have s1:Sm 274877906943 (dg (zv n1 a).natAbs):=by rw[E1];exact ha.yb
 have s2:Sm 274877906943 (dg (zv n2 b).natAbs):=by rw[E1];exact hb.yb
 generalize zv n1 a=x at *;generalize zv n2 b=y at *;have Dt:=λ q q'=>vZ N (dg x.natAbs) (dg y.natAbs) q q' s1.1 s2.1 (by have:=s1.2;omega) (by have:=s2.2;omega) (by rw[B3];omega)
 rw[B3,B3]at Dt;obtain ⟨e1,e2⟩:=AfU (decide (x<0)) (decide (y<0)) x.natAbs y.natAbs (by omega);have hx:(bif decide (x<0) then -(x.natAbs:Int) else (x.natAbs:Int))=x:=by have:=E8 x;unfold zv at this;rw[B3]at this;exact this
 have hy:(bif decide (y<0) then -(y.natAbs:Int) else (y.natAbs:Int))=y:=by have:=E8 y;unfold zv at this;rw[B3]at this;exact this
 rw[hx,hy]at e1 e2;rw[e1,e2];have l1:=s1.2;have l2:=s2.2;have hq:Sm 274877906943 (dg (x.natAbs/y.natAbs)):=s1.low (by rw[B3];exact Nat.div_le_self _ _);have hr:Sm 274877906943 (dg (x.natAbs%y.natAbs)):=s2.low (by rw[B3];exact Nat.le_of_lt (Nat.mod_lt _ (by omega)));have hrz:=IV (x.natAbs%y.natAbs);have mj:Ev L 103 [.sl false ((dg (x.natAbs/y.natAbs)).map AL),.sl true [[.int .u32 1]]] (.sl false ((dg (x.natAbs/y.natAbs+1)).map AL)):=by
  have:=vY N (dg (x.natAbs/y.natAbs)) [1] false true (DX _) (HR (by omega)) (by have:=hq.2;omega) (by simp)
  rw[B3,show val [1]=1 from rfl]at this;exact this
 have zf:Sm 274877906944 (dg (x.natAbs/y.natAbs+1)):=hq.add (b:=[1]) (oT (by omega) (by omega)) (by rw[B3];simp [val]);have zj:=λ q q'=>lE N (dg y.natAbs) (dg (x.natAbs%y.natAbs)) q q' s2.1 hr.1 (by omega) (by have:=hr.2;omega)
 rw[B3,B3]at zj;have u1:=λ n q=>J8 N n q (dg (x.natAbs/y.natAbs)) (hq.le (by omega))
 have u2:=λ n q=>J8 N n q (dg (x.natAbs/y.natAbs+1)) zf
 have ez : ∀ n V,zv n (dg V)=bif n then -(V:Int) else (V:Int):=λ n V=>by unfold zv;rw[B3]
 have fin : ∀ (z:Int) (V:Nat),AJ (.j5 [.agg (eZ z),.agg [.bool false,.sl false ((dg V).map AL)],.int .i64 0]) (.j5 [.agg (eZ z),.agg (eZ (V:Int)),.int .i64 0]):=λ z V=>by
  have e3:AV.agg (eZ (V:Int)) = .agg [.bool false,.sl false ((dg V).map AL)]:=(EU (by omega) (GO (by omega))).symm;rw[e3];refine AX rfl ?_;simp only[A3,CG,and_true,true_and];exact ⟨CM _,CM _⟩
 clear e1 e2 hx hy;generalize x.natAbs/y.natAbs=qq at *;generalize x.natAbs%y.natAbs=rr at *;refine Ev.x N.RF rfl rfl ?_;(repeat' ((first|(apply AG<;>intro hc<;>try (exfalso;omega))|apply AE|refine AC (t1 _) ?_|refine AC (t2 _) ?_|refine AC (Dt _ _) ?_)<;>conv=>whnf))
 generalize decide (x<0)=p at *;generalize decide (y<0)=r at *;cases p
 ·rw[if_neg (by simp),if_neg (by simp),<-ez]
  cases r;all_goals
   (conv=>whnf)
   (repeat' (refine AC (u1 _ _) ?_<;>conv=>whnf))
   exact fin _ _
 ·by_cases s9:rr=0
  ·rw[if_neg (by simp [s9]),if_neg (by simp [s9]),<-ez]
   cases r;all_goals
    (conv=>whnf)
    (repeat' ((first|(apply AG<;>intro hc<;>try (exfalso;omega))|apply AR|refine AC (u1 _ _) ?_)<;>conv=>whnf))
    exact fin _ _
  ·rw[if_pos ⟨rfl,s9⟩,if_pos ⟨rfl,s9⟩,<-ez]
   cases r;all_goals
    (conv=>whnf)
    (repeat' ((first|(apply AG<;>intro hc<;>try (exfalso;omega))|apply AR|refine JQ rfl ?_|refine AC (mj) ?_|refine AC (zj _ _) ?_|refine AC (u2 _ _) ?_)<;>conv=>whnf))
    exact fin _ _
end Go.c9

namespace Go.c9
abbrev rQ (q1 q2 n:Bool) (m d:List Nat):List AV:=[.bool n,.sl q1 (m.map AL),.sl q2 (d.map AL)]
abbrev eQ (x:Rat):List AV:=rQ false false (decide (x.num<0)) (dg x.num.natAbs) (dg x.den)
def qv (n:Bool) (m d:List Nat):Rat:=mkRat (zv n m) (val d)
theorem EM (x:Rat):qv (decide (x.num<0)) (dg x.num.natAbs) (dg x.den)=x:=by
 unfold qv;rw[E8,B3,Rat.mkRat_self]
theorem xC {d:Nat} (z:Nat) (hd:d≠0):0<Nat.gcd d z:=Nat.gcd_pos_of_pos_left z (by omega)
theorem mW {z:Int} {d:Nat} (hd:d≠0):(mkRat z d).num.natAbs=z.natAbs/Nat.gcd d z.natAbs/\(mkRat z d).den=d/Nat.gcd d z.natAbs/\decide ((mkRat z d).num<0)=decide (z<0):=by
 have hg:=xC z.natAbs hd;have h1:=Rat.num_mkRat z d;have h2:=Rat.den_mkRat z d;rw[if_neg hd]at h1 h2;rw[h1,h2];obtain ⟨k,hk⟩:=Nat.gcd_dvd_right d z.natAbs;generalize hG:Nat.gcd d z.natAbs=g at *;have hz:z=(g:Int)*(z.sign*k):=by
  rw[<-Int.mul_assoc,Int.mul_comm (g:Int),Int.mul_assoc,<-Int.natCast_mul,<-hk,Int.sign_mul_natAbs]
 have e1:z/(g:Int)=z.sign*k:=by
  rw[hz,Int.mul_ediv_cancel_left _ (by omega),<-hz]
 refine ⟨?_,rfl,?_⟩
 ·rw[e1,Int.natAbs_mul,hk,Nat.mul_div_cancel_left _ hg]
  by_cases h0:z=0
  ·subst h0
   have:k=0:=by
    have h5:g*k=0:=hk.symm;rcases Nat.mul_eq_zero.1 h5 with h|h
    ·omega
    ·exact h
   subst this;simp
  ·rw[Int.natAbs_sign_of_ne_zero h0,Nat.one_mul];simp
 ·congr 1
  rw[eq_iff_iff];rw[Int.ediv_lt_iff_lt_mul (by omega),Int.zero_mul]
theorem DI (x:Rat):A3 (.agg (eQ x)):=by
 simp only[A3,CG,and_true,true_and];exact ⟨CM _,CM _⟩
theorem ZT (b w:Bool) (m d:List Nat):A3 (.agg [.bool b,.sl false (m.map AL),.sl false (d.map AL),.bool w]):=by
 simp only[A3,CG,and_true,true_and];exact ⟨CM _,CM _⟩
theorem sM (b:Bool) (m:List Nat):A3 (.agg [.bool b,.sl false (m.map AL)]):=by
 simp only[A3,CG,and_true,true_and];exact CM _
theorem dF (b:Bool) (m d:List Nat):A3 (.agg [.bool b,.sl false (m.map AL),.sl false (d.map AL)]):=by
 simp only[A3,CG,and_true,true_and];exact ⟨CM _,CM _⟩
theorem aF (q:Bool) (l:List Nat):ZG (.sl q (l.map AL)):=by
 intro e he c hc;obtain ⟨x,_,rfl⟩:=List.mem_map.1 he;simp at hc;subst hc;rfl
theorem iK {r:AV} {K:AV->Prop} (h:NX r) (hk:K (zn r)):BT r K:=⟨Or.inl h,by rw[mM h];exact hk⟩
theorem G3 {b w q1 q2:Bool} {m d:List Nat} {K:AV->Prop} (hk:K (.agg [.bool b,.sl true (m.map AL),.sl true (d.map AL),.bool w])):BT (.agg [.bool b,.sl q1 (m.map AL),.sl q2 (d.map AL),.bool w]) K:=by
 refine iK ?_ hk;intro c hc;simp only[List.mem_cons,List.not_mem_nil,or_false]at hc;rcases hc with rfl|rfl|rfl|rfl
 ·trivial
 ·exact aF _ _
 ·exact aF _ _
 ·trivial
theorem qV {b q1 q2:Bool} {m d:List Nat} {K:AV->Prop} (hk:K (.agg [.bool b,.sl true (m.map AL),.sl true (d.map AL)])):BT (.agg [.bool b,.sl q1 (m.map AL),.sl q2 (d.map AL)]) K:=by
 refine iK ?_ hk;intro c hc;simp only[List.mem_cons,List.not_mem_nil,or_false]at hc;rcases hc with rfl|rfl|rfl
 ·trivial
 ·exact aF _ _
 ·exact aF _ _
theorem V3 {b q1:Bool} {m:List Nat} {K:AV->Prop} (hk:K (.agg [.bool b,.sl true (m.map AL)])):BT (.agg [.bool b,.sl q1 (m.map AL)]) K:=by
 refine iK ?_ hk;intro c hc;simp only[List.mem_cons,List.not_mem_nil,or_false]at hc;rcases hc with rfl|rfl
 ·trivial
 ·exact aF _ _
theorem eU {a b:Int} {d e:Nat} (hd:d≠0) (he:e≠0):mkRat a d+mkRat b e=mkRat (a*e+b*d) (d*e):=Rat.mkRat_add_mkRat a b hd he
theorem yX {a b:Int} {d:Nat} (hd:d≠0):mkRat a d+mkRat b d=mkRat (a+b) d:=by
 rw[eU hd hd,<-Int.add_mul,Rat.mkRat_mul_right hd]
theorem mU (a b:Int) (d e:Nat):mkRat a d*mkRat b e=mkRat (a*b) (d*e):=Rat.mkRat_mul_mkRat a b d e
theorem yZ (a:Int):mkRat a 1=(a:Rat):=by
 have h:=Rat.mkRat_self (a:Rat);rw[Rat.num_intCast,Rat.den_intCast]at h;exact h
theorem mV {z:Int} {d:Nat} (hd:d≠0):mkRat z d=0↔z=0:=Rat.mkRat_eq_zero hd
theorem zA {z:Int} {d:Nat} (hd:d≠0):q6 (mkRat z d).num=q6 z:=by
 obtain ⟨_,_,h⟩:=mW (z:=z) hd;have h0:(mkRat z d).num=0↔z=0:=by rw[Rat.num_eq_zero,mV hd]
 have h1:(mkRat z d).num<0↔z<0:=by simpa using h
 unfold q6;by_cases a:z<0
 ·rw[if_pos a,if_pos (h1.2 a)]
 ·rw[if_neg a,if_neg (λ h=>a (h1.1 h))]
  by_cases b:z=0
  ·rw[if_neg (by omega),if_neg (by have:=h0.2 b;omega)]
  ·rw[if_pos (by omega),if_pos (by have:=mt h0.1 b;have:=mt h1.1 a;omega)]
theorem Ajb {a b:Int} {d e:Nat} (hd:d≠0) (he:e≠0) (hb:b≠0):mkRat a d/mkRat b e=mkRat (b.sign*(a*e)) (d*b.natAbs):=by
 have hbn:b.natAbs≠0:=by omega
 have h1:mkRat b e≠0:=λ h=>hb ((mV he).1 h)
 have key:mkRat (b.sign*(a*e)) (d*b.natAbs)*mkRat b e=mkRat a d:=by
  rw[mU];have e1:b.sign*(a*e)*b=a*((b.natAbs*e:Nat):Int):=by
   have:=Int.sign_mul_self b
   rw[Int.natCast_mul,<-this];grind
  rw[e1,show d*b.natAbs*e=d*(b.natAbs*e) by rw[Nat.mul_assoc]];exact Rat.mkRat_mul_right (Nat.mul_ne_zero hbn he)
 rw[<-key,Rat.mul_div_cancel h1]
theorem AlC {x y:Int} (hy:y≠0):zv (decide (x<0) != decide (y<0)) (dg x.natAbs)=y.sign*x:=by
 unfold zv;rw[B3];rcases Int.lt_or_gt_of_ne hy with h|h
 ·rw[Int.sign_eq_neg_one_of_neg h]
  by_cases hx:x<0
  ·simp [hx,h];omega
  ·simp [hx,h];omega
 ·rw[Int.sign_eq_one_of_pos h]
  by_cases hx:x<0
  ·simp [hx,show ¬ y<0 by omega];omega
  ·simp [hx,show ¬ y<0 by omega];omega
end Go.c9

namespace Go.c9
open F
attribute [local irreducible] AA AF AP AD CI AY AW A6 A5 B2 AM BQ B8 C8 BM A1 BR B9 AB A7 AJ pw BO BH CH CK CS CP CD BT CJ
variable {L:Lib}
set_option maxHeartbeats 4000000
theorem tV:dg 1=[1]:=by rw[JR (by omega)];simp [E4]
theorem rU:AV.agg [.bool false,.sl false [],.sl false [[.int .u32 1]]] = .agg (eQ 0):=by
 show _=AV.agg (rQ _ _ _ _ _);rw[Rat.zero_num,Rat.zero_den,tV,show (0:Int).natAbs=0 from rfl,E4];rfl
theorem AeS {x y:Int} (hy:y≠0):(Rat.divInt x y).num=(if y<0 then -(x/((Nat.gcd x.natAbs y.natAbs:Nat):Int)) else x/((Nat.gcd x.natAbs y.natAbs:Nat):Int))/\(Rat.divInt x y).den=(y/((Nat.gcd x.natAbs y.natAbs:Nat):Int)).natAbs:=by
 have h1:=Rat.num_divInt x y;have h2:=Rat.den_divInt x y;rw[if_neg hy]at h2;have hg:Int.gcd y x=Nat.gcd x.natAbs y.natAbs:=by rw[Int.gcd,Nat.gcd_comm]
 rw[hg]at h1 h2;have Me:0<Nat.gcd x.natAbs y.natAbs:=Nat.gcd_pos_of_pos_right _ (by omega);have dx:((Nat.gcd x.natAbs y.natAbs:Nat):Int) ∣ x:=Int.ofNat_dvd_left.2 (Nat.gcd_dvd_left _ _);have dy:((Nat.gcd x.natAbs y.natAbs:Nat):Int) ∣ y:=Int.ofNat_dvd_left.2 (Nat.gcd_dvd_right _ _);generalize Nat.gcd x.natAbs y.natAbs=g at *;rw[h1,h2];obtain ⟨u,rfl⟩:=dx;obtain ⟨v,rfl⟩:=dy;have Cp:(g:Int)≠0:=by omega
 refine ⟨?_,?_⟩
 ·rw[Int.mul_ediv_cancel_left _ Cp]
  split
  ·rename_i h
   rw[Int.sign_eq_neg_one_of_neg h,show -1*((g:Int)*u)=g*(-u) by rw[Int.mul_neg];omega,Int.mul_ediv_cancel_left _ Cp]
  ·rw[Int.sign_eq_one_of_pos (by omega),Int.one_mul,Int.mul_ediv_cancel_left _ Cp]
 ·rw[Int.mul_ediv_cancel_left _ Cp,Int.natAbs_mul,Int.natAbs_natCast,Nat.mul_div_cancel_left _ Me]
theorem Z8 (N:b8 L) (n1 n2 q1 q2:Bool) (a b:List Nat) (ha:Sm 274877906943 a) (hb:Sm 274877906943 b):Ev L 121 [.agg (rZ q1 n1 a),.agg (rZ q2 n2 b)] (.agg (eQ (Rat.divInt (zv n1 a) (zv n2 b)))):=by
 have t1:=λ q=>YF N n1 q a (ha.le (by omega))
 have t2:=λ q=>YF N n2 q b (hb.le (by omega))
 by_cases h1:zv n1 a=0
 ·rw[h1,Rat.zero_divInt,<-rU]
  rw[h1,<-gO rfl]at t1;refine Ev.x N.I6 rfl rfl ?_;(repeat' ((first|(apply AG<;>intro hc<;>try (exfalso;omega))|refine JQ rfl ?_|apply AE|refine AC (t1 _) ?_)<;>conv=>whnf))
  exact AX rfl (dF false [] [1])
 have s1:q6 (zv n1 a)≠0:=by unfold q6;split<;>(try split)<;>omega
 by_cases h2:zv n2 b=0
 ·rw[h2,Rat.divInt_zero,<-rU]
  rw[h2,<-gO rfl]at t2;generalize q6 (zv n1 a)=sg at *;refine Ev.x N.I6 rfl rfl ?_;(repeat' ((first|(apply AG<;>intro hc<;>try (exfalso;omega))|refine JQ rfl ?_|apply AE|refine AC (t1 _) ?_|refine AC (t2 _) ?_)<;>conv=>whnf))
  exact AX rfl (dF false [] [1])
 have s2:q6 (zv n2 b)≠0:=by unfold q6;split<;>(try split)<;>omega
 obtain ⟨p1,p2⟩:=AeS (x:=zv n1 a) h2;have hG:=λ q q'=>Ag1 N n1 n2 q q' a b (ha.le (by omega)) (hb.le (by omega))
 have hle:Nat.gcd (val a) (val b)<=val b:=Nat.gcd_le_right _ (by have:=E1 n2 b;omega);have Me:0<Nat.gcd (val a) (val b):=Nat.gcd_pos_of_pos_right _ (by have:=E1 n2 b;omega);have sg:Sm 274877906943 (dg (Nat.gcd (val a) (val b))):=hb.low hle;rw[E1,E1]at p1 p2;have hgf:decide (((Nat.gcd (val a) (val b):Nat):Int)<0)=false:=by simp
 have Xt:Sm 274877906943 (dg (((Nat.gcd (val a) (val b):Nat):Int)).natAbs):=by rw[Int.natAbs_natCast];exact sg
 have zg:zv (decide (((Nat.gcd (val a) (val b):Nat):Int)<0)) (dg (((Nat.gcd (val a) (val b):Nat):Int)).natAbs)=((Nat.gcd (val a) (val b):Nat):Int):=E8 _;have sj:=λ q q'=>wC N n1 _ q q' a _ ha Xt (by rw[zg];omega)
 have sn:=λ q q'=>wC N n2 _ q q' b _ hb Xt (by rw[zg];omega)
 rw[zg]at sj sn;have vq:Sm 274877906943 (dg (zv n1 a/((Nat.gcd (val a) (val b):Nat):Int)).natAbs):=ha.low (by
  have:(zv n1 a/((Nat.gcd (val a) (val b):Nat):Int)).natAbs<=(zv n1 a).natAbs:=Int.natAbs_ediv_le_natAbs _ _
  rw[E1]at this;exact this)
 have Cp:0<((Nat.gcd (val a) (val b):Nat):Int):=by omega
 generalize ((Nat.gcd (val a) (val b):Nat):Int)=g at *;generalize zv n1 a=x at *;generalize zv n2 b=y at *;generalize q6 x=sx at *;generalize q6 y=sy at *;have hN:=λ q=>lF N (decide (x/g<0)) q (dg (x/g).natAbs) (vq.le (by omega))
 rw[E8]at hN;have Em:decide (y/g<0)=decide (y<0):=by
  congr 1;rw[eq_iff_iff,Int.ediv_lt_iff_lt_mul (by omega),Int.zero_mul]
 refine Ev.x N.I6 rfl rfl ?_;(repeat' ((first|(apply AG<;>intro hc<;>try (exfalso;omega))|apply AE|refine AC (t1 _) ?_|refine AC (t2 _) ?_|refine AC (hG _ _) ?_|refine AC (sj _ _) ?_|refine AC (sn _ _) ?_)<;>conv=>whnf))
 cases Wu:decide (y/g<0)
 ·rw[Wu]at Em
  rw[if_neg (of_decide_eq_false Em.symm)]at p1;(conv=>whnf)
  skip
  refine AX ?_ (DI _);show _=AV.agg (rQ _ _ _ _ _);rw[p1,p2]
 ·rw[Wu]at Em
  rw[if_pos (of_decide_eq_true Em.symm)]at p1;(conv=>whnf)
  (repeat' (refine AC (hN _) ?_<;>conv=>whnf))
  refine AX ?_ (DI _);show _=AV.agg (rQ _ _ _ _ _);rw[p1,p2]
theorem AeT {z:Int} {d:List Nat}:Rat.divInt z (zv false d)=mkRat z (val d):=by rw[ER,Rat.divInt_ofNat]
def Zl (n:Bool) (m d:List Nat) (n':Bool) (m' d':List Nat) (k:Nat):Prop:=Sm k m'/\Sm k d'/\val d'≠0/\qv n m d=mkRat (zv n' m') (val d')
theorem sP (n:Bool) (m d:List Nat):A3 (.j5 [.agg (rZ false n m),.agg (rZ false false d)]):=by
 simp only[A3,CG,and_true,true_and];exact ⟨CM _,CM _⟩
theorem O5 (N:b8 L) (n q:Bool) (m d:List Nat) (k:Nat) (hk:1<=k/\k<=274877906943) (hm:Sm k m) (hd:Sm k d) : ∃ n' m' d',Ev L 122 [.agg (rQ false q n m d)] (.j5 [.agg (rZ false n' m'),.agg (rZ false false d')])/\Zl n m d n' m' d' k:=by
 have t1:=λ q=>GE N d q hd.1 (by have:=hd.2;omega)
 have hl:=IV (val d);by_cases h0:val d=0
 ·refine ⟨false,[],[1],?_,gS _,oT hk.1 (by omega),by decide,by unfold qv;rw[h0,Rat.mkRat_zero,Sw,Rat.zero_mkRat]⟩
  refine Ev.x N.KP rfl rfl ?_;(repeat' ((first|(apply AG<;>intro hc<;>try (exfalso;omega))|apply AR|refine JQ rfl ?_|apply AE|refine AC (t1 _) ?_)<;>conv=>whnf))
  exact AX rfl (sP false [] [1])
 ·refine ⟨n,m,dg (val d),?_,hm,hd.yb,by rw[B3];exact h0,by rw[B3];rfl⟩
  refine Ev.x N.KP rfl rfl ?_;(repeat' ((first|(apply AG<;>intro hc<;>try (exfalso;omega))|apply AR|apply AE|refine AC (t1 _) ?_)<;>conv=>whnf))
  exact AX rfl (sP _ _ _)
theorem Ag5 (N:b8 L) (n q:Bool) (m d:List Nat) (hm:Sm 274877906943 m) (hd:Sm 274877906943 d):Ev L 123 [.agg (rQ false q n m d)] (.agg (eQ (qv n m d))):=by
 obtain ⟨n',m',d',hp,s1,s2,s3,s4⟩:=O5 N n q m d 274877906943 (by omega) hm hd;have hr:=λ q q'=>Z8 N n' false q q' m' d' s1 s2
 rw[AeT,<-s4]at hr;refine Ev.x N.RW rfl rfl ?_;(repeat' ((first|apply AE|refine AC (hp) ?_|refine AC (hr _ _) ?_)<;>conv=>whnf))
 exact AX rfl (DI _)
theorem Ady (z:Int):AV.agg [.bool (decide (z<0)),.sl false ((dg z.natAbs).map AL),.sl false [[.int .u32 1]]] = .agg (eQ (z:Rat)):=by
 show _=AV.agg (rQ _ _ _ _ _);rw[Rat.num_intCast,Rat.den_intCast,tV];rfl
theorem YH (N:b8 L) (z:Int) (hz : -9223372036854775808<=z/\z<=9223372036854775807):Ev L 124 [.int .i64 z] (.agg (eQ (z:Rat))):=by
 have h1:=lG N z hz;refine Ev.x N.RU rfl rfl ?_;(repeat' ((first|refine JQ rfl ?_|apply AE|refine AC (h1) ?_)<;>conv=>whnf))
 exact AX (Ady z) (DI _)
theorem Ph {z:Int} (hz : -9223372036854775808<=z/\z<=9223372036854775808):Sm 2 (dg z.natAbs):=Sm.dg (by omega)
theorem YG (N:b8 L) (x y:Int) (hx : -9223372036854775808<=x/\x<=9223372036854775807) (hy : -9223372036854775808<=y/\y<=9223372036854775807):Ev L 125 [.int .i64 x,.int .i64 y] (.agg (eQ (Rat.divInt x y))):=by
 have h1:=lG N x hx;have h2:=lG N y hy;have hr:=λ q q'=>Z8 N (decide (x<0)) (decide (y<0)) q q' _ _ ((Ph (z:=x) (by omega)).le (by omega)) ((Ph (z:=y) (by omega)).le (by omega))
 rw[E8,E8]at hr;refine Ev.x N.RR rfl rfl ?_;(repeat' ((first|apply AE|refine AC (h1) ?_|refine AC (h2) ?_|refine AC (hr _ _) ?_)<;>conv=>whnf))
 exact AX rfl (DI _)
theorem UU {k l:Nat} {n1 n2:Bool} {a b:List Nat} (ha:Sm k a) (hb:Sm l b):Sm (k+l) (dg (zv n1 a*zv n2 b).natAbs):=ha.mul hb (by rw[Int.natAbs_mul,E1,E1])
theorem AkF {k:Nat} {x y:Int} (ha:Sm k (dg x.natAbs)) (hb:Sm k (dg y.natAbs)):Sm (k+1) (dg (x+y).natAbs):=ha.add hb (by rw[B3,B3];omega)
theorem wD (N:b8 L) (k:Nat) (hk:1<=k/\k<=68719476736) (n1 n2 q2 q4:Bool) (m1 d1 m2 d2:List Nat) (kn:Sm k m1) (ov:Sm k d1) (ib:Sm k m2) (ow:Sm k d2) :
  Ev L 126 [.agg (rQ false q2 n1 m1 d1),.agg (rQ false q4 n2 m2 d2)] (.agg (eQ (qv n1 m1 d1+qv n2 m2 d2))):=by
 obtain ⟨a1,a2,a3,ak,s1,s2,s3,s5⟩:=O5 N n1 q2 m1 d1 k (by omega) kn ov;obtain ⟨b1,b2,b3,bj,t1,t2,t3,t5⟩:=O5 N n2 q4 m2 d2 k (by omega) ib ow;have l1:=s1.2;have l2:=s2.2;have l3:=t1.2;have l4:=t2.2;rw[s5,t5,eU s3 t3,<-ER b3,<-ER a3];have ck:=λ q q'=>UA N a1 false q q' a2 b3 s1.1 t2.1 (by omega)
 have dj:=λ q q'=>UA N b1 false q q' b2 a3 t1.1 s2.1 (by omega)
 have su:=λ q q'=>UA N false false q q' a3 b3 s2.1 t2.1 (by omega)
 have g1:Sm (k+k) (dg (zv a1 a2*zv false b3).natAbs):=UU s1 t2;have g2:Sm (k+k) (dg (zv b1 b2*zv false a3).natAbs):=UU t1 s2;have g3:=AkF g1 g2;have g4:Sm (k+k) (dg (zv false a3*zv false b3).natAbs):=UU s2 t2;have hA:=λ q q'=>wB N (decide (zv a1 a2*zv false b3<0)) (decide (zv b1 b2*zv false a3<0)) q q' _ _ (g1.le (by omega)) (g2.le (by omega))
 rw[E8,E8]at hA;have hR:=λ q q'=>Z8 N (decide (zv a1 a2*zv false b3+zv b1 b2*zv false a3<0)) (decide (zv false a3*zv false b3<0)) q q' _ _ (g3.le (by omega)) (g4.le (by omega))
 rw[E8,E8,show zv false a3*zv false b3=((val a3*val b3:Nat):Int) by rw[ER,ER];simp,Rat.divInt_ofNat]at hR;rw[show zv false a3*zv false b3=((val a3*val b3:Nat):Int) by rw[ER,ER];simp]at su;refine Ev.x N.RO rfl rfl ?_;(repeat' ((first|apply AE|refine AC (ak) ?_|refine AC (bj) ?_|refine AC (ck _ _) ?_|refine AC (dj _ _) ?_|refine AC (hA _ _) ?_|refine AC (su _ _) ?_|refine AC (hR _ _) ?_)<;>conv=>whnf))
 exact AX rfl (DI _)
theorem Ag4 (N:b8 L) (k:Nat) (hk:1<=k/\k<=68719476736) (n1 n2 q2 q4:Bool) (m1 d1 m2 d2:List Nat) (kn:Sm k m1) (ov:Sm k d1) (ib:Sm k m2) (ow:Sm k d2) :
  Ev L 128 [.agg (rQ false q2 n1 m1 d1),.agg (rQ false q4 n2 m2 d2)] (.agg (eQ (qv n1 m1 d1*qv n2 m2 d2))):=by
 obtain ⟨a1,a2,a3,ak,s1,s2,s3,s5⟩:=O5 N n1 q2 m1 d1 k (by omega) kn ov;obtain ⟨b1,b2,b3,bj,t1,t2,t3,t5⟩:=O5 N n2 q4 m2 d2 k (by omega) ib ow;have l1:=s1.2;have l2:=s2.2;have l3:=t1.2;have l4:=t2.2;rw[s5,t5,mU];have ck:=λ q q'=>UA N a1 b1 q q' a2 b2 s1.1 t1.1 (by omega)
 have su:=λ q q'=>UA N false false q q' a3 b3 s2.1 t2.1 (by omega)
 have g1:Sm (k+k) (dg (zv a1 a2*zv b1 b2).natAbs):=UU s1 t1;have g4:Sm (k+k) (dg (zv false a3*zv false b3).natAbs):=UU s2 t2;have hR:=λ q q'=>Z8 N (decide (zv a1 a2*zv b1 b2<0)) (decide (zv false a3*zv false b3<0)) q q' _ _ (g1.le (by omega)) (g4.le (by omega))
 rw[E8,E8,show zv false a3*zv false b3=((val a3*val b3:Nat):Int) by rw[ER,ER];simp,Rat.divInt_ofNat]at hR;rw[show zv false a3*zv false b3=((val a3*val b3:Nat):Int) by rw[ER,ER];simp]at su;refine Ev.x N.RS rfl rfl ?_;(repeat' ((first|apply AE|refine AC (ak) ?_|refine AC (bj) ?_|refine AC (ck _ _) ?_|refine AC (su _ _) ?_|refine AC (hR _ _) ?_)<;>conv=>whnf))
 exact AX rfl (DI _)
theorem yY {a b:Int} {d e:Nat} (hd:d≠0) (he:e≠0):q6 (a*e-b*d)=q6 (mkRat a d-mkRat b e).num:=by
 have h:mkRat a d-mkRat b e=mkRat (a*e-b*d) (d*e):=by
  rw[Rat.sub_eq_add_neg,Rat.neg_mkRat,eU hd he,Int.neg_mul,<-Int.sub_eq_add_neg]
 rw[h,zA (Nat.mul_ne_zero hd he)]
theorem Ag3 (N:b8 L) (k:Nat) (hk:1<=k/\k<=68719476736) (n1 n2 q2 q4:Bool) (m1 d1 m2 d2:List Nat) (kn:Sm k m1) (ov:Sm k d1) (ib:Sm k m2) (ow:Sm k d2) :
  Ev L 127 [.agg (rQ false q2 n1 m1 d1),.agg (rQ false q4 n2 m2 d2)] (.int .i64 (q6 (qv n1 m1 d1-qv n2 m2 d2).num)):=by
 obtain ⟨a1,a2,a3,ak,s1,s2,s3,s5⟩:=O5 N n1 q2 m1 d1 k (by omega) kn ov;obtain ⟨b1,b2,b3,bj,t1,t2,t3,t5⟩:=O5 N n2 q4 m2 d2 k (by omega) ib ow;have l1:=s1.2;have l2:=s2.2;have l3:=t1.2;have l4:=t2.2;rw[s5,t5,<-yY s3 t3,<-ER b3,<-ER a3];have ck:=λ q q'=>UA N a1 false q q' a2 b3 s1.1 t2.1 (by omega)
 have dj:=λ q q'=>UA N b1 false q q' b2 a3 t1.1 s2.1 (by omega)
 have g1:Sm (k+k) (dg (zv a1 a2*zv false b3).natAbs):=UU s1 t2;have g2:Sm (k+k) (dg (zv b1 b2*zv false a3).natAbs):=UU t1 s2;have hC:=λ q q'=>Ag0 N (decide (zv a1 a2*zv false b3<0)) (decide (zv b1 b2*zv false a3<0)) q q' _ _ (g1.le (by omega)) (g2.le (by omega))
 rw[E8,E8]at hC;refine Ev.x N.RP rfl rfl ?_;(repeat' ((first|apply AE|refine AC (ak) ?_|refine AC (bj) ?_|refine AC (ck _ _) ?_|refine AC (dj _ _) ?_|refine AC (hC _ _) ?_)<;>conv=>whnf))
 exact C2 rfl
end Go.c9

namespace Go.c9
def Bt (k:Nat) (x:Rat):Prop:=x.num.natAbs<=2^k/\x.den<=2^k
theorem Bt.le {k l:Nat} {x:Rat} (h:Bt k x) (hl:k<=l):Bt l x:=by
 have:=Nat.pow_le_pow_right (show 0<2 by omega) hl
 exact ⟨Nat.le_trans h.1 this,Nat.le_trans h.2 this⟩
theorem Bt.mk {k:Nat} {z:Int} {d:Nat} (hz:z.natAbs<=2^k) (hd:d<=2^k):Bt k (mkRat z d):=by
 by_cases h0:d=0
 ·subst h0
  rw[Rat.mkRat_zero];exact ⟨by simp,by simp;exact Nat.one_le_two_pow⟩
 ·obtain ⟨e1,e2,_⟩:=mW (z:=z) h0
  unfold Bt;rw[e1,e2];exact ⟨Nat.le_trans (Nat.div_le_self _ _) hz,Nat.le_trans (Nat.div_le_self _ _) hd⟩
theorem Bt.add {k l:Nat} {x y:Rat} (hx:Bt k x) (hy:Bt l y):Bt (k+l+1) (x+y):=by
 rw[Rat.add_def'];refine Bt.mk ?_ ?_
 ·have h1:(x.num*y.den).natAbs<=2^k*2^l:=by rw[Int.natAbs_mul,Int.natAbs_natCast];exact Nat.mul_le_mul hx.1 hy.2
  have h2:(y.num*x.den).natAbs<=2^l*2^k:=by rw[Int.natAbs_mul,Int.natAbs_natCast];exact Nat.mul_le_mul hy.1 hx.2
  rw[Nat.mul_comm (2^l)]at h2;rw[Nat.pow_succ,Nat.pow_add];have h3:=Int.natAbs_add_le (x.num*y.den) (y.num*x.den);omega
 ·rw[Nat.pow_succ,Nat.pow_add]
  have:=Nat.mul_le_mul hx.2 hy.2
  omega
theorem Bt.mul {k l:Nat} {x y:Rat} (hx:Bt k x) (hy:Bt l y):Bt (k+l) (x*y):=by
 rw[Rat.mul_def'];refine Bt.mk ?_ ?_
 ·rw[Int.natAbs_mul,Nat.pow_add];exact Nat.mul_le_mul hx.1 hy.1
 ·rw[Nat.pow_add];exact Nat.mul_le_mul hx.2 hy.2
theorem Bt.zero (k:Nat):Bt k 0:=⟨by simp,by simp;exact Nat.one_le_two_pow⟩
theorem Bt.one (k:Nat):Bt k 1:=⟨by simp;exact Nat.one_le_two_pow,by simp;exact Nat.one_le_two_pow⟩
theorem Bt.Ui {k n:Nat} {x:Rat} (h:Bt k x) (hn:k<32*n):Sm n (dg x.num.natAbs)/\Sm n (dg x.den):=by
 have e:2^k<4294967296^n:=by
  rw[show 4294967296=2^32 from rfl,<-Nat.pow_mul];exact (Nat.pow_lt_pow_iff_right (by omega)).2 hn
 exact ⟨Sm.dg (Nat.lt_of_le_of_lt h.1 e),Sm.dg (Nat.lt_of_le_of_lt h.2 e)⟩
def Bs (k:Nat) (l:List Rat):Prop := ∀ x∈l,Bt k x
theorem Bs.at {k:Nat} {l:List Rat} (h:Bs k l) {i:Nat} {x:Rat} (hx:l[i]? = some x):Bt k x:=h x (zM hx)
theorem Bs.le {k j:Nat} {l:List Rat} (h:Bs k l) (hj:k<=j):Bs j l:=λ x hx=>(h x hx).le hj
theorem Bs.take {k:Nat} {l:List Rat} (h:Bs k l) (n:Nat):Bs k (l.take n):=λ x hx=>h x (List.mem_of_mem_take hx)
def A0:List Rat->List Rat->Rat
 | x::xs,y::ys=>x*y+A0 xs ys
 | _,_=>0
theorem VD (l:List Rat):A0 l []=0:=by cases l<;>rfl
theorem uN : ∀ {a b:List Rat} {x y:Rat},a.length=b.length->A0 (a++[x]) (b++[y])=A0 a b+x*y
 | [],[],x,y,_=>by show x*y+0=0+x*y;rw[Rat.add_zero,Rat.zero_add]
 | p::a,q::b,x,y,h=>by
  show p*q+A0 (a++[x]) (b++[y])=p*q+A0 a b+x*y;rw[uN (by simpa using h),Rat.add_assoc]
theorem WI {a b:List Rat} {i:Nat} {x y:Rat} (hx:a[i]? = some x) (hy:b[i]? = some y):A0 (a.take (i+1)) (b.take (i+1))=A0 (a.take i) (b.take i)+x*y:=by
 have h1:=(zS hx).1;have h2:=(zS hy).1;rw[List.take_add_one,List.take_add_one,hx,hy,Option.toList_some,Option.toList_some,uN (by rw[List.length_take,List.length_take];omega)]
theorem VC {a b:List Rat} {n:Nat} (h:a.length=n):A0 (a.take n) (b.take n)=A0 a b:=by
 subst h;rw[List.take_of_length_le (Nat.le_refl _)];induction a generalizing b with
 | nil=>cases b<;>rfl
 | cons x a ih=>cases b with
  | nil=>rfl
  | cons y b=>simp only[List.length_cons,List.take_succ_cons,A0,ih]
theorem Bs.dot {k l:Nat} : ∀ {a b:List Rat},Bs k a->Bs l b->Bt (a.length*(k+l+1)) (A0 a b)
 | [],b,_,_=>by cases b<;>exact Bt.zero _
 | x::a,[],_,_=>Bt.zero _
 | x::a,y::b,ha,hb=>by
  have h1:=(ha x (by simp)).mul (hb y (by simp));have h2:=Bs.dot (a:=a) (b:=b) (λ z hz=>ha z (by simp [hz])) (λ z hz=>hb z (by simp [hz]));refine (h1.add h2).le ?_;rw[List.length_cons,Nat.succ_mul];omega
def U6 (a b:List Rat):List Rat:=List.zipWith (· + ·) a b
theorem kJ : ∀ {a u v:List Rat},u.length=v.length->A0 a (U6 u v)=A0 a u+A0 a v
 | [],_,_,_=>by simp only[A0];rw[Rat.add_zero]
 | x::a,[],[],_=>by simp only[U6,List.zipWith_nil_left,A0];rw[Rat.add_zero]
 | x::a,p::u,q::v,h=>by
  show x*(p+q)+A0 a (U6 u v)=_;rw[kJ (by simpa using h)];simp only[A0];grind
structure CU where
 a:List (List Rat)
 b:List Rat
 c:List Rat
 d:Rat
structure CU.Ok (S:CU) (n k:Nat):Prop where
 la:S.a.length=n
 lr : ∀ r∈S.a,r.length=n
 lb:S.b.length=n
 lc:S.c.length=n
 ba : ∀ r∈S.a,Bs k r
 bb:Bs k S.b
 bc:Bs k S.c
 bd:Bt k S.d
def CU.out (S:CU) (now:List Rat) (x:Rat):Rat:=A0 S.c now+S.d*x
def JT (now:List Rat) (x:Rat):List (List Rat)->List Rat->List Rat
 | r::a,b::bs=>(A0 r now+b*x)::JT now x a bs
 | _,_=>[]
def CU.next (S:CU) (now:List Rat) (x:Rat):List Rat:=JT now x S.a S.b
def CU.state (S:CU):List Rat->List Rat->List Rat
 | now,[]=>now
 | now,x::xs=>S.state (S.next now x) xs
def CU.outs (S:CU):List Rat->List Rat->List Rat
 | _,[]=>[]
 | now,x::xs=>S.out now x::S.outs (S.next now x) xs
theorem zN (now:List Rat) (x:Rat) : ∀ (a:List (List Rat)) (b:List Rat),a.length=b.length->(JT now x a b).length=a.length
 | [],[],_=>rfl
 | r::a,y::b,h=>by simp only[JT,List.length_cons];rw[zN now x a b (by simpa using h)]
theorem zK (now:List Rat) (x:Rat) : ∀ (a:List (List Rat)) (b:List Rat) (i:Nat) (r:List Rat) (y:Rat),a[i]? = some r->b[i]? = some y->(JT now x a b)[i]? = some (A0 r now+y*x)
 | [],_,i,r,y,h,_=>by simp at h
 | _::_,[],i,r,y,_,h=>by simp at h
 | r0::a,y0::b,0,r,y,h,h'=>by
  simp at h h';subst h;subst h';rfl
 | r0::a,y0::b,i+1,r,y,h,h'=>by
  simp only[JT,List.getElem?_cons_succ]at h h' ⊢;exact zK now x a b i r y h h'
theorem Tg (S:CU) (x:Rat) : ∀ (xs now:List Rat),S.state now (xs++[x])=S.next (S.state now xs) x
 | [],_=>rfl
 | y::xs,now=>Tg S x xs (S.next now y)
theorem Rb (S:CU) (x:Rat) : ∀ (xs now:List Rat),S.outs now (xs++[x])=S.outs now xs++[S.out (S.state now xs) x]
 | [],_=>rfl
 | y::xs,now=>by
  show S.out now y::S.outs (S.next now y) (xs++[x])=_;rw[Rb S x xs (S.next now y)];rfl
theorem fP (S:CU) : ∀ (xs now:List Rat),(S.outs now xs).length=xs.length
 | [],_=>rfl
 | y::xs,now=>by simp only[CU.outs,List.length_cons,fP S xs]
theorem CU.Ok.ju {S:CU} {n k:Nat} (h:S.Ok n k) (now:List Rat) (x:Rat):(S.next now x).length=n:=by
 unfold CU.next;rw[zN _ _ _ _ (by rw[h.la,h.lb]),h.la]
theorem CU.Ok.lv {S:CU} {n k:Nat} (h:S.Ok n k) : ∀ (xs now:List Rat),now.length=n->(S.state now xs).length=n
 | [],_,hn=>hn
 | x::xs,now,_=>h.lv xs _ (h.ju now x)
def UX (n k s:Nat):Nat:=n*(k+s+1)+(k+k)+1
def UQ (n k:Nat):Nat->Nat->Nat
 | s,0=>s
 | s,i+1=>UQ n k (UX n k s) i
theorem CU.Ok.se {S:CU} {n k s:Nat} (h:S.Ok n k) {now:List Rat} {x:Rat} (hl:now.length=n) (hs:Bs s now) (hx:Bt k x):Bs (UX n k s) (S.next now x)/\Bt (UX n k s) (S.out now x):=by
 constructor
 ·have key : ∀ (a:List (List Rat)) (b:List Rat),(∀ r∈a,r.length=n/\Bs k r)->Bs k b->Bs (UX n k s) (JT now x a b):=by
   intro a;induction a with
   | nil=>intro b _ _ y hy;simp [JT]at hy
   | cons r a ih =>
    intro b ha hb;cases b with
    | nil=>intro y hy;simp [JT]at hy
    | cons c b =>
     intro y hy;simp only[JT,List.mem_cons]at hy;rcases hy with rfl|hy
     ·obtain ⟨l1,l2⟩:=ha r (by simp)
      have h1:=l2.dot (b:=now) hs;rw[l1]at h1;refine (h1.add ((hb c (by simp)).mul hx)).le ?_;unfold UX;omega
     ·exact ih b (λ r hr=>ha r (by simp [hr])) (λ z hz=>hb z (by simp [hz])) y hy
  exact key S.a S.b (λ r hr=>⟨h.lr r hr,h.ba r hr⟩) h.bb
 ·have h1:=h.bc.dot (b:=now) hs
  rw[h.lc]at h1;refine (h1.add (h.bd.mul hx)).le ?_;unfold UX;omega
theorem Py (n k:Nat) : ∀ (i s:Nat),UQ n k s (i+1)=UX n k (UQ n k s i)
 | 0,_=>rfl
 | i+1,s=>Py n k i (UX n k s)
theorem CU.Ok.og {S:CU} {n k:Nat} (h:S.Ok n k) : ∀ (xs now:List Rat) (s:Nat),now.length=n->Bs s now->Bs k xs->Bs (UQ n k s xs.length) (S.state now xs)
 | [],_,_,_,hs,_=>hs
 | x::xs,now,s,hl,hs,hx=>by
  exact h.og xs _ _ (h.ju now x) (h.se hl hs (hx x (by simp))).1 (λ z hz=>hx z (by simp [hz]))
def GG:Nat->List Rat
 | 0=>[]
 | n+1=>1::List.replicate n 0
theorem aK (n:Nat):(GG n).length=n:=by cases n<;>simp [GG]
theorem Aih (k n:Nat):Bs k (GG n):=by
 intro x hx;cases n with
 | zero=>simp [GG]at hx
 | succ n =>
  simp only[GG,List.mem_cons,List.mem_replicate]at hx;rcases hx with rfl|⟨_,rfl⟩
  ·exact Bt.one k
  ·exact Bt.zero k
def E5 (n:Nat) (j:Int):List Rat:=(List.range n).map λ i:Nat=>if (i:Int)=j then 1 else 0
theorem iC (n:Nat) (j:Int):(E5 n j).length=n:=by simp [E5]
end Go.c9

namespace Go.c9
open F
attribute [local irreducible] AA AF AP AD CI AY AW A6 A5 B2 AM BQ B8 C8 BM A1 BR B9 AB A7 AJ pw BO BH CH CK CS CP CD BT CJ
variable {L:Lib}
set_option maxHeartbeats 4000000
theorem Bt.ji {k:Nat} {x:Rat} (h:Bt k x) (hk:k<2199023255552):Sm 68719476736 (dg x.num.natAbs)/\Sm 68719476736 (dg x.den):=h.Ui (by omega)
theorem WN (N:b8 L) {x y:Rat} {k l:Nat} (hx:Bt k x) (hy:Bt l y) (hk:k<2199023255552) (hl:l<2199023255552):Ev L 126 [.agg (eQ x),.agg (eQ y)] (.agg (eQ (x+y))):=by
 have:=wD N 68719476736 (by omega) (decide (x.num<0)) (decide (y.num<0)) false false _ _ _ _ (hx.ji hk).1 (hx.ji hk).2 (hy.ji hl).1 (hy.ji hl).2
 rw[EM,EM]at this;exact this
theorem TB (N:b8 L) {x y:Rat} {k l:Nat} (hx:Bt k x) (hy:Bt l y) (hk:k<2199023255552) (hl:l<2199023255552):Ev L 128 [.agg (eQ x),.agg (eQ y)] (.agg (eQ (x*y))):=by
 have:=Ag4 N 68719476736 (by omega) (decide (x.num<0)) (decide (y.num<0)) false false _ _ _ _ (hx.ji hk).1 (hx.ji hk).2 (hy.ji hl).1 (hy.ji hl).2
 rw[EM,EM]at this;exact this
theorem eC (N:b8 L) {x:Rat} {k:Nat} (hx:Bt k x) (hk:k<2199023255552):Ev L 123 [.agg (eQ x)] (.agg (eQ x)):=by
 have:=Ag5 N (decide (x.num<0)) false _ _ ((hx.ji hk).1.le (by omega)) ((hx.ji hk).2.le (by omega))
 rw[EM]at this;exact this
theorem Z6 (N:b8 L) {x y:Rat} {k l:Nat} (hx:Bt k x) (hy:Bt l y) (hk:k<2199023255552) (hl:l<2199023255552):Ev L 127 [.agg (eQ x),.agg (eQ y)] (.int .i64 (q6 (x-y).num)):=by
 have:=Ag3 N 68719476736 (by omega) (decide (x.num<0)) (decide (y.num<0)) false false _ _ _ _ (hx.ji hk).1 (hx.ji hk).2 (hy.ji hl).1 (hy.ji hl).2
 rw[EM,EM]at this;exact this
theorem oP {x y:Rat}:q6 (x-y).num=0↔x=y:=by
 have h:q6 (x-y).num=0↔(x-y).num=0:=by unfold q6;split<;>(try split)<;>omega
 rw[h,Rat.num_eq_zero];constructor
 ·intro h;grind
 ·rintro rfl;exact Rat.sub_self
theorem eA (N:o0 L) {x:Rat} {k:Nat} (hx:Bt k x) (hk:k<2199023255552):Ev L 152 [.agg (eQ x)] (.agg (eQ (-x))):=by
 have hT:=eC N.tob8 hx hk;have hN:=λ q=>lF N.tob8 (decide (x.num<0)) q (dg x.num.natAbs) ((hx.ji hk).1.le (by omega))
 rw[E8]at hN;refine Ev.x N.RT rfl rfl ?_;(repeat' ((first|apply AE|refine AC (hT) ?_|refine AC (hN _) ?_)<;>conv=>whnf))
 refine AX ?_ (DI _);show _=AV.agg (rQ _ _ _ _ _);rw[Rat.neg_num,Rat.neg_den]
theorem wJ (N:o0 L) {x y:Rat} {k l:Nat} (hx:Bt k x) (hy:Bt l y) (hk:k<2199023255552) (hl:l<2199023255552):Ev L 153 [.agg (eQ x),.agg (eQ y)] (.agg (eQ (x-y))):=by
 have hn:Bt l (-y):=⟨by rw[Rat.neg_num,Int.natAbs_neg];exact hy.1,by rw[Rat.neg_den];exact hy.2⟩;have hN:=eA N hy hl;have hA:=WN N.tob8 hx hn hk hl;rw[<-Rat.sub_eq_add_neg]at hA;refine Ev.x N.KO rfl rfl ?_;(repeat' ((first|apply AE|refine AC (hN) ?_|refine AC (hA) ?_)<;>conv=>whnf))
 exact AX rfl (DI _)
theorem Ajc {a c:Int} {b d:Nat} (hb:b≠0) (hd:d≠0) (hc:c≠0):mkRat a b/mkRat c d=Rat.divInt (a*d) (b*c):=by
 rw[Rat.div_def,<-Rat.divInt_ofNat,<-Rat.divInt_ofNat,Rat.inv_divInt,Rat.divInt_mul_divInt]
theorem Agq (N:o0 L) {x y:Rat} {k l:Nat} (hx:Bt k x) (hy:Bt l y) (hk:k<2199023255552) (hl:l<2199023255552) (h0:y≠0):Ev L 154 [.agg (eQ x),.agg (eQ y)] (.j5 [.agg (eQ (x/y)),.int .i64 0]):=by
 obtain ⟨a1,a2,a3,ak,s1,s2,s3,s5⟩:=O5 N.tob8 (decide (x.num<0)) false (dg x.num.natAbs) (dg x.den) 68719476736 (by omega) (hx.ji hk).1 (hx.ji hk).2;obtain ⟨b1,b2,b3,bj,t1,t2,t3,t5⟩:=O5 N.tob8 (decide (y.num<0)) false (dg y.num.natAbs) (dg y.den) 68719476736 (by omega) (hy.ji hl).1 (hy.ji hl).2;have l1:=s1.2;have l2:=s2.2;have l3:=t1.2;have l4:=t2.2;rw[EM]at s5 t5;have ub:zv b1 b2≠0:=λ h=>h0 (by rw[t5,h,Rat.zero_mkRat])
 have hS:=λ q=>YF N.tob8 b1 q b2 (t1.le (by omega))
 have rz:q6 (zv b1 b2)≠0:=by unfold q6;split<;>(try split)<;>omega
 have ck:=λ q q'=>UA N.tob8 a1 false q q' a2 b3 s1.1 t2.1 (by omega)
 have dj:=λ q q'=>UA N.tob8 false b1 q q' a3 b2 s2.1 t1.1 (by omega)
 have g1:Sm (68719476736+68719476736) (dg (zv a1 a2*zv false b3).natAbs):=UU s1 t2;have g2:Sm (68719476736+68719476736) (dg (zv false a3*zv b1 b2).natAbs):=UU s2 t1;have hR:=λ q q'=>Z8 N.tob8 (decide (zv a1 a2*zv false b3<0)) (decide (zv false a3*zv b1 b2<0)) q q' _ _ (g1.le (by omega)) (g2.le (by omega))
 rw[E8,E8]at hR;have he:x/y=Rat.divInt (zv a1 a2*zv false b3) (zv false a3*zv b1 b2):=by rw[s5,t5,Ajc s3 t3 ub,ER,ER]
 rw[he];generalize q6 (zv b1 b2)=sg at *;refine Ev.x N.RQ rfl rfl ?_;(repeat' ((first|(apply AG<;>intro hc<;>try (exfalso;omega))|apply AE|refine AC (ak) ?_|refine AC (bj) ?_|refine AC (hS _) ?_|refine AC (ck _ _) ?_|refine AC (dj _ _) ?_|refine AC (hR _ _) ?_)<;>conv=>whnf))
 exact AX rfl (by simp only[A3,CG,and_true,true_and];exact ⟨CM _,CM _⟩)
end Go.c9

namespace Go.c9
abbrev eO:Option Rat->List AV
 | none=>[.bool false,.nil,.nil]
 | some x=>eQ x
def ED (l:List Rat) (m:Nat):List (Option Rat):=l.map some++List.replicate (m-l.length) none
theorem OG (m:Nat):ED [] m=List.replicate m none:=by simp [ED]
theorem J9 {l:List Rat} {m:Nat} (h:l.length<=m):(ED l m).length=m:=by simp [ED];omega
theorem OH {l:List Rat} {m:Nat} {x:Rat} (h:l.length<m):(ED l m).set l.length (some x)=ED (l++[x]) m:=by
 unfold ED;have e:m-l.length=(m-(l++[x]).length)+1:=by simp;omega
 rw[e,List.replicate_succ,List.set_append_right _ _ (by simp)];simp
theorem OE {l:List Rat} {m:Nat} (h:l.length=m):(ED l m).map eO=l.map eQ:=by
 unfold ED;rw[h,Nat.sub_self];simp [Function.comp_def]
abbrev eS (S:CU):List AV:=[.sl false (S.a.map λ r=>[AV.sl false (r.map eQ)]),.sl false (S.b.map eQ),.sl false (S.c.map eQ)]++eQ S.d
theorem HO (l:List Rat):FP (l.map eQ):=X6 (λ x=>by simp only[CG,A3,and_true,true_and];exact ⟨CM _,CM _⟩) l
theorem SP {l:List Rat} {i:Nat} {x:Rat} (h:l[i]? = some x):l.take (i+1)=l.take i++[x]:=by
 rw[List.take_add_one,h];rfl
theorem Aea (a b:List Rat) (e:Int):A3 (.j5 [.sl false (a.map eQ),.sl false (b.map eQ),.int .i64 e]):=by
 simp only[A3,CG,and_true,true_and];exact ⟨HO a,HO b⟩
theorem sQ (a:List Rat) (e:Int):A3 (.j5 [.sl false (a.map eQ),.int .i64 e]):=by
 simp only[A3,CG,and_true,true_and];exact HO a
theorem ZU (S:CU):A3 (.agg (eS S)):=by
 have h:FP (S.a.map λ r=>[AV.sl false (r.map eQ)]):=X6 (λ r=>by simp only[CG,A3,and_true,true_and];exact HO r) S.a;simp only[A3,List.cons_append,List.nil_append,CG,and_true,true_and];exact ⟨h,HO _,HO _,CM _,CM _⟩
end Go.c9

namespace Go.c9
open F
attribute [local irreducible] AA AF AP AD CI AY AW A6 A5 B2 AM BQ B8 C8 BM A1 BR B9 AB A7 AJ pw BO BH CH CK CS CP CD BT CJ
variable {L:Lib}
set_option maxHeartbeats 8000000
theorem wI (N:o0 L) {x:Rat} {k:Nat} (hx:Bt k x) (hk:k<2199023255552) : ∃ s:Int,Ev L 155 [.agg (eQ x)] (.int .i64 s)/\(s=0↔x=0):=by
 have hm:=hx.ji hk;obtain ⟨n',m',d',hp,s1,s2,s3,s4⟩:=O5 N.tob8 (decide (x.num<0)) false (dg x.num.natAbs) (dg x.den) 274877906943 (by omega) (hm.1.le (by omega)) (hm.2.le (by omega));have hS:=λ q=>YF N.tob8 n' q m' (s1.le (by omega))
 rw[EM]at s4;have hz:q6 (zv n' m')=0↔x=0:=by
  rw[s4,Rat.mkRat_eq_zero s3];unfold q6;split<;>(try split)<;>omega
 generalize q6 (zv n' m')=s at *;refine ⟨s,?_,hz⟩;refine Ev.x N.KN rfl rfl ?_;(repeat' ((first|apply AE|refine AC (hp) ?_|refine AC (hS _) ?_)<;>conv=>whnf))
 exact C2 rfl
def H7 (l:List Rat):Nat->Nat
 | 0=>0
 | n+1=>if l.getD n 0=0 then H7 l n else n+1
theorem ZX (l:List Rat) : ∀ n,H7 l n<=n
 | 0=>Nat.le_refl _
 | n+1=>by rw[H7];split;exact Nat.le_succ_of_le (ZX l n);exact Nat.le_refl _
def TP (l:List Rat):List Rat:=l.take (H7 l l.length)
theorem Rz (l:List Rat):(TP l).length=H7 l l.length:=by rw[TP,List.length_take];exact Nat.min_eq_left (ZX _ _)
end Go.c9

namespace Go.c9
open F
theorem Af5 {L:Lib} {f:Nat} {fn:AFn} {vs:List AV} {own m6:AH} {r:AV} (hL:L f=some fn) (Hi:IM fn.body=true) (h:GS L f vs own r m6):m6=own:=by
 obtain ⟨n,h⟩:=h;cases n with
 | zero=>simp [DQ]at h
 | succ n =>
  rw[Z4]at h;simp only[hL]at h;split at h
  ·split at h
   ·rename_i st k6
    split at h
    ·simp only[Option.some.injEq,Prod.mk.injEq]at h
     rw[<-h.2];exact JD n (by simp [UD,Hi]) k6
    ·cases h
   ·cases h
  ·cases h
attribute [local irreducible] AA AF AP AD CI AY AW A6 A5 B2 AM BQ B8 C8 BM A1 BR B9 AB A7 AJ pw BO BH CH CK CS CP CD BT CJ
set_option maxHeartbeats 1000000
variable {L:Lib}
theorem Aez (N:g6 L) (l:List Nat) (s:Nat) (hD:A2 l) (hl:l.length<=1099511627776):A7 L 65 [.row 5 0 1 0 l.length] [(0,.row 5 0 1 0 l.length)] [(5,s,.rw 1 (l.map AL))] (λ r _=>r = .row 5 0 1 0 (dg (val l)).length):=by
 have hlen : ∀ n,n<=l.length->l.take n=dg (val l)->n=(dg (val l)).length:=λ n h1 h2=>by
  rw[<-h2,List.length_take];omega
 refine GI 1000 N.FS rfl rfl ?_;(repeat' (apply AE<;>conv=>whnf))
 refine BP (λ n=>n) (λ(n:Nat)=>n<=l.length /\ ∀ i,n<=i->i<l.length->l[i]? = some 0) (λ n=>[(3,.int .i64 n)]) (λ_=>[]) [] [] l.length (by (conv=>whnf);exact ⟨rfl,rfl,rfl⟩) ⟨Nat.le_refl _,λ i h1 h2=>by omega⟩ ?_;intro n ⟨p1,p2⟩ ih;rcases n with _|n
 ·(repeat' ((first|(apply AG<;>intro hc<;>try (exfalso;omega))|apply AE)<;>conv=>whnf))
  refine HD 0 (by omega) (by omega) ?_;(conv=>whnf)
  refine ⟨rfl,_,rfl,?_⟩;rw[<-hlen 0 p1 (GM hD p1 p2 (Or.inl rfl))];rfl
 ·have e1:((n+1:Nat):Int)-1=n:=by omega
  (repeat' ((first|(apply AG<;>intro hc<;>try (exfalso;omega))|(apply AZ;omega)|(apply B7;omega)|(refine V7 (by assumption) ?_ (λ v hv hb => ?_);omega)|apply AE)<;>conv=>whnf))
  ·rw[e1]
   exact BG [] (ih n (by omega) ⟨by omega,λ i h1 h2=>by
    by_cases h:i=n
    ·subst h
     rw[e1,Int.toNat_natCast]at hv;rw[hv];congr 1;omega
    ·exact p2 i (by omega) h2⟩)
  ·refine HD (n+1) (by omega) (by omega) ?_
   (conv=>whnf)
   refine ⟨rfl,_,rfl,?_⟩;rw[e1,Int.toNat_natCast]at hv;rw[<-hlen (n+1) p1 (GM hD p1 p2 (Or.inr ⟨_,hv,by omega⟩))];rfl
theorem Aey (N:g6 L) (l:List Nat) (s t:Nat) (own:AH) (hD:A2 l) (hl:l.length<=1099511627776) (hb:(own s).g7 t=some ⟨1,l.map AL⟩) (ht:t<(own s).j7) (oy:EY s=true):GS L 65 [.row s t 1 0 l.length] own (.row s t 1 0 (dg (val l)).length) own:=by
 have hs:NZ (λ_ _=>(s,t)) own [(5,s,.rw 1 (l.map AL))]:=by
  have key : ∀ k u c,c4 [(5,s,A8.rw 1 (l.map AL))] k u=some c->k=5/\u=0/\c = .rw 1 (l.map AL):=λ k u c e=>by
   simp only[c4,e8]at e;cases hk:Nat.beq k 5<;>simp only[hk,cond_true,cond_false]at e
   ·cases e
   ·cases u with
    | zero=>simp only[Option.some.injEq]at e;exact ⟨Nat.eq_of_beq_eq_true hk,rfl,e.symm⟩
    | succ u=>cases e
  refine ⟨λ k s' c e => ?_,λ k u c e => ?_,λ k u c e=>ht,λ k u k' u' c c' e e' _ => ?_,λ_ _ _ _ _=>oy⟩
  ·simp only[e8]at e
   cases hk:Nat.beq k 5<;>simp only[hk,cond_true,cond_false]at e
   ·cases e
   ·simp only[Option.some.injEq,Prod.mk.injEq]at e;exact e.1
  ·obtain ⟨_,_,rfl⟩:=key k u c e
   exact hb
  ·obtain ⟨rfl,rfl,_⟩:=key k u c e
   obtain ⟨rfl,rfl,_⟩:=key k' u' c' e';exact ⟨rfl,rfl⟩
 have hw:=Aez N l s hD hl;unfold A7 at hw;obtain ⟨r,m6,σ',M',h1,h2,h3,rfl⟩:=hw _ own hs;have ho:=Af5 N.FS (by decide +kernel) h1;subst ho;have h4:AV.row (σ' 5 0).1 (σ' 5 0).2 1 0 l.length=AV.row s t 1 0 l.length:=h3 0;simp only[AV.row.injEq]at h4;have h5:GS L 65 [.row s t 1 0 l.length] m6 (.row (σ' 5 0).1 (σ' 5 0).2 1 0 (dg (val l)).length) m6:=h1;rw[h4.1,h4.2.1]at h5;exact h5
theorem cA (N:g6 L) {l:List Nat} {tm:Tm} {M:Mem} {K:AV->Mem->Prop} {key s len:Nat} (hD:A2 l) (hl:l.length<=1099511627776) (hm:e8 M key=some (s,.rw 1 (l.map AL))) (hlen:len=l.length) (hk:K (.row key 0 1 0 (dg (val l)).length) M):A7 L 65 [.row key 0 1 0 len] tm M K:=by
 subst hlen;unfold A7;intro σ own hs;have fu:=hs.site _ _ _ hm;have Hf:c4 M key 0=some (.rw 1 (l.map AL)):=by simp only[c4,hm]
 have hb:=hs.g7 _ _ _ Hf;have ht:=hs.old _ _ _ Hf;refine ⟨.row key 0 1 0 (dg (val l)).length,own,σ,M,?_,hs,λ_=>rfl,hk⟩;exact Aey N l (σ key 0).1 (σ key 0).2 own hD hl hb ht (hs.low _ _ _ (D4 hm) rfl)
end Go.c9

namespace Go.c9
open F
attribute [local irreducible] AA AF AP AD CI AY AW A6 A5 B2 AM BQ B8 C8 BM A1 BR B9 AB A7 AJ pw BO BH CH CK CS CP CD BT CJ
set_option maxHeartbeats 4000000
variable {L:Lib}
abbrev kO (v:List Nat) (j m s xl:Nat):Tm:=[(102,AV.sl false (List.map AL v)),(101,AV.row 71012 0 1 j (v.length+1)),
           (100,AV.int IntKind.i64 (↑j + ↑v.length+1)),(99,AV.int IntKind.i64 (↑j + ↑v.length)),
           (98,AV.int IntKind.i64 ↑v.length),(97,AV.int IntKind.i64 ↑j),(96,AV.int IntKind.i64 ↑j),
           (95,AV.row 71012 0 1 0 (xl+1)),(94,AV.int IntKind.i64 ↑j),(93,AV.row 28 0 1 0 m),
           (90,AV.bool true),(14,AV.int IntKind.i64 ↑j),(13,AV.sl false (List.map AL v)),
           (12,AV.row 71012 0 1 0 (xl+1)),(11,AV.int IntKind.u64 ↑s),(7,AV.row 28 0 1 0 m),
           (6,AV.int IntKind.i64 ↑v.length)]
abbrev AfR:List It:=[It.lp F3.l2,It.g7 2,It.code
      (((BJ.ops F3.ct false).dr [9,10,84,85,86,87,118,119,120,121,122,123,124,125,126]
         []).seq
       (((BJ.ops F3.ea false).dr [127,128,129,130,131] []).seq
        ((((BJ.ops F3.fk false).dr [15,132,133] []).seq
           (BJ.cond 134
            (((BJ.ops F3.jg false).dr [0,1,5,7,134,135,136] []).seq BJ.ret)
            BJ.skip)).seq
         (((BJ.ops F3.ka false).dr [134] []).seq
          ((((BJ.ops F3.lu false).dr [1] []).seq (BJ.block 4 F3.l3.loop)).seq
           (((BJ.ops F3.zs false).dr
              [0,5,9,137,138,139,140,162,163,164,165,166,167,168,169] []).seq
            (((BJ.ops F3.Bg false).dr [7,170,171,172] []).seq BJ.ret)))))))]
section
variable {A W C w v:List Nat} {j m s xl q:Nat} {K:AV->Mem->Prop}
theorem kE (hA:A.length=j) (hW:W.length=v.length+1) (D2:A2 W) (fo:A2 v) (gm:2<=v.length) (wo:v.length<=549755813888) (au:0<val v)
  (r1:q<4294967296) (r2:val W/val v<=q) (r3:q<=val W/val v+1)
  (hk : ∀ (W':List Nat) (o':List (List AV)) (q':Nat),W'.length=v.length+1->A2 W'->val W'=val W%val v->q'=val W/val v->K (.int .u32 (q':Int)) [(71012,71012,.rw 1 ((A++W'++C).map AL)),(28,28,.rw 1 (w.map AL)),(71012,71012,.rw 1 o')])
  (ia : ∀ (W':List Nat) (o':List (List AV)) (q':Nat),W'.length=v.length+1->A2 W'->val W'=val W%val v->q'=val W/val v->K (.int .u32 (q':Int)) [(71012,71012,.rw 1 ((A++W'++C).map AL)),(71012,71012,.rw 1 o'),(28,28,.rw 1 (w.map AL))]) :
  AA L AfR ([(86,.int .i64 0),(85,.int .i64 v.length),(84,.sl false (v.map AL)),(10,.int .u64 0),(9,.int .u64 0),(7,.int .u64 (q:Int)),(5,.int .i64 v.length),(0,AV.row 71012 0 1 j (v.length+1)),(1,AV.sl false (List.map AL v))]++GP 1000 (kO v j m s xl))
   [(71012,71012,A8.rw 1 (List.map AL (A++W++C))),(28,28,A8.rw 1 (List.map AL w))] (rE 1000 F3 (kO v j m s xl) K):=by
 refine bW (λ i _ _ _=>v.length-i) (λ(i:Nat) (Z:List Nat) (c b:Nat)=>i<=v.length/\Z.length=v.length+1/\A2 Z/\c<4294967296/\b<=1/\Z.drop i=W.drop i/\val (Z.take i)+q*val (v.take i)=val (W.take i)+4294967296^i*(c+b)) (λ i Z c b=>[(86,.int .i64 i),(10,.int .u64 (b:Int)),(9,.int .u64 (c:Int))]) (λ i Z c b=>[(71012,71012,.rw 1 ((A++Z++C).map AL))]) [] [] 0 W 0 0 (by (conv=>whnf);exact ⟨rfl,rfl,rfl⟩) ⟨by omega,hW,D2,by omega,by omega,rfl,by simp [val]⟩ ?_;intro i Z c b ⟨p1,p2,p3,p4,p5,p6,p7⟩ ih;by_cases hi:i<v.length
 ·obtain ⟨d,hd⟩ : ∃ d,v[i]? = some d:=⟨_,zE hi⟩
  obtain ⟨u,hu⟩ : ∃ u,Z[i]? = some u:=⟨_,zE (by omega)⟩;have cj:=fo.at hd;have nr:=p3.at hu;obtain ⟨pr,ug⟩ : ∃ pr,pr=q*d+c:=⟨_,rfl⟩;obtain ⟨m1,m2,m3⟩:=zD r1 cj p4 ug;have ym:W[i]? = some u:=by
   have e1:(Z.drop i)[0]? = (W.drop i)[0]? := by rw[p6]
   simpa [hu] using e1.symm
  (repeat' ((first|(apply AG<;>intro hc<;>try (exfalso;omega))|(apply AZ;omega)|(apply GC;omega)|(apply TU;omega)|apply FL|(apply CR;omega)|(refine BA (by assumption) ?_ rfl ?_;omega)|apply AE)<;>conv=>whnf))
  rw[<-ug];refine U3 i hu (by omega) ?_;(conv=>whnf)
  (repeat' ((first|(apply AZ;omega)|(apply cL;omega)|(apply CR;omega)|apply FW)<;>conv=>whnf))
  obtain ⟨s1,s2⟩:=hJ nr (show pr%4294967296<4294967296 by omega) p5;have k6:=Ajf p7 ug rfl nr p5;generalize EQ (EQ u (pr%4294967296)) b=t at *;refine SY i (by omega) (by omega) ?_;(conv=>whnf)
  (repeat' ((first|(apply AU;omega)|apply cK)<;>conv=>whnf))
  refine BW [] (by (conv=>whnf);exact ⟨rfl,rfl,rfl⟩) (ih (i+1) _ _ _ (by omega) ⟨by omega,by simpa using p2,p3.set _ (by omega),m1,s2,?_,?_⟩)
  ·rw[List.drop_set_of_lt (by omega)]
   have e1:(Z.drop i).drop 1=(W.drop i).drop 1:=by rw[p6]
   simpa using e1
  ·rw[F6 (by omega),EB hd,EB ym,Nat.pow_succ]
   exact k6
 ·obtain rfl:i=v.length:=by omega
  clear ih;obtain ⟨u,hu⟩ : ∃ u,Z[v.length]? = some u:=⟨_,zE (by omega)⟩;have nr:=p3.at hu;have ym:W[v.length]? = some u:=by
   have e1:(Z.drop v.length)[0]? = (W.drop v.length)[0]? := by rw[p6]
   simpa [hu] using e1.symm
  rw[DE (Nat.le_refl v.length)]at p7;obtain ⟨s1,s2⟩:=hJ nr p4 p5;have k6:=Ajd p7 rfl nr p4 p5;have eW:val W=val (W.take v.length)+4294967296^v.length*u:=by
   rw[<-EB ym,DE (by omega)]
  rw[<-eW,<-F6 (show v.length<Z.length by omega),DE (by simp;omega)]at k6;(repeat' ((first|(apply AG<;>intro hc<;>try (exfalso;omega))|(apply AZ;omega)|apply AE)<;>conv=>whnf))
  refine U3 v.length hu (by omega) ?_;(conv=>whnf)
  (repeat' ((first|(apply AZ;omega)|(apply cL;omega)|(apply CR;omega)|apply FW)<;>conv=>whnf))
  generalize EQ (EQ u c) b=t at *;refine SY v.length (by omega) (by omega) ?_;(conv=>whnf)
  (repeat' ((first|(apply AG<;>intro hc<;>try (exfalso;omega))|apply cK|(apply EI;omega)|apply AR)<;>conv=>whnf))
  ·have xx:t/9223372036854775808=0:=by omega
   rw[xx,Nat.mul_zero,Nat.add_zero]at k6;obtain ⟨y1,y2⟩:=tY au r2 k6;exact ⟨rfl,_,rfl,hk _ _ _ (by simpa using p2) (p3.set _ (by omega)) y2 y1⟩
  ·have Jh:t/9223372036854775808=1:=by omega
   rw[Jh,Nat.mul_one]at k6;have Fm:A2 (Z.set v.length (t%4294967296)):=p3.set _ (by omega);have pt:(Z.set v.length (t%4294967296)).length=v.length+1:=by simpa using p2
   clear p7 p6 p4 p5 s1 s2 eW Jh hu ym nr p1 p2 p3;generalize Z.set v.length (t%4294967296)=X at *;have Dw:=E6 Fm;rw[pt,Nat.pow_succ]at Dw;obtain ⟨y1,y2,y3⟩:=tX au r3 Dw k6;have hRV:val W%val v<val v:=Nat.mod_lt _ au;have Bw:=E6 fo;obtain ⟨xw,Di⟩ : ∃ xw,X[v.length]? = some xw:=⟨_,zE (by omega)⟩;have eX:val X=val (X.take v.length)+4294967296^v.length*xw:=by
    rw[<-EB Di,DE (by omega)]
   refine GR (λ i _ _=>v.length-i) (λ(i:Nat) (Z:List Nat) (c:Nat)=>i<=v.length/\Z.length=v.length+1/\A2 Z/\c<=1/\Z.drop i=X.drop i/\val (Z.take i)+4294967296^i*c=val (X.take i)+val (v.take i)) (λ i Z c=>[(139,.int .i64 i),(9,.int .u64 (c:Int))]) (λ i Z c=>[(71012,71012,.rw 1 ((A++Z++C).map AL))]) [] [] 0 X 0 (by (conv=>whnf);exact ⟨rfl,rfl,rfl⟩) ⟨by omega,pt,Fm,by omega,rfl,by simp [val]⟩ ?_;intro i Z c ⟨p1,p2,p3,p4,p6,p7⟩ ih;by_cases hi:i<v.length
   ·obtain ⟨d,hd⟩ : ∃ d,v[i]? = some d:=⟨_,zE hi⟩
    obtain ⟨u,hu⟩ : ∃ u,Z[i]? = some u:=⟨_,zE (by omega)⟩;have cj:=fo.at hd;have nr:=p3.at hu;have mv:X[i]? = some u:=by
     have e1:(Z.drop i)[0]? = (X.drop i)[0]? := by rw[p6]
     simpa [hu] using e1.symm
    have jk:=rM (d:=d) (w:=u) p7 rfl;(repeat' ((first|(apply AG<;>intro hc<;>try (exfalso;omega))|(apply AZ;omega)|(refine BA (by assumption) ?_ rfl ?_;omega)|apply AE)<;>conv=>whnf))
    refine U3 i hu (by omega) ?_;(conv=>whnf)
    (repeat' ((first|(apply AZ;omega)|(apply GC;omega)|(apply CR;omega)|apply FW)<;>conv=>whnf))
    generalize Od:u+d+c=t2 at *;refine SY i (by omega) (by omega) ?_;(conv=>whnf)
    (repeat' ((first|(apply AU;omega)|apply FL)<;>conv=>whnf))
    refine BW [] (by (conv=>whnf);exact ⟨rfl,rfl,rfl⟩) (ih (i+1) _ _ (by omega) ⟨by omega,by simpa using p2,p3.set _ (by omega),by omega,?_,?_⟩)
    ·rw[List.drop_set_of_lt (by omega)]
     have e1:(Z.drop i).drop 1=(X.drop i).drop 1:=by rw[p6]
     simpa using e1
    ·rw[F6 (by omega),EB hd,EB mv,Nat.pow_succ]
     exact jk
   ·obtain rfl:i=v.length:=by omega
    clear ih;obtain ⟨u,hu⟩ : ∃ u,Z[v.length]? = some u:=⟨_,zE (by omega)⟩;have nr:=p3.at hu;have mv:X[v.length]? = some u:=by
     have e1:(Z.drop v.length)[0]? = (X.drop v.length)[0]? := by rw[p6]
     simpa [hu] using e1.symm
    rw[mv]at Di;obtain rfl:u=xw:=by simpa using Di
    rw[DE (Nat.le_refl v.length)]at p7;have Fo:=E6 (p3.take v.length);rw[List.length_take,Nat.min_eq_left (by omega)]at Fo;rw[eX]at y3;have gi:=rL p7 y3 (by omega) Fo;rw[<-F6 (show v.length<Z.length by omega),DE (by simp;omega)]at gi;(repeat' ((first|(apply AG<;>intro hc<;>try (exfalso;omega))|(apply AZ;omega)|apply AE)<;>conv=>whnf))
    refine U3 v.length hu (by omega) ?_;(conv=>whnf)
    (repeat' ((first|(apply AZ;omega)|apply qY|(apply EI;omega))<;>conv=>whnf))
    refine SY v.length (by omega) (by omega) ?_;(conv=>whnf)
    (repeat' ((first|(apply JP;omega;omega)|(apply EI;omega))<;>conv=>whnf))
    exact ⟨rfl,_,rfl,ia _ _ _ (by simpa using p2) (p3.set _ (by omega)) gi y1⟩
theorem AeR (N:g6 L) (hA:A.length=j) (hW:W.length=v.length+1) (D2:A2 W) (fo:A2 v) (gm:2<=v.length) (wo:v.length<=549755813888) (au:0<val v)
  (n2:4294967296^(v.length-1)*2147483648<=val v) (g2:val W<4294967296*val v)
  (hk : ∀ (W':List Nat) (o':List (List AV)) (q':Nat),W'.length=v.length+1->A2 W'->val W'=val W%val v->q'=val W/val v->K (.int .u32 (q':Int)) [(71012,71012,.rw 1 ((A++W'++C).map AL)),(28,28,.rw 1 (w.map AL)),(71012,71012,.rw 1 o')])
  (ia : ∀ (W':List Nat) (o':List (List AV)) (q':Nat),W'.length=v.length+1->A2 W'->val W'=val W%val v->q'=val W/val v->K (.int .u32 (q':Int)) [(71012,71012,.rw 1 ((A++W'++C).map AL)),(71012,71012,.rw 1 o'),(28,28,.rw 1 (w.map AL))]) :
  A7 L 73 [AV.row 71012 0 1 j (v.length+1),AV.sl false (List.map AL v)] (kO v j m s xl) [(71012,71012,A8.rw 1 (List.map AL (A++W++C))),(28,28,A8.rw 1 (List.map AL w))] K:=by
 obtain ⟨UL,a1,a2⟩:=iH D2 (n:=v.length+1) (by omega) (by omega);obtain ⟨VL,b5,b6⟩:=Sc fo (n:=v.length) gm (by omega);obtain ⟨u0,w0⟩ : ∃ d,W[v.length]? = some d:=⟨_,zE (by omega)⟩;obtain ⟨u1,w1⟩ : ∃ d,W[v.length-1]? = some d:=⟨_,zE (by omega)⟩;obtain ⟨u2,w2⟩ : ∃ d,W[v.length-2]? = some d:=⟨_,zE (by omega)⟩;obtain ⟨f1,x1⟩ : ∃ d,v[v.length-1]? = some d:=⟨_,zE (by omega)⟩;obtain ⟨f2,x2⟩ : ∃ d,v[v.length-2]? = some d:=⟨_,zE (by omega)⟩;rw[show v.length+1-3=v.length-2 by omega,show v.length+1-2=v.length-1 by omega,show v.length+1-1=v.length by omega,GU w0,GU w1,GU w2]at a2;rw[show v.length+1-3=v.length-2 by omega]at a1;rw[GU x1,GU x2]at b6;have vg:=Rw fo (k:=v.length-1) (by omega) n2 x1;have k0:=D2.at w0;have k1:=D2.at w1;have k2:=D2.at w2;have k3:=fo.at x1;have k4:=fo.at x2;have z1:v[((v.length:Int)-1).toNat]? = some f1:=by rw[show ((v.length:Int)-1).toNat=v.length-1 by omega];exact x1
 have z2:v[((v.length:Int)-2).toNat]? = some f2:=by rw[show ((v.length:Int)-2).toNat=v.length-2 by omega];exact x2
 refine GI 1000 N.F3 rfl rfl ?_;(repeat' ((first|(apply AZ;omega)|apply AR|apply AE)<;>conv=>whnf))
 refine U3 v.length w0 (by omega) ?_;(conv=>whnf)
 (repeat' ((first|(apply AZ;omega)|(apply B7;omega)|(apply SX;omega)|(apply CR;omega))<;>conv=>whnf))
 refine U3 (v.length-1) w1 (by omega) ?_;(conv=>whnf)
 refine qR (by omega) ?_;(conv=>whnf)
 refine TV (by omega) ?_;(conv=>whnf)
 generalize Og:u0*4294967296+u1=top at *;have pc:top<=18446744073709551615:=by omega
 have hU:val W=UL+4294967296^(v.length-2)*(u2+4294967296*top):=by rw[a2,show u1+4294967296*u0=top by omega]
 (repeat' ((first|(apply B7;omega)|(apply ZI;omega)|(apply cJ;omega;omega)|(apply CR;omega)|(refine BA (by assumption) ?_ rfl ?_;omega))<;>conv=>whnf))
 refine FV (λ q _=>q) (λ(q r:Nat)=>Gs (val W) (val v) f1 f2 u2 top q r) (λ q r=>[(7,.int .u64 (q:Int)),(8,.int .u64 (r:Int))]) (λ_ _=>[]) [] [] (top/f1) (top%f1) (by (conv=>whnf);exact ⟨rfl,rfl,rfl⟩) (Gs.start hU b6 a1 k2 au (by omega) k3) ?_;intro q r g pf;have hqt:q<=top:=by
  have h3:=g.hq;have h4:q*1<=q*f1:=Nat.mul_le_mul_left q (by omega);omega
 have hr:=g.hr;have kg:=g.ge;by_cases hb:4294967296<=q
 ·obtain ⟨y1,y2,y3⟩:=g.next hU b6 a1 au g2 (Or.inl hb)
  (repeat' ((first|(apply AG<;>intro hc<;>try (exfalso;omega))|(apply B7;omega)|(apply GC;omega)|(apply JP;omega;omega)|(apply CR;omega)|apply AR|(refine BA (by assumption) ?_ rfl ?_;omega)|apply AE)<;>conv=>whnf))
  ·obtain ⟨t1,t2⟩:=YP hU b6 b5 vg k4 g2 y2 (Or.inr (by omega))
   exact BW [] (by (conv=>whnf);exact ⟨rfl,rfl,rfl⟩) (kE (w:=w) (C:=C) hA hW D2 fo gm wo au t1 y3 t2 hk ia)
  ·exact BW [] (by (conv=>whnf);exact ⟨rfl,rfl,rfl⟩) (pf (q-1) (r+f1) (by omega) ⟨y2,by omega,y3⟩)
 ·have hmq:=YV (show q<4294967296 by omega) k4
  by_cases u7:r*4294967296+u2<q*f2
  ·obtain ⟨y1,y2,y3⟩:=g.next hU b6 a1 au g2 (Or.inr u7)
   (repeat' ((first|(apply AG<;>intro hc<;>try (exfalso;omega))|(apply AZ;omega)|(apply B7;omega)|(apply TU;omega)|(apply SX;omega)|(apply CR;omega)|(refine BA (by assumption) ?_ rfl ?_;omega)|apply AE)<;>conv=>whnf))
   refine U3 (v.length-2) w2 (by omega) ?_;(conv=>whnf)
   (repeat' ((first|(apply AG<;>intro hc<;>try (exfalso;omega))|(apply B7;omega)|(apply GC;omega)|(apply TV;omega)|(apply JP;omega;omega)|(apply CR;omega)|apply AR|(refine BA (by assumption) ?_ rfl ?_;omega))<;>conv=>whnf))
   ·obtain ⟨t1,t2⟩:=YP hU b6 b5 vg k4 g2 y2 (Or.inr (by omega))
    exact BW [] (by (conv=>whnf);exact ⟨rfl,rfl,rfl⟩) (kE (w:=w) (C:=C) hA hW D2 fo gm wo au t1 y3 t2 hk ia)
   ·exact BW [] (by (conv=>whnf);exact ⟨rfl,rfl,rfl⟩) (pf (q-1) (r+f1) (by omega) ⟨y2,by omega,y3⟩)
  ·obtain ⟨t1,t2⟩:=YP hU b6 b5 vg k4 g2 g.hq (Or.inl ⟨by omega,by omega⟩)
   (repeat' ((first|(apply AG<;>intro hc<;>try (exfalso;omega))|(apply AZ;omega)|(apply B7;omega)|(apply TU;omega)|(apply SX;omega)|(apply CR;omega)|(refine BA (by assumption) ?_ rfl ?_;omega)|apply AE)<;>conv=>whnf))
   refine U3 (v.length-2) w2 (by omega) ?_;(conv=>whnf)
   (repeat' ((first|(apply AG<;>intro hc<;>try (exfalso;omega))|(apply TV;omega)|(apply CR;omega)|apply AR)<;>conv=>whnf))
   exact BW [] (by (conv=>whnf);exact ⟨rfl,rfl,rfl⟩) (kE (w:=w) (C:=C) hA hW D2 fo gm wo au t1 kg t2 hk ia)
end
end Go.c9

namespace Go.c9
open F
attribute [local irreducible] AA AF AP AD CI AY AW A6 A5 B2 AM BQ B8 C8 BM A1 BR B9 AB A7 AJ pw BO BH CH CK CS CP CD BT CJ
variable {L:Lib}
set_option maxHeartbeats 4000000
theorem AkG {V R y d t Q:Nat} (h:Q*y+R=V) (ht:t=R*4294967296+d):(t/y+4294967296*Q)*y+t%y=d+4294967296*V:=by
 have:=Nat.div_add_mod t y
 rw[<-h,Nat.add_mul];have e:t/y*y=y*(t/y):=Nat.mul_comm _ _;grind
theorem ZV (a b:List Nat):A3 (.j5 [.sl false (a.map AL),.sl false (b.map AL)]):=by
 simp only[A3,CG,and_true,true_and];exact ⟨CM a,CM b⟩
set_option maxHeartbeats 4000000 in
theorem lC (N:g6 L) (X Y:Nat) (q1 q2:Bool) (hY:Y≠0) (lx:(dg X).length<=549755813888) (ly:(dg Y).length<=549755813888):Ev L 74 [.sl q1 ((dg X).map AL),.sl q2 ((dg Y).map AL)] (.j5 [.sl false ((dg (X/Y)).map AL),.sl false ((dg (X%Y)).map AL)]):=by
 have m4:=λ q q'=>T9 N (dg X) (dg Y) q q' (DX X) (DX Y) (by omega) (by omega)
 rw[B3,B3]at m4;have d1:=DX X;have d2:=DX Y;have v1:=B3 X;have v2:=B3 Y;have hy1:=Z2 hY;refine Ev.x N.PZ rfl rfl ?_;by_cases l9:X<Y
 ·have hn:DC X Y = -1:=(IR (by omega)).symm
  rw[hn]at m4;(repeat' ((first|(apply AG<;>intro hc<;>try (exfalso;omega))|apply AE|refine AC (m4 _ _) ?_|refine AC (vE N (dg X) _ (by omega)) ?_)<;>conv=>whnf))
  refine AX ?_ (ZV _ _);rw[Nat.div_eq_of_lt l9,Nat.mod_eq_of_lt l9,E4];rfl
 have kg:0<=DC X Y:=by unfold DC;split<;>(try split)<;>omega
 have xq:=VB (show Y<=X by omega);generalize DC X Y=cm at *;by_cases h1:(dg Y).length=1
 ·-- one digit
  obtain ⟨y0,nv⟩ : ∃ y0,dg Y=[y0]:=List.length_eq_one_iff.1 h1;have xy:Y=y0:=by rw[<-v2,nv];simp [val]
  subst xy;have Bc:Y<4294967296:=d2 Y (by rw[nv];simp);have hyg:(dg Y)[0]? = some Y:=by rw[nv];rfl
  clear nv v2;generalize dg Y=y at *;generalize hx:dg X=x at *;(repeat' ((first|(apply AG<;>intro hc<;>try (exfalso;omega))|(apply AU;omega)|(apply B7;omega)|apply AR|apply AE|refine AC (m4 _ _) ?_)<;>conv=>whnf))
  refine EJ (enc:=AL) 0 x.length rfl (by omega) (by omega) ?_;(conv=>whnf)
  (repeat' ((first|(apply AG<;>intro hc<;>try (exfalso;omega))|(apply B7;omega)|apply AR)<;>conv=>whnf))
  refine GR (λ n _ _=>n) (λ(n:Nat) (o:List Nat) (r:Nat)=>n<=x.length/\o.length=x.length/\A2 o/\r<Y/\val (o.drop n)*Y+r=val (x.drop n)) (λ n o r=>[(8,.int .u64 (r:Int)),(9,.int .i64 ((n:Int)-1))]) (λ n o r=>[(28,28,.rw 1 (o.map AL))]) [] [] x.length (List.replicate x.length 0) 0 (by (conv=>whnf);exact ⟨rfl,rfl,rfl⟩) ⟨by omega,by simp,JS _,by omega,by rw[List.drop_of_length_le (Nat.le_refl _),List.drop_of_length_le (by simp)];simp [val]⟩ ?_;intro n o r ⟨p1,p2,p3,p4,p5⟩ ih;rcases n with _|n
  ·rw[List.drop_zero,List.drop_zero]at p5
   have hq:X/Y=val o/\X%Y=r:=by
    rw[<-v1,<-p5];have e1:(val o*Y+r)/Y=val o:=by
     rw[Nat.mul_comm,Nat.mul_add_div (by omega),Nat.div_eq_of_lt p4,Nat.add_zero]
    have e2:(val o*Y+r)%Y=r:=by
     rw[Nat.mul_comm,Nat.mul_add_mod,Nat.mod_eq_of_lt p4]
    exact ⟨e1,e2⟩
   rw[hq.1,hq.2,<-p2];clear ih hq p5;have kj:=EX p3;have ak:A2 [r]:=HR (by omega);have gk:=EX ak;have Jj:val [r]=r:=by simp [val]
   have Vz:[r].length=1:=rfl;(repeat' ((first|(apply AG<;>intro hc<;>try (exfalso;omega))|(apply EI;omega)|apply AE|refine cA N (by assumption) (by omega) rfl (by first|rfl|omega|assumption) ?_)<;>conv=>whnf))
   refine H5 (enc:=AL) (λ_=>rfl) (by omega) ?_;(conv=>whnf)
   refine H5 (enc:=AL) (l:=[r]) (λ_=>rfl) (by omega) ?_;(conv=>whnf)
   refine AX ?_ (ZV _ _);rw[List.drop_zero,List.drop_zero,bR p3,bR ak,Jj]
  ·have e1:((n+1:Nat):Int)-1=n:=by omega
   rw[e1];obtain ⟨d,hd⟩ : ∃ d,x[n]? = some d:=⟨_,zE (by omega)⟩;have cj:=d1.at hd;have hYb:Y<4294967296:=Bc;have hR:r*4294967296+d<Y*4294967296:=by omega
   have ft:(r*4294967296+d)/Y<4294967296:=(Nat.div_lt_iff_lt_mul (by omega)).2 (by omega);(repeat' ((first|(apply AG<;>intro hc<;>try (exfalso;omega))|(apply AZ;omega)|(apply SX;omega)|(apply TV;omega)|(apply cJ;omega;omega)|(apply CR;omega)|(apply EI;omega)|(refine BA (by assumption) ?_ rfl ?_;omega)|apply AE)<;>conv=>whnf))
   obtain ⟨t,ht⟩ : ∃ t,t=r*4294967296+d:=⟨_,rfl⟩;rw[<-ht]at hR ft ⊢;have hm:t%Y<Y:=Nat.mod_lt _ (by omega);have k6:=AkG p5 ht;rw[<-HB hd]at k6;clear ht;skip
   refine FE (by omega) ?_;(conv=>whnf)
   (repeat' ((first|(apply B7;omega)|(apply ZI;omega)|(apply CR;omega)|(refine BA (by assumption) ?_ rfl ?_;omega))<;>conv=>whnf))
   generalize t/Y=tq at *;generalize t%Y=tr at *;refine BW [] (by (conv=>whnf);exact ⟨rfl,rfl,rfl⟩) (ih n _ _ (by omega) ⟨by omega,by simpa using p2,p3.set _ (by omega),hm,?_⟩);rw[HB (l:=o.set n tq) (d:=tq) (by rw[List.getElem?_set_self (by omega)]),List.drop_set_of_lt (by omega)];exact k6
 ·-- two digits or more
  have Jc:2<=(dg Y).length:=by omega
  obtain ⟨yt,zk,zl⟩:=kD hY;have wu:=d2.at zk;obtain ⟨b1,b2,b3,b4⟩:=mP zl wu;have Gp:=vG N yt wu;generalize hs:32-o4 yt=s at *;have du:s<=31:=by omega
  generalize dg Y=y at *;generalize hx:dg X=x at *;have e1:((y.length:Int)-1).toNat=y.length-1:=by omega
  rw[<-e1]at zk;obtain ⟨rv,Wl,v,hV,iw,Np⟩:=AgH N y q2 s y.length d2 du (by omega) (by omega);subst Np;(repeat' ((first|(apply AG<;>intro hc<;>try (exfalso;omega))|(apply AU;omega)|(apply B7;omega)|apply AR|apply AE|refine AC (m4 _ _) ?_)<;>conv=>whnf))
  refine EJ (enc:=AL) 0 (x.length-y.length+1) rfl (by omega) (by omega) ?_;(conv=>whnf)
  (repeat' ((first|(apply AG<;>intro hc<;>try (exfalso;omega))|(apply AU;omega)|(apply B7;omega)|(apply CR;omega)|apply AR|(refine BA (by assumption) ?_ rfl ?_;omega)|refine AC (Gp) ?_)<;>conv=>whnf))
  refine GI 1000 N.KA rfl rfl ?_;(repeat' (apply AE<;>conv=>whnf))
  refine EJ (enc:=AL) 0 (x.length+1) rfl (by omega) (by omega) ?_;(conv=>whnf)
  (repeat' (apply AR<;>conv=>whnf))
  have ui:=aY (s:=s) (by omega);refine GR (λ i _ _=>x.length-i) (λ(i:Nat) (o:List Nat) (lo:Nat)=>i<=x.length/\o.length=x.length+1/\A2 o/\lo<2^s/\val (o.take i)+4294967296^i*lo=val (x.take i)*2^s) (λ i o lo=>[(8,.int .u32 (lo:Int)),(15,.int .i64 i)]) (λ i o lo=>[(71012,71012,.rw 1 (o.map AL))]) [] [] 0 (List.replicate (x.length+1) 0) 0 (by (conv=>whnf);exact ⟨rfl,rfl,rfl⟩) ⟨by omega,by simp,JS _,Nat.two_pow_pos s,by simp [val]⟩ ?_;intro i o lo ⟨p1,p2,p3,p4,p5⟩ ih;by_cases hi:i<x.length
  ·obtain ⟨d,hd⟩ : ∃ d,x[i]? = some d:=⟨_,zE hi⟩
   have cj:=d1.at hd;obtain ⟨f1,f2,f3,f4⟩:=W9 (s:=s) cj (by omega);(repeat' ((first|(apply AG<;>intro hc<;>try (exfalso;omega))|(refine BA (by assumption) ?_ rfl ?_;omega)|apply AE)<;>conv=>whnf))
   refine rC (by omega) ?_;(conv=>whnf)
   skip
   refine iQ s f1 p4 (by omega) ?_;(conv=>whnf)
   (repeat' ((first|(apply AZ;omega)|fail)<;>conv=>whnf))
   refine FE (by omega) ?_;(conv=>whnf)
   (repeat' ((first|(apply CR;omega)|fail)<;>conv=>whnf))
   refine TY (by omega) f4 ?_;(conv=>whnf)
   (repeat' ((first|(apply AU;omega)|apply FL|(apply EI;omega))<;>conv=>whnf))
   rw[<-W8];refine BW [] (by (conv=>whnf);exact ⟨rfl,rfl,rfl⟩) (ih (i+1) _ _ (by omega) ⟨by omega,by simpa using p2,p3.set _ (by omega),f2,?_⟩);rw[F6 (by omega),EB hd,Nat.pow_succ];exact yM p5
  obtain rfl:i=x.length:=by omega
  clear ih;(repeat' ((first|(apply AG<;>intro hc<;>try (exfalso;omega))|(apply AZ;omega)|apply AR|apply AE)<;>conv=>whnf))
  refine FE (by omega) ?_;(conv=>whnf)
  skip
  have hU:=yL p3 (by omega) p2 p5;have Ah:(o.set x.length lo).length=x.length+1:=by simpa using p2
  clear p3 p4 p5 p2;generalize o.set x.length lo=u at *;refine ⟨rfl,_,rfl,?_⟩;(conv=>whnf)
  (repeat' ((first|(apply B7;omega)|apply AR|refine AC (Wl) ?_)<;>conv=>whnf))
  have Ou:y[y.length-1]? = some yt:=by rw[<-e1];exact zk
  obtain ⟨n1,n2⟩:=mK d2 Ou (by omega) du b3 b4;have Ip:val v=Y*2^s:=by rw[<-v2];exact hV.2.2 (by rw[iw];exact n1)
  have Io:val u=X*2^s:=by
   rw[<-v1];refine hU.2.2 ?_;have h3:=E6 d1;rw[Ah,Nat.pow_succ];exact Nat.lt_of_lt_of_le (Nat.mul_lt_mul_of_pos_right h3 (Nat.two_pow_pos s)) (Nat.mul_le_mul_left _ ui)
  have fo:=hV.1;have Ij:=hU.1;have Bx:=E6 fo;rw[v2,<-Ip]at n2;rw[<-iw]at n2;clear hV hU m4 Wl Gp;have gm:2<=v.length:=by omega
  have hvx:v.length<=x.length:=by omega
  have wo:v.length<=549755813888:=by omega
  have hxL:x.length<=549755813888:=by omega
  have hX:X<4294967296^x.length:=by rw[<-v1];exact E6 d1
  rw[<-iw];generalize hm:x.length-v.length+1=m at *;have au:0<val v:=by
   have:=Ro (v.length-1)
   omega
  have rn:val (u.drop m)<val v:=by
   have h1:=LZ u m (by omega);rw[Io]at h1;have h2:X*2^s<4294967296^x.length*2147483648:=Nat.lt_of_lt_of_le (Nat.mul_lt_mul_of_pos_right hX (Nat.two_pow_pos s)) (Nat.mul_le_mul_left _ (Nat.pow_le_pow_right (by omega) du));have h3:4294967296^x.length=4294967296^m*4294967296^(v.length-1):=by rw[<-Nat.pow_add];congr 1;omega
   rw[h3,Nat.mul_assoc]at h2;refine Nat.lt_of_lt_of_le ?_ n2;refine Nat.lt_of_mul_lt_mul_left (a:=4294967296^m) ?_;omega
  have e2:(x.length:Int)-v.length=((m:Nat):Int)-1:=by omega
  rw[e2];refine GR (λ n _ _=>n) (λ(n:Nat) (o w:List Nat)=>n<=m/\o.length=x.length+1/\A2 o/\w.length=m/\A2 w/\val (o.drop n)<val v/\X*2^s=val (o.take n)+4294967296^n*(val (w.drop n)*val v+val (o.drop n))) (λ n o w=>[(14,.int .i64 ((n:Int)-1))]) (λ n o w=>[(71012,71012,.rw 1 (o.map AL)),(28,28,.rw 1 (w.map AL))]) [] [] m u (List.replicate m 0) (by (conv=>whnf);exact ⟨rfl,rfl,rfl⟩) ⟨by omega,Ah,Ij,by simp,JS _,rn,by rw[<-Io,List.drop_of_length_le (show (List.replicate m 0).length<=m by simp),JN,Nat.zero_mul,Nat.zero_add];exact LZ u m (by omega)⟩ ?_;intro n o w ⟨p1,p2,p3,p4,p5,p6,p7⟩ ih;rcases n with _|j
  ·clear ih
   rw[List.drop_zero]at p6;rw[List.take_zero,List.drop_zero,List.drop_zero,JN,Nat.zero_add,Nat.pow_zero,Nat.one_mul]at p7;have qf:val o=val (o.take v.length):=by
    have h1:=XG o v.length;rcases Nat.eq_zero_or_pos (val (o.drop v.length)) with h2|h2
    ·rw[h2,Nat.mul_zero,Nat.add_zero]at h1;exact h1
    ·have h3:4294967296^v.length*1<=4294967296^v.length*val (o.drop v.length):=Nat.mul_le_mul_left _ h2
     omega
   have xm:X/Y=val w/\X%Y=val o/2^s:=by
    obtain ⟨z1,z2⟩:=uA (X:=X) (Y:=Y) (Nat.two_pow_pos s);rw[<-z1,<-z2,<-Ip,p7];have e1:(val w*val v+val o)/val v=val w:=by
     rw[Nat.mul_comm,Nat.mul_add_div au,Nat.div_eq_of_lt p6,Nat.add_zero]
    have e2:(val w*val v+val o)%val v=val o:=by
     rw[Nat.mul_comm,Nat.mul_add_mod,Nat.mod_eq_of_lt p6]
    rw[e1,e2];exact ⟨rfl,rfl⟩
   rw[xm.1,xm.2];have kj:=EX p5;obtain ⟨ro,Hi,o2,k1,k2,k3,k4⟩:=AgI N (o.take v.length) true s (p3.take _) du (by rw[List.length_take];omega);subst k4;rw[qf,<-k3];have gk:=EX k1;rw[List.length_take]at k2;clear p7 xm rn;(repeat' ((first|(apply AG<;>intro hc<;>try (exfalso;omega))|apply AE|refine cA N (by assumption) (by omega) rfl (by first|rfl|omega|assumption) ?_)<;>conv=>whnf))
   refine HD v.length rfl (by omega) ?_;(conv=>whnf)
   refine H5 (enc:=AL) (λ_=>rfl) (by omega) ?_;(conv=>whnf)
   rw[List.drop_zero,Nat.sub_zero];(repeat' ((first|refine AC (Hi) ?_|refine L1 (OQ N o2 _ k1 (by omega)) ?_)<;>conv=>whnf))
   refine H5 (enc:=AL) (λ_=>rfl) (by omega) ?_;(conv=>whnf)
   refine AX ?_ (ZV _ _);rw[List.drop_zero,bR p5]
  ·have e3:((j+1:Nat):Int)-1=j:=by omega
   rw[e3];have e4:(v.length:Int).toNat=v.length:=by omega
   obtain ⟨A,W,C,hA,hW,rfl⟩:=uU o j (v.length+1) (by omega);obtain ⟨g1,g2,g3⟩:=uW hA hW p3 p6 Bx;obtain ⟨D1,D2,D3⟩:=tW p3;have tj:val W/val v<4294967296:=(Nat.div_lt_iff_lt_mul au).2 g2;have Ky:val W=val W/val v*val v+val W%val v:=by rw[Nat.mul_comm];exact (Nat.div_add_mod _ _).symm
   have Bz:val W%val v<val v:=Nat.mod_lt _ au;have Bv:X*2^s=val A+4294967296^j*val W+4294967296^j*4294967296*(val (w.drop (j+1))*val v):=by
    rw[p7,Nat.mul_add,<-g3,Nat.pow_succ];omega
   have ri:=uV Bv Ky;have qi : ∀ q',q'=val W/val v->val ((w.set j q').drop j)=val W/val v+4294967296*val (w.drop (j+1)):=λ q' h=>by
    rw[HB (l:=w.set j q') (d:=q') (by rw[List.getElem?_set_self (by omega)]),List.drop_set_of_lt (by omega),h]
   have hlen : ∀ W':List Nat,W'.length=v.length+1->(A++W'++C).length=x.length+1:=λ W' h=>by
    rw[<-p2];simp [h,hW]
   (repeat' ((first|(apply AG<;>intro hc<;>try (exfalso;omega))|(apply AU;omega)|(apply U1;omega)|apply AE)<;>conv=>whnf))
   rw[show ((j:Int)+v.length+1).toNat-(j:Int).toNat=v.length+1 by omega,show 0+(j:Int).toNat=j by omega];refine AeR N hA hW D2 fo gm wo au n2 g2 (λ W' o' q' z1 z2 z3 z4 => ?_) (λ W' o' q' z1 z2 z3 z4 => ?_)
   ·(conv=>whnf)
    (repeat' ((first|(apply AZ;omega)|fail)<;>conv=>whnf))
    refine FE (by omega) ?_;(conv=>whnf)
    (repeat' ((first|(apply B7;omega)|fail)<;>conv=>whnf))
    obtain ⟨t1,t2⟩:=kP (A:=A) (W:=W') (C:=C) (j:=j) hA g1;refine BW [] (by (conv=>whnf);exact ⟨rfl,rfl,rfl⟩) (ih j (A++W'++C) (w.set j q') (by omega) ⟨by omega,hlen W' z1,(D1.append z2).append D3,by simpa using p4,p5.set _ (by omega),by omega,?_⟩);rw[t1,t2,qi q' z4,z3];exact ri
   ·(conv=>whnf)
    (repeat' ((first|(apply AZ;omega)|fail)<;>conv=>whnf))
    refine FE (by omega) ?_;(conv=>whnf)
    (repeat' ((first|(apply B7;omega)|fail)<;>conv=>whnf))
    obtain ⟨t1,t2⟩:=kP (A:=A) (W:=W') (C:=C) (j:=j) hA g1;refine BW [] (by (conv=>whnf);exact ⟨rfl,rfl,rfl⟩) (ih j (A++W'++C) (w.set j q') (by omega) ⟨by omega,hlen W' z1,(D1.append z2).append D3,by simpa using p4,p5.set _ (by omega),by omega,?_⟩);rw[t1,t2,qi q' z4,z3];exact ri
end Go.c9
