/-
  The references of natural numbers (ref01): division.
-/
import Derived.Test.YtplhdlbnneoobaaGreatB8
import Derived.Test.YtplhdlbnneoobaaGreatB7
import Derived.Test.YtplhdlbnneoobaaGreatB4
set_option linter.unusedSimpArgs false
set_option linter.unusedVariables false
set_option linter.unnecessarySimpa false
namespace Go.c4
open F
attribute [local irreducible] AA AF AR AB B7 AQ AY A7 A6 BS AP BO BW C0 BL A0 BH BZ AC A4 AL pw CD B2 CH CX CS CK CI BI B8
set_option maxHeartbeats 4000000
variable {L:Lib}
theorem La {V R y d t Q:Nat} (h:Q*y+R=V) (ht:t=R*4294967296+d):(t/y+4294967296*Q)*y+t%y=d+4294967296*V:=by
 have:=Nat.div_add_mod t y
 rw[<-h,Nat.add_mul];have e:t/y*y=y*(t/y):=Nat.mul_comm _ _;grind
theorem xM (N:a9 L) (x:List Nat) (Y:Nat) (q:Bool) (d1:AX x) (hx:x.length<=549755813888) (h0:Y≠0) (hY:Y<4294967296):Ev L 108 [.sl q (x.map AJ),.int .u32 (Y:Int)] (.j4 [.sl false ((dg (val x/Y)).map AJ),.int .u32 ((val x%Y:Nat):Int)]):=by
 refine Ev.x N.K6 rfl rfl ?_;(repeat' ((first|apply AW|apply AE)<;>conv=>whnf))
 refine FF (enc:=AJ) 0 x.length rfl (by omega) (by omega) ?_;(conv=>whnf)
 (repeat' ((first|(apply BX;omega)|apply AW)<;>conv=>whnf))
 refine FN (λ n _ _=>n) (λ(n:Nat) (o:List Nat) (r:Nat)=>n<=x.length/\o.length=x.length/\AX o/\r<Y/\val (o.drop n)*Y+r=val (x.drop n)) (λ n o r=>[(7,.int .u64 (r:Int)),(8,.int .i64 ((n:Int)-1))]) (λ n o r=>[(11,11,.rw 1 (o.map AJ))]) [] [] x.length (List.replicate x.length 0) 0 (by (conv=>whnf);exact ⟨rfl,rfl,rfl⟩) ⟨by omega,by simp,HU _,by omega,by rw[List.drop_of_length_le (Nat.le_refl _),List.drop_of_length_le (by simp)];simp [val]⟩ ?_;intro n o r ⟨p1,p2,p3,p4,p5⟩ ih;rcases n with _|n
 ·rw[List.drop_zero,List.drop_zero]at p5
  have hq:val x/Y=val o/\val x%Y=r:=by
   rw[<-p5];have e1:(val o*Y+r)/Y=val o:=by
    rw[Nat.mul_comm,Nat.mul_add_div (by omega),Nat.div_eq_of_lt p4,Nat.add_zero]
   have e2:(val o*Y+r)%Y=r:=by
    rw[Nat.mul_comm,Nat.mul_add_mod,Nat.mod_eq_of_lt p4]
   exact ⟨e1,e2⟩
  have hT:=λ q=>FD N o q p3 (by omega)
  rw[hq.1,hq.2,<-p2];clear ih hq p5;(repeat' ((first|(apply AH<;>intro hc<;>try (exfalso;omega))|(apply DU;omega)|(refine DX (λ_=>rfl) rfl ?_ ?_;(first|rfl|simp))|apply AE|refine AD (hT _) ?_)<;>conv=>whnf))
  refine AU rfl ?_;simp only[A1,CM,and_true,true_and];exact CO _
 ·have e1:((n+1:Nat):Int)-1=n:=by omega
  rw[e1];obtain ⟨d,hd⟩ : ∃ d,x[n]? = some d:=⟨_,zE (by omega)⟩;have w3:=d1.at hd;have hR:r*4294967296+d<Y*4294967296:=by omega
  have ql:(r*4294967296+d)/Y<4294967296:=(Nat.div_lt_iff_lt_mul (by omega)).2 (by omega);(repeat' ((first|(apply AH<;>intro hc<;>try (exfalso;omega))|(apply A9;omega)|(apply L7;omega)|(apply MT;omega)|(apply TB;omega;omega)|(apply B5;omega)|(apply DU;omega)|(refine BJ (by assumption) ?_ rfl ?_;omega)|apply AE)<;>conv=>whnf))
  obtain ⟨t,ht⟩ : ∃ t,t=r*4294967296+d:=⟨_,rfl⟩;rw[<-ht]at hR ql ⊢;have hm:t%Y<Y:=Nat.mod_lt _ (by omega);have k6:=La p5 ht;rw[<-GE hd]at k6;clear ht;skip
  refine EQ (by omega) ?_;(conv=>whnf)
  (repeat' ((first|(apply BX;omega)|(apply Q7;omega)|(apply B5;omega))<;>conv=>whnf))
  generalize t/Y=tq at *;generalize t%Y=tr at *;refine B0 [] (by (conv=>whnf);exact ⟨rfl,rfl,rfl⟩) (ih n _ _ (by omega) ⟨by omega,by simpa using p2,p3.set _ (by omega),hm,?_⟩);rw[GE (l:=o.set n tq) (d:=tq) (by rw[List.getElem?_set_self (by omega)]),List.drop_set_of_lt (by omega)];exact k6
theorem TW (a b:List Nat) (e:Int):A1 (.j4 [.sl false (a.map AJ),.sl false (b.map AJ),.int .i64 e]):=by
 simp only[A1,CM,and_true,true_and];exact ⟨CO a,CO b⟩
abbrev tO:List It:=[It.lp DD.l1,It.c9 0,
   It.code
    (((BA.ops DD.cw false).dr [0,75,79,80] []).seq
     (((BA.ops DD.ew false).dr [81,82,83,84,85] []).seq
      ((((BA.ops DD.fo false).dr [86,87,88,89,90] []).seq
         (BA.block 2 DD.l2.loop)).seq
       (((BA.ops DD.Fi true).dr [9,10,11,12,13,14,92,277,278,279,280,281,282,283,284]
          []).seq
        BA.ret))))]
abbrev UA:List It:=[It.lp DD.l2,It.c9 2,It.code
       (((BA.ops DD.Fi true).dr [9,10,11,12,13,14,92,277,278,279,280,281,282,283,284]
          []).seq
        BA.ret)]
abbrev UB (v:List Nat) (s ul m:Nat) (j:Int):Tm:=[(14,.int .i64 j),(13,.row 85 0 1 0 m),(12,.int .i64 v.length),(11,.sl false (v.map AJ)),(10,.row 69 0 1 0 ul),(9,.int .i64 (s:Int))]
abbrev tN:BA:=(((BA.ops DD.Hs false).dr [18,19,20,166,205,206,207] []).seq
                (((BA.ops DD.Ht false).dr [208,209,210,211,212,213,214] []).seq
                 ((BA.ops DD.Hu false).seq
                  ((((BA.ops DD.Hv false).dr [215,216] []).seq
                     (BA.cond 217
                      (((BA.ops DD.Hw false).dr [18,217,218,219] []).seq
                       (BA.ops DD.Hx false))
                      BA.skip)).seq
                   (((BA.ops DD.Hy false).dr
                      [23,24,217,220,221,222,223,224,225,226,227,228] []).seq
                    ((((BA.ops DD.Hz false).dr [18,229] []).seq
                       (BA.cond 230
                        (((BA.ops DD.Ia false).dr [230,231,232] []).seq
                         ((BA.ops DD.Ib false).seq
                          (((BA.ops DD.Ic false).seq
                             (BA.block 8 DD.l5.loop)).seq
                           ((BA.ops DD.Ie false).dr
                            [25,26,235,262,263,264,265,266,267,268,269,270,271]
                            []))))
                        BA.skip)).seq
                     ((BA.ops DD.Ig false).dr [16,230,272,273,274,275,276]
                      [])))))))
abbrev tP:List It:=It.lp DD.l4::It.c9 6::It.code tN::It.c9 3::It.code ((BA.ops DD.gk false).dr [93,94] [])::UA
section
variable {A W C w y:List Nat} {j m s ul q:Nat} {Q:Tm->Mem->Prop}
theorem PY {e i n:Nat} (hi:i=A.length+n) (he:W[n]? = some e):(A++W++C)[i]? = some e:=by
 rw[nB hi (zS he).1];exact he
theorem W5 (hA:A.length=j) (hW:W.length=y.length+1) (D2:AX W) (bp:AX y) (ck:2<=y.length) (om:y.length<=549755813888) (v3:0<val y) (bm:j<=1099511627776)
  (ef:ul=j+(y.length+1)+C.length) (Bm:w.length=m) (Bd:j<m)
  (r1:q<4294967296) (r2:val W/val y<=q) (r3:q<=val W/val y+1)
  (hk : ∀ (W':List Nat) (q':Nat),W'.length=y.length+1->AX W'->val W'=val W%val y->q'=val W/val y->AA L UA (UB y s ul m ((j:Int)-1)) [(69,101021,.rw 1 ((A++W'++C).map AJ)),(85,85,.rw 1 ((w.set j q').map AJ))] Q) :
  AA L tP ([(20,.int .i64 0),(19,.int .u64 0),(18,.int .u64 0),(16,.int .u64 (q:Int))]++UB y s ul m (j:Int)) [(69,101021,.rw 1 ((A++W++C).map AJ)),(85,85,.rw 1 (w.map AJ))] Q:=by
 refine aO (λ i _ _ _=>y.length-i) (λ(i:Nat) (Z:List Nat) (c b:Nat)=>i<=y.length/\Z.length=y.length+1/\AX Z/\c<4294967296/\b<=1/\Z.drop i=W.drop i/\val (Z.take i)+q*val (y.take i)=val (W.take i)+4294967296^i*(c+b)) (λ i Z c b=>[(20,.int .i64 i),(18,.int .u64 (b:Int)),(19,.int .u64 (c:Int))]) (λ i Z c b=>[(69,101021,.rw 1 ((A++Z++C).map AJ))]) [] [] 0 W 0 0 (by (conv=>whnf);exact ⟨rfl,rfl,rfl⟩) ⟨by omega,hW,D2,by omega,by omega,rfl,by simp [val]⟩ ?_;intro i Z c b ⟨p1,p2,p3,p4,p5,p6,p7⟩ ih;by_cases hi:i<y.length
 ·obtain ⟨d,hd⟩ : ∃ d,y[i]? = some d:=⟨_,zE hi⟩
  obtain ⟨u,hu⟩ : ∃ u,Z[i]? = some u:=⟨_,zE (by omega)⟩;have w3:=bp.at hd;have lz:=p3.at hu;have Bh:(A++Z++C)[((i:Int)+(j:Int)).toNat]? = some u:=PY (by omega) hu;obtain ⟨pr,mo⟩ : ∃ pr,pr=c+q*d:=⟨_,rfl⟩;obtain ⟨m1,m2,m3⟩:=jR r1 w3 p4 (show pr=q*d+c by omega);have qg:W[i]? = some u:=by
   have e1:(Z.drop i)[0]? = (W.drop i)[0]? := by rw[p6]
   simpa [hu] using e1.symm
  have jm : ∀ w,(Z.set i w).drop (i+1)=W.drop (i+1):=λ w=>by
   rw[List.drop_set_of_lt (by omega)];have e1:(Z.drop i).drop 1=(W.drop i).drop 1:=by rw[p6]
   simpa using e1
  have k6 : ∀ have' take w y7,take=pr%4294967296+b->((have'=u/\y7=0/\take<=u)\/(have'=u+4294967296/\y7=1/\u<take))->w+take=have'->val ((Z.set i w).take (i+1))+q*val (y.take (i+1))=val (W.take (i+1))+4294967296^(i+1)*(pr/4294967296+y7):=λ have' take w y7 a1 a2 a3=>by
   rw[E9 (by omega),DJ hd,DJ qg,Nat.pow_succ];exact Im p7 mo a1 a2 a3
  by_cases l6:u<pr%4294967296+b
  ·have h3:=k6 (u+4294967296) (pr%4294967296+b) (u+4294967296-(pr%4294967296+b)) 1 rfl (Or.inr ⟨rfl,rfl,l6⟩) (by omega)
   (repeat' ((first|(apply AH<;>intro hc<;>try (exfalso;omega))|(apply A9;omega)|(apply AZ;omega)|(apply FB;omega)|(apply MS;omega)|(apply bJ;omega)|(apply HQ;omega;omega)|apply ET|(apply S9;omega)|(apply B5;omega)|(apply DU;omega)|(refine BJ (by assumption) ?_ rfl ?_;omega)|refine H3 (by assumption) ?_|apply AE)<;>conv=>whnf))
   rw[<-mo];skip
   refine L8 i (by omega) (by omega) ?_;(conv=>whnf)
   (repeat' ((first|(apply AZ;omega)|fail)<;>conv=>whnf))
   exact B0 [] (by (conv=>whnf);exact ⟨rfl,rfl,rfl⟩) (ih (i+1) (Z.set i (u+4294967296-(pr%4294967296+b))) (pr/4294967296) 1 (by omega) ⟨by omega,by simpa using p2,p3.set _ (by omega),m1,by omega,jm _,h3⟩)
  ·have h3:=k6 u (pr%4294967296+b) (u-(pr%4294967296+b)) 0 rfl (Or.inl ⟨rfl,rfl,by omega⟩) (by omega)
   (repeat' ((first|(apply AH<;>intro hc<;>try (exfalso;omega))|(apply A9;omega)|(apply AZ;omega)|(apply FB;omega)|(apply MS;omega)|(apply bJ;omega)|(apply HQ;omega;omega)|apply ET|(apply B5;omega)|(apply DU;omega)|(refine BJ (by assumption) ?_ rfl ?_;omega)|refine H3 (by assumption) ?_|apply AE)<;>conv=>whnf))
   rw[<-mo];skip
   refine L8 i (by omega) (by omega) ?_;(conv=>whnf)
   (repeat' ((first|(apply AZ;omega)|fail)<;>conv=>whnf))
   exact B0 [] (by (conv=>whnf);exact ⟨rfl,rfl,rfl⟩) (ih (i+1) (Z.set i (u-(pr%4294967296+b))) (pr/4294967296) 0 (by omega) ⟨by omega,by simpa using p2,p3.set _ (by omega),m1,by omega,jm _,h3⟩)
 ·obtain rfl:i=y.length:=by omega
  clear ih;obtain ⟨u,hu⟩ : ∃ u,Z[y.length]? = some u:=⟨_,zE (by omega)⟩;have lz:=p3.at hu;have Bh:(A++Z++C)[((j:Int)+(y.length:Int)).toNat]? = some u:=PY (by omega) hu;have qg:W[y.length]? = some u:=by
   have e1:(Z.drop y.length)[0]? = (W.drop y.length)[0]? := by rw[p6]
   simpa [hu] using e1.symm
  rw[CU (Nat.le_refl y.length)]at p7;have eW:val W=val (W.take y.length)+4294967296^y.length*u:=by
   rw[<-DJ qg,CU (by omega)]
  have k6 : ∀ have' take w y7,take=c+b->((have'=u/\y7=0/\take<=u)\/(have'=u+4294967296/\y7=1/\u<take))->w+take=have'->val (Z.set y.length w)+q*val y=val W+4294967296^y.length*4294967296*y7:=λ have' take w y7 a1 a2 a3=>by
   have h1:=Jw p7 a1 a2 a3;rw[<-eW,<-E9 (show y.length<Z.length by omega),CU (by simp;omega)]at h1;exact h1
  by_cases l6:u<c+b
  ·have h3:=k6 (u+4294967296) (c+b) (u+4294967296-(c+b)) 1 rfl (Or.inr ⟨rfl,rfl,l6⟩) (by omega)
   have ya:AX (Z.set y.length (u+4294967296-(c+b))):=p3.set _ (by omega);have mg:(Z.set y.length (u+4294967296-(c+b))).length=y.length+1:=by simpa using p2
   rw[Nat.mul_one]at h3;have vm:=EJ ya;rw[mg,Nat.pow_succ]at vm;obtain ⟨y1,y2,y3⟩:=dQ v3 r3 vm h3;(repeat' ((first|(apply AH<;>intro hc<;>try (exfalso;omega))|(apply A9;omega)|(apply AZ;omega)|(apply FB;omega)|(apply HQ;omega;omega)|(apply S9;omega)|(apply B5;omega)|(apply DU;omega)|refine H3 (by assumption) ?_|apply AE)<;>conv=>whnf))
   refine L8 y.length (by omega) (by omega) ?_;(conv=>whnf)
   (repeat' ((first|(apply AH<;>intro hc<;>try (exfalso;omega))|(apply HQ;omega;omega))<;>conv=>whnf))
   clear p7 p6 eW hu qg lz Bh p2 p3 k6;generalize Z.set y.length (u+4294967296-(c+b))=X at *;have Ph:val W%val y<val y:=Nat.mod_lt _ v3;have tt:=EJ bp;obtain ⟨xw,vb⟩ : ∃ xw,X[y.length]? = some xw:=⟨_,zE (by omega)⟩;have eX:val X=val (X.take y.length)+4294967296^y.length*xw:=by
    rw[<-DJ vb,CU (by omega)]
   have pg:q-1<4294967296:=by omega
   refine FN (λ i _ _=>y.length-i) (λ(i:Nat) (Z:List Nat) (c:Nat)=>i<=y.length/\Z.length=y.length+1/\AX Z/\c<=1/\Z.drop i=X.drop i/\val (Z.take i)+4294967296^i*c=val (X.take i)+val (y.take i)) (λ i Z c=>[(26,.int .i64 i),(25,.int .u64 (c:Int))]) (λ i Z c=>[(69,101021,.rw 1 ((A++Z++C).map AJ))]) [] [] 0 X 0 (by (conv=>whnf);exact ⟨rfl,rfl,rfl⟩) ⟨by omega,mg,ya,by omega,rfl,by simp [val]⟩ ?_;intro i Z c ⟨p1,p2,p3,p4,p6,p7⟩ ih;by_cases hi:i<y.length
   ·obtain ⟨d,hd⟩ : ∃ d,y[i]? = some d:=⟨_,zE hi⟩
    obtain ⟨u,hu⟩ : ∃ u,Z[i]? = some u:=⟨_,zE (by omega)⟩;have w3:=bp.at hd;have lz:=p3.at hu;have Bh:(A++Z++C)[((i:Int)+(j:Int)).toNat]? = some u:=PY (by omega) hu;have gb:X[i]? = some u:=by
     have e1:(Z.drop i)[0]? = (X.drop i)[0]? := by rw[p6]
     simpa [hu] using e1.symm
    have vo:=bW (d:=d) (w:=u) (t:=c+(u+d)) p7 (by omega);(repeat' ((first|(apply AH<;>intro hc<;>try (exfalso;omega))|(apply A9;omega)|(apply AZ;omega)|(apply FB;omega)|(apply B5;omega)|apply E2|(refine BJ (by assumption) ?_ rfl ?_;omega)|refine H3 (by assumption) ?_|apply AE)<;>conv=>whnf))
    generalize Rv:c+(u+d)=t2 at *;refine L8 i (by omega) (by omega) ?_;(conv=>whnf)
    (repeat' ((first|(apply AZ;omega)|apply ET)<;>conv=>whnf))
    refine B0 [] (by (conv=>whnf);exact ⟨rfl,rfl,rfl⟩) (ih (i+1) (Z.set i (t2%4294967296)) (t2/4294967296) (by omega) ⟨by omega,by simpa using p2,p3.set _ (by omega),by omega,?_,?_⟩)
    ·rw[List.drop_set_of_lt (by omega)]
     have e1:(Z.drop i).drop 1=(X.drop i).drop 1:=by rw[p6]
     simpa using e1
    ·rw[E9 (by omega),DJ hd,DJ gb,Nat.pow_succ]
     exact vo
   ·obtain rfl:i=y.length:=by omega
    clear ih;obtain ⟨u,hu⟩ : ∃ u,Z[y.length]? = some u:=⟨_,zE (by omega)⟩;have lz:=p3.at hu;have Bh:(A++Z++C)[((j:Int)+(y.length:Int)).toNat]? = some u:=PY (by omega) hu;have gb:X[y.length]? = some u:=by
     have e1:(Z.drop y.length)[0]? = (X.drop y.length)[0]? := by rw[p6]
     simpa [hu] using e1.symm
    rw[gb]at vb;obtain rfl:u=xw:=by simpa using vb
    rw[CU (Nat.le_refl y.length)]at p7;have yd:=EJ (p3.take y.length);rw[List.length_take,Nat.min_eq_left (by omega)]at yd;rw[eX]at y3;have nq:=bV p7 y3 (by omega) yd;rw[<-E9 (show y.length<Z.length by omega),CU (by simp;omega)]at nq;(repeat' ((first|(apply AH<;>intro hc<;>try (exfalso;omega))|(apply A9;omega)|(apply AZ;omega)|apply bI|(apply DU;omega)|refine H3 (by assumption) ?_|apply AE)<;>conv=>whnf))
    refine L8 y.length (by omega) (by omega) ?_;(conv=>whnf)
    (repeat' ((first|(apply A9;omega)|(apply DU;omega))<;>conv=>whnf))
    refine EQ (by omega) ?_;(conv=>whnf)
    (repeat' ((first|(apply BX;omega)|fail)<;>conv=>whnf))
    exact B0 [] (by (conv=>whnf);exact ⟨rfl,rfl,rfl⟩) (hk _ _ (by simpa using p2) (p3.set _ (by omega)) nq y1)
  ·have h3:=k6 u (c+b) (u-(c+b)) 0 rfl (Or.inl ⟨rfl,rfl,by omega⟩) (by omega)
   rw[Nat.mul_zero,Nat.add_zero]at h3;obtain ⟨y1,y2⟩:=dR v3 r2 h3;(repeat' ((first|(apply AH<;>intro hc<;>try (exfalso;omega))|(apply A9;omega)|(apply AZ;omega)|(apply FB;omega)|(apply HQ;omega;omega)|(apply B5;omega)|(apply DU;omega)|refine H3 (by assumption) ?_|apply AE)<;>conv=>whnf))
   refine L8 y.length (by omega) (by omega) ?_;(conv=>whnf)
   (repeat' ((first|(apply AH<;>intro hc<;>try (exfalso;omega))|(apply A9;omega)|(apply DU;omega))<;>conv=>whnf))
   refine EQ (by omega) ?_;(conv=>whnf)
   (repeat' ((first|(apply BX;omega)|fail)<;>conv=>whnf))
   exact B0 [] (by (conv=>whnf);exact ⟨rfl,rfl,rfl⟩) (hk _ _ (by simpa using p2) (p3.set _ (by omega)) y2 y1)
theorem tQ (hA:A.length=j) (hW:W.length=y.length+1) (D2:AX W) (bp:AX y) (ck:2<=y.length) (om:y.length<=549755813888) (v3:0<val y) (bm:j<=1099511627776)
  (n2:4294967296^(y.length-1)*2147483648<=val y) (g2:val W<4294967296*val y) (ef:ul=j+(y.length+1)+C.length) (Bm:w.length=m) (Bd:j<m)
  (hk : ∀ (W':List Nat) (q':Nat),W'.length=y.length+1->AX W'->val W'=val W%val y->q'=val W/val y->AA L UA (UB y s ul m ((j:Int)-1)) [(69,101021,.rw 1 ((A++W'++C).map AJ)),(85,85,.rw 1 ((w.set j q').map AJ))] Q) :
  AA L (.code DD.l2::UA) (UB y s ul m (j:Int)) [(69,101021,.rw 1 ((A++W++C).map AJ)),(85,85,.rw 1 (w.map AJ))] Q:=by
 obtain ⟨UL,a1,a2⟩:=V0 D2 (n:=y.length+1) (by omega) (by omega);obtain ⟨VL,b5,b6⟩:=mX bp (n:=y.length) ck (by omega);obtain ⟨u0,w0⟩ : ∃ d,W[y.length]? = some d:=⟨_,zE (by omega)⟩;obtain ⟨u1,w1⟩ : ∃ d,W[y.length-1]? = some d:=⟨_,zE (by omega)⟩;obtain ⟨u2,w2⟩ : ∃ d,W[y.length-2]? = some d:=⟨_,zE (by omega)⟩;obtain ⟨f1,x1⟩ : ∃ d,y[y.length-1]? = some d:=⟨_,zE (by omega)⟩;obtain ⟨f2,x2⟩ : ∃ d,y[y.length-2]? = some d:=⟨_,zE (by omega)⟩;rw[show y.length+1-3=y.length-2 by omega,show y.length+1-2=y.length-1 by omega,show y.length+1-1=y.length by omega,FR w0,FR w1,FR w2]at a2;rw[show y.length+1-3=y.length-2 by omega]at a1;rw[FR x1,FR x2]at b6;have nr:=mS bp (k:=y.length-1) (by omega) n2 x1;have k0:=D2.at w0;have k1:=D2.at w1;have k2:=D2.at w2;have k3:=bp.at x1;have k4:=bp.at x2;have z1:y[((y.length:Int)-1).toNat]? = some f1:=by rw[show ((y.length:Int)-1).toNat=y.length-1 by omega];exact x1
 have z2:y[((y.length:Int)-2).toNat]? = some f2:=by rw[show ((y.length:Int)-2).toNat=y.length-2 by omega];exact x2
 have gy:(A++W++C)[((j:Int)+(y.length:Int)).toNat]? = some u0:=PY (by omega) w0;(repeat' ((first|(apply AH<;>intro hc<;>try (exfalso;omega))|(apply A9;omega)|(apply AZ;omega)|(apply BX;omega)|(apply L7;omega)|(apply B5;omega)|refine H3 (by assumption) ?_|apply AE)<;>conv=>whnf))
 have bg:(A++W++C)[((j:Int)+(y.length:Int)-1).toNat]? = some u1:=PY (by omega) w1;refine oU bg ?_;(conv=>whnf)
 refine aX (by omega) ?_;(conv=>whnf)
 refine MT (by omega) ?_;(conv=>whnf)
 clear gy bg;have af:(A++W++C)[((j:Int)+(y.length:Int)-2).toNat]? = some u2:=PY (by omega) w2;generalize Ep:u0*4294967296+u1=top at *;have En:top<=18446744073709551615:=by omega
 have hU:val W=UL+4294967296^(y.length-2)*(u2+4294967296*top):=by rw[a2,show u1+4294967296*u0=top by omega]
 (repeat' ((first|(apply BX;omega)|(apply Q7;omega)|(apply TB;omega;omega)|(apply B5;omega)|(refine BJ (by assumption) ?_ rfl ?_;omega))<;>conv=>whnf))
 refine FZ (λ q _=>q) (λ(q r:Nat)=>Gs (val W) (val y) f1 f2 u2 top q r) (λ q r=>[(16,.int .u64 (q:Int)),(17,.int .u64 (r:Int))]) (λ_ _=>[]) [] [] (top/f1) (top%f1) (by (conv=>whnf);exact ⟨rfl,rfl,rfl⟩) (Gs.start hU b6 a1 k2 v3 (by omega) k3) ?_;intro q r g iz;have Rp:q<=top:=by
  have h3:=g.hq;have h4:q*1<=q*f1:=Nat.mul_le_mul_left q (by omega);omega
 have hr:=g.hr;have gu:=g.ge;by_cases hb:4294967296<=q
 ·obtain ⟨y1,y2,y3⟩:=g.next hU b6 a1 v3 g2 (Or.inl hb)
  (repeat' ((first|(apply AH<;>intro hc<;>try (exfalso;omega))|(apply BX;omega)|(apply FB;omega)|(apply HQ;omega;omega)|(apply B5;omega)|(refine BJ (by assumption) ?_ rfl ?_;omega)|apply AE)<;>conv=>whnf))
  ·obtain ⟨t1,t2⟩:=QJ hU b6 b5 nr k4 g2 y2 (Or.inr (by omega))
   exact B0 [] (by (conv=>whnf);exact ⟨rfl,rfl,rfl⟩) (W5 (w:=w) (C:=C) hA hW D2 bp ck om v3 bm ef Bm Bd t1 y3 t2 hk)
  ·exact B0 [] (by (conv=>whnf);exact ⟨rfl,rfl,rfl⟩) (iz (q-1) (r+f1) (by omega) ⟨y2,by omega,y3⟩)
 ·have Rf:=QP (show q<4294967296 by omega) k4
  by_cases o6:r*4294967296+u2<q*f2
  ·obtain ⟨y1,y2,y3⟩:=g.next hU b6 a1 v3 g2 (Or.inr o6)
   (repeat' ((first|(apply AH<;>intro hc<;>try (exfalso;omega))|(apply A9;omega)|(apply AZ;omega)|(apply BX;omega)|(apply FB;omega)|(apply MS;omega)|(apply L7;omega)|(apply MT;omega)|(apply HQ;omega;omega)|(apply B5;omega)|(refine BJ (by assumption) ?_ rfl ?_;omega)|refine H3 (by assumption) ?_|apply AE)<;>conv=>whnf))
   ·obtain ⟨t1,t2⟩:=QJ hU b6 b5 nr k4 g2 y2 (Or.inr (by omega))
    exact B0 [] (by (conv=>whnf);exact ⟨rfl,rfl,rfl⟩) (W5 (w:=w) (C:=C) hA hW D2 bp ck om v3 bm ef Bm Bd t1 y3 t2 hk)
   ·exact B0 [] (by (conv=>whnf);exact ⟨rfl,rfl,rfl⟩) (iz (q-1) (r+f1) (by omega) ⟨y2,by omega,y3⟩)
  ·obtain ⟨t1,t2⟩:=QJ hU b6 b5 nr k4 g2 g.hq (Or.inl ⟨by omega,by omega⟩)
   (repeat' ((first|(apply AH<;>intro hc<;>try (exfalso;omega))|(apply A9;omega)|(apply AZ;omega)|(apply BX;omega)|(apply MS;omega)|(apply L7;omega)|(apply MT;omega)|(apply B5;omega)|(refine BJ (by assumption) ?_ rfl ?_;omega)|refine H3 (by assumption) ?_|apply AE)<;>conv=>whnf))
   exact B0 [] (by (conv=>whnf);exact ⟨rfl,rfl,rfl⟩) (W5 (w:=w) (C:=C) hA hW D2 bp ck om v3 bm ef Bm Bd t1 gu t2 hk)
end
theorem Oe {l:List Nat} (hD:AX l) (h:l[l.length-1]? = some 0):val l<4294967296^(l.length-1):=by
 have hl:=(zS h).1;have h1:=IJ l (l.length-1) (by omega);have h2:=GE h;rw[List.drop_of_length_le (show l.length<=l.length-1+1 by omega),HP]at h2;rw[h2]at h1;simp only[Nat.mul_zero,Nat.add_zero]at h1;have h3:=EJ (hD.take (l.length-1));rw[List.length_take,Nat.min_eq_left (by omega)]at h3;omega
theorem dT (N:a9 L) {X Y s:Nat} {x u y:List Nat} (hY:Y≠0) (ah:s<=31) (Av:AX u) (Ax:val u=X*2^s) (Pn:u[u.length-1]? = some 0) (ef:x.length+1<=u.length/\u.length<=549755813888) (bp:AX y) (Ay:val y=Y*2^s) (mu:2<=y.length/\y.length<=x.length) (n2:4294967296^(y.length-1)*2147483648<=val y) :
  AA L tO [(10,.row 69 0 1 0 u.length),(11,.sl false (y.map AJ)),(9,.int .i64 (s:Int)),(0,.sl false (x.map AJ))] [(69,101021,.rw 1 (u.map AJ))] (NQ DD (.j4 [.sl false ((dg (X/Y)).map AJ),.sl false ((dg (X%Y)).map AJ),.int .i64 0])):=by
 refine CW (λ(_:Nat)=>0) (λ_=>True) (λ_=>[]) (λ_=>[]) [] [] 0 (by (conv=>whnf);exact ⟨rfl,rfl,rfl⟩) trivial ?_;intro _ _ _;(repeat' ((first|(apply AH<;>intro hc<;>try (exfalso;omega))|(apply AZ;omega)|(apply BX;omega)|apply AW|apply AE)<;>conv=>whnf))
 refine FF (enc:=AJ) 0 (u.length-y.length) (by rfl) (by omega) (by omega) ?_;(conv=>whnf)
 (repeat' ((first|(apply BX;omega)|fail)<;>conv=>whnf))
 have v3:0<val y:=by
  have:=kL (y.length-1)
  omega
 have tu:=EJ bp;generalize hm:u.length-y.length=m at *;have fp:val (u.drop m)<val y:=by
  have h1:(u.drop m).length=y.length:=by simp;omega
  have h2:=Oe (l:=u.drop m) (Av.drop _) (by rw[h1,List.getElem?_drop,show m+(y.length-1)=u.length-1 by omega];exact Pn);rw[h1]at h2;omega
 rw[show (u.length:Int)-y.length-1=((m:Nat):Int)-1 by omega];refine FN (λ n _ _=>n) (λ(n:Nat) (o w:List Nat)=>n<=m/\o.length=u.length/\AX o/\w.length=m/\AX w/\val (o.drop n)<val y/\X*2^s=val (o.take n)+4294967296^n*(val (w.drop n)*val y+val (o.drop n))) (λ n o w=>[(14,.int .i64 ((n:Int)-1))]) (λ n o w=>[(69,101021,.rw 1 (o.map AJ)),(85,85,.rw 1 (w.map AJ))]) [] [] m u (List.replicate m 0) (by (conv=>whnf);exact ⟨rfl,rfl,rfl⟩) ⟨by omega,rfl,Av,by simp,HU _,fp,by rw[<-Ax,List.drop_of_length_le (show (List.replicate m 0).length<=m by simp),HP,Nat.zero_mul,Nat.zero_add];exact IJ u m (by omega)⟩ ?_;intro n o w ⟨p1,p2,p3,p4,p5,p6,p7⟩ ih;rcases n with _|j
 ·clear ih
  rw[List.drop_zero]at p6;rw[List.take_zero,List.drop_zero,List.drop_zero,HP,Nat.zero_add,Nat.pow_zero,Nat.one_mul]at p7;have jm:val o=val (o.take y.length):=by
   have h1:=PV o y.length;rcases Nat.eq_zero_or_pos (val (o.drop y.length)) with h2|h2
   ·rw[h2,Nat.mul_zero,Nat.add_zero]at h1;exact h1
   ·have h3:4294967296^y.length*1<=4294967296^y.length*val (o.drop y.length):=Nat.mul_le_mul_left _ h2
    omega
  have qh:X/Y=val w/\X%Y=val o/2^s:=by
   obtain ⟨z1,z2⟩:=dS (X:=X) (Y:=Y) (Nat.two_pow_pos s);rw[<-z1,<-z2,<-Ay,p7];have e1:(val w*val y+val o)/val y=val w:=by
    rw[Nat.mul_comm,Nat.mul_add_div v3,Nat.div_eq_of_lt p6,Nat.add_zero]
   have e2:(val w*val y+val o)%val y=val o:=by
    rw[Nat.mul_comm,Nat.mul_add_mod,Nat.mod_eq_of_lt p6]
   rw[e1,e2];exact ⟨rfl,rfl⟩
  rw[qh.1,qh.2,jm];have hT:=λ q=>FD N w q p5 (by omega)
  have ix:(o.take y.length).length<=549755813888:=by rw[List.length_take];omega
  clear p7 qh fp;rw[<-p4];rcases Nat.eq_zero_or_pos s with h0|h0
  ·subst h0
   have hS:=λ q=>gF N (o.take y.length) q 0 (p3.take _) ix (by omega)
   rw[Nat.pow_zero,Nat.mul_one]at hS;rw[Nat.pow_zero,Nat.div_one];(repeat' ((first|(apply AH<;>intro hc<;>try (exfalso;omega))|(refine DX (λ_=>rfl) rfl ?_ ?_;(first|rfl|simp))|apply AE|refine AD (hT _) ?_)<;>conv=>whnf))
   refine GF y.length rfl (by omega) ?_;(conv=>whnf)
   refine B7.neg (by omega) ?_;(conv=>whnf)
   refine GX (enc:=AJ) (λ_=>rfl) (by omega) ?_;(conv=>whnf)
   rw[List.drop_zero,Nat.sub_zero,show -((0:Nat):Int)=((0:Nat):Int) by omega];(repeat' (refine AD (hS _) ?_<;>conv=>whnf))
   exact AU rfl (TW _ _ _)
  ·have hS:=λ q=>xL N (o.take y.length) q s (p3.take _) ix (by omega)
   (repeat' ((first|(apply AH<;>intro hc<;>try (exfalso;omega))|(refine DX (λ_=>rfl) rfl ?_ ?_;(first|rfl|simp))|apply AE|refine AD (hT _) ?_)<;>conv=>whnf))
   refine GF y.length rfl (by omega) ?_;(conv=>whnf)
   refine B7.neg (by omega) ?_;(conv=>whnf)
   refine GX (enc:=AJ) (λ_=>rfl) (by omega) ?_;(conv=>whnf)
   rw[List.drop_zero,Nat.sub_zero];(repeat' (refine AD (hS _) ?_<;>conv=>whnf))
   exact AU rfl (TW _ _ _)
 ·have e3:((j+1:Nat):Int)-1=j:=by omega
  rw[e3];obtain ⟨A,W,C,hA,hW,rfl⟩:=eJ o j (y.length+1) (by omega);obtain ⟨g1,g2,g3⟩:=eL hA hW p3 p6 tu;obtain ⟨D1,D2,D3⟩:=dP p3;have pg:val W/val y<4294967296:=(Nat.div_lt_iff_lt_mul v3).2 g2;have Cr:val W=val W/val y*val y+val W%val y:=by rw[Nat.mul_comm];exact (Nat.div_add_mod _ _).symm
  have tv:val W%val y<val y:=Nat.mod_lt _ v3;have tp:X*2^s=val A+4294967296^j*val W+4294967296^j*4294967296*(val (w.drop (j+1))*val y):=by
   rw[p7,Nat.mul_add,<-g3,Nat.pow_succ];omega
  have kf:=eK tp Cr;have jo : ∀ q',q'=val W/val y->val ((w.set j q').drop j)=val W/val y+4294967296*val (w.drop (j+1)):=λ q' h=>by
   rw[GE (l:=w.set j q') (d:=q') (by rw[List.getElem?_set_self (by omega)]),List.drop_set_of_lt (by omega),h]
  have hlen : ∀ W':List Nat,W'.length=y.length+1->(A++W'++C).length=u.length:=λ W' h=>by
   rw[<-p2];simp [h,hW]
  have Gw:u.length=j+(y.length+1)+C.length:=by rw[<-p2];simp [hA,hW];omega
  refine B0 [] (by (conv=>whnf);exact ⟨rfl,rfl,rfl⟩) (tQ (m:=m) (s:=s) (ul:=u.length) (C:=C) hA hW D2 bp mu.1 (by omega) v3 (by omega) n2 g2 Gw p4 (by omega) (λ W' q' z1 z2 z3 z4 => ?_));obtain ⟨t1,t2⟩:=XF (A:=A) (W:=W') (C:=C) (j:=j) hA g1;refine B0 [] (by (conv=>whnf);exact ⟨rfl,rfl,rfl⟩) (ih j (A++W'++C) (w.set j q') (by omega) ⟨by omega,hlen W' z1,(D1.append z2).append D3,by simpa using p4,p5.set _ (by omega),by omega,?_⟩);rw[t1,t2,jo q' z4,z3];exact kf
end Go.c4
namespace Go.c4
open F
attribute [local irreducible] AA AF AR AB B7 AQ AY A7 A6 BS AP BO BW C0 BL A0 BH BZ AC A4 AL pw CD B2 CH CX CS CK CI BI B8
variable {L:Lib}
set_option maxHeartbeats 8000000
theorem gE (N:a9 L) (a b:List Nat) (q1 q2:Bool) (hA:AX a) (hB:AX b) (la:a.length<=274877906944) (lb:b.length<=274877906944) (h0:val b≠0) :
  Ev L 109 [.sl q1 (a.map AJ),.sl q2 (b.map AJ)] (.j4 [.sl false ((dg (val a/val b)).map AJ),.sl false ((dg (val a%val b)).map AJ),.int .i64 0]):=by
 have t1:=λ q=>FD N a q hA (by omega)
 have t2:=λ q=>FD N b q hB (by omega)
 have l1:=ED hA;have l2:=ED hB;have k7:=λ q q'=>XV N (dg (val a)) (dg (val b)) q q' (DF _) (DF _) (by omega) (by omega)
 rw[BK,BK]at k7;generalize val a=X at *;generalize val b=Y at *;have d1:=DF X;have d2:=DF Y;have v1:=BK X;have v2:=BK Y;have Sh:=RP h0;refine Ev.x N.DD rfl rfl ?_;by_cases h1:(dg Y).length=1
 ·obtain ⟨y0,jq⟩ : ∃ y0,dg Y=[y0]:=List.length_eq_one_iff.1 h1
  have jr:Y=y0:=by rw[<-v2,jq];simp [val]
  subst jr;have wu:Y<4294967296:=d2 Y (by rw[jq];simp);have Si:(dg Y)[(0:Int).toNat]? = some Y:=by rw[jq];rfl
  have Hb:=λ q=>xM N (dg X) Y q d1 (by omega) h0 wu
  rw[v1]at Hb;have pj:X%Y<4294967296:=Nat.lt_trans (Nat.mod_lt _ (by omega)) wu;have Gb:=λ q=>FD N [X%Y] q (GL pj) (by simp)
  rw[show val [X%Y]=X%Y by simp [val]]at Gb;clear jq v2;generalize dg Y=y at *;(repeat' ((first|(apply AH<;>intro hc<;>try (exfalso;omega))|apply AW|(refine BJ (by assumption) ?_ rfl ?_;omega)|refine HR rfl ?_|apply AE|refine AD (t1 _) ?_|refine AD (t2 _) ?_|refine AD (Hb _) ?_|refine AD (Gb _) ?_)<;>conv=>whnf))
  exact AU rfl (TW _ _ _)
 by_cases l6:X<Y
 ·rw[<-HC (by omega)]at k7
  (repeat' ((first|(apply AH<;>intro hc<;>try (exfalso;omega))|apply AW|apply AE|refine AD (t1 _) ?_|refine AD (t2 _) ?_|refine AD (k7 _ _) ?_)<;>conv=>whnf))
  refine AU ?_ (TW _ _ _);rw[Nat.div_eq_of_lt l6,Nat.mod_eq_of_lt l6,EH];rfl
 have gu:=TZ (show Y<=X by omega);generalize CT X Y=cm at *;have Dr:2<=(dg Y).length:=by omega
 obtain ⟨yt,ot,qw⟩:=W3 h0;have ou:=d2.at ot;obtain ⟨b1,b2,b3,b4⟩:=YW qw ou;have rm:=λ q=>xI N yt q qw ou
 generalize hs:32-m9 yt=s at *;have ah:s<=31:=by omega
 have El:=λ q=>gF N (dg Y) q s d2 (by omega) (by omega)
 obtain ⟨n1,n2⟩:=YQ d2 ot (by omega) ah b3 b4;rw[v2]at El n1 n2;have jm:(dg Y).drop ((dg Y).length-1)=[yt]:=by
  obtain ⟨hi,he⟩:=zS ot;rw[List.drop_eq_getElem_cons hi,he,List.drop_of_length_le (by omega)]
 have mu:(dg (Y*2^s)).length=(dg Y).length:=by
  have a1:=MF.2 n1;have a2 : ¬ (dg (Y*2^s)).length<=(dg Y).length-1:=λ h=>by
   have:=MF.1 h
   omega
  omega
 have Pq:(dg (X*2^s)).length<=(dg X).length+1:=by
  refine MF.2 ?_;have a1:X<4294967296^(dg X).length:=MF.1 (Nat.le_refl _);rw[Nat.pow_succ];have a2:=SI (s:=s) (by omega);exact Nat.lt_of_lt_of_le (Nat.mul_lt_mul_of_pos_right a1 (Nat.two_pow_pos s)) (Nat.mul_le_mul_left _ a2)
 have mg:(dg X).length<=(dg (X*2^s)).length:=NW (Nat.le_mul_of_pos_right _ (Nat.two_pow_pos s));have pd:=NW (show Y<=X by omega);generalize hx:dg X=x at *;generalize hy:dg Y=y at *;have t3:=λ q=>FD N x q d1 (by omega)
 rw[v1,hx]at t3;(repeat' ((first|(apply AH<;>intro hc<;>try (exfalso;omega))|(apply BX;omega)|apply AW|apply AE|refine AD (t1 _) ?_|refine AD (t2 _) ?_|refine AD (k7 _ _) ?_)<;>conv=>whnf))
 rw[show (y.length:Int)-1=((y.length-1:Nat):Int) by omega];refine pM (k:=y.length-1) (λ_=>rfl) (by omega) ?_;(conv=>whnf)
 rw[jm];(repeat' ((first|(apply BX;omega)|refine AD (rm _) ?_)<;>conv=>whnf))
 rw[show (32:Int)-(m9 yt:Nat)=((s:Nat):Int) by omega];refine G7 1000 N.HJ rfl rfl ?_;have Rt:(s:Int)/32=((0:Nat):Int):=by omega
 have zz:(s:Int)%32=((s:Nat):Int):=by omega
 (repeat' ((first|(apply AH<;>intro hc<;>try (exfalso;omega))|(refine NN ?_ ?_ (λ_ => ?_) (λ_ _ => ?_);omega;omega;all_goals try (exfalso;omega))|apply AW|apply AE|refine AD (t3 _) ?_)<;>conv=>whnf))
 rw[Rt];refine FF (enc:=AJ) 0 0 rfl rfl (by omega) ?_;(conv=>whnf)
 skip
 refine FN (λ i _ _=>x.length-i) (λ(i:Nat) (o:List Nat) (c:Nat)=>i<=x.length/\o.length=i/\AX o/\c<2^s/\val o+4294967296^i*c=val (x.take i)*2^s) (λ i o c=>[(10,.int .i64 i),(9,.int .u64 (c:Int)),(8,.row 107069 0 1 0 i)]) (λ i o c=>[(107069,107069,.rw 1 (o.map AJ))]) [] [] 0 [] 0 (by (conv=>whnf);exact ⟨rfl,rfl,rfl⟩) ⟨by omega,rfl,QA,Nat.two_pow_pos _,by simp [val]⟩ ?_;intro i o c ⟨p1,p2,p3,p4,p5⟩ ih;have mq:=SI (s:=s) (by omega);by_cases hi:i<x.length
 ·obtain ⟨d,hd⟩ : ∃ d,x[i]? = some d:=⟨_,zE hi⟩
  have w3:=d1.at hd;obtain ⟨f1,f2,f3,f4⟩:=PO (s:=s) w3 (by omega);have hr:=UY (show s<=64 by omega) f4;(repeat' ((first|(apply AH<;>intro hc<;>try (exfalso;omega))|(refine OL ?_ (λ_ _ _ => ?_) (λ_ _ _ _ => ?_);omega;all_goals try (exfalso;omega))|(apply B5;omega)|apply AW|(refine BJ (by assumption) ?_ rfl ?_;omega)|apply AE)<;>conv=>whnf))
  rw[zz];refine MV (by omega) f4 ?_;(conv=>whnf)
  skip
  refine TA s (Nat.mul_mod_left _ _) p4 (by omega) ?_;(conv=>whnf)
  have k6:=mU (d:=d) (P:=1) (V:=val o) (p:=4294967296^i) (lo:=c) (X:=val (x.take i)) (s:=s) (by rw[Nat.one_mul,Nat.one_mul];exact p5) rfl;have oz:(c+d*2^s)/4294967296<2^s:=by
   rw[Nat.div_lt_iff_lt_mul (by omega)];have:=Nat.mul_le_mul_right (2^s) (show d<=4294967295 by omega)
   omega
  generalize c+d*2^s=t at *;(repeat' ((first|apply E2|apply EG)<;>conv=>whnf))
  refine FA (enc:=AJ) (t%4294967296) rfl p2.symm rfl (by omega) (by omega) ?_;(conv=>whnf)
  (repeat' ((first|(apply AZ;omega)|apply ET)<;>conv=>whnf))
  rw[show (o++[t%4294967296]).length=i+1 by simp [p2]];refine B0 [(107069,107091)] (by (conv=>whnf);exact ⟨rfl,rfl,rfl⟩) (ih (i+1) (o++[t%4294967296]) (t/4294967296) (by omega) ⟨by omega,by simp;omega,p3.append (GL (by omega)),oz,?_⟩);rw[L1,p2,DJ hd,Nat.pow_succ];rw[Nat.one_mul,Nat.one_mul]at k6;exact k6
 obtain rfl:i=x.length:=by omega
 clear ih;have kg:c<4294967296:=by omega
 have Pg:AX (o++[c]):=p3.append (GL kg);have xp:val (o++[c])=X*2^s:=by
  rw[L1,p2,p5,CU (Nat.le_refl _),v1]
 have xo:(o++[c]).length=x.length+1:=by simp [p2]
 (repeat' ((first|(apply AH<;>intro hc<;>try (exfalso;omega))|(apply DU;omega)|apply AW|apply EG|apply AE)<;>conv=>whnf))
 refine FA (enc:=AJ) c rfl p2.symm rfl (by omega) (by omega) ?_;(conv=>whnf)
 rw[xo];generalize o++[c]=O at *;rw[<-xo];clear p3 p4 p5;refine G7 1000 N.GQ rfl rfl ?_;(repeat' (apply AE<;>conv=>whnf))
 refine CW (λ n=>n) (λ(n:Nat)=>n<=(O).length /\ ∀ i,n<=i->i<(O).length->(O)[i]? = some 0) (λ n=>[(3,.int .i64 n)]) (λ_=>[]) [] [] (O).length (by (conv=>whnf);exact ⟨rfl,rfl,rfl⟩) ⟨Nat.le_refl _,λ i h1 h2=>by omega⟩ ?_;intro n ⟨p1,p2⟩ ih;rcases n with _|n
 ·(repeat' ((first|(apply AH<;>intro hc<;>try (exfalso;omega))|apply AE)<;>conv=>whnf))
  refine GF 0 (by omega) (by omega) ?_;(conv=>whnf)
  have ag:=FG (l:=O) (by assumption) p1 p2 (Or.inl rfl);have n6:(List.take 0 O).length<=(O).length:=by rw[List.length_take];omega
  clear ih p2;refine TF (enc:=AJ) (by omega) ?_;(conv=>whnf)
  rw[List.drop_zero,Nat.sub_zero];generalize vk:List.take 0 O=T0 at *;refine NK (enc:=AJ) (λ_=>rfl) (by omega) (by omega) ?_;(conv=>whnf)
  refine ⟨rfl,_,rfl,?_⟩;(conv=>whnf)
  (refine ⟨rfl,_,rfl,?_⟩;(conv=>whnf);(repeat' ((first|apply EG|refine AD (El _) ?_)<;>conv=>whnf));refine FA (enc:=AJ) 0 rfl rfl rfl (by omega) (by omega) ?_;(conv=>whnf);rw[xp]at ag;rw[ag];exact B0 [] (by (conv=>whnf);exact ⟨rfl,rfl,rfl⟩) (dT N (x:=x) (X:=X) (Y:=Y) (s:=s) (u:=dg (X*2^s)++[0]) (y:=dg (Y*2^s)) h0 ah ((DF _).append (GL (by omega))) (by rw[L1,BK,Nat.mul_zero,Nat.add_zero]) (by simp) (by simp;omega) (DF _) (BK _) (by omega) (by rw[BK,mu];exact n2)))
 ·have e1:((n+1:Nat):Int)-1=n:=by omega
  (repeat' ((first|(apply AH<;>intro hc<;>try (exfalso;omega))|(apply A9;omega)|(apply BX;omega)|(refine OK (by assumption) ?_ (λ v hv hb => ?_);omega)|apply AE)<;>conv=>whnf))
  ·rw[e1]
   exact BQ [] (ih n (by omega) ⟨by omega,λ i h1 h2=>by
    by_cases h:i=n
    ·subst h
     rw[e1,Int.toNat_natCast]at hv;rw[hv];congr 1;omega
    ·exact p2 i (by omega) h2⟩)
  ·refine GF (n+1) (by omega) (by omega) ?_
   (conv=>whnf)
   rw[e1,Int.toNat_natCast]at hv;have ag:=FG (l:=O) (by assumption) p1 p2 (Or.inr ⟨_,hv,by omega⟩);have n6:(List.take (n+1) O).length<=(O).length:=by rw[List.length_take];omega
   clear ih p2 hv;(rw[cA (l:=O)];rotate_left;exact rfl;exact rfl);(conv=>whnf)
   refine TF (enc:=AJ) (by omega) ?_;(conv=>whnf)
   rw[List.drop_zero,Nat.sub_zero];generalize vk:List.take (n+1) O=T0 at *;refine NK (enc:=AJ) (λ_=>rfl) (by omega) (by omega) ?_;(conv=>whnf)
   refine ⟨rfl,_,rfl,?_⟩;(conv=>whnf)
   (refine ⟨rfl,_,rfl,?_⟩;(conv=>whnf);(repeat' ((first|apply EG|refine AD (El _) ?_)<;>conv=>whnf));refine FA (enc:=AJ) 0 rfl rfl rfl (by omega) (by omega) ?_;(conv=>whnf);rw[xp]at ag;rw[ag];exact B0 [] (by (conv=>whnf);exact ⟨rfl,rfl,rfl⟩) (dT N (x:=x) (X:=X) (Y:=Y) (s:=s) (u:=dg (X*2^s)++[0]) (y:=dg (Y*2^s)) h0 ah ((DF _).append (GL (by omega))) (by rw[L1,BK,Nat.mul_zero,Nat.add_zero]) (by simp) (by simp;omega) (DF _) (BK _) (by omega) (by rw[BK,mu];exact n2)))
theorem xJ (N:a9 L) (a b:List Nat) (q1 q2:Bool) (hA:AX a) (hB:AX b) (la:a.length<=274877906944) (lb:b.length<=274877906944) :
  Ev L 110 [.sl q1 (a.map AJ),.sl q2 (b.map AJ)] (.sl false ((dg (Nat.gcd (val a) (val b))).map AJ)):=by
 have t1:=λ q=>FD N a q hA (by omega)
 have t2:=λ q=>FD N b q hB (by omega)
 have l1:=ED hA;have l2:=ED hB;generalize val a=X at *;generalize val b=Y at *;refine Ev.x N.K4 rfl rfl ?_;(repeat' ((first|apply AE|refine AD (t1 _) ?_|refine AD (t2 _) ?_)<;>conv=>whnf))
 refine FZ (λ_ y=>y) (λ(x y:Nat)=>(dg x).length<=274877906944/\(dg y).length<=274877906944/\Nat.gcd x y=Nat.gcd X Y) (λ x y=>[(0,.sl false ((dg x).map AJ)),(1,.sl false ((dg y).map AJ))]) (λ_ _=>[]) [] [] X Y (by (conv=>whnf);exact ⟨rfl,rfl,rfl⟩) ⟨by omega,by omega,rfl⟩ ?_;intro x y ⟨p1,p2,p3⟩ ih;rw[<-p3];by_cases h0:y=0
 ·subst h0
  have mn:(dg 0).length=0:=by rw[EH];rfl
  clear ih;rw[Nat.gcd_zero_right];(repeat' ((first|(apply AH<;>intro hc<;>try (exfalso;omega))|apply AW|apply AE)<;>conv=>whnf))
  exact AU rfl (H4 _)
 ·have hp:=RP h0
  have hD:=λ q q'=>gE N (dg x) (dg y) q q' (DF _) (DF _) p1 p2 (by rw[BK];exact h0)
  rw[BK,BK]at hD;have l6:x%y<y:=Nat.mod_lt _ (by omega);have pe:=NW (Nat.le_of_lt l6);(repeat' ((first|(apply AH<;>intro hc<;>try (exfalso;omega))|apply AW|apply AE|refine AD (hD _ _) ?_)<;>conv=>whnf))
  rw[p3];exact BQ [] (ih y (x%y) l6 ⟨p2,by omega,by rw[R4];exact p3⟩)
theorem H5 (N:a9 L) (n q:Bool) (m:List Nat) (hm:Sm 274877906944 m):Ev L 111 [.agg (rZ q n m)] (.agg (eZ (zv n m))):=by
 have hT:=λ q=>FD N m q hm.1 (by have:=hm.2;omega)
 have hz:=HD (val m);have ha:=EF n m;refine Ev.x N.LH rfl rfl ?_;cases n
 ·rw[EB]at *
  (repeat' ((first|apply AE|refine AD (hT _) ?_)<;>conv=>whnf))
  exact AU (D9 ha.symm (FK (by omega))) (C9 _)
 ·rw[MP]at *
  (repeat' ((first|(apply AH<;>intro hc<;>try (exfalso;omega))|apply AW|apply AE|refine AD (hT _) ?_)<;>conv=>whnf))
  ·exact AU (D9 ha.symm (LX (by omega))) (C9 _)
  ·exact AU (D9 ha.symm (FK (by omega))) (C9 _)
theorem XZ (N:a9 L) (n q:Bool) (m:List Nat) (hm:Sm 274877906944 m):Ev L 113 [.agg (rZ q n m)] (.int .i64 (o9 (zv n m))):=by
 have hT:=λ q=>H5 N n q m hm
 generalize zv n m=z at *;have hz:=HD z.natAbs;refine Ev.x N.LF rfl rfl ?_;(repeat' ((first|(apply AH<;>intro hc<;>try (exfalso;omega))|apply AW|apply AE|refine AD (hT _) ?_)<;>conv=>whnf))
 ·exact CR (VJ (by omega))
 ·cases hd:decide (z<0)
  ·(conv=>whnf)
   exact CR (ZY (by have:=of_decide_eq_false hd;omega))
  ·(conv=>whnf)
   exact CR (ZX (of_decide_eq_true hd))
theorem XX (N:a9 L) (n q:Bool) (m:List Nat) (hm:Sm 274877906944 m):Ev L 114 [.agg (rZ q n m)] (.agg (eZ (-(zv n m)))):=by
 have hT:=λ q=>H5 N n q m hm
 generalize zv n m=z at *;have hz:=HD z.natAbs;refine Ev.x N.LD rfl rfl ?_;(repeat' ((first|apply AE|refine AD (hT _) ?_)<;>conv=>whnf))
 cases hd:decide (z<0)
 ·have h1:=of_decide_eq_false hd
  (conv=>whnf)
  (repeat' ((first|(apply AH<;>intro hc<;>try (exfalso;omega))|apply AW)<;>conv=>whnf))
  ·exact AU (D9 (by omega) (LX (by omega))) (C9 _)
  ·exact AU (D9 (by omega) (FK (by omega))) (C9 _)
 ·have h1:=of_decide_eq_true hd
  (conv=>whnf)
  skip
  exact AU (D9 (by omega) (FK (by omega))) (C9 _)
theorem O4 (N:a9 L) (n1 n2 q1 q2:Bool) (a b:List Nat) (ha:AX a) (hb:AX b) (hl:a.length+b.length<=274877906944):Ev L 118 [.agg (rZ q1 n1 a),.agg (rZ q2 n2 b)] (.agg (eZ (zv n1 a*zv n2 b))):=by
 have h1:=λ q q'=>xK N a b q q' ha hb (by omega)
 have sa:Sm a.length a:=⟨ha,Nat.le_refl _⟩;have sb:Sm b.length b:=⟨hb,Nat.le_refl _⟩;have hT:=λ n q=>H5 N n q (dg (val a*val b)) ((sa.mul sb rfl).le hl)
 have e : ∀ n,zv n (dg (val a*val b))=bif n then -((val a*val b:Nat):Int) else ((val a*val b:Nat):Int):=λ n=>by unfold zv;rw[BK]
 have e2:zv n1 a*zv n2 b=zv (n1 != n2) (dg (val a*val b)):=by
  rw[e];cases n1<;>cases n2<;>simp [EB,MP,Int.mul_neg,Int.neg_mul]
 rw[e2];refine Ev.x N.LC rfl rfl ?_;cases n1<;>cases n2;all_goals
  (repeat' ((first|apply AE|refine AD (h1 _ _) ?_|refine AD (hT _ _) ?_)<;>conv=>whnf))
  exact AU rfl (C9 _)
theorem gG (N:a9 L) (n1 n2 q1 q2:Bool) (a b:List Nat) (ha:Sm 274877906943 a) (hb:Sm 274877906943 b):Ev L 115 [.agg (rZ q1 n1 a),.agg (rZ q2 n2 b)] (.agg (eZ (zv n1 a+zv n2 b))):=by
 have t1:=λ q=>H5 N n1 q a (ha.le (by omega))
 have t2:=λ q=>H5 N n2 q b (hb.le (by omega))
 have s1:Sm 274877906943 (dg (zv n1 a).natAbs):=by rw[EF];exact ha.pn
 have s2:Sm 274877906943 (dg (zv n2 b).natAbs):=by rw[EF];exact hb.pn
 generalize zv n1 a=x at *;generalize zv n2 b=y at *;have h1:=λ q q'=>gD N (dg x.natAbs) (dg y.natAbs) q q' s1.1 s2.1 (by have:=s1.2;omega) (by have:=s2.2;omega)
 have h2:=λ q q'=>XW N (dg x.natAbs) (dg y.natAbs) q q' s1.1 s2.1 (by have:=s1.2;omega) (by have:=s2.2;omega)
 have h3:=λ q q'=>XW N (dg y.natAbs) (dg x.natAbs) q q' s2.1 s1.1 (by have:=s2.2;omega) (by have:=s1.2;omega)
 have k7:=λ q q'=>XV N (dg x.natAbs) (dg y.natAbs) q q' s1.1 s2.1 (by have:=s1.2;omega) (by have:=s2.2;omega)
 rw[BK,BK]at h1 h2 h3 k7;have u1:=λ n q=>H5 N n q (dg (x.natAbs+y.natAbs)) (s1.add s2 (by rw[BK,BK];omega))
 have u2:=λ n q=>H5 N n q (dg (x.natAbs-y.natAbs)) ((s1.low (V:=x.natAbs-y.natAbs) (by rw[BK];omega)).le (by omega))
 have u3:=λ n q=>H5 N n q (dg (y.natAbs-x.natAbs)) ((s2.low (V:=y.natAbs-x.natAbs) (by rw[BK];omega)).le (by omega))
 have e : ∀ n V,zv n (dg V)=bif n then -(V:Int) else (V:Int):=λ n V=>by unfold zv;rw[BK]
 refine Ev.x N.K8 rfl rfl ?_;(repeat' ((first|apply AE|refine AD (t1 _) ?_|refine AD (t2 _) ?_)<;>conv=>whnf))
 cases hx:decide (x<0)<;>cases hy:decide (y<0)
 ·have g1:=of_decide_eq_false hx
  have g2:=of_decide_eq_false hy;have hz:x+y=zv false (dg (x.natAbs+y.natAbs)):=by rw[e];simp only[cond_true,cond_false];omega
  rw[hz];(conv=>whnf)
  (repeat' ((first|refine AD (h1 _ _) ?_|refine AD (u1 _ _) ?_)<;>conv=>whnf))
  exact AU rfl (C9 _)
 ·have g1:=of_decide_eq_false hx
  have g2:=of_decide_eq_true hy;by_cases l6:x.natAbs<y.natAbs
  ·have hz:x+y=zv true (dg (y.natAbs-x.natAbs)):=by rw[e];simp only[cond_true,cond_false];omega
   rw[hz];rw[<-HC (by omega)]at k7;(conv=>whnf)
   (repeat' ((first|(apply AH<;>intro hc<;>try (exfalso;omega))|refine AD (k7 _ _) ?_|refine AD (h3 _ _) ?_|refine AD (u3 _ _) ?_)<;>conv=>whnf))
   exact AU rfl (C9 _)
  ·have hz:x+y=zv false (dg (x.natAbs-y.natAbs)):=by rw[e];simp only[cond_true,cond_false];omega
   rw[hz];have gu:=TZ (show y.natAbs<=x.natAbs by omega);generalize CT (x.natAbs:Nat) (y.natAbs:Nat)=cm at *;(conv=>whnf)
   (repeat' ((first|(apply AH<;>intro hc<;>try (exfalso;omega))|refine AD (k7 _ _) ?_|refine AD (h2 _ _) ?_|refine AD (u2 _ _) ?_)<;>conv=>whnf))
   exact AU rfl (C9 _)
 ·have g1:=of_decide_eq_true hx
  have g2:=of_decide_eq_false hy;by_cases l6:x.natAbs<y.natAbs
  ·have hz:x+y=zv false (dg (y.natAbs-x.natAbs)):=by rw[e];simp only[cond_true,cond_false];omega
   rw[hz];rw[<-HC (by omega)]at k7;(conv=>whnf)
   (repeat' ((first|(apply AH<;>intro hc<;>try (exfalso;omega))|refine AD (k7 _ _) ?_|refine AD (h3 _ _) ?_|refine AD (u3 _ _) ?_)<;>conv=>whnf))
   exact AU rfl (C9 _)
  ·have hz:x+y=zv true (dg (x.natAbs-y.natAbs)):=by rw[e];simp only[cond_true,cond_false];omega
   rw[hz];have gu:=TZ (show y.natAbs<=x.natAbs by omega);generalize CT (x.natAbs:Nat) (y.natAbs:Nat)=cm at *;(conv=>whnf)
   (repeat' ((first|(apply AH<;>intro hc<;>try (exfalso;omega))|refine AD (k7 _ _) ?_|refine AD (h2 _ _) ?_|refine AD (u2 _ _) ?_)<;>conv=>whnf))
   exact AU rfl (C9 _)
 ·have g1:=of_decide_eq_true hx
  have g2:=of_decide_eq_true hy;have hz:x+y=zv true (dg (x.natAbs+y.natAbs)):=by rw[e];simp only[cond_true,cond_false];omega
  rw[hz];(conv=>whnf)
  (repeat' ((first|refine AD (h1 _ _) ?_|refine AD (u1 _ _) ?_)<;>conv=>whnf))
  exact AU rfl (C9 _)
theorem xP (N:a9 L) (n1 n2 q1 q2:Bool) (a b:List Nat) (ha:Sm 274877906943 a) (hb:Sm 274877906943 b):Ev L 116 [.agg (rZ q1 n1 a),.agg (rZ q2 n2 b)] (.agg (eZ (zv n1 a-zv n2 b))):=by
 have t2:=λ q=>XX N n2 q b (hb.le (by omega))
 have s2:Sm 274877906943 (dg (-(zv n2 b)).natAbs):=by rw[Int.natAbs_neg,EF];exact hb.pn
 have h1:=λ q q'=>gG N n1 (decide (-(zv n2 b)<0)) q q' a (dg (-(zv n2 b)).natAbs) ha s2
 rw[ES,<-Int.sub_eq_add_neg]at h1;refine Ev.x N.LG rfl rfl ?_;(repeat' ((first|apply AE|refine AD (t2 _) ?_|refine AD (h1 _ _) ?_)<;>conv=>whnf))
 exact AU rfl (C9 _)
theorem xN (N:a9 L) (n1 n2 q1 q2:Bool) (a b:List Nat) (ha:Sm 274877906943 a) (hb:Sm 274877906943 b):Ev L 117 [.agg (rZ q1 n1 a),.agg (rZ q2 n2 b)] (.int .i64 (o9 (zv n1 a-zv n2 b))):=by
 have h1:=λ q q'=>xP N n1 n2 q q' a b ha hb
 have s1:Sm 274877906943 (dg (zv n1 a).natAbs):=by rw[EF];exact ha.pn
 have s2:Sm 274877906943 (dg (zv n2 b).natAbs):=by rw[EF];exact hb.pn
 have s3:Sm 274877906944 (dg (zv n1 a-zv n2 b).natAbs):=s1.add s2 (by rw[BK,BK];omega);have h2:=λ q=>XZ N (decide (zv n1 a-zv n2 b<0)) q (dg (zv n1 a-zv n2 b).natAbs) s3
 rw[ES]at h2;refine Ev.x N.K9 rfl rfl ?_;(repeat' ((first|apply AE|refine AD (h1 _ _) ?_|refine AD (h2 _) ?_)<;>conv=>whnf))
 exact CR rfl
theorem XY (N:a9 L) (z:Int) (hz : -9223372036854775808<=z/\z<=9223372036854775807):Ev L 112 [.int .i64 z] (.agg (eZ z)):=by
 have two : ∀ k:Nat,k<18446744073709551616 -> ∀ n q,Ev L 111 [.agg [.bool n,.sl q [[.int .u32 ((k%4294967296:Nat):Int)],[.int .u32 ((k/4294967296:Nat):Int)]]]] (.agg (eZ (bif n then -(k:Int) else (k:Int)))):=λ k hk n q=>by
  have:=H5 N n q [k%4294967296,k/4294967296] ⟨(W0 hk).2,by simp⟩
  unfold zv at this;rw[mY hk]at this;exact this
 refine Ev.x N.LE rfl rfl ?_;by_cases h0:0<=z
 ·obtain ⟨k,rfl⟩:=Int.eq_ofNat_of_zero_le h0
  have hT:=two k (by omega);(repeat' ((first|(apply AH<;>intro hc<;>try (exfalso;omega))|apply ET|(apply B5;omega)|(apply DU;omega)|apply E2|refine RB rfl rfl ?_|apply AE)<;>conv=>whnf))
  generalize k%4294967296=lo at *;generalize k/4294967296=hi at *;(repeat' (refine AD (hT _ _) ?_<;>conv=>whnf))
  exact AU rfl (C9 _)
 ·obtain ⟨k,hk⟩:=Int.eq_ofNat_of_zero_le (show 0 <= -(z+1) by omega)
  have ko:z = -((k+1:Nat):Int):=by omega
  have hT:=two (k+1) (by omega);(repeat' ((first|(apply AH<;>intro hc<;>try (exfalso;omega))|(apply AZ;omega)|apply pF|(apply B7.neg;omega)|(apply B5;omega)|apply AE)<;>conv=>whnf))
  rw[show IntKind.u64.wrap (-(z+1)+1)=((k+1:Nat):Int) by rw[IntWalk.u64_in _ (by omega)];omega];rw[ko];generalize k+1=k1 at *;(repeat' ((first|apply ET|(apply DU;omega)|apply E2|refine RB rfl rfl ?_)<;>conv=>whnf))
  generalize k1%4294967296=lo at *;generalize k1/4294967296=hi at *;(repeat' (refine AD (hT _ _) ?_<;>conv=>whnf))
  exact AU rfl (C9 _)
theorem xO (N:a9 L) (n1 n2 q1 q2:Bool) (a b:List Nat) (ha:Sm 274877906944 a) (hb:Sm 274877906944 b):Ev L 120 [.agg (rZ q1 n1 a),.agg (rZ q2 n2 b)] (.agg (eZ ((Nat.gcd (val a) (val b):Nat):Int))):=by
 have h1:=λ q q'=>xJ N a b q q' ha.1 hb.1 ha.2 hb.2
 refine Ev.x N.LB rfl rfl ?_;(repeat' ((first|apply AE|refine AD (h1 _ _) ?_)<;>conv=>whnf))
 exact AU (D9 (by omega) (FK (by omega))) (C9 _)
theorem vO (n1 n2:Bool) (A B:Nat) (hB:B≠0):(bif n1 then -(A:Int) else (A:Int))/(bif n2 then -(B:Int) else (B:Int))=(bif n1 != n2 then -((if n1=true/\A%B≠0 then A/B+1 else A/B:Nat):Int) else ((if n1=true/\A%B≠0 then A/B+1 else A/B:Nat):Int)) /\
  (bif n1 then -(A:Int) else (A:Int))%(bif n2 then -(B:Int) else (B:Int))=((if n1=true/\A%B≠0 then B-A%B else A%B:Nat):Int):=by
 have Tq:(0:Int)<B:=by omega
 have key : ∀ x:Int,x/(bif n2 then -(B:Int) else (B:Int))=(bif n2 then -(x/B) else x/B)/\x%(bif n2 then -(B:Int) else (B:Int))=x%B:=λ x=>by
  cases n2
  ·exact ⟨rfl,rfl⟩
  ·exact ⟨Int.ediv_neg x B,Int.emod_neg x B⟩
 rw[(key _).1,(key _).2];cases n1
 ·have h1:((A:Int))/B=((A/B:Nat):Int):=by simp
  have h2:((A:Int))%B=((A%B:Nat):Int):=by simp
  simp only[cond_false,h1,h2];cases n2<;>simp
 ·have hd:=Nat.div_add_mod A B
  have l6:=Nat.mod_lt A (show B>0 by omega);by_cases h0:A%B=0
  ·have e : -(A:Int)=(B:Int)*(-((A/B:Nat):Int)):=by
    rw[h0,Nat.add_zero]at hd;rw[Int.mul_neg,<-Int.natCast_mul,hd]
   have h1 : -(A:Int)/B = -((A/B:Nat):Int):=by rw[e,Int.mul_ediv_cancel_left _ (by omega)]
   have h2 : -(A:Int)%B=0:=by rw[e,Int.mul_emod_right]
   simp only[cond_true,h1,h2,h0];cases n2<;>simp
  ·have e : -(A:Int)=(B:Int)*(-((A/B+1:Nat):Int))+((B-A%B:Nat):Int):=by
    have h3:(B:Int)*((A/B:Nat):Int)+((A%B:Nat):Int)=A:=by rw[<-Int.natCast_mul,<-Int.natCast_add,hd]
    rw[Int.mul_neg,Int.natCast_add,Int.mul_add];omega
   have h1 : -(A:Int)/B = -((A/B+1:Nat):Int):=by
    rw[e,Int.mul_add_ediv_left _ _ (by omega),Int.ediv_eq_zero_of_lt (by omega) (by omega),Int.add_zero]
   have h2 : -(A:Int)%B=((B-A%B:Nat):Int):=by
    rw[e,Int.mul_add_emod_self_left,Int.emod_eq_of_lt (by omega) (by omega)]
   simp only[cond_true,h1,h2];cases n2<;>simp [h0]
theorem gH (N:a9 L) (n1 n2 q1 q2:Bool) (a b:List Nat) (ha:Sm 274877906943 a) (hb:Sm 274877906943 b) (h0:zv n2 b≠0):Ev L 119 [.agg (rZ q1 n1 a),.agg (rZ q2 n2 b)] (.j4 [.agg (eZ (zv n1 a/zv n2 b)),.agg (eZ (zv n1 a%zv n2 b)),.int .i64 0]):=by
 have t1:=λ q=>H5 N n1 q a (ha.le (by omega))
 have t2:=λ q=>H5 N n2 q b (hb.le (by omega))
 have s1:Sm 274877906943 (dg (zv n1 a).natAbs):=by rw[EF];exact ha.pn
 have s2:Sm 274877906943 (dg (zv n2 b).natAbs):=by rw[EF];exact hb.pn
 generalize zv n1 a=x at *;generalize zv n2 b=y at *;have vj:=λ q q'=>gE N (dg x.natAbs) (dg y.natAbs) q q' s1.1 s2.1 (by have:=s1.2;omega) (by have:=s2.2;omega) (by rw[BK];omega)
 rw[BK,BK]at vj;obtain ⟨e1,e2⟩:=vO (decide (x<0)) (decide (y<0)) x.natAbs y.natAbs (by omega);have hx:(bif decide (x<0) then -(x.natAbs:Int) else (x.natAbs:Int))=x:=by have:=ES x;unfold zv at this;rw[BK]at this;exact this
 have hy:(bif decide (y<0) then -(y.natAbs:Int) else (y.natAbs:Int))=y:=by have:=ES y;unfold zv at this;rw[BK]at this;exact this
 rw[hx,hy]at e1 e2;rw[e1,e2];have l1:=s1.2;have l2:=s2.2;have hq:Sm 274877906943 (dg (x.natAbs/y.natAbs)):=s1.low (by rw[BK];exact Nat.div_le_self _ _);have hr:Sm 274877906943 (dg (x.natAbs%y.natAbs)):=s2.low (by rw[BK];exact Nat.le_of_lt (Nat.mod_lt _ (by omega)));have Ub:=HD (x.natAbs%y.natAbs);have cj:Ev L 103 [.sl false ((dg (x.natAbs/y.natAbs)).map AJ),.sl true [[.int .u32 1]]] (.sl false ((dg (x.natAbs/y.natAbs+1)).map AJ)):=by
  have:=gD N (dg (x.natAbs/y.natAbs)) [1] false true (DF _) (GL (by omega)) (by have:=hq.2;omega) (by simp)
  rw[BK,show val [1]=1 from rfl]at this;exact this
 have sc:Sm 274877906944 (dg (x.natAbs/y.natAbs+1)):=hq.add (b:=[1]) (Z1 (by omega) (by omega)) (by rw[BK];simp [val]);have Ab:=λ q q'=>XW N (dg y.natAbs) (dg (x.natAbs%y.natAbs)) q q' s2.1 hr.1 (by omega) (by have:=hr.2;omega)
 rw[BK,BK]at Ab;have u1:=λ n q=>H5 N n q (dg (x.natAbs/y.natAbs)) (hq.le (by omega))
 have u2:=λ n q=>H5 N n q (dg (x.natAbs/y.natAbs+1)) sc
 have ez : ∀ n V,zv n (dg V)=bif n then -(V:Int) else (V:Int):=λ n V=>by unfold zv;rw[BK]
 have fin : ∀ (z:Int) (V:Nat),AL (.j4 [.agg (eZ z),.agg [.bool false,.sl false ((dg V).map AJ)],.int .i64 0]) (.j4 [.agg (eZ z),.agg (eZ (V:Int)),.int .i64 0]):=λ z V=>by
  have e3:AV.agg (eZ (V:Int)) = .agg [.bool false,.sl false ((dg V).map AJ)]:=(D9 (by omega) (FK (by omega))).symm;rw[e3];refine AU rfl ?_;simp only[A1,CM,and_true,true_and];exact ⟨CO _,CO _⟩
 clear e1 e2 hx hy;generalize x.natAbs/y.natAbs=qq at *;generalize x.natAbs%y.natAbs=rr at *;refine Ev.x N.LA rfl rfl ?_;(repeat' ((first|(apply AH<;>intro hc<;>try (exfalso;omega))|apply AE|refine AD (t1 _) ?_|refine AD (t2 _) ?_|refine AD (vj _ _) ?_)<;>conv=>whnf))
 generalize decide (x<0)=p at *;generalize decide (y<0)=r at *;cases p
 ·rw[if_neg (by simp),if_neg (by simp),<-ez]
  cases r;all_goals
   (conv=>whnf)
   (repeat' (refine AD (u1 _ _) ?_<;>conv=>whnf))
   exact fin _ _
 ·by_cases gy:rr=0
  ·rw[if_neg (by simp [gy]),if_neg (by simp [gy]),<-ez]
   cases r;all_goals
    (conv=>whnf)
    (repeat' ((first|(apply AH<;>intro hc<;>try (exfalso;omega))|apply AW|refine AD (u1 _ _) ?_)<;>conv=>whnf))
    exact fin _ _
  ·rw[if_pos ⟨rfl,gy⟩,if_pos ⟨rfl,gy⟩,<-ez]
   cases r;all_goals
    (conv=>whnf)
    (repeat' ((first|(apply AH<;>intro hc<;>try (exfalso;omega))|apply AW|refine HR rfl ?_|refine AD (cj) ?_|refine AD (Ab _ _) ?_|refine AD (u2 _ _) ?_)<;>conv=>whnf))
    exact fin _ _
end Go.c4

namespace Go.c4
abbrev rQ (q1 q2 n:Bool) (m d:List Nat):List AV:=[.bool n,.sl q1 (m.map AJ),.sl q2 (d.map AJ)]
abbrev eQ (x:Rat):List AV:=rQ false false (decide (x.num<0)) (dg x.num.natAbs) (dg x.den)
def qv (n:Bool) (m d:List Nat):Rat:=mkRat (zv n m) (val d)
theorem EM (x:Rat):qv (decide (x.num<0)) (dg x.num.natAbs) (dg x.den)=x:=by
 unfold qv;rw[ES,BK,Rat.mkRat_self]
theorem iB {d:Nat} (z:Nat) (hd:d≠0):0<Nat.gcd d z:=Nat.gcd_pos_of_pos_left z (by omega)
theorem Y1 {z:Int} {d:Nat} (hd:d≠0):(mkRat z d).num.natAbs=z.natAbs/Nat.gcd d z.natAbs/\(mkRat z d).den=d/Nat.gcd d z.natAbs/\decide ((mkRat z d).num<0)=decide (z<0):=by
 have hg:=iB z.natAbs hd;have h1:=Rat.num_mkRat z d;have h2:=Rat.den_mkRat z d;rw[if_neg hd]at h1 h2;rw[h1,h2];obtain ⟨k,hk⟩:=Nat.gcd_dvd_right d z.natAbs;generalize hG:Nat.gcd d z.natAbs=g at *;have hz:z=(g:Int)*(z.sign*k):=by
  rw[<-Int.mul_assoc,Int.mul_comm (g:Int),Int.mul_assoc,<-Int.natCast_mul,<-hk,Int.sign_mul_natAbs]
 have e1:z/(g:Int)=z.sign*k:=by
  rw[hz,Int.mul_ediv_cancel_left _ (by omega),<-hz]
 refine ⟨?_,rfl,?_⟩
 ·rw[e1,Int.natAbs_mul,hk,Nat.mul_div_cancel_left _ hg]
  by_cases h0:z=0
  ·subst h0
   have:k=0:=by
    have h5:g*k=0:=hk.symm;rcases Nat.mul_eq_zero.1 h5 with h|h
    ·omega
    ·exact h
   subst this;simp
  ·rw[Int.natAbs_sign_of_ne_zero h0,Nat.one_mul];simp
 ·congr 1
  rw[eq_iff_iff];rw[Int.ediv_lt_iff_lt_mul (by omega),Int.zero_mul]
theorem C8 (x:Rat):A1 (.agg (eQ x)):=by
 simp only[A1,CM,and_true,true_and];exact ⟨CO _,CO _⟩
theorem RI (b w:Bool) (m d:List Nat):A1 (.agg [.bool b,.sl false (m.map AJ),.sl false (d.map AJ),.bool w]):=by
 simp only[A1,CM,and_true,true_and];exact ⟨CO _,CO _⟩
theorem cM (b:Bool) (m:List Nat):A1 (.agg [.bool b,.sl false (m.map AJ)]):=by
 simp only[A1,CM,and_true,true_and];exact CO _
theorem TV (b:Bool) (m d:List Nat):A1 (.agg [.bool b,.sl false (m.map AJ),.sl false (d.map AJ)]):=by
 simp only[A1,CM,and_true,true_and];exact ⟨CO _,CO _⟩
theorem R3 (q:Bool) (l:List Nat):Q5 (.sl q (l.map AJ)):=by
 intro e he c hc;obtain ⟨x,_,rfl⟩:=List.mem_map.1 he;simp at hc;subst hc;rfl
theorem V4 {r:AV} {K:AV->Prop} (h:G8 r) (hk:K (qz r)):BI r K:=⟨Or.inl h,by rw[YT h];exact hk⟩
theorem oQ {r:AV} {K:AV->Prop} (h : ¬ G8 r) (hd:OH r) (hk:K (IW r)):BI r K:=⟨Or.inr hd,by rw[YS h];exact hk⟩
theorem F3 {b w q1 q2:Bool} {m d:List Nat} {K:AV->Prop} (hk:K (.agg [.bool b,.sl true (m.map AJ),.sl true (d.map AJ),.bool w])):BI (.agg [.bool b,.sl q1 (m.map AJ),.sl q2 (d.map AJ),.bool w]) K:=by
 refine V4 ?_ hk;intro c hc;simp only[List.mem_cons,List.not_mem_nil,or_false]at hc;rcases hc with rfl|rfl|rfl|rfl
 ·trivial
 ·exact R3 _ _
 ·exact R3 _ _
 ·trivial
theorem bC {b q1 q2:Bool} {m d:List Nat} {K:AV->Prop} (hk:K (.agg [.bool b,.sl true (m.map AJ),.sl true (d.map AJ)])):BI (.agg [.bool b,.sl q1 (m.map AJ),.sl q2 (d.map AJ)]) K:=by
 refine V4 ?_ hk;intro c hc;simp only[List.mem_cons,List.not_mem_nil,or_false]at hc;rcases hc with rfl|rfl|rfl
 ·trivial
 ·exact R3 _ _
 ·exact R3 _ _
theorem OI {b q1:Bool} {m:List Nat} {K:AV->Prop} (hk:K (.agg [.bool b,.sl true (m.map AJ)])):BI (.agg [.bool b,.sl q1 (m.map AJ)]) K:=by
 refine V4 ?_ hk;intro c hc;simp only[List.mem_cons,List.not_mem_nil,or_false]at hc;rcases hc with rfl|rfl
 ·trivial
 ·exact R3 _ _
theorem UW {a b:Int} {d e:Nat} (hd:d≠0) (he:e≠0):mkRat a d+mkRat b e=mkRat (a*e+b*d) (d*e):=Rat.mkRat_add_mkRat a b hd he
theorem jL {a b:Int} {d:Nat} (hd:d≠0):mkRat a d+mkRat b d=mkRat (a+b) d:=by
 rw[UW hd hd,<-Int.add_mul,Rat.mkRat_mul_right hd]
theorem YZ (a b:Int) (d e:Nat):mkRat a d*mkRat b e=mkRat (a*b) (d*e):=Rat.mkRat_mul_mkRat a b d e
theorem jN (a:Int):mkRat a 1=(a:Rat):=by
 have h:=Rat.mkRat_self (a:Rat);rw[Rat.num_intCast,Rat.den_intCast]at h;exact h
theorem Y0 {z:Int} {d:Nat} (hd:d≠0):mkRat z d=0↔z=0:=Rat.mkRat_eq_zero hd
theorem jO {z:Int} {d:Nat} (hd:d≠0):o9 (mkRat z d).num=o9 z:=by
 obtain ⟨_,_,h⟩:=Y1 (z:=z) hd;have h0:(mkRat z d).num=0↔z=0:=by rw[Rat.num_eq_zero,Y0 hd]
 have h1:(mkRat z d).num<0↔z<0:=by simpa using h
 unfold o9;by_cases a:z<0
 ·rw[if_pos a,if_pos (h1.2 a)]
 ·rw[if_neg a,if_neg (λ h=>a (h1.1 h))]
  by_cases b:z=0
  ·rw[if_neg (by omega),if_neg (by have:=h0.2 b;omega)]
  ·rw[if_pos (by omega),if_pos (by have:=mt h0.1 b;have:=mt h1.1 a;omega)]
theorem Jt {a b:Int} {d e:Nat} (hd:d≠0) (he:e≠0) (hb:b≠0):mkRat a d/mkRat b e=mkRat (b.sign*(a*e)) (d*b.natAbs):=by
 have Px:b.natAbs≠0:=by omega
 have h1:mkRat b e≠0:=λ h=>hb ((Y0 he).1 h)
 have key:mkRat (b.sign*(a*e)) (d*b.natAbs)*mkRat b e=mkRat a d:=by
  rw[YZ];have e1:b.sign*(a*e)*b=a*((b.natAbs*e:Nat):Int):=by
   have:=Int.sign_mul_self b
   rw[Int.natCast_mul,<-this];grind
  rw[e1,show d*b.natAbs*e=d*(b.natAbs*e) by rw[Nat.mul_assoc]];exact Rat.mkRat_mul_right (Nat.mul_ne_zero Px he)
 rw[<-key,Rat.mul_div_cancel h1]
theorem Nj {x y:Int} (hy:y≠0):zv (decide (x<0) != decide (y<0)) (dg x.natAbs)=y.sign*x:=by
 unfold zv;rw[BK];rcases Int.lt_or_gt_of_ne hy with h|h
 ·rw[Int.sign_eq_neg_one_of_neg h]
  by_cases hx:x<0
  ·simp [hx,h];omega
  ·simp [hx,h];omega
 ·rw[Int.sign_eq_one_of_pos h]
  by_cases hx:x<0
  ·simp [hx,show ¬ y<0 by omega];omega
  ·simp [hx,show ¬ y<0 by omega];omega
end Go.c4

namespace Go.c4
open F
attribute [local irreducible] AA AF AR AB B7 AQ AY A7 A6 BS AP BO BW C0 BL A0 BH BZ AC A4 AL pw CD B2 CH CX CS CK CI BI B8
variable {L:Lib}
set_option maxHeartbeats 4000000
theorem dO:dg 1=[1]:=by rw[HT (by omega)];simp [EH]
theorem bZ:AV.agg [.bool false,.sl false [],.sl false [[.int .u32 1]]] = .agg (eQ 0):=by
 show _=AV.agg (rQ _ _ _ _ _);rw[Rat.zero_num,Rat.zero_den,dO,show (0:Int).natAbs=0 from rfl,EH];rfl
theorem tK {x y:Int} (hy:y≠0):(Rat.divInt x y).num=(if y<0 then -(x/((Nat.gcd x.natAbs y.natAbs:Nat):Int)) else x/((Nat.gcd x.natAbs y.natAbs:Nat):Int))/\(Rat.divInt x y).den=(y/((Nat.gcd x.natAbs y.natAbs:Nat):Int)).natAbs:=by
 have h1:=Rat.num_divInt x y;have h2:=Rat.den_divInt x y;rw[if_neg hy]at h2;have hg:Int.gcd y x=Nat.gcd x.natAbs y.natAbs:=by rw[Int.gcd,Nat.gcd_comm]
 rw[hg]at h1 h2;have Dj:0<Nat.gcd x.natAbs y.natAbs:=Nat.gcd_pos_of_pos_right _ (by omega);have dx:((Nat.gcd x.natAbs y.natAbs:Nat):Int) ∣ x:=Int.ofNat_dvd_left.2 (Nat.gcd_dvd_left _ _);have dy:((Nat.gcd x.natAbs y.natAbs:Nat):Int) ∣ y:=Int.ofNat_dvd_left.2 (Nat.gcd_dvd_right _ _);generalize Nat.gcd x.natAbs y.natAbs=g at *;rw[h1,h2];obtain ⟨u,rfl⟩:=dx;obtain ⟨v,rfl⟩:=dy;have uo:(g:Int)≠0:=by omega
 refine ⟨?_,?_⟩
 ·rw[Int.mul_ediv_cancel_left _ uo]
  split
  ·rename_i h
   rw[Int.sign_eq_neg_one_of_neg h,show -1*((g:Int)*u)=g*(-u) by rw[Int.mul_neg];omega,Int.mul_ediv_cancel_left _ uo]
  ·rw[Int.sign_eq_one_of_pos (by omega),Int.one_mul,Int.mul_ediv_cancel_left _ uo]
 ·rw[Int.mul_ediv_cancel_left _ uo,Int.natAbs_mul,Int.natAbs_natCast,Nat.mul_div_cancel_left _ Dj]
theorem UI (N:a9 L) (n1 n2 q1 q2:Bool) (a b:List Nat) (ha:Sm 274877906943 a) (hb:Sm 274877906943 b):Ev L 121 [.agg (rZ q1 n1 a),.agg (rZ q2 n2 b)] (.agg (eQ (Rat.divInt (zv n1 a) (zv n2 b)))):=by
 have t1:=λ q=>XZ N n1 q a (ha.le (by omega))
 have t2:=λ q=>XZ N n2 q b (hb.le (by omega))
 by_cases h1:zv n1 a=0
 ·rw[h1,Rat.zero_divInt,<-bZ]
  rw[h1,<-VJ rfl]at t1;refine Ev.x N.HK rfl rfl ?_;(repeat' ((first|(apply AH<;>intro hc<;>try (exfalso;omega))|refine HR rfl ?_|apply AE|refine AD (t1 _) ?_)<;>conv=>whnf))
  exact AU rfl (TV false [] [1])
 have s1:o9 (zv n1 a)≠0:=by unfold o9;split<;>(try split)<;>omega
 by_cases h2:zv n2 b=0
 ·rw[h2,Rat.divInt_zero,<-bZ]
  rw[h2,<-VJ rfl]at t2;generalize o9 (zv n1 a)=sg at *;refine Ev.x N.HK rfl rfl ?_;(repeat' ((first|(apply AH<;>intro hc<;>try (exfalso;omega))|refine HR rfl ?_|apply AE|refine AD (t1 _) ?_|refine AD (t2 _) ?_)<;>conv=>whnf))
  exact AU rfl (TV false [] [1])
 have s2:o9 (zv n2 b)≠0:=by unfold o9;split<;>(try split)<;>omega
 obtain ⟨p1,p2⟩:=tK (x:=zv n1 a) h2;have hG:=λ q q'=>xO N n1 n2 q q' a b (ha.le (by omega)) (hb.le (by omega))
 have hle:Nat.gcd (val a) (val b)<=val b:=Nat.gcd_le_right _ (by have:=EF n2 b;omega);have Dj:0<Nat.gcd (val a) (val b):=Nat.gcd_pos_of_pos_right _ (by have:=EF n2 b;omega);have sg:Sm 274877906943 (dg (Nat.gcd (val a) (val b))):=hb.low hle;rw[EF,EF]at p1 p2;have Tt:decide (((Nat.gcd (val a) (val b):Nat):Int)<0)=false:=by simp
 have Ik:Sm 274877906943 (dg (((Nat.gcd (val a) (val b):Nat):Int)).natAbs):=by rw[Int.natAbs_natCast];exact sg
 have zg:zv (decide (((Nat.gcd (val a) (val b):Nat):Int)<0)) (dg (((Nat.gcd (val a) (val b):Nat):Int)).natAbs)=((Nat.gcd (val a) (val b):Nat):Int):=ES _;have kv:=λ q q'=>gH N n1 _ q q' a _ ha Ik (by rw[zg];omega)
 have lf:=λ q q'=>gH N n2 _ q q' b _ hb Ik (by rw[zg];omega)
 rw[zg]at kv lf;have oa:Sm 274877906943 (dg (zv n1 a/((Nat.gcd (val a) (val b):Nat):Int)).natAbs):=ha.low (by
  have:(zv n1 a/((Nat.gcd (val a) (val b):Nat):Int)).natAbs<=(zv n1 a).natAbs:=Int.natAbs_ediv_le_natAbs _ _
  rw[EF]at this;exact this)
 have uo:0<((Nat.gcd (val a) (val b):Nat):Int):=by omega
 generalize ((Nat.gcd (val a) (val b):Nat):Int)=g at *;generalize zv n1 a=x at *;generalize zv n2 b=y at *;generalize o9 x=sx at *;generalize o9 y=sy at *;have hN:=λ q=>XX N (decide (x/g<0)) q (dg (x/g).natAbs) (oa.le (by omega))
 rw[ES]at hN;have Bo:decide (y/g<0)=decide (y<0):=by
  congr 1;rw[eq_iff_iff,Int.ediv_lt_iff_lt_mul (by omega),Int.zero_mul]
 refine Ev.x N.HK rfl rfl ?_;(repeat' ((first|(apply AH<;>intro hc<;>try (exfalso;omega))|apply AE|refine AD (t1 _) ?_|refine AD (t2 _) ?_|refine AD (hG _ _) ?_|refine AD (kv _ _) ?_|refine AD (lf _ _) ?_)<;>conv=>whnf))
 cases Hm:decide (y/g<0)
 ·rw[Hm]at Bo
  rw[if_neg (of_decide_eq_false Bo.symm)]at p1;(conv=>whnf)
  skip
  refine AU ?_ (C8 _);show _=AV.agg (rQ _ _ _ _ _);rw[p1,p2]
 ·rw[Hm]at Bo
  rw[if_pos (of_decide_eq_true Bo.symm)]at p1;(conv=>whnf)
  (repeat' (refine AD (hN _) ?_<;>conv=>whnf))
  refine AU ?_ (C8 _);show _=AV.agg (rQ _ _ _ _ _);rw[p1,p2]
theorem tL {z:Int} {d:List Nat}:Rat.divInt z (zv false d)=mkRat z (val d):=by rw[EB,Rat.divInt_ofNat]
def pG (n:Bool) (m d:List Nat) (n':Bool) (m' d':List Nat) (k:Nat):Prop:=Sm k m'/\Sm k d'/\val d'≠0/\qv n m d=mkRat (zv n' m') (val d')
theorem cQ (n:Bool) (m d:List Nat):A1 (.j4 [.agg (rZ false n m),.agg (rZ false false d)]):=by
 simp only[A1,CM,and_true,true_and];exact ⟨CO _,CO _⟩
theorem O3 (N:a9 L) (n q:Bool) (m d:List Nat) (k:Nat) (hk:1<=k/\k<=274877906943) (hm:Sm k m) (hd:Sm k d) : ∃ n' m' d',Ev L 122 [.agg (rQ false q n m d)] (.j4 [.agg (rZ false n' m'),.agg (rZ false false d')])/\pG n m d n' m' d' k:=by
 have t1:=λ q=>FD N d q hd.1 (by have:=hd.2;omega)
 have hl:=HD (val d);by_cases h0:val d=0
 ·refine ⟨false,[],[1],?_,lQ _,Z1 hk.1 (by omega),by decide,by unfold qv;rw[h0,Rat.mkRat_zero,nH,Rat.zero_mkRat]⟩
  refine Ev.x N.IB rfl rfl ?_;(repeat' ((first|(apply AH<;>intro hc<;>try (exfalso;omega))|apply AW|refine HR rfl ?_|apply AE|refine AD (t1 _) ?_)<;>conv=>whnf))
  exact AU rfl (cQ false [] [1])
 ·refine ⟨n,m,dg (val d),?_,hm,hd.pn,by rw[BK];exact h0,by rw[BK];rfl⟩
  refine Ev.x N.IB rfl rfl ?_;(repeat' ((first|(apply AH<;>intro hc<;>try (exfalso;omega))|apply AW|apply AE|refine AD (t1 _) ?_)<;>conv=>whnf))
  exact AU rfl (cQ _ _ _)
theorem xT (N:a9 L) (n q:Bool) (m d:List Nat) (hm:Sm 274877906943 m) (hd:Sm 274877906943 d):Ev L 123 [.agg (rQ false q n m d)] (.agg (eQ (qv n m d))):=by
 obtain ⟨n',m',d',hp,s1,s2,s3,s4⟩:=O3 N n q m d 274877906943 (by omega) hm hd;have hr:=λ q q'=>UI N n' false q q' m' d' s1 s2
 rw[tL,<-s4]at hr;refine Ev.x N.LP rfl rfl ?_;(repeat' ((first|apply AE|refine AD (hp) ?_|refine AD (hr _ _) ?_)<;>conv=>whnf))
 exact AU rfl (C8 _)
theorem rB (z:Int):AV.agg [.bool (decide (z<0)),.sl false ((dg z.natAbs).map AJ),.sl false [[.int .u32 1]]] = .agg (eQ (z:Rat)):=by
 show _=AV.agg (rQ _ _ _ _ _);rw[Rat.num_intCast,Rat.den_intCast,dO];rfl
theorem UH (N:a9 L) (z:Int) (hz : -9223372036854775808<=z/\z<=9223372036854775807):Ev L 124 [.int .i64 z] (.agg (eQ (z:Rat))):=by
 have h1:=XY N z hz;refine Ev.x N.LO rfl rfl ?_;(repeat' ((first|refine HR rfl ?_|apply AE|refine AD (h1) ?_)<;>conv=>whnf))
 exact AU (rB z) (C8 _)
theorem lR {z:Int} (hz : -9223372036854775808<=z/\z<=9223372036854775808):Sm 2 (dg z.natAbs):=Sm.dg (by omega)
theorem RV (N:a9 L) (x y:Int) (hx : -9223372036854775808<=x/\x<=9223372036854775807) (hy : -9223372036854775808<=y/\y<=9223372036854775807):Ev L 125 [.int .i64 x,.int .i64 y] (.agg (eQ (Rat.divInt x y))):=by
 have h1:=XY N x hx;have h2:=XY N y hy;have hr:=λ q q'=>UI N (decide (x<0)) (decide (y<0)) q q' _ _ ((lR (z:=x) (by omega)).le (by omega)) ((lR (z:=y) (by omega)).le (by omega))
 rw[ES,ES]at hr;refine Ev.x N.LL rfl rfl ?_;(repeat' ((first|apply AE|refine AD (h1) ?_|refine AD (h2) ?_|refine AD (hr _ _) ?_)<;>conv=>whnf))
 exact AU rfl (C8 _)
theorem PR {k l:Nat} {n1 n2:Bool} {a b:List Nat} (ha:Sm k a) (hb:Sm l b):Sm (k+l) (dg (zv n1 a*zv n2 b).natAbs):=ha.mul hb (by rw[Int.natAbs_mul,EF,EF])
theorem Ky {k:Nat} {x y:Int} (ha:Sm k (dg x.natAbs)) (hb:Sm k (dg y.natAbs)):Sm (k+1) (dg (x+y).natAbs):=ha.add hb (by rw[BK,BK];omega)
theorem xQ (N:a9 L) (k:Nat) (hk:1<=k/\k<=68719476736) (n1 n2 q2 q4:Bool) (m1 d1 m2 d2:List Nat) (dw:Sm k m1) (gp:Sm k d1) (di:Sm k m2) (ln:Sm k d2) :
  Ev L 126 [.agg (rQ false q2 n1 m1 d1),.agg (rQ false q4 n2 m2 d2)] (.agg (eQ (qv n1 m1 d1+qv n2 m2 d2))):=by
 obtain ⟨a1,a2,a3,bg,s1,s2,s3,s5⟩:=O3 N n1 q2 m1 d1 k (by omega) dw gp;obtain ⟨b1,b2,b3,af,t1,t2,t3,t5⟩:=O3 N n2 q4 m2 d2 k (by omega) di ln;have l1:=s1.2;have l2:=s2.2;have l3:=t1.2;have l4:=t2.2;rw[s5,t5,UW s3 t3,<-EB b3,<-EB a3];have ep:=λ q q'=>O4 N a1 false q q' a2 b3 s1.1 t2.1 (by omega)
 have ga:=λ q q'=>O4 N b1 false q q' b2 a3 t1.1 s2.1 (by omega)
 have lg:=λ q q'=>O4 N false false q q' a3 b3 s2.1 t2.1 (by omega)
 have g1:Sm (k+k) (dg (zv a1 a2*zv false b3).natAbs):=PR s1 t2;have g2:Sm (k+k) (dg (zv b1 b2*zv false a3).natAbs):=PR t1 s2;have g3:=Ky g1 g2;have g4:Sm (k+k) (dg (zv false a3*zv false b3).natAbs):=PR s2 t2;have hA:=λ q q'=>gG N (decide (zv a1 a2*zv false b3<0)) (decide (zv b1 b2*zv false a3<0)) q q' _ _ (g1.le (by omega)) (g2.le (by omega))
 rw[ES,ES]at hA;have hR:=λ q q'=>UI N (decide (zv a1 a2*zv false b3+zv b1 b2*zv false a3<0)) (decide (zv false a3*zv false b3<0)) q q' _ _ (g3.le (by omega)) (g4.le (by omega))
 rw[ES,ES,show zv false a3*zv false b3=((val a3*val b3:Nat):Int) by rw[EB,EB];simp,Rat.divInt_ofNat]at hR;rw[show zv false a3*zv false b3=((val a3*val b3:Nat):Int) by rw[EB,EB];simp]at lg;refine Ev.x N.LJ rfl rfl ?_;(repeat' ((first|apply AE|refine AD (bg) ?_|refine AD (af) ?_|refine AD (ep _ _) ?_|refine AD (ga _ _) ?_|refine AD (hA _ _) ?_|refine AD (lg _ _) ?_|refine AD (hR _ _) ?_)<;>conv=>whnf))
 exact AU rfl (C8 _)
theorem xS (N:a9 L) (k:Nat) (hk:1<=k/\k<=68719476736) (n1 n2 q2 q4:Bool) (m1 d1 m2 d2:List Nat) (dw:Sm k m1) (gp:Sm k d1) (di:Sm k m2) (ln:Sm k d2) :
  Ev L 128 [.agg (rQ false q2 n1 m1 d1),.agg (rQ false q4 n2 m2 d2)] (.agg (eQ (qv n1 m1 d1*qv n2 m2 d2))):=by
 obtain ⟨a1,a2,a3,bg,s1,s2,s3,s5⟩:=O3 N n1 q2 m1 d1 k (by omega) dw gp;obtain ⟨b1,b2,b3,af,t1,t2,t3,t5⟩:=O3 N n2 q4 m2 d2 k (by omega) di ln;have l1:=s1.2;have l2:=s2.2;have l3:=t1.2;have l4:=t2.2;rw[s5,t5,YZ];have ep:=λ q q'=>O4 N a1 b1 q q' a2 b2 s1.1 t1.1 (by omega)
 have lg:=λ q q'=>O4 N false false q q' a3 b3 s2.1 t2.1 (by omega)
 have g1:Sm (k+k) (dg (zv a1 a2*zv b1 b2).natAbs):=PR s1 t1;have g4:Sm (k+k) (dg (zv false a3*zv false b3).natAbs):=PR s2 t2;have hR:=λ q q'=>UI N (decide (zv a1 a2*zv b1 b2<0)) (decide (zv false a3*zv false b3<0)) q q' _ _ (g1.le (by omega)) (g4.le (by omega))
 rw[ES,ES,show zv false a3*zv false b3=((val a3*val b3:Nat):Int) by rw[EB,EB];simp,Rat.divInt_ofNat]at hR;rw[show zv false a3*zv false b3=((val a3*val b3:Nat):Int) by rw[EB,EB];simp]at lg;refine Ev.x N.LM rfl rfl ?_;(repeat' ((first|apply AE|refine AD (bg) ?_|refine AD (af) ?_|refine AD (ep _ _) ?_|refine AD (lg _ _) ?_|refine AD (hR _ _) ?_)<;>conv=>whnf))
 exact AU rfl (C8 _)
theorem jM {a b:Int} {d e:Nat} (hd:d≠0) (he:e≠0):o9 (a*e-b*d)=o9 (mkRat a d-mkRat b e).num:=by
 have h:mkRat a d-mkRat b e=mkRat (a*e-b*d) (d*e):=by
  rw[Rat.sub_eq_add_neg,Rat.neg_mkRat,UW hd he,Int.neg_mul,<-Int.sub_eq_add_neg]
 rw[h,jO (Nat.mul_ne_zero hd he)]
theorem xR (N:a9 L) (k:Nat) (hk:1<=k/\k<=68719476736) (n1 n2 q2 q4:Bool) (m1 d1 m2 d2:List Nat) (dw:Sm k m1) (gp:Sm k d1) (di:Sm k m2) (ln:Sm k d2) :
  Ev L 127 [.agg (rQ false q2 n1 m1 d1),.agg (rQ false q4 n2 m2 d2)] (.int .i64 (o9 (qv n1 m1 d1-qv n2 m2 d2).num)):=by
 obtain ⟨a1,a2,a3,bg,s1,s2,s3,s5⟩:=O3 N n1 q2 m1 d1 k (by omega) dw gp;obtain ⟨b1,b2,b3,af,t1,t2,t3,t5⟩:=O3 N n2 q4 m2 d2 k (by omega) di ln;have l1:=s1.2;have l2:=s2.2;have l3:=t1.2;have l4:=t2.2;rw[s5,t5,<-jM s3 t3,<-EB b3,<-EB a3];have ep:=λ q q'=>O4 N a1 false q q' a2 b3 s1.1 t2.1 (by omega)
 have ga:=λ q q'=>O4 N b1 false q q' b2 a3 t1.1 s2.1 (by omega)
 have g1:Sm (k+k) (dg (zv a1 a2*zv false b3).natAbs):=PR s1 t2;have g2:Sm (k+k) (dg (zv b1 b2*zv false a3).natAbs):=PR t1 s2;have hC:=λ q q'=>xN N (decide (zv a1 a2*zv false b3<0)) (decide (zv b1 b2*zv false a3<0)) q q' _ _ (g1.le (by omega)) (g2.le (by omega))
 rw[ES,ES]at hC;refine Ev.x N.LK rfl rfl ?_;(repeat' ((first|apply AE|refine AD (bg) ?_|refine AD (af) ?_|refine AD (ep _ _) ?_|refine AD (ga _ _) ?_|refine AD (hC _ _) ?_)<;>conv=>whnf))
 exact CR rfl
end Go.c4

namespace Go.c4
def Bt (k:Nat) (x:Rat):Prop:=x.num.natAbs<=2^k/\x.den<=2^k
theorem Bt.le {k l:Nat} {x:Rat} (h:Bt k x) (hl:k<=l):Bt l x:=by
 have:=Nat.pow_le_pow_right (show 0<2 by omega) hl
 exact ⟨Nat.le_trans h.1 this,Nat.le_trans h.2 this⟩
theorem Bt.mk {k:Nat} {z:Int} {d:Nat} (hz:z.natAbs<=2^k) (hd:d<=2^k):Bt k (mkRat z d):=by
 by_cases h0:d=0
 ·subst h0
  rw[Rat.mkRat_zero];exact ⟨by simp,by simp;exact Nat.one_le_two_pow⟩
 ·obtain ⟨e1,e2,_⟩:=Y1 (z:=z) h0
  unfold Bt;rw[e1,e2];exact ⟨Nat.le_trans (Nat.div_le_self _ _) hz,Nat.le_trans (Nat.div_le_self _ _) hd⟩
theorem Bt.add {k l:Nat} {x y:Rat} (hx:Bt k x) (hy:Bt l y):Bt (k+l+1) (x+y):=by
 rw[Rat.add_def'];refine Bt.mk ?_ ?_
 ·have h1:(x.num*y.den).natAbs<=2^k*2^l:=by rw[Int.natAbs_mul,Int.natAbs_natCast];exact Nat.mul_le_mul hx.1 hy.2
  have h2:(y.num*x.den).natAbs<=2^l*2^k:=by rw[Int.natAbs_mul,Int.natAbs_natCast];exact Nat.mul_le_mul hy.1 hx.2
  rw[Nat.mul_comm (2^l)]at h2;rw[Nat.pow_succ,Nat.pow_add];have h3:=Int.natAbs_add_le (x.num*y.den) (y.num*x.den);omega
 ·rw[Nat.pow_succ,Nat.pow_add]
  have:=Nat.mul_le_mul hx.2 hy.2
  omega
theorem Bt.mul {k l:Nat} {x y:Rat} (hx:Bt k x) (hy:Bt l y):Bt (k+l) (x*y):=by
 rw[Rat.mul_def'];refine Bt.mk ?_ ?_
 ·rw[Int.natAbs_mul,Nat.pow_add];exact Nat.mul_le_mul hx.1 hy.1
 ·rw[Nat.pow_add];exact Nat.mul_le_mul hx.2 hy.2
theorem Bt.zero (k:Nat):Bt k 0:=⟨by simp,by simp;exact Nat.one_le_two_pow⟩
theorem Bt.one (k:Nat):Bt k 1:=⟨by simp;exact Nat.one_le_two_pow,by simp;exact Nat.one_le_two_pow⟩
theorem Bt.Fp {k n:Nat} {x:Rat} (h:Bt k x) (hn:k<32*n):Sm n (dg x.num.natAbs)/\Sm n (dg x.den):=by
 have e:2^k<4294967296^n:=by
  rw[show 4294967296=2^32 from rfl,<-Nat.pow_mul];exact (Nat.pow_lt_pow_iff_right (by omega)).2 hn
 exact ⟨Sm.dg (Nat.lt_of_le_of_lt h.1 e),Sm.dg (Nat.lt_of_le_of_lt h.2 e)⟩
def Bs (k:Nat) (l:List Rat):Prop := ∀ x∈l,Bt k x
theorem Bs.at {k:Nat} {l:List Rat} (h:Bs k l) {i:Nat} {x:Rat} (hx:l[i]? = some x):Bt k x:=h x (zM hx)
theorem Bs.le {k j:Nat} {l:List Rat} (h:Bs k l) (hj:k<=j):Bs j l:=λ x hx=>(h x hx).le hj
theorem Bs.take {k:Nat} {l:List Rat} (h:Bs k l) (n:Nat):Bs k (l.take n):=λ x hx=>h x (List.mem_of_mem_take hx)
def BP:List Rat->List Rat->Rat
 | x::xs,y::ys=>x*y+BP xs ys
 | _,_=>0
theorem eB (l:List Rat):BP l []=0:=by cases l<;>rfl
theorem eC : ∀ {a b:List Rat} {x y:Rat},a.length=b.length->BP (a++[x]) (b++[y])=BP a b+x*y
 | [],[],x,y,_=>by show x*y+0=0+x*y;rw[Rat.add_zero,Rat.zero_add]
 | p::a,q::b,x,y,h=>by
  show p*q+BP (a++[x]) (b++[y])=p*q+BP a b+x*y;rw[eC (by simpa using h),Rat.add_assoc]
theorem UD {a b:List Rat} {i:Nat} {x y:Rat} (hx:a[i]? = some x) (hy:b[i]? = some y):BP (a.take (i+1)) (b.take (i+1))=BP (a.take i) (b.take i)+x*y:=by
 have h1:=(zS hx).1;have h2:=(zS hy).1;rw[List.take_add_one,List.take_add_one,hx,hy,Option.toList_some,Option.toList_some,eC (by rw[List.length_take,List.length_take];omega)]
theorem W8 {a b:List Rat} {n:Nat} (h:a.length=n):BP (a.take n) (b.take n)=BP a b:=by
 subst h;rw[List.take_of_length_le (Nat.le_refl _)];induction a generalizing b with
 | nil=>cases b<;>rfl
 | cons x a ih=>cases b with
  | nil=>rfl
  | cons y b=>simp only[List.length_cons,List.take_succ_cons,BP,ih]
theorem Bs.dot {k l:Nat} : ∀ {a b:List Rat},Bs k a->Bs l b->Bt (a.length*(k+l+1)) (BP a b)
 | [],b,_,_=>by cases b<;>exact Bt.zero _
 | x::a,[],_,_=>Bt.zero _
 | x::a,y::b,ha,hb=>by
  have h1:=(ha x (by simp)).mul (hb y (by simp));have h2:=Bs.dot (a:=a) (b:=b) (λ z hz=>ha z (by simp [hz])) (λ z hz=>hb z (by simp [hz]));refine (h1.add h2).le ?_;rw[List.length_cons,Nat.succ_mul];omega
structure GH where
 a:List (List Rat)
 b:List Rat
 c:List Rat
 d:Rat
structure GH.Ok (S:GH) (n k:Nat):Prop where
 la:S.a.length=n
 lr : ∀ r∈S.a,r.length=n
 lb:S.b.length=n
 lc:S.c.length=n
 ba : ∀ r∈S.a,Bs k r
 bb:Bs k S.b
 bc:Bs k S.c
 bd:Bt k S.d
def G6 (n:Nat) (j:Int):List Rat:=(List.range n).map λ i:Nat=>if (i:Int)=j then 1 else 0
theorem aL (n:Nat) (j:Int):(G6 n j).length=n:=by simp [G6]
end Go.c4

namespace Go.c4
open F
attribute [local irreducible] AA AF AR AB B7 AQ AY A7 A6 BS AP BO BW C0 BL A0 BH BZ AC A4 AL pw CD B2 CH CX CS CK CI BI B8
variable {L:Lib}
set_option maxHeartbeats 4000000
theorem Bt.jb {k:Nat} {x:Rat} (h:Bt k x) (hk:k<2199023255552):Sm 68719476736 (dg x.num.natAbs)/\Sm 68719476736 (dg x.den):=h.Fp (by omega)
theorem XL (N:a9 L) {x y:Rat} {k l:Nat} (hx:Bt k x) (hy:Bt l y) (hk:k<2199023255552) (hl:l<2199023255552):Ev L 126 [.agg (eQ x),.agg (eQ y)] (.agg (eQ (x+y))):=by
 have:=xQ N 68719476736 (by omega) (decide (x.num<0)) (decide (y.num<0)) false false _ _ _ _ (hx.jb hk).1 (hx.jb hk).2 (hy.jb hl).1 (hy.jb hl).2
 rw[EM,EM]at this;exact this
theorem XN (N:a9 L) {x y:Rat} {k l:Nat} (hx:Bt k x) (hy:Bt l y) (hk:k<2199023255552) (hl:l<2199023255552):Ev L 128 [.agg (eQ x),.agg (eQ y)] (.agg (eQ (x*y))):=by
 have:=xS N 68719476736 (by omega) (decide (x.num<0)) (decide (y.num<0)) false false _ _ _ _ (hx.jb hk).1 (hx.jb hk).2 (hy.jb hl).1 (hy.jb hl).2
 rw[EM,EM]at this;exact this
theorem gM (N:a9 L) {x:Rat} {k:Nat} (hx:Bt k x) (hk:k<2199023255552):Ev L 123 [.agg (eQ x)] (.agg (eQ x)):=by
 have:=xT N (decide (x.num<0)) false _ _ ((hx.jb hk).1.le (by omega)) ((hx.jb hk).2.le (by omega))
 rw[EM]at this;exact this
theorem fE (N:a9 L) {x y:Rat} {k l:Nat} (hx:Bt k x) (hy:Bt l y) (hk:k<2199023255552) (hl:l<2199023255552):Ev L 127 [.agg (eQ x),.agg (eQ y)] (.int .i64 (o9 (x-y).num)):=by
 have:=xR N 68719476736 (by omega) (decide (x.num<0)) (decide (y.num<0)) false false _ _ _ _ (hx.jb hk).1 (hx.jb hk).2 (hy.jb hl).1 (hy.jb hl).2
 rw[EM,EM]at this;exact this
theorem lK {x y:Rat}:o9 (x-y).num=0↔x=y:=by
 have h:o9 (x-y).num=0↔(x-y).num=0:=by unfold o9;split<;>(try split)<;>omega
 rw[h,Rat.num_eq_zero];constructor
 ·intro h;grind
 ·rintro rfl;exact Rat.sub_self
end Go.c4

namespace Go.c4
abbrev eO:Option Rat->List AV
 | none=>[.bool false,.nil,.nil]
 | some x=>eQ x
def F8 (l:List Rat) (m:Nat):List (Option Rat):=l.map some++List.replicate (m-l.length) none
theorem UP (m:Nat):F8 [] m=List.replicate m none:=by simp [F8]
theorem UO {l:List Rat} {m:Nat} (h:l.length<=m):(F8 l m).length=m:=by simp [F8];omega
theorem UQ {l:List Rat} {m:Nat} {x:Rat} (h:l.length<m):(F8 l m).set l.length (some x)=F8 (l++[x]) m:=by
 unfold F8;have e:m-l.length=(m-(l++[x]).length)+1:=by simp;omega
 rw[e,List.replicate_succ,List.set_append_right _ _ (by simp)];simp
theorem UN {l:List Rat} {m:Nat} (h:l.length=m):(F8 l m).map eO=l.map eQ:=by
 unfold F8;rw[h,Nat.sub_self];simp [Function.comp_def]
abbrev eS (S:GH):List AV:=[.sl false (S.a.map λ r=>[AV.sl false (r.map eQ)]),.sl false (S.b.map eQ),.sl false (S.c.map eQ)]++eQ S.d
theorem MZ (l:List Rat):FO (l.map eQ):=RK (λ x=>by simp only[CM,A1,and_true,true_and];exact ⟨CO _,CO _⟩) l
theorem OU (S:GH):A1 (.agg (eS S)):=by
 have h:FO (S.a.map λ r=>[AV.sl false (r.map eQ)]):=RK (λ r=>by simp only[CM,A1,and_true,true_and];exact MZ r) S.a;simp only[A1,List.cons_append,List.nil_append,CM,and_true,true_and];exact ⟨h,MZ _,MZ _,CO _,CO _⟩
end Go.c4

namespace Go.c4
open F
attribute [local irreducible] AA AF AR AB B7 AQ AY A7 A6 BS AP BO BW C0 BL A0 BH BZ AC A4 AL pw CD B2 CH CX CS CK CI BI B8
variable {L:Lib}
set_option maxHeartbeats 4000000
def N4 (v:Int):Rat:=Rat.divInt (v%25-12) (1+v/25%8)
def E6 (l:List Int) (n:Nat):List Rat:=(List.range n).map λ i:Nat=>N4 (EA (EC l (i:Int)) 2000)
theorem PI (l:List Int) (n:Nat):(E6 l n).length=n:=by simp [E6]
theorem kQ (l:List Int) (n:Nat):E6 l (n+1)=E6 l n++[N4 (EA (EC l (n:Int)) 2000)]:=by simp [E6,List.range_succ]
theorem Mw {v:Int} (h:0<=v):Bt 4 (N4 v):=by
 unfold N4;obtain ⟨d,hd⟩:=Int.eq_ofNat_of_zero_le (show 0<=1+v/25%8 by omega);rw[hd,Rat.divInt_ofNat];refine Bt.mk ?_ ?_
 ·show _<=16;omega
 ·show _<=16;omega
theorem kP (l:List Int) (n:Nat):Bs 4 (E6 l n):=by
 intro x hx;simp only[E6,List.mem_map]at hx;obtain ⟨i,_,rfl⟩:=hx;refine Mw ?_;unfold EA;split<;>omega
theorem wF (N:q7 L) (l:List Int) (q:Bool) (n:Nat) (hl : ∀ x∈l,F4 x) (hn:n<=1000000):Ev L 141 [.sl q (l.map NX),.int .i64 (n:Int)] (.sl false ((E6 l n).map eQ)):=by
 have iu : ∀ i:Nat,F4 (EC l (i:Int)):=λ i=>by
  unfold EC;split
  ·rw[List.getD_eq_getElem?_getD]
   cases e:l[((i:Int)).toNat]? with
   | none=>simp [F4]
   | some x=>exact hl x (zM e)
  ·simp [F4]
 refine Ev.x N.IK rfl rfl ?_;(repeat' (apply AE<;>conv=>whnf))
 refine CW (λ i=>n-i) (λ(i:Nat)=>i<=n) (λ i=>[(6,.int .i64 i),(5,.row 5 0 3 0 i)]) (λ i=>[(5,5,.rw 3 ((E6 l i).map eQ))]) [] [] 0 (by (conv=>whnf);exact ⟨rfl,rfl,rfl⟩) (by omega) ?_;intro i p1 ih;by_cases hi:i<n
 ·have hA:=X2 N.too4 l q (i:Int)
  have Cg:=λ q=>X2 N.too4 l q (i:Int)
  have hW:=X3 N.too4 (EC l (i:Int)) 2000 (iu i) (by omega);have Sb:0<=EA (EC l (i:Int)) 2000/\EA (EC l (i:Int)) 2000<2000:=by unfold EA;split<;>omega
  have ic:=kQ l i;have hlen:=PI l i;have hF:=RV N.toa9 (EA (EC l (i:Int)) 2000%25-12) (1+EA (EC l (i:Int)) 2000/25%8) (by omega) (by omega);have Ck:Ev L 125 [.int .i64 (EA (EC l (i:Int)) 2000%25-12),.int .i64 (1+EA (EC l (i:Int)) 2000/25%8)] (.agg (eQ (N4 (EA (EC l (i:Int)) 2000)))):=hF;clear hF;generalize N4 (EA (EC l (i:Int)) 2000)=y at *;generalize EA (EC l (i:Int)) 2000=v at *;(repeat' ((first|(apply AH<;>intro hc<;>try (exfalso;omega))|(apply AZ;omega)|(apply BX;omega)|(refine OL ?_ (λ_ _ _ => ?_) (λ_ _ _ _ => ?_);omega;all_goals try (exfalso;omega))|(refine NN ?_ ?_ (λ_ => ?_) (λ_ _ => ?_);omega;omega;all_goals try (exfalso;omega))|apply EG|apply AE|refine AD (Cg _) ?_|refine AD (hW) ?_|refine AD (Ck) ?_)<;>conv=>whnf))
  refine FA (enc:=eQ) y rfl hlen.symm rfl (by omega) (by omega) ?_;(conv=>whnf)
  (repeat' ((first|(apply AZ;omega)|fail)<;>conv=>whnf))
  rw[show (E6 l i++[y]).length=i+1 by simp [hlen],<-ic];exact BQ [(5,27)] (ih (i+1) (by omega) (by omega))
 ·obtain rfl:i=n:=by omega
  clear ih;have hlen:=PI l i;(repeat' ((first|(apply AH<;>intro hc<;>try (exfalso;omega))|apply AE)<;>conv=>whnf))
  refine DX (enc:=eQ) (λ_=>rfl) rfl hlen.symm ?_;(conv=>whnf)
  exact AU rfl (by simp only[A1,true_and];exact MZ _)
def N7 (X:List Rat) (n j:Nat):List Rat:=(X.take (j*n+n)).drop (j*n)
def ID (X:List Rat) (n i:Nat):List (List Rat):=(List.range i).map (N7 X n)
theorem Lm (X:List Rat) (n i:Nat):ID X n (i+1)=ID X n i++[N7 X n i]:=by simp [ID,List.range_succ]
def IG (l:List Int) (n:Nat):GH :=
 let X:=E6 l (n*n+2*n+1)
 ⟨ID X n n,(X.take (n*n+n)).drop (n*n),(X.take (n*n+2*n)).drop (n*n+n),X.getD (n*n+2*n) 0⟩
theorem wI (N:q7 L) (l:List Int) (q:Bool) (n:Nat) (hl : ∀ x∈l,F4 x) (hn:n<=64):Ev L 142 [.sl q (l.map NX),.int .i64 (n:Int)] (.agg (eS (IG l n))):=by
 have Bf:n*n<=4096:=Nat.mul_le_mul hn hn;have hR:=λ q=>wF N l q (n*n+2*n+1) hl (by omega)
 have mg:=PI l (n*n+2*n+1);have ud:((n*n+2*n+1:Nat):Int)=(n:Int)*n+2*n+1:=by simp
 rw[ud]at hR;have e1:((n:Int)*n).toNat=n*n:=by rw[<-Int.natCast_mul];rfl
 have e2:((n:Int)*n+n).toNat=n*n+n:=by rw[<-Int.natCast_mul];omega
 have e3:((n:Int)*n+2*n).toNat=n*n+2*n:=by rw[<-Int.natCast_mul];omega
 unfold IG;simp only[];generalize E6 l (n*n+2*n+1)=X at *;obtain ⟨d,mi⟩ : ∃ d,X[n*n+2*n]? = some d:=⟨_,zE (by omega)⟩;have gp:X[((n:Int)*n+2*n).toNat]? = some d:=by rw[e3];exact mi
 have Qc:X.getD (n*n+2*n) 0=d:=by rw[List.getD_eq_getElem?_getD,mi];rfl
 rw[Qc];refine Ev.x N.L3 rfl rfl ?_;(repeat' ((first|(apply AZ;omega)|(apply DW;omega)|(refine BJ (by assumption) ?_ rfl ?_;omega)|(refine RA (λ_=>rfl) (I4 ?_ ?_);omega)|apply AE|refine AD (hR _) ?_)<;>conv=>whnf))
 rw[e1,e2,e3];generalize (X.take (n*n+n)).drop (n*n)=B at *;generalize (X.take (n*n+2*n)).drop (n*n+n)=C at *;refine FZ (λ i _=>n-i) (λ(i:Nat) (fl:Bool)=>i<=n/\fl=decide (i=0)) (λ i _=>[(7,.int .i64 i)]) (λ i fl=>bif fl then [] else [(6,6,.bx ([.row 1000 0 1 0 i,.sl false (B.map eQ),.sl false (C.map eQ)]++eQ d)),(1000,68,.rw 1 ((ID X n i).map λ r=>[AV.sl false (r.map eQ)]))]) [] [] 0 true (by (conv=>whnf);exact ⟨rfl,rfl,rfl⟩) ⟨by omega,by simp⟩ ?_;intro i fl ⟨p1,p2⟩ ih;have ea:(ID X n i).length=i:=by simp [ID]
 by_cases hi:i<n
 ·have h1:i*n+n<=n*n:=by
   have:=Nat.mul_le_mul_right n (show i+1<=n by omega)
   rw[Nat.succ_mul]at this;exact this
  have f1:((i:Int)*n).toNat=i*n:=by rw[<-Int.natCast_mul];rfl
  have f2:((i:Int)*n+n).toNat=i*n+n:=by rw[<-Int.natCast_mul];omega
  have f3:0<=(i:Int)*n:=by rw[<-Int.natCast_mul];omega
  have f4:(i:Int)*n+n<=X.length:=by rw[<-Int.natCast_mul];omega
  have f5:N7 X n i=(X.take (i*n+n)).drop (i*n):=rfl;have ic:=Lm X n i;cases fl
  ·have fp:i≠0:=by simpa using p2.symm
   (repeat' ((first|(apply AH<;>intro hc<;>try (exfalso;omega))|(apply AZ;omega)|(apply DW;omega)|(refine RA (λ_=>rfl) (I4 ?_ ?_);omega)|apply EG|apply AE)<;>conv=>whnf))
   rw[f1,f2,<-f5];refine FA (l:=ID X n i) (z:=1) (bytes:=24) (enc:=λ r:List Rat=>[AV.sl false (r.map eQ)]) (N7 X n i) rfl ea.symm rfl (by omega) (by omega) ?_;(conv=>whnf)
   (repeat' ((first|(apply AZ;omega)|fail)<;>conv=>whnf))
   rw[<-ic,show (ID X n (i+1)).length=i+1 by simp [ID]];exact BQ [(1000,68)] (ih (i+1) false (by omega) ⟨by omega,by simp⟩)
  ·have fp:i=0:=by simpa using p2.symm
   subst fp;(repeat' ((first|(apply AH<;>intro hc<;>try (exfalso;omega))|(apply AZ;omega)|(apply DW;omega)|(refine RA (λ_=>rfl) (I4 ?_ ?_);omega)|apply EG|apply AE)<;>conv=>whnf))
   rw[f1,f2,<-f5];refine P0 (enc:=λ r=>[AV.sl false (r.map eQ)]) (N7 X n 0) rfl rfl (by omega) ?_;(conv=>whnf)
   (repeat' ((first|(apply AZ;omega)|fail)<;>conv=>whnf))
   exact BQ [(1000,68)] (ih 1 false (by omega) ⟨by omega,by simp⟩)
 ·obtain rfl:i=n:=by omega
  clear ih;cases fl
  ·(repeat' ((first|(apply AH<;>intro hc<;>try (exfalso;omega))|apply AE)<;>conv=>whnf))
   refine DX (enc:=λ r=>[AV.sl false (r.map eQ)]) (λ_=>rfl) rfl ea.symm ?_;(conv=>whnf)
   skip
   exact AU rfl (OU _)
  ·have fp:i=0:=by simpa using p2.symm
   subst fp;(repeat' ((first|(apply AH<;>intro hc<;>try (exfalso;omega))|apply AE)<;>conv=>whnf))
   exact AU rfl (OU ⟨[],B,C,d⟩)
end Go.c4

namespace Go.c4
def CY (m:List (List Rat)) (j:Nat):List Rat:=m.map λ r=>r.getD j 0
def ER (r:List Rat) (m:List (List Rat)) (n:Nat):List Rat:=(List.range n).map λ j=>BP r (CY m j)
def FI (a m:List (List Rat)) (n:Nat):List (List Rat):=a.map λ r=>ER r m n
def FS (m:List (List Rat)) (b:List Rat):List Rat:=m.map λ r=>BP r b
theorem sD (m:List (List Rat)) (j:Nat):(CY m j).length=m.length:=by simp [CY]
theorem Iq (r:List Rat) (m:List (List Rat)) (n:Nat):(ER r m n).length=n:=by simp [ER]
theorem Io (a m:List (List Rat)) (n:Nat):(FI a m n).length=a.length:=by simp [FI]
theorem jS (m:List (List Rat)) (b:List Rat):(FS m b).length=m.length:=by simp [FS]
structure Sq (n:Nat) (m:List (List Rat)):Prop where
 l:m.length=n
 r : ∀ r∈m,r.length=n
theorem Sq.at {n:Nat} {m:List (List Rat)} (h:Sq n m) {i:Nat} {r:List Rat} (hr:m[i]? = some r):r.length=n:=h.r r (zM hr)
theorem Sq.mul {n:Nat} {a:List (List Rat)} (h:a.length=n) (m:List (List Rat)):Sq n (FI a m n):=by
 refine ⟨by rw[Io,h],λ r hr => ?_⟩;obtain ⟨x,_,rfl⟩:=List.mem_map.1 hr;exact Iq _ _ _
def Ms (k:Nat) (m:List (List Rat)):Prop := ∀ r∈m,Bs k r
theorem Ms.at {k:Nat} {m:List (List Rat)} (h:Ms k m) {i:Nat} {r:List Rat} (hr:m[i]? = some r):Bs k r:=h r (zM hr)
theorem Ms.le {k j:Nat} {m:List (List Rat)} (h:Ms k m) (hj:k<=j):Ms j m:=λ r hr=>(h r hr).le hj
theorem Ms.An {k:Nat} {m:List (List Rat)} (h:Ms k m) (j:Nat):Bs k (CY m j):=by
 intro x hx;obtain ⟨r,hr,rfl⟩:=List.mem_map.1 hx;rw[List.getD_eq_getElem?_getD];cases e:r[j]? with
 | none=>exact Bt.zero k
 | some x=>exact (h r hr).at e
theorem Ms.mul {n k s:Nat} {a m:List (List Rat)} (ha:Ms k a) (hs:Sq n a) (hm:Ms s m):Ms (n*(k+s+1)) (FI a m n):=by
 intro r hr x hx;obtain ⟨r,h1,rfl⟩:=List.mem_map.1 hr;obtain ⟨j,_,rfl⟩:=List.mem_map.1 hx;have:=(ha r h1).dot (hm.An j)
 rw[hs.r r h1]at this;exact this
theorem W9 : ∀ a b:List Rat,BP a b=BP b a
 | [],[]=>rfl
 | [],_::_=>rfl
 | _::_,[]=>rfl
 | x::a,y::b=>by simp only[BP,W9 a b,Rat.mul_comm]
def wQ (S:GH):Nat->List Rat
 | 0=>S.b
 | j+1=>FS S.a (wQ S j)
def conv (A h:Nat->Rat) (K:Nat):Nat->Rat
 | 0=>0
 | a+1=>conv A h K a+A a*h (K-a)
def I3 (f:Nat->Rat):Nat->Rat
 | 0=>0
 | n+1=>I3 f n+f n
theorem XA (x:Rat) : ∀ a b:List Rat,BP (a.map (· * x)) b=BP a b*x
 | [],b=>by simp [BP]
 | a::l,[]=>by rw[eB,eB,Rat.zero_mul]
 | a::l,b::k=>by
  simp only[List.map_cons,BP,XA x l k];grind
theorem Bt.ofInt {k:Nat} {z:Int} (h:z.natAbs<=2^k):Bt k ((z:Int):Rat):=⟨by rw[Rat.num_intCast];exact h,by rw[Rat.den_intCast];exact Nat.one_le_two_pow⟩
end Go.c4

namespace Go.c4
theorem Bt.Fc {k:Nat} {y:Rat} (h:Bt k y):Bt k y⁻¹:=by
 rw[Rat.inv_def];rcases Int.natAbs_eq y.num with e|e
 ·rw[e,Rat.divInt_ofNat]
  exact Bt.mk (by simpa using h.2) h.1
 ·rw[e,Rat.divInt_neg',Rat.divInt_ofNat]
  exact Bt.mk (by simpa using h.2) h.1
theorem Bt.xm {k l:Nat} {x y:Rat} (hx:Bt k x) (hy:Bt l y):Bt (k+l) (x/y):=by
 rw[Rat.div_def];exact hx.mul hy.Fc
theorem Bt.Al {k:Nat} {x:Rat} (h:Bt k x):Bt k (-x):=⟨by rw[Rat.neg_num,Int.natAbs_neg];exact h.1,by rw[Rat.neg_den];exact h.2⟩
def ST (s x:Rat):Rat:=s*(((s*x).den:Nat):Rat)
def HO (r:List Rat):Rat:=r.foldl ST 1
theorem Mb (r:List Rat) (x:Rat):HO (r++[x])=ST (HO r) x:=by rw[HO,List.foldl_append];rfl
theorem Ir {a b c:Rat} (h:c≠0) (e:a*c=b*c):a=b:=by
 have h1:=Rat.mul_inv_cancel c h;have:a*c*c⁻¹=b*c*c⁻¹:=by rw[e]
 rwa [Rat.mul_assoc,Rat.mul_assoc,h1,Rat.mul_one,Rat.mul_one]at this
section
variable {m0 m:List (List Rat)} {K W Ou c:Nat} {P:List Nat} {odd:Bool} {l:Rat}
end
end Go.c4

namespace Go.c4
structure Pt where
 x:Rat
 y:Rat
 w:Rat
def Nu (g:List Pt) (f:Pt->Rat):Rat:=g.foldl (λ s p=>s+f p) 0
def rhs (g:List Pt) (k:Nat):Rat:=Nu g λ p=>p.w*p.x^k*p.y
def Wh (k:Nat) (x:Rat):Prop := ∃ z:Int,x=(z:Rat)/\z.natAbs<=2^k
theorem Wh.le {k l:Nat} {x:Rat} (h:Wh k x) (hl:k<=l):Wh l x:=by
 obtain ⟨z,e,b⟩:=h;exact ⟨z,e,Nat.le_trans b (Nat.pow_le_pow_right (by omega) hl)⟩
theorem Wh.mul {k l:Nat} {x y:Rat} (hx:Wh k x) (hy:Wh l y):Wh (k+l) (x*y):=by
 obtain ⟨z,rfl,b⟩:=hx;obtain ⟨u,rfl,c⟩:=hy;exact ⟨z*u,by rw[Rat.intCast_mul],by rw[Int.natAbs_mul,Nat.pow_add];exact Nat.mul_le_mul b c⟩
theorem Wh.add {k:Nat} {x y:Rat} (hx:Wh k x) (hy:Wh k y):Wh (k+1) (x+y):=by
 obtain ⟨z,rfl,b⟩:=hx;obtain ⟨u,rfl,c⟩:=hy;refine ⟨z+u,by rw[Rat.intCast_add],?_⟩;rw[Nat.pow_succ];have:=Int.natAbs_add_le z u
 omega
theorem Wh.zero (k:Nat):Wh k 0:=⟨0,rfl,Nat.zero_le _⟩
theorem Wh.bt {k:Nat} {x:Rat} (h:Wh k x):Bt k x:=by
 obtain ⟨z,rfl,b⟩:=h;exact Bt.ofInt b
theorem Wh.dot {k l:Nat} : ∀ {a b:List Rat},(∀ x∈a,Wh k x)->(∀ x∈b,Wh l x)->Wh (k+l+a.length) (BP a b)
 | [],b,_,_=>by cases b<;>exact Wh.zero _
 | x::a,[],_,_=>Wh.zero _
 | x::a,y::b,ha,hb=>by
  rw[BP,List.length_cons,<-Nat.add_assoc];exact (((ha x List.mem_cons_self).mul (hb y List.mem_cons_self)).le (by omega)).add (Wh.dot (λ z hz=>ha z (List.mem_cons_of_mem _ hz)) λ z hz=>hb z (List.mem_cons_of_mem _ hz))
theorem PC (y:Rat):y*(y.den:Rat)=(y.num:Rat):=by
 have h:=Rat.num_divInt_den y;rw[Rat.divInt_eq_div]at h;have h0:((y.den:Int):Rat)≠0:=λ e=>by
  have:((y.den:Int):Rat)=((0:Int):Rat):=e
  have:=Rat.intCast_inj.1 this
  have:=y.den_pos
  omega
 have h2:=Rat.div_mul_cancel h0 (a:=(y.num:Rat));rw[h,Rat.intCast_natCast]at h2;exact h2
theorem WZ {y:Rat} {T:Nat} {z:Int} (h:(T:Rat)*y=(z:Rat)):y.den ∣ T:=by
 have h1:y*(y.den:Rat)=(y.num:Rat):=PC y;have h2:(((T:Int)*y.num:Int):Rat)=((z*(y.den:Int):Int):Rat):=by
  rw[Rat.intCast_mul,Rat.intCast_mul,<-h1,<-h,Rat.intCast_natCast,Rat.intCast_natCast,Rat.mul_assoc]
 have h3:=Rat.intCast_inj.1 h2;have h4:(y.den:Int) ∣ (T:Int)*y.num:=⟨z,by rw[h3,Int.mul_comm]⟩;have h5:y.den ∣ T*y.num.natAbs:=by
  have:=Int.natAbs_dvd_natAbs.2 h4
  simpa [Int.natAbs_mul] using this
 exact Nat.Coprime.dvd_of_dvd_mul_right (Nat.Coprime.symm y.reduced) h5
end Go.c4

namespace Go.c4
open F
attribute [local irreducible] AA AF AR AB B7 AQ AY A7 A6 BS AP BO BW C0 BL A0 BH BZ AC A4 AL pw CD B2 CH CX CS CK CI BI B8
variable {L:Lib}
set_option maxHeartbeats 8000000
theorem wX (N:dd L) {x:Rat} {k:Nat} (hx:Bt k x) (hk:k<2199023255552):Ev L 152 [.agg (eQ x)] (.agg (eQ (-x))):=by
 have hT:=gM N.toa9 hx hk;have hN:=λ q=>XX N.toa9 (decide (x.num<0)) q (dg x.num.natAbs) ((hx.jb hk).1.le (by omega))
 rw[ES]at hN;refine Ev.x N.LN rfl rfl ?_;(repeat' ((first|apply AE|refine AD (hT) ?_|refine AD (hN _) ?_)<;>conv=>whnf))
 refine AU ?_ (C8 _);show _=AV.agg (rQ _ _ _ _ _);rw[Rat.neg_num,Rat.neg_den]
def GY (l:List Rat):Nat->Nat
 | 0=>0
 | n+1=>if l.getD n 0=0 then GY l n else n+1
theorem RM (l:List Rat) : ∀ n,GY l n<=n
 | 0=>Nat.le_refl _
 | n+1=>by rw[GY];split;exact Nat.le_succ_of_le (RM l n);exact Nat.le_refl _
def MO (l:List Rat):List Rat:=l.take (GY l l.length)
theorem mT (l:List Rat):(MO l).length=GY l l.length:=by rw[MO,List.length_take];exact Nat.min_eq_left (RM _ _)
end Go.c4

namespace Go.c4
open F
theorem vY {L:Lib} {f:Nat} {fn:AFn} {vs:List AV} {own l8:AG} {r:AV} (hL:L f=some fn) (zt:HB fn.body=true) (h:FP L f vs own r l8):l8=own:=by
 obtain ⟨n,h⟩:=h;cases n with
 | zero=>simp [DB]at h
 | succ n =>
  rw[RS]at h;simp only[hL]at h;split at h
  ·split at h
   ·rename_i st k6
    split at h
    ·simp only[Option.some.injEq,Prod.mk.injEq]at h
     rw[<-h.2];exact HM n (by simp [M9,zt]) k6
    ·cases h
   ·cases h
  ·cases h
attribute [local irreducible] AA AF AR AB B7 AQ AY A7 A6 BS AP BO BW C0 BL A0 BH BZ AC A4 AL pw CD B2 CH CX CS CK CI BI B8
set_option maxHeartbeats 1000000
variable {L:Lib}
theorem sT (N:c5 L) (l:List Nat) (s:Nat) (hD:AX l) (hl:l.length<=1099511627776):A4 L 65 [.row 5 0 1 0 l.length] [(0,.row 5 0 1 0 l.length)] [(5,s,.rw 1 (l.map AJ))] (λ r _=>r = .row 5 0 1 0 (dg (val l)).length):=by
 have hlen : ∀ n,n<=l.length->l.take n=dg (val l)->n=(dg (val l)).length:=λ n h1 h2=>by
  rw[<-h2,List.length_take];omega
 refine G7 1000 N.E0 rfl rfl ?_;(repeat' (apply AE<;>conv=>whnf))
 refine CW (λ n=>n) (λ(n:Nat)=>n<=l.length /\ ∀ i,n<=i->i<l.length->l[i]? = some 0) (λ n=>[(3,.int .i64 n)]) (λ_=>[]) [] [] l.length (by (conv=>whnf);exact ⟨rfl,rfl,rfl⟩) ⟨Nat.le_refl _,λ i h1 h2=>by omega⟩ ?_;intro n ⟨p1,p2⟩ ih;rcases n with _|n
 ·(repeat' ((first|(apply AH<;>intro hc<;>try (exfalso;omega))|apply AE)<;>conv=>whnf))
  refine GF 0 (by omega) (by omega) ?_;(conv=>whnf)
  refine ⟨rfl,_,rfl,?_⟩;rw[<-hlen 0 p1 (FG hD p1 p2 (Or.inl rfl))];rfl
 ·have e1:((n+1:Nat):Int)-1=n:=by omega
  (repeat' ((first|(apply AH<;>intro hc<;>try (exfalso;omega))|(apply A9;omega)|(apply BX;omega)|(refine OK (by assumption) ?_ (λ v hv hb => ?_);omega)|apply AE)<;>conv=>whnf))
  ·rw[e1]
   exact BQ [] (ih n (by omega) ⟨by omega,λ i h1 h2=>by
    by_cases h:i=n
    ·subst h
     rw[e1,Int.toNat_natCast]at hv;rw[hv];congr 1;omega
    ·exact p2 i (by omega) h2⟩)
  ·refine GF (n+1) (by omega) (by omega) ?_
   (conv=>whnf)
   refine ⟨rfl,_,rfl,?_⟩;rw[e1,Int.toNat_natCast]at hv;rw[<-hlen (n+1) p1 (FG hD p1 p2 (Or.inr ⟨_,hv,by omega⟩))];rfl
theorem sS (N:c5 L) (l:List Nat) (s t:Nat) (own:AG) (hD:AX l) (hl:l.length<=1099511627776) (hb:(own s).c9 t=some ⟨1,l.map AJ⟩) (ht:t<(own s).g7) (iv:D8 s=true):FP L 65 [.row s t 1 0 l.length] own (.row s t 1 0 (dg (val l)).length) own:=by
 have hs:IP (λ_ _=>(s,t)) own [(5,s,.rw 1 (l.map AJ))]:=by
  have key : ∀ k u c,c6 [(5,s,A3.rw 1 (l.map AJ))] k u=some c->k=5/\u=0/\c = .rw 1 (l.map AJ):=λ k u c e=>by
   simp only[c6,c7]at e;cases hk:Nat.beq k 5<;>simp only[hk,cond_true,cond_false]at e
   ·cases e
   ·cases u with
    | zero=>simp only[Option.some.injEq]at e;exact ⟨Nat.eq_of_beq_eq_true hk,rfl,e.symm⟩
    | succ u=>cases e
  refine ⟨λ k s' c e => ?_,λ k u c e => ?_,λ k u c e=>ht,λ k u k' u' c c' e e' _ => ?_,λ_ _ _ _ _=>iv⟩
  ·simp only[c7]at e
   cases hk:Nat.beq k 5<;>simp only[hk,cond_true,cond_false]at e
   ·cases e
   ·simp only[Option.some.injEq,Prod.mk.injEq]at e;exact e.1
  ·obtain ⟨_,_,rfl⟩:=key k u c e
   exact hb
  ·obtain ⟨rfl,rfl,_⟩:=key k u c e
   obtain ⟨rfl,rfl,_⟩:=key k' u' c' e';exact ⟨rfl,rfl⟩
 have hw:=sT N l s hD hl;unfold A4 at hw;obtain ⟨r,l8,σ',M',h1,h2,h3,rfl⟩:=hw _ own hs;have ho:=vY N.E0 (by decide +kernel) h1;subst ho;have h4:AV.row (σ' 5 0).1 (σ' 5 0).2 1 0 l.length=AV.row s t 1 0 l.length:=h3 0;simp only[AV.row.injEq]at h4;have h5:FP L 65 [.row s t 1 0 l.length] l8 (.row (σ' 5 0).1 (σ' 5 0).2 1 0 (dg (val l)).length) l8:=h1;rw[h4.1,h4.2.1]at h5;exact h5
theorem S4 (N:c5 L) {l:List Nat} {tm:Tm} {M:Mem} {K:AV->Mem->Prop} {key s len:Nat} (hD:AX l) (hl:l.length<=1099511627776) (hm:c7 M key=some (s,.rw 1 (l.map AJ))) (hlen:len=l.length) (hk:K (.row key 0 1 0 (dg (val l)).length) M):A4 L 65 [.row key 0 1 0 len] tm M K:=by
 subst hlen;unfold A4;intro σ own hs;have br:=hs.site _ _ _ hm;have zr:c6 M key 0=some (.rw 1 (l.map AJ)):=by simp only[c6,hm]
 have hb:=hs.c9 _ _ _ zr;have ht:=hs.old _ _ _ zr;refine ⟨.row key 0 1 0 (dg (val l)).length,own,σ,M,?_,hs,λ_=>rfl,hk⟩;exact sS N l (σ key 0).1 (σ key 0).2 own hD hl hb ht (hs.low _ _ _ (DS hm) rfl)
end Go.c4

namespace Go.c4
open F
attribute [local irreducible] AA AF AR AB B7 AQ AY A7 A6 BS AP BO BW C0 BL A0 BH BZ AC A4 AL pw CD B2 CH CX CS CK CI BI B8
set_option maxHeartbeats 4000000
variable {L:Lib}
abbrev XD (v:List Nat) (j m s xl:Nat):Tm:=[(102,AV.sl false (List.map AJ v)),(101,AV.row 71012 0 1 j (v.length+1)),
           (100,AV.int IntKind.i64 (↑j + ↑v.length+1)),(99,AV.int IntKind.i64 (↑j + ↑v.length)),
           (98,AV.int IntKind.i64 ↑v.length),(97,AV.int IntKind.i64 ↑j),(96,AV.int IntKind.i64 ↑j),
           (95,AV.row 71012 0 1 0 (xl+1)),(94,AV.int IntKind.i64 ↑j),(93,AV.row 28 0 1 0 m),
           (90,AV.bool true),(14,AV.int IntKind.i64 ↑j),(13,AV.sl false (List.map AJ v)),
           (12,AV.row 71012 0 1 0 (xl+1)),(11,AV.int IntKind.u64 ↑s),(7,AV.row 28 0 1 0 m),
           (6,AV.int IntKind.i64 ↑v.length)]
abbrev vL:List It:=[It.lp E5.l2,It.c9 2,It.code
      (((BA.ops E5.gk false).dr [9,10,84,85,86,87,118,119,120,121,122,123,124,125,126]
         []).seq
       (((BA.ops E5.ku false).dr [127,128,129,130,131] []).seq
        ((((BA.ops E5.my false).dr [15,132,133] []).seq
           (BA.cond 134
            (((BA.ops E5.po false).dr [0,1,5,7,134,135,136] []).seq BA.ret)
            BA.skip)).seq
         (((BA.ops E5.pq false).dr [134] []).seq
          ((((BA.ops E5.pt false).dr [1] []).seq (BA.block 4 E5.l3.loop)).seq
           (((BA.ops E5.Br false).dr
              [0,5,9,137,138,139,140,162,163,164,165,166,167,168,169] []).seq
            (((BA.ops E5.Bu false).dr [7,170,171,172] []).seq BA.ret)))))))]
section
variable {A W C w v:List Nat} {j m s xl q:Nat} {K:AV->Mem->Prop}
theorem W4 (hA:A.length=j) (hW:W.length=v.length+1) (D2:AX W) (bp:AX v) (ck:2<=v.length) (om:v.length<=549755813888) (v3:0<val v)
  (r1:q<4294967296) (r2:val W/val v<=q) (r3:q<=val W/val v+1)
  (hk : ∀ (W':List Nat) (o':List (List AV)) (q':Nat),W'.length=v.length+1->AX W'->val W'=val W%val v->q'=val W/val v->K (.int .u32 (q':Int)) [(71012,71012,.rw 1 ((A++W'++C).map AJ)),(28,28,.rw 1 (w.map AJ)),(71012,71012,.rw 1 o')])
  (gx : ∀ (W':List Nat) (o':List (List AV)) (q':Nat),W'.length=v.length+1->AX W'->val W'=val W%val v->q'=val W/val v->K (.int .u32 (q':Int)) [(71012,71012,.rw 1 ((A++W'++C).map AJ)),(71012,71012,.rw 1 o'),(28,28,.rw 1 (w.map AJ))]) :
  AA L vL ([(86,.int .i64 0),(85,.int .i64 v.length),(84,.sl false (v.map AJ)),(10,.int .u64 0),(9,.int .u64 0),(7,.int .u64 (q:Int)),(5,.int .i64 v.length),(0,AV.row 71012 0 1 j (v.length+1)),(1,AV.sl false (List.map AJ v))]++FL 1000 (XD v j m s xl))
   [(71012,71012,A3.rw 1 (List.map AJ (A++W++C))),(28,28,A3.rw 1 (List.map AJ w))] (bN 1000 E5 (XD v j m s xl) K):=by
 refine aO (λ i _ _ _=>v.length-i) (λ(i:Nat) (Z:List Nat) (c b:Nat)=>i<=v.length/\Z.length=v.length+1/\AX Z/\c<4294967296/\b<=1/\Z.drop i=W.drop i/\val (Z.take i)+q*val (v.take i)=val (W.take i)+4294967296^i*(c+b)) (λ i Z c b=>[(86,.int .i64 i),(10,.int .u64 (b:Int)),(9,.int .u64 (c:Int))]) (λ i Z c b=>[(71012,71012,.rw 1 ((A++Z++C).map AJ))]) [] [] 0 W 0 0 (by (conv=>whnf);exact ⟨rfl,rfl,rfl⟩) ⟨by omega,hW,D2,by omega,by omega,rfl,by simp [val]⟩ ?_;intro i Z c b ⟨p1,p2,p3,p4,p5,p6,p7⟩ ih;by_cases hi:i<v.length
 ·obtain ⟨d,hd⟩ : ∃ d,v[i]? = some d:=⟨_,zE hi⟩
  obtain ⟨u,hu⟩ : ∃ u,Z[i]? = some u:=⟨_,zE (by omega)⟩;have w3:=bp.at hd;have lz:=p3.at hu;obtain ⟨pr,mo⟩ : ∃ pr,pr=q*d+c:=⟨_,rfl⟩;obtain ⟨m1,m2,m3⟩:=jR r1 w3 p4 mo;have qg:W[i]? = some u:=by
   have e1:(Z.drop i)[0]? = (W.drop i)[0]? := by rw[p6]
   simpa [hu] using e1.symm
  (repeat' ((first|(apply AH<;>intro hc<;>try (exfalso;omega))|(apply A9;omega)|(apply FB;omega)|(apply MS;omega)|apply ET|(apply B5;omega)|(refine BJ (by assumption) ?_ rfl ?_;omega)|apply AE)<;>conv=>whnf))
  rw[<-mo];refine NM i hu (by omega) ?_;(conv=>whnf)
  (repeat' ((first|(apply A9;omega)|(apply TD;omega)|(apply B5;omega)|apply E2)<;>conv=>whnf))
  obtain ⟨s1,s2⟩:=VU lz (show pr%4294967296<4294967296 by omega) p5;have k6:=Jx p7 mo rfl lz p5;generalize D7 (D7 u (pr%4294967296)) b=t at *;refine L8 i (by omega) (by omega) ?_;(conv=>whnf)
  (repeat' ((first|(apply AZ;omega)|apply TC)<;>conv=>whnf))
  refine B0 [] (by (conv=>whnf);exact ⟨rfl,rfl,rfl⟩) (ih (i+1) _ _ _ (by omega) ⟨by omega,by simpa using p2,p3.set _ (by omega),m1,s2,?_,?_⟩)
  ·rw[List.drop_set_of_lt (by omega)]
   have e1:(Z.drop i).drop 1=(W.drop i).drop 1:=by rw[p6]
   simpa using e1
  ·rw[E9 (by omega),DJ hd,DJ qg,Nat.pow_succ]
   exact k6
 ·obtain rfl:i=v.length:=by omega
  clear ih;obtain ⟨u,hu⟩ : ∃ u,Z[v.length]? = some u:=⟨_,zE (by omega)⟩;have lz:=p3.at hu;have qg:W[v.length]? = some u:=by
   have e1:(Z.drop v.length)[0]? = (W.drop v.length)[0]? := by rw[p6]
   simpa [hu] using e1.symm
  rw[CU (Nat.le_refl v.length)]at p7;obtain ⟨s1,s2⟩:=VU lz p4 p5;have k6:=Jv p7 rfl lz p4 p5;have eW:val W=val (W.take v.length)+4294967296^v.length*u:=by
   rw[<-DJ qg,CU (by omega)]
  rw[<-eW,<-E9 (show v.length<Z.length by omega),CU (by simp;omega)]at k6;(repeat' ((first|(apply AH<;>intro hc<;>try (exfalso;omega))|(apply A9;omega)|apply AE)<;>conv=>whnf))
  refine NM v.length hu (by omega) ?_;(conv=>whnf)
  (repeat' ((first|(apply A9;omega)|(apply TD;omega)|(apply B5;omega)|apply E2)<;>conv=>whnf))
  generalize D7 (D7 u c) b=t at *;refine L8 v.length (by omega) (by omega) ?_;(conv=>whnf)
  (repeat' ((first|(apply AH<;>intro hc<;>try (exfalso;omega))|apply TC|(apply DU;omega)|apply AW)<;>conv=>whnf))
  ·have Ru:t/9223372036854775808=0:=by omega
   rw[Ru,Nat.mul_zero,Nat.add_zero]at k6;obtain ⟨y1,y2⟩:=dR v3 r2 k6;exact ⟨rfl,_,rfl,hk _ _ _ (by simpa using p2) (p3.set _ (by omega)) y2 y1⟩
  ·have Hc:t/9223372036854775808=1:=by omega
   rw[Hc,Nat.mul_one]at k6;have ya:AX (Z.set v.length (t%4294967296)):=p3.set _ (by omega);have mg:(Z.set v.length (t%4294967296)).length=v.length+1:=by simpa using p2
   clear p7 p6 p4 p5 s1 s2 eW Hc hu qg lz p1 p2 p3;generalize Z.set v.length (t%4294967296)=X at *;have vm:=EJ ya;rw[mg,Nat.pow_succ]at vm;obtain ⟨y1,y2,y3⟩:=dQ v3 r3 vm k6;have Ph:val W%val v<val v:=Nat.mod_lt _ v3;have tt:=EJ bp;obtain ⟨xw,vb⟩ : ∃ xw,X[v.length]? = some xw:=⟨_,zE (by omega)⟩;have eX:val X=val (X.take v.length)+4294967296^v.length*xw:=by
    rw[<-DJ vb,CU (by omega)]
   refine FN (λ i _ _=>v.length-i) (λ(i:Nat) (Z:List Nat) (c:Nat)=>i<=v.length/\Z.length=v.length+1/\AX Z/\c<=1/\Z.drop i=X.drop i/\val (Z.take i)+4294967296^i*c=val (X.take i)+val (v.take i)) (λ i Z c=>[(139,.int .i64 i),(9,.int .u64 (c:Int))]) (λ i Z c=>[(71012,71012,.rw 1 ((A++Z++C).map AJ))]) [] [] 0 X 0 (by (conv=>whnf);exact ⟨rfl,rfl,rfl⟩) ⟨by omega,mg,ya,by omega,rfl,by simp [val]⟩ ?_;intro i Z c ⟨p1,p2,p3,p4,p6,p7⟩ ih;by_cases hi:i<v.length
   ·obtain ⟨d,hd⟩ : ∃ d,v[i]? = some d:=⟨_,zE hi⟩
    obtain ⟨u,hu⟩ : ∃ u,Z[i]? = some u:=⟨_,zE (by omega)⟩;have w3:=bp.at hd;have lz:=p3.at hu;have gb:X[i]? = some u:=by
     have e1:(Z.drop i)[0]? = (X.drop i)[0]? := by rw[p6]
     simpa [hu] using e1.symm
    have vo:=bW (d:=d) (w:=u) p7 rfl;(repeat' ((first|(apply AH<;>intro hc<;>try (exfalso;omega))|(apply A9;omega)|(refine BJ (by assumption) ?_ rfl ?_;omega)|apply AE)<;>conv=>whnf))
    refine NM i hu (by omega) ?_;(conv=>whnf)
    (repeat' ((first|(apply A9;omega)|(apply FB;omega)|(apply B5;omega)|apply E2)<;>conv=>whnf))
    generalize Rv:u+d+c=t2 at *;refine L8 i (by omega) (by omega) ?_;(conv=>whnf)
    (repeat' ((first|(apply AZ;omega)|apply ET)<;>conv=>whnf))
    refine B0 [] (by (conv=>whnf);exact ⟨rfl,rfl,rfl⟩) (ih (i+1) _ _ (by omega) ⟨by omega,by simpa using p2,p3.set _ (by omega),by omega,?_,?_⟩)
    ·rw[List.drop_set_of_lt (by omega)]
     have e1:(Z.drop i).drop 1=(X.drop i).drop 1:=by rw[p6]
     simpa using e1
    ·rw[E9 (by omega),DJ hd,DJ gb,Nat.pow_succ]
     exact vo
   ·obtain rfl:i=v.length:=by omega
    clear ih;obtain ⟨u,hu⟩ : ∃ u,Z[v.length]? = some u:=⟨_,zE (by omega)⟩;have lz:=p3.at hu;have gb:X[v.length]? = some u:=by
     have e1:(Z.drop v.length)[0]? = (X.drop v.length)[0]? := by rw[p6]
     simpa [hu] using e1.symm
    rw[gb]at vb;obtain rfl:u=xw:=by simpa using vb
    rw[CU (Nat.le_refl v.length)]at p7;have yd:=EJ (p3.take v.length);rw[List.length_take,Nat.min_eq_left (by omega)]at yd;rw[eX]at y3;have nq:=bV p7 y3 (by omega) yd;rw[<-E9 (show v.length<Z.length by omega),CU (by simp;omega)]at nq;(repeat' ((first|(apply AH<;>intro hc<;>try (exfalso;omega))|(apply A9;omega)|apply AE)<;>conv=>whnf))
    refine NM v.length hu (by omega) ?_;(conv=>whnf)
    (repeat' ((first|(apply A9;omega)|apply bI|(apply DU;omega))<;>conv=>whnf))
    refine L8 v.length (by omega) (by omega) ?_;(conv=>whnf)
    (repeat' ((first|(apply HQ;omega;omega)|(apply DU;omega))<;>conv=>whnf))
    exact ⟨rfl,_,rfl,gx _ _ _ (by simpa using p2) (p3.set _ (by omega)) nq y1⟩
theorem tJ (N:c5 L) (hA:A.length=j) (hW:W.length=v.length+1) (D2:AX W) (bp:AX v) (ck:2<=v.length) (om:v.length<=549755813888) (v3:0<val v)
  (n2:4294967296^(v.length-1)*2147483648<=val v) (g2:val W<4294967296*val v)
  (hk : ∀ (W':List Nat) (o':List (List AV)) (q':Nat),W'.length=v.length+1->AX W'->val W'=val W%val v->q'=val W/val v->K (.int .u32 (q':Int)) [(71012,71012,.rw 1 ((A++W'++C).map AJ)),(28,28,.rw 1 (w.map AJ)),(71012,71012,.rw 1 o')])
  (gx : ∀ (W':List Nat) (o':List (List AV)) (q':Nat),W'.length=v.length+1->AX W'->val W'=val W%val v->q'=val W/val v->K (.int .u32 (q':Int)) [(71012,71012,.rw 1 ((A++W'++C).map AJ)),(71012,71012,.rw 1 o'),(28,28,.rw 1 (w.map AJ))]) :
  A4 L 73 [AV.row 71012 0 1 j (v.length+1),AV.sl false (List.map AJ v)] (XD v j m s xl) [(71012,71012,A3.rw 1 (List.map AJ (A++W++C))),(28,28,A3.rw 1 (List.map AJ w))] K:=by
 obtain ⟨UL,a1,a2⟩:=V0 D2 (n:=v.length+1) (by omega) (by omega);obtain ⟨VL,b5,b6⟩:=mX bp (n:=v.length) ck (by omega);obtain ⟨u0,w0⟩ : ∃ d,W[v.length]? = some d:=⟨_,zE (by omega)⟩;obtain ⟨u1,w1⟩ : ∃ d,W[v.length-1]? = some d:=⟨_,zE (by omega)⟩;obtain ⟨u2,w2⟩ : ∃ d,W[v.length-2]? = some d:=⟨_,zE (by omega)⟩;obtain ⟨f1,x1⟩ : ∃ d,v[v.length-1]? = some d:=⟨_,zE (by omega)⟩;obtain ⟨f2,x2⟩ : ∃ d,v[v.length-2]? = some d:=⟨_,zE (by omega)⟩;rw[show v.length+1-3=v.length-2 by omega,show v.length+1-2=v.length-1 by omega,show v.length+1-1=v.length by omega,FR w0,FR w1,FR w2]at a2;rw[show v.length+1-3=v.length-2 by omega]at a1;rw[FR x1,FR x2]at b6;have nr:=mS bp (k:=v.length-1) (by omega) n2 x1;have k0:=D2.at w0;have k1:=D2.at w1;have k2:=D2.at w2;have k3:=bp.at x1;have k4:=bp.at x2;have z1:v[((v.length:Int)-1).toNat]? = some f1:=by rw[show ((v.length:Int)-1).toNat=v.length-1 by omega];exact x1
 have z2:v[((v.length:Int)-2).toNat]? = some f2:=by rw[show ((v.length:Int)-2).toNat=v.length-2 by omega];exact x2
 refine G7 1000 N.E5 rfl rfl ?_;(repeat' ((first|(apply A9;omega)|apply AW|apply AE)<;>conv=>whnf))
 refine NM v.length w0 (by omega) ?_;(conv=>whnf)
 (repeat' ((first|(apply A9;omega)|(apply BX;omega)|(apply L7;omega)|(apply B5;omega))<;>conv=>whnf))
 refine NM (v.length-1) w1 (by omega) ?_;(conv=>whnf)
 refine aX (by omega) ?_;(conv=>whnf)
 refine MT (by omega) ?_;(conv=>whnf)
 generalize Ep:u0*4294967296+u1=top at *;have En:top<=18446744073709551615:=by omega
 have hU:val W=UL+4294967296^(v.length-2)*(u2+4294967296*top):=by rw[a2,show u1+4294967296*u0=top by omega]
 (repeat' ((first|(apply BX;omega)|(apply Q7;omega)|(apply TB;omega;omega)|(apply B5;omega)|(refine BJ (by assumption) ?_ rfl ?_;omega))<;>conv=>whnf))
 refine FZ (λ q _=>q) (λ(q r:Nat)=>Gs (val W) (val v) f1 f2 u2 top q r) (λ q r=>[(7,.int .u64 (q:Int)),(8,.int .u64 (r:Int))]) (λ_ _=>[]) [] [] (top/f1) (top%f1) (by (conv=>whnf);exact ⟨rfl,rfl,rfl⟩) (Gs.start hU b6 a1 k2 v3 (by omega) k3) ?_;intro q r g iz;have Rp:q<=top:=by
  have h3:=g.hq;have h4:q*1<=q*f1:=Nat.mul_le_mul_left q (by omega);omega
 have hr:=g.hr;have gu:=g.ge;by_cases hb:4294967296<=q
 ·obtain ⟨y1,y2,y3⟩:=g.next hU b6 a1 v3 g2 (Or.inl hb)
  (repeat' ((first|(apply AH<;>intro hc<;>try (exfalso;omega))|(apply BX;omega)|(apply FB;omega)|(apply HQ;omega;omega)|(apply B5;omega)|apply AW|(refine BJ (by assumption) ?_ rfl ?_;omega)|apply AE)<;>conv=>whnf))
  ·obtain ⟨t1,t2⟩:=QJ hU b6 b5 nr k4 g2 y2 (Or.inr (by omega))
   exact B0 [] (by (conv=>whnf);exact ⟨rfl,rfl,rfl⟩) (W4 (w:=w) (C:=C) hA hW D2 bp ck om v3 t1 y3 t2 hk gx)
  ·exact B0 [] (by (conv=>whnf);exact ⟨rfl,rfl,rfl⟩) (iz (q-1) (r+f1) (by omega) ⟨y2,by omega,y3⟩)
 ·have Rf:=QP (show q<4294967296 by omega) k4
  by_cases o6:r*4294967296+u2<q*f2
  ·obtain ⟨y1,y2,y3⟩:=g.next hU b6 a1 v3 g2 (Or.inr o6)
   (repeat' ((first|(apply AH<;>intro hc<;>try (exfalso;omega))|(apply A9;omega)|(apply BX;omega)|(apply MS;omega)|(apply L7;omega)|(apply B5;omega)|(refine BJ (by assumption) ?_ rfl ?_;omega)|apply AE)<;>conv=>whnf))
   refine NM (v.length-2) w2 (by omega) ?_;(conv=>whnf)
   (repeat' ((first|(apply AH<;>intro hc<;>try (exfalso;omega))|(apply BX;omega)|(apply FB;omega)|(apply MT;omega)|(apply HQ;omega;omega)|(apply B5;omega)|apply AW|(refine BJ (by assumption) ?_ rfl ?_;omega))<;>conv=>whnf))
   ·obtain ⟨t1,t2⟩:=QJ hU b6 b5 nr k4 g2 y2 (Or.inr (by omega))
    exact B0 [] (by (conv=>whnf);exact ⟨rfl,rfl,rfl⟩) (W4 (w:=w) (C:=C) hA hW D2 bp ck om v3 t1 y3 t2 hk gx)
   ·exact B0 [] (by (conv=>whnf);exact ⟨rfl,rfl,rfl⟩) (iz (q-1) (r+f1) (by omega) ⟨y2,by omega,y3⟩)
  ·obtain ⟨t1,t2⟩:=QJ hU b6 b5 nr k4 g2 g.hq (Or.inl ⟨by omega,by omega⟩)
   (repeat' ((first|(apply AH<;>intro hc<;>try (exfalso;omega))|(apply A9;omega)|(apply BX;omega)|(apply MS;omega)|(apply L7;omega)|(apply B5;omega)|(refine BJ (by assumption) ?_ rfl ?_;omega)|apply AE)<;>conv=>whnf))
   refine NM (v.length-2) w2 (by omega) ?_;(conv=>whnf)
   (repeat' ((first|(apply AH<;>intro hc<;>try (exfalso;omega))|(apply MT;omega)|(apply B5;omega)|apply AW)<;>conv=>whnf))
   exact B0 [] (by (conv=>whnf);exact ⟨rfl,rfl,rfl⟩) (W4 (w:=w) (C:=C) hA hW D2 bp ck om v3 t1 gu t2 hk gx)
end
end Go.c4
