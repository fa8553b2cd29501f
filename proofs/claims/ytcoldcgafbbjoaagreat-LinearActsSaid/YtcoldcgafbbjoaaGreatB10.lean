/-
  The references of natural numbers (ref01): division.
-/
import Derived.Test.YtcoldcgafbbjoaaGreatB9
import Derived.Test.YtcoldcgafbbjoaaGreatB8
import Derived.Test.YtcoldcgafbbjoaaGreatB1
set_option linter.unusedSimpArgs false
set_option linter.unusedVariables false
set_option linter.unnecessarySimpa false
namespace Go.g6
open F
attribute [local irreducible] AA AF AM AD CZ AX A9 BG B8 B6 CT D8 B9 BF B1 CR AB A6 AJ pw BN BH CQ CK C6 C7 CW BV D4
set_option maxHeartbeats 4000000
variable {L:Lib}
theorem Ag4 {V R y d t Q:Nat} (h:Q*y+R=V) (ht:t=R*4294967296+d):(t/y+4294967296*Q)*y+t%y=d+4294967296*V:=by
 have:=Nat.div_add_mod t y
 rw[<-h,Nat.add_mul];have e:t/y*y=y*(t/y):=Nat.mul_comm _ _;grind
theorem Adn (N:b8 L) (x:List Nat) (Y:Nat) (q:Bool) (d1:A1 x) (hx:x.length<=549755813888) (h0:Y≠0) (hY:Y<4294967296):Ev L 108 [.sl q (x.map AL),.int .u32 (Y:Int)] (.g9 [.sl false ((dg (val x/Y)).map AL),.int .u32 ((val x%Y:Nat):Int)]):=by
 refine Ev.x N.MW rfl rfl ?_;(repeat' ((first|apply AW|apply AC)<;>conv=>whnf))
 refine ER (enc:=AL) 0 x.length rfl (by omega) (by omega) ?_;(conv=>whnf)
 (repeat' ((first|(apply CE;omega)|apply AW)<;>conv=>whnf))
 refine F4 (λ n _ _=>n) (λ(n:Nat) (o:List Nat) (r:Nat)=>n<=x.length/\o.length=x.length/\A1 o/\r<Y/\val (o.drop n)*Y+r=val (x.drop n)) (λ n o r=>[(7,.int .u64 (r:Int)),(8,.int .i64 ((n:Int)-1))]) (λ n o r=>[(11,11,.rw 1 (o.map AL))]) x.length (List.replicate x.length 0) 0 ⟨by omega,by simp,I5 _,by omega,by rw[List.drop_of_length_le (Nat.le_refl _),List.drop_of_length_le (by simp)];simp [val]⟩ ?_;intro n o r ⟨p1,p2,p3,p4,p5⟩ ih;rcases n with _|n
 ·rw[List.drop_zero,List.drop_zero]at p5
  have hq:val x/Y=val o/\val x%Y=r:=by
   rw[<-p5];have e1:(val o*Y+r)/Y=val o:=by
    rw[Nat.mul_comm,Nat.mul_add_div (by omega),Nat.div_eq_of_lt p4,Nat.add_zero]
   have e2:(val o*Y+r)%Y=r:=by
    rw[Nat.mul_comm,Nat.mul_add_mod,Nat.mod_eq_of_lt p4]
   exact ⟨e1,e2⟩
  have hT:=λ q=>GG N o q p3 (by omega)
  rw[hq.1,hq.2,<-p2];clear ih hq p5;(repeat' ((first|(apply AG<;>intro hc<;>try omega)|(apply EH;omega)|(refine GC (λ_=>rfl) rfl ?_ ?_;(first|rfl|simp))|apply AC|refine AE (hT _) ?_)<;>conv=>whnf))
  refine AY rfl ?_;simp only[A7,CJ,and_true,true_and];exact CS _
 ·have e1:((n+1:Nat):Int)-1=n:=by omega
  rw[e1];obtain ⟨d,hd⟩ : ∃ d,x[n]? = some d:=⟨_,zE (by omega)⟩;have dw:=d1.at hd;have hR:r*4294967296+d<Y*4294967296:=by omega
  have eg:(r*4294967296+d)/Y<4294967296:=(Nat.div_lt_iff_lt_mul (by omega)).2 (by omega);(repeat' ((first|(apply AG<;>intro hc<;>try omega)|(apply AU;omega)|(apply NY;omega)|(apply OL;omega)|(apply W5;omega;omega)|(apply CF;omega)|(apply EH;omega)|(refine BD (by assumption) ?_ rfl ?_;omega)|apply AC)<;>conv=>whnf))
  obtain ⟨t,ht⟩ : ∃ t,t=r*4294967296+d:=⟨_,rfl⟩;rw[<-ht]at hR eg ⊢;have hm:t%Y<Y:=Nat.mod_lt _ (by omega);have m4:=Ag4 p5 ht;rw[<-G8 hd]at m4;clear ht;skip
  refine FC (by omega) ?_;(conv=>whnf)
  (repeat' ((first|(apply CE;omega)|(apply UE;omega)|(apply CF;omega))<;>conv=>whnf))
  generalize t/Y=tq at *;generalize t%Y=tr at *;refine BL [] (by (conv=>whnf);exact ⟨rfl,rfl,rfl⟩) (ih n _ _ (by omega) ⟨by omega,by simpa using p2,p3.set _ (by omega),hm,?_⟩);rw[G8 (l:=o.set n tq) (d:=tq) (by rw[List.getElem?_set_self (by omega)]),List.drop_set_of_lt (by omega)];exact m4
theorem XV (a b:List Nat) (e:Int):A7 (.g9 [.sl false (a.map AL),.sl false (b.map AL),.int .i64 e]):=by
 simp only[A7,CJ,and_true,true_and];exact ⟨CS a,CS b⟩
abbrev Us:List It:=[It.lp DY.l1,It.g8 0,
   It.code
    (((BK.ops DY.cf false).dr [0,75,79,80] []).seq
     (((BK.ops DY.cg false).dr [81,82,83,84,85] []).seq
      ((((BK.ops DY.dv false).dr [86,87,88,89,90] []).seq
         (BK.block 2 DY.l2.loop)).seq
       (((BK.ops DY.Od true).dr [9,10,11,12,13,14,92,277,278,279,280,281,282,283,284]
          []).seq
        BK.ret))))]
abbrev X7:List It:=[It.lp DY.l2,It.g8 2,It.code
       (((BK.ops DY.Od true).dr [9,10,11,12,13,14,92,277,278,279,280,281,282,283,284]
          []).seq
        BK.ret)]
abbrev X8 (v:List Nat) (s ul m:Nat) (j:Int):Tm:=[(14,.int .i64 j),(13,.row 85 0 1 0 m),(12,.int .i64 v.length),(11,.sl false (v.map AL)),(10,.row 69 0 1 0 ul),(9,.int .i64 (s:Int))]
abbrev Ur:BK:=(((BK.ops DY.Qq false).dr [18,19,20,166,205,206,207] []).seq
                (((BK.ops DY.Qr false).dr [208,209,210,211,212,213,214] []).seq
                 ((BK.ops DY.Qs false).seq
                  ((((BK.ops DY.Qt false).dr [215,216] []).seq
                     (BK.cond 217
                      (((BK.ops DY.Qu false).dr [18,217,218,219] []).seq
                       (BK.ops DY.Qv false))
                      BK.skip)).seq
                   (((BK.ops DY.Qw false).dr
                      [23,24,217,220,221,222,223,224,225,226,227,228] []).seq
                    ((((BK.ops DY.Qx false).dr [18,229] []).seq
                       (BK.cond 230
                        (((BK.ops DY.Qy false).dr [230,231,232] []).seq
                         ((BK.ops DY.Qz false).seq
                          (((BK.ops DY.Ra false).seq
                             (BK.block 8 DY.l5.loop)).seq
                           ((BK.ops DY.Rb false).dr
                            [25,26,235,262,263,264,265,266,267,268,269,270,271]
                            []))))
                        BK.skip)).seq
                     ((BK.ops DY.Rc false).dr [16,230,272,273,274,275,276]
                      [])))))))
abbrev Ut:List It:=It.lp DY.l4::It.g8 6::It.code Ur::It.g8 3::It.code ((BK.ops DY.fk false).dr [93,94] [])::X7
section
variable {A W C w y:List Nat} {j m s ul q:Nat} {Q:Tm->Mem->Prop}
theorem SJ {e i n:Nat} (hi:i=A.length+n) (he:W[n]? = some e):(A++W++C)[i]? = some e:=by
 rw[wJ hi (zS he).1];exact he
theorem cJ (hA:A.length=j) (hW:W.length=y.length+1) (D2:A1 W) (gf:A1 y) (im:2<=y.length) (xo:y.length<=549755813888) (bu:0<val y) (ew:j<=1099511627776)
  (kn:ul=j+(y.length+1)+C.length) (Jh:w.length=m) (Ix:j<m)
  (r1:q<4294967296) (r2:val W/val y<=q) (r3:q<=val W/val y+1)
  (hk : ∀ (W':List Nat) (q':Nat),W'.length=y.length+1->A1 W'->val W'=val W%val y->q'=val W/val y->AA L X7 (X8 y s ul m ((j:Int)-1)) [(69,101021,.rw 1 ((A++W'++C).map AL)),(85,85,.rw 1 ((w.set j q').map AL))] Q) :
  AA L Ut ([(20,.int .i64 0),(19,.int .u64 0),(18,.int .u64 0),(16,.int .u64 (q:Int))]++X8 y s ul m (j:Int)) [(69,101021,.rw 1 ((A++W++C).map AL)),(85,85,.rw 1 (w.map AL))] Q:=by
 refine aM (λ i _ _ _=>y.length-i) (λ(i:Nat) (Z:List Nat) (c b:Nat)=>i<=y.length/\Z.length=y.length+1/\A1 Z/\c<4294967296/\b<=1/\Z.drop i=W.drop i/\val (Z.take i)+q*val (y.take i)=val (W.take i)+4294967296^i*(c+b)) (λ i Z c b=>[(20,.int .i64 i),(18,.int .u64 (b:Int)),(19,.int .u64 (c:Int))]) (λ i Z c b=>[(69,101021,.rw 1 ((A++Z++C).map AL))]) [] [] 0 W 0 0 (by (conv=>whnf);exact ⟨rfl,rfl,rfl⟩) ⟨by omega,hW,D2,by omega,by omega,rfl,by simp [val]⟩ ?_;intro i Z c b ⟨p1,p2,p3,p4,p5,p6,p7⟩ ih;by_cases hi:i<y.length
 ·obtain ⟨d,hd⟩ : ∃ d,y[i]? = some d:=⟨_,zE hi⟩
  obtain ⟨u,hu⟩ : ∃ u,Z[i]? = some u:=⟨_,zE (by omega)⟩;have dw:=gf.at hd;have po:=p3.at hu;have Jd:(A++Z++C)[((i:Int)+(j:Int)).toNat]? = some u:=SJ (by omega) hu;obtain ⟨pr,vd⟩ : ∃ pr,pr=c+q*d:=⟨_,rfl⟩;obtain ⟨m1,m2,m3⟩:=rS r1 dw p4 (show pr=q*d+c by omega);have yy:W[i]? = some u:=by
   have e1:(Z.drop i)[0]? = (W.drop i)[0]? := by rw[p6]
   simpa [hu] using e1.symm
  have qk : ∀ w,(Z.set i w).drop (i+1)=W.drop (i+1):=λ w=>by
   rw[List.drop_set_of_lt (by omega)];have e1:(Z.drop i).drop 1=(W.drop i).drop 1:=by rw[p6]
   simpa using e1
  have m4 : ∀ have' take w du,take=pr%4294967296+b->((have'=u/\du=0/\take<=u)\/(have'=u+4294967296/\du=1/\u<take))->w+take=have'->val ((Z.set i w).take (i+1))+q*val (y.take (i+1))=val (W.take (i+1))+4294967296^(i+1)*(pr/4294967296+du):=λ have' take w du a1 a2 a3=>by
   rw[F3 (by omega),EB hd,EB yy,Nat.pow_succ];exact Ae2 p7 vd a1 a2 a3
  by_cases o7:u<pr%4294967296+b
  ·have h3:=m4 (u+4294967296) (pr%4294967296+b) (u+4294967296-(pr%4294967296+b)) 1 rfl (Or.inr ⟨rfl,rfl,o7⟩) (by omega)
   (repeat' ((first|(apply AG<;>intro hc<;>try omega)|(apply AU;omega)|(apply A0;omega)|(apply F5;omega)|(apply OK;omega)|(apply jT;omega)|(apply I3;omega;omega)|apply FH|(apply W3;omega)|(apply CF;omega)|(apply EH;omega)|(refine BD (by assumption) ?_ rfl ?_;omega)|refine JI (by assumption) ?_|apply AC)<;>conv=>whnf))
   rw[<-vd];skip
   refine NZ i (by omega) (by omega) ?_;(conv=>whnf)
   (repeat' ((first|(apply A0;omega)|fail)<;>conv=>whnf))
   exact BL [] (by (conv=>whnf);exact ⟨rfl,rfl,rfl⟩) (ih (i+1) (Z.set i (u+4294967296-(pr%4294967296+b))) (pr/4294967296) 1 (by omega) ⟨by omega,by simpa using p2,p3.set _ (by omega),m1,by omega,qk _,h3⟩)
  ·have h3:=m4 u (pr%4294967296+b) (u-(pr%4294967296+b)) 0 rfl (Or.inl ⟨rfl,rfl,by omega⟩) (by omega)
   (repeat' ((first|(apply AG<;>intro hc<;>try omega)|(apply AU;omega)|(apply A0;omega)|(apply F5;omega)|(apply OK;omega)|(apply jT;omega)|(apply I3;omega;omega)|apply FH|(apply CF;omega)|(apply EH;omega)|(refine BD (by assumption) ?_ rfl ?_;omega)|refine JI (by assumption) ?_|apply AC)<;>conv=>whnf))
   rw[<-vd];skip
   refine NZ i (by omega) (by omega) ?_;(conv=>whnf)
   (repeat' ((first|(apply A0;omega)|fail)<;>conv=>whnf))
   exact BL [] (by (conv=>whnf);exact ⟨rfl,rfl,rfl⟩) (ih (i+1) (Z.set i (u-(pr%4294967296+b))) (pr/4294967296) 0 (by omega) ⟨by omega,by simpa using p2,p3.set _ (by omega),m1,by omega,qk _,h3⟩)
 ·obtain rfl:i=y.length:=by omega
  clear ih;obtain ⟨u,hu⟩ : ∃ u,Z[y.length]? = some u:=⟨_,zE (by omega)⟩;have po:=p3.at hu;have Jd:(A++Z++C)[((j:Int)+(y.length:Int)).toNat]? = some u:=SJ (by omega) hu;have yy:W[y.length]? = some u:=by
   have e1:(Z.drop y.length)[0]? = (W.drop y.length)[0]? := by rw[p6]
   simpa [hu] using e1.symm
  rw[DB (Nat.le_refl y.length)]at p7;have eW:val W=val (W.take y.length)+4294967296^y.length*u:=by
   rw[<-EB yy,DB (by omega)]
  have m4 : ∀ have' take w du,take=c+b->((have'=u/\du=0/\take<=u)\/(have'=u+4294967296/\du=1/\u<take))->w+take=have'->val (Z.set y.length w)+q*val y=val W+4294967296^y.length*4294967296*du:=λ have' take w du a1 a2 a3=>by
   have h1:=Ae0 p7 a1 a2 a3;rw[<-eW,<-F3 (show y.length<Z.length by omega),DB (by simp;omega)]at h1;exact h1
  by_cases o7:u<c+b
  ·have h3:=m4 (u+4294967296) (c+b) (u+4294967296-(c+b)) 1 rfl (Or.inr ⟨rfl,rfl,o7⟩) (by omega)
   have Fo:A1 (Z.set y.length (u+4294967296-(c+b))):=p3.set _ (by omega);have Du:(Z.set y.length (u+4294967296-(c+b))).length=y.length+1:=by simpa using p2
   rw[Nat.mul_one]at h3;have Dt:=E5 Fo;rw[Du,Nat.pow_succ]at Dt;obtain ⟨y1,y2,y3⟩:=mE bu r3 Dt h3;(repeat' ((first|(apply AG<;>intro hc<;>try omega)|(apply AU;omega)|(apply A0;omega)|(apply F5;omega)|(apply I3;omega;omega)|(apply W3;omega)|(apply CF;omega)|(apply EH;omega)|refine JI (by assumption) ?_|apply AC)<;>conv=>whnf))
   refine NZ y.length (by omega) (by omega) ?_;(conv=>whnf)
   (repeat' ((first|(apply AG<;>intro hc<;>try omega)|(apply I3;omega;omega))<;>conv=>whnf))
   clear p7 p6 eW hu yy po Jd p2 p3 m4;generalize Z.set y.length (u+4294967296-(c+b))=X at *;have hRV:val W%val y<val y:=Nat.mod_lt _ bu;have Cb:=E5 gf;obtain ⟨xw,xq⟩ : ∃ xw,X[y.length]? = some xw:=⟨_,zE (by omega)⟩;have eX:val X=val (X.take y.length)+4294967296^y.length*xw:=by
    rw[<-EB xq,DB (by omega)]
   have xg:q-1<4294967296:=by omega
   refine F4 (λ i _ _=>y.length-i) (λ(i:Nat) (Z:List Nat) (c:Nat)=>i<=y.length/\Z.length=y.length+1/\A1 Z/\c<=1/\Z.drop i=X.drop i/\val (Z.take i)+4294967296^i*c=val (X.take i)+val (y.take i)) (λ i Z c=>[(26,.int .i64 i),(25,.int .u64 (c:Int))]) (λ i Z c=>[(69,101021,.rw 1 ((A++Z++C).map AL))]) 0 X 0 ⟨by omega,Du,Fo,by omega,rfl,by simp [val]⟩ ?_;intro i Z c ⟨p1,p2,p3,p4,p6,p7⟩ ih;by_cases hi:i<y.length
   ·obtain ⟨d,hd⟩ : ∃ d,y[i]? = some d:=⟨_,zE hi⟩
    obtain ⟨u,hu⟩ : ∃ u,Z[i]? = some u:=⟨_,zE (by omega)⟩;have dw:=gf.at hd;have po:=p3.at hu;have Jd:(A++Z++C)[((i:Int)+(j:Int)).toNat]? = some u:=SJ (by omega) hu;have nc:X[i]? = some u:=by
     have e1:(Z.drop i)[0]? = (X.drop i)[0]? := by rw[p6]
     simpa [hu] using e1.symm
    have bj:=kG (d:=d) (w:=u) (t:=c+(u+d)) p7 (by omega);(repeat' ((first|(apply AG<;>intro hc<;>try omega)|(apply AU;omega)|(apply A0;omega)|(apply F5;omega)|(apply CF;omega)|apply FU|(refine BD (by assumption) ?_ rfl ?_;omega)|refine JI (by assumption) ?_|apply AC)<;>conv=>whnf))
    generalize ht2:c+(u+d)=t2 at *;refine NZ i (by omega) (by omega) ?_;(conv=>whnf)
    (repeat' ((first|(apply A0;omega)|apply FH)<;>conv=>whnf))
    refine BL [] (by (conv=>whnf);exact ⟨rfl,rfl,rfl⟩) (ih (i+1) (Z.set i (t2%4294967296)) (t2/4294967296) (by omega) ⟨by omega,by simpa using p2,p3.set _ (by omega),by omega,?_,?_⟩)
    ·rw[List.drop_set_of_lt (by omega)]
     have e1:(Z.drop i).drop 1=(X.drop i).drop 1:=by rw[p6]
     simpa using e1
    ·rw[F3 (by omega),EB hd,EB nc,Nat.pow_succ]
     exact bj
   ·obtain rfl:i=y.length:=by omega
    clear ih;obtain ⟨u,hu⟩ : ∃ u,Z[y.length]? = some u:=⟨_,zE (by omega)⟩;have po:=p3.at hu;have Jd:(A++Z++C)[((j:Int)+(y.length:Int)).toNat]? = some u:=SJ (by omega) hu;have nc:X[y.length]? = some u:=by
     have e1:(Z.drop y.length)[0]? = (X.drop y.length)[0]? := by rw[p6]
     simpa [hu] using e1.symm
    rw[nc]at xq;obtain rfl:u=xw:=by simpa using xq
    rw[DB (Nat.le_refl y.length)]at p7;have Fp:=E5 (p3.take y.length);rw[List.length_take,Nat.min_eq_left (by omega)]at Fp;rw[eX]at y3;have z9:=kF p7 y3 (by omega) Fp;rw[<-F3 (show y.length<Z.length by omega),DB (by simp;omega)]at z9;(repeat' ((first|(apply AG<;>intro hc<;>try omega)|(apply AU;omega)|(apply A0;omega)|apply jS|(apply EH;omega)|refine JI (by assumption) ?_|apply AC)<;>conv=>whnf))
    refine NZ y.length (by omega) (by omega) ?_;(conv=>whnf)
    (repeat' ((first|(apply AU;omega)|(apply EH;omega))<;>conv=>whnf))
    refine FC (by omega) ?_;(conv=>whnf)
    (repeat' ((first|(apply CE;omega)|fail)<;>conv=>whnf))
    exact BL [] (by (conv=>whnf);exact ⟨rfl,rfl,rfl⟩) (hk _ _ (by simpa using p2) (p3.set _ (by omega)) z9 y1)
  ·have h3:=m4 u (c+b) (u-(c+b)) 0 rfl (Or.inl ⟨rfl,rfl,by omega⟩) (by omega)
   rw[Nat.mul_zero,Nat.add_zero]at h3;obtain ⟨y1,y2⟩:=mF bu r2 h3;(repeat' ((first|(apply AG<;>intro hc<;>try omega)|(apply AU;omega)|(apply A0;omega)|(apply F5;omega)|(apply I3;omega;omega)|(apply CF;omega)|(apply EH;omega)|refine JI (by assumption) ?_|apply AC)<;>conv=>whnf))
   refine NZ y.length (by omega) (by omega) ?_;(conv=>whnf)
   (repeat' ((first|(apply AG<;>intro hc<;>try omega)|(apply AU;omega)|(apply EH;omega))<;>conv=>whnf))
   refine FC (by omega) ?_;(conv=>whnf)
   (repeat' ((first|(apply CE;omega)|fail)<;>conv=>whnf))
   exact BL [] (by (conv=>whnf);exact ⟨rfl,rfl,rfl⟩) (hk _ _ (by simpa using p2) (p3.set _ (by omega)) y2 y1)
theorem Uu (hA:A.length=j) (hW:W.length=y.length+1) (D2:A1 W) (gf:A1 y) (im:2<=y.length) (xo:y.length<=549755813888) (bu:0<val y) (ew:j<=1099511627776)
  (n2:4294967296^(y.length-1)*2147483648<=val y) (g2:val W<4294967296*val y) (kn:ul=j+(y.length+1)+C.length) (Jh:w.length=m) (Ix:j<m)
  (hk : ∀ (W':List Nat) (q':Nat),W'.length=y.length+1->A1 W'->val W'=val W%val y->q'=val W/val y->AA L X7 (X8 y s ul m ((j:Int)-1)) [(69,101021,.rw 1 ((A++W'++C).map AL)),(85,85,.rw 1 ((w.set j q').map AL))] Q) :
  AA L (.code DY.l2::X7) (X8 y s ul m (j:Int)) [(69,101021,.rw 1 ((A++W++C).map AL)),(85,85,.rw 1 (w.map AL))] Q:=by
 obtain ⟨UL,a1,a2⟩:=aJ D2 (n:=y.length+1) (by omega) (by omega);obtain ⟨VL,b5,b6⟩:=wG gf (n:=y.length) im (by omega);obtain ⟨u0,w0⟩ : ∃ d,W[y.length]? = some d:=⟨_,zE (by omega)⟩;obtain ⟨u1,w1⟩ : ∃ d,W[y.length-1]? = some d:=⟨_,zE (by omega)⟩;obtain ⟨u2,w2⟩ : ∃ d,W[y.length-2]? = some d:=⟨_,zE (by omega)⟩;obtain ⟨f1,x1⟩ : ∃ d,y[y.length-1]? = some d:=⟨_,zE (by omega)⟩;obtain ⟨f2,x2⟩ : ∃ d,y[y.length-2]? = some d:=⟨_,zE (by omega)⟩;rw[show y.length+1-3=y.length-2 by omega,show y.length+1-2=y.length-1 by omega,show y.length+1-1=y.length by omega,GP w0,GP w1,GP w2]at a2;rw[show y.length+1-3=y.length-2 by omega]at a1;rw[GP x1,GP x2]at b6;have wo:=vX gf (k:=y.length-1) (by omega) n2 x1;have k0:=D2.at w0;have k1:=D2.at w1;have k2:=D2.at w2;have k3:=gf.at x1;have k4:=gf.at x2;have z1:y[((y.length:Int)-1).toNat]? = some f1:=by rw[show ((y.length:Int)-1).toNat=y.length-1 by omega];exact x1
 have z2:y[((y.length:Int)-2).toNat]? = some f2:=by rw[show ((y.length:Int)-2).toNat=y.length-2 by omega];exact x2
 have k9:(A++W++C)[((j:Int)+(y.length:Int)).toNat]? = some u0:=SJ (by omega) w0;(repeat' ((first|(apply AG<;>intro hc<;>try omega)|(apply AU;omega)|(apply A0;omega)|(apply CE;omega)|(apply NY;omega)|(apply CF;omega)|refine JI (by assumption) ?_|apply AC)<;>conv=>whnf))
 have dc:(A++W++C)[((j:Int)+(y.length:Int)-1).toNat]? = some u1:=SJ (by omega) w1;refine yV dc ?_;(conv=>whnf)
 refine jH (by omega) ?_;(conv=>whnf)
 refine OL (by omega) ?_;(conv=>whnf)
 clear k9 dc;have gn:(A++W++C)[((j:Int)+(y.length:Int)-2).toNat]? = some u2:=SJ (by omega) w2;generalize Nk:u0*4294967296+u1=top at *;have rf:top<=18446744073709551615:=by omega
 have hU:val W=UL+4294967296^(y.length-2)*(u2+4294967296*top):=by rw[a2,show u1+4294967296*u0=top by omega]
 (repeat' ((first|(apply CE;omega)|(apply UE;omega)|(apply W5;omega;omega)|(apply CF;omega)|(refine BD (by assumption) ?_ rfl ?_;omega))<;>conv=>whnf))
 refine WR (λ q _=>q) (λ(q r:Nat)=>Gs (val W) (val y) f1 f2 u2 top q r) (λ q r=>[(16,.int .u64 (q:Int)),(17,.int .u64 (r:Int))]) (λ_ _=>[]) [] [] (top/f1) (top%f1) (by (conv=>whnf);exact ⟨rfl,rfl,rfl⟩) (Gs.start hU b6 a1 k2 bu (by omega) k3) ?_;intro q r g pt;have hqt:q<=top:=by
  have h3:=g.hq;have h4:q*1<=q*f1:=Nat.mul_le_mul_left q (by omega);omega
 have hr:=g.hr;have qo:=g.ge;by_cases hb:4294967296<=q
 ·obtain ⟨y1,y2,y3⟩:=g.next hU b6 a1 bu g2 (Or.inl hb)
  (repeat' ((first|(apply AG<;>intro hc<;>try omega)|(apply CE;omega)|(apply F5;omega)|(apply I3;omega;omega)|(apply CF;omega)|(refine BD (by assumption) ?_ rfl ?_;omega)|apply AC)<;>conv=>whnf))
  ·obtain ⟨t1,t2⟩:=TC hU b6 b5 wo k4 g2 y2 (Or.inr (by omega))
   exact BL [] (by (conv=>whnf);exact ⟨rfl,rfl,rfl⟩) (cJ (w:=w) (C:=C) hA hW D2 gf im xo bu ew kn Jh Ix t1 y3 t2 hk)
  ·exact BL [] (by (conv=>whnf);exact ⟨rfl,rfl,rfl⟩) (pt (q-1) (r+f1) (by omega) ⟨y2,by omega,y3⟩)
 ·have hmq:=TK (show q<4294967296 by omega) k4
  by_cases w9:r*4294967296+u2<q*f2
  ·obtain ⟨y1,y2,y3⟩:=g.next hU b6 a1 bu g2 (Or.inr w9)
   (repeat' ((first|(apply AG<;>intro hc<;>try omega)|(apply AU;omega)|(apply A0;omega)|(apply CE;omega)|(apply F5;omega)|(apply OK;omega)|(apply NY;omega)|(apply OL;omega)|(apply I3;omega;omega)|(apply CF;omega)|(refine BD (by assumption) ?_ rfl ?_;omega)|refine JI (by assumption) ?_|apply AC)<;>conv=>whnf))
   ·obtain ⟨t1,t2⟩:=TC hU b6 b5 wo k4 g2 y2 (Or.inr (by omega))
    exact BL [] (by (conv=>whnf);exact ⟨rfl,rfl,rfl⟩) (cJ (w:=w) (C:=C) hA hW D2 gf im xo bu ew kn Jh Ix t1 y3 t2 hk)
   ·exact BL [] (by (conv=>whnf);exact ⟨rfl,rfl,rfl⟩) (pt (q-1) (r+f1) (by omega) ⟨y2,by omega,y3⟩)
  ·obtain ⟨t1,t2⟩:=TC hU b6 b5 wo k4 g2 g.hq (Or.inl ⟨by omega,by omega⟩)
   (repeat' ((first|(apply AG<;>intro hc<;>try omega)|(apply AU;omega)|(apply A0;omega)|(apply CE;omega)|(apply OK;omega)|(apply NY;omega)|(apply OL;omega)|(apply CF;omega)|(refine BD (by assumption) ?_ rfl ?_;omega)|refine JI (by assumption) ?_|apply AC)<;>conv=>whnf))
   exact BL [] (by (conv=>whnf);exact ⟨rfl,rfl,rfl⟩) (cJ (w:=w) (C:=C) hA hW D2 gf im xo bu ew kn Jh Ix t1 qo t2 hk)
end
theorem AhC {l:List Nat} (hD:A1 l) (h:l[l.length-1]? = some 0):val l<4294967296^(l.length-1):=by
 have hl:=(zS h).1;have h1:=J9 l (l.length-1) (by omega);have h2:=G8 h;rw[List.drop_of_length_le (show l.length<=l.length-1+1 by omega),IZ]at h2;rw[h2]at h1;simp only[Nat.mul_zero,Nat.add_zero]at h1;have h3:=E5 (hD.take (l.length-1));rw[List.length_take,Nat.min_eq_left (by omega)]at h3;omega
theorem mI (N:b8 L) {X Y s:Nat} {x u y:List Nat} (hY:Y≠0) (ff:s<=31) (Ig:A1 u) (Ii:val u=X*2^s) (hU0:u[u.length-1]? = some 0) (kn:x.length+1<=u.length/\u.length<=549755813888) (gf:A1 y) (Il:val y=Y*2^s) (mc:2<=y.length/\y.length<=x.length) (n2:4294967296^(y.length-1)*2147483648<=val y) :
  AA L Us [(10,.row 69 0 1 0 u.length),(11,.sl false (y.map AL)),(9,.int .i64 (s:Int)),(0,.sl false (x.map AL))] [(69,101021,.rw 1 (u.map AL))] (PI DY (.g9 [.sl false ((dg (X/Y)).map AL),.sl false ((dg (X%Y)).map AL),.int .i64 0])):=by
 refine DT (λ(_:Nat)=>0) (λ_=>True) (λ_=>[]) (λ_=>[]) 0 trivial ?_;intro _ _ _;(repeat' ((first|(apply AG<;>intro hc<;>try omega)|(apply A0;omega)|(apply CE;omega)|apply AW|apply AC)<;>conv=>whnf))
 refine ER (enc:=AL) 0 (u.length-y.length) (by rfl) (by omega) (by omega) ?_;(conv=>whnf)
 (repeat' ((first|(apply CE;omega)|fail)<;>conv=>whnf))
 have bu:0<val y:=by
  have:=sY (y.length-1)
  omega
 have Cc:=E5 gf;generalize hm:u.length-y.length=m at *;have wx:val (u.drop m)<val y:=by
  have h1:(u.drop m).length=y.length:=by simp;omega
  have h2:=AhC (l:=u.drop m) (Ig.drop _) (by rw[h1,List.getElem?_drop,show m+(y.length-1)=u.length-1 by omega];exact hU0);rw[h1]at h2;omega
 rw[show (u.length:Int)-y.length-1=((m:Nat):Int)-1 by omega];refine F4 (λ n _ _=>n) (λ(n:Nat) (o w:List Nat)=>n<=m/\o.length=u.length/\A1 o/\w.length=m/\A1 w/\val (o.drop n)<val y/\X*2^s=val (o.take n)+4294967296^n*(val (w.drop n)*val y+val (o.drop n))) (λ n o w=>[(14,.int .i64 ((n:Int)-1))]) (λ n o w=>[(69,101021,.rw 1 (o.map AL)),(85,85,.rw 1 (w.map AL))]) m u (List.replicate m 0) ⟨by omega,rfl,Ig,by simp,I5 _,wx,by rw[<-Ii,List.drop_of_length_le (show (List.replicate m 0).length<=m by simp),IZ,Nat.zero_mul,Nat.zero_add];exact J9 u m (by omega)⟩ ?_;intro n o w ⟨p1,p2,p3,p4,p5,p6,p7⟩ ih;rcases n with _|j
 ·clear ih
  rw[List.drop_zero]at p6;rw[List.take_zero,List.drop_zero,List.drop_zero,IZ,Nat.zero_add,Nat.pow_zero,Nat.one_mul]at p7;have qk:val o=val (o.take y.length):=by
   have h1:=SE o y.length;rcases Nat.eq_zero_or_pos (val (o.drop y.length)) with h2|h2
   ·rw[h2,Nat.mul_zero,Nat.add_zero]at h1;exact h1
   ·have h3:4294967296^y.length*1<=4294967296^y.length*val (o.drop y.length):=Nat.mul_le_mul_left _ h2
    omega
  have yz:X/Y=val w/\X%Y=val o/2^s:=by
   obtain ⟨z1,z2⟩:=mH (X:=X) (Y:=Y) (Nat.two_pow_pos s);rw[<-z1,<-z2,<-Il,p7];have e1:(val w*val y+val o)/val y=val w:=by
    rw[Nat.mul_comm,Nat.mul_add_div bu,Nat.div_eq_of_lt p6,Nat.add_zero]
   have e2:(val w*val y+val o)%val y=val o:=by
    rw[Nat.mul_comm,Nat.mul_add_mod,Nat.mod_eq_of_lt p6]
   rw[e1,e2];exact ⟨rfl,rfl⟩
  rw[yz.1,yz.2,qk];have hT:=λ q=>GG N w q p5 (by omega)
  have ct:(o.take y.length).length<=549755813888:=by rw[List.length_take];omega
  clear p7 yz wx;rw[<-p4];rcases Nat.eq_zero_or_pos s with h0|h0
  ·subst h0
   have hS:=λ q=>oK N (o.take y.length) q 0 (p3.take _) ct (by omega)
   rw[Nat.pow_zero,Nat.mul_one]at hS;rw[Nat.pow_zero,Nat.div_one];(repeat' ((first|(apply AG<;>intro hc<;>try omega)|(refine GC (λ_=>rfl) rfl ?_ ?_;(first|rfl|simp))|apply AC|refine AE (hT _) ?_)<;>conv=>whnf))
   refine G9 y.length rfl (by omega) ?_;(conv=>whnf)
   refine CZ.neg (by omega) ?_;(conv=>whnf)
   refine HO (enc:=AL) (λ_=>rfl) (by omega) ?_;(conv=>whnf)
   rw[List.drop_zero,Nat.sub_zero,show -((0:Nat):Int)=((0:Nat):Int) by omega];(repeat' (refine AE (hS _) ?_<;>conv=>whnf))
   exact AY rfl (XV _ _ _)
  ·have hS:=λ q=>Adm N (o.take y.length) q s (p3.take _) ct (by omega)
   (repeat' ((first|(apply AG<;>intro hc<;>try omega)|(refine GC (λ_=>rfl) rfl ?_ ?_;(first|rfl|simp))|apply AC|refine AE (hT _) ?_)<;>conv=>whnf))
   refine G9 y.length rfl (by omega) ?_;(conv=>whnf)
   refine CZ.neg (by omega) ?_;(conv=>whnf)
   refine HO (enc:=AL) (λ_=>rfl) (by omega) ?_;(conv=>whnf)
   rw[List.drop_zero,Nat.sub_zero];(repeat' (refine AE (hS _) ?_<;>conv=>whnf))
   exact AY rfl (XV _ _ _)
 ·have e3:((j+1:Nat):Int)-1=j:=by omega
  rw[e3];obtain ⟨A,W,C,hA,hW,rfl⟩:=nD o j (y.length+1) (by omega);obtain ⟨g1,g2,g3⟩:=nF hA hW p3 p6 Cc;obtain ⟨D1,D2,D3⟩:=mD p3;have xg:val W/val y<4294967296:=(Nat.div_lt_iff_lt_mul bu).2 g2;have Kg:val W=val W/val y*val y+val W%val y:=by rw[Nat.mul_comm];exact (Nat.div_add_mod _ _).symm
  have hWl:val W%val y<val y:=Nat.mod_lt _ bu;have Ca:X*2^s=val A+4294967296^j*val W+4294967296^j*4294967296*(val (w.drop (j+1))*val y):=by
   rw[p7,Nat.mul_add,<-g3,Nat.pow_succ];omega
  have sz:=nE Ca Kg;have zp : ∀ q',q'=val W/val y->val ((w.set j q').drop j)=val W/val y+4294967296*val (w.drop (j+1)):=λ q' h=>by
   rw[G8 (l:=w.set j q') (d:=q') (by rw[List.getElem?_set_self (by omega)]),List.drop_set_of_lt (by omega),h]
  have hlen : ∀ W':List Nat,W'.length=y.length+1->(A++W'++C).length=u.length:=λ W' h=>by
   rw[<-p2];simp [h,hW]
  have Pq:u.length=j+(y.length+1)+C.length:=by rw[<-p2];simp [hA,hW];omega
  refine BL [] (by (conv=>whnf);exact ⟨rfl,rfl,rfl⟩) (Uu (m:=m) (s:=s) (ul:=u.length) (C:=C) hA hW D2 gf mc.1 (by omega) bu (by omega) n2 g2 Pq p4 (by omega) (λ W' q' z1 z2 z3 z4 => ?_));obtain ⟨t1,t2⟩:=cO (A:=A) (W:=W') (C:=C) (j:=j) hA g1;refine BL [] (by (conv=>whnf);exact ⟨rfl,rfl,rfl⟩) (ih j (A++W'++C) (w.set j q') (by omega) ⟨by omega,hlen W' z1,(D1.append z2).append D3,by simpa using p4,p5.set _ (by omega),by omega,?_⟩);rw[t1,t2,zp q' z4,z3];exact sz
end Go.g6
namespace Go.g6
open F
attribute [local irreducible] AA AF AM AD CZ AX A9 BG B8 B6 CT D8 B9 BF B1 CR AB A6 AJ pw BN BH CQ CK C6 C7 CW BV D4
variable {L:Lib}
set_option maxHeartbeats 8000000
theorem oJ (N:b8 L) (a b:List Nat) (q1 q2:Bool) (hA:A1 a) (hB:A1 b) (la:a.length<=274877906944) (lb:b.length<=274877906944) (h0:val b≠0) :
  Ev L 109 [.sl q1 (a.map AL),.sl q2 (b.map AL)] (.g9 [.sl false ((dg (val a/val b)).map AL),.sl false ((dg (val a%val b)).map AL),.int .i64 0]):=by
 have t1:=λ q=>GG N a q hA (by omega)
 have t2:=λ q=>GG N b q hB (by omega)
 have l1:=EX hA;have l2:=EX hB;have n8:=λ q q'=>dC N (dg (val a)) (dg (val b)) q q' (EA _) (EA _) (by omega) (by omega)
 rw[BW,BW]at n8;generalize val a=X at *;generalize val b=Y at *;have d1:=EA X;have d2:=EA Y;have v1:=BW X;have v2:=BW Y;have hy1:=U4 h0;refine Ev.x N.DY rfl rfl ?_;by_cases h1:(dg Y).length=1
 ·obtain ⟨y0,ri⟩ : ∃ y0,dg Y=[y0]:=List.length_eq_one_iff.1 h1
  have yo:Y=y0:=by rw[<-v2,ri];simp [val]
  subst yo;have ue:Y<4294967296:=d2 Y (by rw[ri];simp);have hyg:(dg Y)[(0:Int).toNat]? = some Y:=by rw[ri];rfl
  have Qb:=λ q=>Adn N (dg X) Y q d1 (by omega) h0 ue
  rw[v1]at Qb;have fe:X%Y<4294967296:=Nat.lt_trans (Nat.mod_lt _ (by omega)) ue;have Ie:=λ q=>GG N [X%Y] q (HD fe) (by simp)
  rw[show val [X%Y]=X%Y by simp [val]]at Ie;clear ri v2;generalize dg Y=y at *;(repeat' ((first|(apply AG<;>intro hc<;>try omega)|apply AW|(refine BD (by assumption) ?_ rfl ?_;omega)|refine HN rfl ?_|apply AC|refine AE (t1 _) ?_|refine AE (t2 _) ?_|refine AE (Qb _) ?_|refine AE (Ie _) ?_)<;>conv=>whnf))
  exact AY rfl (XV _ _ _)
 by_cases o7:X<Y
 ·rw[<-H3 (by omega)]at n8
  (repeat' ((first|(apply AG<;>intro hc<;>try omega)|apply AW|apply AC|refine AE (t1 _) ?_|refine AE (t2 _) ?_|refine AE (n8 _ _) ?_)<;>conv=>whnf))
  refine AY ?_ (XV _ _ _);rw[Nat.div_eq_of_lt o7,Nat.mod_eq_of_lt o7,E4];rfl
 have qo:=XY (show Y<=X by omega);generalize DC X Y=cm at *;have Iz:2<=(dg Y).length:=by omega
 obtain ⟨yt,zx,zy⟩:=cG h0;have xv:=d2.at zx;obtain ⟨b1,b2,b3,b4⟩:=eU zy xv;have gy:=λ q=>Adj N yt q zy xv
 generalize hs:32-u7 yt=s at *;have ff:s<=31:=by omega
 have Nf:=λ q=>oK N (dg Y) q s d2 (by omega) (by omega)
 obtain ⟨n1,n2⟩:=eI d2 zx (by omega) ff b3 b4;rw[v2]at Nf n1 n2;have qk:(dg Y).drop ((dg Y).length-1)=[yt]:=by
  obtain ⟨hi,he⟩:=zS zx;rw[List.drop_eq_getElem_cons hi,he,List.drop_of_length_le (by omega)]
 have mc:(dg (Y*2^s)).length=(dg Y).length:=by
  have a1:=N6.2 n1;have a2 : ¬ (dg (Y*2^s)).length<=(dg Y).length-1:=λ h=>by
   have:=N6.1 h
   omega
  omega
 have Al8:(dg (X*2^s)).length<=(dg X).length+1:=by
  refine N6.2 ?_;have a1:X<4294967296^(dg X).length:=N6.1 (Nat.le_refl _);rw[Nat.pow_succ];have a2:=V0 (s:=s) (by omega);exact Nat.lt_of_lt_of_le (Nat.mul_lt_mul_of_pos_right a1 (Nat.two_pow_pos s)) (Nat.mul_le_mul_left _ a2)
 have Du:(dg X).length<=(dg (X*2^s)).length:=PO (Nat.le_mul_of_pos_right _ (Nat.two_pow_pos s));have zh:=PO (show Y<=X by omega);generalize hx:dg X=x at *;generalize hy:dg Y=y at *;have t3:=λ q=>GG N x q d1 (by omega)
 rw[v1,hx]at t3;(repeat' ((first|(apply AG<;>intro hc<;>try omega)|(apply CE;omega)|apply AW|apply AC|refine AE (t1 _) ?_|refine AE (t2 _) ?_|refine AE (n8 _ _) ?_)<;>conv=>whnf))
 rw[show (y.length:Int)-1=((y.length-1:Nat):Int) by omega];refine zP (k:=y.length-1) (λ_=>rfl) (by omega) ?_;(conv=>whnf)
 rw[qk];(repeat' ((first|(apply CE;omega)|refine AE (gy _) ?_)<;>conv=>whnf))
 rw[show (32:Int)-(u7 yt:Nat)=((s:Nat):Int) by omega];refine E2 1000 N.IJ rfl rfl ?_;have hsq:(s:Int)/32=((0:Nat):Int):=by omega
 have hsr:(s:Int)%32=((s:Nat):Int):=by omega
 (repeat' ((first|(apply AG<;>intro hc<;>try omega)|(refine QT ?_ ?_ (λ_ => ?_) (λ_ _ => ?_);omega;omega;all_goals try omega)|apply AW|apply AC|refine AE (t3 _) ?_)<;>conv=>whnf))
 rw[hsq];refine ER (enc:=AL) 0 0 rfl rfl (by omega) ?_;(conv=>whnf)
 skip
 refine F4 (λ i _ _=>x.length-i) (λ(i:Nat) (o:List Nat) (c:Nat)=>i<=x.length/\o.length=i/\A1 o/\c<2^s/\val o+4294967296^i*c=val (x.take i)*2^s) (λ i o c=>[(10,.int .i64 i),(9,.int .u64 (c:Int)),(8,.row 107069 0 1 0 i)]) (λ i o c=>[(107069,107069,.rw 1 (o.map AL))]) 0 [] 0 ⟨by omega,rfl,S0,Nat.two_pow_pos _,by simp [val]⟩ ?_;intro i o c ⟨p1,p2,p3,p4,p5⟩ ih;have ve:=V0 (s:=s) (by omega);by_cases hi:i<x.length
 ·obtain ⟨d,hd⟩ : ∃ d,x[i]? = some d:=⟨_,zE hi⟩
  have dw:=d1.at hd;obtain ⟨f1,f2,f3,f4⟩:=R6 (s:=s) dw (by omega);have hr:=Y3 (show s<=64 by omega) f4;(repeat' ((first|(apply AG<;>intro hc<;>try omega)|(refine UF ?_ (λ_ _ _ => ?_) (λ_ _ _ _ => ?_);omega;all_goals try omega)|(apply CF;omega)|apply AW|(refine BD (by assumption) ?_ rfl ?_;omega)|apply AC)<;>conv=>whnf))
  rw[hsr];refine ON (by omega) f4 ?_;(conv=>whnf)
  skip
  refine W4 s (Nat.mul_mod_left _ _) p4 (by omega) ?_;(conv=>whnf)
  have m4:=wC (d:=d) (P:=1) (V:=val o) (p:=4294967296^i) (lo:=c) (X:=val (x.take i)) (s:=s) (by rw[Nat.one_mul,Nat.one_mul];exact p5) rfl;have oa:(c+d*2^s)/4294967296<2^s:=by
   rw[Nat.div_lt_iff_lt_mul (by omega)];have:=zR (2^s) (show d<=4294967295 by omega)
   omega
  generalize c+d*2^s=t at *;(repeat' ((first|apply FU|apply FI)<;>conv=>whnf))
  refine FS (enc:=AL) (t%4294967296) rfl p2.symm rfl (by omega) (by omega) ?_;(conv=>whnf)
  (repeat' ((first|(apply A0;omega)|apply FH)<;>conv=>whnf))
  rw[show (o++[t%4294967296]).length=i+1 by simp [p2]];refine BL [(107069,107091)] (by (conv=>whnf);exact ⟨rfl,rfl,rfl⟩) (ih (i+1) (o++[t%4294967296]) (t/4294967296) (by omega) ⟨by omega,by simp;omega,p3.append (HD (by omega)),oa,?_⟩);rw[NV,p2,EB hd,Nat.pow_succ];rw[Nat.one_mul,Nat.one_mul]at m4;exact m4
 obtain rfl:i=x.length:=by omega
 clear ih;have lk:c<4294967296:=by omega
 have hOD:A1 (o++[c]):=p3.append (HD lk);have Aj:val (o++[c])=X*2^s:=by
  rw[NV,p2,p5,DB (Nat.le_refl _),v1]
 have Ff:(o++[c]).length=x.length+1:=by simp [p2]
 (repeat' ((first|(apply AG<;>intro hc<;>try omega)|(apply EH;omega)|apply AW|apply FI|apply AC)<;>conv=>whnf))
 refine FS (enc:=AL) c rfl p2.symm rfl (by omega) (by omega) ?_;(conv=>whnf)
 rw[Ff];generalize o++[c]=O at *;rw[<-Ff];clear p3 p4 p5;refine E2 1000 N.HH rfl rfl ?_;(repeat' (apply AC<;>conv=>whnf))
 refine DT (λ n=>n) (λ(n:Nat)=>n<=(O).length /\ ∀ i,n<=i->i<(O).length->(O)[i]? = some 0) (λ n=>[(3,.int .i64 n)]) (λ_=>[]) (O).length ⟨Nat.le_refl _,λ i h1 h2=>by omega⟩ ?_;intro n ⟨p1,p2⟩ ih;rcases n with _|n
 ·(repeat' ((first|(apply AG<;>intro hc<;>try omega)|apply AC)<;>conv=>whnf))
  refine G9 0 (by omega) (by omega) ?_;(conv=>whnf)
  have dk:=GE (l:=O) (by assumption) p1 p2 (Or.inl rfl);have u9:(List.take 0 O).length<=(O).length:=by rw[List.length_take];omega
  clear ih p2;refine XA (enc:=AL) (by omega) ?_;(conv=>whnf)
  rw[List.drop_zero,Nat.sub_zero];generalize Ke:List.take 0 O=T0 at *;refine PE (enc:=AL) (λ_=>rfl) (by omega) (by omega) ?_;(conv=>whnf)
  refine ⟨rfl,_,rfl,?_⟩;(conv=>whnf)
  (refine ⟨rfl,_,rfl,?_⟩;(conv=>whnf);(repeat' ((first|apply FI|refine AE (Nf _) ?_)<;>conv=>whnf));refine FS (enc:=AL) 0 rfl rfl rfl (by omega) (by omega) ?_;(conv=>whnf);rw[Aj]at dk;rw[dk];exact BL [] (by (conv=>whnf);exact ⟨rfl,rfl,rfl⟩) (mI N (x:=x) (X:=X) (Y:=Y) (s:=s) (u:=dg (X*2^s)++[0]) (y:=dg (Y*2^s)) h0 ff ((EA _).append (HD (by omega))) (by rw[NV,BW,Nat.mul_zero,Nat.add_zero]) (by simp) (by simp;omega) (EA _) (BW _) (by omega) (by rw[BW,mc];exact n2)))
 ·have e1:((n+1:Nat):Int)-1=n:=by omega
  (repeat' ((first|(apply AG<;>intro hc<;>try omega)|(apply AU;omega)|(apply CE;omega)|(refine QQ (by assumption) ?_ (λ v hv hb => ?_);omega)|apply AC)<;>conv=>whnf))
  ·rw[e1]
   exact BR [] (ih n (by omega) ⟨by omega,λ i h1 h2=>by
    by_cases h:i=n
    ·subst h
     rw[e1,Int.toNat_natCast]at hv;rw[hv];congr 1;omega
    ·exact p2 i (by omega) h2⟩)
  ·refine G9 (n+1) (by omega) (by omega) ?_
   (conv=>whnf)
   rw[e1,Int.toNat_natCast]at hv;have dk:=GE (l:=O) (by assumption) p1 p2 (Or.inr ⟨_,hv,by omega⟩);have u9:(List.take (n+1) O).length<=(O).length:=by rw[List.length_take];omega
   clear ih p2 hv;(rw[kK (l:=O)];rotate_left;exact rfl;exact rfl);(conv=>whnf)
   refine XA (enc:=AL) (by omega) ?_;(conv=>whnf)
   rw[List.drop_zero,Nat.sub_zero];generalize Ke:List.take (n+1) O=T0 at *;refine PE (enc:=AL) (λ_=>rfl) (by omega) (by omega) ?_;(conv=>whnf)
   refine ⟨rfl,_,rfl,?_⟩;(conv=>whnf)
   (refine ⟨rfl,_,rfl,?_⟩;(conv=>whnf);(repeat' ((first|apply FI|refine AE (Nf _) ?_)<;>conv=>whnf));refine FS (enc:=AL) 0 rfl rfl rfl (by omega) (by omega) ?_;(conv=>whnf);rw[Aj]at dk;rw[dk];exact BL [] (by (conv=>whnf);exact ⟨rfl,rfl,rfl⟩) (mI N (x:=x) (X:=X) (Y:=Y) (s:=s) (u:=dg (X*2^s)++[0]) (y:=dg (Y*2^s)) h0 ff ((EA _).append (HD (by omega))) (by rw[NV,BW,Nat.mul_zero,Nat.add_zero]) (by simp) (by simp;omega) (EA _) (BW _) (by omega) (by rw[BW,mc];exact n2)))
theorem Adk (N:b8 L) (a b:List Nat) (q1 q2:Bool) (hA:A1 a) (hB:A1 b) (la:a.length<=274877906944) (lb:b.length<=274877906944) :
  Ev L 110 [.sl q1 (a.map AL),.sl q2 (b.map AL)] (.sl false ((dg (Nat.gcd (val a) (val b))).map AL)):=by
 have t1:=λ q=>GG N a q hA (by omega)
 have t2:=λ q=>GG N b q hB (by omega)
 have l1:=EX hA;have l2:=EX hB;generalize val a=X at *;generalize val b=Y at *;refine Ev.x N.MT rfl rfl ?_;(repeat' ((first|apply AC|refine AE (t1 _) ?_|refine AE (t2 _) ?_)<;>conv=>whnf))
 refine GW (λ_ y=>y) (λ(x y:Nat)=>(dg x).length<=274877906944/\(dg y).length<=274877906944/\Nat.gcd x y=Nat.gcd X Y) (λ x y=>[(0,.sl false ((dg x).map AL)),(1,.sl false ((dg y).map AL))]) (λ_ _=>[]) X Y ⟨by omega,by omega,rfl⟩ ?_;intro x y ⟨p1,p2,p3⟩ ih;rw[<-p3];by_cases h0:y=0
 ·subst h0
  have da:(dg 0).length=0:=by rw[E4];rfl
  clear ih;rw[Nat.gcd_zero_right];(repeat' ((first|(apply AG<;>intro hc<;>try omega)|apply AW|apply AC)<;>conv=>whnf))
  exact AY rfl (JK _)
 ·have hp:=U4 h0
  have hD:=λ q q'=>oJ N (dg x) (dg y) q q' (EA _) (EA _) p1 p2 (by rw[BW];exact h0)
  rw[BW,BW]at hD;have o7:x%y<y:=Nat.mod_lt _ (by omega);have bb:=PO (Nat.le_of_lt o7);(repeat' ((first|(apply AG<;>intro hc<;>try omega)|apply AW|apply AC|refine AE (hD _ _) ?_)<;>conv=>whnf))
  rw[p3];exact BR [] (ih y (x%y) o7 ⟨p2,by omega,by rw[VN];exact p3⟩)
theorem JL (N:b8 L) (n q:Bool) (m:List Nat) (hm:Sm 274877906944 m):Ev L 111 [.agg (rZ q n m)] (.agg (eZ (zv n m))):=by
 have hT:=λ q=>GG N m q hm.1 (by have:=hm.2;omega)
 have hz:=H5 (val m);have ha:=FO n m;refine Ev.x N.M8 rfl rfl ?_;cases n
 ·rw[E6]at *
  (repeat' ((first|apply AC|refine AE (hT _) ?_)<;>conv=>whnf))
  exact AY (ET ha.symm (GI (by omega))) (DW _)
 ·rw[OI]at *
  (repeat' ((first|(apply AG<;>intro hc<;>try omega)|apply AW|apply AC|refine AE (hT _) ?_)<;>conv=>whnf))
  ·exact AY (ET ha.symm (NP (by omega))) (DW _)
  ·exact AY (ET ha.symm (GI (by omega))) (DW _)
theorem YJ (N:b8 L) (n q:Bool) (m:List Nat) (hm:Sm 274877906944 m):Ev L 113 [.agg (rZ q n m)] (.int .i64 (fb (zv n m))):=by
 have hT:=λ q=>JL N n q m hm
 generalize zv n m=z at *;have hz:=H5 z.natAbs;refine Ev.x N.M7 rfl rfl ?_;(repeat' ((first|(apply AG<;>intro hc<;>try omega)|apply AW|apply AC|refine AE (hT _) ?_)<;>conv=>whnf))
 ·exact EI (ZY (by omega))
 ·cases hd:decide (z<0)
  ·(conv=>whnf)
   exact EI (uH (by have:=of_decide_eq_false hd;omega))
  ·(conv=>whnf)
   exact EI (uG (of_decide_eq_true hd))
theorem oM (N:b8 L) (n q:Bool) (m:List Nat) (hm:Sm 274877906944 m):Ev L 114 [.agg (rZ q n m)] (.agg (eZ (-(zv n m)))):=by
 have hT:=λ q=>JL N n q m hm
 generalize zv n m=z at *;have hz:=H5 z.natAbs;refine Ev.x N.M4 rfl rfl ?_;(repeat' ((first|apply AC|refine AE (hT _) ?_)<;>conv=>whnf))
 cases hd:decide (z<0)
 ·have h1:=of_decide_eq_false hd
  (conv=>whnf)
  (repeat' ((first|(apply AG<;>intro hc<;>try omega)|apply AW)<;>conv=>whnf))
  ·exact AY (ET (by omega) (NP (by omega))) (DW _)
  ·exact AY (ET (by omega) (GI (by omega))) (DW _)
 ·have h1:=of_decide_eq_true hd
  (conv=>whnf)
  skip
  exact AY (ET (by omega) (GI (by omega))) (DW _)
theorem RB (N:b8 L) (n1 n2 q1 q2:Bool) (a b:List Nat) (ha:A1 a) (hb:A1 b) (hl:a.length+b.length<=274877906944):Ev L 118 [.agg (rZ q1 n1 a),.agg (rZ q2 n2 b)] (.agg (eZ (zv n1 a*zv n2 b))):=by
 have h1:=λ q q'=>Adl N a b q q' ha hb (by omega)
 have sa:Sm a.length a:=⟨ha,Nat.le_refl _⟩;have sb:Sm b.length b:=⟨hb,Nat.le_refl _⟩;have hT:=λ n q=>JL N n q (dg (val a*val b)) ((sa.mul sb rfl).le hl)
 have e : ∀ n,zv n (dg (val a*val b))=bif n then -((val a*val b:Nat):Int) else ((val a*val b:Nat):Int):=λ n=>by unfold zv;rw[BW]
 have e2:zv n1 a*zv n2 b=zv (n1 != n2) (dg (val a*val b)):=by
  rw[e];cases n1<;>cases n2<;>simp [E6,OI,Int.mul_neg,Int.neg_mul]
 rw[e2];refine Ev.x N.M3 rfl rfl ?_;cases n1<;>cases n2;all_goals
  (repeat' ((first|apply AC|refine AE (h1 _ _) ?_|refine AE (hT _ _) ?_)<;>conv=>whnf))
  exact AY rfl (DW _)
theorem Ado (N:b8 L) (n1 n2 q1 q2:Bool) (a b:List Nat) (ha:Sm 274877906943 a) (hb:Sm 274877906943 b):Ev L 115 [.agg (rZ q1 n1 a),.agg (rZ q2 n2 b)] (.agg (eZ (zv n1 a+zv n2 b))):=by
 have t1:=λ q=>JL N n1 q a (ha.le (by omega))
 have t2:=λ q=>JL N n2 q b (hb.le (by omega))
 have s1:Sm 274877906943 (dg (zv n1 a).natAbs):=by rw[FO];exact ha.Di
 have s2:Sm 274877906943 (dg (zv n2 b).natAbs):=by rw[FO];exact hb.Di
 generalize zv n1 a=x at *;generalize zv n2 b=y at *;have h1:=λ q q'=>oI N (dg x.natAbs) (dg y.natAbs) q q' s1.1 s2.1 (by have:=s1.2;omega) (by have:=s2.2;omega)
 have h2:=λ q q'=>dE N (dg x.natAbs) (dg y.natAbs) q q' s1.1 s2.1 (by have:=s1.2;omega) (by have:=s2.2;omega)
 have h3:=λ q q'=>dE N (dg y.natAbs) (dg x.natAbs) q q' s2.1 s1.1 (by have:=s2.2;omega) (by have:=s1.2;omega)
 have n8:=λ q q'=>dC N (dg x.natAbs) (dg y.natAbs) q q' s1.1 s2.1 (by have:=s1.2;omega) (by have:=s2.2;omega)
 rw[BW,BW]at h1 h2 h3 n8;have u1:=λ n q=>JL N n q (dg (x.natAbs+y.natAbs)) (s1.add s2 (by rw[BW,BW];omega))
 have u2:=λ n q=>JL N n q (dg (x.natAbs-y.natAbs)) ((s1.low (V:=x.natAbs-y.natAbs) (by rw[BW];omega)).le (by omega))
 have u3:=λ n q=>JL N n q (dg (y.natAbs-x.natAbs)) ((s2.low (V:=y.natAbs-x.natAbs) (by rw[BW];omega)).le (by omega))
 have e : ∀ n V,zv n (dg V)=bif n then -(V:Int) else (V:Int):=λ n V=>by unfold zv;rw[BW]
 refine Ev.x N.MX rfl rfl ?_;(repeat' ((first|apply AC|refine AE (t1 _) ?_|refine AE (t2 _) ?_)<;>conv=>whnf))
 cases hx:decide (x<0)<;>cases hy:decide (y<0)
 ·have g1:=of_decide_eq_false hx
  have g2:=of_decide_eq_false hy;have hz:x+y=zv false (dg (x.natAbs+y.natAbs)):=by rw[e];simp only[cond_true,cond_false];omega
  rw[hz];(conv=>whnf)
  (repeat' ((first|refine AE (h1 _ _) ?_|refine AE (u1 _ _) ?_)<;>conv=>whnf))
  exact AY rfl (DW _)
 ·have g1:=of_decide_eq_false hx
  have g2:=of_decide_eq_true hy;by_cases o7:x.natAbs<y.natAbs
  ·have hz:x+y=zv true (dg (y.natAbs-x.natAbs)):=by rw[e];simp only[cond_true,cond_false];omega
   rw[hz];rw[<-H3 (by omega)]at n8;(conv=>whnf)
   (repeat' ((first|(apply AG<;>intro hc<;>try omega)|refine AE (n8 _ _) ?_|refine AE (h3 _ _) ?_|refine AE (u3 _ _) ?_)<;>conv=>whnf))
   exact AY rfl (DW _)
  ·have hz:x+y=zv false (dg (x.natAbs-y.natAbs)):=by rw[e];simp only[cond_true,cond_false];omega
   rw[hz];have qo:=XY (show y.natAbs<=x.natAbs by omega);generalize DC (x.natAbs:Nat) (y.natAbs:Nat)=cm at *;(conv=>whnf)
   (repeat' ((first|(apply AG<;>intro hc<;>try omega)|refine AE (n8 _ _) ?_|refine AE (h2 _ _) ?_|refine AE (u2 _ _) ?_)<;>conv=>whnf))
   exact AY rfl (DW _)
 ·have g1:=of_decide_eq_true hx
  have g2:=of_decide_eq_false hy;by_cases o7:x.natAbs<y.natAbs
  ·have hz:x+y=zv false (dg (y.natAbs-x.natAbs)):=by rw[e];simp only[cond_true,cond_false];omega
   rw[hz];rw[<-H3 (by omega)]at n8;(conv=>whnf)
   (repeat' ((first|(apply AG<;>intro hc<;>try omega)|refine AE (n8 _ _) ?_|refine AE (h3 _ _) ?_|refine AE (u3 _ _) ?_)<;>conv=>whnf))
   exact AY rfl (DW _)
  ·have hz:x+y=zv true (dg (x.natAbs-y.natAbs)):=by rw[e];simp only[cond_true,cond_false];omega
   rw[hz];have qo:=XY (show y.natAbs<=x.natAbs by omega);generalize DC (x.natAbs:Nat) (y.natAbs:Nat)=cm at *;(conv=>whnf)
   (repeat' ((first|(apply AG<;>intro hc<;>try omega)|refine AE (n8 _ _) ?_|refine AE (h2 _ _) ?_|refine AE (u2 _ _) ?_)<;>conv=>whnf))
   exact AY rfl (DW _)
 ·have g1:=of_decide_eq_true hx
  have g2:=of_decide_eq_true hy;have hz:x+y=zv true (dg (x.natAbs+y.natAbs)):=by rw[e];simp only[cond_true,cond_false];omega
  rw[hz];(conv=>whnf)
  (repeat' ((first|refine AE (h1 _ _) ?_|refine AE (u1 _ _) ?_)<;>conv=>whnf))
  exact AY rfl (DW _)
theorem dF (N:b8 L) (z:Int) (hz : -9223372036854775808<=z/\z<=9223372036854775807):Ev L 112 [.int .i64 z] (.agg (eZ z)):=by
 have two : ∀ k:Nat,k<18446744073709551616 -> ∀ n q,Ev L 111 [.agg [.bool n,.sl q [[.int .u32 ((k%4294967296:Nat):Int)],[.int .u32 ((k/4294967296:Nat):Int)]]]] (.agg (eZ (bif n then -(k:Int) else (k:Int)))):=λ k hk n q=>by
  have:=JL N n q [k%4294967296,k/4294967296] ⟨(cD hk).2,by simp⟩
  unfold zv at this;rw[wH hk]at this;exact this
 refine Ev.x N.M5 rfl rfl ?_;by_cases h0:0<=z
 ·obtain ⟨k,rfl⟩:=Int.eq_ofNat_of_zero_le h0
  have hT:=two k (by omega);(repeat' ((first|(apply AG<;>intro hc<;>try omega)|apply FH|(apply CF;omega)|(apply EH;omega)|apply FU|refine PJ rfl rfl ?_|apply AC)<;>conv=>whnf))
  generalize k%4294967296=lo at *;generalize k/4294967296=hi at *;(repeat' (refine AE (hT _ _) ?_<;>conv=>whnf))
  exact AY rfl (DW _)
 ·obtain ⟨k,hk⟩:=Int.eq_ofNat_of_zero_le (show 0 <= -(z+1) by omega)
  have tj:z = -((k+1:Nat):Int):=by omega
  have hT:=two (k+1) (by omega);(repeat' ((first|(apply AG<;>intro hc<;>try omega)|(apply A0;omega)|apply zG|(apply CZ.neg;omega)|(apply CF;omega)|apply AC)<;>conv=>whnf))
  rw[show IntKind.u64.wrap (-(z+1)+1)=((k+1:Nat):Int) by rw[IntWalk.u64_in _ (by omega)];omega];rw[tj];generalize k+1=k1 at *;(repeat' ((first|apply FH|(apply EH;omega)|apply FU|refine PJ rfl rfl ?_)<;>conv=>whnf))
  generalize k1%4294967296=lo at *;generalize k1/4294967296=hi at *;(repeat' (refine AE (hT _ _) ?_<;>conv=>whnf))
  exact AY rfl (DW _)
theorem Adp (N:b8 L) (n1 n2 q1 q2:Bool) (a b:List Nat) (ha:Sm 274877906944 a) (hb:Sm 274877906944 b):Ev L 120 [.agg (rZ q1 n1 a),.agg (rZ q2 n2 b)] (.agg (eZ ((Nat.gcd (val a) (val b):Nat):Int))):=by
 have h1:=λ q q'=>Adk N a b q q' ha.1 hb.1 ha.2 hb.2
 refine Ev.x N.MZ rfl rfl ?_;(repeat' ((first|apply AC|refine AE (h1 _ _) ?_)<;>conv=>whnf))
 exact AY (ET (by omega) (GI (by omega))) (DW _)
theorem Yt (n1 n2:Bool) (A B:Nat) (hB:B≠0):(bif n1 then -(A:Int) else (A:Int))/(bif n2 then -(B:Int) else (B:Int))=(bif n1 != n2 then -((if n1=true/\A%B≠0 then A/B+1 else A/B:Nat):Int) else ((if n1=true/\A%B≠0 then A/B+1 else A/B:Nat):Int)) /\
  (bif n1 then -(A:Int) else (A:Int))%(bif n2 then -(B:Int) else (B:Int))=((if n1=true/\A%B≠0 then B-A%B else A%B:Nat):Int):=by
 have hBp:(0:Int)<B:=by omega
 have key : ∀ x:Int,x/(bif n2 then -(B:Int) else (B:Int))=(bif n2 then -(x/B) else x/B)/\x%(bif n2 then -(B:Int) else (B:Int))=x%B:=λ x=>by
  cases n2
  ·exact ⟨rfl,rfl⟩
  ·exact ⟨Int.ediv_neg x B,Int.emod_neg x B⟩
 rw[(key _).1,(key _).2];cases n1
 ·have h1:((A:Int))/B=((A/B:Nat):Int):=by simp
  have h2:((A:Int))%B=((A%B:Nat):Int):=by simp
  simp only[cond_false,h1,h2];cases n2<;>simp
 ·have hd:=Nat.div_add_mod A B
  have o7:=Nat.mod_lt A (show B>0 by omega);by_cases h0:A%B=0
  ·have e : -(A:Int)=(B:Int)*(-((A/B:Nat):Int)):=by
    rw[h0,Nat.add_zero]at hd;rw[Int.mul_neg,<-Int.natCast_mul,hd]
   have h1 : -(A:Int)/B = -((A/B:Nat):Int):=by rw[e,Int.mul_ediv_cancel_left _ (by omega)]
   have h2 : -(A:Int)%B=0:=by rw[e,Int.mul_emod_right]
   simp only[cond_true,h1,h2,h0];cases n2<;>simp
  ·have e : -(A:Int)=(B:Int)*(-((A/B+1:Nat):Int))+((B-A%B:Nat):Int):=by
    have h3:(B:Int)*((A/B:Nat):Int)+((A%B:Nat):Int)=A:=by rw[<-Int.natCast_mul,<-Int.natCast_add,hd]
    rw[Int.mul_neg,Int.natCast_add,Int.mul_add];omega
   have h1 : -(A:Int)/B = -((A/B+1:Nat):Int):=by
    rw[e,Int.mul_add_ediv_left _ _ (by omega),Int.ediv_eq_zero_of_lt (by omega) (by omega),Int.add_zero]
   have h2 : -(A:Int)%B=((B-A%B:Nat):Int):=by
    rw[e,Int.mul_add_emod_self_left,Int.emod_eq_of_lt (by omega) (by omega)]
   simp only[cond_true,h1,h2];cases n2<;>simp [h0]
theorem oL (N:b8 L) (n1 n2 q1 q2:Bool) (a b:List Nat) (ha:Sm 274877906943 a) (hb:Sm 274877906943 b) (h0:zv n2 b≠0):Ev L 119 [.agg (rZ q1 n1 a),.agg (rZ q2 n2 b)] (.g9 [.agg (eZ (zv n1 a/zv n2 b)),.agg (eZ (zv n1 a%zv n2 b)),.int .i64 0]):=by
 have t1:=λ q=>JL N n1 q a (ha.le (by omega))
 have t2:=λ q=>JL N n2 q b (hb.le (by omega))
 have s1:Sm 274877906943 (dg (zv n1 a).natAbs):=by rw[FO];exact ha.Di
 have s2:Sm 274877906943 (dg (zv n2 b).natAbs):=by rw[FO];exact hb.Di
 generalize zv n1 a=x at *;generalize zv n2 b=y at *;have Dr:=λ q q'=>oJ N (dg x.natAbs) (dg y.natAbs) q q' s1.1 s2.1 (by have:=s1.2;omega) (by have:=s2.2;omega) (by rw[BW];omega)
 rw[BW,BW]at Dr;obtain ⟨e1,e2⟩:=Yt (decide (x<0)) (decide (y<0)) x.natAbs y.natAbs (by omega);have hx:(bif decide (x<0) then -(x.natAbs:Int) else (x.natAbs:Int))=x:=by have:=GA x;unfold zv at this;rw[BW]at this;exact this
 have hy:(bif decide (y<0) then -(y.natAbs:Int) else (y.natAbs:Int))=y:=by have:=GA y;unfold zv at this;rw[BW]at this;exact this
 rw[hx,hy]at e1 e2;rw[e1,e2];have l1:=s1.2;have l2:=s2.2;have hq:Sm 274877906943 (dg (x.natAbs/y.natAbs)):=s1.low (by rw[BW];exact Nat.div_le_self _ _);have hr:Sm 274877906943 (dg (x.natAbs%y.natAbs)):=s2.low (by rw[BW];exact Nat.le_of_lt (Nat.mod_lt _ (by omega)));have hrz:=H5 (x.natAbs%y.natAbs);have gl:Ev L 103 [.sl false ((dg (x.natAbs/y.natAbs)).map AL),.sl true [[.int .u32 1]]] (.sl false ((dg (x.natAbs/y.natAbs+1)).map AL)):=by
  have:=oI N (dg (x.natAbs/y.natAbs)) [1] false true (EA _) (HD (by omega)) (by have:=hq.2;omega) (by simp)
  rw[BW,show val [1]=1 from rfl]at this;exact this
 have zl:Sm 274877906944 (dg (x.natAbs/y.natAbs+1)):=hq.add (b:=[1]) (gX (by omega) (by omega)) (by rw[BW];simp [val]);have Hm:=λ q q'=>dE N (dg y.natAbs) (dg (x.natAbs%y.natAbs)) q q' s2.1 hr.1 (by omega) (by have:=hr.2;omega)
 rw[BW,BW]at Hm;have u1:=λ n q=>JL N n q (dg (x.natAbs/y.natAbs)) (hq.le (by omega))
 have u2:=λ n q=>JL N n q (dg (x.natAbs/y.natAbs+1)) zl
 have ez : ∀ n V,zv n (dg V)=bif n then -(V:Int) else (V:Int):=λ n V=>by unfold zv;rw[BW]
 have fin : ∀ (z:Int) (V:Nat),AJ (.g9 [.agg (eZ z),.agg [.bool false,.sl false ((dg V).map AL)],.int .i64 0]) (.g9 [.agg (eZ z),.agg (eZ (V:Int)),.int .i64 0]):=λ z V=>by
  have e3:AV.agg (eZ (V:Int)) = .agg [.bool false,.sl false ((dg V).map AL)]:=(ET (by omega) (GI (by omega))).symm;rw[e3];refine AY rfl ?_;simp only[A7,CJ,and_true,true_and];exact ⟨CS _,CS _⟩
 clear e1 e2 hx hy;generalize x.natAbs/y.natAbs=qq at *;generalize x.natAbs%y.natAbs=rr at *;refine Ev.x N.MY rfl rfl ?_;(repeat' ((first|(apply AG<;>intro hc<;>try omega)|apply AC|refine AE (t1 _) ?_|refine AE (t2 _) ?_|refine AE (Dr _ _) ?_)<;>conv=>whnf))
 generalize decide (x<0)=p at *;generalize decide (y<0)=r at *;cases p
 ·rw[if_neg (by simp),if_neg (by simp),<-ez]
  cases r;all_goals
   (conv=>whnf)
   (repeat' (refine AE (u1 _ _) ?_<;>conv=>whnf))
   exact fin _ _
 ·by_cases k9:rr=0
  ·rw[if_neg (by simp [k9]),if_neg (by simp [k9]),<-ez]
   cases r;all_goals
    (conv=>whnf)
    (repeat' ((first|(apply AG<;>intro hc<;>try omega)|apply AW|refine AE (u1 _ _) ?_)<;>conv=>whnf))
    exact fin _ _
  ·rw[if_pos ⟨rfl,k9⟩,if_pos ⟨rfl,k9⟩,<-ez]
   cases r;all_goals
    (conv=>whnf)
    (repeat' ((first|(apply AG<;>intro hc<;>try omega)|apply AW|refine HN rfl ?_|refine AE (gl) ?_|refine AE (Hm _ _) ?_|refine AE (u2 _ _) ?_)<;>conv=>whnf))
    exact fin _ _
theorem lY:dg 1=[1]:=by rw[I4 (by omega)];simp [E4]
theorem kJ:AV.agg [.bool false,.sl false [],.sl false [[.int .u32 1]]] = .agg (eQ 0):=by
 show _=AV.agg (rQ _ _ _ _ _);rw[Rat.zero_num,Rat.zero_den,lY,show (0:Int).natAbs=0 from rfl,E4];rfl
theorem Uo {x y:Int} (hy:y≠0):(Rat.divInt x y).num=(if y<0 then -(x/((Nat.gcd x.natAbs y.natAbs:Nat):Int)) else x/((Nat.gcd x.natAbs y.natAbs:Nat):Int))/\(Rat.divInt x y).den=(y/((Nat.gcd x.natAbs y.natAbs:Nat):Int)).natAbs:=by
 have h1:=Rat.num_divInt x y;have h2:=Rat.den_divInt x y;rw[if_neg hy]at h2;have hg:Int.gcd y x=Nat.gcd x.natAbs y.natAbs:=by rw[Int.gcd,Nat.gcd_comm]
 rw[hg]at h1 h2;have Lo:0<Nat.gcd x.natAbs y.natAbs:=Nat.gcd_pos_of_pos_right _ (by omega);have dx:((Nat.gcd x.natAbs y.natAbs:Nat):Int) ∣ x:=Int.ofNat_dvd_left.2 (Nat.gcd_dvd_left _ _);have dy:((Nat.gcd x.natAbs y.natAbs:Nat):Int) ∣ y:=Int.ofNat_dvd_left.2 (Nat.gcd_dvd_right _ _);generalize Nat.gcd x.natAbs y.natAbs=g at *;rw[h1,h2];obtain ⟨u,rfl⟩:=dx;obtain ⟨v,rfl⟩:=dy;have Cq:(g:Int)≠0:=by omega
 refine ⟨?_,?_⟩
 ·rw[Int.mul_ediv_cancel_left _ Cq]
  split
  ·rename_i h
   rw[Int.sign_eq_neg_one_of_neg h,show -1*((g:Int)*u)=g*(-u) by rw[Int.mul_neg];omega,Int.mul_ediv_cancel_left _ Cq]
  ·rw[Int.sign_eq_one_of_pos (by omega),Int.one_mul,Int.mul_ediv_cancel_left _ Cq]
 ·rw[Int.mul_ediv_cancel_left _ Cq,Int.natAbs_mul,Int.natAbs_natCast,Nat.mul_div_cancel_left _ Lo]
theorem VF (N:b8 L) (n1 n2 q1 q2:Bool) (a b:List Nat) (ha:Sm 274877906943 a) (hb:Sm 274877906943 b):Ev L 121 [.agg (rZ q1 n1 a),.agg (rZ q2 n2 b)] (.agg (eQ (Rat.divInt (zv n1 a) (zv n2 b)))):=by
 have t1:=λ q=>YJ N n1 q a (ha.le (by omega))
 have t2:=λ q=>YJ N n2 q b (hb.le (by omega))
 by_cases h1:zv n1 a=0
 ·rw[h1,Rat.zero_divInt,<-kJ]
  rw[h1,<-ZY rfl]at t1;refine Ev.x N.IK rfl rfl ?_;(repeat' ((first|(apply AG<;>intro hc<;>try omega)|refine HN rfl ?_|apply AC|refine AE (t1 _) ?_)<;>conv=>whnf))
  exact AY rfl (XU false [] [1])
 have s1:fb (zv n1 a)≠0:=by unfold fb;split<;>(try split)<;>omega
 by_cases h2:zv n2 b=0
 ·rw[h2,Rat.divInt_zero,<-kJ]
  rw[h2,<-ZY rfl]at t2;generalize fb (zv n1 a)=sg at *;refine Ev.x N.IK rfl rfl ?_;(repeat' ((first|(apply AG<;>intro hc<;>try omega)|refine HN rfl ?_|apply AC|refine AE (t1 _) ?_|refine AE (t2 _) ?_)<;>conv=>whnf))
  exact AY rfl (XU false [] [1])
 have s2:fb (zv n2 b)≠0:=by unfold fb;split<;>(try split)<;>omega
 obtain ⟨p1,p2⟩:=Uo (x:=zv n1 a) h2;have hG:=λ q q'=>Adp N n1 n2 q q' a b (ha.le (by omega)) (hb.le (by omega))
 have hle:Nat.gcd (val a) (val b)<=val b:=Nat.gcd_le_right _ (by have:=FO n2 b;omega);have Lo:0<Nat.gcd (val a) (val b):=Nat.gcd_pos_of_pos_right _ (by have:=FO n2 b;omega);have sg:Sm 274877906943 (dg (Nat.gcd (val a) (val b))):=hb.low hle;rw[FO,FO]at p1 p2;have hgf:decide (((Nat.gcd (val a) (val b):Nat):Int)<0)=false:=by simp
 have Rh:Sm 274877906943 (dg (((Nat.gcd (val a) (val b):Nat):Int)).natAbs):=by rw[Int.natAbs_natCast];exact sg
 have zg:zv (decide (((Nat.gcd (val a) (val b):Nat):Int)<0)) (dg (((Nat.gcd (val a) (val b):Nat):Int)).natAbs)=((Nat.gcd (val a) (val b):Nat):Int):=GA _;have Fb:=λ q q'=>oL N n1 _ q q' a _ ha Rh (by rw[zg];omega)
 have Fc:=λ q q'=>oL N n2 _ q q' b _ hb Rh (by rw[zg];omega)
 rw[zg]at Fb Fc;have Cx:Sm 274877906943 (dg (zv n1 a/((Nat.gcd (val a) (val b):Nat):Int)).natAbs):=ha.low (by
  have:(zv n1 a/((Nat.gcd (val a) (val b):Nat):Int)).natAbs<=(zv n1 a).natAbs:=Int.natAbs_ediv_le_natAbs _ _
  rw[FO]at this;exact this)
 have Cq:0<((Nat.gcd (val a) (val b):Nat):Int):=by omega
 generalize ((Nat.gcd (val a) (val b):Nat):Int)=g at *;generalize zv n1 a=x at *;generalize zv n2 b=y at *;generalize fb x=sx at *;generalize fb y=sy at *;have hN:=λ q=>oM N (decide (x/g<0)) q (dg (x/g).natAbs) (Cx.le (by omega))
 rw[GA]at hN;have Eh:decide (y/g<0)=decide (y<0):=by
  congr 1;rw[eq_iff_iff,Int.ediv_lt_iff_lt_mul (by omega),Int.zero_mul]
 refine Ev.x N.IK rfl rfl ?_;(repeat' ((first|(apply AG<;>intro hc<;>try omega)|apply AC|refine AE (t1 _) ?_|refine AE (t2 _) ?_|refine AE (hG _ _) ?_|refine AE (Fb _ _) ?_|refine AE (Fc _ _) ?_)<;>conv=>whnf))
 cases Qk:decide (y/g<0)
 ·rw[Qk]at Eh
  rw[if_neg (of_decide_eq_false Eh.symm)]at p1;(conv=>whnf)
  skip
  refine AY ?_ (E8 _);show _=AV.agg (rQ _ _ _ _ _);rw[p1,p2]
 ·rw[Qk]at Eh
  rw[if_pos (of_decide_eq_true Eh.symm)]at p1;(conv=>whnf)
  (repeat' (refine AE (hN _) ?_<;>conv=>whnf))
  refine AY ?_ (E8 _);show _=AV.agg (rQ _ _ _ _ _);rw[p1,p2]
theorem Up {z:Int} {d:List Nat}:Rat.divInt z (zv false d)=mkRat z (val d):=by rw[E6,Rat.divInt_ofNat]
def zH (n:Bool) (m d:List Nat) (n':Bool) (m' d':List Nat) (k:Nat):Prop:=Sm k m'/\Sm k d'/\val d'≠0/\qv n m d=mkRat (zv n' m') (val d')
theorem lC (n:Bool) (m d:List Nat):A7 (.g9 [.agg (rZ false n m),.agg (rZ false false d)]):=by
 simp only[A7,CJ,and_true,true_and];exact ⟨CS _,CS _⟩
theorem PR (N:b8 L) (n q:Bool) (m d:List Nat) (k:Nat) (hk:1<=k/\k<=274877906943) (hm:Sm k m) (hd:Sm k d) : ∃ n' m' d',Ev L 122 [.agg (rQ false q n m d)] (.g9 [.agg (rZ false n' m'),.agg (rZ false false d')])/\zH n m d n' m' d' k:=by
 have t1:=λ q=>GG N d q hd.1 (by have:=hd.2;omega)
 have hl:=H5 (val d);by_cases h0:val d=0
 ·refine ⟨false,[],[1],?_,ZZ _,gX hk.1 (by omega),by decide,by unfold qv;rw[h0,Rat.mkRat_zero,wN,Rat.zero_mkRat]⟩
  refine Ev.x N.J0 rfl rfl ?_;(repeat' ((first|(apply AG<;>intro hc<;>try omega)|apply AW|refine HN rfl ?_|apply AC|refine AE (t1 _) ?_)<;>conv=>whnf))
  exact AY rfl (lC false [] [1])
 ·refine ⟨n,m,dg (val d),?_,hm,hd.Di,by rw[BW];exact h0,by rw[BW];rfl⟩
  refine Ev.x N.J0 rfl rfl ?_;(repeat' ((first|(apply AG<;>intro hc<;>try omega)|apply AW|apply AC|refine AE (t1 _) ?_)<;>conv=>whnf))
  exact AY rfl (lC _ _ _)
theorem oQ (N:b8 L) (n q:Bool) (m d:List Nat) (hm:Sm 274877906943 m) (hd:Sm 274877906943 d) {q0:Bool}:Ev L 123 [.agg (rQ q0 q n m d)] (.agg (eQ (qv n m d))):=by
 obtain ⟨n',m',d',hp,s1,s2,s3,s4⟩:=PR N n false m d 274877906943 (by omega) hm hd;have hr:=λ q q'=>VF N n' false q q' m' d' s1 s2
 rw[Up,<-s4]at hr;refine Ev.x N.NJ rfl rfl ?_;(repeat' ((first|apply T9|apply AC|refine AE (hp) ?_|refine AE (hr _ _) ?_)<;>conv=>whnf))
 exact AY rfl (E8 _)
theorem Rz (z:Int):AV.agg [.bool (decide (z<0)),.sl false ((dg z.natAbs).map AL),.sl false [[.int .u32 1]]] = .agg (eQ (z:Rat)):=by
 show _=AV.agg (rQ _ _ _ _ _);rw[Rat.num_intCast,Rat.den_intCast,lY];rfl
theorem S8 (N:b8 L) (z:Int) (hz : -9223372036854775808<=z/\z<=9223372036854775807):Ev L 124 [.int .i64 z] (.agg (eQ (z:Rat))):=by
 have h1:=dF N z hz;refine Ev.x N.NE rfl rfl ?_;(repeat' ((first|refine HN rfl ?_|apply AC|refine AE (h1) ?_)<;>conv=>whnf))
 exact AY (Rz z) (E8 _)
theorem uM {z:Int} (hz : -9223372036854775808<=z/\z<=9223372036854775808):Sm 2 (dg z.natAbs):=Sm.dg (by omega)
theorem VD (N:b8 L) (x y:Int) (hx : -9223372036854775808<=x/\x<=9223372036854775807) (hy : -9223372036854775808<=y/\y<=9223372036854775807):Ev L 125 [.int .i64 x,.int .i64 y] (.agg (eQ (Rat.divInt x y))):=by
 have h1:=dF N x hx;have h2:=dF N y hy;have hr:=λ q q'=>VF N (decide (x<0)) (decide (y<0)) q q' _ _ ((uM (z:=x) (by omega)).le (by omega)) ((uM (z:=y) (by omega)).le (by omega))
 rw[GA,GA]at hr;refine Ev.x N.NB rfl rfl ?_;(repeat' ((first|apply AC|refine AE (h1) ?_|refine AE (h2) ?_|refine AE (hr _ _) ?_)<;>conv=>whnf))
 exact AY rfl (E8 _)
theorem R8 {k l:Nat} {n1 n2:Bool} {a b:List Nat} (ha:Sm k a) (hb:Sm l b):Sm (k+l) (dg (zv n1 a*zv n2 b).natAbs):=ha.mul hb (by rw[Int.natAbs_mul,FO,FO])
theorem Ag2 {k:Nat} {x y:Int} (ha:Sm k (dg x.natAbs)) (hb:Sm k (dg y.natAbs)):Sm (k+1) (dg (x+y).natAbs):=ha.add hb (by rw[BW,BW];omega)
theorem oO (N:b8 L) (k:Nat) (hk:1<=k/\k<=68719476736) (n1 n2 q2 q4:Bool) (m1 d1 m2 d2:List Nat) (ni:Sm k m1) (pd:Sm k d1) (jy:Sm k m2) (uw:Sm k d2) {q1 q3:Bool} :
  Ev L 126 [.agg (rQ q1 q2 n1 m1 d1),.agg (rQ q3 q4 n2 m2 d2)] (.agg (eQ (qv n1 m1 d1+qv n2 m2 d2))):=by
 obtain ⟨a1,a2,a3,dc,s1,s2,s3,s5⟩:=PR N n1 false m1 d1 k (by omega) ni pd;obtain ⟨b1,b2,b3,gn,t1,t2,t3,t5⟩:=PR N n2 false m2 d2 k (by omega) jy uw;have l1:=s1.2;have l2:=s2.2;have l3:=t1.2;have l4:=t2.2;rw[s5,t5,fJ s3 t3,<-E6 b3,<-E6 a3];have ck:=λ q q'=>RB N a1 false q q' a2 b3 s1.1 t2.1 (by omega)
 have fi:=λ q q'=>RB N b1 false q q' b2 a3 t1.1 s2.1 (by omega)
 have tp:=λ q q'=>RB N false false q q' a3 b3 s2.1 t2.1 (by omega)
 have g1:Sm (k+k) (dg (zv a1 a2*zv false b3).natAbs):=R8 s1 t2;have g2:Sm (k+k) (dg (zv b1 b2*zv false a3).natAbs):=R8 t1 s2;have g3:=Ag2 g1 g2;have g4:Sm (k+k) (dg (zv false a3*zv false b3).natAbs):=R8 s2 t2;have hA:=λ q q'=>Ado N (decide (zv a1 a2*zv false b3<0)) (decide (zv b1 b2*zv false a3<0)) q q' _ _ (g1.le (by omega)) (g2.le (by omega))
 rw[GA,GA]at hA;have hR:=λ q q'=>VF N (decide (zv a1 a2*zv false b3+zv b1 b2*zv false a3<0)) (decide (zv false a3*zv false b3<0)) q q' _ _ (g3.le (by omega)) (g4.le (by omega))
 rw[GA,GA,show zv false a3*zv false b3=((val a3*val b3:Nat):Int) by rw[E6,E6];simp,Rat.divInt_ofNat]at hR;rw[show zv false a3*zv false b3=((val a3*val b3:Nat):Int) by rw[E6,E6];simp]at tp;refine Ev.x N.M9 rfl rfl ?_;(repeat' ((first|apply T9|apply AC|refine AE (dc) ?_|refine AE (gn) ?_|refine AE (ck _ _) ?_|refine AE (fi _ _) ?_|refine AE (hA _ _) ?_|refine AE (tp _ _) ?_|refine AE (hR _ _) ?_)<;>conv=>whnf))
 exact AY rfl (E8 _)
theorem Adq (N:b8 L) (k:Nat) (hk:1<=k/\k<=68719476736) (n1 n2 q2 q4:Bool) (m1 d1 m2 d2:List Nat) (ni:Sm k m1) (pd:Sm k d1) (jy:Sm k m2) (uw:Sm k d2) {q1 q3:Bool} :
  Ev L 128 [.agg (rQ q1 q2 n1 m1 d1),.agg (rQ q3 q4 n2 m2 d2)] (.agg (eQ (qv n1 m1 d1*qv n2 m2 d2))):=by
 obtain ⟨a1,a2,a3,dc,s1,s2,s3,s5⟩:=PR N n1 false m1 d1 k (by omega) ni pd;obtain ⟨b1,b2,b3,gn,t1,t2,t3,t5⟩:=PR N n2 false m2 d2 k (by omega) jy uw;have l1:=s1.2;have l2:=s2.2;have l3:=t1.2;have l4:=t2.2;rw[s5,t5,fK];have ck:=λ q q'=>RB N a1 b1 q q' a2 b2 s1.1 t1.1 (by omega)
 have tp:=λ q q'=>RB N false false q q' a3 b3 s2.1 t2.1 (by omega)
 have g1:Sm (k+k) (dg (zv a1 a2*zv b1 b2).natAbs):=R8 s1 t1;have g4:Sm (k+k) (dg (zv false a3*zv false b3).natAbs):=R8 s2 t2;have hR:=λ q q'=>VF N (decide (zv a1 a2*zv b1 b2<0)) (decide (zv false a3*zv false b3<0)) q q' _ _ (g1.le (by omega)) (g4.le (by omega))
 rw[GA,GA,show zv false a3*zv false b3=((val a3*val b3:Nat):Int) by rw[E6,E6];simp,Rat.divInt_ofNat]at hR;rw[show zv false a3*zv false b3=((val a3*val b3:Nat):Int) by rw[E6,E6];simp]at tp;refine Ev.x N.NC rfl rfl ?_;(repeat' ((first|apply T9|apply AC|refine AE (dc) ?_|refine AE (gn) ?_|refine AE (ck _ _) ?_|refine AE (tp _ _) ?_|refine AE (hR _ _) ?_)<;>conv=>whnf))
 exact AY rfl (E8 _)
theorem Bt.um {k:Nat} {x:Rat} (h:Bt k x) (hk:k<2199023255552):Sm 68719476736 (dg x.num.natAbs)/\Sm 68719476736 (dg x.den):=h.Om (by omega)
theorem Xw (N:b8 L) {x y:Rat} {k l:Nat} (hx:Bt k x) (hy:Bt l y) (hk:k<2199023255552) (hl:l<2199023255552):Ev L 126 [.agg (eQ x),.agg (eQ y)] (.agg (eQ (x+y))):=by
 have:=oO (q1:=false) (q3:=false) N 68719476736 (by omega) (decide (x.num<0)) (decide (y.num<0)) false false _ _ _ _ (hx.um hk).1 (hx.um hk).2 (hy.um hl).1 (hy.um hl).2
 rw[GT,GT]at this;exact this
theorem Zi (N:b8 L) {x:Rat} {k:Nat} (hx:Bt k x) (hk:k<2199023255552):Ev L 123 [.agg (eQ x)] (.agg (eQ x)):=by
 have:=oQ (q0:=false) N (decide (x.num<0)) false _ _ ((hx.um hk).1.le (by omega)) ((hx.um hk).2.le (by omega))
 rw[GT]at this;exact this
theorem oH (N:m6 L) {x:Rat} {k:Nat} (hx:Bt k x) (hk:k<2199023255552):Ev L 152 [.agg (eQ x)] (.agg (eQ (-x))):=by
 have hT:=Zi N.tob8 hx hk;have hN:=λ q=>oM N.tob8 (decide (x.num<0)) q (dg x.num.natAbs) ((hx.um hk).1.le (by omega))
 rw[GA]at hN;refine Ev.x N.ND rfl rfl ?_;(repeat' ((first|apply AC|refine AE (hT) ?_|refine AE (hN _) ?_)<;>conv=>whnf))
 refine AY ?_ (E8 _);show _=AV.agg (rQ _ _ _ _ _);rw[Rat.neg_num,Rat.neg_den]
theorem AeY {a c:Int} {b d:Nat} (hb:b≠0) (hd:d≠0) (hc:c≠0):mkRat a b/mkRat c d=Rat.divInt (a*d) (b*c):=by
 rw[Rat.div_def,<-Rat.divInt_ofNat,<-Rat.divInt_ofNat,Rat.inv_divInt,Rat.divInt_mul_divInt]
theorem dD (N:m6 L) (q1 q2:Bool) (m:List Nat) (hm:m.length<=274877906944):Ev L 156 [.sl q1 (m.map AL),.sl q2 (m.map AL)] (.bool true):=by
 refine Ev.x N.MV rfl rfl ?_;(repeat' ((first|(apply AG<;>intro hc<;>try omega)|apply AW|apply AC)<;>conv=>whnf))
 refine DT (λ i=>m.length-i) (λ(i:Nat)=>i<=m.length) (λ i=>[(5,.int .i64 i)]) (λ_=>[]) 0 (by omega) ?_;intro i p1 ih;by_cases hi:i<m.length
 ·obtain ⟨x,hx⟩ : ∃ x,m[i]? = some x:=⟨_,zE hi⟩
  have mw:m[(i:Int).toNat]? = some x:=hx;(repeat' ((first|(apply AG<;>intro hc<;>try omega)|(apply A0;omega)|apply AW|(refine BD (by assumption) ?_ rfl ?_;omega)|apply AC)<;>conv=>whnf))
  exact BR [] (ih (i+1) (by omega) (by omega))
 ·obtain rfl:i=m.length:=by omega
  clear ih;(repeat' ((first|(apply AG<;>intro hc<;>try omega)|apply AW|apply AC)<;>conv=>whnf))
  exact ES rfl
theorem oN (N:m6 L) (n q1 q2:Bool) (m:List Nat) (hm:m.length<=274877906944):Ev L 157 [.agg (rZ q1 n m),.agg (rZ q2 n m)] (.bool true):=by
 have h1:=λ q1 q2=>dD N q1 q2 m hm
 refine Ev.x N.M6 rfl rfl ?_;cases n;all_goals
  (repeat' ((first|apply AC|refine AE (h1 _ _) ?_)<;>conv=>whnf))
  exact ES rfl
theorem oP (N:m6 L) {x:Rat} {k:Nat} (hx:Bt k x) (hk:k<2199023255552):Ev L 158 [.agg (eQ x),.agg (eQ x)] (.bool true):=by
 have hs:=hx.um hk;have h1:=λ q1 q2=>dD N q1 q2 (dg x.den) (by have:=hs.2.2;omega)
 have h2:=λ q1 q2=>oN N (decide (x.num<0)) q1 q2 (dg x.num.natAbs) (by have:=hs.1.2;omega)
 refine Ev.x N.JZ rfl rfl ?_;(repeat' ((first|apply AC|refine AE (h1 _ _) ?_|refine AE (h2 _ _) ?_)<;>conv=>whnf))
 exact ES rfl
theorem cW (N:m6 L) (q1 q2:Bool) (l:List Rat) (k:Nat) (hl:Bs k l) (hk:k<2199023255552) (hn:l.length<=1099511627776):Ev L 159 [.sl q1 (l.map eQ),.sl q2 (l.map eQ)] (.bool true):=by
 refine Ev.x N.NG rfl rfl ?_;(repeat' ((first|(apply AG<;>intro hc<;>try omega)|apply AW|apply AC)<;>conv=>whnf))
 refine DT (λ i=>l.length-i) (λ(i:Nat)=>i<=l.length) (λ i=>[(5,.int .i64 i)]) (λ_=>[]) 0 (by omega) ?_;intro i p1 ih;by_cases hi:i<l.length
 ·obtain ⟨x,hx⟩ : ∃ x,l[i]? = some x:=⟨_,zE hi⟩
  have mw:l[(i:Int).toNat]? = some x:=hx;have hC:=oP N (hl.at hx) hk;(repeat' ((first|(apply AG<;>intro hc<;>try omega)|(apply A0;omega)|apply AW|(refine BD (by assumption) ?_ rfl ?_;omega)|apply AC|refine AE (hC) ?_)<;>conv=>whnf))
  exact BR [] (ih (i+1) (by omega) (by omega))
 ·obtain rfl:i=l.length:=by omega
  clear ih;(repeat' ((first|(apply AG<;>intro hc<;>try omega)|apply AW|apply AC)<;>conv=>whnf))
  exact ES rfl
end Go.g6

namespace Go.g6
open F
theorem Xg {L:Lib} {f:Nat} {fn:AFn} {vs:List AV} {own n0:AH} {r:AV} (hL:L f=some fn) (He:H0 fn.body=true) (h:GY L f vs own r n0):n0=own:=by
 obtain ⟨n,h⟩:=h;cases n with
 | zero=>simp [DD]at h
 | succ n =>
  rw[S5]at h;simp only[hL]at h;split at h
  ·split at h
   ·rename_i st m4
    split at h
    ·simp only[Option.some.injEq,Prod.mk.injEq]at h
     rw[<-h.2];exact IU n (by simp [OX,He]) m4
    ·cases h
   ·cases h
  ·cases h
attribute [local irreducible] AA AF AM AD CZ AX A9 BG B8 B6 CT D8 B9 BF B1 CR AB A6 AJ pw BN BH CQ CK C6 C7 CW BV D4
set_option maxHeartbeats 1000000
variable {L:Lib}
theorem Vs (N:e9 L) (l:List Nat) (s:Nat) (hD:A1 l) (hl:l.length<=1099511627776):A6 L 65 [.row 5 0 1 0 l.length] [(0,.row 5 0 1 0 l.length)] [(5,s,.rw 1 (l.map AL))] (λ r _=>r = .row 5 0 1 0 (dg (val l)).length):=by
 have hlen : ∀ n,n<=l.length->l.take n=dg (val l)->n=(dg (val l)).length:=λ n h1 h2=>by
  rw[<-h2,List.length_take];omega
 refine E2 1000 N.FQ rfl rfl ?_;(repeat' (apply AC<;>conv=>whnf))
 refine DT (λ n=>n) (λ(n:Nat)=>n<=l.length /\ ∀ i,n<=i->i<l.length->l[i]? = some 0) (λ n=>[(3,.int .i64 n)]) (λ_=>[]) l.length ⟨Nat.le_refl _,λ i h1 h2=>by omega⟩ ?_;intro n ⟨p1,p2⟩ ih;rcases n with _|n
 ·(repeat' ((first|(apply AG<;>intro hc<;>try omega)|apply AC)<;>conv=>whnf))
  refine G9 0 (by omega) (by omega) ?_;(conv=>whnf)
  refine ⟨rfl,_,rfl,?_⟩;rw[<-hlen 0 p1 (GE hD p1 p2 (Or.inl rfl))];rfl
 ·have e1:((n+1:Nat):Int)-1=n:=by omega
  (repeat' ((first|(apply AG<;>intro hc<;>try omega)|(apply AU;omega)|(apply CE;omega)|(refine QQ (by assumption) ?_ (λ v hv hb => ?_);omega)|apply AC)<;>conv=>whnf))
  ·rw[e1]
   exact BR [] (ih n (by omega) ⟨by omega,λ i h1 h2=>by
    by_cases h:i=n
    ·subst h
     rw[e1,Int.toNat_natCast]at hv;rw[hv];congr 1;omega
    ·exact p2 i (by omega) h2⟩)
  ·refine G9 (n+1) (by omega) (by omega) ?_
   (conv=>whnf)
   refine ⟨rfl,_,rfl,?_⟩;rw[e1,Int.toNat_natCast]at hv;rw[<-hlen (n+1) p1 (GE hD p1 p2 (Or.inr ⟨_,hv,by omega⟩))];rfl
theorem Vr (N:e9 L) (l:List Nat) (s t:Nat) (own:AH) (hD:A1 l) (hl:l.length<=1099511627776) (hb:(own s).g8 t=some ⟨1,l.map AL⟩) (ht:t<(own s).j6) (pg:EZ s=true):GY L 65 [.row s t 1 0 l.length] own (.row s t 1 0 (dg (val l)).length) own:=by
 have hs:GO (λ_ _=>(s,t)) own [(5,s,.rw 1 (l.map AL))]:=by
  have key : ∀ k u c,c5 [(5,s,BC.rw 1 (l.map AL))] k u=some c->k=5/\u=0/\c = .rw 1 (l.map AL):=λ k u c e=>by
   simp only[c5,c8]at e;cases hk:Nat.beq k 5<;>simp only[hk,cond_true,cond_false]at e
   ·cases e
   ·cases u with
    | zero=>simp only[Option.some.injEq]at e;exact ⟨Nat.eq_of_beq_eq_true hk,rfl,e.symm⟩
    | succ u=>cases e
  refine ⟨λ k s' c e => ?_,λ k u c e => ?_,λ k u c e=>ht,λ k u k' u' c c' e e' _ => ?_,λ_ _ _ _ _=>pg⟩
  ·simp only[c8]at e
   cases hk:Nat.beq k 5<;>simp only[hk,cond_true,cond_false]at e
   ·cases e
   ·simp only[Option.some.injEq,Prod.mk.injEq]at e;exact e.1
  ·obtain ⟨_,_,rfl⟩:=key k u c e
   exact hb
  ·obtain ⟨rfl,rfl,_⟩:=key k u c e
   obtain ⟨rfl,rfl,_⟩:=key k' u' c' e';exact ⟨rfl,rfl⟩
 have hw:=Vs N l s hD hl;unfold A6 at hw;obtain ⟨r,n0,σ',M',h1,h2,h3,rfl⟩:=hw _ own hs;have ho:=Xg N.FQ (by decide +kernel) h1;subst ho;have h4:AV.row (σ' 5 0).1 (σ' 5 0).2 1 0 l.length=AV.row s t 1 0 l.length:=h3 0;simp only[AV.row.injEq]at h4;have h5:GY L 65 [.row s t 1 0 l.length] n0 (.row (σ' 5 0).1 (σ' 5 0).2 1 0 (dg (val l)).length) n0:=h1;rw[h4.1,h4.2.1]at h5;exact h5
theorem WU (N:e9 L) {l:List Nat} {tm:Tm} {M:Mem} {K:AV->Mem->Prop} {key s len:Nat} (hD:A1 l) (hl:l.length<=1099511627776) (hm:c8 M key=some (s,.rw 1 (l.map AL))) (hlen:len=l.length) (hk:K (.row key 0 1 0 (dg (val l)).length) M):A6 L 65 [.row key 0 1 0 len] tm M K:=by
 subst hlen;unfold A6;intro σ own hs;have gu:=hs.site _ _ _ hm;have Hc:c5 M key 0=some (.rw 1 (l.map AL)):=by simp only[c5,hm]
 have hb:=hs.g8 _ _ _ Hc;have ht:=hs.old _ _ _ Hc;refine ⟨.row key 0 1 0 (dg (val l)).length,own,σ,M,?_,hs,λ_=>rfl,hk⟩;exact Vr N l (σ key 0).1 (σ key 0).2 own hD hl hb ht (hs.low _ _ _ (EE hm) rfl)
end Go.g6

namespace Go.g6
open F
attribute [local irreducible] AA AF AM AD CZ AX A9 BG B8 B6 CT D8 B9 BF B1 CR AB A6 AJ pw BN BH CQ CK C6 C7 CW BV D4
set_option maxHeartbeats 4000000
variable {L:Lib}
abbrev cN (v:List Nat) (j m s xl:Nat):Tm:=[(102,AV.sl false (List.map AL v)),(101,AV.row 71012 0 1 j (v.length+1)),
           (100,AV.int IntKind.i64 (↑j + ↑v.length+1)),(99,AV.int IntKind.i64 (↑j + ↑v.length)),
           (98,AV.int IntKind.i64 ↑v.length),(97,AV.int IntKind.i64 ↑j),(96,AV.int IntKind.i64 ↑j),
           (95,AV.row 71012 0 1 0 (xl+1)),(94,AV.int IntKind.i64 ↑j),(93,AV.row 28 0 1 0 m),
           (90,AV.bool true),(14,AV.int IntKind.i64 ↑j),(13,AV.sl false (List.map AL v)),
           (12,AV.row 71012 0 1 0 (xl+1)),(11,AV.int IntKind.u64 ↑s),(7,AV.row 28 0 1 0 m),
           (6,AV.int IntKind.i64 ↑v.length)]
abbrev Ys:List It:=[It.lp FX.l2,It.g8 2,It.code
      (((BK.ops FX.fk false).dr [9,10,84,85,86,87,118,119,120,121,122,123,124,125,126]
         []).seq
       (((BK.ops FX.iv false).dr [127,128,129,130,131] []).seq
        ((((BK.ops FX.jl false).dr [15,132,133] []).seq
           (BK.cond 134
            (((BK.ops FX.nn false).dr [0,1,5,7,134,135,136] []).seq BK.ret)
            BK.skip)).seq
         (((BK.ops FX.pz false).dr [134] []).seq
          ((((BK.ops FX.tn false).dr [1] []).seq (BK.block 4 FX.l3.loop)).seq
           (((BK.ops FX.Dk false).dr
              [0,5,9,137,138,139,140,162,163,164,165,166,167,168,169] []).seq
            (((BK.ops FX.Ei false).dr [7,170,171,172] []).seq BK.ret)))))))]
section
variable {A W C w v:List Nat} {j m s xl q:Nat} {K:AV->Mem->Prop}
theorem cH (hA:A.length=j) (hW:W.length=v.length+1) (D2:A1 W) (gf:A1 v) (im:2<=v.length) (xo:v.length<=549755813888) (bu:0<val v)
  (r1:q<4294967296) (r2:val W/val v<=q) (r3:q<=val W/val v+1)
  (hk : ∀ (W':List Nat) (o':List (List AV)) (q':Nat),W'.length=v.length+1->A1 W'->val W'=val W%val v->q'=val W/val v->K (.int .u32 (q':Int)) [(71012,71012,.rw 1 ((A++W'++C).map AL)),(28,28,.rw 1 (w.map AL)),(71012,71012,.rw 1 o')])
  (ga : ∀ (W':List Nat) (o':List (List AV)) (q':Nat),W'.length=v.length+1->A1 W'->val W'=val W%val v->q'=val W/val v->K (.int .u32 (q':Int)) [(71012,71012,.rw 1 ((A++W'++C).map AL)),(71012,71012,.rw 1 o'),(28,28,.rw 1 (w.map AL))]) :
  AA L Ys ([(86,.int .i64 0),(85,.int .i64 v.length),(84,.sl false (v.map AL)),(10,.int .u64 0),(9,.int .u64 0),(7,.int .u64 (q:Int)),(5,.int .i64 v.length),(0,AV.row 71012 0 1 j (v.length+1)),(1,AV.sl false (List.map AL v))]++GJ 1000 (cN v j m s xl))
   [(71012,71012,BC.rw 1 (List.map AL (A++W++C))),(28,28,BC.rw 1 (List.map AL w))] (jY 1000 FX (cN v j m s xl) K):=by
 refine aM (λ i _ _ _=>v.length-i) (λ(i:Nat) (Z:List Nat) (c b:Nat)=>i<=v.length/\Z.length=v.length+1/\A1 Z/\c<4294967296/\b<=1/\Z.drop i=W.drop i/\val (Z.take i)+q*val (v.take i)=val (W.take i)+4294967296^i*(c+b)) (λ i Z c b=>[(86,.int .i64 i),(10,.int .u64 (b:Int)),(9,.int .u64 (c:Int))]) (λ i Z c b=>[(71012,71012,.rw 1 ((A++Z++C).map AL))]) [] [] 0 W 0 0 (by (conv=>whnf);exact ⟨rfl,rfl,rfl⟩) ⟨by omega,hW,D2,by omega,by omega,rfl,by simp [val]⟩ ?_;intro i Z c b ⟨p1,p2,p3,p4,p5,p6,p7⟩ ih;by_cases hi:i<v.length
 ·obtain ⟨d,hd⟩ : ∃ d,v[i]? = some d:=⟨_,zE hi⟩
  obtain ⟨u,hu⟩ : ∃ u,Z[i]? = some u:=⟨_,zE (by omega)⟩;have dw:=gf.at hd;have po:=p3.at hu;obtain ⟨pr,vd⟩ : ∃ pr,pr=q*d+c:=⟨_,rfl⟩;obtain ⟨m1,m2,m3⟩:=rS r1 dw p4 vd;have yy:W[i]? = some u:=by
   have e1:(Z.drop i)[0]? = (W.drop i)[0]? := by rw[p6]
   simpa [hu] using e1.symm
  (repeat' ((first|(apply AG<;>intro hc<;>try omega)|(apply AU;omega)|(apply F5;omega)|(apply OK;omega)|apply FH|(apply CF;omega)|(refine BD (by assumption) ?_ rfl ?_;omega)|apply AC)<;>conv=>whnf))
  rw[<-vd];refine PG i hu (by omega) ?_;(conv=>whnf)
  (repeat' ((first|(apply AU;omega)|(apply W7;omega)|(apply CF;omega)|apply FU)<;>conv=>whnf))
  obtain ⟨s1,s2⟩:=Z7 po (show pr%4294967296<4294967296 by omega) p5;have m4:=Ae1 p7 vd rfl po p5;generalize EP (EP u (pr%4294967296)) b=t at *;refine NZ i (by omega) (by omega) ?_;(conv=>whnf)
  (repeat' ((first|(apply A0;omega)|apply W6)<;>conv=>whnf))
  refine BL [] (by (conv=>whnf);exact ⟨rfl,rfl,rfl⟩) (ih (i+1) _ _ _ (by omega) ⟨by omega,by simpa using p2,p3.set _ (by omega),m1,s2,?_,?_⟩)
  ·rw[List.drop_set_of_lt (by omega)]
   have e1:(Z.drop i).drop 1=(W.drop i).drop 1:=by rw[p6]
   simpa using e1
  ·rw[F3 (by omega),EB hd,EB yy,Nat.pow_succ]
   exact m4
 ·obtain rfl:i=v.length:=by omega
  clear ih;obtain ⟨u,hu⟩ : ∃ u,Z[v.length]? = some u:=⟨_,zE (by omega)⟩;have po:=p3.at hu;have yy:W[v.length]? = some u:=by
   have e1:(Z.drop v.length)[0]? = (W.drop v.length)[0]? := by rw[p6]
   simpa [hu] using e1.symm
  rw[DB (Nat.le_refl v.length)]at p7;obtain ⟨s1,s2⟩:=Z7 po p4 p5;have m4:=AeZ p7 rfl po p4 p5;have eW:val W=val (W.take v.length)+4294967296^v.length*u:=by
   rw[<-EB yy,DB (by omega)]
  rw[<-eW,<-F3 (show v.length<Z.length by omega),DB (by simp;omega)]at m4;(repeat' ((first|(apply AG<;>intro hc<;>try omega)|(apply AU;omega)|apply AC)<;>conv=>whnf))
  refine PG v.length hu (by omega) ?_;(conv=>whnf)
  (repeat' ((first|(apply AU;omega)|(apply W7;omega)|(apply CF;omega)|apply FU)<;>conv=>whnf))
  generalize EP (EP u c) b=t at *;refine NZ v.length (by omega) (by omega) ?_;(conv=>whnf)
  (repeat' ((first|(apply AG<;>intro hc<;>try omega)|apply W6|(apply EH;omega)|apply AW)<;>conv=>whnf))
  ·have ti:t/9223372036854775808=0:=by omega
   rw[ti,Nat.mul_zero,Nat.add_zero]at m4;obtain ⟨y1,y2⟩:=mF bu r2 m4;exact ⟨rfl,_,rfl,hk _ _ _ (by simpa using p2) (p3.set _ (by omega)) y2 y1⟩
  ·have Qc:t/9223372036854775808=1:=by omega
   rw[Qc,Nat.mul_one]at m4;have Fo:A1 (Z.set v.length (t%4294967296)):=p3.set _ (by omega);have Du:(Z.set v.length (t%4294967296)).length=v.length+1:=by simpa using p2
   clear p7 p6 p4 p5 s1 s2 eW Qc hu yy po p1 p2 p3;generalize Z.set v.length (t%4294967296)=X at *;have Dt:=E5 Fo;rw[Du,Nat.pow_succ]at Dt;obtain ⟨y1,y2,y3⟩:=mE bu r3 Dt m4;have hRV:val W%val v<val v:=Nat.mod_lt _ bu;have Cb:=E5 gf;obtain ⟨xw,xq⟩ : ∃ xw,X[v.length]? = some xw:=⟨_,zE (by omega)⟩;have eX:val X=val (X.take v.length)+4294967296^v.length*xw:=by
    rw[<-EB xq,DB (by omega)]
   refine F4 (λ i _ _=>v.length-i) (λ(i:Nat) (Z:List Nat) (c:Nat)=>i<=v.length/\Z.length=v.length+1/\A1 Z/\c<=1/\Z.drop i=X.drop i/\val (Z.take i)+4294967296^i*c=val (X.take i)+val (v.take i)) (λ i Z c=>[(139,.int .i64 i),(9,.int .u64 (c:Int))]) (λ i Z c=>[(71012,71012,.rw 1 ((A++Z++C).map AL))]) 0 X 0 ⟨by omega,Du,Fo,by omega,rfl,by simp [val]⟩ ?_;intro i Z c ⟨p1,p2,p3,p4,p6,p7⟩ ih;by_cases hi:i<v.length
   ·obtain ⟨d,hd⟩ : ∃ d,v[i]? = some d:=⟨_,zE hi⟩
    obtain ⟨u,hu⟩ : ∃ u,Z[i]? = some u:=⟨_,zE (by omega)⟩;have dw:=gf.at hd;have po:=p3.at hu;have nc:X[i]? = some u:=by
     have e1:(Z.drop i)[0]? = (X.drop i)[0]? := by rw[p6]
     simpa [hu] using e1.symm
    have bj:=kG (d:=d) (w:=u) p7 rfl;(repeat' ((first|(apply AG<;>intro hc<;>try omega)|(apply AU;omega)|(refine BD (by assumption) ?_ rfl ?_;omega)|apply AC)<;>conv=>whnf))
    refine PG i hu (by omega) ?_;(conv=>whnf)
    (repeat' ((first|(apply AU;omega)|(apply F5;omega)|(apply CF;omega)|apply FU)<;>conv=>whnf))
    generalize ht2:u+d+c=t2 at *;refine NZ i (by omega) (by omega) ?_;(conv=>whnf)
    (repeat' ((first|(apply A0;omega)|apply FH)<;>conv=>whnf))
    refine BL [] (by (conv=>whnf);exact ⟨rfl,rfl,rfl⟩) (ih (i+1) _ _ (by omega) ⟨by omega,by simpa using p2,p3.set _ (by omega),by omega,?_,?_⟩)
    ·rw[List.drop_set_of_lt (by omega)]
     have e1:(Z.drop i).drop 1=(X.drop i).drop 1:=by rw[p6]
     simpa using e1
    ·rw[F3 (by omega),EB hd,EB nc,Nat.pow_succ]
     exact bj
   ·obtain rfl:i=v.length:=by omega
    clear ih;obtain ⟨u,hu⟩ : ∃ u,Z[v.length]? = some u:=⟨_,zE (by omega)⟩;have po:=p3.at hu;have nc:X[v.length]? = some u:=by
     have e1:(Z.drop v.length)[0]? = (X.drop v.length)[0]? := by rw[p6]
     simpa [hu] using e1.symm
    rw[nc]at xq;obtain rfl:u=xw:=by simpa using xq
    rw[DB (Nat.le_refl v.length)]at p7;have Fp:=E5 (p3.take v.length);rw[List.length_take,Nat.min_eq_left (by omega)]at Fp;rw[eX]at y3;have z9:=kF p7 y3 (by omega) Fp;rw[<-F3 (show v.length<Z.length by omega),DB (by simp;omega)]at z9;(repeat' ((first|(apply AG<;>intro hc<;>try omega)|(apply AU;omega)|apply AC)<;>conv=>whnf))
    refine PG v.length hu (by omega) ?_;(conv=>whnf)
    (repeat' ((first|(apply AU;omega)|apply jS|(apply EH;omega))<;>conv=>whnf))
    refine NZ v.length (by omega) (by omega) ?_;(conv=>whnf)
    (repeat' ((first|(apply I3;omega;omega)|(apply EH;omega))<;>conv=>whnf))
    exact ⟨rfl,_,rfl,ga _ _ _ (by simpa using p2) (p3.set _ (by omega)) z9 y1⟩
theorem Un (N:e9 L) (hA:A.length=j) (hW:W.length=v.length+1) (D2:A1 W) (gf:A1 v) (im:2<=v.length) (xo:v.length<=549755813888) (bu:0<val v)
  (n2:4294967296^(v.length-1)*2147483648<=val v) (g2:val W<4294967296*val v)
  (hk : ∀ (W':List Nat) (o':List (List AV)) (q':Nat),W'.length=v.length+1->A1 W'->val W'=val W%val v->q'=val W/val v->K (.int .u32 (q':Int)) [(71012,71012,.rw 1 ((A++W'++C).map AL)),(28,28,.rw 1 (w.map AL)),(71012,71012,.rw 1 o')])
  (ga : ∀ (W':List Nat) (o':List (List AV)) (q':Nat),W'.length=v.length+1->A1 W'->val W'=val W%val v->q'=val W/val v->K (.int .u32 (q':Int)) [(71012,71012,.rw 1 ((A++W'++C).map AL)),(71012,71012,.rw 1 o'),(28,28,.rw 1 (w.map AL))]) :
  A6 L 73 [AV.row 71012 0 1 j (v.length+1),AV.sl false (List.map AL v)] (cN v j m s xl) [(71012,71012,BC.rw 1 (List.map AL (A++W++C))),(28,28,BC.rw 1 (List.map AL w))] K:=by
 obtain ⟨UL,a1,a2⟩:=aJ D2 (n:=v.length+1) (by omega) (by omega);obtain ⟨VL,b5,b6⟩:=wG gf (n:=v.length) im (by omega);obtain ⟨u0,w0⟩ : ∃ d,W[v.length]? = some d:=⟨_,zE (by omega)⟩;obtain ⟨u1,w1⟩ : ∃ d,W[v.length-1]? = some d:=⟨_,zE (by omega)⟩;obtain ⟨u2,w2⟩ : ∃ d,W[v.length-2]? = some d:=⟨_,zE (by omega)⟩;obtain ⟨f1,x1⟩ : ∃ d,v[v.length-1]? = some d:=⟨_,zE (by omega)⟩;obtain ⟨f2,x2⟩ : ∃ d,v[v.length-2]? = some d:=⟨_,zE (by omega)⟩;rw[show v.length+1-3=v.length-2 by omega,show v.length+1-2=v.length-1 by omega,show v.length+1-1=v.length by omega,GP w0,GP w1,GP w2]at a2;rw[show v.length+1-3=v.length-2 by omega]at a1;rw[GP x1,GP x2]at b6;have wo:=vX gf (k:=v.length-1) (by omega) n2 x1;have k0:=D2.at w0;have k1:=D2.at w1;have k2:=D2.at w2;have k3:=gf.at x1;have k4:=gf.at x2;have z1:v[((v.length:Int)-1).toNat]? = some f1:=by rw[show ((v.length:Int)-1).toNat=v.length-1 by omega];exact x1
 have z2:v[((v.length:Int)-2).toNat]? = some f2:=by rw[show ((v.length:Int)-2).toNat=v.length-2 by omega];exact x2
 refine E2 1000 N.FX rfl rfl ?_;(repeat' ((first|(apply AU;omega)|apply AW|apply AC)<;>conv=>whnf))
 refine PG v.length w0 (by omega) ?_;(conv=>whnf)
 (repeat' ((first|(apply AU;omega)|(apply CE;omega)|(apply NY;omega)|(apply CF;omega))<;>conv=>whnf))
 refine PG (v.length-1) w1 (by omega) ?_;(conv=>whnf)
 refine jH (by omega) ?_;(conv=>whnf)
 refine OL (by omega) ?_;(conv=>whnf)
 generalize Nk:u0*4294967296+u1=top at *;have rf:top<=18446744073709551615:=by omega
 have hU:val W=UL+4294967296^(v.length-2)*(u2+4294967296*top):=by rw[a2,show u1+4294967296*u0=top by omega]
 (repeat' ((first|(apply CE;omega)|(apply UE;omega)|(apply W5;omega;omega)|(apply CF;omega)|(refine BD (by assumption) ?_ rfl ?_;omega))<;>conv=>whnf))
 refine WR (λ q _=>q) (λ(q r:Nat)=>Gs (val W) (val v) f1 f2 u2 top q r) (λ q r=>[(7,.int .u64 (q:Int)),(8,.int .u64 (r:Int))]) (λ_ _=>[]) [] [] (top/f1) (top%f1) (by (conv=>whnf);exact ⟨rfl,rfl,rfl⟩) (Gs.start hU b6 a1 k2 bu (by omega) k3) ?_;intro q r g pt;have hqt:q<=top:=by
  have h3:=g.hq;have h4:q*1<=q*f1:=Nat.mul_le_mul_left q (by omega);omega
 have hr:=g.hr;have qo:=g.ge;by_cases hb:4294967296<=q
 ·obtain ⟨y1,y2,y3⟩:=g.next hU b6 a1 bu g2 (Or.inl hb)
  (repeat' ((first|(apply AG<;>intro hc<;>try omega)|(apply CE;omega)|(apply F5;omega)|(apply I3;omega;omega)|(apply CF;omega)|apply AW|(refine BD (by assumption) ?_ rfl ?_;omega)|apply AC)<;>conv=>whnf))
  ·obtain ⟨t1,t2⟩:=TC hU b6 b5 wo k4 g2 y2 (Or.inr (by omega))
   exact BL [] (by (conv=>whnf);exact ⟨rfl,rfl,rfl⟩) (cH (w:=w) (C:=C) hA hW D2 gf im xo bu t1 y3 t2 hk ga)
  ·exact BL [] (by (conv=>whnf);exact ⟨rfl,rfl,rfl⟩) (pt (q-1) (r+f1) (by omega) ⟨y2,by omega,y3⟩)
 ·have hmq:=TK (show q<4294967296 by omega) k4
  by_cases w9:r*4294967296+u2<q*f2
  ·obtain ⟨y1,y2,y3⟩:=g.next hU b6 a1 bu g2 (Or.inr w9)
   (repeat' ((first|(apply AG<;>intro hc<;>try omega)|(apply AU;omega)|(apply CE;omega)|(apply OK;omega)|(apply NY;omega)|(apply CF;omega)|(refine BD (by assumption) ?_ rfl ?_;omega)|apply AC)<;>conv=>whnf))
   refine PG (v.length-2) w2 (by omega) ?_;(conv=>whnf)
   (repeat' ((first|(apply AG<;>intro hc<;>try omega)|(apply CE;omega)|(apply F5;omega)|(apply OL;omega)|(apply I3;omega;omega)|(apply CF;omega)|apply AW|(refine BD (by assumption) ?_ rfl ?_;omega))<;>conv=>whnf))
   ·obtain ⟨t1,t2⟩:=TC hU b6 b5 wo k4 g2 y2 (Or.inr (by omega))
    exact BL [] (by (conv=>whnf);exact ⟨rfl,rfl,rfl⟩) (cH (w:=w) (C:=C) hA hW D2 gf im xo bu t1 y3 t2 hk ga)
   ·exact BL [] (by (conv=>whnf);exact ⟨rfl,rfl,rfl⟩) (pt (q-1) (r+f1) (by omega) ⟨y2,by omega,y3⟩)
  ·obtain ⟨t1,t2⟩:=TC hU b6 b5 wo k4 g2 g.hq (Or.inl ⟨by omega,by omega⟩)
   (repeat' ((first|(apply AG<;>intro hc<;>try omega)|(apply AU;omega)|(apply CE;omega)|(apply OK;omega)|(apply NY;omega)|(apply CF;omega)|(refine BD (by assumption) ?_ rfl ?_;omega)|apply AC)<;>conv=>whnf))
   refine PG (v.length-2) w2 (by omega) ?_;(conv=>whnf)
   (repeat' ((first|(apply AG<;>intro hc<;>try omega)|(apply OL;omega)|(apply CF;omega)|apply AW)<;>conv=>whnf))
   exact BL [] (by (conv=>whnf);exact ⟨rfl,rfl,rfl⟩) (cH (w:=w) (C:=C) hA hW D2 gf im xo bu t1 qo t2 hk ga)
end
end Go.g6

namespace Go.g6
open F
attribute [local irreducible] AA AF AM AD CZ AX A9 BG B8 B6 CT D8 B9 BF B1 CR AB A6 AJ pw BN BH CQ CK C6 C7 CW BV D4
variable {L:Lib}
set_option maxHeartbeats 4000000
theorem Ag3 {V R y d t Q:Nat} (h:Q*y+R=V) (ht:t=R*4294967296+d):(t/y+4294967296*Q)*y+t%y=d+4294967296*V:=by
 have:=Nat.div_add_mod t y
 rw[<-h,Nat.add_mul];have e:t/y*y=y*(t/y):=Nat.mul_comm _ _;grind
theorem UW (a b:List Nat):A7 (.g9 [.sl false (a.map AL),.sl false (b.map AL)]):=by
 simp only[A7,CJ,and_true,true_and];exact ⟨CS a,CS b⟩
set_option maxHeartbeats 4000000 in
theorem dB (N:e9 L) (X Y:Nat) (q1 q2:Bool) (hY:Y≠0) (lx:(dg X).length<=549755813888) (ly:(dg Y).length<=549755813888):Ev L 74 [.sl q1 ((dg X).map AL),.sl q2 ((dg Y).map AL)] (.g9 [.sl false ((dg (X/Y)).map AL),.sl false ((dg (X%Y)).map AL)]):=by
 have n8:=λ q q'=>RA N (dg X) (dg Y) q q' (EA X) (EA Y) (by omega) (by omega)
 rw[BW,BW]at n8;have d1:=EA X;have d2:=EA Y;have v1:=BW X;have v2:=BW Y;have hy1:=U4 hY;refine Ev.x N.L6 rfl rfl ?_;by_cases o7:X<Y
 ·have hn:DC X Y = -1:=(H3 (by omega)).symm
  rw[hn]at n8;(repeat' ((first|(apply AG<;>intro hc<;>try omega)|apply AC|refine AE (n8 _ _) ?_|refine AE (nN N (dg X) _ (by omega)) ?_)<;>conv=>whnf))
  refine AY ?_ (UW _ _);rw[Nat.div_eq_of_lt o7,Nat.mod_eq_of_lt o7,E4];rfl
 have qo:0<=DC X Y:=by unfold DC;split<;>(try split)<;>omega
 have zh:=PO (show Y<=X by omega);generalize DC X Y=cm at *;by_cases h1:(dg Y).length=1
 ·-- one digit
  obtain ⟨y0,ri⟩ : ∃ y0,dg Y=[y0]:=List.length_eq_one_iff.1 h1;have yo:Y=y0:=by rw[<-v2,ri];simp [val]
  subst yo;have ue:Y<4294967296:=d2 Y (by rw[ri];simp);have hyg:(dg Y)[0]? = some Y:=by rw[ri];rfl
  clear ri v2;generalize dg Y=y at *;generalize hx:dg X=x at *;(repeat' ((first|(apply AG<;>intro hc<;>try omega)|(apply A0;omega)|(apply CE;omega)|apply AW|apply AC|refine AE (n8 _ _) ?_)<;>conv=>whnf))
  refine ER (enc:=AL) 0 x.length rfl (by omega) (by omega) ?_;(conv=>whnf)
  (repeat' ((first|(apply AG<;>intro hc<;>try omega)|(apply CE;omega)|apply AW)<;>conv=>whnf))
  refine F4 (λ n _ _=>n) (λ(n:Nat) (o:List Nat) (r:Nat)=>n<=x.length/\o.length=x.length/\A1 o/\r<Y/\val (o.drop n)*Y+r=val (x.drop n)) (λ n o r=>[(8,.int .u64 (r:Int)),(9,.int .i64 ((n:Int)-1))]) (λ n o r=>[(28,28,.rw 1 (o.map AL))]) x.length (List.replicate x.length 0) 0 ⟨by omega,by simp,I5 _,by omega,by rw[List.drop_of_length_le (Nat.le_refl _),List.drop_of_length_le (by simp)];simp [val]⟩ ?_;intro n o r ⟨p1,p2,p3,p4,p5⟩ ih;rcases n with _|n
  ·rw[List.drop_zero,List.drop_zero]at p5
   have hq:X/Y=val o/\X%Y=r:=by
    rw[<-v1,<-p5];have e1:(val o*Y+r)/Y=val o:=by
     rw[Nat.mul_comm,Nat.mul_add_div (by omega),Nat.div_eq_of_lt p4,Nat.add_zero]
    have e2:(val o*Y+r)%Y=r:=by
     rw[Nat.mul_comm,Nat.mul_add_mod,Nat.mod_eq_of_lt p4]
    exact ⟨e1,e2⟩
   rw[hq.1,hq.2,<-p2];clear ih hq p5;have ng:=EX p3;have dc:A1 [r]:=HD (by omega);have iz:=EX dc;have Je:val [r]=r:=by simp [val]
   have Pq:[r].length=1:=rfl;(repeat' ((first|(apply AG<;>intro hc<;>try omega)|(apply EH;omega)|apply AC|refine WU N (by assumption) (by omega) rfl (by first|rfl|omega|assumption) ?_)<;>conv=>whnf))
   refine HO (enc:=AL) (λ_=>rfl) (by omega) ?_;(conv=>whnf)
   refine HO (enc:=AL) (l:=[r]) (λ_=>rfl) (by omega) ?_;(conv=>whnf)
   refine AY ?_ (UW _ _);rw[List.drop_zero,List.drop_zero,WJ p3,WJ dc,Je]
  ·have e1:((n+1:Nat):Int)-1=n:=by omega
   rw[e1];obtain ⟨d,hd⟩ : ∃ d,x[n]? = some d:=⟨_,zE (by omega)⟩;have dw:=d1.at hd;have hYb:Y<4294967296:=ue;have hR:r*4294967296+d<Y*4294967296:=by omega
   have eg:(r*4294967296+d)/Y<4294967296:=(Nat.div_lt_iff_lt_mul (by omega)).2 (by omega);(repeat' ((first|(apply AG<;>intro hc<;>try omega)|(apply AU;omega)|(apply NY;omega)|(apply OL;omega)|(apply W5;omega;omega)|(apply CF;omega)|(apply EH;omega)|(refine BD (by assumption) ?_ rfl ?_;omega)|apply AC)<;>conv=>whnf))
   obtain ⟨t,ht⟩ : ∃ t,t=r*4294967296+d:=⟨_,rfl⟩;rw[<-ht]at hR eg ⊢;have hm:t%Y<Y:=Nat.mod_lt _ (by omega);have m4:=Ag3 p5 ht;rw[<-G8 hd]at m4;clear ht;skip
   refine FC (by omega) ?_;(conv=>whnf)
   (repeat' ((first|(apply CE;omega)|(apply UE;omega)|(apply CF;omega)|(refine BD (by assumption) ?_ rfl ?_;omega))<;>conv=>whnf))
   generalize t/Y=tq at *;generalize t%Y=tr at *;refine BL [] (by (conv=>whnf);exact ⟨rfl,rfl,rfl⟩) (ih n _ _ (by omega) ⟨by omega,by simpa using p2,p3.set _ (by omega),hm,?_⟩);rw[G8 (l:=o.set n tq) (d:=tq) (by rw[List.getElem?_set_self (by omega)]),List.drop_set_of_lt (by omega)];exact m4
 ·-- two digits or more
  have Iz:2<=(dg Y).length:=by omega
  obtain ⟨yt,zx,zy⟩:=cG hY;have xv:=d2.at zx;obtain ⟨b1,b2,b3,b4⟩:=eU zy xv;have Gl:=nQ N yt xv;generalize hs:32-u7 yt=s at *;have ff:s<=31:=by omega
  generalize dg Y=y at *;generalize hx:dg X=x at *;have e1:((y.length:Int)-1).toNat=y.length-1:=by omega
  rw[<-e1]at zx;obtain ⟨rv,kv,v,hV,mc,Mq⟩:=Ade N y q2 s y.length d2 ff (by omega) (by omega);subst Mq;(repeat' ((first|(apply AG<;>intro hc<;>try omega)|(apply A0;omega)|(apply CE;omega)|apply AW|apply AC|refine AE (n8 _ _) ?_)<;>conv=>whnf))
  refine ER (enc:=AL) 0 (x.length-y.length+1) rfl (by omega) (by omega) ?_;(conv=>whnf)
  (repeat' ((first|(apply AG<;>intro hc<;>try omega)|(apply A0;omega)|(apply CE;omega)|(apply CF;omega)|apply AW|(refine BD (by assumption) ?_ rfl ?_;omega)|refine AE (Gl) ?_)<;>conv=>whnf))
  refine E2 1000 N.JU rfl rfl ?_;(repeat' (apply AC<;>conv=>whnf))
  refine ER (enc:=AL) 0 (x.length+1) rfl (by omega) (by omega) ?_;(conv=>whnf)
  (repeat' (apply AW<;>conv=>whnf))
  have ve:=V0 (s:=s) (by omega);refine F4 (λ i _ _=>x.length-i) (λ(i:Nat) (o:List Nat) (lo:Nat)=>i<=x.length/\o.length=x.length+1/\A1 o/\lo<2^s/\val (o.take i)+4294967296^i*lo=val (x.take i)*2^s) (λ i o lo=>[(8,.int .u32 (lo:Int)),(15,.int .i64 i)]) (λ i o lo=>[(71012,71012,.rw 1 (o.map AL))]) 0 (List.replicate (x.length+1) 0) 0 ⟨by omega,by simp,I5 _,Nat.two_pow_pos s,by simp [val]⟩ ?_;intro i o lo ⟨p1,p2,p3,p4,p5⟩ ih;by_cases hi:i<x.length
  ·obtain ⟨d,hd⟩ : ∃ d,x[i]? = some d:=⟨_,zE hi⟩
   have dw:=d1.at hd;obtain ⟨f1,f2,f3,f4⟩:=R6 (s:=s) dw (by omega);(repeat' ((first|(apply AG<;>intro hc<;>try omega)|(refine BD (by assumption) ?_ rfl ?_;omega)|apply AC)<;>conv=>whnf))
   refine jV (by omega) ?_;(conv=>whnf)
   skip
   refine aW s f1 p4 (by omega) ?_;(conv=>whnf)
   (repeat' ((first|(apply AU;omega)|fail)<;>conv=>whnf))
   refine FC (by omega) ?_;(conv=>whnf)
   (repeat' ((first|(apply CF;omega)|fail)<;>conv=>whnf))
   refine ON (by omega) f4 ?_;(conv=>whnf)
   (repeat' ((first|(apply A0;omega)|apply FH|(apply EH;omega))<;>conv=>whnf))
   rw[<-R5];refine BL [] (by (conv=>whnf);exact ⟨rfl,rfl,rfl⟩) (ih (i+1) _ _ (by omega) ⟨by omega,by simpa using p2,p3.set _ (by omega),f2,?_⟩);rw[F3 (by omega),EB hd,Nat.pow_succ];exact rB p5
  obtain rfl:i=x.length:=by omega
  clear ih;(repeat' ((first|(apply AG<;>intro hc<;>try omega)|(apply AU;omega)|apply AW|apply AC)<;>conv=>whnf))
  refine FC (by omega) ?_;(conv=>whnf)
  skip
  have hU:=qZ p3 (by omega) p2 p5;have yi:(o.set x.length lo).length=x.length+1:=by simpa using p2
  clear p3 p4 p5 p2;generalize o.set x.length lo=u at *;refine ⟨rfl,_,rfl,?_⟩;(conv=>whnf)
  (repeat' ((first|(apply CE;omega)|apply AW|refine AE (kv) ?_)<;>conv=>whnf))
  have Nu:y[y.length-1]? = some yt:=by rw[<-e1];exact zx
  obtain ⟨n1,n2⟩:=eI d2 Nu (by omega) ff b3 b4;have Il:val v=Y*2^s:=by rw[<-v2];exact hV.2.2 (by rw[mc];exact n1)
  have Ii:val u=X*2^s:=by
   rw[<-v1];refine hU.2.2 ?_;have h3:=E5 d1;rw[yi,Nat.pow_succ];exact Nat.lt_of_lt_of_le (Nat.mul_lt_mul_of_pos_right h3 (Nat.two_pow_pos s)) (Nat.mul_le_mul_left _ ve)
  have gf:=hV.1;have Ig:=hU.1;have Cc:=E5 gf;rw[v2,<-Il]at n2;rw[<-mc]at n2;clear hV hU n8 kv Gl;have im:2<=v.length:=by omega
  have hvx:v.length<=x.length:=by omega
  have xo:v.length<=549755813888:=by omega
  have hxL:x.length<=549755813888:=by omega
  have hX:X<4294967296^x.length:=by rw[<-v1];exact E5 d1
  rw[<-mc];generalize hm:x.length-v.length+1=m at *;have bu:0<val v:=by
   have:=sY (v.length-1)
   omega
  have wx:val (u.drop m)<val v:=by
   have h1:=J9 u m (by omega);rw[Ii]at h1;have h2:X*2^s<4294967296^x.length*2147483648:=Nat.lt_of_lt_of_le (Nat.mul_lt_mul_of_pos_right hX (Nat.two_pow_pos s)) (Nat.mul_le_mul_left _ (Nat.pow_le_pow_right (by omega) ff));have h3:4294967296^x.length=4294967296^m*4294967296^(v.length-1):=by rw[<-Nat.pow_add];congr 1;omega
   rw[h3,Nat.mul_assoc]at h2;refine Nat.lt_of_lt_of_le ?_ n2;refine Nat.lt_of_mul_lt_mul_left (a:=4294967296^m) ?_;omega
  have e2:(x.length:Int)-v.length=((m:Nat):Int)-1:=by omega
  rw[e2];refine F4 (λ n _ _=>n) (λ(n:Nat) (o w:List Nat)=>n<=m/\o.length=x.length+1/\A1 o/\w.length=m/\A1 w/\val (o.drop n)<val v/\X*2^s=val (o.take n)+4294967296^n*(val (w.drop n)*val v+val (o.drop n))) (λ n o w=>[(14,.int .i64 ((n:Int)-1))]) (λ n o w=>[(71012,71012,.rw 1 (o.map AL)),(28,28,.rw 1 (w.map AL))]) m u (List.replicate m 0) ⟨by omega,yi,Ig,by simp,I5 _,wx,by rw[<-Ii,List.drop_of_length_le (show (List.replicate m 0).length<=m by simp),IZ,Nat.zero_mul,Nat.zero_add];exact J9 u m (by omega)⟩ ?_;intro n o w ⟨p1,p2,p3,p4,p5,p6,p7⟩ ih;rcases n with _|j
  ·clear ih
   rw[List.drop_zero]at p6;rw[List.take_zero,List.drop_zero,List.drop_zero,IZ,Nat.zero_add,Nat.pow_zero,Nat.one_mul]at p7;have qk:val o=val (o.take v.length):=by
    have h1:=SE o v.length;rcases Nat.eq_zero_or_pos (val (o.drop v.length)) with h2|h2
    ·rw[h2,Nat.mul_zero,Nat.add_zero]at h1;exact h1
    ·have h3:4294967296^v.length*1<=4294967296^v.length*val (o.drop v.length):=Nat.mul_le_mul_left _ h2
     omega
   have yz:X/Y=val w/\X%Y=val o/2^s:=by
    obtain ⟨z1,z2⟩:=mH (X:=X) (Y:=Y) (Nat.two_pow_pos s);rw[<-z1,<-z2,<-Il,p7];have e1:(val w*val v+val o)/val v=val w:=by
     rw[Nat.mul_comm,Nat.mul_add_div bu,Nat.div_eq_of_lt p6,Nat.add_zero]
    have e2:(val w*val v+val o)%val v=val o:=by
     rw[Nat.mul_comm,Nat.mul_add_mod,Nat.mod_eq_of_lt p6]
    rw[e1,e2];exact ⟨rfl,rfl⟩
   rw[yz.1,yz.2];have ng:=EX p5;obtain ⟨ro,He,o2,k1,k2,k3,k4⟩:=Adf N (o.take v.length) true s (p3.take _) ff (by rw[List.length_take];omega);subst k4;rw[qk,<-k3];have iz:=EX k1;rw[List.length_take]at k2;clear p7 yz wx;(repeat' ((first|(apply AG<;>intro hc<;>try omega)|apply AC|refine WU N (by assumption) (by omega) rfl (by first|rfl|omega|assumption) ?_)<;>conv=>whnf))
   refine G9 v.length rfl (by omega) ?_;(conv=>whnf)
   refine HO (enc:=AL) (λ_=>rfl) (by omega) ?_;(conv=>whnf)
   rw[List.drop_zero,Nat.sub_zero];(repeat' ((first|refine AE (He) ?_|refine KD (KX N o2 _ k1 (by omega)) ?_)<;>conv=>whnf))
   refine HO (enc:=AL) (λ_=>rfl) (by omega) ?_;(conv=>whnf)
   refine AY ?_ (UW _ _);rw[List.drop_zero,WJ p5]
  ·have e3:((j+1:Nat):Int)-1=j:=by omega
   rw[e3];have e4:(v.length:Int).toNat=v.length:=by omega
   obtain ⟨A,W,C,hA,hW,rfl⟩:=nD o j (v.length+1) (by omega);obtain ⟨g1,g2,g3⟩:=nF hA hW p3 p6 Cc;obtain ⟨D1,D2,D3⟩:=mD p3;have xg:val W/val v<4294967296:=(Nat.div_lt_iff_lt_mul bu).2 g2;have Kg:val W=val W/val v*val v+val W%val v:=by rw[Nat.mul_comm];exact (Nat.div_add_mod _ _).symm
   have hWl:val W%val v<val v:=Nat.mod_lt _ bu;have Ca:X*2^s=val A+4294967296^j*val W+4294967296^j*4294967296*(val (w.drop (j+1))*val v):=by
    rw[p7,Nat.mul_add,<-g3,Nat.pow_succ];omega
   have sz:=nE Ca Kg;have zp : ∀ q',q'=val W/val v->val ((w.set j q').drop j)=val W/val v+4294967296*val (w.drop (j+1)):=λ q' h=>by
    rw[G8 (l:=w.set j q') (d:=q') (by rw[List.getElem?_set_self (by omega)]),List.drop_set_of_lt (by omega),h]
   have hlen : ∀ W':List Nat,W'.length=v.length+1->(A++W'++C).length=x.length+1:=λ W' h=>by
    rw[<-p2];simp [h,hW]
   (repeat' ((first|(apply AG<;>intro hc<;>try omega)|(apply A0;omega)|(apply xZ;omega)|apply AC)<;>conv=>whnf))
   rw[show ((j:Int)+v.length+1).toNat-(j:Int).toNat=v.length+1 by omega,show 0+(j:Int).toNat=j by omega];refine Un N hA hW D2 gf im xo bu n2 g2 (λ W' o' q' z1 z2 z3 z4 => ?_) (λ W' o' q' z1 z2 z3 z4 => ?_)
   ·(conv=>whnf)
    (repeat' ((first|(apply AU;omega)|fail)<;>conv=>whnf))
    refine FC (by omega) ?_;(conv=>whnf)
    (repeat' ((first|(apply CE;omega)|fail)<;>conv=>whnf))
    obtain ⟨t1,t2⟩:=cO (A:=A) (W:=W') (C:=C) (j:=j) hA g1;refine BL [] (by (conv=>whnf);exact ⟨rfl,rfl,rfl⟩) (ih j (A++W'++C) (w.set j q') (by omega) ⟨by omega,hlen W' z1,(D1.append z2).append D3,by simpa using p4,p5.set _ (by omega),by omega,?_⟩);rw[t1,t2,zp q' z4,z3];exact sz
   ·(conv=>whnf)
    (repeat' ((first|(apply AU;omega)|fail)<;>conv=>whnf))
    refine FC (by omega) ?_;(conv=>whnf)
    (repeat' ((first|(apply CE;omega)|fail)<;>conv=>whnf))
    obtain ⟨t1,t2⟩:=cO (A:=A) (W:=W') (C:=C) (j:=j) hA g1;refine BL [] (by (conv=>whnf);exact ⟨rfl,rfl,rfl⟩) (ih j (A++W'++C) (w.set j q') (by omega) ⟨by omega,hlen W' z1,(D1.append z2).append D3,by simpa using p4,p5.set _ (by omega),by omega,?_⟩);rw[t1,t2,zp q' z4,z3];exact sz
end Go.g6
