/-
  An inverse of small whole numbers, plain.
-/
import Derived.Test.YtfnglkabkfmjcaaGreatB13
import Derived.Test.YtfnglkabkfmjcaaGreatB4
set_option linter.unusedSimpArgs false
set_option linter.unusedVariables false
set_option linter.unnecessarySimpa false
namespace Go.e9
set_option maxHeartbeats 16000000
theorem Nn:Wh 10 (((840:Nat):Rat)):=⟨840,rfl,by decide⟩
theorem yQ {z:Int} {k l:Nat} {c D u m:Rat} (hz:c*D=(z:Rat)) (hu:u*D=m) (hm:Wh k (c*m)) (hk:k<=l):Wh l (((z.natAbs:Nat):Rat)*u):=by
 have h1:(z:Rat)*u=c*m:=by rw[<-hz,<-hu];grind
 have h2:Wh l ((z:Rat)*u):=by rw[h1];exact hm.le hk
 rcases Int.natAbs_eq z with e|e
 ·rw[show ((z.natAbs:Nat):Rat)=(z:Rat) by conv=>rhs;rw[e,Rat.intCast_natCast]]
  exact h2
 ·rw[show ((z.natAbs:Nat):Rat) = -(z:Rat) by conv=>rhs;rw[e,Rat.intCast_neg,Rat.neg_neg,Rat.intCast_natCast]]
  rw[show -(z:Rat)*u = -((z:Rat)*u) by grind];exact h2.neg
theorem yR {k:Nat} {c D:Rat} (hc:c≠0) (h0:D≠0) (hk:k<=45) (hD:Wh k (c*D)) : ∃ z:Int,c*D=(z:Rat)/\1<=z.natAbs/\z.natAbs<=2^45:=by
 obtain ⟨z,hz,hb⟩:=hD;refine ⟨z,hz,?_,Nat.le_trans hb (Nat.pow_le_pow_right (by omega) hk)⟩;have:z≠0:=λ e=>by
  rw[e]at hz;rcases Rat.mul_eq_zero.1 (hz.trans (show ((0:Int):Rat)=0 from rfl)) with h|h
  ·exact hc h
  ·exact h0 h
 omega
theorem An0 {T U:List (List Rat)} (hT:Sq 3 T) (hU:Sq 3 U) (hb : ∀ r∈T,∀ x∈r,Wh 14 (((840:Nat):Rat)*x)) (gv : ∀ v:List Rat,v.length=3->BX U (BX T v)=v) : ∃ D:Nat,1<=D/\D<=2^45 /\ ∀ r∈U,∀ x∈r,Wh 39 ((D:Rat)*x):=by
 obtain ⟨tl,tr⟩:=hT;obtain ⟨ul,ur⟩:=hU;have gx:(((840:Nat):Rat))≠0:=by decide
 have Fy:=Nn;match T,tl with
 | [t1,t2,t3],_ =>
  have l1:=tr t1 (by simp);have l2:=tr t2 (by simp);have l3:=tr t3 (by simp);match t1,t2,t3,l1,l2,l3 with
  | [a,b,c],[d,e,f],[g,h,i],_,_,_ =>
   match U,ul with
   | [u1,u2,u3],_ =>
    have m1:=ur u1 (by simp);have m2:=ur u2 (by simp);have m3:=ur u3 (by simp);match u1,u2,u3,m1,m2,m3 with
    | [p,q,r],[s,t,u],[v,w,x],_,_,_ =>
     have g1:=gv [1,0,0] rfl;have g2:=gv [0,1,0] rfl;have g3:=gv [0,0,1] rfl;simp only[BX,List.map_cons,List.map_nil,AZ,List.cons.injEq,and_true]at g1 g2 g3;obtain ⟨a1,a2,a3⟩:=g1;obtain ⟨b1,b2,b3⟩:=g2;obtain ⟨c1,c2,c3⟩:=g3;have ha:=hb [a,b,c] (by simp) a (by simp);have fw:=hb [a,b,c] (by simp) b (by simp);have bq:=hb [a,b,c] (by simp) c (by simp);have hd:=hb [d,e,f] (by simp) d (by simp);have sf:=hb [d,e,f] (by simp) e (by simp);have ub:=hb [d,e,f] (by simp) f (by simp);have hg:=hb [g,h,i] (by simp) g (by simp);have hh:=hb [g,h,i] (by simp) h (by simp);have hi:=hb [g,h,i] (by simp) i (by simp);generalize ((840:Nat):Rat)=C at *;have p1:p*a+q*d+r*g=1:=by grind
     have p2:p*b+q*e+r*h=0:=by grind
     have p3:p*c+q*f+r*i=0:=by grind
     have q1:s*a+t*d+u*g=0:=by grind
     have q2:s*b+t*e+u*h=1:=by grind
     have q3:s*c+t*f+u*i=0:=by grind
     have r1:v*a+w*d+x*g=0:=by grind
     have r2:v*b+w*e+x*h=0:=by grind
     have r3:v*c+w*f+x*i=1:=by grind
     clear a1 a2 a3 b1 b2 b3 c1 c2 c3 gv;have Eu:=Zn a b c d e f g h i p q r s t u v w x;rw[p1,p2,p3,q1,q2,q3,r1,r2,r3]at Eu;obtain ⟨j1,j2,j3⟩:=kU p1 p2 p3;obtain ⟨j4,j5,j6⟩:=kU q1 q2 q3;obtain ⟨j7,j8,j9⟩:=kU r1 r2 r3;have mn : ∀ {x1 x2 x3 x4:Rat},Wh 14 (C*x1)->Wh 14 (C*x2)->Wh 14 (C*x3)->Wh 14 (C*x4)->Wh 29 (C*C*(x1*x2-x3*x4)):=λ{x1 x2 x3 x4} h1 h2 h3 h4=>by
      rw[show C*C*(x1*x2-x3*x4)=C*x1*(C*x2)-C*x3*(C*x4) by grind];exact (h1.mul h2).sub (h3.mul h4)
     have hD:Wh 45 (C*C*C*(a*(e*i-f*h)-b*(d*i-f*g)+c*(d*h-e*g))):=by
      rw[show C*C*C*(a*(e*i-f*h)-b*(d*i-f*g)+c*(d*h-e*g))=C*a*(C*C*(e*i-f*h))-C*b*(C*C*(d*i-f*g))+C*c*(C*C*(d*h-e*g)) by grind];exact ((ha.mul (mn sf hi ub hh)).sub (fw.mul (mn hd hi ub hg))).add ((bq.mul (mn hd hh sf hg)).le (by omega))
     generalize a*(e*i-f*h)-b*(d*i-f*g)+c*(d*h-e*g)=D at *;have h0:D≠0:=λ e0=>by
      rw[e0,Rat.mul_zero]at Eu;grind
     obtain ⟨z,hz,z1,z2⟩:=yR (by
      intro e;rcases Rat.mul_eq_zero.1 e with e|e
      ·rcases Rat.mul_eq_zero.1 e with e|e<;>exact gx e
      ·exact gx e) h0 (Nat.le_refl _) hD
     have key : ∀ {x m:Rat},x*D=m->Wh 29 (C*C*m)->Wh 39 (((z.natAbs:Nat):Rat)*x):=λ{x m} h1 h2=>yQ hz h1 (k:=39) (by
      rw[show C*C*C*m=C*(C*C*m) by grind];exact Fy.mul h2) (by omega)
     clear p1 p2 p3 q1 q2 q3 r1 r2 r3 Eu;simp only[Rat.one_mul,Rat.zero_mul,Rat.add_zero,Rat.zero_add]at j1 j2 j3 j4 j5 j6 j7 j8 j9;have k1:=key j1 (mn sf hi ub hh);have k2:=key j2 (mn bq hh fw hi);have k3:=key j3 (mn fw ub bq sf);have k4:=key j4 (mn ub hg hd hi);have k5:=key j5 (mn ha hi bq hg);have k6:=key j6 (mn bq hd ha ub);have k7:=key j7 (mn hd hh sf hg);have k8:=key j8 (mn fw hg ha hh);have k9:=key j9 (mn ha sf fw hd);refine ⟨z.natAbs,z1,z2,?_⟩;intro y hy;simp only[List.mem_cons,List.not_mem_nil,or_false]at hy;rcases hy with rfl|rfl|rfl
     all_goals
      intro z hz;simp only[List.mem_cons,List.not_mem_nil,or_false]at hz;rcases hz with rfl|rfl|rfl
      all_goals assumption
theorem AnZ {T U:List (List Rat)} (hT:Sq 2 T) (hU:Sq 2 U) (hb : ∀ r∈T,∀ x∈r,Wh 14 (((840:Nat):Rat)*x)) (gv : ∀ v:List Rat,v.length=2->BX U (BX T v)=v) : ∃ D:Nat,1<=D/\D<=2^45 /\ ∀ r∈U,∀ x∈r,Wh 39 ((D:Rat)*x):=by
 obtain ⟨tl,tr⟩:=hT;obtain ⟨ul,ur⟩:=hU;have gx:(((840:Nat):Rat))≠0:=by decide
 have Fy:=Nn;match T,tl with
 | [t1,t2],_ =>
  have l1:=tr t1 (by simp);have l2:=tr t2 (by simp);match t1,t2,l1,l2 with
  | [a,b],[c,d],_,_ =>
   match U,ul with
   | [u1,u2],_ =>
    have m1:=ur u1 (by simp);have m2:=ur u2 (by simp);match u1,u2,m1,m2 with
    | [p,q],[r,s],_,_ =>
     have g1:=gv [1,0] rfl;have g2:=gv [0,1] rfl;simp only[BX,List.map_cons,List.map_nil,AZ,List.cons.injEq,and_true]at g1 g2;obtain ⟨a1,a2⟩:=g1;obtain ⟨b1,b2⟩:=g2;have ha:=hb [a,b] (by simp) a (by simp);have fw:=hb [a,b] (by simp) b (by simp);have bq:=hb [c,d] (by simp) c (by simp);have hd:=hb [c,d] (by simp) d (by simp);generalize ((840:Nat):Rat)=C at *;have p1:p*a+q*c=1:=by grind
     have p2:p*b+q*d=0:=by grind
     have q1:r*a+s*c=0:=by grind
     have q2:r*b+s*d=1:=by grind
     have j1:p*(a*d-b*c)=d:=by grind
     have j2:q*(a*d-b*c) = -b:=by grind
     have j3:r*(a*d-b*c) = -c:=by grind
     have j4:s*(a*d-b*c)=a:=by grind
     have hD:Wh 29 (C*C*(a*d-b*c)):=by
      rw[show C*C*(a*d-b*c)=C*a*(C*d)-C*b*(C*c) by grind];exact (ha.mul hd).sub (fw.mul bq)
     have h0:a*d-b*c≠0:=λ e0=>by
      rw[e0,Rat.mul_zero]at j1 j2 j3 j4;grind
     generalize a*d-b*c=D at *;obtain ⟨z,hz,z1,z2⟩:=yR (by
      intro e;rcases Rat.mul_eq_zero.1 e with e|e<;>exact gx e) h0 (by omega) hD
     have key : ∀ {x m:Rat},x*D=m->Wh 14 (C*m)->Wh 39 (((z.natAbs:Nat):Rat)*x):=λ{x m} h1 h2=>yQ hz h1 (k:=24) (by
      rw[show C*C*m=C*(C*m) by grind];exact Fy.mul h2) (by omega)
     have ng : ∀ {m:Rat},Wh 14 (C*m)->Wh 14 (C * -m):=λ{m} h=>by
      rw[show C * -m = -(C*m) by grind];exact h.neg
     have k1:=key j1 hd;have k2:=key j2 (ng fw);have k3:=key j3 (ng bq);have k4:=key j4 ha;refine ⟨z.natAbs,z1,z2,?_⟩;intro y hy;simp only[List.mem_cons,List.not_mem_nil,or_false]at hy;rcases hy with rfl|rfl
     all_goals
      intro z hz;simp only[List.mem_cons,List.not_mem_nil,or_false]at hz;rcases hz with rfl|rfl
      all_goals assumption
theorem AnY {T U:List (List Rat)} (hT:Sq 1 T) (hU:Sq 1 U) (hb : ∀ r∈T,∀ x∈r,Wh 14 (((840:Nat):Rat)*x)) (gv : ∀ v:List Rat,v.length=1->BX U (BX T v)=v) : ∃ D:Nat,1<=D/\D<=2^45 /\ ∀ r∈U,∀ x∈r,Wh 39 ((D:Rat)*x):=by
 obtain ⟨tl,tr⟩:=hT;obtain ⟨ul,ur⟩:=hU;have gx:(((840:Nat):Rat))≠0:=by decide
 match T,tl with
 | [t1],_ =>
  have l1:=tr t1 (by simp);match t1,l1 with
  | [a],_ =>
   match U,ul with
   | [u1],_ =>
    have m1:=ur u1 (by simp);match u1,m1 with
    | [p],_ =>
     have g1:=gv [1] rfl;simp only[BX,List.map_cons,List.map_nil,AZ,List.cons.injEq,and_true]at g1;have ha:=hb [a] (by simp) a (by simp);have j1:p*a=1:=by grind
     have h0:a≠0:=λ e0=>by
      rw[e0,Rat.mul_zero]at j1;grind
     obtain ⟨z,hz,z1,z2⟩:=yR gx h0 (by omega) ha;refine ⟨z.natAbs,z1,z2,λ r hr x hx => ?_⟩;obtain rfl:=List.mem_singleton.1 hr;obtain rfl:=List.mem_singleton.1 hx;exact yQ hz j1 (k:=10) (by rw[Rat.mul_one];exact Nn) (by omega)
theorem AnX {T U:List (List Rat)} {n:Nat} (hn:n<=3) (hT:Sq n T) (hU:Sq n U) (hb : ∀ r∈T,∀ x∈r,Wh 14 (((840:Nat):Rat)*x)) (gv : ∀ v:List Rat,v.length=n->BX U (BX T v)=v) : ∃ D:Nat,1<=D/\D<=2^45 /\ ∀ r∈U,∀ x∈r,Wh 39 ((D:Rat)*x):=by
 rcases cD hn with rfl|rfl|rfl|rfl
 ·refine ⟨1,by omega,by decide,λ r hr => ?_⟩
  rw[List.length_eq_zero_iff.1 hU.l]at hr;cases hr
 ·exact AnY hT hU hb gv
 ·exact AnZ hT hU hb gv
 ·exact An0 hT hU hb gv
end Go.e9
namespace Go.e9
open F
attribute [local irreducible] AA AF AM AC CK AR AW BD A7 BW AQ BT CD DB BP A4 BO CE AB A8 AJ pw B4 BK CF CI CN CX CJ BS CM
variable {L:Lib}
set_option maxHeartbeats 32000000
set_option maxRecDepth 8000
theorem AlO (N:cn L):Ev L 336 [] (.bool true):=AlN N λ hG=>yA N.todw [[Rat.divInt 1 2]] [1] 1 hG (xZ (M:=2) (m:=16) (l:=30) (by omega) (by omega) (by omega) (by omega) (by omega) (tZ λ r hr x hx=>by
 obtain rfl:=List.mem_singleton.1 hr;obtain rfl:=List.mem_singleton.1 hx;exact ⟨1,by decide +kernel,by decide⟩) λ i=>by
 cases i with
 | zero=>exact ⟨2,by decide +kernel,by decide⟩
 | succ i=>exact ⟨0,by rw[show bQ [1] (i+1)=0 from rfl,Rat.mul_zero];rfl,by decide⟩) (by omega) (by omega)
theorem AiX (l:List Int) {n:Nat} (hn:1<=n/\n<=3):NS (BM n n).length (gM (JX l n).a n) -> ∀ X:List Rat,HD (JX l n).a (JX l n).b X n->Bs 340000 X:=by
 obtain ⟨ha,hb⟩:=Wf l hn;exact xZ (M:=840*(16*n)) (m:=16) (l:=30) hn.2 (by omega) (by omega) (by omega) (by omega) ha hb
theorem tD {k c:Nat} {a:List (List Rat)} (h : ∀ r∈a,∀ x∈r,Wh k ((c:Rat)*x)) : ∀ r∈CU (c:Rat) a,∀ x∈r,Wh k x:=λ r hr x hx=>by
 obtain ⟨s,hs,rfl⟩:=List.mem_map.1 hr;obtain ⟨y,hy,rfl⟩:=List.mem_map.1 hx;rw[Rat.mul_comm];exact h s hs y hy
theorem AqO {k:Nat} {c:Rat} {a:List (List Rat)} (h : ∀ r∈CU c a,∀ x∈r,Wh k x) : ∀ r∈a,∀ x∈r,Wh k (c*x):=λ r hr x hx=>by
 rw[Rat.mul_comm];exact h (r.map (· * c)) (List.mem_map.2 ⟨r,hr,rfl⟩) _ (List.mem_map.2 ⟨x,hx,rfl⟩)
theorem ApV {T U:List (List Rat)} {S:E7} {n D:Nat} (hn:1<=n/\n<=3) (hA:Sq n S.a) (hT:Sq n T) (hU:Sq n U) (hB:S.b.length=n)
  (wT : ∀ r∈T,∀ x∈r,Wh 14 (((840:Nat):Rat)*x)) (wA : ∀ r∈S.a,∀ x∈r,Wh 14 (((840*(16*n):Nat):Rat)*x)) (wB : ∀ x∈S.b,Wh 14 (((840:Nat):Rat)*x)) (wU : ∀ r∈U,∀ x∈r,Wh 39 ((D:Rat)*x)) (hD:1<=D/\D<=2^45) :
  1<=840*(840*(16*n))*D/\840*(840*(16*n))*D<=2^75/\(∀ i j,Wh 75 (((840*(840*(16*n))*D:Nat):Rat)*A5 (D7 T U S n).a i j)) /\ ∀ i,Wh 85 (((840*(840*(16*n))*D:Nat):Rat)*bQ (D7 T U S n).b i):=by
 have h30:840*(840*(16*n))<=2^30:=by omega
 refine ⟨Nat.mul_le_mul (show 1<=840*(840*(16*n)) by omega) hD.1,?_,?_,?_⟩
 ·rw[show (2:Nat)^75=2^30*2^45 from rfl]
  exact Nat.mul_le_mul h30 hD.2
 ·have h1:=Np (n:=n) (tD wT) (oC _ hT.r) (tD wA)
  have h2:=Np (n:=n) h1 (Sq.mul (AfO _ hT).l _).r (tD wU);rw[zK,zK]at h2;have h3:=AqO h2;refine tZ λ r hr x hx => ?_
  have h4:=h3 r hr x hx;rw[<-Rat.natCast_mul,<-Rat.natCast_mul]at h4;exact h4.le (by omega)
 ·refine AqL λ x hx => ?_
  have h1:=AqM (n:=n) (v:=S.b.map (· * ((840:Nat):Rat))) (tD wT) (oC _ hT.r) (l:=14) (λ x hx=>by
   obtain ⟨y,hy,rfl⟩:=List.mem_map.1 hx;rw[Rat.mul_comm];exact wB y hy)
  rw[AoF]at h1;have h2:=h1 _ (List.mem_map.2 ⟨x,hx,rfl⟩);have Pj:Wh 6 (((16*n:Nat):Rat)):=⟨((16*n:Nat):Int),by rw[Rat.intCast_natCast],by rw[Int.natAbs_natCast];show _<=64;omega⟩;have hDw:Wh 45 ((D:Rat)):=⟨(D:Int),by rw[Rat.intCast_natCast],by rw[Int.natAbs_natCast];exact hD.2⟩;have h3:=(h2.mul Pj).mul hDw;rw[show x*(((840:Nat):Rat)*((840:Nat):Rat))*((16*n:Nat):Rat)*(D:Rat)=((840*(840*(16*n))*D:Nat):Rat)*x by
   rw[Rat.natCast_mul,Rat.natCast_mul,Rat.natCast_mul];grind]at h3
  exact h3.le (by omega)
theorem Aoo (m:List Int) (n:Nat) : ∀ r∈YF m n,∀ x∈r,Wh 14 (((840:Nat):Rat)*x):=λ r hr x hx=>by
 simp only[YF,HP,List.mem_map]at hr;obtain ⟨j,_,rfl⟩:=hr;exact Ny m (n*n) x (List.mem_of_mem_take (List.mem_of_mem_drop hx))
theorem ApU {T U:List (List Rat)} {S:E7} {X1 X2:List Rat} {n:Nat} (hn:n<=3) (hA:Sq n S.a) (hT:Sq n T) (hU:Sq n U) (hB:S.b.length=n) (hC:S.c.length=n) (gv : ∀ v:List Rat,v.length=n->BX U (BX T v)=v) (La : ∀ v:List Rat,v.length=n->BX T (BX U v)=v)
  (h1:HD S.a S.b X1 n) (h2:HD (D7 T U S n).a (D7 T U S n).b X2 n) (fr:NS (BM n n).length (gM (D7 T U S n).a n)):JJ (D7 T U S n) (kM X2 n) n 0=JJ S (kM X1 n) n 0:=by
 have hA1:Sq n (C1 T S.a n):=Sq.mul hT.l _;have yk:Sq n (D7 T U S n).a:=Sq.mul hA1.l _;have Pm:C1 (D7 T U S n).a T n=C1 T S.a n:=Aok (Sq.mul yk.l _) hA1 λ v hv=>by
  rw[kH _ _ _ hT.r];show BX (C1 (C1 T S.a n) U n) (BX T v)=_;rw[kH _ _ _ hU.r,gv v hv]
 have hK:=h1.eq hn;have hs:=λ i j (hi:i<n) (hj:j<n)=>An2 X1 hi hj
 have re:=Aqq (B2:=(D7 T U S n).b) hn hA yk hT rfl Pm hK;have vu:=Aqs (T:=T) hs;have Lh:X2=iG (XD T (kM X1 n) n) n:=h2.uniq (HD.of hn vu re) fr;have Tc:Sq n (XD T (kM X1 n) n):=⟨by simp [XD],λ r hr=>by
  obtain ⟨i,_,rfl⟩:=List.mem_map.1 hr;simp⟩
 have hc : ∀ a,a<n->BC (λ i=>bQ (D7 T U S n).c i*A5 T i a) n=bQ S.c a:=λ a ha=>by
  have lg:(EZ n (a:Int)).length=n:=oP n _;have z7:(D7 T U S n).c.length=n:=by show (BX (S5 U) S.c).length=n;rw[kG,Nk,hU.l]
  rw[<-AgB (D7 T U S n).c T ha,<-Acz (tY _ T n) ha,AqF hT z7];show AZ (BX (S5 U) S.c) (BX T (EZ n (a:Int)))=_;rw[Agu hU,wE U S.c hU.r,gv _ lg,Acz hC ha]
 show (D7 T U S n).d*(D7 T U S n).d+IK (kM X2 n) (D7 T U S n).c n=S.d*S.d+IK (kM X1 n) S.c n;rw[Lh,AmL (Ao4 hn Tc vu),Aqr hn hc];rfl
theorem AlQ (N:qi L) (n1:L.num 289=rL) (n2:L.num 287=yU) (l m:List Int) (size:Int) (q1 q2:Bool) (hl : ∀ v∈l,GW v) (hm : ∀ v∈m,GW v) (hs:GW size) :
  Ev L 344 [.sl q1 (l.map cU),.sl q2 (m.map cU),.int .i64 size] (.bool true):=by
 have C:ia L:=N.toia;have W:bh L:=C.todm.tobh;have A:al L:=N.tocn.tocu.toga.toal;have Iv:=AlO N.tocn;obtain ⟨g1,g2⟩:=AqR (v:=size) (m:=3) (by omega);have Ia:=xK W size 3 hs (by omega);generalize ES size 3=z1 at *;obtain ⟨n0,rfl⟩:=Int.eq_ofNat_of_zero_le g1;obtain ⟨n,zf⟩ : ∃ n,n=n0+1:=⟨_,rfl⟩;have Jd:(1:Int)+(n0:Int)=((n:Nat):Int):=by omega
 have hn:1<=n/\n<=3:=by omega
 have wo:=λ q=>Alm C l q n hl (by omega)
 have Hp:=λ q=>Alw N.tomj m q n hm (by omega)
 have n7:=Wb l n (by omega);have hG:=AiV l hn.2;have hGs:=AiX l hn;have hwa:=Wc l hn.1;have Ar:=We l n;obtain ⟨hq,Qt⟩:=Aom m n;have hwt:=Aoo m n;generalize JX l n=S at *;generalize YF m n=T at *;have hA:Sq n S.a:=⟨n7.la,n7.lr⟩;obtain ⟨v,hV,Tz⟩:=Alz N.toig n1 n2 S T n (k:=10) (by omega) n7 hq Qt hn.2;refine Ev.x N.XZ rfl rfl ?_;rcases Tz with ⟨fr,rfl⟩|⟨fr,U,hU,gv,La,rfl⟩
 ·(repeat' ((first|(apply AX;omega)|apply AE|refine AD (Ia) ?_)<;>conv=>whnf))
  rw[Jd];(repeat' ((first|(apply AG<;>intro hc<;>try (exfalso;omega))|refine AD (wo _) ?_|refine AD (Hp _) ?_|refine AD (hV) ?_|refine AD (Iv) ?_)<;>conv=>whnf))
  exact JR rfl
 ·obtain ⟨po,_⟩:=AfM (by omega) n7 hq hU Qt (Aed hn.2 hq hU Qt gv) hn.2
  obtain ⟨D,tu,tv,hwU⟩:=AnX hn.2 hq hU hwt gv;obtain ⟨w1,w2,w3,w4⟩:=ApV hn hA hq hU n7.lb hwt hwa Ar hwU ⟨tu,tv⟩;have yk:Sq n (D7 T U S n).a:=⟨po.la,po.lr⟩;have hG2:=xY (k:=400) hn.2 yk po.lb po.ba po.bb w1 w2 (by omega) (by omega) w3 w4;have Pp:=xZ hn.2 w1 w2 (by omega) (by omega) w3 w4;obtain ⟨v1,e1,o1⟩:=yA N.todw S.a S.b n hG hGs (by omega) hn.2;obtain ⟨v2,e2,o2⟩:=yA N.todw (D7 T U S n).a (D7 T U S n).b n hG2 Pp (by omega) hn.2;rcases o1 with ⟨_,e,he,rfl⟩|⟨_,_,X1,x1,xb1,rfl⟩
  ·have Hn:=wP N.tocn.toaj S n n7 (by omega) hn.2 e he e1
   rcases o2 with ⟨_,e',kt,rfl⟩|⟨_,Jg,X2,x2,Ut,rfl⟩
   ·have xq:=wP N.tocn.toaj (D7 T U S n) n po (by omega) hn.2 e' kt e2
    generalize D7 T U S n=Z at *;(repeat' ((first|(apply AX;omega)|apply AE|refine AD (Ia) ?_)<;>conv=>whnf))
    rw[Jd];(repeat' ((first|(apply AG<;>intro hc<;>try (exfalso;omega))|refine AD (wo _) ?_|refine AD (Hp _) ?_|refine AD (hV) ?_|refine AD (Hn) ?_|refine AD (xq) ?_|refine AD (Iv) ?_)<;>conv=>whnf))
    exact JR rfl
   ·have xq:=qX N.tocn.toaj (D7 T U S n) n po (by omega) hn.2 (kM X2 n) (jZ X2 n) (jY Ut n) (by omega) e2
    generalize JJ (D7 T U S n) (kM X2 n) n 0=y2 at *;generalize D7 T U S n=Z at *;(repeat' ((first|(apply AX;omega)|apply AE|refine AD (Ia) ?_)<;>conv=>whnf))
    rw[Jd];(repeat' ((first|(apply AG<;>intro hc<;>try (exfalso;omega))|refine AD (wo _) ?_|refine AD (Hp _) ?_|refine AD (hV) ?_|refine AD (Hn) ?_|refine AD (xq) ?_|refine AD (Iv) ?_)<;>conv=>whnf))
    exact JR rfl
  ·have Hn:=qX N.tocn.toaj S n n7 (by omega) hn.2 (kM X1 n) (jZ X1 n) (jY xb1 n) (by omega) e1
   rcases o2 with ⟨_,e',kt,rfl⟩|⟨_,Jg,X2,x2,Ut,rfl⟩
   ·have xq:=wP N.tocn.toaj (D7 T U S n) n po (by omega) hn.2 e' kt e2
    generalize JJ S (kM X1 n) n 0=y1 at *;generalize D7 T U S n=Z at *;(repeat' ((first|(apply AX;omega)|apply AE|refine AD (Ia) ?_)<;>conv=>whnf))
    rw[Jd];(repeat' ((first|(apply AG<;>intro hc<;>try (exfalso;omega))|refine AD (wo _) ?_|refine AD (Hp _) ?_|refine AD (hV) ?_|refine AD (Hn) ?_|refine AD (xq) ?_|refine AD (Iv) ?_)<;>conv=>whnf))
    exact JR rfl
   ·have xq:=qX N.tocn.toaj (D7 T U S n) n po (by omega) hn.2 (kM X2 n) (jZ X2 n) (jY Ut n) (by omega) e2
    have Rk:Bt (3*(3*(340000+(10+10)+1)+1)) (IK (kM X1 n) S.c n):=(cB (λ i=>(cB (λ j=>(OE (jY xb1 n) i j).mul ((HE n7.bc i).mul (HE n7.bc j))) n).le (Nat.mul_le_mul_right _ hn.2)) n).le (Nat.mul_le_mul_right _ hn.2);have xv:Bt 9000000 (JJ S (kM X1 n) n 0):=((n7.bd.mul n7.bd).add Rk).le (by omega);have heq:JJ (D7 T U S n) (kM X2 n) n 0=JJ S (kM X1 n) n 0:=ApU hn.2 hA hq hU n7.lb n7.lc gv La x1 x2 Jg;rw[heq]at xq;have Bc:=wR A.tol7 xv xv (by omega) (by omega);rw[Oo.2 rfl]at Bc;generalize JJ S (kM X1 n) n 0=y1 at *;generalize D7 T U S n=Z at *;(repeat' ((first|(apply AX;omega)|apply AE|refine AD (Ia) ?_)<;>conv=>whnf))
    rw[Jd];(repeat' ((first|(apply AG<;>intro hc<;>try (exfalso;omega))|refine AD (wo _) ?_|refine AD (Hp _) ?_|refine AD (hV) ?_|refine AD (Hn) ?_|refine AD (xq) ?_|refine AD (Iv) ?_|refine AD (Bc) ?_)<;>conv=>whnf))
    exact JR rfl
end Go.e9
