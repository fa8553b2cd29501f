/-
  The references of natural numbers (ref01): quotients, greatest common divisors.
-/
import Derived.Test.YtgdojcofnobpeaaGreatB8
import Derived.Test.YtgdojcofnobpeaaGreatB7
import Derived.Test.YtgdojcofnobpeaaGreatB4
set_option linter.unusedSimpArgs false
set_option linter.unusedVariables false
set_option linter.unnecessarySimpa false
namespace Go.Eng
open F
attribute [local irreducible] AH BJ B1 BD E6 CF CI CY CU DX B5 DT EN GS DS CR DR EF AR CW BW pw DC DB EP EV E7 FM EZ D5 FE
variable {L:Lib}
set_option maxHeartbeats 8000000
theorem xQ (N:a9 L) (a b:List Nat) (q1 q2:Bool) (hA:CP a) (hB:CP b) (la:a.length<=274877906944) (lb:b.length<=274877906944) (h0:val b≠0) :
  Ev L 109 [.sl q1 (a.map BZ),.sl q2 (b.map BZ)] (.tup [.sl false ((dg (val a/val b)).map BZ),.sl false ((dg (val a%val b)).map BZ),.int .i64 0]):=by
 have t1:=λ q=>JD N a q hA (by omega)
 have t2:=λ q=>JD N b q hB (by omega)
 have l1:=HL hA;have l2:=HL hB;have g8:=λ q q'=>mQ N (dg (val a)) (dg (val b)) q q' (GP _) (GP _) (by omega) (by omega)
 rw[DN,DN]at g8;generalize val a=X at *;generalize val b=Y at *;have d1:=GP X;have d2:=GP Y;have v1:=DN X;have v2:=DN Y;have hy1:=bP h0;refine Ev.x N.GG rfl rfl ?_;by_cases h1:(dg Y).length=1
 ·obtain ⟨y0,gl⟩ : ∃ y0,dg Y=[y0]:=List.length_eq_one_iff.1 h1
  have ja:Y=y0:=by rw[<-v2,gl];simp [val]
  subst ja;have hyb:Y<4294967296:=d2 Y (by rw[gl];simp);have hyg:(dg Y)[(0:Int).toNat]? = some Y:=by rw[gl];rfl
  have Ji:=λ q=>Vf N (dg X) Y q d1 (by omega) h0 hyb
  rw[v1]at Ji;have hrb:X%Y<4294967296:=Nat.lt_trans (Nat.mod_lt _ (by omega)) hyb;have hT3:=λ q=>JD N [X%Y] q (KN hrb) (by simp)
  rw[show val [X%Y]=X%Y by simp [val]]at hT3;clear gl v2;generalize dg Y=y at *;(repeat' ((first|(apply BR<;>intro hc<;>try (exfalso;omega))|apply CB|(refine CX (by assumption) ?_ rfl ?_;omega)|refine KI rfl ?_|apply BA|refine BH (t1 _) ?_|refine BH (t2 _) ?_|refine BH (Ji _) ?_|refine BH (hT3 _) ?_)<;>conv=>whnf))
  exact CJ rfl (fU _ _ _)
 by_cases l6:X<Y
 ·rw[<-LI (by omega)]at g8
  (repeat' ((first|(apply BR<;>intro hc<;>try (exfalso;omega))|apply CB|apply BA|refine BH (t1 _) ?_|refine BH (t2 _) ?_|refine BH (g8 _ _) ?_)<;>conv=>whnf))
  refine CJ ?_ (fU _ _ _);rw[Nat.div_eq_of_lt l6,Nat.mod_eq_of_lt l6,HR];rfl
 have gb:=fW (show Y<=X by omega);generalize FI X Y=cm at *;have yd:2<=(dg Y).length:=by omega
 obtain ⟨yt,mh,oc⟩:=lP h0;have mi:=d2.at mh;obtain ⟨b1,b2,b3,b4⟩:=oE oc mi;have hbl:=λ q=>Vb N yt q oc mi
 generalize hs:32-n0 yt=s at *;have ag:s<=31:=by omega
 have Bh:=λ q=>xS N (dg Y) q s d2 (by omega) (by omega)
 obtain ⟨n1,n2⟩:=oB d2 mh (by omega) ag b3 b4;rw[v2]at Bh n1 n2;have ix:(dg Y).drop ((dg Y).length-1)=[yt]:=by
  obtain ⟨hi,he⟩:=zS mh;rw[List.drop_eq_getElem_cons hi,he,List.drop_of_length_le (by omega)]
 have hvl:(dg (Y*2^s)).length=(dg Y).length:=by
  have a1:=TZ.2 n1;have a2 : ¬ (dg (Y*2^s)).length<=(dg Y).length-1:=λ h=>by
   have:=TZ.1 h
   omega
  omega
 have AnP:(dg (X*2^s)).length<=(dg X).length+1:=by
  refine TZ.2 ?_;have a1:X<4294967296^(dg X).length:=TZ.1 (Nat.le_refl _);rw[Nat.pow_succ];have a2:=dA (s:=s) (by omega);exact Nat.lt_of_lt_of_le (Nat.mul_lt_mul_of_pos_right a1 (Nat.two_pow_pos s)) (Nat.mul_le_mul_left _ a2)
 have hXl:(dg X).length<=(dg (X*2^s)).length:=V1 (Nat.le_mul_of_pos_right _ (Nat.two_pow_pos s));have nn:=V1 (show Y<=X by omega);generalize hx:dg X=x at *;generalize hy:dg Y=y at *;have t3:=λ q=>JD N x q d1 (by omega)
 rw[v1,hx]at t3;(repeat' ((first|(apply BR<;>intro hc<;>try (exfalso;omega))|(apply D4;omega)|apply CB|apply BA|refine BH (t1 _) ?_|refine BH (t2 _) ?_|refine BH (g8 _ _) ?_)<;>conv=>whnf))
 rw[show (y.length:Int)-1=((y.length-1:Nat):Int) by omega];refine Kz (k:=y.length-1) (λ_=>rfl) (by omega) ?_;(conv=>whnf)
 rw[ix];(repeat' ((first|(apply D4;omega)|refine BH (hbl _) ?_)<;>conv=>whnf))
 rw[show (32:Int)-(n0 yt:Nat)=((s:Nat):Int) by omega];refine HI 1000 N.LS rfl rfl ?_;have oa:(s:Int)/32=((0:Nat):Int):=by omega
 have hsr:(s:Int)%32=((s:Nat):Int):=by omega
 (repeat' ((first|(apply BR<;>intro hc<;>try (exfalso;omega))|(refine W2 ?_ ?_ (λ_ => ?_) (λ_ _ => ?_);omega;omega;all_goals try (exfalso;omega))|apply CB|apply BA|refine BH (t3 _) ?_)<;>conv=>whnf))
 rw[oa];refine GT (enc:=BZ) 0 0 rfl rfl (by omega) ?_;(conv=>whnf)
 skip
 refine JJ (λ i _ _=>x.length-i) (λ(i:Nat) (o:List Nat) (c:Nat)=>i<=x.length/\o.length=i/\CP o/\c<2^s/\val o+4294967296^i*c=val (x.take i)*2^s) (λ i o c=>[(10,.int .i64 i),(9,.int .u64 (c:Int)),(8,.row 107069 0 1 0 i)]) (λ i o c=>[(107069,107069,.rw 1 (o.map BZ))]) [] [] 0 [] 0 (by (conv=>whnf);exact ⟨rfl,rfl,rfl⟩) ⟨by omega,rfl,T3,Nat.two_pow_pos _,by simp [val]⟩ ?_;intro i o c ⟨p1,p2,p3,p4,p5⟩ ih;have ki:=dA (s:=s) (by omega);by_cases hi:i<x.length
 ·obtain ⟨d,hd⟩ : ∃ d,x[i]? = some d:=⟨_,zE hi⟩
  have hdb:=d1.at hd;obtain ⟨f1,f2,f3,f4⟩:=YK (s:=s) hdb (by omega);have hr:=iJ (show s<=64 by omega) f4;(repeat' ((first|(apply BR<;>intro hc<;>try (exfalso;omega))|(refine Y6 ?_ (λ_ _ _ => ?_) (λ_ _ _ _ => ?_);omega;all_goals try (exfalso;omega))|(apply EG;omega)|apply CB|(refine CX (by assumption) ?_ rfl ?_;omega)|apply BA)<;>conv=>whnf))
  rw[hsr];refine UJ (by omega) f4 ?_;(conv=>whnf)
  skip
  refine eF s (Nat.mul_mod_left _ _) p4 (by omega) ?_;(conv=>whnf)
  have hst:=Gv (d:=d) (P:=1) (V:=val o) (p:=4294967296^i) (lo:=c) (X:=val (x.take i)) (s:=s) (by rw[Nat.one_mul,Nat.one_mul];exact p5) rfl;have hc2:(c+d*2^s)/4294967296<2^s:=by
   rw[Nat.div_lt_iff_lt_mul (by omega)];have:=Nat.mul_le_mul_right (2^s) (show d<=4294967295 by omega)
   omega
  generalize c+d*2^s=t at *;(repeat' ((first|apply IR|apply G0)<;>conv=>whnf))
  refine HP (enc:=BZ) (t%4294967296) rfl p2.symm rfl (by omega) (by omega) ?_;(conv=>whnf)
  (repeat' ((first|(apply CG;omega)|apply IB)<;>conv=>whnf))
  rw[show (o++[t%4294967296]).length=i+1 by simp [p2]];refine DE [(107069,107091)] (by (conv=>whnf);exact ⟨rfl,rfl,rfl⟩) (ih (i+1) (o++[t%4294967296]) (t/4294967296) (by omega) ⟨by omega,by simp;omega,p3.append (KN (by omega)),hc2,?_⟩);rw[TF,p2,GR hd,Nat.pow_succ];rw[Nat.one_mul,Nat.one_mul]at hst;exact hst
 obtain rfl:i=x.length:=by omega
 clear ih;have hcb:c<4294967296:=by omega
 have hOD:CP (o++[c]):=p3.append (KN hcb);have ug:val (o++[c])=X*2^s:=by
  rw[TF,p2,p5,FL (Nat.le_refl _),v1]
 have uf:(o++[c]).length=x.length+1:=by simp [p2]
 (repeat' ((first|(apply BR<;>intro hc<;>try (exfalso;omega))|(apply G3;omega)|apply CB|apply G0|apply BA)<;>conv=>whnf))
 refine HP (enc:=BZ) c rfl p2.symm rfl (by omega) (by omega) ?_;(conv=>whnf)
 rw[uf];generalize o++[c]=O at *;rw[<-uf];clear p3 p4 p5;refine HI 1000 N.KU rfl rfl ?_;(repeat' (apply BA<;>conv=>whnf))
 refine DG (λ n=>n) (λ(n:Nat)=>n<=(O).length /\ ∀ i,n<=i->i<(O).length->(O)[i]? = some 0) (λ n=>[(3,.int .i64 n)]) (λ_=>[]) [] [] (O).length (by (conv=>whnf);exact ⟨rfl,rfl,rfl⟩) ⟨Nat.le_refl _,λ i h1 h2=>by omega⟩ ?_;intro n ⟨p1,p2⟩ ih;rcases n with _|n
 ·(repeat' ((first|(apply BR<;>intro hc<;>try (exfalso;omega))|apply BA)<;>conv=>whnf))
  refine JK 0 (by omega) (by omega) ?_;(conv=>whnf)
  have w4:=JC (l:=O) (by assumption) p1 p2 (Or.inl rfl);have hcl:(List.take 0 O).length<=(O).length:=by rw[List.length_take];omega
  clear ih p2;refine eP (enc:=BZ) (by omega) ?_;(conv=>whnf)
  rw[List.drop_zero,Nat.sub_zero];generalize hT0:List.take 0 O=T0 at *;refine VQ (enc:=BZ) (λ_=>rfl) (by omega) (by omega) ?_;(conv=>whnf)
  refine ⟨rfl,_,rfl,?_⟩;(conv=>whnf)
  (refine ⟨rfl,_,rfl,?_⟩;(conv=>whnf);(repeat' ((first|apply G0|refine BH (Bh _) ?_)<;>conv=>whnf));refine HP (enc:=BZ) 0 rfl rfl rfl (by omega) (by omega) ?_;(conv=>whnf);rw[ug]at w4;rw[w4];exact DE [] (by (conv=>whnf);exact ⟨rfl,rfl,rfl⟩) (vT N (x:=x) (X:=X) (Y:=Y) (s:=s) (u:=dg (X*2^s)++[0]) (y:=dg (Y*2^s)) h0 ag ((GP _).append (KN (by omega))) (by rw[TF,DN,Nat.mul_zero,Nat.add_zero]) (by simp) (by simp;omega) (GP _) (DN _) (by omega) (by rw[DN,hvl];exact n2)))
 ·have e1:((n+1:Nat):Int)-1=n:=by omega
  (repeat' ((first|(apply BR<;>intro hc<;>try (exfalso;omega))|(apply CE;omega)|(apply D4;omega)|(refine WY (by assumption) ?_ (λ v hv hb => ?_);omega)|apply BA)<;>conv=>whnf))
  ·rw[e1]
   exact C6 [] (ih n (by omega) ⟨by omega,λ i h1 h2=>by
    by_cases h:i=n
    ·subst h
     rw[e1,Int.toNat_natCast]at hv;rw[hv];congr 1;omega
    ·exact p2 i (by omega) h2⟩)
  ·refine JK (n+1) (by omega) (by omega) ?_
   (conv=>whnf)
   rw[e1,Int.toNat_natCast]at hv;have w4:=JC (l:=O) (by assumption) p1 p2 (Or.inr ⟨_,hv,by omega⟩);have hcl:(List.take (n+1) O).length<=(O).length:=by rw[List.length_take];omega
   clear ih p2 hv;(rw[sZ (l:=O)];rotate_left;exact rfl;exact rfl);(conv=>whnf)
   refine eP (enc:=BZ) (by omega) ?_;(conv=>whnf)
   rw[List.drop_zero,Nat.sub_zero];generalize hT0:List.take (n+1) O=T0 at *;refine VQ (enc:=BZ) (λ_=>rfl) (by omega) (by omega) ?_;(conv=>whnf)
   refine ⟨rfl,_,rfl,?_⟩;(conv=>whnf)
   (refine ⟨rfl,_,rfl,?_⟩;(conv=>whnf);(repeat' ((first|apply G0|refine BH (Bh _) ?_)<;>conv=>whnf));refine HP (enc:=BZ) 0 rfl rfl rfl (by omega) (by omega) ?_;(conv=>whnf);rw[ug]at w4;rw[w4];exact DE [] (by (conv=>whnf);exact ⟨rfl,rfl,rfl⟩) (vT N (x:=x) (X:=X) (Y:=Y) (s:=s) (u:=dg (X*2^s)++[0]) (y:=dg (Y*2^s)) h0 ag ((GP _).append (KN (by omega))) (by rw[TF,DN,Nat.mul_zero,Nat.add_zero]) (by simp) (by simp;omega) (GP _) (DN _) (by omega) (by rw[DN,hvl];exact n2)))
theorem Vc (N:a9 L) (a b:List Nat) (q1 q2:Bool) (hA:CP a) (hB:CP b) (la:a.length<=274877906944) (lb:b.length<=274877906944) :
  Ev L 110 [.sl q1 (a.map BZ),.sl q2 (b.map BZ)] (.sl false ((dg (Nat.gcd (val a) (val b))).map BZ)):=by
 have t1:=λ q=>JD N a q hA (by omega)
 have t2:=λ q=>JD N b q hB (by omega)
 have l1:=HL hA;have l2:=HL hB;generalize val a=X at *;generalize val b=Y at *;refine Ev.x N.Q1 rfl rfl ?_;(repeat' ((first|apply BA|refine BH (t1 _) ?_|refine BH (t2 _) ?_)<;>conv=>whnf))
 refine I3 (λ_ y=>y) (λ(x y:Nat)=>(dg x).length<=274877906944/\(dg y).length<=274877906944/\Nat.gcd x y=Nat.gcd X Y) (λ x y=>[(0,.sl false ((dg x).map BZ)),(1,.sl false ((dg y).map BZ))]) (λ_ _=>[]) [] [] X Y (by (conv=>whnf);exact ⟨rfl,rfl,rfl⟩) ⟨by omega,by omega,rfl⟩ ?_;intro x y ⟨p1,p2,p3⟩ ih;rw[<-p3];by_cases h0:y=0
 ·subst h0
  have hl0:(dg 0).length=0:=by rw[HR];rfl
  clear ih;rw[Nat.gcd_zero_right];(repeat' ((first|(apply BR<;>intro hc<;>try (exfalso;omega))|apply CB|apply BA)<;>conv=>whnf))
  exact CJ rfl (MV _)
 ·have hp:=bP h0
  have hD:=λ q q'=>xQ N (dg x) (dg y) q q' (GP _) (GP _) p1 p2 (by rw[DN];exact h0)
  rw[DN,DN]at hD;have l6:x%y<y:=Nat.mod_lt _ (by omega);have hml:=V1 (Nat.le_of_lt l6);(repeat' ((first|(apply BR<;>intro hc<;>try (exfalso;omega))|apply CB|apply BA|refine BH (hD _ _) ?_)<;>conv=>whnf))
  rw[p3];exact C6 [] (ih y (x%y) l6 ⟨p2,by omega,by rw[cM];exact p3⟩)
theorem MW (N:a9 L) (n q:Bool) (m:List Nat) (hm:Sm 274877906944 m):Ev L 111 [.agg (rZ q n m)] (.agg (eZ (zv n m))):=by
 have hT:=λ q=>JD N m q hm.1 (by have:=hm.2;omega)
 have hz:=LJ (val m);have ha:=HO n m;refine Ev.x N.RF rfl rfl ?_;cases n
 ·rw[HD]at *
  (repeat' ((first|apply BA|refine BH (hT _) ?_)<;>conv=>whnf))
  exact CJ (HF ha.symm (JG (by omega))) (F7 _)
 ·rw[UB]at *
  (repeat' ((first|(apply BR<;>intro hc<;>try (exfalso;omega))|apply CB|apply BA|refine BH (hT _) ?_)<;>conv=>whnf))
  ·exact CJ (HF ha.symm (SS (by omega))) (F7 _)
  ·exact CJ (HF ha.symm (JG (by omega))) (F7 _)
theorem cD (N:a9 L) (n q:Bool) (m:List Nat) (hm:Sm 274877906944 m):Ev L 113 [.agg (rZ q n m)] (.int .i64 (sgn (zv n m))):=by
 have hT:=λ q=>MW N n q m hm
 generalize zv n m=z at *;have hz:=LJ z.natAbs;refine Ev.x N.RD rfl rfl ?_;(repeat' ((first|(apply BR<;>intro hc<;>try (exfalso;omega))|apply CB|apply BA|refine BH (hT _) ?_)<;>conv=>whnf))
 ·exact FF (jH (by omega))
 ·cases hd:decide (z<0)
  ·(conv=>whnf)
   exact FF (pX (by have:=of_decide_eq_false hd;omega))
  ·(conv=>whnf)
   exact FF (pW (of_decide_eq_true hd))
theorem mW (N:a9 L) (n q:Bool) (m:List Nat) (hm:Sm 274877906944 m):Ev L 114 [.agg (rZ q n m)] (.agg (eZ (-(zv n m)))):=by
 have hT:=λ q=>MW N n q m hm
 generalize zv n m=z at *;have hz:=LJ z.natAbs;refine Ev.x N.RA rfl rfl ?_;(repeat' ((first|apply BA|refine BH (hT _) ?_)<;>conv=>whnf))
 cases hd:decide (z<0)
 ·have h1:=of_decide_eq_false hd
  (conv=>whnf)
  (repeat' ((first|(apply BR<;>intro hc<;>try (exfalso;omega))|apply CB)<;>conv=>whnf))
  ·exact CJ (HF (by omega) (SS (by omega))) (F7 _)
  ·exact CJ (HF (by omega) (JG (by omega))) (F7 _)
 ·have h1:=of_decide_eq_true hd
  (conv=>whnf)
  skip
  exact CJ (HF (by omega) (JG (by omega))) (F7 _)
theorem U1 (N:a9 L) (n1 n2 q1 q2:Bool) (a b:List Nat) (ha:CP a) (hb:CP b) (hl:a.length+b.length<=274877906944):Ev L 118 [.agg (rZ q1 n1 a),.agg (rZ q2 n2 b)] (.agg (eZ (zv n1 a*zv n2 b))):=by
 have h1:=λ q q'=>Vd N a b q q' ha hb (by omega)
 have sa:Sm a.length a:=⟨ha,Nat.le_refl _⟩;have sb:Sm b.length b:=⟨hb,Nat.le_refl _⟩;have hT:=λ n q=>MW N n q (dg (val a*val b)) ((sa.mul sb rfl).le hl)
 have e : ∀ n,zv n (dg (val a*val b))=bif n then -((val a*val b:Nat):Int) else ((val a*val b:Nat):Int):=λ n=>by unfold zv;rw[DN]
 have e2:zv n1 a*zv n2 b=zv (n1 != n2) (dg (val a*val b)):=by
  rw[e];cases n1<;>cases n2<;>simp [HD,UB,Int.mul_neg,Int.neg_mul]
 rw[e2];refine Ev.x N.Q9 rfl rfl ?_;cases n1<;>cases n2;all_goals
  (repeat' ((first|apply BA|refine BH (h1 _ _) ?_|refine BH (hT _ _) ?_)<;>conv=>whnf))
  exact CJ rfl (F7 _)
theorem xT (N:a9 L) (n1 n2 q1 q2:Bool) (a b:List Nat) (ha:Sm 274877906943 a) (hb:Sm 274877906943 b):Ev L 115 [.agg (rZ q1 n1 a),.agg (rZ q2 n2 b)] (.agg (eZ (zv n1 a+zv n2 b))):=by
 have t1:=λ q=>MW N n1 q a (ha.le (by omega))
 have t2:=λ q=>MW N n2 q b (hb.le (by omega))
 have s1:Sm 274877906943 (dg (zv n1 a).natAbs):=by rw[HO];exact ha.na
 have s2:Sm 274877906943 (dg (zv n2 b).natAbs):=by rw[HO];exact hb.na
 generalize zv n1 a=x at *;generalize zv n2 b=y at *;have h1:=λ q q'=>xP N (dg x.natAbs) (dg y.natAbs) q q' s1.1 s2.1 (by have:=s1.2;omega) (by have:=s2.2;omega)
 have h2:=λ q q'=>mR N (dg x.natAbs) (dg y.natAbs) q q' s1.1 s2.1 (by have:=s1.2;omega) (by have:=s2.2;omega)
 have h3:=λ q q'=>mR N (dg y.natAbs) (dg x.natAbs) q q' s2.1 s1.1 (by have:=s2.2;omega) (by have:=s1.2;omega)
 have g8:=λ q q'=>mQ N (dg x.natAbs) (dg y.natAbs) q q' s1.1 s2.1 (by have:=s1.2;omega) (by have:=s2.2;omega)
 rw[DN,DN]at h1 h2 h3 g8;have u1:=λ n q=>MW N n q (dg (x.natAbs+y.natAbs)) (s1.add s2 (by rw[DN,DN];omega))
 have u2:=λ n q=>MW N n q (dg (x.natAbs-y.natAbs)) ((s1.low (V:=x.natAbs-y.natAbs) (by rw[DN];omega)).le (by omega))
 have u3:=λ n q=>MW N n q (dg (y.natAbs-x.natAbs)) ((s2.low (V:=y.natAbs-x.natAbs) (by rw[DN];omega)).le (by omega))
 have e : ∀ n V,zv n (dg V)=bif n then -(V:Int) else (V:Int):=λ n V=>by unfold zv;rw[DN]
 refine Ev.x N.Q5 rfl rfl ?_;(repeat' ((first|apply BA|refine BH (t1 _) ?_|refine BH (t2 _) ?_)<;>conv=>whnf))
 cases hx:decide (x<0)<;>cases hy:decide (y<0)
 ·have g1:=of_decide_eq_false hx
  have g2:=of_decide_eq_false hy;have hz:x+y=zv false (dg (x.natAbs+y.natAbs)):=by rw[e];simp only[cond_true,cond_false];omega
  rw[hz];(conv=>whnf)
  (repeat' ((first|refine BH (h1 _ _) ?_|refine BH (u1 _ _) ?_)<;>conv=>whnf))
  exact CJ rfl (F7 _)
 ·have g1:=of_decide_eq_false hx
  have g2:=of_decide_eq_true hy;by_cases l6:x.natAbs<y.natAbs
  ·have hz:x+y=zv true (dg (y.natAbs-x.natAbs)):=by rw[e];simp only[cond_true,cond_false];omega
   rw[hz];rw[<-LI (by omega)]at g8;(conv=>whnf)
   (repeat' ((first|(apply BR<;>intro hc<;>try (exfalso;omega))|refine BH (g8 _ _) ?_|refine BH (h3 _ _) ?_|refine BH (u3 _ _) ?_)<;>conv=>whnf))
   exact CJ rfl (F7 _)
  ·have hz:x+y=zv false (dg (x.natAbs-y.natAbs)):=by rw[e];simp only[cond_true,cond_false];omega
   rw[hz];have gb:=fW (show y.natAbs<=x.natAbs by omega);generalize FI (x.natAbs:Nat) (y.natAbs:Nat)=cm at *;(conv=>whnf)
   (repeat' ((first|(apply BR<;>intro hc<;>try (exfalso;omega))|refine BH (g8 _ _) ?_|refine BH (h2 _ _) ?_|refine BH (u2 _ _) ?_)<;>conv=>whnf))
   exact CJ rfl (F7 _)
 ·have g1:=of_decide_eq_true hx
  have g2:=of_decide_eq_false hy;by_cases l6:x.natAbs<y.natAbs
  ·have hz:x+y=zv false (dg (y.natAbs-x.natAbs)):=by rw[e];simp only[cond_true,cond_false];omega
   rw[hz];rw[<-LI (by omega)]at g8;(conv=>whnf)
   (repeat' ((first|(apply BR<;>intro hc<;>try (exfalso;omega))|refine BH (g8 _ _) ?_|refine BH (h3 _ _) ?_|refine BH (u3 _ _) ?_)<;>conv=>whnf))
   exact CJ rfl (F7 _)
  ·have hz:x+y=zv true (dg (x.natAbs-y.natAbs)):=by rw[e];simp only[cond_true,cond_false];omega
   rw[hz];have gb:=fW (show y.natAbs<=x.natAbs by omega);generalize FI (x.natAbs:Nat) (y.natAbs:Nat)=cm at *;(conv=>whnf)
   (repeat' ((first|(apply BR<;>intro hc<;>try (exfalso;omega))|refine BH (g8 _ _) ?_|refine BH (h2 _ _) ?_|refine BH (u2 _ _) ?_)<;>conv=>whnf))
   exact CJ rfl (F7 _)
 ·have g1:=of_decide_eq_true hx
  have g2:=of_decide_eq_true hy;have hz:x+y=zv true (dg (x.natAbs+y.natAbs)):=by rw[e];simp only[cond_true,cond_false];omega
  rw[hz];(conv=>whnf)
  (repeat' ((first|refine BH (h1 _ _) ?_|refine BH (u1 _ _) ?_)<;>conv=>whnf))
  exact CJ rfl (F7 _)
theorem Vk (N:a9 L) (n1 n2 q1 q2:Bool) (a b:List Nat) (ha:Sm 274877906943 a) (hb:Sm 274877906943 b):Ev L 116 [.agg (rZ q1 n1 a),.agg (rZ q2 n2 b)] (.agg (eZ (zv n1 a-zv n2 b))):=by
 have t2:=λ q=>mW N n2 q b (hb.le (by omega))
 have s2:Sm 274877906943 (dg (-(zv n2 b)).natAbs):=by rw[Int.natAbs_neg,HO];exact hb.na
 have h1:=λ q q'=>xT N n1 (decide (-(zv n2 b)<0)) q q' a (dg (-(zv n2 b)).natAbs) ha s2
 rw[HT,<-Int.sub_eq_add_neg]at h1;refine Ev.x N.RE rfl rfl ?_;(repeat' ((first|apply BA|refine BH (t2 _) ?_|refine BH (h1 _ _) ?_)<;>conv=>whnf))
 exact CJ rfl (F7 _)
theorem Vg (N:a9 L) (n1 n2 q1 q2:Bool) (a b:List Nat) (ha:Sm 274877906943 a) (hb:Sm 274877906943 b):Ev L 117 [.agg (rZ q1 n1 a),.agg (rZ q2 n2 b)] (.int .i64 (sgn (zv n1 a-zv n2 b))):=by
 have h1:=λ q q'=>Vk N n1 n2 q q' a b ha hb
 have s1:Sm 274877906943 (dg (zv n1 a).natAbs):=by rw[HO];exact ha.na
 have s2:Sm 274877906943 (dg (zv n2 b).natAbs):=by rw[HO];exact hb.na
 have s3:Sm 274877906944 (dg (zv n1 a-zv n2 b).natAbs):=s1.add s2 (by rw[DN,DN];omega);have h2:=λ q=>cD N (decide (zv n1 a-zv n2 b<0)) q (dg (zv n1 a-zv n2 b).natAbs) s3
 rw[HT]at h2;refine Ev.x N.Q6 rfl rfl ?_;(repeat' ((first|apply BA|refine BH (h1 _ _) ?_|refine BH (h2 _) ?_)<;>conv=>whnf))
 exact FF rfl
theorem mX (N:a9 L) (z:Int) (hz : -9223372036854775808<=z/\z<=9223372036854775807):Ev L 112 [.int .i64 z] (.agg (eZ z)):=by
 have two : ∀ k:Nat,k<18446744073709551616 -> ∀ n q,Ev L 111 [.agg [.bool n,.sl q [[.int .u32 ((k%4294967296:Nat):Int)],[.int .u32 ((k/4294967296:Nat):Int)]]]] (.agg (eZ (bif n then -(k:Int) else (k:Int)))):=λ k hk n q=>by
  have:=MW N n q [k%4294967296,k/4294967296] ⟨(lM hk).2,by simp⟩
  unfold zv at this;rw[Gz hk]at this;exact this
 refine Ev.x N.RB rfl rfl ?_;by_cases h0:0<=z
 ·obtain ⟨k,rfl⟩:=Int.eq_ofNat_of_zero_le h0
  have hT:=two k (by omega);(repeat' ((first|(apply BR<;>intro hc<;>try (exfalso;omega))|apply IB|(apply EG;omega)|(apply G3;omega)|apply IR|refine Y8 rfl rfl ?_|apply BA)<;>conv=>whnf))
  generalize k%4294967296=lo at *;generalize k/4294967296=hi at *;(repeat' (refine BH (hT _ _) ?_<;>conv=>whnf))
  exact CJ rfl (F7 _)
 ·obtain ⟨k,hk⟩:=Int.eq_ofNat_of_zero_le (show 0 <= -(z+1) by omega)
  have hz2:z = -((k+1:Nat):Int):=by omega
  have hT:=two (k+1) (by omega);(repeat' ((first|(apply BR<;>intro hc<;>try (exfalso;omega))|(apply CG;omega)|apply Lz|(apply E6.neg;omega)|(apply EG;omega)|apply BA)<;>conv=>whnf))
  rw[show IntKind.u64.wrap (-(z+1)+1)=((k+1:Nat):Int) by rw[IntWalk.u64_in _ (by omega)];omega];rw[hz2];generalize k+1=k1 at *;(repeat' ((first|apply IB|(apply G3;omega)|apply IR|refine Y8 rfl rfl ?_)<;>conv=>whnf))
  generalize k1%4294967296=lo at *;generalize k1/4294967296=hi at *;(repeat' (refine BH (hT _ _) ?_<;>conv=>whnf))
  exact CJ rfl (F7 _)
theorem Vh (N:a9 L) (n1 n2 q1 q2:Bool) (a b:List Nat) (ha:Sm 274877906944 a) (hb:Sm 274877906944 b):Ev L 120 [.agg (rZ q1 n1 a),.agg (rZ q2 n2 b)] (.agg (eZ ((Nat.gcd (val a) (val b):Nat):Int))):=by
 have h1:=λ q q'=>Vc N a b q q' ha.1 hb.1 ha.2 hb.2
 refine Ev.x N.Q8 rfl rfl ?_;(repeat' ((first|apply BA|refine BH (h1 _ _) ?_)<;>conv=>whnf))
 exact CJ (HF (by omega) (JG (by omega))) (F7 _)
theorem Sx (n1 n2:Bool) (A B:Nat) (hB:B≠0):(bif n1 then -(A:Int) else (A:Int))/(bif n2 then -(B:Int) else (B:Int))=(bif n1 != n2 then -((if n1=true/\A%B≠0 then A/B+1 else A/B:Nat):Int) else ((if n1=true/\A%B≠0 then A/B+1 else A/B:Nat):Int)) /\
  (bif n1 then -(A:Int) else (A:Int))%(bif n2 then -(B:Int) else (B:Int))=((if n1=true/\A%B≠0 then B-A%B else A%B:Nat):Int):=by
 have hBp:(0:Int)<B:=by omega
 have key : ∀ x:Int,x/(bif n2 then -(B:Int) else (B:Int))=(bif n2 then -(x/B) else x/B)/\x%(bif n2 then -(B:Int) else (B:Int))=x%B:=λ x=>by
  cases n2
  ·exact ⟨rfl,rfl⟩
  ·exact ⟨Int.ediv_neg x B,Int.emod_neg x B⟩
 rw[(key _).1,(key _).2];cases n1
 ·have h1:((A:Int))/B=((A/B:Nat):Int):=by simp
  have h2:((A:Int))%B=((A%B:Nat):Int):=by simp
  simp only[cond_false,h1,h2];cases n2<;>simp
 ·have hd:=Nat.div_add_mod A B
  have l6:=Nat.mod_lt A (show B>0 by omega);by_cases h0:A%B=0
  ·have e : -(A:Int)=(B:Int)*(-((A/B:Nat):Int)):=by
    rw[h0,Nat.add_zero]at hd;rw[Int.mul_neg,<-Int.natCast_mul,hd]
   have h1 : -(A:Int)/B = -((A/B:Nat):Int):=by rw[e,Int.mul_ediv_cancel_left _ (by omega)]
   have h2 : -(A:Int)%B=0:=by rw[e,Int.mul_emod_right]
   simp only[cond_true,h1,h2,h0];cases n2<;>simp
  ·have e : -(A:Int)=(B:Int)*(-((A/B+1:Nat):Int))+((B-A%B:Nat):Int):=by
    have h3:(B:Int)*((A/B:Nat):Int)+((A%B:Nat):Int)=A:=by rw[<-Int.natCast_mul,<-Int.natCast_add,hd]
    rw[Int.mul_neg,Int.natCast_add,Int.mul_add];omega
   have h1 : -(A:Int)/B = -((A/B+1:Nat):Int):=by
    rw[e,Int.mul_add_ediv_left _ _ (by omega),Int.ediv_eq_zero_of_lt (by omega) (by omega),Int.add_zero]
   have h2 : -(A:Int)%B=((B-A%B:Nat):Int):=by
    rw[e,Int.mul_add_emod_self_left,Int.emod_eq_of_lt (by omega) (by omega)]
   simp only[cond_true,h1,h2];cases n2<;>simp [h0]
theorem xU (N:a9 L) (n1 n2 q1 q2:Bool) (a b:List Nat) (ha:Sm 274877906943 a) (hb:Sm 274877906943 b) (h0:zv n2 b≠0):Ev L 119 [.agg (rZ q1 n1 a),.agg (rZ q2 n2 b)] (.tup [.agg (eZ (zv n1 a/zv n2 b)),.agg (eZ (zv n1 a%zv n2 b)),.int .i64 0]):=by
 have t1:=λ q=>MW N n1 q a (ha.le (by omega))
 have t2:=λ q=>MW N n2 q b (hb.le (by omega))
 have s1:Sm 274877906943 (dg (zv n1 a).natAbs):=by rw[HO];exact ha.na
 have s2:Sm 274877906943 (dg (zv n2 b).natAbs):=by rw[HO];exact hb.na
 generalize zv n1 a=x at *;generalize zv n2 b=y at *;have sz:=λ q q'=>xQ N (dg x.natAbs) (dg y.natAbs) q q' s1.1 s2.1 (by have:=s1.2;omega) (by have:=s2.2;omega) (by rw[DN];omega)
 rw[DN,DN]at sz;obtain ⟨e1,e2⟩:=Sx (decide (x<0)) (decide (y<0)) x.natAbs y.natAbs (by omega);have hx:(bif decide (x<0) then -(x.natAbs:Int) else (x.natAbs:Int))=x:=by have:=HT x;unfold zv at this;rw[DN]at this;exact this
 have hy:(bif decide (y<0) then -(y.natAbs:Int) else (y.natAbs:Int))=y:=by have:=HT y;unfold zv at this;rw[DN]at this;exact this
 rw[hx,hy]at e1 e2;rw[e1,e2];have l1:=s1.2;have l2:=s2.2;have hq:Sm 274877906943 (dg (x.natAbs/y.natAbs)):=s1.low (by rw[DN];exact Nat.div_le_self _ _);have hr:Sm 274877906943 (dg (x.natAbs%y.natAbs)):=s2.low (by rw[DN];exact Nat.le_of_lt (Nat.mod_lt _ (by omega)));have hrz:=LJ (x.natAbs%y.natAbs);have cj:Ev L 103 [.sl false ((dg (x.natAbs/y.natAbs)).map BZ),.sl true [[.int .u32 1]]] (.sl false ((dg (x.natAbs/y.natAbs+1)).map BZ)):=by
  have:=xP N (dg (x.natAbs/y.natAbs)) [1] false true (GP _) (KN (by omega)) (by have:=hq.2;omega) (by simp)
  rw[DN,show val [1]=1 from rfl]at this;exact this
 have nv:Sm 274877906944 (dg (x.natAbs/y.natAbs+1)):=hq.add (b:=[1]) (qC (by omega) (by omega)) (by rw[DN];simp [val]);have wk:=λ q q'=>mR N (dg y.natAbs) (dg (x.natAbs%y.natAbs)) q q' s2.1 hr.1 (by omega) (by have:=hr.2;omega)
 rw[DN,DN]at wk;have u1:=λ n q=>MW N n q (dg (x.natAbs/y.natAbs)) (hq.le (by omega))
 have u2:=λ n q=>MW N n q (dg (x.natAbs/y.natAbs+1)) nv
 have ez : ∀ n V,zv n (dg V)=bif n then -(V:Int) else (V:Int):=λ n V=>by unfold zv;rw[DN]
 have fin : ∀ (z:Int) (V:Nat),BW (.tup [.agg (eZ z),.agg [.bool false,.sl false ((dg V).map BZ)],.int .i64 0]) (.tup [.agg (eZ z),.agg (eZ (V:Int)),.int .i64 0]):=λ z V=>by
  have e3:AV.agg (eZ (V:Int)) = .agg [.bool false,.sl false ((dg V).map BZ)]:=(HF (by omega) (JG (by omega))).symm;rw[e3];refine CJ rfl ?_;simp only[CS,FG,and_true,true_and];exact ⟨E0 _,E0 _⟩
 clear e1 e2 hx hy;generalize x.natAbs/y.natAbs=qq at *;generalize x.natAbs%y.natAbs=rr at *;refine Ev.x N.Q7 rfl rfl ?_;(repeat' ((first|(apply BR<;>intro hc<;>try (exfalso;omega))|apply BA|refine BH (t1 _) ?_|refine BH (t2 _) ?_|refine BH (sz _ _) ?_)<;>conv=>whnf))
 generalize decide (x<0)=p at *;generalize decide (y<0)=r at *;cases p
 ·rw[if_neg (by simp),if_neg (by simp),<-ez]
  cases r;all_goals
   (conv=>whnf)
   (repeat' (refine BH (u1 _ _) ?_<;>conv=>whnf))
   exact fin _ _
 ·by_cases hr0:rr=0
  ·rw[if_neg (by simp [hr0]),if_neg (by simp [hr0]),<-ez]
   cases r;all_goals
    (conv=>whnf)
    (repeat' ((first|(apply BR<;>intro hc<;>try (exfalso;omega))|apply CB|refine BH (u1 _ _) ?_)<;>conv=>whnf))
    exact fin _ _
  ·rw[if_pos ⟨rfl,hr0⟩,if_pos ⟨rfl,hr0⟩,<-ez]
   cases r;all_goals
    (conv=>whnf)
    (repeat' ((first|(apply BR<;>intro hc<;>try (exfalso;omega))|apply CB|refine KI rfl ?_|refine BH (cj) ?_|refine BH (wk _ _) ?_|refine BH (u2 _ _) ?_)<;>conv=>whnf))
    exact fin _ _
theorem vL:dg 1=[1]:=by rw[L5 (by omega)];simp [HR]
theorem sY:AV.agg [.bool false,.sl false [],.sl false [[.int .u32 1]]] = .agg (eQ 0):=by
 show _=AV.agg (rQ _ _ _ _ _);rw[Rat.zero_num,Rat.zero_den,vL,show (0:Int).natAbs=0 from rfl,HR];rfl
theorem Qo {x y:Int} (hy:y≠0):(Rat.divInt x y).num=(if y<0 then -(x/((Nat.gcd x.natAbs y.natAbs:Nat):Int)) else x/((Nat.gcd x.natAbs y.natAbs:Nat):Int))/\(Rat.divInt x y).den=(y/((Nat.gcd x.natAbs y.natAbs:Nat):Int)).natAbs:=by
 have h1:=Rat.num_divInt x y;have h2:=Rat.den_divInt x y;rw[if_neg hy]at h2;have hg:Int.gcd y x=Nat.gcd x.natAbs y.natAbs:=by rw[Int.gcd,Nat.gcd_comm]
 rw[hg]at h1 h2;have Af:0<Nat.gcd x.natAbs y.natAbs:=Nat.gcd_pos_of_pos_right _ (by omega);have dx:((Nat.gcd x.natAbs y.natAbs:Nat):Int) ∣ x:=Int.ofNat_dvd_left.2 (Nat.gcd_dvd_left _ _);have dy:((Nat.gcd x.natAbs y.natAbs:Nat):Int) ∣ y:=Int.ofNat_dvd_left.2 (Nat.gcd_dvd_right _ _);generalize Nat.gcd x.natAbs y.natAbs=g at *;rw[h1,h2];obtain ⟨u,rfl⟩:=dx;obtain ⟨v,rfl⟩:=dy;have rf:(g:Int)≠0:=by omega
 refine ⟨?_,?_⟩
 ·rw[Int.mul_ediv_cancel_left _ rf]
  split
  ·rename_i h
   rw[Int.sign_eq_neg_one_of_neg h,show -1*((g:Int)*u)=g*(-u) by rw[Int.mul_neg];omega,Int.mul_ediv_cancel_left _ rf]
  ·rw[Int.sign_eq_one_of_pos (by omega),Int.one_mul,Int.mul_ediv_cancel_left _ rf]
 ·rw[Int.mul_ediv_cancel_left _ rf,Int.natAbs_mul,Int.natAbs_natCast,Nat.mul_div_cancel_left _ Af]
theorem cE (N:a9 L) (n1 n2 q1 q2:Bool) (a b:List Nat) (ha:Sm 274877906943 a) (hb:Sm 274877906943 b):Ev L 121 [.agg (rZ q1 n1 a),.agg (rZ q2 n2 b)] (.agg (eQ (Rat.divInt (zv n1 a) (zv n2 b)))):=by
 have t1:=λ q=>cD N n1 q a (ha.le (by omega))
 have t2:=λ q=>cD N n2 q b (hb.le (by omega))
 by_cases h1:zv n1 a=0
 ·rw[h1,Rat.zero_divInt,<-sY]
  rw[h1,<-jH rfl]at t1;refine Ev.x N.LT rfl rfl ?_;(repeat' ((first|(apply BR<;>intro hc<;>try (exfalso;omega))|refine KI rfl ?_|apply BA|refine BH (t1 _) ?_)<;>conv=>whnf))
  exact CJ rfl (fR false [] [1])
 have s1:sgn (zv n1 a)≠0:=by unfold sgn;split<;>(try split)<;>omega
 by_cases h2:zv n2 b=0
 ·rw[h2,Rat.divInt_zero,<-sY]
  rw[h2,<-jH rfl]at t2;generalize sgn (zv n1 a)=sg at *;refine Ev.x N.LT rfl rfl ?_;(repeat' ((first|(apply BR<;>intro hc<;>try (exfalso;omega))|refine KI rfl ?_|apply BA|refine BH (t1 _) ?_|refine BH (t2 _) ?_)<;>conv=>whnf))
  exact CJ rfl (fR false [] [1])
 have s2:sgn (zv n2 b)≠0:=by unfold sgn;split<;>(try split)<;>omega
 obtain ⟨p1,p2⟩:=Qo (x:=zv n1 a) h2;have hG:=λ q q'=>Vh N n1 n2 q q' a b (ha.le (by omega)) (hb.le (by omega))
 have hle:Nat.gcd (val a) (val b)<=val b:=Nat.gcd_le_right _ (by have:=HO n2 b;omega);have Af:0<Nat.gcd (val a) (val b):=Nat.gcd_pos_of_pos_right _ (by have:=HO n2 b;omega);have sg:Sm 274877906943 (dg (Nat.gcd (val a) (val b))):=hb.low hle;rw[HO,HO]at p1 p2;have hgf:decide (((Nat.gcd (val a) (val b):Nat):Int)<0)=false:=by simp
 have Kn:Sm 274877906943 (dg (((Nat.gcd (val a) (val b):Nat):Int)).natAbs):=by rw[Int.natAbs_natCast];exact sg
 have zg:zv (decide (((Nat.gcd (val a) (val b):Nat):Int)<0)) (dg (((Nat.gcd (val a) (val b):Nat):Int)).natAbs)=((Nat.gcd (val a) (val b):Nat):Int):=HT _;have kp:=λ q q'=>xU N n1 _ q q' a _ ha Kn (by rw[zg];omega)
 have kt:=λ q q'=>xU N n2 _ q q' b _ hb Kn (by rw[zg];omega)
 rw[zg]at kp kt;have lv:Sm 274877906943 (dg (zv n1 a/((Nat.gcd (val a) (val b):Nat):Int)).natAbs):=ha.low (by
  have:(zv n1 a/((Nat.gcd (val a) (val b):Nat):Int)).natAbs<=(zv n1 a).natAbs:=Int.natAbs_ediv_le_natAbs _ _
  rw[HO]at this;exact this)
 have rf:0<((Nat.gcd (val a) (val b):Nat):Int):=by omega
 generalize ((Nat.gcd (val a) (val b):Nat):Int)=g at *;generalize zv n1 a=x at *;generalize zv n2 b=y at *;generalize sgn x=sx at *;generalize sgn y=sy at *;have hN:=λ q=>mW N (decide (x/g<0)) q (dg (x/g).natAbs) (lv.le (by omega))
 rw[HT]at hN;have tt:decide (y/g<0)=decide (y<0):=by
  congr 1;rw[eq_iff_iff,Int.ediv_lt_iff_lt_mul (by omega),Int.zero_mul]
 refine Ev.x N.LT rfl rfl ?_;(repeat' ((first|(apply BR<;>intro hc<;>try (exfalso;omega))|apply BA|refine BH (t1 _) ?_|refine BH (t2 _) ?_|refine BH (hG _ _) ?_|refine BH (kp _ _) ?_|refine BH (kt _ _) ?_)<;>conv=>whnf))
 cases Js:decide (y/g<0)
 ·rw[Js]at tt
  rw[if_neg (of_decide_eq_false tt.symm)]at p1;(conv=>whnf)
  skip
  refine CJ ?_ (G4 _);show _=AV.agg (rQ _ _ _ _ _);rw[p1,p2]
 ·rw[Js]at tt
  rw[if_pos (of_decide_eq_true tt.symm)]at p1;(conv=>whnf)
  (repeat' (refine BH (hN _) ?_<;>conv=>whnf))
  refine CJ ?_ (G4 _);show _=AV.agg (rQ _ _ _ _ _);rw[p1,p2]
theorem Qp {z:Int} {d:List Nat}:Rat.divInt z (zv false d)=mkRat z (val d):=by rw[HD,Rat.divInt_ofNat]
def Ma (n:Bool) (m d:List Nat) (n':Bool) (m' d':List Nat) (k:Nat):Prop:=Sm k m'/\Sm k d'/\val d'≠0/\qv n m d=mkRat (zv n' m') (val d')
theorem tZ (n:Bool) (m d:List Nat):CS (.tup [.agg (rZ false n m),.agg (rZ false false d)]):=by
 simp only[CS,FG,and_true,true_and];exact ⟨E0 _,E0 _⟩
theorem T5 (N:a9 L) (n q:Bool) (m d:List Nat) (k:Nat) (hk:1<=k/\k<=274877906943) (hm:Sm k m) (hd:Sm k d) : ∃ n' m' d',Ev L 122 [.agg (rQ false q n m d)] (.tup [.agg (rZ false n' m'),.agg (rZ false false d')])/\Ma n m d n' m' d' k:=by
 have t1:=λ q=>JD N d q hd.1 (by have:=hd.2;omega)
 have hl:=LJ (val d);by_cases h0:val d=0
 ·refine ⟨false,[],[1],?_,Fg _,qC hk.1 (by omega),by decide,by unfold qv;rw[h0,Rat.mkRat_zero,Gj,Rat.zero_mkRat]⟩
  refine Ev.x N.M8 rfl rfl ?_;(repeat' ((first|(apply BR<;>intro hc<;>try (exfalso;omega))|apply CB|refine KI rfl ?_|apply BA|refine BH (t1 _) ?_)<;>conv=>whnf))
  exact CJ rfl (tZ false [] [1])
 ·refine ⟨n,m,dg (val d),?_,hm,hd.na,by rw[DN];exact h0,by rw[DN];rfl⟩
  refine Ev.x N.M8 rfl rfl ?_;(repeat' ((first|(apply BR<;>intro hc<;>try (exfalso;omega))|apply CB|apply BA|refine BH (t1 _) ?_)<;>conv=>whnf))
  exact CJ rfl (tZ _ _ _)
theorem Vo (N:a9 L) (n q:Bool) (m d:List Nat) (hm:Sm 274877906943 m) (hd:Sm 274877906943 d):Ev L 123 [.agg (rQ false q n m d)] (.agg (eQ (qv n m d))):=by
 obtain ⟨n',m',d',hp,s1,s2,s3,s4⟩:=T5 N n q m d 274877906943 (by omega) hm hd;have hr:=λ q q'=>cE N n' false q q' m' d' s1 s2
 rw[Qp,<-s4]at hr;refine Ev.x N.R3 rfl rfl ?_;(repeat' ((first|apply BA|refine BH (hp) ?_|refine BH (hr _ _) ?_)<;>conv=>whnf))
 exact CJ rfl (G4 _)
theorem Ol (z:Int):AV.agg [.bool (decide (z<0)),.sl false ((dg z.natAbs).map BZ),.sl false [[.int .u32 1]]] = .agg (eQ (z:Rat)):=by
 show _=AV.agg (rQ _ _ _ _ _);rw[Rat.num_intCast,Rat.den_intCast,vL];rfl
theorem ZP (N:a9 L) (z:Int) (hz : -9223372036854775808<=z/\z<=9223372036854775807):Ev L 124 [.int .i64 z] (.agg (eQ (z:Rat))):=by
 have h1:=mX N z hz;refine Ev.x N.RO rfl rfl ?_;(repeat' ((first|refine KI rfl ?_|apply BA|refine BH (h1) ?_)<;>conv=>whnf))
 exact CJ (Ol z) (G4 _)
theorem Fh {z:Int} (hz : -9223372036854775808<=z/\z<=9223372036854775808):Sm 2 (dg z.natAbs):=Sm.dg (by omega)
theorem xW (N:a9 L) (x y:Int) (hx : -9223372036854775808<=x/\x<=9223372036854775807) (hy : -9223372036854775808<=y/\y<=9223372036854775807):Ev L 125 [.int .i64 x,.int .i64 y] (.agg (eQ (Rat.divInt x y))):=by
 have h1:=mX N x hx;have h2:=mX N y hy;have hr:=λ q q'=>cE N (decide (x<0)) (decide (y<0)) q q' _ _ ((Fh (z:=x) (by omega)).le (by omega)) ((Fh (z:=y) (by omega)).le (by omega))
 rw[HT,HT]at hr;refine Ev.x N.RK rfl rfl ?_;(repeat' ((first|apply BA|refine BH (h1) ?_|refine BH (h2) ?_|refine BH (hr _ _) ?_)<;>conv=>whnf))
 exact CJ rfl (G4 _)
theorem VM {k l:Nat} {n1 n2:Bool} {a b:List Nat} (ha:Sm k a) (hb:Sm l b):Sm (k+l) (dg (zv n1 a*zv n2 b).natAbs):=ha.mul hb (by rw[Int.natAbs_mul,HO,HO])
theorem AkM {k:Nat} {x y:Int} (ha:Sm k (dg x.natAbs)) (hb:Sm k (dg y.natAbs)):Sm (k+1) (dg (x+y).natAbs):=ha.add hb (by rw[DN,DN];omega)
theorem Vl (N:a9 L) (k:Nat) (hk:1<=k/\k<=68719476736) (n1 n2 q2 q4:Bool) (m1 d1 m2 d2:List Nat) (dm:Sm k m1) (hd1:Sm k d1) (hm2:Sm k m2) (gy:Sm k d2) :
  Ev L 126 [.agg (rQ false q2 n1 m1 d1),.agg (rQ false q4 n2 m2 d2)] (.agg (eQ (qv n1 m1 d1+qv n2 m2 d2))):=by
 obtain ⟨a1,a2,a3,w8,s1,s2,s3,s5⟩:=T5 N n1 q2 m1 d1 k (by omega) dm hd1;obtain ⟨b1,b2,b3,z7,t1,t2,t3,t5⟩:=T5 N n2 q4 m2 d2 k (by omega) hm2 gy;have l1:=s1.2;have l2:=s2.2;have l3:=t1.2;have l4:=t2.2;rw[s5,t5,iF s3 t3,<-HD b3,<-HD a3];have hM1:=λ q q'=>U1 N a1 false q q' a2 b3 s1.1 t2.1 (by omega)
 have hM2:=λ q q'=>U1 N b1 false q q' b2 a3 t1.1 s2.1 (by omega)
 have js:=λ q q'=>U1 N false false q q' a3 b3 s2.1 t2.1 (by omega)
 have g1:Sm (k+k) (dg (zv a1 a2*zv false b3).natAbs):=VM s1 t2;have g2:Sm (k+k) (dg (zv b1 b2*zv false a3).natAbs):=VM t1 s2;have g3:=AkM g1 g2;have g4:Sm (k+k) (dg (zv false a3*zv false b3).natAbs):=VM s2 t2;have hA:=λ q q'=>xT N (decide (zv a1 a2*zv false b3<0)) (decide (zv b1 b2*zv false a3<0)) q q' _ _ (g1.le (by omega)) (g2.le (by omega))
 rw[HT,HT]at hA;have hR:=λ q q'=>cE N (decide (zv a1 a2*zv false b3+zv b1 b2*zv false a3<0)) (decide (zv false a3*zv false b3<0)) q q' _ _ (g3.le (by omega)) (g4.le (by omega))
 rw[HT,HT,show zv false a3*zv false b3=((val a3*val b3:Nat):Int) by rw[HD,HD];simp,Rat.divInt_ofNat]at hR;rw[show zv false a3*zv false b3=((val a3*val b3:Nat):Int) by rw[HD,HD];simp]at js;refine Ev.x N.RH rfl rfl ?_;(repeat' ((first|apply BA|refine BH (w8) ?_|refine BH (z7) ?_|refine BH (hM1 _ _) ?_|refine BH (hM2 _ _) ?_|refine BH (hA _ _) ?_|refine BH (js _ _) ?_|refine BH (hR _ _) ?_)<;>conv=>whnf))
 exact CJ rfl (G4 _)
theorem Vm (N:a9 L) (k:Nat) (hk:1<=k/\k<=68719476736) (n1 n2 q2 q4:Bool) (m1 d1 m2 d2:List Nat) (dm:Sm k m1) (hd1:Sm k d1) (hm2:Sm k m2) (gy:Sm k d2) :
  Ev L 128 [.agg (rQ false q2 n1 m1 d1),.agg (rQ false q4 n2 m2 d2)] (.agg (eQ (qv n1 m1 d1*qv n2 m2 d2))):=by
 obtain ⟨a1,a2,a3,w8,s1,s2,s3,s5⟩:=T5 N n1 q2 m1 d1 k (by omega) dm hd1;obtain ⟨b1,b2,b3,z7,t1,t2,t3,t5⟩:=T5 N n2 q4 m2 d2 k (by omega) hm2 gy;have l1:=s1.2;have l2:=s2.2;have l3:=t1.2;have l4:=t2.2;rw[s5,t5,oK];have hM1:=λ q q'=>U1 N a1 b1 q q' a2 b2 s1.1 t1.1 (by omega)
 have js:=λ q q'=>U1 N false false q q' a3 b3 s2.1 t2.1 (by omega)
 have g1:Sm (k+k) (dg (zv a1 a2*zv b1 b2).natAbs):=VM s1 t1;have g4:Sm (k+k) (dg (zv false a3*zv false b3).natAbs):=VM s2 t2;have hR:=λ q q'=>cE N (decide (zv a1 a2*zv b1 b2<0)) (decide (zv false a3*zv false b3<0)) q q' _ _ (g1.le (by omega)) (g4.le (by omega))
 rw[HT,HT,show zv false a3*zv false b3=((val a3*val b3:Nat):Int) by rw[HD,HD];simp,Rat.divInt_ofNat]at hR;rw[show zv false a3*zv false b3=((val a3*val b3:Nat):Int) by rw[HD,HD];simp]at js;refine Ev.x N.RM rfl rfl ?_;(repeat' ((first|apply BA|refine BH (w8) ?_|refine BH (z7) ?_|refine BH (hM1 _ _) ?_|refine BH (js _ _) ?_|refine BH (hR _ _) ?_)<;>conv=>whnf))
 exact CJ rfl (G4 _)
theorem Em {a b:Int} {d e:Nat} (hd:d≠0) (he:e≠0):sgn (a*e-b*d)=sgn (mkRat a d-mkRat b e).num:=by
 have h:mkRat a d-mkRat b e=mkRat (a*e-b*d) (d*e):=by
  rw[Rat.sub_eq_add_neg,Rat.neg_mkRat,iF hd he,Int.neg_mul,<-Int.sub_eq_add_neg]
 rw[h,Eo (Nat.mul_ne_zero hd he)]
theorem xV (N:a9 L) (k:Nat) (hk:1<=k/\k<=68719476736) (n1 n2 q2 q4:Bool) (m1 d1 m2 d2:List Nat) (dm:Sm k m1) (hd1:Sm k d1) (hm2:Sm k m2) (gy:Sm k d2) :
  Ev L 127 [.agg (rQ false q2 n1 m1 d1),.agg (rQ false q4 n2 m2 d2)] (.int .i64 (sgn (qv n1 m1 d1-qv n2 m2 d2).num)):=by
 obtain ⟨a1,a2,a3,w8,s1,s2,s3,s5⟩:=T5 N n1 q2 m1 d1 k (by omega) dm hd1;obtain ⟨b1,b2,b3,z7,t1,t2,t3,t5⟩:=T5 N n2 q4 m2 d2 k (by omega) hm2 gy;have l1:=s1.2;have l2:=s2.2;have l3:=t1.2;have l4:=t2.2;rw[s5,t5,<-Em s3 t3,<-HD b3,<-HD a3];have hM1:=λ q q'=>U1 N a1 false q q' a2 b3 s1.1 t2.1 (by omega)
 have hM2:=λ q q'=>U1 N b1 false q q' b2 a3 t1.1 s2.1 (by omega)
 have g1:Sm (k+k) (dg (zv a1 a2*zv false b3).natAbs):=VM s1 t2;have g2:Sm (k+k) (dg (zv b1 b2*zv false a3).natAbs):=VM t1 s2;have hC:=λ q q'=>Vg N (decide (zv a1 a2*zv false b3<0)) (decide (zv b1 b2*zv false a3<0)) q q' _ _ (g1.le (by omega)) (g2.le (by omega))
 rw[HT,HT]at hC;refine Ev.x N.RI rfl rfl ?_;(repeat' ((first|apply BA|refine BH (w8) ?_|refine BH (z7) ?_|refine BH (hM1 _ _) ?_|refine BH (hM2 _ _) ?_|refine BH (hC _ _) ?_)<;>conv=>whnf))
 exact FF rfl
theorem Bt.ep {k:Nat} {x:Rat} (h:Bt k x) (hk:k<2199023255552):Sm 68719476736 (dg x.num.natAbs)/\Sm 68719476736 (dg x.den):=h.Ij (by omega)
theorem mG (N:a9 L) {x y:Rat} {k l:Nat} (hx:Bt k x) (hy:Bt l y) (hk:k<2199023255552) (hl:l<2199023255552):Ev L 126 [.agg (eQ x),.agg (eQ y)] (.agg (eQ (x+y))):=by
 have:=Vl N 68719476736 (by omega) (decide (x.num<0)) (decide (y.num<0)) false false _ _ _ _ (hx.ep hk).1 (hx.ep hk).2 (hy.ep hl).1 (hy.ep hl).2
 rw[IA,IA]at this;exact this
theorem cC (N:a9 L) {x y:Rat} {k l:Nat} (hx:Bt k x) (hy:Bt l y) (hk:k<2199023255552) (hl:l<2199023255552):Ev L 128 [.agg (eQ x),.agg (eQ y)] (.agg (eQ (x*y))):=by
 have:=Vm N 68719476736 (by omega) (decide (x.num<0)) (decide (y.num<0)) false false _ _ _ _ (hx.ep hk).1 (hx.ep hk).2 (hy.ep hl).1 (hy.ep hl).2
 rw[IA,IA]at this;exact this
theorem cF (N:a9 L) {x:Rat} {k:Nat} (hx:Bt k x) (hk:k<2199023255552):Ev L 123 [.agg (eQ x)] (.agg (eQ x)):=by
 have:=Vo N (decide (x.num<0)) false _ _ ((hx.ep hk).1.le (by omega)) ((hx.ep hk).2.le (by omega))
 rw[IA]at this;exact this
theorem mH (N:a9 L) {x y:Rat} {k l:Nat} (hx:Bt k x) (hy:Bt l y) (hk:k<2199023255552) (hl:l<2199023255552):Ev L 127 [.agg (eQ x),.agg (eQ y)] (.int .i64 (sgn (x-y).num)):=by
 have:=xV N 68719476736 (by omega) (decide (x.num<0)) (decide (y.num<0)) false false _ _ _ _ (hx.ep hk).1 (hx.ep hk).2 (hy.ep hl).1 (hy.ep hl).2
 rw[IA,IA]at this;exact this
theorem dL {x y:Rat}:sgn (x-y).num=0↔x=y:=by
 have h:sgn (x-y).num=0↔(x-y).num=0:=by unfold sgn;split<;>(try split)<;>omega
 rw[h,Rat.num_eq_zero];constructor
 ·intro h;grind
 ·rintro rfl;exact Rat.sub_self
theorem ZM (N:a9 L) (a b:List Rat) (q1 q2:Bool) (k:Nat) (ha:Bs k a) (hb:Bs k b) (hk:k<2199023255552) (hl:a.length<=1099511627776):Ev L 129 [.sl q1 (a.map eQ),.sl q2 (b.map eQ)] (.bool (decide (a=b))):=by
 refine Ev.x N.SC rfl rfl ?_;by_cases hlen:a.length=b.length
 ·(repeat' ((first|(apply BR<;>intro hc<;>try (exfalso;omega))|apply CB|apply BA)<;>conv=>whnf))
  refine DG (λ i=>a.length-i) (λ(i:Nat)=>i<=a.length/\a.take i=b.take i) (λ i=>[(5,.int .i64 i)]) (λ_=>[]) [] [] 0 (by (conv=>whnf);exact ⟨rfl,rfl,rfl⟩) ⟨by omega,rfl⟩ ?_;intro i ⟨p1,p2⟩ ih;by_cases hi:i<a.length
  ·obtain ⟨x,hx⟩ : ∃ x,a[i]? = some x:=⟨_,zE hi⟩
   obtain ⟨y,hy⟩ : ∃ y,b[i]? = some y:=⟨_,zE (by omega)⟩;have hx':a[(i:Int).toNat]? = some x:=hx;have hy':b[(i:Int).toNat]? = some y:=hy;have Im:=mH N (ha.at hx) (hb.at hy) hk hk;have hs:=dL (x:=x) (y:=y);generalize sgn (x-y).num=sg at *;by_cases gk:x=y
   ·have h0:sg=0:=hs.2 gk
    (repeat' ((first|(apply BR<;>intro hc<;>try (exfalso;omega))|(apply CG;omega)|apply CB|(refine CX (by assumption) ?_ rfl ?_;omega)|apply BA|refine BH (Im) ?_)<;>conv=>whnf))
    refine DE [] (by (conv=>whnf);exact ⟨rfl,rfl,rfl⟩) (ih (i+1) (by omega) ⟨by omega,?_⟩);rw[List.take_add_one,List.take_add_one,p2,hx,hy,gk]
   ·have hne:sg≠0:=λ h=>gk (hs.1 h)
    (repeat' ((first|(apply BR<;>intro hc<;>try (exfalso;omega))|apply CB|(refine CX (by assumption) ?_ rfl ?_;omega)|apply BA|refine BH (Im) ?_)<;>conv=>whnf))
    refine eB (λ h=>gk ?_);rw[h,hy]at hx;exact (Option.some.inj hx).symm
  ·obtain rfl:i=a.length:=by omega
   clear ih;(repeat' ((first|(apply BR<;>intro hc<;>try (exfalso;omega))|apply CB|apply BA)<;>conv=>whnf))
   refine sE ?_;rw[List.take_of_length_le (Nat.le_refl _),List.take_of_length_le (by omega)]at p2;exact p2
 ·(repeat' ((first|(apply BR<;>intro hc<;>try (exfalso;omega))|apply CB|apply BA)<;>conv=>whnf))
  exact eB (λ h=>hlen (by rw[h]))
theorem mO (N:g9 L) {x:Rat} {k:Nat} (hx:Bt k x) (hk:k<2199023255552):Ev L 152 [.agg (eQ x)] (.agg (eQ (-x))):=by
 have hT:=cF N.toa9 hx hk;have hN:=λ q=>mW N.toa9 (decide (x.num<0)) q (dg x.num.natAbs) ((hx.ep hk).1.le (by omega))
 rw[HT]at hN;refine Ev.x N.RN rfl rfl ?_;(repeat' ((first|apply BA|refine BH (hT) ?_|refine BH (hN _) ?_)<;>conv=>whnf))
 refine CJ ?_ (G4 _);show _=AV.agg (rQ _ _ _ _ _);rw[Rat.neg_num,Rat.neg_den]
theorem Uz (N:g9 L) {x y:Rat} {k l:Nat} (hx:Bt k x) (hy:Bt l y) (hk:k<2199023255552) (hl:l<2199023255552):Ev L 153 [.agg (eQ x),.agg (eQ y)] (.agg (eQ (x-y))):=by
 have hn:Bt l (-y):=⟨by rw[Rat.neg_num,Int.natAbs_neg];exact hy.1,by rw[Rat.neg_den];exact hy.2⟩;have hN:=mO N hy hl;have hA:=mG N.toa9 hx hn hk hl;rw[<-Rat.sub_eq_add_neg]at hA;refine Ev.x N.RZ rfl rfl ?_;(repeat' ((first|apply BA|refine BH (hN) ?_|refine BH (hA) ?_)<;>conv=>whnf))
 exact CJ rfl (G4 _)
theorem AjP {a c:Int} {b d:Nat} (hb:b≠0) (hd:d≠0) (hc:c≠0):mkRat a b/mkRat c d=Rat.divInt (a*d) (b*c):=by
 rw[Rat.div_def,<-Rat.divInt_ofNat,<-Rat.divInt_ofNat,Rat.inv_divInt,Rat.divInt_mul_divInt]
theorem Wa (N:g9 L) {x y:Rat} {k l:Nat} (hx:Bt k x) (hy:Bt l y) (hk:k<2199023255552) (hl:l<2199023255552) (h0:y≠0):Ev L 154 [.agg (eQ x),.agg (eQ y)] (.tup [.agg (eQ (x/y)),.int .i64 0]):=by
 obtain ⟨a1,a2,a3,w8,s1,s2,s3,s5⟩:=T5 N.toa9 (decide (x.num<0)) false (dg x.num.natAbs) (dg x.den) 68719476736 (by omega) (hx.ep hk).1 (hx.ep hk).2;obtain ⟨b1,b2,b3,z7,t1,t2,t3,t5⟩:=T5 N.toa9 (decide (y.num<0)) false (dg y.num.natAbs) (dg y.den) 68719476736 (by omega) (hy.ep hl).1 (hy.ep hl).2;have l1:=s1.2;have l2:=s2.2;have l3:=t1.2;have l4:=t2.2;rw[IA]at s5 t5;have ou:zv b1 b2≠0:=λ h=>h0 (by rw[t5,h,Rat.zero_mkRat])
 have hS:=λ q=>cD N.toa9 b1 q b2 (t1.le (by omega))
 have hsg:sgn (zv b1 b2)≠0:=by unfold sgn;split<;>(try split)<;>omega
 have hM1:=λ q q'=>U1 N.toa9 a1 false q q' a2 b3 s1.1 t2.1 (by omega)
 have hM2:=λ q q'=>U1 N.toa9 false b1 q q' a3 b2 s2.1 t1.1 (by omega)
 have g1:Sm (68719476736+68719476736) (dg (zv a1 a2*zv false b3).natAbs):=VM s1 t2;have g2:Sm (68719476736+68719476736) (dg (zv false a3*zv b1 b2).natAbs):=VM s2 t1;have hR:=λ q q'=>cE N.toa9 (decide (zv a1 a2*zv false b3<0)) (decide (zv false a3*zv b1 b2<0)) q q' _ _ (g1.le (by omega)) (g2.le (by omega))
 rw[HT,HT]at hR;have he:x/y=Rat.divInt (zv a1 a2*zv false b3) (zv false a3*zv b1 b2):=by rw[s5,t5,AjP s3 t3 ou,HD,HD]
 rw[he];generalize sgn (zv b1 b2)=sg at *;refine Ev.x N.RJ rfl rfl ?_;(repeat' ((first|(apply BR<;>intro hc<;>try (exfalso;omega))|apply BA|refine BH (w8) ?_|refine BH (z7) ?_|refine BH (hS _) ?_|refine BH (hM1 _ _) ?_|refine BH (hM2 _ _) ?_|refine BH (hR _ _) ?_)<;>conv=>whnf))
 exact CJ rfl (by simp only[CS,FG,and_true,true_and];exact ⟨E0 _,E0 _⟩)
end Go.Eng
namespace Go.Eng
abbrev eO:Option Rat->List AV
 | none=>[.bool false,.nil,.nil]
 | some x=>eQ x
def FR (l:List Rat) (m:Nat):List (Option Rat):=l.map some++List.replicate (m-l.length) none
theorem KO (m:Nat):FR [] m=List.replicate m none:=by simp [FR]
theorem JM {l:List Rat} {m:Nat} (h:l.length<=m):(FR l m).length=m:=by simp [FR];omega
theorem KP {l:List Rat} {m:Nat} {x:Rat} (h:l.length<m):(FR l m).set l.length (some x)=FR (l++[x]) m:=by
 unfold FR;have e:m-l.length=(m-(l++[x]).length)+1:=by simp;omega
 rw[e,List.replicate_succ,List.set_append_right _ _ (by simp)];simp
theorem K4 {l:List Rat} {m:Nat} (h:l.length=m):(FR l m).map eO=l.map eQ:=by
 unfold FR;rw[h,Nat.sub_self];simp [Function.comp_def]
abbrev eS (S:GU):List AV:=[.sl false (S.a.map λ r=>[AV.sl false (r.map eQ)]),.sl false (S.b.map eQ),.sl false (S.c.map eQ)]++eQ S.d
theorem KM (l:List Rat):IO (l.map eQ):=bF (λ x=>by simp only[FG,CS,and_true,true_and];exact ⟨E0 _,E0 _⟩) l
theorem LC {l:List Rat} {i:Nat} {x:Rat} (h:l[i]? = some x):l.take (i+1)=l.take i++[x]:=by
 rw[List.take_add_one,h];rfl
theorem fS (S:GU):CS (.agg (eS S)):=by
 have h:IO (S.a.map λ r=>[AV.sl false (r.map eQ)]):=bF (λ r=>by simp only[FG,CS,and_true,true_and];exact KM r) S.a;simp only[CS,List.cons_append,List.nil_append,FG,and_true,true_and];exact ⟨h,KM _,KM _,E0 _,E0 _⟩
end Go.Eng

namespace Go.Eng
open F
attribute [local irreducible] AH BJ B1 BD E6 CF CI CY CU DX B5 DT EN GS DS CR DR EF AR CW BW pw DC DB EP EV E7 FM EZ D5 FE
variable {L:Lib}
set_option maxHeartbeats 8000000
theorem xR (N:g9 L) (q1 q2:Bool) (m:List Nat) (hm:m.length<=274877906944):Ev L 156 [.sl q1 (m.map BZ),.sl q2 (m.map BZ)] (.bool true):=by
 refine Ev.x N.Q3 rfl rfl ?_;(repeat' ((first|(apply BR<;>intro hc<;>try (exfalso;omega))|apply CB|apply BA)<;>conv=>whnf))
 refine DG (λ i=>m.length-i) (λ(i:Nat)=>i<=m.length) (λ i=>[(5,.int .i64 i)]) (λ_=>[]) [] [] 0 (by (conv=>whnf);exact ⟨rfl,rfl,rfl⟩) (by omega) ?_;intro i p1 ih;by_cases hi:i<m.length
 ·obtain ⟨x,hx⟩ : ∃ x,m[i]? = some x:=⟨_,zE hi⟩
  have hx':m[(i:Int).toNat]? = some x:=hx;(repeat' ((first|(apply BR<;>intro hc<;>try (exfalso;omega))|(apply CG;omega)|apply CB|(refine CX (by assumption) ?_ rfl ?_;omega)|apply BA)<;>conv=>whnf))
  exact C6 [] (ih (i+1) (by omega) (by omega))
 ·obtain rfl:i=m.length:=by omega
  clear ih;(repeat' ((first|(apply BR<;>intro hc<;>try (exfalso;omega))|apply CB|apply BA)<;>conv=>whnf))
  exact I4 rfl
theorem Vj (N:g9 L) (n q1 q2:Bool) (m:List Nat) (hm:m.length<=274877906944):Ev L 157 [.agg (rZ q1 n m),.agg (rZ q2 n m)] (.bool true):=by
 have h1:=λ q1 q2=>xR N q1 q2 m hm
 refine Ev.x N.RC rfl rfl ?_;cases n;all_goals
  (repeat' ((first|apply BA|refine BH (h1 _ _) ?_)<;>conv=>whnf))
  exact I4 rfl
theorem Vn (N:g9 L) {x:Rat} {k:Nat} (hx:Bt k x) (hk:k<2199023255552):Ev L 158 [.agg (eQ x),.agg (eQ x)] (.bool true):=by
 have hs:=hx.ep hk;have h1:=λ q1 q2=>xR N q1 q2 (dg x.den) (by have:=hs.2.2;omega)
 have h2:=λ q1 q2=>Vj N (decide (x.num<0)) q1 q2 (dg x.num.natAbs) (by have:=hs.1.2;omega)
 refine Ev.x N.RQ rfl rfl ?_;(repeat' ((first|apply BA|refine BH (h1 _ _) ?_|refine BH (h2 _ _) ?_)<;>conv=>whnf))
 exact I4 rfl
theorem Si (N:g9 L) (q1 q2:Bool) (l:List Rat) (k:Nat) (hl:Bs k l) (hk:k<2199023255552) (hn:l.length<=1099511627776):Ev L 159 [.sl q1 (l.map eQ),.sl q2 (l.map eQ)] (.bool true):=by
 refine Ev.x N.RR rfl rfl ?_;(repeat' ((first|(apply BR<;>intro hc<;>try (exfalso;omega))|apply CB|apply BA)<;>conv=>whnf))
 refine DG (λ i=>l.length-i) (λ(i:Nat)=>i<=l.length) (λ i=>[(5,.int .i64 i)]) (λ_=>[]) [] [] 0 (by (conv=>whnf);exact ⟨rfl,rfl,rfl⟩) (by omega) ?_;intro i p1 ih;by_cases hi:i<l.length
 ·obtain ⟨x,hx⟩ : ∃ x,l[i]? = some x:=⟨_,zE hi⟩
  have hx':l[(i:Int).toNat]? = some x:=hx;have hC:=Vn N (hl.at hx) hk;(repeat' ((first|(apply BR<;>intro hc<;>try (exfalso;omega))|(apply CG;omega)|apply CB|(refine CX (by assumption) ?_ rfl ?_;omega)|apply BA|refine BH (hC) ?_)<;>conv=>whnf))
  exact C6 [] (ih (i+1) (by omega) (by omega))
 ·obtain rfl:i=l.length:=by omega
  clear ih;(repeat' ((first|(apply BR<;>intro hc<;>try (exfalso;omega))|apply CB|apply BA)<;>conv=>whnf))
  exact I4 rfl
theorem gR (N:g9 L) {x:Rat} {k:Nat} (hx:Bt k x) (hk:k<2199023255552) : ∃ s:Int,Ev L 155 [.agg (eQ x)] (.int .i64 s)/\(s=0↔x=0):=by
 have hm:=hx.ep hk;obtain ⟨n',m',d',hp,s1,s2,s3,s4⟩:=T5 N.toa9 (decide (x.num<0)) false (dg x.num.natAbs) (dg x.den) 274877906943 (by omega) (hm.1.le (by omega)) (hm.2.le (by omega));have hS:=λ q=>cD N.toa9 n' q m' (s1.le (by omega))
 rw[IA]at s4;have hz:sgn (zv n' m')=0↔x=0:=by
  rw[s4,Rat.mkRat_eq_zero s3];unfold sgn;split<;>(try split)<;>omega
 generalize sgn (zv n' m')=s at *;refine ⟨s,?_,hz⟩;refine Ev.x N.RS rfl rfl ?_;(repeat' ((first|apply BA|refine BH (hp) ?_|refine BH (hS _) ?_)<;>conv=>whnf))
 exact FF rfl
def FY (l:List Rat):Nat->Nat
 | 0=>0
 | n+1=>if l.getD n 0=0 then FY l n else n+1
theorem UT (l:List Rat) : ∀ n,FY l n<=n
 | 0=>Nat.le_refl _
 | n+1=>by rw[FY];split;exact Nat.le_succ_of_le (UT l n);exact Nat.le_refl _
def GM (l:List Rat):List Rat:=l.take (FY l l.length)
theorem aC (l:List Rat):(GM l).length=FY l l.length:=by rw[GM,List.length_take];exact Nat.min_eq_left (UT _ _)
theorem Bs.trim {k:Nat} {l:List Rat} (h:Bs k l):Bs k (GM l):=λ x hx=>h x (List.mem_of_mem_take hx)
theorem jS {l:List Rat} {i:Nat} {x:Rat} (h:l[i]? = some x):l.take (i+1)=l.take i++[x]:=by
 rw[List.take_add_one,h];rfl
theorem Vq (N:v7 L) (q:Bool) (l:List Rat) (k:Nat) (hl:Bs k l) (hk:k<2199023255552) (hn:l.length<=1000000):Ev L 171 [.sl q (l.map eQ)] (.sl false ((GM l).map eQ)):=by
 refine Ev.x N.R6 rfl rfl ?_;(repeat' ((first|apply CB|apply BA)<;>conv=>whnf))
 refine DG (λ n=>n) (λ(n:Nat)=>n<=l.length/\FY l l.length=FY l n) (λ n=>[(3,.int .i64 n)]) (λ_=>[]) [] [] l.length (by (conv=>whnf);exact ⟨rfl,rfl,rfl⟩) ⟨Nat.le_refl _,rfl⟩ ?_;intro n ⟨p1,p2⟩ ih;have done : ∀ {n:Nat},FY l l.length=n->GM l=l.take n:=λ h=>by rw[GM,h]
 by_cases hz:n=0\/(∃ m x,n=m+1/\l[m]? = some x/\x≠0)
 ·have bn:FY l l.length=n:=by
   rw[p2];rcases hz with rfl|⟨m,x,rfl,h1,h2⟩
   ·rfl
   ·rw[FY,if_neg]
    rw[List.getD_eq_getElem?_getD,h1];exact h2
  rw[done bn];have htl:(l.take n).length=n:=by rw[List.length_take];omega
  have htb:Bs k (l.take n):=hl.take n;clear ih bn p2 done;rcases hz with h0|⟨m,x,ye,h1,h2⟩
  case' inl=>(repeat' ((first|(apply BR<;>intro hc<;>try (exfalso;omega))|apply BA)<;>conv=>whnf))
  case' inr =>
   have h1':l[((n:Int)-1).toNat]? = some x:=by rw[show ((n:Int)-1).toNat=m by omega];exact h1
   obtain ⟨s,hS,hs⟩:=gR N.tog9 (hl.at h1) hk;have hs0:s≠0:=λ h=>h2 (hs.1 h)
   (repeat' ((first|(apply BR<;>intro hc<;>try (exfalso;omega))|(apply D4;omega)|(refine CX (by assumption) ?_ rfl ?_;omega)|apply BA|refine BH (hS) ?_)<;>conv=>whnf))
  all_goals
   refine UK (λ_=>rfl) p1 ?_;generalize l.take n=t at *;(conv=>whnf)
   (repeat' (apply CB<;>conv=>whnf))
   refine DG (λ i=>n-i) (λ(i:Nat)=>i<=n) (λ i=>[(26,.int .i64 i),(4,.row 171004 0 3 0 i)]) (λ i=>[(171004,171004,.rw 3 ((t.take i).map eQ))]) [] [] 0 (by (conv=>whnf);exact ⟨rfl,rfl,rfl⟩) (by omega) ?_;intro i g1 ih;have hti:(t.take i).length=i:=by rw[List.length_take];omega
   by_cases hi:i<n
   ·all_goals try (exfalso;omega)
    all_goals
     obtain ⟨y,hy⟩ : ∃ y,t[i]? = some y:=⟨_,zE (by omega)⟩;have hy':t[(i:Int).toNat]? = some y:=hy;have hsn:=jS hy;have Bj:(t.take (i+1)).length=i+1:=by rw[List.length_take];omega
     have hT:=cF N.toa9 (htb.at hy) hk;(repeat' ((first|(apply BR<;>intro hc<;>try (exfalso;omega))|(refine CX (by assumption) ?_ rfl ?_;omega)|apply G0|apply BA|refine BH (hT) ?_)<;>conv=>whnf))
     refine HP (enc:=eQ) y rfl hti.symm rfl (by omega) (by omega) ?_;rw[<-hsn,Bj];(conv=>whnf)
     (repeat' ((first|(apply CG;omega)|fail)<;>conv=>whnf))
     exact C6 [(171004,171034)] (ih (i+1) (by omega) (by omega))
   ·obtain rfl:i=n:=by omega
    clear ih;rw[List.take_of_length_le (Nat.le_of_eq htl)];(repeat' ((first|(apply BR<;>intro hc<;>try (exfalso;omega))|apply BA)<;>conv=>whnf))
    refine GI (enc:=eQ) (λ_=>rfl) rfl htl.symm ?_;(conv=>whnf)
    exact CJ rfl (by simp only[CS,true_and];exact KM _)
 ·obtain ⟨m,rfl⟩ : ∃ m,n=m+1:=⟨n-1,by omega⟩
  obtain ⟨x,hx⟩ : ∃ x,l[m]? = some x:=⟨_,zE (by omega)⟩;have hx0:x=0:=by
   rcases Classical.em (x=0) with h|h
   ·exact h
   ·exact (hz (Or.inr ⟨m,x,rfl,hx,h⟩)).elim
  have hx':l[((m+1:Nat)-1:Int).toNat]? = some x:=by rw[show ((m+1:Nat)-1:Int).toNat=m by omega];exact hx
  obtain ⟨s,hS,hs⟩:=gR N.tog9 (hl.at hx) hk;have hs0:=hs.2 hx0;(repeat' ((first|(apply BR<;>intro hc<;>try (exfalso;omega))|(apply D4;omega)|(refine CX (by assumption) ?_ rfl ?_;omega)|apply BA|refine BH (hS) ?_)<;>conv=>whnf))
  rw[show ((m+1:Nat):Int)-1=(m:Int) by omega];exact C6 [] (ih m (by omega) ⟨by omega,by rw[p2,FY,if_pos (by rw[List.getD_eq_getElem?_getD,hx];exact hx0)]⟩)
theorem Vp (N:v7 L) (q1 q2:Bool) (l:List Rat) (k:Nat) (hl:Bs k l) (hk:k<2199023255552) (hn:l.length<=1000000):Ev L 172 [.sl q1 (l.map eQ),.sl q2 (l.map eQ)] (.bool true):=by
 have hS:=λ q1 q2=>Si N.tog9 q1 q2 l k hl hk (by omega)
 refine Ev.x N.R4 rfl rfl ?_;(repeat' ((first|apply BA|refine BH (hS _ _) ?_)<;>conv=>whnf))
 exact I4 rfl
theorem xX (N:v7 L) (q1 q2:Bool) (l:List Rat) (k:Nat) (hl:Bs k l) (hk:k<2199023255552) (hn:l.length<=1000000):Ev L 173 [.sl q1 (l.map eQ),.sl q2 (l.map eQ)] (.bool true):=by
 have hT:=λ q=>Vq N q l k hl hk hn
 have hS:=λ q1 q2=>Vp N q1 q2 (GM l) k hl.trim hk (by rw[aC];have:=UT l l.length;omega)
 refine Ev.x N.R5 rfl rfl ?_;(repeat' ((first|apply BA|refine BH (hT _) ?_|refine BH (hS _ _) ?_)<;>conv=>whnf))
 exact I4 rfl
end Go.Eng

namespace Go.Eng
open F
theorem Th {L:Lib} {f:Nat} {fn:AFn} {vs:List AV} {own l8:BT} {r:AV} (hL:L f=some fn) (wc:LG fn.body=true) (h:JL L f vs own r l8):l8=own:=by
 obtain ⟨n,h⟩:=h;cases n with
 | zero=>simp [GA]at h
 | succ n =>
  rw[bZ]at h;simp only[hL]at h;split at h
  ·split at h
   ·rename_i st hst
    split at h
    ·simp only[Option.some.injEq,Prod.mk.injEq]at h
     rw[<-h.2];exact LW n (by simp [U3,wc]) hst
    ·cases h
   ·cases h
  ·cases h
attribute [local irreducible] AH BJ B1 BD E6 CF CI CY CU DX B5 DT EN GS DS CR DR EF AR CW BW pw DC DB EP EV E7 FM EZ D5 FE
set_option maxHeartbeats 1000000
variable {L:Lib}
theorem Rz (N:c6 L) (l:List Nat) (s:Nat) (hD:CP l) (hl:l.length<=1099511627776):CW L 65 [.row 5 0 1 0 l.length] [(0,.row 5 0 1 0 l.length)] [(5,s,.rw 1 (l.map BZ))] (λ r _=>r = .row 5 0 1 0 (dg (val l)).length):=by
 have hlen : ∀ n,n<=l.length->l.take n=dg (val l)->n=(dg (val l)).length:=λ n h1 h2=>by
  rw[<-h2,List.length_take];omega
 refine HI 1000 N.IM rfl rfl ?_;(repeat' (apply BA<;>conv=>whnf))
 refine DG (λ n=>n) (λ(n:Nat)=>n<=l.length /\ ∀ i,n<=i->i<l.length->l[i]? = some 0) (λ n=>[(3,.int .i64 n)]) (λ_=>[]) [] [] l.length (by (conv=>whnf);exact ⟨rfl,rfl,rfl⟩) ⟨Nat.le_refl _,λ i h1 h2=>by omega⟩ ?_;intro n ⟨p1,p2⟩ ih;rcases n with _|n
 ·(repeat' ((first|(apply BR<;>intro hc<;>try (exfalso;omega))|apply BA)<;>conv=>whnf))
  refine JK 0 (by omega) (by omega) ?_;(conv=>whnf)
  refine ⟨rfl,_,rfl,?_⟩;rw[<-hlen 0 p1 (JC hD p1 p2 (Or.inl rfl))];rfl
 ·have e1:((n+1:Nat):Int)-1=n:=by omega
  (repeat' ((first|(apply BR<;>intro hc<;>try (exfalso;omega))|(apply CE;omega)|(apply D4;omega)|(refine WY (by assumption) ?_ (λ v hv hb => ?_);omega)|apply BA)<;>conv=>whnf))
  ·rw[e1]
   exact C6 [] (ih n (by omega) ⟨by omega,λ i h1 h2=>by
    by_cases h:i=n
    ·subst h
     rw[e1,Int.toNat_natCast]at hv;rw[hv];congr 1;omega
    ·exact p2 i (by omega) h2⟩)
  ·refine JK (n+1) (by omega) (by omega) ?_
   (conv=>whnf)
   refine ⟨rfl,_,rfl,?_⟩;rw[e1,Int.toNat_natCast]at hv;rw[<-hlen (n+1) p1 (JC hD p1 p2 (Or.inr ⟨_,hv,by omega⟩))];rfl
theorem Ry (N:c6 L) (l:List Nat) (s t:Nat) (own:BT) (hD:CP l) (hl:l.length<=1099511627776) (hb:(own s).blk t=some ⟨1,l.map BZ⟩) (ht:t<(own s).e5) (ib:HM s=true):JL L 65 [.row s t 1 0 l.length] own (.row s t 1 0 (dg (val l)).length) own:=by
 have hs:NR (λ_ _=>(s,t)) own [(5,s,.rw 1 (l.map BZ))]:=by
  have key : ∀ k u c,b7 [(5,s,CQ.rw 1 (l.map BZ))] k u=some c->k=5/\u=0/\c = .rw 1 (l.map BZ):=λ k u c e=>by
   simp only[b7,c5]at e;cases hk:Nat.beq k 5<;>simp only[hk,cond_true,cond_false]at e
   ·cases e
   ·cases u with
    | zero=>simp only[Option.some.injEq]at e;exact ⟨Nat.eq_of_beq_eq_true hk,rfl,e.symm⟩
    | succ u=>cases e
  refine ⟨λ k s' c e => ?_,λ k u c e => ?_,λ k u c e=>ht,λ k u k' u' c c' e e' _ => ?_,λ_ _ _ _ _=>ib⟩
  ·simp only[c5]at e
   cases hk:Nat.beq k 5<;>simp only[hk,cond_true,cond_false]at e
   ·cases e
   ·simp only[Option.some.injEq,Prod.mk.injEq]at e;exact e.1
  ·obtain ⟨_,_,rfl⟩:=key k u c e
   exact hb
  ·obtain ⟨rfl,rfl,_⟩:=key k u c e
   obtain ⟨rfl,rfl,_⟩:=key k' u' c' e';exact ⟨rfl,rfl⟩
 have hw:=Rz N l s hD hl;unfold CW at hw;obtain ⟨r,l8,σ',M',h1,h2,h3,rfl⟩:=hw _ own hs;have ho:=Th N.IM (by decide +kernel) h1;subst ho;have h4:AV.row (σ' 5 0).1 (σ' 5 0).2 1 0 l.length=AV.row s t 1 0 l.length:=h3 0;simp only[AV.row.injEq]at h4;have h5:JL L 65 [.row s t 1 0 l.length] l8 (.row (σ' 5 0).1 (σ' 5 0).2 1 0 (dg (val l)).length) l8:=h1;rw[h4.1,h4.2.1]at h5;exact h5
theorem dZ (N:c6 L) {l:List Nat} {tm:Tm} {M:Mem} {K:AV->Mem->Prop} {key s len:Nat} (hD:CP l) (hl:l.length<=1099511627776) (hm:c5 M key=some (s,.rw 1 (l.map BZ))) (hlen:len=l.length) (hk:K (.row key 0 1 0 (dg (val l)).length) M):CW L 65 [.row key 0 1 0 len] tm M K:=by
 subst hlen;unfold CW;intro σ own hs;have bp:=hs.site _ _ _ hm;have vu:b7 M key 0=some (.rw 1 (l.map BZ)):=by simp only[b7,hm]
 have hb:=hs.blk _ _ _ vu;have ht:=hs.old _ _ _ vu;refine ⟨.row key 0 1 0 (dg (val l)).length,own,σ,M,?_,hs,λ_=>rfl,hk⟩;exact Ry N l (σ key 0).1 (σ key 0).2 own hD hl hb ht (hs.low _ _ _ (GK hm) rfl)
end Go.Eng

namespace Go.Eng
open F
attribute [local irreducible] AH BJ B1 BD E6 CF CI CY CU DX B5 DT EN GS DS CR DR EF AR CW BW pw DC DB EP EV E7 FM EZ D5 FE
set_option maxHeartbeats 4000000
variable {L:Lib}
abbrev lZ (v:List Nat) (j m s xl:Nat):Tm:=[(102,AV.sl false (List.map BZ v)),(101,AV.row 71012 0 1 j (v.length+1)),
           (100,AV.int IntKind.i64 (↑j + ↑v.length+1)),(99,AV.int IntKind.i64 (↑j + ↑v.length)),
           (98,AV.int IntKind.i64 ↑v.length),(97,AV.int IntKind.i64 ↑j),(96,AV.int IntKind.i64 ↑j),
           (95,AV.row 71012 0 1 0 (xl+1)),(94,AV.int IntKind.i64 ↑j),(93,AV.row 28 0 1 0 m),
           (90,AV.bool true),(14,AV.int IntKind.i64 ↑j),(13,AV.sl false (List.map BZ v)),
           (12,AV.row 71012 0 1 0 (xl+1)),(11,AV.int IntKind.u64 ↑s),(7,AV.row 28 0 1 0 m),
           (6,AV.int IntKind.i64 ↑v.length)]
abbrev Sw:List It:=[It.lp IV.l2,It.blk 2,It.code
      (((C1.ops IV.x8 false).dr [9,10,84,85,86,87,118,119,120,121,122,123,124,125,126]
         []).seq
       (((C1.ops IV.r19 false).dr [127,128,129,130,131] []).seq
        ((((C1.ops IV.bg false).dr [15,132,133] []).seq
           (C1.cond 134
            (((C1.ops IV.da false).dr [0,1,5,7,134,135,136] []).seq C1.ret)
            C1.skip)).seq
         (((C1.ops IV.de false).dr [134] []).seq
          ((((C1.ops IV.fu false).dr [1] []).seq (C1.block 4 IV.l3.loop)).seq
           (((C1.ops IV.r30 false).dr
              [0,5,9,137,138,139,140,162,163,164,165,166,167,168,169] []).seq
            (((C1.ops IV.px false).dr [7,170,171,172] []).seq C1.ret)))))))]
section
variable {A W C w v:List Nat} {j m s xl q:Nat} {K:AV->Mem->Prop}
theorem lR (hA:A.length=j) (hW:W.length=v.length+1) (D2:CP W) (bj:CP v) (cp:2<=v.length) (mg:v.length<=549755813888) (u9:0<val v)
  (r1:q<4294967296) (r2:val W/val v<=q) (r3:q<=val W/val v+1)
  (hk : ∀ (W':List Nat) (o':List (List AV)) (q':Nat),W'.length=v.length+1->CP W'->val W'=val W%val v->q'=val W/val v->K (.int .u32 (q':Int)) [(71012,71012,.rw 1 ((A++W'++C).map BZ)),(28,28,.rw 1 (w.map BZ)),(71012,71012,.rw 1 o')])
  (hk2 : ∀ (W':List Nat) (o':List (List AV)) (q':Nat),W'.length=v.length+1->CP W'->val W'=val W%val v->q'=val W/val v->K (.int .u32 (q':Int)) [(71012,71012,.rw 1 ((A++W'++C).map BZ)),(71012,71012,.rw 1 o'),(28,28,.rw 1 (w.map BZ))]) :
  AH L Sw ([(86,.int .i64 0),(85,.int .i64 v.length),(84,.sl false (v.map BZ)),(10,.int .u64 0),(9,.int .u64 0),(7,.int .u64 (q:Int)),(5,.int .i64 v.length),(0,AV.row 71012 0 1 j (v.length+1)),(1,AV.sl false (List.map BZ v))]++JH 1000 (lZ v j m s xl))
   [(71012,71012,CQ.rw 1 (List.map BZ (A++W++C))),(28,28,CQ.rw 1 (List.map BZ w))] (sN 1000 IV (lZ v j m s xl) K):=by
 refine kD (λ i _ _ _=>v.length-i) (λ(i:Nat) (Z:List Nat) (c b:Nat)=>i<=v.length/\Z.length=v.length+1/\CP Z/\c<4294967296/\b<=1/\Z.drop i=W.drop i/\val (Z.take i)+q*val (v.take i)=val (W.take i)+4294967296^i*(c+b)) (λ i Z c b=>[(86,.int .i64 i),(10,.int .u64 (b:Int)),(9,.int .u64 (c:Int))]) (λ i Z c b=>[(71012,71012,.rw 1 ((A++Z++C).map BZ))]) [] [] 0 W 0 0 (by (conv=>whnf);exact ⟨rfl,rfl,rfl⟩) ⟨by omega,hW,D2,by omega,by omega,rfl,by simp [val]⟩ ?_;intro i Z c b ⟨p1,p2,p3,p4,p5,p6,p7⟩ ih;by_cases hi:i<v.length
 ·obtain ⟨d,hd⟩ : ∃ d,v[i]? = some d:=⟨_,zE hi⟩
  obtain ⟨u,hu⟩ : ∃ u,Z[i]? = some u:=⟨_,zE (by omega)⟩;have hdb:=bj.at hd;have hub:=p3.at hu;obtain ⟨pr,kg⟩ : ∃ pr,pr=q*d+c:=⟨_,rfl⟩;obtain ⟨m1,m2,m3⟩:=Cq r1 hdb p4 kg;have nh:W[i]? = some u:=by
   have e1:(Z.drop i)[0]? = (W.drop i)[0]? := by rw[p6]
   simpa [hu] using e1.symm
  (repeat' ((first|(apply BR<;>intro hc<;>try (exfalso;omega))|(apply CE;omega)|(apply I6;omega)|(apply UF;omega)|apply IB|(apply EG;omega)|(refine CX (by assumption) ?_ rfl ?_;omega)|apply BA)<;>conv=>whnf))
  rw[<-kg];refine VS i hu (by omega) ?_;(conv=>whnf)
  (repeat' ((first|(apply CE;omega)|(apply eI;omega)|(apply EG;omega)|apply IR)<;>conv=>whnf))
  obtain ⟨s1,s2⟩:=jQ hub (show pr%4294967296<4294967296 by omega) p5;have hst:=AjT p7 kg rfl hub p5;generalize HC (HC u (pr%4294967296)) b=t at *;refine TP i (by omega) (by omega) ?_;(conv=>whnf)
  (repeat' ((first|(apply CG;omega)|apply eH)<;>conv=>whnf))
  refine DE [] (by (conv=>whnf);exact ⟨rfl,rfl,rfl⟩) (ih (i+1) _ _ _ (by omega) ⟨by omega,by simpa using p2,p3.set _ (by omega),m1,s2,?_,?_⟩)
  ·rw[List.drop_set_of_lt (by omega)]
   have e1:(Z.drop i).drop 1=(W.drop i).drop 1:=by rw[p6]
   simpa using e1
  ·rw[I2 (by omega),GR hd,GR nh,Nat.pow_succ]
   exact hst
 ·obtain rfl:i=v.length:=by omega
  clear ih;obtain ⟨u,hu⟩ : ∃ u,Z[v.length]? = some u:=⟨_,zE (by omega)⟩;have hub:=p3.at hu;have nh:W[v.length]? = some u:=by
   have e1:(Z.drop v.length)[0]? = (W.drop v.length)[0]? := by rw[p6]
   simpa [hu] using e1.symm
  rw[FL (Nat.le_refl v.length)]at p7;obtain ⟨s1,s2⟩:=jQ hub p4 p5;have hst:=AjR p7 rfl hub p4 p5;have eW:val W=val (W.take v.length)+4294967296^v.length*u:=by
   rw[<-GR nh,FL (by omega)]
  rw[<-eW,<-I2 (show v.length<Z.length by omega),FL (by simp;omega)]at hst;(repeat' ((first|(apply BR<;>intro hc<;>try (exfalso;omega))|(apply CE;omega)|apply BA)<;>conv=>whnf))
  refine VS v.length hu (by omega) ?_;(conv=>whnf)
  (repeat' ((first|(apply CE;omega)|(apply eI;omega)|(apply EG;omega)|apply IR)<;>conv=>whnf))
  generalize HC (HC u c) b=t at *;refine TP v.length (by omega) (by omega) ?_;(conv=>whnf)
  (repeat' ((first|(apply BR<;>intro hc<;>try (exfalso;omega))|apply eH|(apply G3;omega)|apply CB)<;>conv=>whnf))
  ·have ht0:t/9223372036854775808=0:=by omega
   rw[ht0,Nat.mul_zero,Nat.add_zero]at hst;obtain ⟨y1,y2⟩:=vP u9 r2 hst;exact ⟨rfl,_,rfl,hk _ _ _ (by simpa using p2) (p3.set _ (by omega)) y2 y1⟩
  ·have Jk:t/9223372036854775808=1:=by omega
   rw[Jk,Nat.mul_one]at hst;have uj:CP (Z.set v.length (t%4294967296)):=p3.set _ (by omega);have hXl:(Z.set v.length (t%4294967296)).length=v.length+1:=by simpa using p2
   clear p7 p6 p4 p5 s1 s2 eW Jk hu nh hub p1 p2 p3;generalize Z.set v.length (t%4294967296)=X at *;have hU':=HS uj;rw[hXl,Nat.pow_succ]at hU';obtain ⟨y1,y2,y3⟩:=vO u9 r3 hU' hst;have hRV:val W%val v<val v:=Nat.mod_lt _ u9;have qh:=HS bj;obtain ⟨xw,rz⟩ : ∃ xw,X[v.length]? = some xw:=⟨_,zE (by omega)⟩;have eX:val X=val (X.take v.length)+4294967296^v.length*xw:=by
    rw[<-GR rz,FL (by omega)]
   refine JJ (λ i _ _=>v.length-i) (λ(i:Nat) (Z:List Nat) (c:Nat)=>i<=v.length/\Z.length=v.length+1/\CP Z/\c<=1/\Z.drop i=X.drop i/\val (Z.take i)+4294967296^i*c=val (X.take i)+val (v.take i)) (λ i Z c=>[(139,.int .i64 i),(9,.int .u64 (c:Int))]) (λ i Z c=>[(71012,71012,.rw 1 ((A++Z++C).map BZ))]) [] [] 0 X 0 (by (conv=>whnf);exact ⟨rfl,rfl,rfl⟩) ⟨by omega,hXl,uj,by omega,rfl,by simp [val]⟩ ?_;intro i Z c ⟨p1,p2,p3,p4,p6,p7⟩ ih;by_cases hi:i<v.length
   ·obtain ⟨d,hd⟩ : ∃ d,v[i]? = some d:=⟨_,zE hi⟩
    obtain ⟨u,hu⟩ : ∃ u,Z[i]? = some u:=⟨_,zE (by omega)⟩;have hdb:=bj.at hd;have hub:=p3.at hu;have fq:X[i]? = some u:=by
     have e1:(Z.drop i)[0]? = (X.drop i)[0]? := by rw[p6]
     simpa [hu] using e1.symm
    have hab:=sT (d:=d) (w:=u) p7 rfl;(repeat' ((first|(apply BR<;>intro hc<;>try (exfalso;omega))|(apply CE;omega)|(refine CX (by assumption) ?_ rfl ?_;omega)|apply BA)<;>conv=>whnf))
    refine VS i hu (by omega) ?_;(conv=>whnf)
    (repeat' ((first|(apply CE;omega)|(apply I6;omega)|(apply EG;omega)|apply IR)<;>conv=>whnf))
    generalize ht2:u+d+c=t2 at *;refine TP i (by omega) (by omega) ?_;(conv=>whnf)
    (repeat' ((first|(apply CG;omega)|apply IB)<;>conv=>whnf))
    refine DE [] (by (conv=>whnf);exact ⟨rfl,rfl,rfl⟩) (ih (i+1) _ _ (by omega) ⟨by omega,by simpa using p2,p3.set _ (by omega),by omega,?_,?_⟩)
    ·rw[List.drop_set_of_lt (by omega)]
     have e1:(Z.drop i).drop 1=(X.drop i).drop 1:=by rw[p6]
     simpa using e1
    ·rw[I2 (by omega),GR hd,GR fq,Nat.pow_succ]
     exact hab
   ·obtain rfl:i=v.length:=by omega
    clear ih;obtain ⟨u,hu⟩ : ∃ u,Z[v.length]? = some u:=⟨_,zE (by omega)⟩;have hub:=p3.at hu;have fq:X[v.length]? = some u:=by
     have e1:(Z.drop v.length)[0]? = (X.drop v.length)[0]? := by rw[p6]
     simpa [hu] using e1.symm
    rw[fq]at rz;obtain rfl:u=xw:=by simpa using rz
    rw[FL (Nat.le_refl v.length)]at p7;have uk:=HS (p3.take v.length);rw[List.length_take,Nat.min_eq_left (by omega)]at uk;rw[eX]at y3;have hend:=sS p7 y3 (by omega) uk;rw[<-I2 (show v.length<Z.length by omega),FL (by simp;omega)]at hend;(repeat' ((first|(apply BR<;>intro hc<;>try (exfalso;omega))|(apply CE;omega)|apply BA)<;>conv=>whnf))
    refine VS v.length hu (by omega) ?_;(conv=>whnf)
    (repeat' ((first|(apply CE;omega)|apply sI|(apply G3;omega))<;>conv=>whnf))
    refine TP v.length (by omega) (by omega) ?_;(conv=>whnf)
    (repeat' ((first|(apply L2;omega;omega)|(apply G3;omega))<;>conv=>whnf))
    exact ⟨rfl,_,rfl,hk2 _ _ _ (by simpa using p2) (p3.set _ (by omega)) hend y1⟩
theorem Qn (N:c6 L) (hA:A.length=j) (hW:W.length=v.length+1) (D2:CP W) (bj:CP v) (cp:2<=v.length) (mg:v.length<=549755813888) (u9:0<val v)
  (n2:4294967296^(v.length-1)*2147483648<=val v) (g2:val W<4294967296*val v)
  (hk : ∀ (W':List Nat) (o':List (List AV)) (q':Nat),W'.length=v.length+1->CP W'->val W'=val W%val v->q'=val W/val v->K (.int .u32 (q':Int)) [(71012,71012,.rw 1 ((A++W'++C).map BZ)),(28,28,.rw 1 (w.map BZ)),(71012,71012,.rw 1 o')])
  (hk2 : ∀ (W':List Nat) (o':List (List AV)) (q':Nat),W'.length=v.length+1->CP W'->val W'=val W%val v->q'=val W/val v->K (.int .u32 (q':Int)) [(71012,71012,.rw 1 ((A++W'++C).map BZ)),(71012,71012,.rw 1 o'),(28,28,.rw 1 (w.map BZ))]) :
  CW L 73 [AV.row 71012 0 1 j (v.length+1),AV.sl false (List.map BZ v)] (lZ v j m s xl) [(71012,71012,CQ.rw 1 (List.map BZ (A++W++C))),(28,28,CQ.rw 1 (List.map BZ w))] K:=by
 obtain ⟨UL,a1,a2⟩:=kA D2 (n:=v.length+1) (by omega) (by omega);obtain ⟨VL,b5,b6⟩:=Gy bj (n:=v.length) cp (by omega);obtain ⟨u0,w0⟩ : ∃ d,W[v.length]? = some d:=⟨_,zE (by omega)⟩;obtain ⟨u1,w1⟩ : ∃ d,W[v.length-1]? = some d:=⟨_,zE (by omega)⟩;obtain ⟨u2,w2⟩ : ∃ d,W[v.length-2]? = some d:=⟨_,zE (by omega)⟩;obtain ⟨f1,x1⟩ : ∃ d,v[v.length-1]? = some d:=⟨_,zE (by omega)⟩;obtain ⟨f2,x2⟩ : ∃ d,v[v.length-2]? = some d:=⟨_,zE (by omega)⟩;rw[show v.length+1-3=v.length-2 by omega,show v.length+1-2=v.length-1 by omega,show v.length+1-1=v.length by omega,JN w0,JN w1,JN w2]at a2;rw[show v.length+1-3=v.length-2 by omega]at a1;rw[JN x1,JN x2]at b6;have kz:=Gl bj (k:=v.length-1) (by omega) n2 x1;have k0:=D2.at w0;have k1:=D2.at w1;have k2:=D2.at w2;have k3:=bj.at x1;have k4:=bj.at x2;have z1:v[((v.length:Int)-1).toNat]? = some f1:=by rw[show ((v.length:Int)-1).toNat=v.length-1 by omega];exact x1
 have z2:v[((v.length:Int)-2).toNat]? = some f2:=by rw[show ((v.length:Int)-2).toNat=v.length-2 by omega];exact x2
 refine HI 1000 N.IV rfl rfl ?_;(repeat' ((first|(apply CE;omega)|apply CB|apply BA)<;>conv=>whnf))
 refine VS v.length w0 (by omega) ?_;(conv=>whnf)
 (repeat' ((first|(apply CE;omega)|(apply D4;omega)|(apply TN;omega)|(apply EG;omega))<;>conv=>whnf))
 refine VS (v.length-1) w1 (by omega) ?_;(conv=>whnf)
 refine sB (by omega) ?_;(conv=>whnf)
 refine UG (by omega) ?_;(conv=>whnf)
 generalize Bk:u0*4294967296+u1=top at *;have htb:top<=18446744073709551615:=by omega
 have hU:val W=UL+4294967296^(v.length-2)*(u2+4294967296*top):=by rw[a2,show u1+4294967296*u0=top by omega]
 (repeat' ((first|(apply D4;omega)|(apply aQ;omega)|(apply eG;omega;omega)|(apply EG;omega)|(refine CX (by assumption) ?_ rfl ?_;omega))<;>conv=>whnf))
 refine I3 (λ q _=>q) (λ(q r:Nat)=>Gs (val W) (val v) f1 f2 u2 top q r) (λ q r=>[(7,.int .u64 (q:Int)),(8,.int .u64 (r:Int))]) (λ_ _=>[]) [] [] (top/f1) (top%f1) (by (conv=>whnf);exact ⟨rfl,rfl,rfl⟩) (Gs.start hU b6 a1 k2 u9 (by omega) k3) ?_;intro q r g ig;have hqt:q<=top:=by
  have h3:=g.hq;have h4:q*1<=q*f1:=Nat.mul_le_mul_left q (by omega);omega
 have hr:=g.hr;have gb:=g.ge;by_cases hb:4294967296<=q
 ·obtain ⟨y1,y2,y3⟩:=g.next hU b6 a1 u9 g2 (Or.inl hb)
  (repeat' ((first|(apply BR<;>intro hc<;>try (exfalso;omega))|(apply D4;omega)|(apply I6;omega)|(apply L2;omega;omega)|(apply EG;omega)|apply CB|(refine CX (by assumption) ?_ rfl ?_;omega)|apply BA)<;>conv=>whnf))
  ·obtain ⟨t1,t2⟩:=ZU hU b6 b5 kz k4 g2 y2 (Or.inr (by omega))
   exact DE [] (by (conv=>whnf);exact ⟨rfl,rfl,rfl⟩) (lR (w:=w) (C:=C) hA hW D2 bj cp mg u9 t1 y3 t2 hk hk2)
  ·exact DE [] (by (conv=>whnf);exact ⟨rfl,rfl,rfl⟩) (ig (q-1) (r+f1) (by omega) ⟨y2,by omega,y3⟩)
 ·have hmq:=Z0 (show q<4294967296 by omega) k4
  by_cases o4:r*4294967296+u2<q*f2
  ·obtain ⟨y1,y2,y3⟩:=g.next hU b6 a1 u9 g2 (Or.inr o4)
   (repeat' ((first|(apply BR<;>intro hc<;>try (exfalso;omega))|(apply CE;omega)|(apply D4;omega)|(apply UF;omega)|(apply TN;omega)|(apply EG;omega)|(refine CX (by assumption) ?_ rfl ?_;omega)|apply BA)<;>conv=>whnf))
   refine VS (v.length-2) w2 (by omega) ?_;(conv=>whnf)
   (repeat' ((first|(apply BR<;>intro hc<;>try (exfalso;omega))|(apply D4;omega)|(apply I6;omega)|(apply UG;omega)|(apply L2;omega;omega)|(apply EG;omega)|apply CB|(refine CX (by assumption) ?_ rfl ?_;omega))<;>conv=>whnf))
   ·obtain ⟨t1,t2⟩:=ZU hU b6 b5 kz k4 g2 y2 (Or.inr (by omega))
    exact DE [] (by (conv=>whnf);exact ⟨rfl,rfl,rfl⟩) (lR (w:=w) (C:=C) hA hW D2 bj cp mg u9 t1 y3 t2 hk hk2)
   ·exact DE [] (by (conv=>whnf);exact ⟨rfl,rfl,rfl⟩) (ig (q-1) (r+f1) (by omega) ⟨y2,by omega,y3⟩)
  ·obtain ⟨t1,t2⟩:=ZU hU b6 b5 kz k4 g2 g.hq (Or.inl ⟨by omega,by omega⟩)
   (repeat' ((first|(apply BR<;>intro hc<;>try (exfalso;omega))|(apply CE;omega)|(apply D4;omega)|(apply UF;omega)|(apply TN;omega)|(apply EG;omega)|(refine CX (by assumption) ?_ rfl ?_;omega)|apply BA)<;>conv=>whnf))
   refine VS (v.length-2) w2 (by omega) ?_;(conv=>whnf)
   (repeat' ((first|(apply BR<;>intro hc<;>try (exfalso;omega))|(apply UG;omega)|(apply EG;omega)|apply CB)<;>conv=>whnf))
   exact DE [] (by (conv=>whnf);exact ⟨rfl,rfl,rfl⟩) (lR (w:=w) (C:=C) hA hW D2 bj cp mg u9 t1 gb t2 hk hk2)
end
end Go.Eng

namespace Go.Eng
open F
attribute [local irreducible] AH BJ B1 BD E6 CF CI CY CU DX B5 DT EN GS DS CR DR EF AR CW BW pw DC DB EP EV E7 FM EZ D5 FE
variable {L:Lib}
set_option maxHeartbeats 4000000
theorem AkN {V R y d t Q:Nat} (h:Q*y+R=V) (ht:t=R*4294967296+d):(t/y+4294967296*Q)*y+t%y=d+4294967296*V:=by
 have:=Nat.div_add_mod t y
 rw[<-h,Nat.add_mul];have e:t/y*y=y*(t/y):=Nat.mul_comm _ _;grind
theorem bE (a b:List Nat):CS (.tup [.sl false (a.map BZ),.sl false (b.map BZ)]):=by
 simp only[CS,FG,and_true,true_and];exact ⟨E0 a,E0 b⟩
set_option maxHeartbeats 4000000 in
theorem mN (N:c6 L) (X Y:Nat) (q1 q2:Bool) (hY:Y≠0) (lx:(dg X).length<=549755813888) (ly:(dg Y).length<=549755813888):Ev L 74 [.sl q1 ((dg X).map BZ),.sl q2 ((dg Y).map BZ)] (.tup [.sl false ((dg (X/Y)).map BZ),.sl false ((dg (X%Y)).map BZ)]):=by
 have g8:=λ q q'=>U0 N (dg X) (dg Y) q q' (GP X) (GP Y) (by omega) (by omega)
 rw[DN,DN]at g8;have d1:=GP X;have d2:=GP Y;have v1:=DN X;have v2:=DN Y;have hy1:=bP hY;refine Ev.x N.PX rfl rfl ?_;by_cases l6:X<Y
 ·have hn:FI X Y = -1:=(LI (by omega)).symm
  rw[hn]at g8;(repeat' ((first|(apply BR<;>intro hc<;>try (exfalso;omega))|apply BA|refine BH (g8 _ _) ?_|refine BH (wX N (dg X) _ (by omega)) ?_)<;>conv=>whnf))
  refine CJ ?_ (bE _ _);rw[Nat.div_eq_of_lt l6,Nat.mod_eq_of_lt l6,HR];rfl
 have gb:0<=FI X Y:=by unfold FI;split<;>(try split)<;>omega
 have nn:=V1 (show Y<=X by omega);generalize FI X Y=cm at *;by_cases h1:(dg Y).length=1
 ·-- one digit
  obtain ⟨y0,gl⟩ : ∃ y0,dg Y=[y0]:=List.length_eq_one_iff.1 h1;have ja:Y=y0:=by rw[<-v2,gl];simp [val]
  subst ja;have hyb:Y<4294967296:=d2 Y (by rw[gl];simp);have hyg:(dg Y)[0]? = some Y:=by rw[gl];rfl
  clear gl v2;generalize dg Y=y at *;generalize hx:dg X=x at *;(repeat' ((first|(apply BR<;>intro hc<;>try (exfalso;omega))|(apply CG;omega)|(apply D4;omega)|apply CB|apply BA|refine BH (g8 _ _) ?_)<;>conv=>whnf))
  refine GT (enc:=BZ) 0 x.length rfl (by omega) (by omega) ?_;(conv=>whnf)
  (repeat' ((first|(apply BR<;>intro hc<;>try (exfalso;omega))|(apply D4;omega)|apply CB)<;>conv=>whnf))
  refine JJ (λ n _ _=>n) (λ(n:Nat) (o:List Nat) (r:Nat)=>n<=x.length/\o.length=x.length/\CP o/\r<Y/\val (o.drop n)*Y+r=val (x.drop n)) (λ n o r=>[(8,.int .u64 (r:Int)),(9,.int .i64 ((n:Int)-1))]) (λ n o r=>[(28,28,.rw 1 (o.map BZ))]) [] [] x.length (List.replicate x.length 0) 0 (by (conv=>whnf);exact ⟨rfl,rfl,rfl⟩) ⟨by omega,by simp,MB _,by omega,by rw[List.drop_of_length_le (Nat.le_refl _),List.drop_of_length_le (by simp)];simp [val]⟩ ?_;intro n o r ⟨p1,p2,p3,p4,p5⟩ ih;rcases n with _|n
  ·rw[List.drop_zero,List.drop_zero]at p5
   have hq:X/Y=val o/\X%Y=r:=by
    rw[<-v1,<-p5];have e1:(val o*Y+r)/Y=val o:=by
     rw[Nat.mul_comm,Nat.mul_add_div (by omega),Nat.div_eq_of_lt p4,Nat.add_zero]
    have e2:(val o*Y+r)%Y=r:=by
     rw[Nat.mul_comm,Nat.mul_add_mod,Nat.mod_eq_of_lt p4]
    exact ⟨e1,e2⟩
   rw[hq.1,hq.2,<-p2];clear ih hq p5;have hl1:=HL p3;have w8:CP [r]:=KN (by omega);have hl2:=HL w8;have yj:val [r]=r:=by simp [val]
   have Jd:[r].length=1:=rfl;(repeat' ((first|(apply BR<;>intro hc<;>try (exfalso;omega))|(apply G3;omega)|apply BA|refine dZ N (by assumption) (by omega) rfl (by first|rfl|omega|assumption) ?_)<;>conv=>whnf))
   refine J0 (enc:=BZ) (λ_=>rfl) (by omega) ?_;(conv=>whnf)
   refine J0 (enc:=BZ) (l:=[r]) (λ_=>rfl) (by omega) ?_;(conv=>whnf)
   refine CJ ?_ (bE _ _);rw[List.drop_zero,List.drop_zero,dR p3,dR w8,yj]
  ·have e1:((n+1:Nat):Int)-1=n:=by omega
   rw[e1];obtain ⟨d,hd⟩ : ∃ d,x[n]? = some d:=⟨_,zE (by omega)⟩;have hdb:=d1.at hd;have hYb:Y<4294967296:=hyb;have hR:r*4294967296+d<Y*4294967296:=by omega
   have hq0:(r*4294967296+d)/Y<4294967296:=(Nat.div_lt_iff_lt_mul (by omega)).2 (by omega);(repeat' ((first|(apply BR<;>intro hc<;>try (exfalso;omega))|(apply CE;omega)|(apply TN;omega)|(apply UG;omega)|(apply eG;omega;omega)|(apply EG;omega)|(apply G3;omega)|(refine CX (by assumption) ?_ rfl ?_;omega)|apply BA)<;>conv=>whnf))
   obtain ⟨t,ht⟩ : ∃ t,t=r*4294967296+d:=⟨_,rfl⟩;rw[<-ht]at hR hq0 ⊢;have hm:t%Y<Y:=Nat.mod_lt _ (by omega);have hst:=AkN p5 ht;rw[<-KF hd]at hst;clear ht;skip
   refine H9 (by omega) ?_;(conv=>whnf)
   (repeat' ((first|(apply D4;omega)|(apply aQ;omega)|(apply EG;omega)|(refine CX (by assumption) ?_ rfl ?_;omega))<;>conv=>whnf))
   generalize t/Y=tq at *;generalize t%Y=tr at *;refine DE [] (by (conv=>whnf);exact ⟨rfl,rfl,rfl⟩) (ih n _ _ (by omega) ⟨by omega,by simpa using p2,p3.set _ (by omega),hm,?_⟩);rw[KF (l:=o.set n tq) (d:=tq) (by rw[List.getElem?_set_self (by omega)]),List.drop_set_of_lt (by omega)];exact hst
 ·-- two digits or more
  have yd:2<=(dg Y).length:=by omega
  obtain ⟨yt,mh,oc⟩:=lP hY;have mi:=d2.at mh;obtain ⟨b1,b2,b3,b4⟩:=oE oc mi;have ve:=wY N yt mi;generalize hs:32-n0 yt=s at *;have ag:s<=31:=by omega
  generalize dg Y=y at *;generalize hx:dg X=x at *;have e1:((y.length:Int)-1).toNat=y.length-1:=by omega
  rw[<-e1]at mh;obtain ⟨rv,Jh,v,hV,hvl,Bb⟩:=Wo N y q2 s y.length d2 ag (by omega) (by omega);subst Bb;(repeat' ((first|(apply BR<;>intro hc<;>try (exfalso;omega))|(apply CG;omega)|(apply D4;omega)|apply CB|apply BA|refine BH (g8 _ _) ?_)<;>conv=>whnf))
  refine GT (enc:=BZ) 0 (x.length-y.length+1) rfl (by omega) (by omega) ?_;(conv=>whnf)
  (repeat' ((first|(apply BR<;>intro hc<;>try (exfalso;omega))|(apply CG;omega)|(apply D4;omega)|(apply EG;omega)|apply CB|(refine CX (by assumption) ?_ rfl ?_;omega)|refine BH (ve) ?_)<;>conv=>whnf))
  refine HI 1000 N.M3 rfl rfl ?_;(repeat' (apply BA<;>conv=>whnf))
  refine GT (enc:=BZ) 0 (x.length+1) rfl (by omega) (by omega) ?_;(conv=>whnf)
  (repeat' (apply CB<;>conv=>whnf))
  have ki:=dA (s:=s) (by omega);refine JJ (λ i _ _=>x.length-i) (λ(i:Nat) (o:List Nat) (lo:Nat)=>i<=x.length/\o.length=x.length+1/\CP o/\lo<2^s/\val (o.take i)+4294967296^i*lo=val (x.take i)*2^s) (λ i o lo=>[(8,.int .u32 (lo:Int)),(15,.int .i64 i)]) (λ i o lo=>[(71012,71012,.rw 1 (o.map BZ))]) [] [] 0 (List.replicate (x.length+1) 0) 0 (by (conv=>whnf);exact ⟨rfl,rfl,rfl⟩) ⟨by omega,by simp,MB _,Nat.two_pow_pos s,by simp [val]⟩ ?_;intro i o lo ⟨p1,p2,p3,p4,p5⟩ ih;by_cases hi:i<x.length
  ·obtain ⟨d,hd⟩ : ∃ d,x[i]? = some d:=⟨_,zE hi⟩
   have hdb:=d1.at hd;obtain ⟨f1,f2,f3,f4⟩:=YK (s:=s) hdb (by omega);(repeat' ((first|(apply BR<;>intro hc<;>try (exfalso;omega))|(refine CX (by assumption) ?_ rfl ?_;omega)|apply BA)<;>conv=>whnf))
   refine sL (by omega) ?_;(conv=>whnf)
   skip
   refine kJ s f1 p4 (by omega) ?_;(conv=>whnf)
   (repeat' ((first|(apply CE;omega)|fail)<;>conv=>whnf))
   refine H9 (by omega) ?_;(conv=>whnf)
   (repeat' ((first|(apply EG;omega)|fail)<;>conv=>whnf))
   refine UJ (by omega) f4 ?_;(conv=>whnf)
   (repeat' ((first|(apply CG;omega)|apply IB|(apply G3;omega))<;>conv=>whnf))
   rw[<-YJ];refine DE [] (by (conv=>whnf);exact ⟨rfl,rfl,rfl⟩) (ih (i+1) _ _ (by omega) ⟨by omega,by simpa using p2,p3.set _ (by omega),f2,?_⟩);rw[I2 (by omega),GR hd,Nat.pow_succ];exact Eb p5
  obtain rfl:i=x.length:=by omega
  clear ih;(repeat' ((first|(apply BR<;>intro hc<;>try (exfalso;omega))|(apply CE;omega)|apply CB|apply BA)<;>conv=>whnf))
  refine H9 (by omega) ?_;(conv=>whnf)
  skip
  have hU:=Ea p3 (by omega) p2 p5;have hUl:(o.set x.length lo).length=x.length+1:=by simpa using p2
  clear p3 p4 p5 p2;generalize o.set x.length lo=u at *;refine ⟨rfl,_,rfl,?_⟩;(conv=>whnf)
  (repeat' ((first|(apply D4;omega)|apply CB|refine BH (Jh) ?_)<;>conv=>whnf))
  have Bu:y[y.length-1]? = some yt:=by rw[<-e1];exact mh
  obtain ⟨n1,n2⟩:=oB d2 Bu (by omega) ag b3 b4;have xo:val v=Y*2^s:=by rw[<-v2];exact hV.2.2 (by rw[hvl];exact n1)
  have xn:val u=X*2^s:=by
   rw[<-v1];refine hU.2.2 ?_;have h3:=HS d1;rw[hUl,Nat.pow_succ];exact Nat.lt_of_lt_of_le (Nat.mul_lt_mul_of_pos_right h3 (Nat.two_pow_pos s)) (Nat.mul_le_mul_left _ ki)
  have bj:=hV.1;have xj:=hU.1;have qi:=HS bj;rw[v2,<-xo]at n2;rw[<-hvl]at n2;clear hV hU g8 Jh ve;have cp:2<=v.length:=by omega
  have hvx:v.length<=x.length:=by omega
  have mg:v.length<=549755813888:=by omega
  have hxL:x.length<=549755813888:=by omega
  have hX:X<4294967296^x.length:=by rw[<-v1];exact HS d1
  rw[<-hvl];generalize hm:x.length-v.length+1=m at *;have u9:0<val v:=by
   have:=Fm (v.length-1)
   omega
  have ia:val (u.drop m)<val v:=by
   have h1:=NL u m (by omega);rw[xn]at h1;have h2:X*2^s<4294967296^x.length*2147483648:=Nat.lt_of_lt_of_le (Nat.mul_lt_mul_of_pos_right hX (Nat.two_pow_pos s)) (Nat.mul_le_mul_left _ (Nat.pow_le_pow_right (by omega) ag));have h3:4294967296^x.length=4294967296^m*4294967296^(v.length-1):=by rw[<-Nat.pow_add];congr 1;omega
   rw[h3,Nat.mul_assoc]at h2;refine Nat.lt_of_lt_of_le ?_ n2;refine Nat.lt_of_mul_lt_mul_left (a:=4294967296^m) ?_;omega
  have e2:(x.length:Int)-v.length=((m:Nat):Int)-1:=by omega
  rw[e2];refine JJ (λ n _ _=>n) (λ(n:Nat) (o w:List Nat)=>n<=m/\o.length=x.length+1/\CP o/\w.length=m/\CP w/\val (o.drop n)<val v/\X*2^s=val (o.take n)+4294967296^n*(val (w.drop n)*val v+val (o.drop n))) (λ n o w=>[(14,.int .i64 ((n:Int)-1))]) (λ n o w=>[(71012,71012,.rw 1 (o.map BZ)),(28,28,.rw 1 (w.map BZ))]) [] [] m u (List.replicate m 0) (by (conv=>whnf);exact ⟨rfl,rfl,rfl⟩) ⟨by omega,hUl,xj,by simp,MB _,ia,by rw[<-xn,List.drop_of_length_le (show (List.replicate m 0).length<=m by simp),L0,Nat.zero_mul,Nat.zero_add];exact NL u m (by omega)⟩ ?_;intro n o w ⟨p1,p2,p3,p4,p5,p6,p7⟩ ih;rcases n with _|j
  ·clear ih
   rw[List.drop_zero]at p6;rw[List.take_zero,List.drop_zero,List.drop_zero,L0,Nat.zero_add,Nat.pow_zero,Nat.one_mul]at p7;have ix:val o=val (o.take v.length):=by
    have h1:=YT o v.length;rcases Nat.eq_zero_or_pos (val (o.drop v.length)) with h2|h2
    ·rw[h2,Nat.mul_zero,Nat.add_zero]at h1;exact h1
    ·have h3:4294967296^v.length*1<=4294967296^v.length*val (o.drop v.length):=Nat.mul_le_mul_left _ h2
     omega
   have ni:X/Y=val w/\X%Y=val o/2^s:=by
    obtain ⟨z1,z2⟩:=vR (X:=X) (Y:=Y) (Nat.two_pow_pos s);rw[<-z1,<-z2,<-xo,p7];have e1:(val w*val v+val o)/val v=val w:=by
     rw[Nat.mul_comm,Nat.mul_add_div u9,Nat.div_eq_of_lt p6,Nat.add_zero]
    have e2:(val w*val v+val o)%val v=val o:=by
     rw[Nat.mul_comm,Nat.mul_add_mod,Nat.mod_eq_of_lt p6]
    rw[e1,e2];exact ⟨rfl,rfl⟩
   rw[ni.1,ni.2];have hl1:=HL p5;obtain ⟨ro,wc,o2,k1,k2,k3,k4⟩:=Wp N (o.take v.length) true s (p3.take _) ag (by rw[List.length_take];omega);subst k4;rw[ix,<-k3];have hl2:=HL k1;rw[List.length_take]at k2;clear p7 ni ia;(repeat' ((first|(apply BR<;>intro hc<;>try (exfalso;omega))|apply BA|refine dZ N (by assumption) (by omega) rfl (by first|rfl|omega|assumption) ?_)<;>conv=>whnf))
   refine JK v.length rfl (by omega) ?_;(conv=>whnf)
   refine J0 (enc:=BZ) (λ_=>rfl) (by omega) ?_;(conv=>whnf)
   rw[List.drop_zero,Nat.sub_zero];(repeat' ((first|refine BH (wc) ?_|refine NP (OD N o2 _ k1 (by omega)) ?_)<;>conv=>whnf))
   refine J0 (enc:=BZ) (λ_=>rfl) (by omega) ?_;(conv=>whnf)
   refine CJ ?_ (bE _ _);rw[List.drop_zero,dR p5]
  ·have e3:((j+1:Nat):Int)-1=j:=by omega
   rw[e3];have e4:(v.length:Int).toNat=v.length:=by omega
   obtain ⟨A,W,C,hA,hW,rfl⟩:=wL o j (v.length+1) (by omega);obtain ⟨g1,g2,g3⟩:=wN hA hW p3 p6 qi;obtain ⟨D1,D2,D3⟩:=vN p3;have hqb:val W/val v<4294967296:=(Nat.div_lt_iff_lt_mul u9).2 g2;have zm:val W=val W/val v*val v+val W%val v:=by rw[Nat.mul_comm];exact (Nat.div_add_mod _ _).symm
   have hWl:val W%val v<val v:=Nat.mod_lt _ u9;have qg:X*2^s=val A+4294967296^j*val W+4294967296^j*4294967296*(val (w.drop (j+1))*val v):=by
    rw[p7,Nat.mul_add,<-g3,Nat.pow_succ];omega
   have jl:=wM qg zm;have nx : ∀ q',q'=val W/val v->val ((w.set j q').drop j)=val W/val v+4294967296*val (w.drop (j+1)):=λ q' h=>by
    rw[KF (l:=w.set j q') (d:=q') (by rw[List.getElem?_set_self (by omega)]),List.drop_set_of_lt (by omega),h]
   have hlen : ∀ W':List Nat,W'.length=v.length+1->(A++W'++C).length=x.length+1:=λ W' h=>by
    rw[<-p2];simp [h,hW]
   (repeat' ((first|(apply BR<;>intro hc<;>try (exfalso;omega))|(apply CG;omega)|(apply aG;omega)|apply BA)<;>conv=>whnf))
   rw[show ((j:Int)+v.length+1).toNat-(j:Int).toNat=v.length+1 by omega,show 0+(j:Int).toNat=j by omega];refine Qn N hA hW D2 bj cp mg u9 n2 g2 (λ W' o' q' z1 z2 z3 z4 => ?_) (λ W' o' q' z1 z2 z3 z4 => ?_)
   ·(conv=>whnf)
    (repeat' ((first|(apply CE;omega)|fail)<;>conv=>whnf))
    refine H9 (by omega) ?_;(conv=>whnf)
    (repeat' ((first|(apply D4;omega)|fail)<;>conv=>whnf))
    obtain ⟨t1,t2⟩:=mC (A:=A) (W:=W') (C:=C) (j:=j) hA g1;refine DE [] (by (conv=>whnf);exact ⟨rfl,rfl,rfl⟩) (ih j (A++W'++C) (w.set j q') (by omega) ⟨by omega,hlen W' z1,(D1.append z2).append D3,by simpa using p4,p5.set _ (by omega),by omega,?_⟩);rw[t1,t2,nx q' z4,z3];exact jl
   ·(conv=>whnf)
    (repeat' ((first|(apply CE;omega)|fail)<;>conv=>whnf))
    refine H9 (by omega) ?_;(conv=>whnf)
    (repeat' ((first|(apply D4;omega)|fail)<;>conv=>whnf))
    obtain ⟨t1,t2⟩:=mC (A:=A) (W:=W') (C:=C) (j:=j) hA g1;refine DE [] (by (conv=>whnf);exact ⟨rfl,rfl,rfl⟩) (ih j (A++W'++C) (w.set j q') (by omega) ⟨by omega,hlen W' z1,(D1.append z2).append D3,by simpa using p4,p5.set _ (by omega),by omega,?_⟩);rw[t1,t2,nx q' z4,z3];exact jl
end Go.Eng

namespace Go.Eng
open F
attribute [local irreducible] AH BJ B1 BD E6 CF CI CY CU DX B5 DT EN GS DS CR DR EF AR CW BW pw DC DB EP EV E7 FM EZ D5 FE
set_option maxHeartbeats 4000000
variable {L:Lib}
theorem sM {k':IntKind} {a:Int} {K:AV->Prop} (hk:K (.int .i64 (a/4294967296))):BD .shr .i64 a k' 32 K:=by
 refine Lx (by omega) ?_;have:pw 32=4294967296:=by decide +kernel
 rw[this];exact hk
theorem sA {t:Int} {K:Int->Prop} (hk:K (bI t:Int)):CF .u32 t K:=by
 unfold CF;rw[IntKind.wrap_u32,<-lF];exact hk
section
variable {k':IntKind} {a b:Nat} {K:AV->Prop}
theorem Lw {i:Nat} (hi:i<2) (ha:a<4294967296) (hk:K (.int .u64 ((a*4294967296^i:Nat):Int))):BD .shl .u64 (a:Int) k' (32*(i:Int)) K:=by
 rcases i with _|_|i
 ·exact UJ (s:=0) (by omega) (by omega) hk
 ·exact UJ (s:=32) (by omega) (by omega) hk
 ·omega
end
theorem zW {x y M N:Int} (hx : -M<=x/\x<=M) (hy : -N<=y/\y<=N) : -(M*N)<=x*y/\x*y<=M*N:=by
 have h1:x.natAbs<=M.natAbs:=by omega
 have h2:y.natAbs<=N.natAbs:=by omega
 have h3:=Nat.mul_le_mul h1 h2;rw[<-Int.natAbs_mul,<-Int.natAbs_mul]at h3;have h4:0<=M*N:=Int.mul_nonneg (by omega) (by omega);omega
theorem mL (N:c6 L) (a b:List Nat) (q1 q2:Bool) (hA:CP a) (hB:CP b) (la:a.length<=549755813888) (lb:b.length<=549755813888) (h0:val b≠0) :
  Ev L 75 [.sl q1 (a.map BZ),.sl q2 (b.map BZ)] (.tup [.sl false ((dg (val a/val b)).map BZ),.sl false ((dg (val a%val b)).map BZ),.int .i64 0]):=by
 have l1:=HL hA;have l2:=HL hB;have hp:=bP h0;refine Ev.x N.PP rfl rfl ?_;(repeat' ((first|(apply BR<;>intro hc<;>try (exfalso;omega))|apply CB|apply BA|refine NP (OD N a _ hA (by omega)) ?_|refine NP (OD N b _ hB (by omega)) ?_|refine BH (mN N _ _ _ _ h0 (by omega) (by omega)) ?_)<;>conv=>whnf))
 refine CJ rfl ?_;simp only[CS,FG,and_true,true_and];exact ⟨E0 _,E0 _⟩
theorem xN (N:c6 L) (V:Nat) (q:Bool) (hl:(dg V).length<=2):Ev L 76 [.sl q ((dg V).map BZ)] (.int .u64 (V:Int)):=by
 have hV:=TZ.1 hl;have hD:=GP V;have hv:=DN V;refine Ev.x N.P1 rfl rfl ?_;generalize dg V=l at *;(repeat' ((first|apply CB|apply BA)<;>conv=>whnf))
 refine I3 (λ i _=>l.length-i) (λ(i:Nat) (a:Nat)=>i<=l.length/\a=val (l.take i)) (λ i a=>[(3,.int .u64 (a:Int)),(8,.int .i64 i)]) (λ_ _=>[]) [] [] 0 0 (by (conv=>whnf);exact ⟨rfl,rfl,rfl⟩) ⟨by omega,rfl⟩ ?_;intro i a ⟨p1,p2⟩ ih;by_cases hi:i<l.length
 ·obtain ⟨d,hd⟩ : ∃ d,l[i]? = some d:=⟨_,zE hi⟩
  have hdb:=hD.at hd;have h1:=GR hd;have h2:=HS (hD.take i);have h3:=HS (hD.take (i+1));rw[List.length_take,Nat.min_eq_left (by omega)]at h2 h3;have h4:4294967296^(i+1)<=4294967296^2:=Nat.pow_le_pow_right (by omega) (by omega);(repeat' ((first|(apply BR<;>intro hc<;>try (exfalso;omega))|(apply NQ;omega)|(apply EG;omega)|(refine CX (by assumption) ?_ rfl ?_;omega)|apply BA)<;>conv=>whnf))
  refine Lw (by omega) hdb ?_;(conv=>whnf)
  rw[Nat.mul_comm d];refine eF (32*i) (by rw[Nat.pow_mul];exact Nat.mul_mod_right _ _) (by rw[Nat.pow_mul,p2];exact h2) (by omega) ?_;(conv=>whnf)
  (repeat' ((first|(apply CG;omega)|fail)<;>conv=>whnf))
  exact DE [] (by (conv=>whnf);exact ⟨rfl,rfl,rfl⟩) (ih (i+1) _ (by omega) ⟨by omega,by rw[h1,p2]⟩)
 ·obtain rfl:i=l.length:=by omega
  clear ih;(repeat' ((first|(apply BR<;>intro hc<;>try (exfalso;omega))|apply BA)<;>conv=>whnf))
  rw[FL (Nat.le_refl _)]at p2;exact FF (by omega)
theorem kE {f:Nat} {vs:List AV} {tm:Tm} {M:Mem} {K:AV->Mem->Prop} {v:AV} (h:CW L f vs tm M (λ r M'=>r=v/\M'=M)) (hk:K v M):CW L f vs tm M K:=by
 unfold CW at h ⊢;intro σ own hs;obtain ⟨r,l8,σ',M',h1,h2,h3,rfl,rfl⟩:=h σ own hs;exact ⟨_,l8,σ',_,h1,h2,h3,hk⟩
theorem xM (N:c6 L) (a:List Nat) (q:Bool) (n s:Nat) (hD:CP a) (hn:3<=n) (hl:a.length<=n) (yd:n<=549755813888) (hs:s<=31) (l6:val a*2^s<4294967296^n) :
  Ev L 78 [.sl q (a.map BZ),.int .i64 (n:Int),.int .u64 (s:Int)] (.int .i64 ((val a/ZV n s:Nat):Int)):=by
 have b1:=V5 hD (n-1);have b2:=V5 hD (n-2);have b3:=V5 hD (n-3);have lf:=Dv hD hn hl rfl rfl l6;have heq:=Du (s:=s) hD hn hl hs rfl rfl rfl;obtain ⟨f1,f2,f3,f4⟩:=YK (s:=s) b3 (by omega);refine Ev.x N.PY rfl rfl ?_;(repeat' ((first|(apply CE;omega)|(apply D4;omega)|apply BA)<;>conv=>whnf))
 refine kE (v := .int .u64 ((a.getD (n-1) 0:Nat):Int)) ?_ ?_
 ·refine HI 1000 N.LL rfl rfl ?_
  (repeat' ((first|(apply BR<;>intro hc<;>try (exfalso;omega))|(apply EG;omega)|apply CB|(refine VU (by assumption) ?_ (λ e he hb => ?_);omega)|apply BA)<;>conv=>whnf))
  ·refine ⟨rfl,_,rfl,?_,rfl⟩
   rw[show ((n:Int)-1).toNat=n-1 by omega]at he;rw[JN he];rfl
  ·refine ⟨rfl,_,rfl,?_,rfl⟩
   rw[<-getD_none (show a.length<=n-1 by omega)];rfl
 (conv=>whnf)
 (repeat' ((first|(apply CE;omega)|(apply D4;omega)|(apply TN;omega))<;>conv=>whnf))
 refine kE (v := .int .u64 ((a.getD (n-2) 0:Nat):Int)) ?_ ?_
 ·refine HI 1000 N.LL rfl rfl ?_
  (repeat' ((first|(apply BR<;>intro hc<;>try (exfalso;omega))|(apply EG;omega)|apply CB|(refine VU (by assumption) ?_ (λ e he hb => ?_);omega)|apply BA)<;>conv=>whnf))
  ·refine ⟨rfl,_,rfl,?_,rfl⟩
   rw[show ((n:Int)-2).toNat=n-2 by omega]at he;rw[JN he];rfl
  ·refine ⟨rfl,_,rfl,?_,rfl⟩
   rw[<-getD_none (show a.length<=n-2 by omega)];rfl
 (conv=>whnf)
 generalize a.getD (n-1) 0=d1 at *;generalize a.getD (n-2) 0=d2 at *;(repeat' ((first|(apply UG;omega)|fail)<;>conv=>whnf))
 refine UJ (by omega) lf ?_;(conv=>whnf)
 generalize hT:(d1*4294967296+d2)*2^s=T at *;(repeat' ((first|(apply CE;omega)|(apply D4;omega))<;>conv=>whnf))
 refine kE (v := .int .u64 ((a.getD (n-3) 0:Nat):Int)) ?_ ?_
 ·refine HI 1000 N.LL rfl rfl ?_
  (repeat' ((first|(apply BR<;>intro hc<;>try (exfalso;omega))|(apply EG;omega)|apply CB|(refine VU (by assumption) ?_ (λ e he hb => ?_);omega)|apply BA)<;>conv=>whnf))
  ·refine ⟨rfl,_,rfl,?_,rfl⟩
   rw[show ((n:Int)-3).toNat=n-3 by omega]at he;rw[JN he];rfl
  ·refine ⟨rfl,_,rfl,?_,rfl⟩
   rw[<-getD_none (show a.length<=n-3 by omega)];rfl
 (conv=>whnf)
 generalize a.getD (n-3) 0=d3 at *;skip
 refine UJ (by omega) f4 ?_;(conv=>whnf)
 (repeat' (apply IB<;>conv=>whnf))
 rw[YJ]at f2;refine sK s (by rw[<-hT];exact Nat.mul_mod_left _ _) f2 (by have:=iJ (k:=d1*4294967296+d2) (show s<=64 by omega) (by omega);omega) ?_;(conv=>whnf)
 (repeat' ((first|apply Lt|(apply WT;omega))<;>conv=>whnf))
 rw[heq];exact FF rfl
theorem Wm (N:c6 L) (P Q:Int) (hP:0<=P/\P<=4611686018427387904) (hQ:0<=Q/\Q<=4611686018427387904) : ∃ r,Ev L 79 [.int .i64 P,.int .i64 Q] r /\ ∃ a b c d:Int,(kF a b c d/\(-2147483647<=a/\a<=2147483647)/\(-2147483647<=b/\b<=2147483647)/\(-2147483647<=c/\c<=2147483647)/\(-2147483647<=d/\d<=2147483647))/\(b≠0->aN P Q a b c d)/\r = .tup [.int .i64 a,.int .i64 b,.int .i64 c,.int .i64 d]:=by
 refine Ev.xE N.PV rfl rfl ?_;(repeat' (apply BA<;>conv=>whnf))
 refine Ks (λ_ _ _ _ _ q=>(q+2147483648).toNat) (λ(a b c d p q:Int)=>WX P Q a b c d p q/\((-2147483647<=a/\a<=2147483647)/\(-2147483647<=b/\b<=2147483647)/\(-2147483647<=c/\c<=2147483647)/\(-2147483647<=d/\d<=2147483647))/\(p<=4611686018427387904/\q<=4611686018427387904)/\Y5 P Q a b c d/\(b≠0->aN P Q a b c d)) (λ a b c d p q=>[(0,.int .i64 p),(1,.int .i64 q),(4,.int .i64 a),(5,.int .i64 b),(6,.int .i64 c),(7,.int .i64 d)]) (λ_ _ _ _ _ _=>[]) [] [] 1 0 0 1 P Q (by (conv=>whnf);exact ⟨rfl,rfl,rfl⟩) ⟨WX.start hP.1 hQ.1,by omega,by omega,Y5.start P Q,λ h=>absurd rfl h⟩ ?_;intro a b c d p q ⟨p1,⟨⟨p2,p2'⟩,⟨p3,p3'⟩,⟨p4,p4'⟩,⟨p5,p5'⟩⟩,⟨p6,p7⟩,p8,p9⟩ ih;have g1:=p1.pa;have g2:=p1.pb;have g3:=p1.qc;have g4:=p1.qd;by_cases hc0:q+c=0
 ·(repeat' ((first|(apply BR<;>intro hc<;>try (exfalso;omega))|(apply CG;omega)|apply BA)<;>conv=>whnf))
  refine ⟨.tup [.int .i64 a,.int .i64 b,.int .i64 c,.int .i64 d],?_,a,b,c,d,⟨p1.sg,by omega⟩,p9,rfl⟩;(conv=>whnf)
  exact CJ rfl (by simp [CS,FG])
 by_cases nk:q+d=0
 ·(repeat' ((first|(apply BR<;>intro hc<;>try (exfalso;omega))|(apply CG;omega)|apply BA)<;>conv=>whnf))
  refine ⟨.tup [.int .i64 a,.int .i64 b,.int .i64 c,.int .i64 d],?_,a,b,c,d,⟨p1.sg,by omega⟩,p9,rfl⟩;(conv=>whnf)
  exact CJ rfl (by simp [CS,FG])
 by_cases oy:(p+a)/(q+c)=(p+b)/(q+d)
 ·obtain ⟨s1,s2,s3,s4⟩:=p1.step hc0 nk rfl oy
  have s5:=s4 p8;have s6:=s5.half;have s7:=s1.qc;by_cases hfl:2147483647<(p+a)/(q+c)
  ·(repeat' ((first|(apply BR<;>intro hc<;>try (exfalso;omega))|(apply CG;omega)|(refine W2 ?_ ?_ (λ_ => ?_) (λ_ _ => ?_);omega;omega;all_goals try (exfalso;omega))|apply BA)<;>conv=>whnf))
   refine ⟨.tup [.int .i64 a,.int .i64 b,.int .i64 c,.int .i64 d],?_,a,b,c,d,⟨p1.sg,by omega⟩,p9,rfl⟩;(conv=>whnf)
   exact CJ rfl (by simp [CS,FG])
  ·have t1:=zW (x:=(p+a)/(q+c)) (y:=c) (M:=2147483647) (N:=2147483647) (by omega) (by omega)
   have t2:=zW (x:=(p+a)/(q+c)) (y:=d) (M:=2147483647) (N:=2147483647) (by omega) (by omega);(repeat' ((first|(apply BR<;>intro hc<;>try (exfalso;omega))|(apply CG;omega)|(apply D4;omega)|(apply NQ;omega)|(refine W2 ?_ ?_ (λ_ => ?_) (λ_ _ => ?_);omega;omega;all_goals try (exfalso;omega))|(apply E6.neg;omega)|apply BA)<;>conv=>whnf))
   all_goals first
    | exact DE [] (by (conv=>whnf);exact ⟨rfl,rfl,rfl⟩) (ih _ _ _ _ _ _ (by omega) ⟨s1,by omega,by omega,s6,λ_=>s5⟩)
    |(refine ⟨.tup [.int .i64 a,.int .i64 b,.int .i64 c,.int .i64 d],?_,a,b,c,d,⟨p1.sg,by omega⟩,p9,rfl⟩
      (conv=>whnf)
      exact CJ rfl (by simp [CS,FG]))
 ·(repeat' ((first|(apply BR<;>intro hc<;>try (exfalso;omega))|(apply CG;omega)|(refine W2 ?_ ?_ (λ_ => ?_) (λ_ _ => ?_);omega;omega;all_goals try (exfalso;omega))|apply BA)<;>conv=>whnf))
  refine ⟨.tup [.int .i64 a,.int .i64 b,.int .i64 c,.int .i64 d],?_,a,b,c,d,⟨p1.sg,by omega⟩,p9,rfl⟩;(conv=>whnf)
  exact CJ rfl (by simp [CS,FG])
theorem Wn (N:c6 L) (x y:List Nat) (q1 q2:Bool) (f g:Int) (hX:CP x) (hY:CP y) (hl:y.length<=x.length) (lx:x.length<=549755813888) (hs:VR f g) (R:Nat) (hR:(R:Int)=f*val x+g*val y) (hR2:R<=val x) :
  Ev L 80 [.sl q1 (x.map BZ),.sl q2 (y.map BZ),.int .i64 f,.int .i64 g] (.sl false ((dg R).map BZ)):=by
 refine Ev.x N.PW rfl rfl ?_;(repeat' ((first|apply CB|apply BA)<;>conv=>whnf))
 refine GT (enc:=BZ) 0 x.length rfl rfl (by omega) ?_;(conv=>whnf)
 (repeat' (apply CB<;>conv=>whnf))
 refine JJ (λ i _ _=>x.length-i) (λ(i:Nat) (o:List Nat) (c:Int)=>i<=x.length/\o.length=x.length/\CP o /\ -2147483648<=c/\c<=2147483648/\(val (o.take i):Int)+((4294967296^i:Nat):Int)*c=f*val (x.take i)+g*val (y.take i)) (λ i o c=>[(10,.int .i64 c),(19,.int .i64 i)]) (λ i o c=>[(16,16,.rw 1 (o.map BZ))]) [] [] 0 (List.replicate x.length 0) 0 (by (conv=>whnf);exact ⟨rfl,rfl,rfl⟩) ⟨by omega,by simp,MB _,by omega,by omega,by simp [val]⟩ ?_;intro i o c ⟨p1,p2,p3,p4,p5,p6⟩ ih;by_cases hi:i<x.length
 ·obtain ⟨d,hd⟩ : ∃ d,x[i]? = some d:=⟨_,zE hi⟩
  have hdb:=hX.at hd;have h1:=GR hd;by_cases hy:i<y.length
  ·obtain ⟨e,he⟩ : ∃ e,y[i]? = some e:=⟨_,zE hy⟩
   have Ab:=hY.at he;have h2:=GR he;obtain ⟨r1,r2,r3⟩:=hs.Kk hdb Ab;have hst:=uH (d:=d) (e:=e) p6 rfl;(repeat' ((first|(apply BR<;>intro hc<;>try (exfalso;omega))|(apply CG;omega)|(apply NQ;omega)|(apply WT;omega)|apply CB|(refine CX (by assumption) ?_ rfl ?_;omega)|apply BA)<;>conv=>whnf))
   generalize htt:f * ↑d+c+g * ↑e=t at *;refine sA ?_;(conv=>whnf)
   (repeat' ((first|(apply CE;omega)|fail)<;>conv=>whnf))
   refine H9 (by omega) ?_;(conv=>whnf)
   refine sM ?_;(conv=>whnf)
   (repeat' ((first|(apply CG;omega)|fail)<;>conv=>whnf))
   refine DE [] (by (conv=>whnf);exact ⟨rfl,rfl,rfl⟩) (ih (i+1) _ _ (by omega) ⟨by omega,by simpa using p2,p3.set _ (uG t),by omega,by omega,?_⟩);rw[I2 (by omega),h1,h2,Nat.pow_succ];simp only[Int.natCast_add,Int.natCast_mul,lF];exact hst
  ·have h2:=jZ (y:=y) (i:=i) (by omega)
   obtain ⟨r1,r2,r3⟩:=hs.Kk (e:=0) hdb (by omega);have hst:=uH (d:=d) (e:=0) p6 rfl;rw[Int.mul_zero,Int.add_zero]at hst;have r4 : -9223372030412324865<=f*(d:Int)/\f*(d:Int)<=9223372030412324865:=r1;(repeat' ((first|(apply BR<;>intro hc<;>try (exfalso;omega))|(apply CG;omega)|(apply NQ;omega)|(apply WT;omega)|apply CB|(refine CX (by assumption) ?_ rfl ?_;omega)|apply BA)<;>conv=>whnf))
   generalize htt:f * ↑d+c=t at *;refine sA ?_;(conv=>whnf)
   (repeat' ((first|(apply CE;omega)|fail)<;>conv=>whnf))
   refine H9 (by omega) ?_;(conv=>whnf)
   refine sM ?_;(conv=>whnf)
   (repeat' ((first|(apply CG;omega)|fail)<;>conv=>whnf))
   refine DE [] (by (conv=>whnf);exact ⟨rfl,rfl,rfl⟩) (ih (i+1) _ _ (by omega) ⟨by omega,by simpa using p2,p3.set _ (uG t),by omega,by omega,?_⟩);rw[I2 (by omega),h1,h2,Nat.pow_succ];simp only[Int.natCast_add,Int.natCast_mul,lF];rw[Int.mul_zero,Int.add_zero]at hst;exact hst
 ·obtain rfl:i=x.length:=by omega
  clear ih;rw[FL (by omega),FL (Nat.le_refl _),FL (by omega)]at p6;have Jf:=HS p3;have hxv:=HS hX;rw[p2]at Jf;have hVR:val o=R:=by
   have:=Rl Jf p6 (by omega) (by omega)
   omega
  have hl1:=HL p3;rw[<-p2,<-hVR];(repeat' ((first|(apply BR<;>intro hc<;>try (exfalso;omega))|apply BA|refine dZ N (by assumption) (by omega) rfl (by first|rfl|omega|assumption) ?_)<;>conv=>whnf))
  refine J0 (enc:=BZ) (λ_=>rfl) (by omega) ?_;(conv=>whnf)
  refine CJ ?_ (by simp only[CS,true_and];exact E0 _);rw[List.drop_zero,dR p3]
theorem Wq (N:c6 L) (X Y:Nat) (ku:Y<=X) (hy:3<=(dg Y).length) (lx:(dg X).length<=549755813888) : ∃ r,Ev L 81 [.sl false ((dg X).map BZ),.sl false ((dg Y).map BZ)] r /\ ∃ A B:Nat,(B<Y/\B<=A/\A<=X/\Nat.gcd A B=Nat.gcd X Y)/\r = .tup [.sl false ((dg A).map BZ),.sl false ((dg B).map BZ)]:=by
 have hY0:Y≠0:=λ h=>by rw[h,HR]at hy;simp at hy
 have ni:X≠0:=by omega
 have hlen:=V1 ku;have hdv:=λ q q'=>mN N X Y q q' hY0 lx (by omega)
 have d1:=GP X;have d2:=GP Y;have v1:=DN X;have v2:=DN Y;obtain ⟨xt,Bp,Bq⟩:=lP ni;have wq:=d1.at Bp;obtain ⟨b1,b2,b3,b4⟩:=oE Bq wq;have ve:=wY N xt wq;generalize hs:32-n0 xt=s at *;have ag:s<=31:=by omega
 obtain ⟨n1,n2⟩:=oB d1 Bp (by omega) ag b3 b4;have hcb:=λ(f g:Int) (R:Nat) (hs:VR f g) (h1:(R:Int)=f*val (dg X)+g*val (dg Y)) (h2:R<=val (dg X)) (q q':Bool)=>Wn N (dg X) (dg Y) q q' f g d1 d2 (by omega) lx hs R h1 h2
 have n3:val (dg Y)*2^s<4294967296^(dg X).length:=Nat.lt_of_le_of_lt (Nat.mul_le_mul_right _ (by omega)) n1;have hl1:=λ q=>xM N (dg X) q (dg X).length s d1 (by omega) (by omega) lx ag n1
 have hl2:=λ q=>xM N (dg Y) q (dg X).length s d2 (by omega) (by omega) lx ag n3
 have hK:=Ajy (dg X).length s;obtain ⟨e1,x1,x2,x3⟩:=Dx (V:=X) hK;obtain ⟨e2,y1,y2,y3⟩:=Dx (V:=Y) hK;rw[v1]at hl1;rw[v2]at hl2;have nv:=Dw d1 (n:=(dg X).length) (by omega) (by omega) ag n1;have tj:=Dw d2 (n:=(dg X).length) (by omega) (by omega) ag n3;rw[v1]at nv;rw[v2]at tj;generalize ZV (dg X).length s=K at *;generalize X/K=P at *;generalize Y/K=Q at *;rw[v1,v2]at hcb;obtain ⟨rc,tk,a,b,c,d,⟨z1,z2,z3,z4,z5⟩,z6,rfl⟩:=Wm N (P:Int) (Q:Int) (by omega) (by omega);have e1:(((dg X).length:Int)-1).toNat=(dg X).length-1:=by omega
 rw[<-e1]at Bp;refine Ev.xE N.P0 rfl rfl ?_;by_cases hb:b=0
 ·(repeat' ((first|(apply BR<;>intro hc<;>try (exfalso;omega))|(apply D4;omega)|(apply EG;omega)|apply CB|(refine CX (by assumption) ?_ rfl ?_;omega)|apply BA|refine BH (ve) ?_|refine BH (hl1 _) ?_|refine BH (hl2 _) ?_|refine BH (tk) ?_|refine BH (hdv _ _) ?_)<;>conv=>whnf))
  refine ⟨_,?_,Y,X%Y,⟨Nat.mod_lt _ (by omega),Nat.le_of_lt (Nat.mod_lt _ (by omega)),ku,cM X Y⟩,rfl⟩;(conv=>whnf)
  exact CJ rfl (bE _ _)
 ·obtain ⟨g1,g2,g3,g4⟩:=z6 hb (X:Int) (Y:Int) (K:Int) _ _ (by omega) x1 y1 x2 x3 y2 y3
  obtain ⟨A,hA⟩:=Int.eq_ofNat_of_zero_le (show 0<=a*X+b*Y by omega);obtain ⟨B,hB⟩:=Int.eq_ofNat_of_zero_le g1;have s1:VR a b:=by rcases z1 with ⟨h1,h2,h3,h4⟩|⟨h1,h2,h3,h4⟩<;>unfold VR<;>omega
  have s2:VR c d:=by rcases z1 with ⟨h1,h2,h3,h4⟩|⟨h1,h2,h3,h4⟩<;>unfold VR<;>omega
  (repeat' ((first|(apply BR<;>intro hc<;>try (exfalso;omega))|(apply D4;omega)|(apply EG;omega)|apply CB|(refine CX (by assumption) ?_ rfl ?_;omega)|apply BA|refine BH (ve) ?_|refine BH (hl1 _) ?_|refine BH (hl2 _) ?_|refine BH (tk) ?_|refine BH (hcb a b A s1 hA.symm (by omega) _ _) ?_|refine BH (hcb c d B s2 hB.symm (by omega) _ _) ?_)<;>conv=>whnf))
  rw[hA,hB]at g4;rw[hA,hB]at g2;refine ⟨_,?_,A,B,⟨by omega,by omega,by omega,by simpa using g4⟩,rfl⟩;(conv=>whnf)
  exact CJ rfl (bE _ _)
theorem yV (N:c6 L) (X Y:Nat) (ku:Y<=X) (lx:(dg X).length<=549755813888) :
 AH L [It.lp JO.l1,It.blk 0,
   It.code
    ((((C1.ops JO.r6 false).dr [23,30,31] []).seq
       (C1.cond 32 (((C1.ops JO.r7 false).dr [5,6,32,33] []).seq C1.ret) C1.skip)).seq
     (((C1.ops JO.r8 false).dr [5,7,32,34,35,36,37,38,39] []).seq
      (((C1.ops JO.r9 false).dr [6,8,40,41,42,43] []).seq
       ((C1.block 2 JO.l2.loop).seq
        (((C1.ops JO.q6 false).dr [9,10,45,50,51,52,53,54,55,56] []).seq C1.ret)))))]
  [(6,AV.sl false (List.map BZ (dg Y))),(5,AV.sl false (List.map BZ (dg X)))] []
  (VV JO (AV.sl false (List.map BZ (dg (X.gcd Y))))):=by
 refine I3 (λ_ y=>y) (λ(x y:Nat)=>y<=x/\(dg x).length<=549755813888/\Nat.gcd x y=Nat.gcd X Y) (λ x y=>[(6,AV.sl false (List.map BZ (dg y))),(5,AV.sl false (List.map BZ (dg x)))]) (λ_ _=>[]) [] [] X Y (by (conv=>whnf);exact ⟨rfl,rfl,rfl⟩) ⟨ku,lx,rfl⟩ ?_;intro x y ⟨p1,p2,p3⟩ ih;rw[<-p3]at ih ⊢;generalize Nat.gcd X Y=G at *;clear ku lx;subst p3;have hlen:=V1 p1;by_cases h3:3<=(dg y).length
 ·obtain ⟨r,hr,A,B,⟨k1,k2,k3,k4⟩,rfl⟩:=Wq N x y p1 h3 p2
  have k5:=V1 k3;(repeat' ((first|(apply BR<;>intro hc<;>try (exfalso;omega))|apply CB|apply BA|refine BH (hr) ?_)<;>conv=>whnf))
  exact C6 [] (ih A B k1 ⟨k2,by omega,k4⟩)
 ·clear ih
  by_cases h0:y=0
  ·subst h0
   have hl0:(dg 0).length=0:=by rw[HR];rfl
   (repeat' ((first|(apply BR<;>intro hc<;>try (exfalso;omega))|apply CB|apply BA)<;>conv=>whnf))
   rw[Nat.gcd_zero_right];exact CJ rfl (by simp only[CS,true_and];exact E0 _)
  ·have hp:=bP h0
   have hm:=V1 (Nat.le_of_lt (Nat.mod_lt x (show y>0 by omega)));have hd:=λ q q'=>mN N x y q q' h0 p2 (by omega)
   have yh:=λ q=>xN N y q (by omega)
   have ma:=λ q=>xN N (x%y) q (by omega)
   have hb:y<18446744073709551616:=TZ.1 (show (dg y).length<=2 by omega);have hml:x%y<y:=Nat.mod_lt _ (by omega);rw[<-cM x y];(repeat' ((first|(apply BR<;>intro hc<;>try (exfalso;omega))|apply CB|apply BA|refine BH (hd _ _) ?_|refine BH (yh _) ?_|refine BH (ma _) ?_)<;>conv=>whnf))
   refine I3 (λ_ q=>q) (λ(p q:Nat)=>p<18446744073709551616/\q<18446744073709551616/\Nat.gcd p q=Nat.gcd y (x%y)) (λ p q=>[(9,.int .u64 (p:Int)),(10,.int .u64 (q:Int))]) (λ_ _=>[]) [] [] y (x%y) (by (conv=>whnf);exact ⟨rfl,rfl,rfl⟩) ⟨hb,by omega,rfl⟩ ?_;intro p q ⟨g1,g2,g3⟩ ih;rw[<-g3]at ih ⊢;by_cases hq:q=0
   ·subst hq
    clear ih;obtain ⟨v1,v2⟩:=lM g1;rw[Nat.gcd_zero_right];have hl1:=HL v2;have ht:=dR v2;rw[v1]at hl1 ht;(repeat' ((first|(apply BR<;>intro hc<;>try (exfalso;omega))|apply IB|(apply G3;omega)|apply IR|apply BA)<;>conv=>whnf))
    generalize p%4294967296=lo at *;generalize p/4294967296=hi at *;refine dZ N v2 (by simp) rfl rfl ?_;rw[v1];(conv=>whnf)
    skip
    refine J0 (enc:=BZ) (l:=[lo,hi]) (λ_=>rfl) (by omega) ?_;(conv=>whnf)
    refine CJ ?_ (by simp only[CS,true_and];exact E0 _);rw[List.drop_zero,ht]
   ·have hpq:p%q<q:=Nat.mod_lt _ (by omega)
    (repeat' ((first|(apply BR<;>intro hc<;>try (exfalso;omega))|(apply aQ;omega)|apply BA)<;>conv=>whnf))
    exact C6 [] (ih q (p%q) hpq ⟨g2,by omega,cM p q⟩)
theorem Wl (N:c6 L) (a b:List Nat) (q1 q2:Bool) (hA:CP a) (hB:CP b) (la:a.length<=549755813888) (lb:b.length<=549755813888) :
  Ev L 82 [.sl q1 (a.map BZ),.sl q2 (b.map BZ)] (.sl false ((dg (Nat.gcd (val a) (val b))).map BZ)):=by
 have t1:=λ q=>cA N a q hA (by omega)
 have t2:=λ q=>cA N b q hB (by omega)
 have l1:=HL hA;have l2:=HL hB;have g8:=λ q q'=>U0 N (dg (val a)) (dg (val b)) q q' (GP _) (GP _) (by omega) (by omega)
 rw[DN,DN]at g8;generalize val a=X at *;generalize val b=Y at *;refine Ev.x N.JO rfl rfl ?_;by_cases l6:X<Y
 ·have hn:FI X Y = -1:=(LI (by omega)).symm
  rw[hn]at g8;(repeat' ((first|(apply BR<;>intro hc<;>try (exfalso;omega))|apply BA|refine BH (t1 _) ?_|refine BH (t2 _) ?_|refine BH (g8 _ _) ?_)<;>conv=>whnf))
  rw[Nat.gcd_comm];exact DE [] (by (conv=>whnf);exact ⟨rfl,rfl,rfl⟩) (yV N Y X (by omega) (by omega))
 ·have gb:0<=FI X Y:=by unfold FI;split<;>(try split)<;>omega
  generalize FI X Y=cm at *;(repeat' ((first|(apply BR<;>intro hc<;>try (exfalso;omega))|apply BA|refine BH (t1 _) ?_|refine BH (t2 _) ?_|refine BH (g8 _ _) ?_)<;>conv=>whnf))
  exact DE [] (by (conv=>whnf);exact ⟨rfl,rfl,rfl⟩) (yV N X Y (by omega) (by omega))
end Go.Eng

namespace Go.Eng
def Z6 (N:Nat):List ML->Bool
 | []=>true
 | .tmp t::r=>Nat.blt t N&&Z6 N r
 | .cell t _ _::r=>Nat.blt t N&&Z6 N r
theorem pK {N:Nat} {s s':St} (ho:s.own=s'.own) (ib : ∀ j,j<N->c9 s'.tm j=c9 s.tm j) : ∀ {res:List ML},Z6 N res=true->res.mapM (H2 s)=res.mapM (H2 s')
 | [],_=>rfl
 | .tmp t::r,h=>by
  simp only[Z6,Bool.and_eq_true]at h;have:=pK ho ib h.2
  simp only[List.mapM_cons,H2,ib t (W7.1 h.1),this]
 | .cell t agg n::r,h=>by
  simp only[Z6,Bool.and_eq_true]at h;have:=pK ho ib h.2
  simp only[List.mapM_cons,H2,ib t (W7.1 h.1),this,ho]
def Md (N:Nat) (fn:AFn) (tm:Tm) (K:AV->Mem->Prop) (v9:Tm) (M':Mem):Prop:=gh N v9=tm/\iV v9 M' fn.res (λ rs=>Kl rs λ v=>K v M')
theorem H6 {L:Lib} {f:Nat} {fn:AFn} {vs:List AV} {tm:Tm} {M:Mem} {K:AV->Mem->Prop} (N:Nat) (hL:L f=some fn) (hp:Nat.beq vs.length fn.v8=true) (hN:(Nat.ble fn.v8 N&&(LF N fn.body&&Z6 N fn.res))=true)
  (h:AH L [.code fn.body] (ET 0 vs++JH N tm) M (Md N fn tm K)):CW L f vs tm M K:=by
 intro σ own hs;simp only[Bool.and_eq_true]at hN;obtain ⟨n1,n2,n3⟩:=hN;have n1:=Nat.le_of_ble_eq_true n1;have hp:vs.length=fn.v8:=Nat.eq_of_beq_eq_true hp;have Bc:RX σ (ET 0 vs++JH N tm) M ⟨PH (C9 σ) (ET 0 vs++JH N tm),own⟩:=⟨λ j=>Or.inr (by rw[NG];exact NH (OL σ) j _),hs⟩;obtain ⟨n,c,s',hr,σ',v9,M',hR,hg,iz⟩:=h σ _ Bc;have Ae:Gh N (PH (C9 σ) (JH N tm)) (ET 0 (vs.map (C9 σ))) (PH (C9 σ) (ET 0 vs++JH N tm)):=by
  constructor
  ·intro j hj
   rw[nT,NH (OL σ),NH (OL σ)];rcases dU j (JH N tm) (ET 0 vs) with ⟨_,e⟩|⟨hn,e⟩
   ·rw[e]
   ·rw[e,qY hj,qW j 0 vs hn]
  ·intro j hj
   rw[NH (OL σ),NH (OL σ)];rcases dU j (JH N tm) (ET 0 vs) with ⟨hn,e⟩|⟨_,e⟩
   ·have:=nS j 0 vs hn
    omega
   ·rw[e]
 obtain ⟨s,r1,r2,r3⟩:=LV n (by simp [V7,n2]) Ae hr;obtain ⟨rs,i1,i2,i3⟩:=pJ hR iz;rw[<-pK (s:=s) r2.symm r3.lo n3,i3]at i1;have key : ∃ r,K8 (rs.map (DP σ'))=C9 σ' r/\K r M':=by
  match rs,i2,i3 with
  | [],h,_=>exact ⟨.tup [],rfl,h⟩
  | [v],h,e =>
   simp only[List.map_cons,List.map_nil,List.cons.injEq,and_true]at e;exact ⟨v,by simp only[List.map_cons,List.map_nil,K8];exact e.symm,h⟩
  | a::b::l,h,_=>exact ⟨.tup (a::b::l),rfl,h⟩
 obtain ⟨r,k1,k2⟩:=key;refine ⟨r,s.own,σ',M',JL.intro hL (by simpa using hp) ⟨n,c,s,r1,?_,rfl⟩,?_,?_,k2⟩
 ·rw[i1,Option.map_some,k1]
 ·rw[<-r2];exact hR.sat
 ·intro j
  have e1:tg tm j=tg v9 (N+j):=by rw[NG,NG,<-hg,qR]
  rcases hR.tm (N+j) with e|e
  ·rw[e1,e];rfl
  ·rw[e1,<-e,r3.hi (N+j) (by omega),NH (OL σ),qX,<-NG,e1]
end Go.Eng
