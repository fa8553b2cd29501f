/-
  Natural numbers (layer 1): one digit of a long division, in the caller's memory.
-/
import Derived.Test.YthgjfcjecnmflaaGreatB8
import Derived.Test.YthgjfcjecnmflaaGreatB9
import Derived.Test.YthgjfcjecnmflaaGreatB7
import Derived.Test.YthgjfcjecnmflaaGreatB1
import Derived.Test.YthgjfcjecnmflaaGreatB2
set_option linter.unusedSimpArgs false
set_option linter.unusedVariables false
set_option linter.unnecessarySimpa false
namespace Go.e8
open F
attribute [local irreducible] AA AF AM AE C8 AX BF BD B9 B2 CX E9 B0 A5 B5 CQ AB A7 AJ pw BR BO C4 D0 DZ DU DN BZ DW
set_option maxHeartbeats 4000000
variable {L:Lib}
abbrev gN (v:List Nat) (j m s xl:Nat):Tm:=[(102,AV.sl false (List.map AL v)),(101,AV.row 71012 0 1 j (v.length+1)),
           (100,AV.int IntKind.i64 (↑j + ↑v.length+1)),(99,AV.int IntKind.i64 (↑j + ↑v.length)),
           (98,AV.int IntKind.i64 ↑v.length),(97,AV.int IntKind.i64 ↑j),(96,AV.int IntKind.i64 ↑j),
           (95,AV.row 71012 0 1 0 (xl+1)),(94,AV.int IntKind.i64 ↑j),(93,AV.row 28 0 1 0 m),
           (90,AV.bool true),(14,AV.int IntKind.i64 ↑j),(13,AV.sl false (List.map AL v)),
           (12,AV.row 71012 0 1 0 (xl+1)),(11,AV.int IntKind.u64 ↑s),(7,AV.row 28 0 1 0 m),
           (6,AV.int IntKind.i64 ↑v.length)]
abbrev Ya:List It:=[It.lp FI.l2,It.e7 2,It.code
      (((A9.ops FI.fk false).dr [9,10,84,85,86,87,118,119,120,121,122,123,124,125,126]
         []).seq
       (((A9.ops FI.gm false).dr [127,128,129,130,131] []).seq
        ((((A9.ops FI.jo false).dr [15,132,133] []).seq
           (A9.cond 134
            (((A9.ops FI.mr false).dr [0,1,5,7,134,135,136] []).seq A9.ret)
            A9.skip)).seq
         (((A9.ops FI.oo false).dr [134] []).seq
          ((((A9.ops FI.qz false).dr [1] []).seq (A9.block 4 FI.l3.loop)).seq
           (((A9.ops FI.Bq false).dr
              [0,5,9,137,138,139,140,162,163,164,165,166,167,168,169] []).seq
            (((A9.ops FI.Cz false).dr [7,170,171,172] []).seq A9.ret)))))))]
section
variable {A W C w v:List Nat} {j m s xl q:Nat} {K:AV->Mem->Prop}
theorem gF (hA:A.length=j) (hW:W.length=v.length+1) (D2:AY W) (fo:AY v) (gj:2<=v.length) (vg:v.length<=549755813888) (bh:0<val v)
  (r1:q<4294967296) (r2:val W/val v<=q) (r3:q<=val W/val v+1)
  (hk : ∀ (W':List Nat) (o':List (List AV)) (q':Nat),W'.length=v.length+1->AY W'->val W'=val W%val v->q'=val W/val v->K (.int .u32 (q':Int)) [(71012,71012,.rw 1 ((A++W'++C).map AL)),(28,28,.rw 1 (w.map AL)),(71012,71012,.rw 1 o')])
  (jd : ∀ (W':List Nat) (o':List (List AV)) (q':Nat),W'.length=v.length+1->AY W'->val W'=val W%val v->q'=val W/val v->K (.int .u32 (q':Int)) [(71012,71012,.rw 1 ((A++W'++C).map AL)),(71012,71012,.rw 1 o'),(28,28,.rw 1 (w.map AL))]) :
  AA L Ya ([(86,.int .i64 0),(85,.int .i64 v.length),(84,.sl false (v.map AL)),(10,.int .u64 0),(9,.int .u64 0),(7,.int .u64 (q:Int)),(5,.int .i64 v.length),(0,AV.row 71012 0 1 j (v.length+1)),(1,AV.sl false (List.map AL v))]++FX 1000 (gN v j m s xl))
   [(71012,71012,A3.rw 1 (List.map AL (A++W++C))),(28,28,A3.rw 1 (List.map AL w))] (nJ 1000 FI (gN v j m s xl) K):=by
 refine dV (λ i _ _ _=>v.length-i) (λ(i:Nat) (Z:List Nat) (c b:Nat)=>i<=v.length/\Z.length=v.length+1/\AY Z/\c<4294967296/\b<=1/\Z.drop i=W.drop i/\val (Z.take i)+q*val (v.take i)=val (W.take i)+4294967296^i*(c+b)) (λ i Z c b=>[(86,.int .i64 i),(10,.int .u64 (b:Int)),(9,.int .u64 (c:Int))]) (λ i Z c b=>[(71012,71012,.rw 1 ((A++Z++C).map AL))]) [] [] 0 W 0 0 (by (conv=>whnf);exact ⟨rfl,rfl,rfl⟩) ⟨by omega,hW,D2,by omega,by omega,rfl,by simp [val]⟩ ?_;intro i Z c b ⟨p1,p2,p3,p4,p5,p6,p7⟩ ih;by_cases hi:i<v.length
 ·obtain ⟨d,hd⟩ : ∃ d,v[i]? = some d:=⟨_,zE hi⟩
  obtain ⟨u,hu⟩ : ∃ u,Z[i]? = some u:=⟨_,zE (by omega)⟩;have dk:=fo.at hd;have nn:=p3.at hu;obtain ⟨pr,si⟩ : ∃ pr,pr=q*d+c:=⟨_,rfl⟩;obtain ⟨m1,m2,m3⟩:=vJ r1 dk p4 si;have xe:W[i]? = some u:=by
   have e1:(Z.drop i)[0]? = (W.drop i)[0]? := by rw[p6]
   simpa [hu] using e1.symm
  (repeat' ((first|(apply AG<;>intro hc<;>try omega)|(apply AU;omega)|(apply FN;omega)|(apply PD;omega)|apply E4|(apply B6;omega)|(refine A8 (by assumption) ?_ rfl ?_;omega)|apply AD)<;>conv=>whnf))
  rw[<-si];refine QE i hu (by omega) ?_;(conv=>whnf)
  (repeat' ((first|(apply AU;omega)|(apply Z7;omega)|(apply B6;omega)|apply FG)<;>conv=>whnf))
  obtain ⟨s1,s2⟩:=dM nn (show pr%4294967296<4294967296 by omega) p5;have m5:=Agn p7 si rfl nn p5;generalize D7 (D7 u (pr%4294967296)) b=t at *;refine OD i (by omega) (by omega) ?_;(conv=>whnf)
  (repeat' ((first|(apply A0;omega)|apply Z6)<;>conv=>whnf))
  refine BH [] (by (conv=>whnf);exact ⟨rfl,rfl,rfl⟩) (ih (i+1) _ _ _ (by omega) ⟨by omega,by simpa using p2,p3.set _ (by omega),m1,s2,?_,?_⟩)
  ·rw[List.drop_set_of_lt (by omega)]
   have e1:(Z.drop i).drop 1=(W.drop i).drop 1:=by rw[p6]
   simpa using e1
  ·rw[FK (by omega),DK hd,DK xe,Nat.pow_succ]
   exact m5
 ·obtain rfl:i=v.length:=by omega
  clear ih;obtain ⟨u,hu⟩ : ∃ u,Z[v.length]? = some u:=⟨_,zE (by omega)⟩;have nn:=p3.at hu;have xe:W[v.length]? = some u:=by
   have e1:(Z.drop v.length)[0]? = (W.drop v.length)[0]? := by rw[p6]
   simpa [hu] using e1.symm
  rw[CW (Nat.le_refl v.length)]at p7;obtain ⟨s1,s2⟩:=dM nn p4 p5;have m5:=Agl p7 rfl nn p4 p5;have eW:val W=val (W.take v.length)+4294967296^v.length*u:=by
   rw[<-DK xe,CW (by omega)]
  rw[<-eW,<-FK (show v.length<Z.length by omega),CW (by simp;omega)]at m5;(repeat' ((first|(apply AG<;>intro hc<;>try omega)|(apply AU;omega)|apply AD)<;>conv=>whnf))
  refine QE v.length hu (by omega) ?_;(conv=>whnf)
  (repeat' ((first|(apply AU;omega)|(apply Z7;omega)|(apply B6;omega)|apply FG)<;>conv=>whnf))
  generalize D7 (D7 u c) b=t at *;refine OD v.length (by omega) (by omega) ?_;(conv=>whnf)
  (repeat' ((first|(apply AG<;>intro hc<;>try omega)|apply Z6|(apply DX;omega)|apply AQ)<;>conv=>whnf))
  ·have wh:t/9223372036854775808=0:=by omega
   rw[wh,Nat.mul_zero,Nat.add_zero]at m5;obtain ⟨y1,y2⟩:=qA bh r2 m5;exact ⟨rfl,_,rfl,hk _ _ _ (by simpa using p2) (p3.set _ (by omega)) y2 y1⟩
  ·have Oq:t/9223372036854775808=1:=by omega
   rw[Oq,Nat.mul_one]at m5;have Ec:AY (Z.set v.length (t%4294967296)):=p3.set _ (by omega);have Am:(Z.set v.length (t%4294967296)).length=v.length+1:=by simpa using p2
   clear p7 p6 p4 p5 s1 s2 eW Oq hu xe nn p1 p2 p3;generalize Z.set v.length (t%4294967296)=X at *;have Ci:=EQ Ec;rw[Am,Nat.pow_succ]at Ci;obtain ⟨y1,y2,y3⟩:=pZ bh r3 Ci m5;have hRV:val W%val v<val v:=Nat.mod_lt _ bh;have Ak:=EQ fo;obtain ⟨xw,Bo⟩ : ∃ xw,X[v.length]? = some xw:=⟨_,zE (by omega)⟩;have eX:val X=val (X.take v.length)+4294967296^v.length*xw:=by
    rw[<-DK Bo,CW (by omega)]
   refine FY (λ i _ _=>v.length-i) (λ(i:Nat) (Z:List Nat) (c:Nat)=>i<=v.length/\Z.length=v.length+1/\AY Z/\c<=1/\Z.drop i=X.drop i/\val (Z.take i)+4294967296^i*c=val (X.take i)+val (v.take i)) (λ i Z c=>[(139,.int .i64 i),(9,.int .u64 (c:Int))]) (λ i Z c=>[(71012,71012,.rw 1 ((A++Z++C).map AL))]) 0 X 0 ⟨by omega,Am,Ec,by omega,rfl,by simp [val]⟩ ?_;intro i Z c ⟨p1,p2,p3,p4,p6,p7⟩ ih;by_cases hi:i<v.length
   ·obtain ⟨d,hd⟩ : ∃ d,v[i]? = some d:=⟨_,zE hi⟩
    obtain ⟨u,hu⟩ : ∃ u,Z[i]? = some u:=⟨_,zE (by omega)⟩;have dk:=fo.at hd;have nn:=p3.at hu;have mg:X[i]? = some u:=by
     have e1:(Z.drop i)[0]? = (X.drop i)[0]? := by rw[p6]
     simpa [hu] using e1.symm
    have au:=nP (d:=d) (w:=u) p7 rfl;(repeat' ((first|(apply AG<;>intro hc<;>try omega)|(apply AU;omega)|(refine A8 (by assumption) ?_ rfl ?_;omega)|apply AD)<;>conv=>whnf))
    refine QE i hu (by omega) ?_;(conv=>whnf)
    (repeat' ((first|(apply AU;omega)|(apply FN;omega)|(apply B6;omega)|apply FG)<;>conv=>whnf))
    generalize ht2:u+d+c=t2 at *;refine OD i (by omega) (by omega) ?_;(conv=>whnf)
    (repeat' ((first|(apply A0;omega)|apply E4)<;>conv=>whnf))
    refine BH [] (by (conv=>whnf);exact ⟨rfl,rfl,rfl⟩) (ih (i+1) _ _ (by omega) ⟨by omega,by simpa using p2,p3.set _ (by omega),by omega,?_,?_⟩)
    ·rw[List.drop_set_of_lt (by omega)]
     have e1:(Z.drop i).drop 1=(X.drop i).drop 1:=by rw[p6]
     simpa using e1
    ·rw[FK (by omega),DK hd,DK mg,Nat.pow_succ]
     exact au
   ·obtain rfl:i=v.length:=by omega
    clear ih;obtain ⟨u,hu⟩ : ∃ u,Z[v.length]? = some u:=⟨_,zE (by omega)⟩;have nn:=p3.at hu;have mg:X[v.length]? = some u:=by
     have e1:(Z.drop v.length)[0]? = (X.drop v.length)[0]? := by rw[p6]
     simpa [hu] using e1.symm
    rw[mg]at Bo;obtain rfl:u=xw:=by simpa using Bo
    rw[CW (Nat.le_refl v.length)]at p7;have Ed:=EQ (p3.take v.length);rw[List.length_take,Nat.min_eq_left (by omega)]at Ed;rw[eX]at y3;have jb:=nN p7 y3 (by omega) Ed;rw[<-FK (show v.length<Z.length by omega),CW (by simp;omega)]at jb;(repeat' ((first|(apply AG<;>intro hc<;>try omega)|(apply AU;omega)|apply AD)<;>conv=>whnf))
    refine QE v.length hu (by omega) ?_;(conv=>whnf)
    (repeat' ((first|(apply AU;omega)|apply nE|(apply DX;omega))<;>conv=>whnf))
    refine OD v.length (by omega) (by omega) ?_;(conv=>whnf)
    (repeat' ((first|(apply H9;omega;omega)|(apply DX;omega))<;>conv=>whnf))
    exact ⟨rfl,_,rfl,jd _ _ _ (by simpa using p2) (p3.set _ (by omega)) jb y1⟩
theorem Vv (N:e5 L) (hA:A.length=j) (hW:W.length=v.length+1) (D2:AY W) (fo:AY v) (gj:2<=v.length) (vg:v.length<=549755813888) (bh:0<val v)
  (n2:4294967296^(v.length-1)*2147483648<=val v) (g2:val W<4294967296*val v)
  (hk : ∀ (W':List Nat) (o':List (List AV)) (q':Nat),W'.length=v.length+1->AY W'->val W'=val W%val v->q'=val W/val v->K (.int .u32 (q':Int)) [(71012,71012,.rw 1 ((A++W'++C).map AL)),(28,28,.rw 1 (w.map AL)),(71012,71012,.rw 1 o')])
  (jd : ∀ (W':List Nat) (o':List (List AV)) (q':Nat),W'.length=v.length+1->AY W'->val W'=val W%val v->q'=val W/val v->K (.int .u32 (q':Int)) [(71012,71012,.rw 1 ((A++W'++C).map AL)),(71012,71012,.rw 1 o'),(28,28,.rw 1 (w.map AL))]) :
  A7 L 73 [AV.row 71012 0 1 j (v.length+1),AV.sl false (List.map AL v)] (gN v j m s xl) [(71012,71012,A3.rw 1 (List.map AL (A++W++C))),(28,28,A3.rw 1 (List.map AL w))] K:=by
 obtain ⟨UL,a1,a2⟩:=dR D2 (n:=v.length+1) (by omega) (by omega);obtain ⟨VL,b5,b6⟩:=zQ fo (n:=v.length) gj (by omega);obtain ⟨u0,w0⟩ : ∃ d,W[v.length]? = some d:=⟨_,zE (by omega)⟩;obtain ⟨u1,w1⟩ : ∃ d,W[v.length-1]? = some d:=⟨_,zE (by omega)⟩;obtain ⟨u2,w2⟩ : ∃ d,W[v.length-2]? = some d:=⟨_,zE (by omega)⟩;obtain ⟨f1,x1⟩ : ∃ d,v[v.length-1]? = some d:=⟨_,zE (by omega)⟩;obtain ⟨f2,x2⟩ : ∃ d,v[v.length-2]? = some d:=⟨_,zE (by omega)⟩;rw[show v.length+1-3=v.length-2 by omega,show v.length+1-2=v.length-1 by omega,show v.length+1-1=v.length by omega,F5 w0,F5 w1,F5 w2]at a2;rw[show v.length+1-3=v.length-2 by omega]at a1;rw[F5 x1,F5 x2]at b6;have uc:=zA fo (k:=v.length-1) (by omega) n2 x1;have k0:=D2.at w0;have k1:=D2.at w1;have k2:=D2.at w2;have k3:=fo.at x1;have k4:=fo.at x2;have z1:v[((v.length:Int)-1).toNat]? = some f1:=by rw[show ((v.length:Int)-1).toNat=v.length-1 by omega];exact x1
 have z2:v[((v.length:Int)-2).toNat]? = some f2:=by rw[show ((v.length:Int)-2).toNat=v.length-2 by omega];exact x2
 refine EM 1000 N.FI rfl rfl ?_;(repeat' ((first|(apply AU;omega)|apply AQ|apply AD)<;>conv=>whnf))
 refine QE v.length w0 (by omega) ?_;(conv=>whnf)
 (repeat' ((first|(apply AU;omega)|(apply BT;omega)|(apply N9;omega)|(apply B6;omega))<;>conv=>whnf))
 refine QE (v.length-1) w1 (by omega) ?_;(conv=>whnf)
 refine mY (by omega) ?_;(conv=>whnf)
 refine PE (by omega) ?_;(conv=>whnf)
 generalize Lt:u0*4294967296+u1=top at *;have lv:top<=18446744073709551615:=by omega
 have hU:val W=UL+4294967296^(v.length-2)*(u2+4294967296*top):=by rw[a2,show u1+4294967296*u0=top by omega]
 (repeat' ((first|(apply BT;omega)|(apply XW;omega)|(apply Z5;omega;omega)|(apply B6;omega)|(refine A8 (by assumption) ?_ rfl ?_;omega))<;>conv=>whnf))
 refine ZT (λ q _=>q) (λ(q r:Nat)=>Gs (val W) (val v) f1 f2 u2 top q r) (λ q r=>[(7,.int .u64 (q:Int)),(8,.int .u64 (r:Int))]) (λ_ _=>[]) [] [] (top/f1) (top%f1) (by (conv=>whnf);exact ⟨rfl,rfl,rfl⟩) (Gs.start hU b6 a1 k2 bh (by omega) k3) ?_;intro q r g oi;have hqt:q<=top:=by
  have h3:=g.hq;have h4:q*1<=q*f1:=Nat.mul_le_mul_left q (by omega);omega
 have hr:=g.hr;have nh:=g.ge;by_cases hb:4294967296<=q
 ·obtain ⟨y1,y2,y3⟩:=g.next hU b6 a1 bh g2 (Or.inl hb)
  (repeat' ((first|(apply AG<;>intro hc<;>try omega)|(apply BT;omega)|(apply FN;omega)|(apply H9;omega;omega)|(apply B6;omega)|apply AQ|(refine A8 (by assumption) ?_ rfl ?_;omega)|apply AD)<;>conv=>whnf))
  ·obtain ⟨t1,t2⟩:=WP hU b6 b5 uc k4 g2 y2 (Or.inr (by omega))
   exact BH [] (by (conv=>whnf);exact ⟨rfl,rfl,rfl⟩) (gF (w:=w) (C:=C) hA hW D2 fo gj vg bh t1 y3 t2 hk jd)
  ·exact BH [] (by (conv=>whnf);exact ⟨rfl,rfl,rfl⟩) (oi (q-1) (r+f1) (by omega) ⟨y2,by omega,y3⟩)
 ·have hmq:=W2 (show q<4294967296 by omega) k4
  by_cases u7:r*4294967296+u2<q*f2
  ·obtain ⟨y1,y2,y3⟩:=g.next hU b6 a1 bh g2 (Or.inr u7)
   (repeat' ((first|(apply AG<;>intro hc<;>try omega)|(apply AU;omega)|(apply BT;omega)|(apply PD;omega)|(apply N9;omega)|(apply B6;omega)|(refine A8 (by assumption) ?_ rfl ?_;omega)|apply AD)<;>conv=>whnf))
   refine QE (v.length-2) w2 (by omega) ?_;(conv=>whnf)
   (repeat' ((first|(apply AG<;>intro hc<;>try omega)|(apply BT;omega)|(apply FN;omega)|(apply PE;omega)|(apply H9;omega;omega)|(apply B6;omega)|apply AQ|(refine A8 (by assumption) ?_ rfl ?_;omega))<;>conv=>whnf))
   ·obtain ⟨t1,t2⟩:=WP hU b6 b5 uc k4 g2 y2 (Or.inr (by omega))
    exact BH [] (by (conv=>whnf);exact ⟨rfl,rfl,rfl⟩) (gF (w:=w) (C:=C) hA hW D2 fo gj vg bh t1 y3 t2 hk jd)
   ·exact BH [] (by (conv=>whnf);exact ⟨rfl,rfl,rfl⟩) (oi (q-1) (r+f1) (by omega) ⟨y2,by omega,y3⟩)
  ·obtain ⟨t1,t2⟩:=WP hU b6 b5 uc k4 g2 g.hq (Or.inl ⟨by omega,by omega⟩)
   (repeat' ((first|(apply AG<;>intro hc<;>try omega)|(apply AU;omega)|(apply BT;omega)|(apply PD;omega)|(apply N9;omega)|(apply B6;omega)|(refine A8 (by assumption) ?_ rfl ?_;omega)|apply AD)<;>conv=>whnf))
   refine QE (v.length-2) w2 (by omega) ?_;(conv=>whnf)
   (repeat' ((first|(apply AG<;>intro hc<;>try omega)|(apply PE;omega)|(apply B6;omega)|apply AQ)<;>conv=>whnf))
   exact BH [] (by (conv=>whnf);exact ⟨rfl,rfl,rfl⟩) (gF (w:=w) (C:=C) hA hW D2 fo gj vg bh t1 nh t2 hk jd)
end
end Go.e8
namespace Go.e8
open F
attribute [local irreducible] AA AF AM AE C8 AX BF BD B9 B2 CX E9 B0 A5 B5 CQ AB A7 AJ pw BR BO C4 D0 DZ DU DN BZ DW
variable {L:Lib}
set_option maxHeartbeats 4000000
theorem Ah6 {V R y d t Q:Nat} (h:Q*y+R=V) (ht:t=R*4294967296+d):(t/y+4294967296*Q)*y+t%y=d+4294967296*V:=by
 have:=Nat.div_add_mod t y
 rw[<-h,Nat.add_mul];have e:t/y*y=y*(t/y):=Nat.mul_comm _ _;grind
theorem X8 (a b:List Nat):A1 (.l6 [.sl false (a.map AL),.sl false (b.map AL)]):=by
 simp only[A1,CD,and_true,true_and];exact ⟨CI a,CI b⟩
set_option maxHeartbeats 4000000 in
theorem hH (N:e5 L) (X Y:Nat) (q1 q2:Bool) (hY:Y≠0) (lx:(dg X).length<=549755813888) (ly:(dg Y).length<=549755813888):Ev L 74 [.sl q1 ((dg X).map AL),.sl q2 ((dg Y).map AL)] (.l6 [.sl false ((dg (X/Y)).map AL),.sl false ((dg (X%Y)).map AL)]):=by
 have n6:=λ q q'=>PM N (dg X) (dg Y) q q' (DI X) (DI Y) (by omega) (by omega)
 rw[BN,BN]at n6;have d1:=DI X;have d2:=DI Y;have v1:=BN X;have v2:=BN Y;have hy1:=YE hY;refine Ev.x N.LG rfl rfl ?_;by_cases m9:X<Y
 ·have hn:CS X Y = -1:=(HM (by omega)).symm
  rw[hn]at n6;(repeat' ((first|(apply AG<;>intro hc<;>try omega)|apply AD|refine AC (n6 _ _) ?_|refine AC (rB N (dg X) _ (by omega)) ?_)<;>conv=>whnf))
  refine AW ?_ (X8 _ _);rw[Nat.div_eq_of_lt m9,Nat.mod_eq_of_lt m9,EN];rfl
 have nh:0<=CS X Y:=by unfold CS;split<;>(try split)<;>omega
 have xp:=QJ (show Y<=X by omega);generalize CS X Y=cm at *;by_cases h1:(dg Y).length=1
 ·-- one digit
  obtain ⟨y0,pq⟩ : ∃ y0,dg Y=[y0]:=List.length_eq_one_iff.1 h1;have wi:Y=y0:=by rw[<-v2,pq];simp [val]
  subst wi;have yd:Y<4294967296:=d2 Y (by rw[pq];simp);have hyg:(dg Y)[0]? = some Y:=by rw[pq];rfl
  clear pq v2;generalize dg Y=y at *;generalize hx:dg X=x at *;(repeat' ((first|(apply AG<;>intro hc<;>try omega)|(apply A0;omega)|(apply BT;omega)|apply AQ|apply AD|refine AC (n6 _ _) ?_)<;>conv=>whnf))
  refine EH (enc:=AL) 0 x.length rfl (by omega) (by omega) ?_;(conv=>whnf)
  (repeat' ((first|(apply AG<;>intro hc<;>try omega)|(apply BT;omega)|apply AQ)<;>conv=>whnf))
  refine FY (λ n _ _=>n) (λ(n:Nat) (o:List Nat) (r:Nat)=>n<=x.length/\o.length=x.length/\AY o/\r<Y/\val (o.drop n)*Y+r=val (x.drop n)) (λ n o r=>[(8,.int .u64 (r:Int)),(9,.int .i64 ((n:Int)-1))]) (λ n o r=>[(28,28,.rw 1 (o.map AL))]) x.length (List.replicate x.length 0) 0 ⟨by omega,by simp,ID _,by omega,by rw[List.drop_of_length_le (Nat.le_refl _),List.drop_of_length_le (by simp)];simp [val]⟩ ?_;intro n o r ⟨p1,p2,p3,p4,p5⟩ ih;rcases n with _|n
  ·rw[List.drop_zero,List.drop_zero]at p5
   have hq:X/Y=val o/\X%Y=r:=by
    rw[<-v1,<-p5];have e1:(val o*Y+r)/Y=val o:=by
     rw[Nat.mul_comm,Nat.mul_add_div (by omega),Nat.div_eq_of_lt p4,Nat.add_zero]
    have e2:(val o*Y+r)%Y=r:=by
     rw[Nat.mul_comm,Nat.mul_add_mod,Nat.mod_eq_of_lt p4]
    exact ⟨e1,e2⟩
   rw[hq.1,hq.2,<-p2];clear ih hq p5;have mh:=EI p3;have bz:AY [r]:=GS (by omega);have gv:=EI bz;have Hn:val [r]=r:=by simp [val]
   have Oe:[r].length=1:=rfl;(repeat' ((first|(apply AG<;>intro hc<;>try omega)|(apply DX;omega)|apply AD|refine ZX N (by assumption) (by omega) rfl (by first|rfl|omega|assumption) ?_)<;>conv=>whnf))
   refine G9 (enc:=AL) (λ_=>rfl) (by omega) ?_;(conv=>whnf)
   refine G9 (enc:=AL) (l:=[r]) (λ_=>rfl) (by omega) ?_;(conv=>whnf)
   refine AW ?_ (X8 _ _);rw[List.drop_zero,List.drop_zero,ZO p3,ZO bz,Hn]
  ·have e1:((n+1:Nat):Int)-1=n:=by omega
   rw[e1];obtain ⟨d,hd⟩ : ∃ d,x[n]? = some d:=⟨_,zE (by omega)⟩;have dk:=d1.at hd;have hYb:Y<4294967296:=yd;have hR:r*4294967296+d<Y*4294967296:=by omega
   have ka:(r*4294967296+d)/Y<4294967296:=(Nat.div_lt_iff_lt_mul (by omega)).2 (by omega);(repeat' ((first|(apply AG<;>intro hc<;>try omega)|(apply AU;omega)|(apply N9;omega)|(apply PE;omega)|(apply Z5;omega;omega)|(apply B6;omega)|(apply DX;omega)|(refine A8 (by assumption) ?_ rfl ?_;omega)|apply AD)<;>conv=>whnf))
   obtain ⟨t,ht⟩ : ∃ t,t=r*4294967296+d:=⟨_,rfl⟩;rw[<-ht]at hR ka ⊢;have hm:t%Y<Y:=Nat.mod_lt _ (by omega);have m5:=Ah6 p5 ht;rw[<-GM hd]at m5;clear ht;skip
   refine EY (by omega) ?_;(conv=>whnf)
   (repeat' ((first|(apply BT;omega)|(apply XW;omega)|(apply B6;omega)|(refine A8 (by assumption) ?_ rfl ?_;omega))<;>conv=>whnf))
   generalize t/Y=tq at *;generalize t%Y=tr at *;refine BH [] (by (conv=>whnf);exact ⟨rfl,rfl,rfl⟩) (ih n _ _ (by omega) ⟨by omega,by simpa using p2,p3.set _ (by omega),hm,?_⟩);rw[GM (l:=o.set n tq) (d:=tq) (by rw[List.getElem?_set_self (by omega)]),List.drop_set_of_lt (by omega)];exact m5
 ·-- two digits or more
  have Km:2<=(dg Y).length:=by omega
  obtain ⟨yt,yf,yg⟩:=gE hY;have vh:=d2.at yf;obtain ⟨b1,b2,b3,b4⟩:=jP yg vh;have Eu:=rD N yt vh;generalize hs:32-o9 yt=s at *;have dw:s<=31:=by omega
  generalize dg Y=y at *;generalize hx:dg X=x at *;have e1:((y.length:Int)-1).toNat=y.length-1:=by omega
  rw[<-e1]at yf;obtain ⟨rv,On,v,hV,ma,Ld⟩:=Ael N y q2 s y.length d2 dw (by omega) (by omega);subst Ld;(repeat' ((first|(apply AG<;>intro hc<;>try omega)|(apply A0;omega)|(apply BT;omega)|apply AQ|apply AD|refine AC (n6 _ _) ?_)<;>conv=>whnf))
  refine EH (enc:=AL) 0 (x.length-y.length+1) rfl (by omega) (by omega) ?_;(conv=>whnf)
  (repeat' ((first|(apply AG<;>intro hc<;>try omega)|(apply A0;omega)|(apply BT;omega)|(apply B6;omega)|apply AQ|(refine A8 (by assumption) ?_ rfl ?_;omega)|refine AC (Eu) ?_)<;>conv=>whnf))
  refine EM 1000 N.I0 rfl rfl ?_;(repeat' (apply AD<;>conv=>whnf))
  refine EH (enc:=AL) 0 (x.length+1) rfl (by omega) (by omega) ?_;(conv=>whnf)
  (repeat' (apply AQ<;>conv=>whnf))
  have sj:=Y6 (s:=s) (by omega);refine FY (λ i _ _=>x.length-i) (λ(i:Nat) (o:List Nat) (lo:Nat)=>i<=x.length/\o.length=x.length+1/\AY o/\lo<2^s/\val (o.take i)+4294967296^i*lo=val (x.take i)*2^s) (λ i o lo=>[(8,.int .u32 (lo:Int)),(15,.int .i64 i)]) (λ i o lo=>[(71012,71012,.rw 1 (o.map AL))]) 0 (List.replicate (x.length+1) 0) 0 ⟨by omega,by simp,ID _,Nat.two_pow_pos s,by simp [val]⟩ ?_;intro i o lo ⟨p1,p2,p3,p4,p5⟩ ih;by_cases hi:i<x.length
  ·obtain ⟨d,hd⟩ : ∃ d,x[i]? = some d:=⟨_,zE hi⟩
   have dk:=d1.at hd;obtain ⟨f1,f2,f3,f4⟩:=VH (s:=s) dk (by omega);(repeat' ((first|(apply AG<;>intro hc<;>try omega)|(refine A8 (by assumption) ?_ rfl ?_;omega)|apply AD)<;>conv=>whnf))
   refine nH (by omega) ?_;(conv=>whnf)
   skip
   refine eC s f1 p4 (by omega) ?_;(conv=>whnf)
   (repeat' ((first|(apply AU;omega)|fail)<;>conv=>whnf))
   refine EY (by omega) ?_;(conv=>whnf)
   (repeat' ((first|(apply B6;omega)|fail)<;>conv=>whnf))
   refine PG (by omega) f4 ?_;(conv=>whnf)
   (repeat' ((first|(apply A0;omega)|apply E4|(apply DX;omega))<;>conv=>whnf))
   rw[<-VG];refine BH [] (by (conv=>whnf);exact ⟨rfl,rfl,rfl⟩) (ih (i+1) _ _ (by omega) ⟨by omega,by simpa using p2,p3.set _ (by omega),f2,?_⟩);rw[FK (by omega),DK hd,Nat.pow_succ];exact uS p5
  obtain rfl:i=x.length:=by omega
  clear ih;(repeat' ((first|(apply AG<;>intro hc<;>try omega)|(apply AU;omega)|apply AQ|apply AD)<;>conv=>whnf))
  refine EY (by omega) ?_;(conv=>whnf)
  skip
  have hU:=uR p3 (by omega) p2 p5;have tv:(o.set x.length lo).length=x.length+1:=by simpa using p2
  clear p3 p4 p5 p2;generalize o.set x.length lo=u at *;refine ⟨rfl,_,rfl,?_⟩;(conv=>whnf)
  (repeat' ((first|(apply BT;omega)|apply AQ|refine AC (On) ?_)<;>conv=>whnf))
  have Lz:y[y.length-1]? = some yt:=by rw[<-e1];exact yf
  obtain ⟨n1,n2⟩:=jK d2 Lz (by omega) dw b3 b4;have Gy:val v=Y*2^s:=by rw[<-v2];exact hV.2.2 (by rw[ma];exact n1)
  have Gv:val u=X*2^s:=by
   rw[<-v1];refine hU.2.2 ?_;have h3:=EQ d1;rw[tv,Nat.pow_succ];exact Nat.lt_of_lt_of_le (Nat.mul_lt_mul_of_pos_right h3 (Nat.two_pow_pos s)) (Nat.mul_le_mul_left _ sj)
  have fo:=hV.1;have Gt:=hU.1;have Al:=EQ fo;rw[v2,<-Gy]at n2;rw[<-ma]at n2;clear hV hU n6 On Eu;have gj:2<=v.length:=by omega
  have hvx:v.length<=x.length:=by omega
  have vg:v.length<=549755813888:=by omega
  have hxL:x.length<=549755813888:=by omega
  have hX:X<4294967296^x.length:=by rw[<-v1];exact EQ d1
  rw[<-ma];generalize hm:x.length-v.length+1=m at *;have bh:0<val v:=by
   have:=wO (v.length-1)
   omega
  have uf:val (u.drop m)<val v:=by
   have h1:=JH u m (by omega);rw[Gv]at h1;have h2:X*2^s<4294967296^x.length*2147483648:=Nat.lt_of_lt_of_le (Nat.mul_lt_mul_of_pos_right hX (Nat.two_pow_pos s)) (Nat.mul_le_mul_left _ (Nat.pow_le_pow_right (by omega) dw));have h3:4294967296^x.length=4294967296^m*4294967296^(v.length-1):=by rw[<-Nat.pow_add];congr 1;omega
   rw[h3,Nat.mul_assoc]at h2;refine Nat.lt_of_lt_of_le ?_ n2;refine Nat.lt_of_mul_lt_mul_left (a:=4294967296^m) ?_;omega
  have e2:(x.length:Int)-v.length=((m:Nat):Int)-1:=by omega
  rw[e2];refine FY (λ n _ _=>n) (λ(n:Nat) (o w:List Nat)=>n<=m/\o.length=x.length+1/\AY o/\w.length=m/\AY w/\val (o.drop n)<val v/\X*2^s=val (o.take n)+4294967296^n*(val (w.drop n)*val v+val (o.drop n))) (λ n o w=>[(14,.int .i64 ((n:Int)-1))]) (λ n o w=>[(71012,71012,.rw 1 (o.map AL)),(28,28,.rw 1 (w.map AL))]) m u (List.replicate m 0) ⟨by omega,tv,Gt,by simp,ID _,uf,by rw[<-Gv,List.drop_of_length_le (show (List.replicate m 0).length<=m by simp),H8,Nat.zero_mul,Nat.zero_add];exact JH u m (by omega)⟩ ?_;intro n o w ⟨p1,p2,p3,p4,p5,p6,p7⟩ ih;rcases n with _|j
  ·clear ih
   rw[List.drop_zero]at p6;rw[List.take_zero,List.drop_zero,List.drop_zero,H8,Nat.zero_add,Nat.pow_zero,Nat.one_mul]at p7;have pd:val o=val (o.take v.length):=by
    have h1:=VP o v.length;rcases Nat.eq_zero_or_pos (val (o.drop v.length)) with h2|h2
    ·rw[h2,Nat.mul_zero,Nat.add_zero]at h1;exact h1
    ·have h3:4294967296^v.length*1<=4294967296^v.length*val (o.drop v.length):=Nat.mul_le_mul_left _ h2
     omega
   have xf:X/Y=val w/\X%Y=val o/2^s:=by
    obtain ⟨z1,z2⟩:=qC (X:=X) (Y:=Y) (Nat.two_pow_pos s);rw[<-z1,<-z2,<-Gy,p7];have e1:(val w*val v+val o)/val v=val w:=by
     rw[Nat.mul_comm,Nat.mul_add_div bh,Nat.div_eq_of_lt p6,Nat.add_zero]
    have e2:(val w*val v+val o)%val v=val o:=by
     rw[Nat.mul_comm,Nat.mul_add_mod,Nat.mod_eq_of_lt p6]
    rw[e1,e2];exact ⟨rfl,rfl⟩
   rw[xf.1,xf.2];have mh:=EI p5;obtain ⟨ro,Fp,o2,k1,k2,k3,k4⟩:=Aem N (o.take v.length) true s (p3.take _) dw (by rw[List.length_take];omega);subst k4;rw[pd,<-k3];have gv:=EI k1;rw[List.length_take]at k2;clear p7 xf uf;(repeat' ((first|(apply AG<;>intro hc<;>try omega)|apply AD|refine ZX N (by assumption) (by omega) rfl (by first|rfl|omega|assumption) ?_)<;>conv=>whnf))
   refine GN v.length rfl (by omega) ?_;(conv=>whnf)
   refine G9 (enc:=AL) (λ_=>rfl) (by omega) ?_;(conv=>whnf)
   rw[List.drop_zero,Nat.sub_zero];(repeat' ((first|refine AC (Fp) ?_|refine JK (J5 N o2 _ k1 (by omega)) ?_)<;>conv=>whnf))
   refine G9 (enc:=AL) (λ_=>rfl) (by omega) ?_;(conv=>whnf)
   refine AW ?_ (X8 _ _);rw[List.drop_zero,ZO p5]
  ·have e3:((j+1:Nat):Int)-1=j:=by omega
   rw[e3];have e4:(v.length:Int).toNat=v.length:=by omega
   obtain ⟨A,W,C,hA,hW,rfl⟩:=qR o j (v.length+1) (by omega);obtain ⟨g1,g2,g3⟩:=qT hA hW p3 p6 Al;obtain ⟨D1,D2,D3⟩:=pY p3;have xv:val W/val v<4294967296:=(Nat.div_lt_iff_lt_mul bh).2 g2;have Ip:val W=val W/val v*val v+val W%val v:=by rw[Nat.mul_comm];exact (Nat.div_add_mod _ _).symm
   have hWl:val W%val v<val v:=Nat.mod_lt _ bh;have Aj:X*2^s=val A+4294967296^j*val W+4294967296^j*4294967296*(val (w.drop (j+1))*val v):=by
    rw[p7,Nat.mul_add,<-g3,Nat.pow_succ];omega
   have qj:=qS Aj Ip;have rm : ∀ q',q'=val W/val v->val ((w.set j q').drop j)=val W/val v+4294967296*val (w.drop (j+1)):=λ q' h=>by
    rw[GM (l:=w.set j q') (d:=q') (by rw[List.getElem?_set_self (by omega)]),List.drop_set_of_lt (by omega),h]
   have hlen : ∀ W':List Nat,W'.length=v.length+1->(A++W'++C).length=x.length+1:=λ W' h=>by
    rw[<-p2];simp [h,hW]
   (repeat' ((first|(apply AG<;>intro hc<;>try omega)|(apply A0;omega)|(apply mT;omega)|apply AD)<;>conv=>whnf))
   rw[show ((j:Int)+v.length+1).toNat-(j:Int).toNat=v.length+1 by omega,show 0+(j:Int).toNat=j by omega];refine Vv N hA hW D2 fo gj vg bh n2 g2 (λ W' o' q' z1 z2 z3 z4 => ?_) (λ W' o' q' z1 z2 z3 z4 => ?_)
   ·(conv=>whnf)
    (repeat' ((first|(apply AU;omega)|fail)<;>conv=>whnf))
    refine EY (by omega) ?_;(conv=>whnf)
    (repeat' ((first|(apply BT;omega)|fail)<;>conv=>whnf))
    obtain ⟨t1,t2⟩:=gO (A:=A) (W:=W') (C:=C) (j:=j) hA g1;refine BH [] (by (conv=>whnf);exact ⟨rfl,rfl,rfl⟩) (ih j (A++W'++C) (w.set j q') (by omega) ⟨by omega,hlen W' z1,(D1.append z2).append D3,by simpa using p4,p5.set _ (by omega),by omega,?_⟩);rw[t1,t2,rm q' z4,z3];exact qj
   ·(conv=>whnf)
    (repeat' ((first|(apply AU;omega)|fail)<;>conv=>whnf))
    refine EY (by omega) ?_;(conv=>whnf)
    (repeat' ((first|(apply BT;omega)|fail)<;>conv=>whnf))
    obtain ⟨t1,t2⟩:=gO (A:=A) (W:=W') (C:=C) (j:=j) hA g1;refine BH [] (by (conv=>whnf);exact ⟨rfl,rfl,rfl⟩) (ih j (A++W'++C) (w.set j q') (by omega) ⟨by omega,hlen W' z1,(D1.append z2).append D3,by simpa using p4,p5.set _ (by omega),by omega,?_⟩);rw[t1,t2,rm q' z4,z3];exact qj
end Go.e8

namespace Go.e8
open F
attribute [local irreducible] AA AF AM AE C8 AX BF BD B9 B2 CX E9 B0 A5 B5 CQ AB A7 AJ pw BR BO C4 D0 DZ DU DN BZ DW
set_option maxHeartbeats 4000000
variable {L:Lib}
theorem nI {k':IntKind} {a:Int} {K:AV->Prop} (hk:K (.int .i64 (a/4294967296))):AE .shr .i64 a k' 32 K:=by
 refine Qj (by omega) ?_;have:pw 32=4294967296:=by decide +kernel
 rw[this];exact hk
theorem mX {t:Int} {K:Int->Prop} (hk:K (YA t:Int)):AZ .u32 t K:=by
 refine ⟨?_⟩;rw[IntKind.wrap_u32,<-fP];exact hk
section
variable {k':IntKind} {a b:Nat} {K:AV->Prop}
theorem Qi {i:Nat} (hi:i<2) (ha:a<4294967296) (hk:K (.int .u64 ((a*4294967296^i:Nat):Int))):AE .shl .u64 (a:Int) k' (32*(i:Int)) K:=by
 rcases i with _|_|i
 ·exact PG (s:=0) (by omega) (by omega) hk
 ·exact PG (s:=32) (by omega) (by omega) hk
 ·omega
end
theorem uA {x y M N:Int} (hx : -M<=x/\x<=M) (hy : -N<=y/\y<=N) : -(M*N)<=x*y/\x*y<=M*N:=by
 have h1:x.natAbs<=M.natAbs:=by omega
 have h2:y.natAbs<=N.natAbs:=by omega
 have h3:=Nat.mul_le_mul h1 h2;rw[<-Int.natAbs_mul,<-Int.natAbs_mul]at h3;have h4:0<=M*N:=Int.mul_nonneg (by omega) (by omega);omega
theorem gY (N:e5 L) (a b:List Nat) (q1 q2:Bool) (hA:AY a) (hB:AY b) (la:a.length<=549755813888) (lb:b.length<=549755813888) (h0:val b≠0) :
  Ev L 75 [.sl q1 (a.map AL),.sl q2 (b.map AL)] (.l6 [.sl false ((dg (val a/val b)).map AL),.sl false ((dg (val a%val b)).map AL),.int .i64 0]):=by
 have l1:=EI hA;have l2:=EI hB;have hp:=YE h0;refine Ev.x N.LA rfl rfl ?_;(repeat' ((first|(apply AG<;>intro hc<;>try omega)|apply AQ|apply AD|refine JK (J5 N a _ hA (by omega)) ?_|refine JK (J5 N b _ hB (by omega)) ?_|refine AC (hH N _ _ _ _ h0 (by omega) (by omega)) ?_)<;>conv=>whnf))
 refine AW rfl ?_;simp only[A1,CD,and_true,true_and];exact ⟨CI _,CI _⟩
theorem rT (N:e5 L) (V:Nat) (q:Bool) (hl:(dg V).length<=2):Ev L 76 [.sl q ((dg V).map AL)] (.int .u64 (V:Int)):=by
 have hV:=OL.1 hl;have hD:=DI V;have hv:=BN V;refine Ev.x N.LK rfl rfl ?_;generalize dg V=l at *;(repeat' ((first|apply AQ|apply AD)<;>conv=>whnf))
 refine HG (λ i _=>l.length-i) (λ(i:Nat) (a:Nat)=>i<=l.length/\a=val (l.take i)) (λ i a=>[(3,.int .u64 (a:Int)),(8,.int .i64 i)]) (λ_ _=>[]) 0 0 ⟨by omega,rfl⟩ ?_;intro i a ⟨p1,p2⟩ ih;by_cases hi:i<l.length
 ·obtain ⟨d,hd⟩ : ∃ d,l[i]? = some d:=⟨_,zE hi⟩
  have dk:=hD.at hd;have h1:=DK hd;have h2:=EQ (hD.take i);have h3:=EQ (hD.take (i+1));rw[List.length_take,Nat.min_eq_left (by omega)]at h2 h3;have h4:4294967296^(i+1)<=4294967296^2:=Nat.pow_le_pow_right (by omega) (by omega);(repeat' ((first|(apply AG<;>intro hc<;>try omega)|(apply PC;omega)|(apply B6;omega)|(refine A8 (by assumption) ?_ rfl ?_;omega)|apply AD)<;>conv=>whnf))
  refine Qi (by omega) dk ?_;(conv=>whnf)
  rw[Nat.mul_comm d];refine Z4 (32*i) (by rw[Nat.pow_mul];exact Nat.mul_mod_right _ _) (by rw[Nat.pow_mul,p2];exact h2) (by omega) ?_;(conv=>whnf)
  (repeat' ((first|(apply A0;omega)|fail)<;>conv=>whnf))
  exact BH [] (by (conv=>whnf);exact ⟨rfl,rfl,rfl⟩) (ih (i+1) _ (by omega) ⟨by omega,by rw[h1,p2]⟩)
 ·obtain rfl:i=l.length:=by omega
  clear ih;(repeat' ((first|(apply AG<;>intro hc<;>try omega)|apply AD)<;>conv=>whnf))
  rw[CW (Nat.le_refl _)]at p2;exact CM (by omega)
theorem dW {f:Nat} {vs:List AV} {tm:Tm} {M:Mem} {K:AV->Mem->Prop} {v:AV} (h:A7 L f vs tm M (λ r M'=>r=v/\M'=M)) (hk:K v M):A7 L f vs tm M K:=by
 unfold A7 at h ⊢;intro σ own hs;obtain ⟨r,n9,σ',M',h1,h2,h3,rfl,rfl⟩:=h σ own hs;exact ⟨_,n9,σ',_,h1,h2,h3,hk⟩
theorem rS (N:e5 L) (a:List Nat) (q:Bool) (n s:Nat) (hD:AY a) (hn:3<=n) (hl:a.length<=n) (Km:n<=549755813888) (hs:s<=31) (m9:val a*2^s<4294967296^n) :
  Ev L 78 [.sl q (a.map AL),.int .i64 (n:Int),.int .u64 (s:Int)] (.int .i64 ((val a/WS n s:Nat):Int)):=by
 have b1:=QP hD (n-1);have b2:=QP hD (n-2);have b3:=QP hD (n-3);have xn:=uG hD hn hl rfl rfl m9;have heq:=uF (s:=s) hD hn hl hs rfl rfl rfl;obtain ⟨f1,f2,f3,f4⟩:=VH (s:=s) b3 (by omega);refine Ev.x N.LH rfl rfl ?_;(repeat' ((first|(apply AU;omega)|(apply BT;omega)|apply AD)<;>conv=>whnf))
 refine dW (v := .int .u64 ((a.getD (n-1) 0:Nat):Int)) ?_ ?_
 ·refine EM 1000 N.HQ rfl rfl ?_
  (repeat' ((first|(apply AG<;>intro hc<;>try omega)|(apply B6;omega)|apply AQ|(refine QF (by assumption) ?_ (λ e he hb => ?_);omega)|apply AD)<;>conv=>whnf))
  ·refine ⟨rfl,_,rfl,?_,rfl⟩
   rw[show ((n:Int)-1).toNat=n-1 by omega]at he;rw[F5 he];rfl
  ·refine ⟨rfl,_,rfl,?_,rfl⟩
   rw[<-QQ (show a.length<=n-1 by omega)];rfl
 (conv=>whnf)
 (repeat' ((first|(apply AU;omega)|(apply BT;omega)|(apply N9;omega))<;>conv=>whnf))
 refine dW (v := .int .u64 ((a.getD (n-2) 0:Nat):Int)) ?_ ?_
 ·refine EM 1000 N.HQ rfl rfl ?_
  (repeat' ((first|(apply AG<;>intro hc<;>try omega)|(apply B6;omega)|apply AQ|(refine QF (by assumption) ?_ (λ e he hb => ?_);omega)|apply AD)<;>conv=>whnf))
  ·refine ⟨rfl,_,rfl,?_,rfl⟩
   rw[show ((n:Int)-2).toNat=n-2 by omega]at he;rw[F5 he];rfl
  ·refine ⟨rfl,_,rfl,?_,rfl⟩
   rw[<-QQ (show a.length<=n-2 by omega)];rfl
 (conv=>whnf)
 generalize a.getD (n-1) 0=d1 at *;generalize a.getD (n-2) 0=d2 at *;(repeat' ((first|(apply PE;omega)|fail)<;>conv=>whnf))
 refine PG (by omega) xn ?_;(conv=>whnf)
 generalize hT:(d1*4294967296+d2)*2^s=T at *;(repeat' ((first|(apply AU;omega)|(apply BT;omega))<;>conv=>whnf))
 refine dW (v := .int .u64 ((a.getD (n-3) 0:Nat):Int)) ?_ ?_
 ·refine EM 1000 N.HQ rfl rfl ?_
  (repeat' ((first|(apply AG<;>intro hc<;>try omega)|(apply B6;omega)|apply AQ|(refine QF (by assumption) ?_ (λ e he hb => ?_);omega)|apply AD)<;>conv=>whnf))
  ·refine ⟨rfl,_,rfl,?_,rfl⟩
   rw[show ((n:Int)-3).toNat=n-3 by omega]at he;rw[F5 he];rfl
  ·refine ⟨rfl,_,rfl,?_,rfl⟩
   rw[<-QQ (show a.length<=n-3 by omega)];rfl
 (conv=>whnf)
 generalize a.getD (n-3) 0=d3 at *;skip
 refine PG (by omega) f4 ?_;(conv=>whnf)
 (repeat' (apply E4<;>conv=>whnf))
 rw[VG]at f2;refine nG s (by rw[<-hT];exact Nat.mul_mod_left _ _) f2 (by have:=cE (k:=d1*4294967296+d2) (show s<=64 by omega) (by omega);omega) ?_;(conv=>whnf)
 (repeat' ((first|apply Rq|(apply RG;omega))<;>conv=>whnf))
 rw[heq];exact CM rfl
theorem Aej (N:e5 L) (P Q:Int) (hP:0<=P/\P<=4611686018427387904) (hQ:0<=Q/\Q<=4611686018427387904) : ∃ r,Ev L 79 [.int .i64 P,.int .i64 Q] r /\ ∃ a b c d:Int,(dY a b c d/\(-2147483647<=a/\a<=2147483647)/\(-2147483647<=b/\b<=2147483647)/\(-2147483647<=c/\c<=2147483647)/\(-2147483647<=d/\d<=2147483647))/\(b≠0->XV P Q a b c d)/\r = .l6 [.int .i64 a,.int .i64 b,.int .i64 c,.int .i64 d]:=by
 refine Ev.xE N.LE rfl rfl ?_;(repeat' (apply AD<;>conv=>whnf))
 refine Rt (λ_ _ _ _ _ q=>(q+2147483648).toNat) (λ(a b c d p q:Int)=>RP P Q a b c d p q/\((-2147483647<=a/\a<=2147483647)/\(-2147483647<=b/\b<=2147483647)/\(-2147483647<=c/\c<=2147483647)/\(-2147483647<=d/\d<=2147483647))/\(p<=4611686018427387904/\q<=4611686018427387904)/\VZ P Q a b c d/\(b≠0->XV P Q a b c d)) (λ a b c d p q=>[(0,.int .i64 p),(1,.int .i64 q),(4,.int .i64 a),(5,.int .i64 b),(6,.int .i64 c),(7,.int .i64 d)]) (λ_ _ _ _ _ _=>[]) [] [] 1 0 0 1 P Q (by (conv=>whnf);exact ⟨rfl,rfl,rfl⟩) ⟨RP.start hP.1 hQ.1,by omega,by omega,VZ.start P Q,λ h=>absurd rfl h⟩ ?_;intro a b c d p q ⟨p1,⟨⟨p2,p2'⟩,⟨p3,p3'⟩,⟨p4,p4'⟩,⟨p5,p5'⟩⟩,⟨p6,p7⟩,p8,p9⟩ ih;have g1:=p1.pa;have g2:=p1.pb;have g3:=p1.qc;have g4:=p1.qd;by_cases fp:q+c=0
 ·(repeat' ((first|(apply AG<;>intro hc<;>try omega)|(apply A0;omega)|apply AD)<;>conv=>whnf))
  refine ⟨.l6 [.int .i64 a,.int .i64 b,.int .i64 c,.int .i64 d],?_,a,b,c,d,⟨p1.sg,by omega⟩,p9,rfl⟩;(conv=>whnf)
  exact AW rfl (by simp [A1,CD])
 by_cases Cm:q+d=0
 ·(repeat' ((first|(apply AG<;>intro hc<;>try omega)|(apply A0;omega)|apply AD)<;>conv=>whnf))
  refine ⟨.l6 [.int .i64 a,.int .i64 b,.int .i64 c,.int .i64 d],?_,a,b,c,d,⟨p1.sg,by omega⟩,p9,rfl⟩;(conv=>whnf)
  exact AW rfl (by simp [A1,CD])
 by_cases zf:(p+a)/(q+c)=(p+b)/(q+d)
 ·obtain ⟨s1,s2,s3,s4⟩:=p1.step fp Cm rfl zf
  have s5:=s4 p8;have s6:=s5.half;have s7:=s1.qc;by_cases kj:2147483647<(p+a)/(q+c)
  ·(repeat' ((first|(apply AG<;>intro hc<;>try omega)|(apply A0;omega)|(refine RT ?_ ?_ (λ_ => ?_) (λ_ _ => ?_);omega;omega;all_goals try omega)|apply AD)<;>conv=>whnf))
   refine ⟨.l6 [.int .i64 a,.int .i64 b,.int .i64 c,.int .i64 d],?_,a,b,c,d,⟨p1.sg,by omega⟩,p9,rfl⟩;(conv=>whnf)
   exact AW rfl (by simp [A1,CD])
  ·have t1:=uA (x:=(p+a)/(q+c)) (y:=c) (M:=2147483647) (N:=2147483647) (by omega) (by omega)
   have t2:=uA (x:=(p+a)/(q+c)) (y:=d) (M:=2147483647) (N:=2147483647) (by omega) (by omega);(repeat' ((first|(apply AG<;>intro hc<;>try omega)|(apply A0;omega)|(apply BT;omega)|(apply PC;omega)|(refine RT ?_ ?_ (λ_ => ?_) (λ_ _ => ?_);omega;omega;all_goals try omega)|(apply C8.neg;omega)|apply AD)<;>conv=>whnf))
   all_goals first
    | exact BH [] (by (conv=>whnf);exact ⟨rfl,rfl,rfl⟩) (ih _ _ _ _ _ _ (by omega) ⟨s1,by omega,by omega,s6,λ_=>s5⟩)
    |(refine ⟨.l6 [.int .i64 a,.int .i64 b,.int .i64 c,.int .i64 d],?_,a,b,c,d,⟨p1.sg,by omega⟩,p9,rfl⟩
      (conv=>whnf)
      exact AW rfl (by simp [A1,CD]))
 ·(repeat' ((first|(apply AG<;>intro hc<;>try omega)|(apply A0;omega)|(refine RT ?_ ?_ (λ_ => ?_) (λ_ _ => ?_);omega;omega;all_goals try omega)|apply AD)<;>conv=>whnf))
  refine ⟨.l6 [.int .i64 a,.int .i64 b,.int .i64 c,.int .i64 d],?_,a,b,c,d,⟨p1.sg,by omega⟩,p9,rfl⟩;(conv=>whnf)
  exact AW rfl (by simp [A1,CD])
theorem Aek (N:e5 L) (x y:List Nat) (q1 q2:Bool) (f g:Int) (hX:AY x) (hY:AY y) (hl:y.length<=x.length) (lx:x.length<=549755813888) (hs:QD f g) (R:Nat) (hR:(R:Int)=f*val x+g*val y) (Dt:R<=val x) :
  Ev L 80 [.sl q1 (x.map AL),.sl q2 (y.map AL),.int .i64 f,.int .i64 g] (.sl false ((dg R).map AL)):=by
 refine Ev.x N.LF rfl rfl ?_;(repeat' ((first|apply AQ|apply AD)<;>conv=>whnf))
 refine EH (enc:=AL) 0 x.length rfl rfl (by omega) ?_;(conv=>whnf)
 (repeat' (apply AQ<;>conv=>whnf))
 refine FY (λ i _ _=>x.length-i) (λ(i:Nat) (o:List Nat) (c:Int)=>i<=x.length/\o.length=x.length/\AY o /\ -2147483648<=c/\c<=2147483648/\(val (o.take i):Int)+((4294967296^i:Nat):Int)*c=f*val (x.take i)+g*val (y.take i)) (λ i o c=>[(10,.int .i64 c),(19,.int .i64 i)]) (λ i o c=>[(16,16,.rw 1 (o.map AL))]) 0 (List.replicate x.length 0) 0 ⟨by omega,by simp,ID _,by omega,by omega,by simp [val]⟩ ?_;intro i o c ⟨p1,p2,p3,p4,p5,p6⟩ ih;by_cases hi:i<x.length
 ·obtain ⟨d,hd⟩ : ∃ d,x[i]? = some d:=⟨_,zE hi⟩
  have dk:=hX.at hd;have h1:=DK hd;by_cases hy:i<y.length
  ·obtain ⟨e,he⟩ : ∃ e,y[i]? = some e:=⟨_,zE hy⟩
   have Jt:=hY.at he;have h2:=DK he;obtain ⟨r1,r2,r3⟩:=hs.Py dk Jt;have m5:=pA (d:=d) (e:=e) p6 rfl;(repeat' ((first|(apply AG<;>intro hc<;>try omega)|(apply A0;omega)|(apply PC;omega)|(apply RG;omega)|apply AQ|(refine A8 (by assumption) ?_ rfl ?_;omega)|apply AD)<;>conv=>whnf))
   generalize htt:f * ↑d+c+g * ↑e=t at *;refine mX ?_;(conv=>whnf)
   (repeat' ((first|(apply AU;omega)|fail)<;>conv=>whnf))
   refine EY (by omega) ?_;(conv=>whnf)
   refine nI ?_;(conv=>whnf)
   (repeat' ((first|(apply A0;omega)|fail)<;>conv=>whnf))
   refine BH [] (by (conv=>whnf);exact ⟨rfl,rfl,rfl⟩) (ih (i+1) _ _ (by omega) ⟨by omega,by simpa using p2,p3.set _ (oZ t),by omega,by omega,?_⟩);rw[FK (by omega),h1,h2,Nat.pow_succ];simp only[Int.natCast_add,Int.natCast_mul,fP];exact m5
  ·have h2:=dQ (y:=y) (i:=i) (by omega)
   obtain ⟨r1,r2,r3⟩:=hs.Py (e:=0) dk (by omega);have m5:=pA (d:=d) (e:=0) p6 rfl;rw[Int.mul_zero,Int.add_zero]at m5;have r4 : -9223372030412324865<=f*(d:Int)/\f*(d:Int)<=9223372030412324865:=r1;(repeat' ((first|(apply AG<;>intro hc<;>try omega)|(apply A0;omega)|(apply PC;omega)|(apply RG;omega)|apply AQ|(refine A8 (by assumption) ?_ rfl ?_;omega)|apply AD)<;>conv=>whnf))
   generalize htt:f * ↑d+c=t at *;refine mX ?_;(conv=>whnf)
   (repeat' ((first|(apply AU;omega)|fail)<;>conv=>whnf))
   refine EY (by omega) ?_;(conv=>whnf)
   refine nI ?_;(conv=>whnf)
   (repeat' ((first|(apply A0;omega)|fail)<;>conv=>whnf))
   refine BH [] (by (conv=>whnf);exact ⟨rfl,rfl,rfl⟩) (ih (i+1) _ _ (by omega) ⟨by omega,by simpa using p2,p3.set _ (oZ t),by omega,by omega,?_⟩);rw[FK (by omega),h1,h2,Nat.pow_succ];simp only[Int.natCast_add,Int.natCast_mul,fP];rw[Int.mul_zero,Int.add_zero]at m5;exact m5
 ·obtain rfl:i=x.length:=by omega
  clear ih;rw[CW (by omega),CW (Nat.le_refl _),CW (by omega)]at p6;have Oi:=EQ p3;have hxv:=EQ hX;rw[p2]at Oi;have Ea:val o=R:=by
   have:=Sy Oi p6 (by omega) (by omega)
   omega
  have mh:=EI p3;rw[<-p2,<-Ea];(repeat' ((first|(apply AG<;>intro hc<;>try omega)|apply AD|refine ZX N (by assumption) (by omega) rfl (by first|rfl|omega|assumption) ?_)<;>conv=>whnf))
  refine G9 (enc:=AL) (λ_=>rfl) (by omega) ?_;(conv=>whnf)
  refine AW ?_ (by simp only[A1,true_and];exact CI _);rw[List.drop_zero,ZO p3]
theorem Aen (N:e5 L) (X Y:Nat) (tz:Y<=X) (hy:3<=(dg Y).length) (lx:(dg X).length<=549755813888) : ∃ r,Ev L 81 [.sl false ((dg X).map AL),.sl false ((dg Y).map AL)] r /\ ∃ A B:Nat,(B<Y/\B<=A/\A<=X/\Nat.gcd A B=Nat.gcd X Y)/\r = .l6 [.sl false ((dg A).map AL),.sl false ((dg B).map AL)]:=by
 have hY0:Y≠0:=λ h=>by rw[h,EN]at hy;simp at hy
 have xf:X≠0:=by omega
 have hlen:=QJ tz;have hdv:=λ q q'=>hH N X Y q q' hY0 lx (by omega)
 have d1:=DI X;have d2:=DI Y;have v1:=BN X;have v2:=BN Y;obtain ⟨xt,Lx,Ly⟩:=gE xf;have Gc:=d1.at Lx;obtain ⟨b1,b2,b3,b4⟩:=jP Ly Gc;have Eu:=rD N xt Gc;generalize hs:32-o9 xt=s at *;have dw:s<=31:=by omega
 obtain ⟨n1,n2⟩:=jK d1 Lx (by omega) dw b3 b4;have jt:=λ(f g:Int) (R:Nat) (hs:QD f g) (h1:(R:Int)=f*val (dg X)+g*val (dg Y)) (h2:R<=val (dg X)) (q q':Bool)=>Aek N (dg X) (dg Y) q q' f g d1 d2 (by omega) lx hs R h1 h2
 have n3:val (dg Y)*2^s<4294967296^(dg X).length:=Nat.lt_of_le_of_lt (zR _ (by omega)) n1;have mh:=λ q=>rS N (dg X) q (dg X).length s d1 (by omega) (by omega) lx dw n1
 have gv:=λ q=>rS N (dg Y) q (dg X).length s d2 (by omega) (by omega) lx dw n3
 have hK:=Af2 (dg X).length s;obtain ⟨e1,x1,x2,x3⟩:=uI (V:=X) hK;obtain ⟨e2,y1,y2,y3⟩:=uI (V:=Y) hK;rw[v1]at mh;rw[v2]at gv;have zk:=uH d1 (n:=(dg X).length) (by omega) (by omega) dw n1;have Ct:=uH d2 (n:=(dg X).length) (by omega) (by omega) dw n3;rw[v1]at zk;rw[v2]at Ct;generalize WS (dg X).length s=K at *;generalize X/K=P at *;generalize Y/K=Q at *;rw[v1,v2]at jt;obtain ⟨rc,zl,a,b,c,d,⟨z1,z2,z3,z4,z5⟩,z6,rfl⟩:=Aej N (P:Int) (Q:Int) (by omega) (by omega);have e1:(((dg X).length:Int)-1).toNat=(dg X).length-1:=by omega
 rw[<-e1]at Lx;refine Ev.xE N.LJ rfl rfl ?_;by_cases hb:b=0
 ·(repeat' ((first|(apply AG<;>intro hc<;>try omega)|(apply BT;omega)|(apply B6;omega)|apply AQ|(refine A8 (by assumption) ?_ rfl ?_;omega)|apply AD|refine AC (Eu) ?_|refine AC (mh _) ?_|refine AC (gv _) ?_|refine AC (zl) ?_|refine AC (hdv _ _) ?_)<;>conv=>whnf))
  refine ⟨_,?_,Y,X%Y,⟨Nat.mod_lt _ (by omega),Nat.le_of_lt (Nat.mod_lt _ (by omega)),tz,YU X Y⟩,rfl⟩;(conv=>whnf)
  exact AW rfl (X8 _ _)
 ·obtain ⟨g1,g2,g3,g4⟩:=z6 hb (X:Int) (Y:Int) (K:Int) _ _ (by omega) x1 y1 x2 x3 y2 y3
  obtain ⟨A,hA⟩:=Int.eq_ofNat_of_zero_le (show 0<=a*X+b*Y by omega);obtain ⟨B,hB⟩:=Int.eq_ofNat_of_zero_le g1;have s1:QD a b:=by rcases z1 with ⟨h1,h2,h3,h4⟩|⟨h1,h2,h3,h4⟩<;>unfold QD<;>omega
  have s2:QD c d:=by rcases z1 with ⟨h1,h2,h3,h4⟩|⟨h1,h2,h3,h4⟩<;>unfold QD<;>omega
  (repeat' ((first|(apply AG<;>intro hc<;>try omega)|(apply BT;omega)|(apply B6;omega)|apply AQ|(refine A8 (by assumption) ?_ rfl ?_;omega)|apply AD|refine AC (Eu) ?_|refine AC (mh _) ?_|refine AC (gv _) ?_|refine AC (zl) ?_|refine AC (jt a b A s1 hA.symm (by omega) _ _) ?_|refine AC (jt c d B s2 hB.symm (by omega) _ _) ?_)<;>conv=>whnf))
  rw[hA,hB]at g4;rw[hA,hB]at g2;refine ⟨_,?_,A,B,⟨by omega,by omega,by omega,by simpa using g4⟩,rfl⟩;(conv=>whnf)
  exact AW rfl (X8 _ _)
theorem tD (N:e5 L) (X Y:Nat) (tz:Y<=X) (lx:(dg X).length<=549755813888) :
 AA L [It.lp F6.l1,It.e7 0,
   It.code
    ((((A9.ops F6.r6 false).dr [23,30,31] []).seq
       (A9.cond 32 (((A9.ops F6.r7 false).dr [5,6,32,33] []).seq A9.ret) A9.skip)).seq
     (((A9.ops F6.r8 false).dr [5,7,32,34,35,36,37,38,39] []).seq
      (((A9.ops F6.r9 false).dr [6,8,40,41,42,43] []).seq
       ((A9.block 2 F6.l2.loop).seq
        (((A9.ops F6.ah false).dr [9,10,45,50,51,52,53,54,55,56] []).seq A9.ret)))))]
  [(6,AV.sl false (List.map AL (dg Y))),(5,AV.sl false (List.map AL (dg X)))] []
  (OA F6 (AV.sl false (List.map AL (dg (X.gcd Y))))):=by
 refine HG (λ_ y=>y) (λ(x y:Nat)=>y<=x/\(dg x).length<=549755813888/\Nat.gcd x y=Nat.gcd X Y) (λ x y=>[(6,AV.sl false (List.map AL (dg y))),(5,AV.sl false (List.map AL (dg x)))]) (λ_ _=>[]) X Y ⟨tz,lx,rfl⟩ ?_;intro x y ⟨p1,p2,p3⟩ ih;rw[<-p3]at ih ⊢;generalize Nat.gcd X Y=G at *;clear tz lx;subst p3;have hlen:=QJ p1;by_cases h3:3<=(dg y).length
 ·obtain ⟨r,hr,A,B,⟨k1,k2,k3,k4⟩,rfl⟩:=Aen N x y p1 h3 p2
  have k5:=QJ k3;(repeat' ((first|(apply AG<;>intro hc<;>try omega)|apply AQ|apply AD|refine AC (hr) ?_)<;>conv=>whnf))
  exact BQ [] (ih A B k1 ⟨k2,by omega,k4⟩)
 ·clear ih
  by_cases h0:y=0
  ·subst h0
   have jv:(dg 0).length=0:=by rw[EN];rfl
   (repeat' ((first|(apply AG<;>intro hc<;>try omega)|apply AQ|apply AD)<;>conv=>whnf))
   rw[Nat.gcd_zero_right];exact AW rfl (by simp only[A1,true_and];exact CI _)
  ·have hp:=YE h0
   have hm:=QJ (Nat.le_of_lt (Nat.mod_lt x (show y>0 by omega)));have hd:=λ q q'=>hH N x y q q' h0 p2 (by omega)
   have Hl:=λ q=>rT N y q (by omega)
   have Bh:=λ q=>rT N (x%y) q (by omega)
   have hb:y<18446744073709551616:=OL.1 (show (dg y).length<=2 by omega);have jn:x%y<y:=Nat.mod_lt _ (by omega);rw[<-YU x y];(repeat' ((first|(apply AG<;>intro hc<;>try omega)|apply AQ|apply AD|refine AC (hd _ _) ?_|refine AC (Hl _) ?_|refine AC (Bh _) ?_)<;>conv=>whnf))
   refine ZT (λ_ q=>q) (λ(p q:Nat)=>p<18446744073709551616/\q<18446744073709551616/\Nat.gcd p q=Nat.gcd y (x%y)) (λ p q=>[(9,.int .u64 (p:Int)),(10,.int .u64 (q:Int))]) (λ_ _=>[]) [] [] y (x%y) (by (conv=>whnf);exact ⟨rfl,rfl,rfl⟩) ⟨hb,by omega,rfl⟩ ?_;intro p q ⟨g1,g2,g3⟩ ih;rw[<-g3]at ih ⊢;by_cases hq:q=0
   ·subst hq
    clear ih;obtain ⟨v1,v2⟩:=gB g1;rw[Nat.gcd_zero_right];have mh:=EI v2;have ht:=ZO v2;rw[v1]at mh ht;(repeat' ((first|(apply AG<;>intro hc<;>try omega)|apply E4|(apply DX;omega)|apply FG|apply AD)<;>conv=>whnf))
    generalize p%4294967296=lo at *;generalize p/4294967296=hi at *;refine ZX N v2 (by simp) rfl rfl ?_;rw[v1];(conv=>whnf)
    skip
    refine G9 (enc:=AL) (l:=[lo,hi]) (λ_=>rfl) (by omega) ?_;(conv=>whnf)
    refine AW ?_ (by simp only[A1,true_and];exact CI _);rw[List.drop_zero,ht]
   ·have hpq:p%q<q:=Nat.mod_lt _ (by omega)
    (repeat' ((first|(apply AG<;>intro hc<;>try omega)|(apply XW;omega)|apply AD)<;>conv=>whnf))
    exact BQ [] (ih q (p%q) hpq ⟨g2,by omega,YU p q⟩)
theorem Aei (N:e5 L) (a b:List Nat) (q1 q2:Bool) (hA:AY a) (hB:AY b) (la:a.length<=549755813888) (lb:b.length<=549755813888) :
  Ev L 82 [.sl q1 (a.map AL),.sl q2 (b.map AL)] (.sl false ((dg (Nat.gcd (val a) (val b))).map AL)):=by
 have t1:=λ q=>YI N a q hA (by omega)
 have t2:=λ q=>YI N b q hB (by omega)
 have l1:=EI hA;have l2:=EI hB;have n6:=λ q q'=>PM N (dg (val a)) (dg (val b)) q q' (DI _) (DI _) (by omega) (by omega)
 rw[BN,BN]at n6;generalize val a=X at *;generalize val b=Y at *;refine Ev.x N.F6 rfl rfl ?_;by_cases m9:X<Y
 ·have hn:CS X Y = -1:=(HM (by omega)).symm
  rw[hn]at n6;(repeat' ((first|(apply AG<;>intro hc<;>try omega)|apply AD|refine AC (t1 _) ?_|refine AC (t2 _) ?_|refine AC (n6 _ _) ?_)<;>conv=>whnf))
  rw[Nat.gcd_comm];exact BH [] (by (conv=>whnf);exact ⟨rfl,rfl,rfl⟩) (tD N Y X (by omega) (by omega))
 ·have nh:0<=CS X Y:=by unfold CS;split<;>(try split)<;>omega
  generalize CS X Y=cm at *;(repeat' ((first|(apply AG<;>intro hc<;>try omega)|apply AD|refine AC (t1 _) ?_|refine AC (t2 _) ?_|refine AC (n6 _ _) ?_)<;>conv=>whnf))
  exact BH [] (by (conv=>whnf);exact ⟨rfl,rfl,rfl⟩) (tD N X Y (by omega) (by omega))
end Go.e8

namespace Go.e8
open F
attribute [local irreducible] AA AF AM AE C8 AX BF BD B9 B2 CX E9 B0 A5 B5 CQ AB A7 AJ pw BR BO C4 D0 DZ DU DN BZ DW
variable {L:Lib}
set_option maxHeartbeats 4000000
theorem Ri {k:Nat} {K:Int->Prop} (h:0<k/\k<=9223372036854775808) (hk:K ((18446744073709551616-k:Nat):Int)):AZ .u64 (-(k:Int)) K:=by
 refine ⟨?_⟩;have e:IntKind.u64.wrap (-(k:Int))=((18446744073709551616-k:Nat):Int):=by
  simp [IntKind.wrap,IntKind.bits,IntKind.signed];omega
 rw[e];exact hk
theorem C8.Gk {k:Nat} {K:AV->Prop} (h:0<k/\k<=9223372036854775808) (hk:K (.int .u64 (k:Int))):C8 .neg .u64 ((18446744073709551616-k:Nat):Int) K:=by
 refine C8.go (v := .int .u64 (IntKind.u64.wrap (0-((18446744073709551616-k:Nat):Int)))) rfl ?_;have e:IntKind.u64.wrap (0-((18446744073709551616-k:Nat):Int))=(k:Int):=by
  simp [IntKind.wrap,IntKind.bits,IntKind.signed];omega
 rw[e];exact hk
theorem Aea (N:b8 L) (z:Int) (hz : -9223372036854775808<=z/\z<=9223372036854775807):Ev L 85 [.int .i64 z] (.agg (eZ z)):=by
 have two : ∀ k:Nat,k<18446744073709551616 -> ∀ q,Ev L 66 [.sl q [[.int .u32 ((k%4294967296:Nat):Int)],[.int .u32 ((k/4294967296:Nat):Int)]]] (.sl false ((dg k).map AL)):=λ k hk q=>by
  have:=YI N.toe5 [k%4294967296,k/4294967296] q (gB hk).2 (by simp)
  rw[zU hk]at this;exact this
 refine Ev.x N.KO rfl rfl ?_;by_cases h0:0<=z
 ·obtain ⟨k,rfl⟩:=Int.eq_ofNat_of_zero_le h0
  have hT:=two k (by omega);have z1:=HO k;(repeat' ((first|(apply AG<;>intro hc<;>try omega)|apply E4|(apply B6;omega)|(apply DX;omega)|apply FG|refine XZ rfl rfl ?_|apply AD)<;>conv=>whnf))
  generalize k%4294967296=lo at *;generalize k/4294967296=hi at *;(repeat' (refine AC (hT _) ?_<;>conv=>whnf))
  refine E8 1000 N.CY rfl rfl ?_;(repeat' (apply AD<;>conv=>whnf))
  all_goals (refine ⟨rfl,?_⟩;(conv=>whnf);skip)
  exact AW (EF (by omega) (FW (by omega))) (C5 _)
 ·obtain ⟨k,hk⟩:=Int.eq_ofNat_of_zero_le (show 0 <= -z by omega)
  obtain rfl:z = -(k:Int):=by omega
  have hT:=two k (by omega);have z1:=HO k;(repeat' (apply AD<;>conv=>whnf))
  refine Ri (by omega) ?_;(conv=>whnf)
  (repeat' ((first|(apply AG<;>intro hc<;>try omega)|fail)<;>conv=>whnf))
  refine C8.Gk (by omega) ?_;(conv=>whnf)
  (repeat' ((first|(apply AG<;>intro hc<;>try omega)|apply E4|(apply DX;omega)|apply FG|refine XZ rfl rfl ?_)<;>conv=>whnf))
  generalize k%4294967296=lo at *;generalize k/4294967296=hi at *;(repeat' (refine AC (hT _) ?_<;>conv=>whnf))
  refine E8 1000 N.CY rfl rfl ?_;(repeat' ((first|(apply AG<;>intro hc<;>try omega)|apply AQ|apply AD)<;>conv=>whnf))
  all_goals (refine ⟨rfl,?_⟩;(conv=>whnf);skip)
  exact AW (EF (by omega) (NG (by omega))) (C5 _)
theorem rN (N:b8 L) (n q:Bool) (m:List Nat) (hm:Sm 549755813888 m):Ev L 84 [.agg (rZ q n m)] (.agg (eZ (zv n m))):=by
 have hT:=λ q=>YI N.toe5 m q hm.1 (by have:=hm.2;omega)
 have hz:=HO (val m);have ha:=EL n m;refine Ev.x N.KQ rfl rfl ?_;cases n
 ·rw[D8]at *
  (repeat' ((first|apply AD|refine AC (hT _) ?_)<;>conv=>whnf))
  refine E8 1000 N.CY rfl rfl ?_;(repeat' (apply AD<;>conv=>whnf))
  all_goals (refine ⟨rfl,?_⟩;(conv=>whnf);skip)
  exact AW (EF ha.symm (FW (by omega))) (C5 _)
 ·rw[PA]at *
  (repeat' ((first|apply AD|refine AC (hT _) ?_)<;>conv=>whnf))
  refine E8 1000 N.CY rfl rfl ?_;(repeat' ((first|(apply AG<;>intro hc<;>try omega)|apply AQ|apply AD)<;>conv=>whnf))
  all_goals (refine ⟨rfl,?_⟩;(conv=>whnf);skip)
  ·exact AW (EF ha.symm (NG (by omega))) (C5 _)
  ·exact AW (EF ha.symm (FW (by omega))) (C5 _)
theorem bE (N:b8 L) (n q:Bool) (m:List Nat) (hm:Sm 549755813888 m):Ev L 86 [.agg (rZ q n m)] (.int .i64 (y7 (zv n m))):=by
 have n6:=λ q q'=>PM N.toe5 m [] q q' hm.1 WB (by have:=hm.2;omega) (by simp)
 rw[H8]at n6;refine Ev.x N.KP rfl rfl ?_;by_cases h0:val m=0
 ·have hn:CS (val m) (0:Nat)=0:=(SX (by omega)).symm
  rw[hn]at n6;(repeat' ((first|(apply AG<;>intro hc<;>try omega)|apply AD|refine AC (n6 _ _) ?_)<;>conv=>whnf))
  exact CM (dE (by have:=EL n m;omega))
 ·have hn:CS (val m) (0:Nat)=1:=(OK (by omega)).symm
  rw[hn]at n6;cases n
  ·(repeat' ((first|(apply AG<;>intro hc<;>try omega)|apply AD|refine AC (n6 _ _) ?_)<;>conv=>whnf))
   exact CM (lC (by rw[D8];omega))
  ·(repeat' ((first|(apply AG<;>intro hc<;>try omega)|apply AD|refine AC (n6 _ _) ?_)<;>conv=>whnf))
   exact CM (kZ (by rw[PA];omega))
theorem rL (N:b8 L) (n1 n2 q1 q2:Bool) (a b:List Nat) (ha:Sm 549755813888 a) (hb:Sm 549755813888 b):Ev L 87 [.agg (rZ q1 n1 a),.agg (rZ q2 n2 b)] (.agg (eZ (zv n1 a+zv n2 b))):=by
 have la:=ha.2;have lb:=hb.2;have h1:=λ q q'=>Aeh N.toe5 a b q q' ha.1 hb.1 (by omega) (by omega)
 have h2:=λ q q'=>rR N.toe5 a b q q' ha.1 hb.1 (by omega) (by omega)
 have h3:=λ q q'=>rR N.toe5 b a q q' hb.1 ha.1 (by omega) (by omega)
 have n6:=λ q q'=>PM N.toe5 a b q q' ha.1 hb.1 (by omega) (by omega)
 have z1:=HO (val a+val b);have z2:=HO (val a-val b);have z3:=HO (val b-val a);refine Ev.x N.KJ rfl rfl ?_;by_cases m9:val a<val b
 ·have hn:CS (val a) (val b) = -1:=(HM (by omega)).symm
  rw[hn]at n6;cases n1<;>cases n2<;>simp only[D8,PA]
  ·(repeat' ((first|apply AD|refine AC (h1 _ _) ?_)<;>conv=>whnf))
   refine E8 1000 N.CY rfl rfl ?_;(repeat' (apply AD<;>conv=>whnf))
   all_goals (refine ⟨rfl,?_⟩;(conv=>whnf);skip)
   exact AW (EF (by omega) (FW (by omega))) (C5 _)
  ·(repeat' ((first|(apply AG<;>intro hc<;>try omega)|apply AD|refine AC (h3 _ _) ?_|refine AC (n6 _ _) ?_)<;>conv=>whnf))
   refine E8 1000 N.CY rfl rfl ?_;(repeat' ((first|(apply AG<;>intro hc<;>try omega)|apply AQ|apply AD)<;>conv=>whnf))
   all_goals (refine ⟨rfl,?_⟩;(conv=>whnf);skip)
   ·exact AW (EF (by omega) (NG (by omega))) (C5 _)
  ·(repeat' ((first|(apply AG<;>intro hc<;>try omega)|apply AD|refine AC (h3 _ _) ?_|refine AC (n6 _ _) ?_)<;>conv=>whnf))
   refine E8 1000 N.CY rfl rfl ?_;(repeat' (apply AD<;>conv=>whnf))
   all_goals (refine ⟨rfl,?_⟩;(conv=>whnf);skip)
   ·exact AW (EF (by omega) (FW (by omega))) (C5 _)
  ·(repeat' ((first|apply AD|refine AC (h1 _ _) ?_)<;>conv=>whnf))
   refine E8 1000 N.CY rfl rfl ?_;(repeat' ((first|(apply AG<;>intro hc<;>try omega)|apply AQ|apply AD)<;>conv=>whnf))
   all_goals (refine ⟨rfl,?_⟩;(conv=>whnf);skip)
   ·exact AW (EF (by omega) (NG (by omega))) (C5 _)
 ·have hn:CS (val a) (val b) ≠ -1:=by unfold CS;split<;>(try split)<;>omega
  generalize CS (val a) (val b)=cm at *;cases n1<;>cases n2<;>simp only[D8,PA]
  ·(repeat' ((first|apply AD|refine AC (h1 _ _) ?_)<;>conv=>whnf))
   refine E8 1000 N.CY rfl rfl ?_;(repeat' (apply AD<;>conv=>whnf))
   all_goals (refine ⟨rfl,?_⟩;(conv=>whnf);skip)
   exact AW (EF (by omega) (FW (by omega))) (C5 _)
  ·(repeat' ((first|(apply AG<;>intro hc<;>try omega)|apply AD|refine AC (h2 _ _) ?_|refine AC (n6 _ _) ?_)<;>conv=>whnf))
   refine E8 1000 N.CY rfl rfl ?_;(repeat' (apply AD<;>conv=>whnf))
   all_goals (refine ⟨rfl,?_⟩;(conv=>whnf);skip)
   exact AW (EF (by omega) (FW (by omega))) (C5 _)
  ·(repeat' ((first|(apply AG<;>intro hc<;>try omega)|apply AD|refine AC (h2 _ _) ?_|refine AC (n6 _ _) ?_)<;>conv=>whnf))
   refine E8 1000 N.CY rfl rfl ?_;(repeat' ((first|(apply AG<;>intro hc<;>try omega)|apply AQ|apply AD)<;>conv=>whnf))
   all_goals (refine ⟨rfl,?_⟩;(conv=>whnf);skip)
   ·exact AW (EF (by omega) (NG (by omega))) (C5 _)
   ·exact AW (EF (by omega) (FW (by omega))) (C5 _)
  ·(repeat' ((first|apply AD|refine AC (h1 _ _) ?_)<;>conv=>whnf))
   refine E8 1000 N.CY rfl rfl ?_;(repeat' ((first|(apply AG<;>intro hc<;>try omega)|apply AQ|apply AD)<;>conv=>whnf))
   all_goals (refine ⟨rfl,?_⟩;(conv=>whnf);skip)
   ·exact AW (EF (by omega) (NG (by omega))) (C5 _)
   ·exact AW (EF (by omega) (FW (by omega))) (C5 _)
theorem T3 (N:b8 L) (n1 n2 q1 q2:Bool) (a b:List Nat) (ha:AY a) (hb:AY b) (hl:a.length+b.length<=1099511627776):Ev L 88 [.agg (rZ q1 n1 a),.agg (rZ q2 n2 b)] (.agg (eZ (zv n1 a*zv n2 b))):=by
 have h1:=λ q q'=>gZ N.toe5 a b q q' ha hb hl
 have z1:=HO (val a*val b);have Iw:(zv n1 a*zv n2 b).natAbs=val a*val b:=by rw[Int.natAbs_mul,EL,EL]
 refine Ev.x N.KM rfl rfl ?_;have e:zv n1 a*zv n2 b=bif n1 == n2 then ((val a*val b:Nat):Int) else -((val a*val b:Nat):Int):=by
  cases n1<;>cases n2<;>simp [D8,PA,Int.mul_neg,Int.neg_mul]
 rw[e]at Iw ⊢;generalize val a*val b=V at *;cases n1<;>cases n2<;>simp only[beq_self_eq_true,cond_true,show (false == true)=false from rfl,show (true == false)=false from rfl,cond_false]
 ·(repeat' ((first|apply AD|refine AC (h1 _ _) ?_)<;>conv=>whnf))
  refine E8 1000 N.CY rfl rfl ?_;(repeat' (apply AD<;>conv=>whnf))
  all_goals (refine ⟨rfl,?_⟩;(conv=>whnf);skip)
  exact AW (EF (by omega) (FW (by omega))) (C5 _)
 ·(repeat' ((first|apply AD|refine AC (h1 _ _) ?_)<;>conv=>whnf))
  refine E8 1000 N.CY rfl rfl ?_;(repeat' ((first|(apply AG<;>intro hc<;>try omega)|apply AQ|apply AD)<;>conv=>whnf))
  all_goals (refine ⟨rfl,?_⟩;(conv=>whnf);skip)
  ·exact AW (EF (by omega) (NG (by omega))) (C5 _)
  ·exact AW (EF (by omega) (FW (by omega))) (C5 _)
 ·(repeat' ((first|apply AD|refine AC (h1 _ _) ?_)<;>conv=>whnf))
  refine E8 1000 N.CY rfl rfl ?_;(repeat' ((first|(apply AG<;>intro hc<;>try omega)|apply AQ|apply AD)<;>conv=>whnf))
  all_goals (refine ⟨rfl,?_⟩;(conv=>whnf);skip)
  ·exact AW (EF (by omega) (NG (by omega))) (C5 _)
  ·exact AW (EF (by omega) (FW (by omega))) (C5 _)
 ·(repeat' ((first|apply AD|refine AC (h1 _ _) ?_)<;>conv=>whnf))
  refine E8 1000 N.CY rfl rfl ?_;(repeat' (apply AD<;>conv=>whnf))
  all_goals (refine ⟨rfl,?_⟩;(conv=>whnf);skip)
  exact AW (EF (by omega) (FW (by omega))) (C5 _)
theorem gD:dg 1=[1]:=by rw[IC (by omega)];simp [EN]
theorem Aed (N:b8 L) (V:Nat) (q:Bool):Ev L 90 [.sl q ((dg V).map AL)] (.bool (decide (V=1))):=by
 have hv:=BN V;have hD:=DI V;have h1:V=1->dg V=[1]:=λ h=>by rw[h,gD]
 generalize dg V=l at *;refine Ev.x N.LZ rfl rfl ?_;by_cases hl:l.length=1
 ·obtain ⟨d,rfl⟩:=List.length_eq_one_iff.1 hl
  have e:V=d:=by rw[<-hv];simp [val]
  subst e;have hd:[V][(0:Int).toNat]? = some V:=rfl;(repeat' ((first|(apply AG<;>intro hc<;>try omega)|apply AQ|(refine A8 (by assumption) ?_ rfl ?_;omega)|apply AD)<;>conv=>whnf))
  ·exact XT (by omega)
  ·exact RN (by omega)
 ·(repeat' ((first|(apply AG<;>intro hc<;>try omega)|apply AQ|apply AD)<;>conv=>whnf))
  exact RN (λ h=>by rw[h1 h]at hl;simp at hl)
theorem YJ (N:b8 L) (n q1 q2:Bool) (m d:List Nat) (hm:Sm 549755813888 m) (hd:Sm 549755813888 d) (h0:val d≠0):Ev L 94 [.agg (rQ q1 q2 n m d)] (.agg (eQ (qv n m d))):=by
 have Ca:=λ q q'=>gY N.toe5 m d q q' hm.1 hd.1 hm.2 hd.2 h0
 have Hr:=EL n m;have sq:Sm 549755813888 (dg (val m/val d)):=hm.low (Nat.div_le_self _ _);have sr:Sm 549755813888 (dg (val m%val d)):=hd.low (Nat.le_of_lt (Nat.mod_lt _ (by omega)));have hT:=λ q=>rN N n q _ sq
 have hG:=λ q q'=>Aei N.toe5 d (dg (val m%val d)) q q' hd.1 sr.1 hd.2 sr.2
 rw[BN,show Nat.gcd (val d) (val m%val d)=Nat.gcd (val d) (zv n m).natAbs by rw[Hr,YU,Nat.gcd_comm]]at hG;have Ka:=tE (zv n m).natAbs h0;have Co:=Nat.gcd_le_left (zv n m).natAbs (show 0<val d by omega);have hz:=HO (val m%val d);obtain ⟨e1,e2,e3⟩:=jW (z:=zv n m) h0;unfold qv;generalize hGG:Nat.gcd (val d) (zv n m).natAbs=g at *;have h1:=λ q=>Aed N g q
 refine Ev.x N.L1 rfl rfl ?_;by_cases s8:val m%val d=0
 ·(repeat' ((first|(apply AG<;>intro hc<;>try omega)|apply AQ|apply AD|refine AC (Ca _ _) ?_|refine AC (hT _) ?_)<;>conv=>whnf))
  refine E8 1000 N.GY rfl rfl ?_;(repeat' (apply AD<;>conv=>whnf))
  refine ⟨rfl,?_⟩;(conv=>whnf)
  (repeat' (refine G7 rfl ?_<;>conv=>whnf))
  have nh:g=val d:=by
   rw[<-hGG,Hr];exact Nat.gcd_eq_left (Nat.dvd_of_mod_eq_zero s8)
  have hv:=BN (val m/val d);refine AW ?_ ?_
  ·show _=AV.agg (rQ _ _ _ _ _)
   rw[e1,e2,e3,Hr,nh,Nat.div_self (by omega),EL,hv,gD];have hs:decide (zv n (dg (val m/val d))<0)=decide (zv n m<0):=by
    cases n
    ·rw[D8,D8];simp;omega
    ·rw[PA,PA,hv]
     congr 1;rw[eq_iff_iff];have h5:=Nat.div_add_mod (val m) (val d);rw[s8,Nat.add_zero]at h5;constructor
     ·intro h6
      have h7:val m/val d≠0:=by omega
      have:val m≠0:=λ h8=>h7 (by rw[h8,Nat.zero_div])
      omega
     ·intro h6
      have h7:val m/val d≠0:=λ h8=>by rw[h8,Nat.mul_zero]at h5;omega
      omega
   rw[hs];rfl
  ·exact D9 _
 ·by_cases Ay:g=1
  ·have yx:=λ q=>rN N n q m hm
   have re:=λ q=>YI N.toe5 d q hd.1 (by have:=hd.2;omega)
   (repeat' ((first|(apply AG<;>intro hc<;>try omega)|apply AQ|apply AD|refine AC (Ca _ _) ?_|refine AC (hG _ _) ?_|refine mV (h1 _) (λ hf => ?_) (λ hf => ?_)|refine AC (yx _) ?_|refine AC (re _) ?_)<;>conv=>whnf))
   ·refine AW ?_ (aL _ _ _)
    show _=AV.agg (rQ _ _ _ _ _);rw[e1,e2,e3,Ay,Nat.div_one,Nat.div_one]
   ·exact absurd Ay hf
  ·have sg:Sm 549755813888 (dg g):=hd.low Co
   have tn:=λ q q'=>gY N.toe5 m (dg g) q q' hm.1 sg.1 hm.2 sg.2 (by rw[BN];omega)
   have tt:=λ q q'=>gY N.toe5 d (dg g) q q' hd.1 sg.1 hd.2 sg.2 (by rw[BN];omega)
   rw[BN]at tn tt;(repeat' ((first|(apply AG<;>intro hc<;>try omega)|apply AQ|apply AD|refine AC (Ca _ _) ?_|refine AC (hG _ _) ?_|refine mV (h1 _) (λ hf => ?_) (λ hf => ?_)|refine AC (tn _ _) ?_|refine AC (tt _ _) ?_)<;>conv=>whnf))
   ·exact absurd hf Ay
   ·refine AW ?_ (aL _ _ _)
    show _=AV.agg (rQ _ _ _ _ _);rw[e1,e2,e3,Hr];have hs:n=decide (zv n m<0):=by
     have:val m≠0:=λ h=>s8 (by rw[h,Nat.zero_mod])
     cases n
     ·exact FW (by rw[D8];omega)
     ·exact NG (by rw[PA];omega)
    rw[<-hs]
theorem WI (N:b8 L) (m:List Nat):Ev L 91 [.sl false (m.map AL)] (.agg [.bool false,.sl false (m.map AL)]):=by
 refine Ev.x N.L0 rfl rfl ?_;(repeat' (apply AD<;>conv=>whnf))
 exact AW rfl (Ss _ _)
def Qn (n:Bool) (m d:List Nat) (n':Bool) (m' d':List Nat) (w:Bool) (k:Nat):Prop:=Sm k m'/\Sm k d'/\val d'≠0/\(w=true->val d'=1)/\qv n m d=mkRat (zv n' m') (val d')
theorem OP (N:b8 L) (n:Bool) (m d:List Nat) (k:Nat) (hk:1<=k/\k<=549755813888) (hm:Sm k m) (hd:Sm k d) : ∃ n' m' d' w,Ev L 89 [.agg (rQ false false n m d)] (.agg [.bool n',.sl false (m'.map AL),.sl false (d'.map AL),.bool w])/\Qn n m d n' m' d' w k:=by
 have n6:=λ q q'=>PM N.toe5 d [] q q' hd.1 WB (by have:=hd.2;omega) (by simp)
 rw[H8]at n6;by_cases h1:d=[1]
 ·subst h1
  refine ⟨n,m,[1],true,?_,hm,hd,by decide,λ_=>rfl,rfl⟩;refine Ev.x N.HW rfl rfl ?_;have hd:[1][(0:Int).toNat]? = some 1:=rfl;have xp:([1]:List Nat).length=1:=rfl;(repeat' ((first|(apply AG<;>intro hc<;>try omega)|apply AQ|(refine A8 (by assumption) ?_ rfl ?_;omega)|apply AD)<;>conv=>whnf))
  exact AW rfl (X7 _ _ _ _)
 have m8 : ∀ x,d[(0:Int).toNat]? = some x->(d.length:Int)=1->(x:Int)≠1:=λ x hx hl h=>by
  obtain ⟨y,rfl⟩:=List.length_eq_one_iff.1 (show d.length=1 by omega);simp at hx;apply h1;congr 1;omega
 by_cases h0:val d=0
 ·refine ⟨false,[],[1],true,?_,XF _,lH hk.1 (by omega),by decide,λ_=>rfl,by unfold qv;rw[h0,Rat.mkRat_zero,Ml,Rat.zero_mkRat]⟩
  have hn:CS (val d) (0:Nat)=0:=(SX (by omega)).symm;rw[hn]at n6;refine Ev.x N.HW rfl rfl ?_;have hD:=hd.1;(repeat' ((first|(apply AG<;>intro hc<;>try omega)|apply AQ|(refine QF (by assumption) ?_ (λ e he hb => ?_);omega)|refine G7 rfl ?_|apply AD|refine AC (n6 _ _) ?_)<;>conv=>whnf))
  all_goals first
   | exact AW rfl (X7 _ _ _ _)
   | exact AW rfl (X7 false true [] [1])
   | exact absurd (by assumption) (m8 _ he (by assumption))
 ·refine ⟨n,m,d,false,?_,hm,hd,h0,(λ h=>by cases h),rfl⟩
  have hn:CS (val d) (0:Nat)=1:=(OK (by omega)).symm;rw[hn]at n6;have hD:=hd.1;refine Ev.x N.HW rfl rfl ?_;(repeat' ((first|(apply AG<;>intro hc<;>try omega)|apply AQ|(refine QF (by assumption) ?_ (λ e he hb => ?_);omega)|apply AD|refine AC (n6 _ _) ?_)<;>conv=>whnf))
  all_goals first
   | exact AW rfl (X7 _ _ _ _)
   | exact AW rfl (X7 false true [] [1])
   | exact absurd (by assumption) (m8 _ he (by assumption))
theorem sG (N:b8 L) (n q1 q2:Bool) (m d:List Nat) (hm:Sm 549755813888 m) (hd:Sm 549755813888 d):Ev L 95 [.agg (rQ q1 q2 n m d)] (.agg (eQ (qv n m d))):=by
 obtain ⟨n',m',d',w,hr,s1,s2,s3,s4,s5⟩:=OP N n m d 549755813888 (by omega) hm hd;have hl:=λ q1 q2=>YJ N n' q1 q2 m' d' s1 s2 s3
 rw[s5];unfold qv at hl;refine Ev.x N.LX rfl rfl ?_;(repeat' ((first|apply GE|apply AD|refine AC (hr) ?_|refine AC (hl _ _) ?_)<;>conv=>whnf))
 exact AW rfl (D9 _)
theorem AeI (N:b8 L) (n q1 q2:Bool) (m d:List Nat) (hm:Sm 549755813888 m) (hd:Sm 549755813888 d):Ev L 97 [.agg (rQ q1 q2 n m d)] (.int .i64 (y7 (qv n m d).num)):=by
 obtain ⟨n',m',d',w,hr,s1,s2,s3,s4,s5⟩:=OP N n m d 549755813888 (by omega) hm hd;have hl:=λ q=>bE N n' q m' s1
 rw[s5,vG s3];refine Ev.x N.LV rfl rfl ?_;(repeat' ((first|apply GE|apply AD|refine AC (hr) ?_|refine AC (hl _) ?_)<;>conv=>whnf))
 exact CM rfl
theorem eK (z:Int):AV.agg [.bool (decide (z<0)),.sl false ((dg z.natAbs).map AL),.sl false [[.int .u32 1]]] = .agg (eQ (z:Rat)):=by
 show _=AV.agg (rQ _ _ _ _ _);rw[Rat.num_intCast,Rat.den_intCast,gD];rfl
theorem PO (N:b8 L) (z:Int) (hz : -9223372036854775808<=z/\z<=9223372036854775807):Ev L 96 [.int .i64 z] (.agg (eQ (z:Rat))):=by
 have h1:=Aea N z hz;refine Ev.x N.LU rfl rfl ?_;(repeat' ((first|apply AD|refine AC (h1) ?_)<;>conv=>whnf))
 refine E8 1000 N.GY rfl rfl ?_;(repeat' (apply AD<;>conv=>whnf))
 refine ⟨rfl,?_⟩;(conv=>whnf)
 (repeat' (refine G7 rfl ?_<;>conv=>whnf))
 exact AW (eK z) (D9 _)
theorem VJ {k l:Nat} {n1 n2:Bool} {a b:List Nat} (ha:Sm k a) (hb:Sm l b):Sm (k+l) (dg (zv n1 a*zv n2 b).natAbs):=ha.mul hb (by rw[Int.natAbs_mul,EL,EL])
theorem xQ {k:Nat} {x y:Int} (ha:Sm k (dg x.natAbs)) (hb:Sm k (dg y.natAbs)):Sm (k+1) (dg (x+y).natAbs):=ha.add hb (by rw[BN,BN];omega)
theorem sE (N:b8 L) (k:Nat) (hk:1<=k/\k<=68719476736) (n1 n2 q1 q2 q3 q4:Bool) (m1 d1 m2 d2:List Nat) (lk:Sm k m1) (ki:Sm k d1) (gx:Sm k m2) (nx:Sm k d2) :
  Ev L 98 [.agg (rQ q1 q2 n1 m1 d1),.agg (rQ q3 q4 n2 m2 d2)] (.agg (eQ (qv n1 m1 d1+qv n2 m2 d2))):=by
 obtain ⟨a1,a2,a3,w1,bz,s1,s2,s3,s4,s5⟩:=OP N n1 m1 d1 k (by omega) lk ki;obtain ⟨b1,b2,b3,w2,dc,t1,t2,t3,t4,t5⟩:=OP N n2 m2 d2 k (by omega) gx nx;rw[s5,t5];have hA:=λ q q'=>rL N a1 b1 q q' a2 b2 (s1.le (by omega)) (t1.le (by omega))
 have Lo:Sm (k+1) (dg (zv a1 a2+zv b1 b2).natAbs):=xQ (by rw[EL];exact s1.wj) (by rw[EL];exact t1.wj);by_cases hw:w1=true/\w2=true
 ·obtain ⟨rfl,rfl⟩:=hw
  rw[s4 rfl,t4 rfl,vD (by omega),vF];generalize zv a1 a2+zv b1 b2=z at *;refine Ev.x N.HV rfl rfl ?_;(repeat' ((first|apply GE|apply AD|refine AC (bz) ?_|refine AC (dc) ?_|refine AC (hA _ _) ?_)<;>conv=>whnf))
  refine E8 1000 N.GY rfl rfl ?_;(repeat' (apply AD<;>conv=>whnf))
  refine ⟨rfl,?_⟩;(conv=>whnf)
  (repeat' (refine G7 rfl ?_<;>conv=>whnf))
  exact AW (eK z) (D9 _)
 ·have n6:=λ q q'=>PM N.toe5 a3 b3 q q' s2.1 t2.1 (by have:=s2.2;omega) (by have:=t2.2;omega)
  by_cases hde:val a3=val b3
  ·have hn:CS (val a3) (val b3)=0:=(SX (by omega)).symm
   rw[hn]at n6;rw[<-hde,vD s3];generalize zv a1 a2+zv b1 b2=z at *;have hl:=λ q1 q2=>YJ N (decide (z<0)) q1 q2 (dg z.natAbs) a3 (Lo.le (by omega)) (s2.le (by omega)) s3
   unfold qv at hl;rw[ER]at hl;refine Ev.x N.HV rfl rfl ?_;cases w1<;>cases w2
   ·(repeat' ((first|(apply AG<;>intro hc<;>try omega)|apply GE|apply AD|refine AC (bz) ?_|refine AC (dc) ?_|refine AC (hA _ _) ?_|refine AC (n6 _ _) ?_|refine AC (hl _ _) ?_)<;>conv=>whnf))
    exact AW rfl (D9 _)
   ·(repeat' ((first|(apply AG<;>intro hc<;>try omega)|apply GE|apply AD|refine AC (bz) ?_|refine AC (dc) ?_|refine AC (hA _ _) ?_|refine AC (n6 _ _) ?_|refine AC (hl _ _) ?_)<;>conv=>whnf))
    exact AW rfl (D9 _)
   ·(repeat' ((first|(apply AG<;>intro hc<;>try omega)|apply GE|apply AD|refine AC (bz) ?_|refine AC (dc) ?_|refine AC (hA _ _) ?_|refine AC (n6 _ _) ?_|refine AC (hl _ _) ?_)<;>conv=>whnf))
    exact AW rfl (D9 _)
   ·exact absurd ⟨rfl,rfl⟩ hw
  ·have hn:CS (val a3) (val b3)≠0:=by unfold CS;split<;>(try split)<;>omega
   generalize CS (val a3) (val b3)=cm at *;have aq:=λ q q'=>T3 N a1 false q q' a2 b3 s1.1 t2.1 (by have:=s1.2;have:=t2.2;omega)
   have eb:=λ q q'=>T3 N b1 false q q' b2 a3 t1.1 s2.1 (by have:=t1.2;have:=s2.2;omega)
   have rb:=λ q q'=>gZ N.toe5 a3 b3 q q' s2.1 t2.1 (by have:=s2.2;have:=t2.2;omega)
   have xq:=WI N a3;have uo:=WI N b3;have g1:Sm (k+k) (dg (zv a1 a2*zv false b3).natAbs):=VJ s1 t2;have g2:Sm (k+k) (dg (zv b1 b2*zv false a3).natAbs):=VJ t1 s2;have g3:=xQ g1 g2;have g4:Sm (k+k) (dg (val a3*val b3)):=s2.mul t2 rfl;rw[cB s3 t3,<-D8 b3,<-D8 a3];have As:val a3*val b3≠0:=Nat.mul_ne_zero s3 t3;generalize zv a1 a2*zv false b3=x at *;generalize zv b1 b2*zv false a3=y at *;generalize val a3*val b3=D at *;have Ah:=λ q q'=>rL N (decide (x<0)) (decide (y<0)) q q' (dg x.natAbs) (dg y.natAbs) (g1.le (by omega)) (g2.le (by omega))
   rw[ER,ER]at Ah;generalize x+y=z at *;have hl:=λ q1 q2=>YJ N (decide (z<0)) q1 q2 (dg z.natAbs) (dg D) (g3.le (by omega)) (g4.le (by omega)) (by rw[BN];exact As)
   unfold qv at hl;rw[ER,BN]at hl;refine Ev.x N.HV rfl rfl ?_;cases w1<;>cases w2
   ·(repeat' ((first|(apply AG<;>intro hc<;>try omega)|apply GE|apply RO|apply AD|refine AC (bz) ?_|refine AC (dc) ?_|refine AC (n6 _ _) ?_|refine AC (xq) ?_|refine AC (uo) ?_|refine AC (aq _ _) ?_|refine AC (eb _ _) ?_|refine AC (Ah _ _) ?_|refine AC (rb _ _) ?_|refine AC (hl _ _) ?_)<;>conv=>whnf))
    exact AW rfl (D9 _)
   ·(repeat' ((first|(apply AG<;>intro hc<;>try omega)|apply GE|apply RO|apply AD|refine AC (bz) ?_|refine AC (dc) ?_|refine AC (n6 _ _) ?_|refine AC (xq) ?_|refine AC (uo) ?_|refine AC (aq _ _) ?_|refine AC (eb _ _) ?_|refine AC (Ah _ _) ?_|refine AC (rb _ _) ?_|refine AC (hl _ _) ?_)<;>conv=>whnf))
    exact AW rfl (D9 _)
   ·(repeat' ((first|(apply AG<;>intro hc<;>try omega)|apply GE|apply RO|apply AD|refine AC (bz) ?_|refine AC (dc) ?_|refine AC (n6 _ _) ?_|refine AC (xq) ?_|refine AC (uo) ?_|refine AC (aq _ _) ?_|refine AC (eb _ _) ?_|refine AC (Ah _ _) ?_|refine AC (rb _ _) ?_|refine AC (hl _ _) ?_)<;>conv=>whnf))
    exact AW rfl (D9 _)
   ·exact absurd ⟨rfl,rfl⟩ hw
theorem sF (N:b8 L) (k:Nat) (hk:1<=k/\k<=68719476736) (n1 n2 q1 q2 q3 q4:Bool) (m1 d1 m2 d2:List Nat) (lk:Sm k m1) (ki:Sm k d1) (gx:Sm k m2) (nx:Sm k d2) :
  Ev L 99 [.agg (rQ q1 q2 n1 m1 d1),.agg (rQ q3 q4 n2 m2 d2)] (.agg (eQ (qv n1 m1 d1*qv n2 m2 d2))):=by
 obtain ⟨a1,a2,a3,w1,bz,s1,s2,s3,s4,s5⟩:=OP N n1 m1 d1 k (by omega) lk ki;obtain ⟨b1,b2,b3,w2,dc,t1,t2,t3,t4,t5⟩:=OP N n2 m2 d2 k (by omega) gx nx;rw[s5,t5,jU];have aq:=λ q q'=>T3 N a1 b1 q q' a2 b2 s1.1 t1.1 (by have:=s1.2;have:=t1.2;omega)
 have rb:=λ q q'=>gZ N.toe5 a3 b3 q q' s2.1 t2.1 (by have:=s2.2;have:=t2.2;omega)
 have g1:Sm (k+k) (dg (zv a1 a2*zv b1 b2).natAbs):=VJ s1 t1;have g4:Sm (k+k) (dg (val a3*val b3)):=s2.mul t2 rfl;have As:val a3*val b3≠0:=Nat.mul_ne_zero s3 t3;generalize zv a1 a2*zv b1 b2=z at *;by_cases hw:w1=true/\w2=true
 ·obtain ⟨rfl,rfl⟩:=hw
  rw[s4 rfl,t4 rfl,Nat.one_mul,vF];refine Ev.x N.I2 rfl rfl ?_;(repeat' ((first|apply GE|apply AD|refine AC (bz) ?_|refine AC (dc) ?_|refine AC (aq _ _) ?_)<;>conv=>whnf))
  refine E8 1000 N.GY rfl rfl ?_;(repeat' (apply AD<;>conv=>whnf))
  refine ⟨rfl,?_⟩;(conv=>whnf)
  (repeat' (refine G7 rfl ?_<;>conv=>whnf))
  exact AW (eK z) (D9 _)
 ·generalize val a3*val b3=D at *
  have hl:=λ q1 q2=>YJ N (decide (z<0)) q1 q2 (dg z.natAbs) (dg D) (g1.le (by omega)) (g4.le (by omega)) (by rw[BN];exact As)
  unfold qv at hl;rw[ER,BN]at hl;refine Ev.x N.I2 rfl rfl ?_;cases w1<;>cases w2
  ·(repeat' ((first|apply GE|apply AD|refine AC (bz) ?_|refine AC (dc) ?_|refine AC (aq _ _) ?_|refine AC (rb _ _) ?_|refine AC (hl _ _) ?_)<;>conv=>whnf))
   exact AW rfl (D9 _)
  ·(repeat' ((first|apply GE|apply AD|refine AC (bz) ?_|refine AC (dc) ?_|refine AC (aq _ _) ?_|refine AC (rb _ _) ?_|refine AC (hl _ _) ?_)<;>conv=>whnf))
   exact AW rfl (D9 _)
  ·(repeat' ((first|apply GE|apply AD|refine AC (bz) ?_|refine AC (dc) ?_|refine AC (aq _ _) ?_|refine AC (rb _ _) ?_|refine AC (hl _ _) ?_)<;>conv=>whnf))
   exact AW rfl (D9 _)
  ·exact absurd ⟨rfl,rfl⟩ hw
theorem Su (x:Rat) (e:Int):A1 (.l6 [.agg (eQ x),.int .i64 e]):=by
 simp only[A1,CD,and_true,true_and];exact ⟨CI _,CI _⟩
theorem AeH (N:b8 L) (k:Nat) (hk:1<=k/\k<=68719476736) (n1 n2 q1 q2 q3 q4:Bool) (m1 d1 m2 d2:List Nat) (lk:Sm k m1) (ki:Sm k d1) (gx:Sm k m2) (nx:Sm k d2) (h0:qv n2 m2 d2≠0) :
  Ev L 100 [.agg (rQ q1 q2 n1 m1 d1),.agg (rQ q3 q4 n2 m2 d2)] (.l6 [.agg (eQ (qv n1 m1 d1/qv n2 m2 d2)),.int .i64 0]):=by
 obtain ⟨a1,a2,a3,w1,bz,s1,s2,s3,s4,s5⟩:=OP N n1 m1 d1 k (by omega) lk ki;obtain ⟨b1,b2,b3,w2,dc,t1,t2,t3,t4,t5⟩:=OP N n2 m2 d2 k (by omega) gx nx;rw[t5]at h0;rw[s5,t5];have vq:zv b1 b2≠0:=λ h=>h0 ((jV t3).2 h)
 rw[Agj s3 t3 vq];have hS:=λ q=>bE N b1 q b2 (t1.le (by omega))
 have rn:y7 (zv b1 b2)≠0:=by unfold y7;split<;>(try split)<;>omega
 have aq:=λ q q'=>T3 N a1 false q q' a2 b3 s1.1 t2.1 (by have:=s1.2;have:=t2.2;omega)
 have eb:=λ q q'=>T3 N false b1 q q' a3 b2 s2.1 t1.1 (by have:=t1.2;have:=s2.2;omega)
 have xq:=WI N a3;have uo:=WI N b3;have g1:Sm (k+k) (dg (zv a1 a2*zv false b3).natAbs):=VJ s1 t2;have g2:Sm (k+k) (dg (zv false a3*zv b1 b2).natAbs):=VJ s2 t1;have hd:(zv false a3*zv b1 b2).natAbs=val a3*(zv b1 b2).natAbs:=by rw[Int.natAbs_mul,EL]
 have Au:(zv false a3*zv b1 b2).sign=(zv b1 b2).sign:=by
  rw[Int.sign_mul,D8,Int.sign_eq_one_of_pos (by omega),Int.one_mul]
 have pq:zv false a3*zv b1 b2≠0:=by
  intro h;rw[h]at Au;exact vq (by simpa using Au.symm)
 rw[<-hd,<-Au,<-D8 b3];generalize zv a1 a2*zv false b3=x at *;generalize zv false a3*zv b1 b2=y at *;generalize y7 (zv b1 b2)=sg at *;have hl:=λ q1 q2=>YJ N (decide (x<0) != decide (y<0)) q1 q2 (dg x.natAbs) (dg y.natAbs) (g1.le (by omega)) (g2.le (by omega)) (by rw[BN];omega)
 unfold qv at hl;rw[AiN pq,BN]at hl;refine Ev.x N.LS rfl rfl ?_;(repeat' ((first|(apply AG<;>intro hc<;>try omega)|apply GE|apply RO|apply AD|refine AC (bz) ?_|refine AC (dc) ?_|refine AC (hS _) ?_|refine AC (xq) ?_|refine AC (uo) ?_|refine AC (aq _ _) ?_|refine AC (eb _ _) ?_)<;>conv=>whnf))
 refine E8 1000 N.L2 rfl rfl ?_;(repeat' (apply AD<;>conv=>whnf))
 generalize decide (x<0)=p at *;generalize decide (y<0)=r at *;cases p<;>cases r;all_goals
  (conv=>whnf)
  refine ⟨rfl,?_⟩;(conv=>whnf)
  (repeat' (refine AC (hl _ _) ?_<;>conv=>whnf))
  exact AW rfl (Su _ _)
end Go.e8

namespace Go.e8
open F
attribute [local irreducible] AA AF AM AE C8 AX BF BD B9 B2 CX E9 B0 A5 B5 CQ AB A7 AJ pw BR BO C4 D0 DZ DU DN BZ DW
set_option maxHeartbeats 1000000
variable {L:Lib}
def G4 (n:Int):Prop := -9223372036854775808<=n/\n<=9223372036854775807
structure Wd where
 b:Int
 f:Int
 r:Int
 o:Int
def WV (w:Wd):Prop:=4<=w.b/\w.b<=24/\0<=w.f/\w.f<w.b/\1<=w.r/\w.r<=3/\1<=w.o/\w.o<=2
instance (w : Wd) : Decidable (WV w) := by unfold WV; infer_instance
variable (w:Wd)
def Af8:Int:=if WV w then -pw (w.b-1) else 0
def Afk:Int:=if WV w then pw (w.b-1)-1 else 0
def FT (v:Int):Prop:=WV w/\Af8 w<=v/\v<=Afk w
instance (v : Int) : Decidable (FT w v) := by unfold FT; infer_instance
end Go.e8

namespace Go.e8
open F
attribute [local irreducible] AA AF AM AE C8 AX BF BD B9 B2 CX E9 B0 A5 B5 CQ AB A7 AJ pw BR BO C4 D0 DZ DU DN BZ DW
set_option maxHeartbeats 1000000
variable {L:Lib}
structure Nd where
 q:Bool
 ts:List (Int × Int)
structure Nt where
 d:Wd
 c:Wd
 s:Int
 qn:Bool
 nodes:List Nd
 qx:Bool
 next:List Int
 out:Int
variable (n:Nt)
end Go.e8

namespace Go.e8
open F
attribute [local irreducible] AA AF AM AE C8 AX BF BD B9 B2 CX E9 B0 A5 B5 CQ AB A7 AJ pw BR BO C4 D0 DZ DU DN BZ DW
variable {L:Lib}
set_option maxHeartbeats 4000000
def EW (v m:Int):Int:=if m<1 then 0 else v%m
theorem iJ (W:v8 L) (v m:Int) (hv:G4 v) (hm:m<=9223372036854775807):Ev L 34 [.int .i64 v,.int .i64 m] (.int .i64 (EW v m)):=by
 unfold G4 at hv;refine Ev.x W.N7 rfl rfl ?_;(repeat' ((first|(apply AG<;>intro hc<;>try omega)|(apply A0;omega)|(refine V0 ?_ (λ_ _ _ => ?_) (λ_ _ _ _ => ?_);omega;all_goals try omega)|apply AD)<;>conv=>whnf))
 all_goals (refine CM ?_;unfold EW;first|rw[if_pos (by omega)]|rw[if_neg (by omega)])
 all_goals omega
def HA (l:List Int) (i:Int):Int:=if 0<=i/\i<l.length then l.getD i.toNat 0 else 0
theorem sM (W:v8 L) (l:List Int) (q:Bool) (i:Int):Ev L 35 [.sl q (l.map ON),.int .i64 i] (.int .i64 (HA l i)):=by
 refine Ev.x W.N3 rfl rfl ?_;(repeat' ((first|(apply AG<;>intro hc<;>try omega)|apply AQ|(refine eD ?_ (λ_=>rfl) (λ e he => ?_);omega)|apply AD)<;>conv=>whnf))
 all_goals (refine CM ?_;unfold HA;first|rw[if_neg (by omega)]|(rw[if_pos (by omega),List.getD_eq_getElem?_getD,he];rfl))
theorem dU {v m:Int} (h:1<=m):0<=EW v m/\EW v m<m:=by
 unfold EW;rw[if_neg (by omega)];exact ⟨Int.emod_nonneg _ (by omega),Int.emod_lt_of_pos _ (by omega)⟩
theorem Xp (N:z8 L) (S:DQ) (n k:Nat) (h:S.Ok n k) (hn:n<=64):Ev L 136 [.agg (eS S)] (.bool true):=by
 have h1:=h.la;have h2:=h.lb;have h3:=h.lc;refine Ev.x N.M8 rfl rfl ?_;(repeat' ((first|(apply AG<;>intro hc<;>try omega)|apply AQ|apply AD)<;>conv=>whnf))
 refine DF (λ i=>S.a.length-i) (λ(i:Nat)=>i<=S.a.length) (λ i=>[(4,.int .i64 i)]) (λ_=>[]) 0 (by omega) ?_;intro i p1 ih;by_cases hi:i<S.a.length
 ·obtain ⟨r,hr⟩ : ∃ r,S.a[i]? = some r:=⟨_,zE hi⟩
  have ml:S.a[(i:Int).toNat]? = some r:=hr;have bk:=h.lr r (zM hr);(repeat' ((first|(apply AG<;>intro hc<;>try omega)|(apply A0;omega)|apply AQ|(refine A8 (by assumption) ?_ rfl ?_;omega)|apply AD)<;>conv=>whnf))
  exact BQ [] (ih (i+1) (by omega) (by omega))
 ·obtain rfl:i=S.a.length:=by omega
  clear ih;(repeat' ((first|(apply AG<;>intro hc<;>try omega)|apply AD)<;>conv=>whnf))
  exact HH rfl
theorem Yr (N:z8 L) (a b:List Rat) (q1 q2:Bool) (k s:Nat) (hl:a.length=b.length) (ha:Bs k a) (hb:Bs s b) (hK:a.length*(k+s+1)+k+s<2199023255552) (x7:a.length<=1099511627776):Ev L 137 [.sl q1 (a.map eQ),.sl q2 (b.map eQ)] (.agg (eQ (A2 a b))):=by
 have hO:=QK N.toa7 0 (by omega);refine Ev.x N.M6 rfl rfl ?_;(repeat' ((first|apply AD|refine AC (hO) ?_)<;>conv=>whnf))
 refine HG (λ i _=>a.length-i) (λ(i:Nat) (acc:Rat)=>i<=a.length/\acc=A2 (a.take i) (b.take i)) (λ i acc=>[(6,.int .i64 i)]) (λ i acc=>[(5,5,.bx (eQ acc))]) 0 ((0:Int):Rat) ⟨by omega,by simp [A2]⟩ ?_;intro i acc ⟨p1,p2⟩ ih;by_cases hi:i<a.length
 ·obtain ⟨x,hx⟩ : ∃ x,a[i]? = some x:=⟨_,zE hi⟩
  obtain ⟨y,hy⟩ : ∃ y,b[i]? = some y:=⟨_,zE (by omega)⟩;have jg:a[(i:Int).toNat]? = some x:=hx;have yc:b[(i:Int).toNat]? = some y:=hy;have bx:=ha.at hx;have Bx:=hb.at hy
  have hM:=T4 N.toa7 bx Bx (by omega) (by omega)
  have Ix:Bt (a.length*(k+s+1)) acc:=by
   rw[p2];have:=(ha.take i).dot (hb.take i)
   refine this.le (zR _ ?_);rw[List.length_take];omega
  have hA:=gW N.toa7 Ix (bx.mul Bx) (by omega) (by omega);have m5:=gL hx hy;(repeat' ((first|(apply AG<;>intro hc<;>try omega)|(apply A0;omega)|apply AQ|(refine A8 (by assumption) ?_ rfl ?_;omega)|apply AD|refine AC (hM) ?_|refine AC (hA) ?_)<;>conv=>whnf))
  refine BH [] (by (conv=>whnf);exact ⟨rfl,rfl,rfl⟩) (ih (i+1) (acc+x*y) (by omega) ⟨by omega,?_⟩);rw[m5,<-p2]
 ·obtain rfl:i=a.length:=by omega
  clear ih;rw[gI rfl]at p2;rw[<-p2];(repeat' ((first|(apply AG<;>intro hc<;>try omega)|apply AQ|apply AD)<;>conv=>whnf))
  exact AW rfl (D9 _)
def W9 (v:Int):Rat:=Rat.divInt (v%25-12) (1+v/25%8)
def E3 (l:List Int) (n:Nat):List Rat:=(List.range n).map λ i:Nat=>W9 (EW (HA l (i:Int)) 2000)
theorem Q2 (l:List Int) (n:Nat):(E3 l n).length=n:=by simp [E3]
theorem Ahj (l:List Int) (n:Nat):E3 l (n+1)=E3 l n++[W9 (EW (HA l (n:Int)) 2000)]:=by simp [E3,List.range_succ]
theorem Ahi {v:Int} (h:0<=v):Bt 4 (W9 v):=by
 unfold W9;obtain ⟨d,hd⟩:=Int.eq_ofNat_of_zero_le (show 0<=1+v/25%8 by omega);rw[hd,Rat.divInt_ofNat];refine Bt.mk ?_ ?_
 ·show _<=16;omega
 ·show _<=16;omega
theorem ZD (l:List Int) (n:Nat):Bs 4 (E3 l n):=by
 intro x hx;simp only[E3,List.mem_map]at hx;obtain ⟨i,_,rfl⟩:=hx;refine Ahi ?_;unfold EW;split<;>omega
theorem gU (N:az L) (l:List Int) (q:Bool) (n:Nat) (hl : ∀ x∈l,G4 x) (hn:n<=1000000):Ev L 141 [.sl q (l.map ON),.int .i64 (n:Int)] (.sl false ((E3 l n).map eQ)):=by
 have db : ∀ i:Nat,G4 (HA l (i:Int)):=λ i=>by
  unfold HA;split
  ·rw[List.getD_eq_getElem?_getD]
   cases e:l[((i:Int)).toNat]? with
   | none=>simp [G4]
   | some x=>exact hl x (zM e)
  ·simp [G4]
 refine Ev.x N.N6 rfl rfl ?_;(repeat' (apply AD<;>conv=>whnf))
 refine DF (λ i=>n-i) (λ(i:Nat)=>i<=n) (λ i=>[(6,.int .i64 i),(5,.row 5 0 3 0 i)]) (λ i=>[(5,5,.rw 3 ((E3 l i).map eQ))]) 0 (by omega) ?_;intro i p1 ih;by_cases hi:i<n
 ·have hA:=sM N.tov8 l q (i:Int)
  have hA':=λ q=>sM N.tov8 l q (i:Int)
  have hW:=iJ N.tov8 (HA l (i:Int)) 2000 (db i) (by omega);have hw0:0<=EW (HA l (i:Int)) 2000/\EW (HA l (i:Int)) 2000<2000:=by unfold EW;split<;>omega
  have vd:=Ahj l i;have hlen:=Q2 l i;have hF:=sB N.toa7 (EW (HA l (i:Int)) 2000%25-12) (1+EW (HA l (i:Int)) 2000/25%8) (by omega) (by omega);have hF':Ev L 125 [.int .i64 (EW (HA l (i:Int)) 2000%25-12),.int .i64 (1+EW (HA l (i:Int)) 2000/25%8)] (.agg (eQ (W9 (EW (HA l (i:Int)) 2000)))):=hF;clear hF;generalize W9 (EW (HA l (i:Int)) 2000)=y at *;generalize EW (HA l (i:Int)) 2000=v at *;(repeat' ((first|(apply AG<;>intro hc<;>try omega)|(apply A0;omega)|(apply BT;omega)|(refine V0 ?_ (λ_ _ _ => ?_) (λ_ _ _ _ => ?_);omega;all_goals try omega)|(refine RT ?_ ?_ (λ_ => ?_) (λ_ _ => ?_);omega;omega;all_goals try omega)|apply EE|apply AD|refine AC (hA' _) ?_|refine AC (hW) ?_|refine AC (hF') ?_)<;>conv=>whnf))
  refine EX (enc:=eQ) y rfl hlen.symm rfl (by omega) (by omega) ?_;(conv=>whnf)
  (repeat' ((first|(apply A0;omega)|fail)<;>conv=>whnf))
  rw[show (E3 l i++[y]).length=i+1 by simp [hlen],<-vd];exact BQ [(5,27)] (ih (i+1) (by omega) (by omega))
 ·obtain rfl:i=n:=by omega
  clear ih;have hlen:=Q2 l i;(repeat' ((first|(apply AG<;>intro hc<;>try omega)|apply AD)<;>conv=>whnf))
  refine C7 (enc:=eQ) (λ_=>rfl) rfl hlen.symm ?_;(conv=>whnf)
  exact AW rfl (by simp only[A1,true_and];exact GF _)
def VD (X:List Rat) (n j:Nat):List Rat:=(X.take (j*n+n)).drop (j*n)
def J6 (X:List Rat) (n i:Nat):List (List Rat):=(List.range i).map (VD X n)
theorem Ahw (X:List Rat) (n i:Nat):J6 X n (i+1)=J6 X n i++[VD X n i]:=by simp [J6,List.range_succ]
def PU (l:List Int) (n:Nat):List (List Rat):=J6 (E3 l (n*n)) n n
theorem Agd (l:List Int) (n:Nat):(PU l n).length=n:=by simp [PU,J6]
theorem oT : ∀ m:List (List Rat),FL (m.map λ r=>[AV.sl false (r.map eQ)])
 | []=>trivial
 | r::m=>⟨⟨by simp only[A1,true_and];exact GF r,trivial⟩,oT m⟩
theorem Yu (N:fm L) (l:List Int) (q:Bool) (n:Nat) (hl : ∀ x∈l,G4 x) (hn:n<=64):Ev L 280 [.sl q (l.map ON),.int .i64 (n:Int)] (.sl false ((PU l n).map λ r=>[AV.sl false (r.map eQ)])):=by
 have hnn:n*n<=4096:=Nat.mul_le_mul hn hn;have hR:=λ q=>gU N.toaz l q (n*n) hl (by omega)
 have Am:=Q2 l (n*n);have vt:((n*n:Nat):Int)=(n:Int)*n:=by simp
 rw[vt]at hR;unfold PU;generalize E3 l (n*n)=X at *;refine Ev.x N.N4 rfl rfl ?_;(repeat' ((first|(apply PC;omega)|apply AD|refine AC (hR _) ?_)<;>conv=>whnf))
 refine DF (λ i=>n-i) (λ(i:Nat)=>i<=n) (λ i=>[(7,.int .i64 i),(6,.row 6 0 1 0 i)]) (λ i=>[(6,6,.rw 1 ((J6 X n i).map λ r=>[AV.sl false (r.map eQ)]))]) 0 (by omega) ?_;intro i p1 ih;have bk:(J6 X n i).length=i:=by simp [J6]
 by_cases hi:i<n
 ·have h1:i*n+n<=n*n:=by
   have:=zR n (show i+1<=n by omega)
   rw[Nat.succ_mul]at this;exact this
  have f1:((i:Int)*n).toNat=i*n:=by rw[<-Int.natCast_mul];rfl
  have f2:((i:Int)*n+n).toNat=i*n+n:=by rw[<-Int.natCast_mul];omega
  have f3:0<=(i:Int)*n:=by rw[<-Int.natCast_mul];omega
  have f4:(i:Int)*n+n<=X.length:=by rw[<-Int.natCast_mul];omega
  have f5:VD X n i=(X.take (i*n+n)).drop (i*n):=rfl;have vd:=Ahw X n i;(repeat' ((first|(apply AG<;>intro hc<;>try omega)|(apply A0;omega)|(apply PC;omega)|(refine eE (λ_=>rfl) (mT ?_ ?_);omega)|apply EE|apply AD)<;>conv=>whnf))
  rw[f1,f2,<-f5];refine EX (l:=J6 X n i) (z:=1) (bytes:=24) (enc:=λ r:List Rat=>[AV.sl false (r.map eQ)]) (VD X n i) rfl bk.symm rfl (by omega) (by omega) ?_;(conv=>whnf)
  (repeat' ((first|(apply A0;omega)|fail)<;>conv=>whnf))
  rw[<-vd,show (J6 X n (i+1)).length=i+1 by simp [J6]];exact BQ [(6,30)] (ih (i+1) (by omega) (by omega))
 ·obtain rfl:i=n:=by omega
  clear ih;(repeat' ((first|(apply AG<;>intro hc<;>try omega)|apply AD)<;>conv=>whnf))
  refine C7 (enc:=λ r:List Rat=>[AV.sl false (r.map eQ)]) (λ_=>rfl) rfl bk.symm ?_;(conv=>whnf)
  exact AW rfl (by simp only[A1,true_and];exact oT _)
end Go.e8

namespace Go.e8
variable {L:Lib}
theorem Uf {fn:AFn} {z:Nat} {es:List (List AV)} {tm:Tm} {M:Mem} (hz : ∀ e∈es,E7 e=true) (h:RU fn z es tm M):OA fn (.sl false es) tm M:=by
 unfold RU at h;split at h
 ·rename_i t lu
  split at h
  ·rename_i k z' n Hm
   split at h
   ·rename_i s ek es' hM
    obtain ⟨rfl,rfl,rfl,rfl,q6⟩:=h;have hs:A5 es' 0 es'.length λ es=>AJ (.sl false es) (.sl false es'):=X0 (by omega) hz (by rw[List.drop_zero,List.take_length];exact AW rfl (by simp only[A1];exact ⟨trivial,q6⟩))
    unfold OA;rw[lu];show VC tm M (.tmp t) (λ v=>O4 false M [] v λ v=>AJ v (.sl false es'));simp only[VC,Hm];show VK false M [] (.row k 0 ek 0 es'.length) λ v=>AJ v (.sl false es')
    unfold VK;simp only[hM];show P8 false M [] (.row k 0 ek 0 es'.length) λ v=>AJ v (.sl false es')
    unfold P8;simp only[hM];rw[show Nat.beq ek ek=true from Nat.beq_refl ek];exact hs
   ·exact h.elim
  ·exact h.elim
 ·exact h.elim
theorem JL.x2 {α:Type} {enc:α->List AV} {l:List α} {f:Nat} {fn:AFn} {vs:List AV} {z:Nat} (hL:L f=some fn) (hp:Nat.beq vs.length fn.bm=true) (hd:IX vs=true) (hz : ∀ x,E7 (enc x)=true) (h:AA L [.code fn.body] (CB 0 vs) [] (RU fn z (l.map enc))) (hs:fn.ot=false:=by rfl):JL L f vs z (l.map enc)/\Ev L f vs (.sl false (l.map enc)) :=
 ⟨JL.x hL hp hd h,Ev.x hL hp hd (Rv h λ_ _=>Uf λ e he=>by obtain ⟨x,_,rfl⟩:=List.mem_map.1 he;exact hz x) hs⟩
end Go.e8

namespace Go.e8
open F
variable {L:Lib}
theorem Bt.sm {k:Nat} {x:Rat} (h:Bt k x) (hk:k<2199023255552):Sm 68719476736 (dg x.num.natAbs)/\Sm 68719476736 (dg x.den):=h.Mt (by omega)
theorem Xr (N:b8 L) {x y:Rat} {k l:Nat} (hx:Bt k x) (hy:Bt l y) (hk:k<2199023255552) (hl:l<2199023255552):Ev L 98 [.agg (eQ x),.agg (eQ y)] (.agg (eQ (x+y))):=by
 have:=sE N 68719476736 (by omega) (decide (x.num<0)) (decide (y.num<0)) false false false false _ _ _ _ (hx.sm hk).1 (hx.sm hk).2 (hy.sm hl).1 (hy.sm hl).2
 rw[E2,E2]at this;exact this
theorem KG (N:b8 L) {x y:Rat} {k l:Nat} (hx:Bt k x) (hy:Bt l y) (hk:k<2199023255552) (hl:l<2199023255552):Ev L 99 [.agg (eQ x),.agg (eQ y)] (.agg (eQ (x*y))):=by
 have:=sF N 68719476736 (by omega) (decide (x.num<0)) (decide (y.num<0)) false false false false _ _ _ _ (hx.sm hk).1 (hx.sm hk).2 (hy.sm hl).1 (hy.sm hl).2
 rw[E2,E2]at this;exact this
theorem rH (N:b8 L) {x y:Rat} {k l:Nat} (hx:Bt k x) (hy:Bt l y) (hk:k<2199023255552) (hl:l<2199023255552) (h0:y≠0):Ev L 100 [.agg (eQ x),.agg (eQ y)] (.l6 [.agg (eQ (x/y)),.int .i64 0]):=by
 have:=AeH N 68719476736 (by omega) (decide (x.num<0)) (decide (y.num<0)) false false false false _ _ _ _ (hx.sm hk).1 (hx.sm hk).2 (hy.sm hl).1 (hy.sm hl).2 (by rw[E2];exact h0)
 rw[E2,E2]at this;exact this
theorem YM (N:b8 L) {x:Rat} {k:Nat} (hx:Bt k x) (hk:k<2199023255552):Ev L 95 [.agg (eQ x)] (.agg (eQ x)):=by
 have:=sG N (decide (x.num<0)) false false _ _ ((hx.sm hk).1.le (by omega)) ((hx.sm hk).2.le (by omega))
 rw[E2]at this;exact this
theorem bG (N:b8 L) {x:Rat} {k:Nat} (hx:Bt k x) (hk:k<2199023255552):Ev L 97 [.agg (eQ x)] (.int .i64 (y7 x.num)):=by
 have:=AeI N (decide (x.num<0)) false false _ _ ((hx.sm hk).1.le (by omega)) ((hx.sm hk).2.le (by omega))
 rw[E2]at this;exact this
theorem dD {x:Rat}:y7 x.num=0↔x=0:=by
 rw[<-Rat.num_eq_zero];unfold y7;split
 ·omega
 ·split<;>omega
end Go.e8

namespace Go.e8
open F
attribute [local irreducible] AA AF AM AE C8 AX BF BD B9 B2 CX E9 B0 A5 B5 CQ AB A7 AJ pw BR BO C4 D0 DZ DU DN BZ DW
variable {L:Lib}
set_option maxHeartbeats 8000000
theorem wT (n:Bool) (m d:List Nat):qv (!n) m d = -(qv n m d):=by
 unfold qv;have h:zv (!n) m = -(zv n m):=by cases n<;>simp [zv]
 rw[h,Rat.neg_mkRat]
theorem Sx (n:Bool) (m d:List Nat):A1 (.agg (rQ false false n m d)):=by
 simp only[A1,CD,and_true,true_and];exact ⟨CI _,CI _⟩
theorem rJ (N:z7 L) (n:Bool) (m d:List Nat):Ev L 149 [.agg (rQ false false n m d)] (.agg (rQ false false (!n) m d)):=by
 refine Ev.x N.LY rfl rfl ?_;cases n;all_goals
  (repeat' (apply AD<;>conv=>whnf))
  exact AW rfl (Sx _ _ _)
theorem sK (N:z7 L) {x y:Rat} {k l:Nat} (hx:Bt k x) (hy:Bt l y) (hk:k<2199023255552) (hl:l<2199023255552):Ev L 150 [.agg (eQ x),.agg (eQ y)] (.agg (eQ (x-y))):=by
 have hF:=rJ N (decide (y.num<0)) (dg y.num.natAbs) (dg y.den);have hA:=λ q3 q4=>sE N.tob8 68719476736 (by omega) (decide (x.num<0)) (!decide (y.num<0)) false false q3 q4 _ _ _ _ (hx.sm hk).1 (hx.sm hk).2 (hy.sm hl).1 (hy.sm hl).2
 rw[wT,E2,E2,<-Rat.sub_eq_add_neg]at hA;refine Ev.x N.LW rfl rfl ?_;(repeat' ((first|apply nB|apply AD|refine AC (hF) ?_|refine AC (hA _ _) ?_)<;>conv=>whnf))
 exact AW rfl (D9 _)
theorem IG {l:List Rat} {i:Nat} {x:Rat} (h:l[i]? = some x):l.getD i 0=x:=by rw[List.getD_eq_getElem?_getD,h];rfl
theorem JV {l:List Rat} {i:Nat} (h:l.length<=i):l.getD i 0=0:=by rw[List.getD_eq_getElem?_getD,List.getElem?_eq_none h];rfl
theorem Xo (N:z8 L) (S:DQ) (n k:Nat) (h:S.Ok n k) (hn:n<=64):Ev L 130 [.agg (eS S)] (.bool true):=by
 have h1:=h.la;have h2:=h.lb;have h3:=h.lc;refine Ev.x N.LL rfl rfl ?_;(repeat' ((first|(apply AG<;>intro hc<;>try omega)|apply AQ|apply AD)<;>conv=>whnf))
 refine DF (λ i=>S.a.length-i) (λ(i:Nat)=>i<=S.a.length) (λ i=>[(28,.int .i64 i)]) (λ_=>[]) 0 (by omega) ?_;intro i p1 ih;by_cases hi:i<S.a.length
 ·obtain ⟨r,hr⟩ : ∃ r,S.a[i]? = some r:=⟨_,zE hi⟩
  have ml:S.a[(i:Int).toNat]? = some r:=hr;have bk:=h.lr r (zM hr);(repeat' ((first|(apply AG<;>intro hc<;>try omega)|(apply A0;omega)|apply AQ|(refine A8 (by assumption) ?_ rfl ?_;omega)|apply AD)<;>conv=>whnf))
  exact BQ [] (ih (i+1) (by omega) (by omega))
 ·obtain rfl:i=S.a.length:=by omega
  clear ih;(repeat' ((first|(apply AG<;>intro hc<;>try omega)|apply AD)<;>conv=>whnf))
  exact HH rfl
theorem GH {l:List Rat} {k:Nat} (h:Bs k l) (i:Nat):Bt k (l.getD i 0):=by
 rw[List.getD_eq_getElem?_getD];cases e:l[i]? with
 | none=>exact Bt.zero k
 | some x=>exact h.at e
theorem AeB (N:iv L) (q:Bool) (l:List Rat) (d:Rat) (k j:Nat) (hl:Bs k l) (hd:Bt j d) (hk:k+j<2199023255552) (hn:l.length<=1000000):Ev L 194 [.sl q (l.map eQ),.agg (eQ d)] (.sl false ((BW (l.map (· * d))).map eQ)):=by
 have Kj:Bs (k+j) (l.map (· * d)):=by
  intro y hy;obtain ⟨x,hx,rfl⟩:=List.mem_map.1 hy;exact (hl x hx).mul hd
 have jn:(l.map (· * d)).length=l.length:=List.length_map ..;have rf:=λ q=>QL N.tou5 q (l.map (· * d)) (k+j) Kj hk (by omega)
 refine Ev.x N.MW rfl rfl ?_;(repeat' ((first|apply AQ|apply AD)<;>conv=>whnf))
 refine DF (λ i=>l.length-i) (λ(i:Nat)=>i<=l.length) (λ i=>[(10,.int .i64 i),(5,.row 5 0 3 0 i)]) (λ i=>[(5,5,.rw 3 (((l.map (· * d)).take i).map eQ))]) 0 (by omega) ?_;intro i g1 ih;have jf:((l.map (· * d)).take i).length=i:=by rw[List.length_take];omega
 by_cases hi:i<l.length
 ·obtain ⟨x,hx⟩ : ∃ x,l[i]? = some x:=⟨_,zE hi⟩
  have jg:l[(i:Int).toNat]? = some x:=hx;have hM:=T4 N.toa7 (hl.at hx) hd (by omega) (by omega);have hy:(l.map (· * d))[i]? = some (x*d):=by rw[List.getElem?_map,hx];rfl
  have Fu:=lY hy;have vf:((l.map (· * d)).take (i+1)).length=i+1:=by rw[List.length_take];omega
  (repeat' ((first|(apply AG<;>intro hc<;>try omega)|(refine A8 (by assumption) ?_ rfl ?_;omega)|apply EE|apply AD|refine AC (hM) ?_)<;>conv=>whnf))
  refine EX (enc:=eQ) (x*d) rfl jf.symm rfl (by omega) (by omega) ?_;rw[<-Fu,vf];(conv=>whnf)
  (repeat' ((first|(apply A0;omega)|fail)<;>conv=>whnf))
  exact BQ [(5,19)] (ih (i+1) (by omega) (by omega))
 ·obtain rfl:i=l.length:=by omega
  clear ih;rw[zT (Nat.le_of_eq jn)]at jf ⊢;rw[<-jn];generalize l.map (· * d)=p at *;(repeat' ((first|(apply AG<;>intro hc<;>try omega)|(refine C7 (λ_=>rfl) rfl ?_ ?_;(first|rfl|simp))|apply AD|refine AC (rf _) ?_)<;>conv=>whnf))
  exact AW rfl (by simp only[A1,true_and];exact GF _)
theorem xL (z:Int):y7 z = -1/\z<0\/y7 z=0/\z=0\/y7 z=1/\0<z:=by
 unfold y7;split
 ·exact Or.inl ⟨rfl,by omega⟩
 ·split
  ·exact Or.inr (Or.inr ⟨rfl,by omega⟩)
  ·exact Or.inr (Or.inl ⟨rfl,by omega⟩)
theorem Wr {a b:Nat} {z:Int} (h:z=(a:Int)-b):CS a b=y7 z:=by
 unfold CS y7;subst h;repeat' split
 all_goals omega
theorem rM (N:o5 L) (n1 n2 q1 q2:Bool) (a b:List Nat) (ha:Sm 549755813888 a) (hb:Sm 549755813888 b):Ev L 197 [.agg (rZ q1 n1 a),.agg (rZ q2 n2 b)] (.int .i64 (y7 (zv n1 a-zv n2 b))):=by
 have h1:=λ q=>bE N.tob8 n1 q a ha
 have h2:=λ q=>bE N.tob8 n2 q b hb
 have h3:=λ q q'=>PM N.toe5 a b q q' ha.1 hb.1 (by have:=ha.2;omega) (by have:=hb.2;omega)
 have h4:=λ q q'=>PM N.toe5 b a q q' hb.1 ha.1 (by have:=hb.2;omega) (by have:=ha.2;omega)
 have za:=EL n1 a;have zb:=EL n2 b;generalize zv n1 a=x at *;generalize zv n2 b=y at *;rcases xL x with ⟨e1,g1⟩|⟨e1,g1⟩|⟨e1,g1⟩<;>rcases xL y with ⟨e2,g2⟩|⟨e2,g2⟩|⟨e2,g2⟩
 all_goals
  rw[e1]at h1;rw[e2]at h2;refine Ev.x N.KL rfl rfl ?_;(repeat' ((first|(apply AG<;>intro hc<;>try omega)|apply AD|refine AC (h1 _) ?_|refine AC (h2 _) ?_|refine AC (h3 _ _) ?_|refine AC (h4 _ _) ?_)<;>conv=>whnf))
  first
   | exact CM (kZ (by omega))
   | exact CM (lC (by omega))
   | exact CM (Wr (by omega))
theorem AeG (N:o5 L) (k:Nat) (hk:1<=k/\k<=68719476736) (n1 n2:Bool) (m1 d1 m2 d2:List Nat) (lk:Sm k m1) (ki:Sm k d1) (gx:Sm k m2) (nx:Sm k d2) :
  Ev L 198 [.agg (rQ false false n1 m1 d1),.agg (rQ false false n2 m2 d2)] (.int .i64 (y7 (qv n1 m1 d1-qv n2 m2 d2).num)):=by
 obtain ⟨a1,a2,a3,w1,bz,s1,s2,s3,s4,s5⟩:=OP N.tob8 n1 m1 d1 k (by omega) lk ki;obtain ⟨b1,b2,b3,w2,dc,t1,t2,t3,t4,t5⟩:=OP N.tob8 n2 m2 d2 k (by omega) gx nx;rw[s5,t5,<-vE s3 t3];by_cases hw:w1=true/\w2=true
 ·obtain ⟨rfl,rfl⟩:=hw
  have hC:=λ q q'=>rM N a1 b1 q q' a2 b2 (s1.le (by omega)) (t1.le (by omega))
  rw[s4 rfl,t4 rfl];rw[show zv a1 a2*((1:Nat):Int)-zv b1 b2*((1:Nat):Int)=zv a1 a2-zv b1 b2 by omega];refine Ev.x N.I1 rfl rfl ?_;(repeat' ((first|apply GE|apply AD|refine AC (bz) ?_|refine AC (dc) ?_|refine AC (hC _ _) ?_)<;>conv=>whnf))
  exact CM rfl
 ·have aq:=λ q q'=>T3 N.tob8 a1 false q q' a2 b3 s1.1 t2.1 (by have:=s1.2;have:=t2.2;omega)
  have eb:=λ q q'=>T3 N.tob8 b1 false q q' b2 a3 t1.1 s2.1 (by have:=t1.2;have:=s2.2;omega)
  have xq:=WI N.tob8 a3;have uo:=WI N.tob8 b3;have g1:Sm (k+k) (dg (zv a1 a2*zv false b3).natAbs):=VJ s1 t2;have g2:Sm (k+k) (dg (zv b1 b2*zv false a3).natAbs):=VJ t1 s2;have hC:=λ q q'=>rM N (decide (zv a1 a2*zv false b3<0)) (decide (zv b1 b2*zv false a3<0)) q q' _ _ (g1.le (by omega)) (g2.le (by omega))
  rw[ER,ER]at hC;rw[<-D8 b3,<-D8 a3];generalize zv a1 a2*zv false b3=x at *;generalize zv b1 b2*zv false a3=y at *;refine Ev.x N.I1 rfl rfl ?_;cases w1<;>cases w2
  ·(repeat' ((first|apply GE|apply RO|apply AD|refine AC (bz) ?_|refine AC (dc) ?_|refine AC (xq) ?_|refine AC (uo) ?_|refine AC (aq _ _) ?_|refine AC (eb _ _) ?_|refine AC (hC _ _) ?_)<;>conv=>whnf))
   exact CM rfl
  ·(repeat' ((first|apply GE|apply RO|apply AD|refine AC (bz) ?_|refine AC (dc) ?_|refine AC (xq) ?_|refine AC (uo) ?_|refine AC (aq _ _) ?_|refine AC (eb _ _) ?_|refine AC (hC _ _) ?_)<;>conv=>whnf))
   exact CM rfl
  ·(repeat' ((first|apply GE|apply RO|apply AD|refine AC (bz) ?_|refine AC (dc) ?_|refine AC (xq) ?_|refine AC (uo) ?_|refine AC (aq _ _) ?_|refine AC (eb _ _) ?_|refine AC (hC _ _) ?_)<;>conv=>whnf))
   exact CM rfl
  ·exact absurd ⟨rfl,rfl⟩ hw
theorem Xu (N:o5 L) {x y:Rat} {k l:Nat} (hx:Bt k x) (hy:Bt l y) (hk:k<2199023255552) (hl:l<2199023255552):Ev L 198 [.agg (eQ x),.agg (eQ y)] (.int .i64 (y7 (x-y).num)):=by
 have:=AeG N 68719476736 (by omega) (decide (x.num<0)) (decide (y.num<0)) _ _ _ _ (hx.sm hk).1 (hx.sm hk).2 (hy.sm hl).1 (hy.sm hl).2
 rw[E2,E2]at this;exact this
theorem Aeo (N:o5 L) {x:Rat} {k:Nat} (hx:Bt k x) (hk:k<2199023255552):Ev L 199 [.agg (eQ x)] (.agg (eQ (-x))):=by
 have hF:=rJ N.toz7 (decide (x.num<0)) (dg x.num.natAbs) (dg x.den);have hT:=λ q1 q2=>sG N.tob8 (!decide (x.num<0)) q1 q2 _ _ ((hx.sm hk).1.le (by omega)) ((hx.sm hk).2.le (by omega))
 rw[wT,E2]at hT;refine Ev.x N.LT rfl rfl ?_;(repeat' ((first|apply nB|apply AD|refine AC (hF) ?_|refine AC (hT _ _) ?_)<;>conv=>whnf))
 exact AW rfl (D9 _)
theorem rU (N:o5 L) (q:Bool) (l:List Rat) (k:Nat) (hl:Bs k l) (hk:k<2199023255552) (hn:l.length<=1000000):Ev L 200 [.sl q (l.map eQ)] (.int .i64 ((CP l l.length:Int)-1)):=by
 refine Ev.x N.LP rfl rfl ?_;(repeat' (apply AD<;>conv=>whnf))
 refine EM 1000 N.LQ rfl rfl ?_;(repeat' ((first|apply AQ|apply AD)<;>conv=>whnf))
 refine DF (λ n=>n) (λ(n:Nat)=>n<=l.length/\CP l l.length=CP l n) (λ n=>[(3,.int .i64 n)]) (λ_=>[]) l.length ⟨Nat.le_refl _,rfl⟩ ?_;intro n ⟨p1,p2⟩ ih;have done : ∀ {n:Nat},CP l l.length=n->BW l=l.take n:=λ h=>by rw[BW,h]
 by_cases hz:n=0\/(∃ m x,n=m+1/\l[m]? = some x/\x≠0)
 ·have ju:CP l l.length=n:=by
   rw[p2];rcases hz with rfl|⟨m,x,rfl,h1,h2⟩
   ·rfl
   ·rw[CP,if_neg]
    rw[List.getD_eq_getElem?_getD,h1];exact h2
  have htq:=done ju;have ck:(l.take n).length=n:=by rw[List.length_take];omega
  clear ih ju p2 done;rcases hz with h0|⟨m,x,Oh,h1,h2⟩
  case' inl=>(repeat' ((first|(apply AG<;>intro hc<;>try omega)|apply AD)<;>conv=>whnf))
  case' inr =>
   have wv:l[((n:Int)-1).toNat]? = some x:=by rw[show ((n:Int)-1).toNat=m by omega];exact h1
   have Dy:=bG N.tob8 (hl.at h1) (by omega);have hs:=dD (x:=x);generalize y7 x.num=s at *;have hS : ∀ v,l[((n:Int)-1).toNat]? = some v->Ev L 97 [.agg (eQ v)] (.int .i64 s):=λ v h=>by
    obtain rfl:=Option.some.inj (wv.symm.trans h);exact Dy
   have rl:s≠0:=λ h=>h2 (hs.1 h)
   (repeat' ((first|(apply AG<;>intro hc<;>try omega)|(apply BT;omega)|(refine A8 (by assumption) ?_ rfl ?_;omega)|apply AD|refine AC (Dy) ?_)<;>conv=>whnf))
  all_goals
   refine OC (enc:=eQ) (λ_=>rfl) p1 ?_;(conv=>whnf)
   skip
   refine ⟨rfl,_,rfl,?_⟩;(conv=>whnf)
   (repeat' ((first|(apply BT;omega)|apply AQ)<;>conv=>whnf))
   have Ei:CP l l.length=n:=by rw[<-J8,htq,ck]
   rw[Ei];exact CM (by rw[ck])
 ·obtain ⟨m,rfl⟩ : ∃ m,n=m+1:=⟨n-1,by omega⟩
  obtain ⟨x,hx⟩ : ∃ x,l[m]? = some x:=⟨_,zE (by omega)⟩;have mq:x=0:=by
   rcases Classical.em (x=0) with h|h
   ·exact h
   ·exact (hz (Or.inr ⟨m,x,rfl,hx,h⟩)).elim
  have jg:l[((m+1:Nat)-1:Int).toNat]? = some x:=by rw[show ((m+1:Nat)-1:Int).toNat=m by omega];exact hx
  have Dy:=bG N.tob8 (hl.at hx) (by omega);have hs:=dD (x:=x);generalize y7 x.num=s at *;have hS : ∀ v,l[((m+1:Nat)-1:Int).toNat]? = some v->Ev L 97 [.agg (eQ v)] (.int .i64 s):=λ v h=>by
   obtain rfl:=Option.some.inj (jg.symm.trans h);exact Dy
  have rl:=hs.2 mq;(repeat' ((first|(apply AG<;>intro hc<;>try omega)|(apply BT;omega)|(refine A8 (by assumption) ?_ rfl ?_;omega)|apply AD|refine AC (Dy) ?_)<;>conv=>whnf))
  rw[show ((m+1:Nat):Int)-1=(m:Int) by omega];exact BQ [] (ih m (by omega) ⟨by omega,by rw[p2,CP,if_pos (by rw[List.getD_eq_getElem?_getD,hx];exact mq)]⟩)
theorem AeA (N:o5 L) (q:Bool) (l:List Rat) (k:Nat) (hl:Bs k l) (hk:k<2199023255552) (hn:l.length<=1000000):Ev L 202 [.sl q (l.map eQ)] (.int .i64 ((CP l l.length:Int)-1)):=by
 have hT:=λ q=>QL N.tou5 q l k hl hk hn
 have hlen:=J8 l;have hle:=IW l l.length;rw[<-hlen]at hle ⊢;generalize BW l=t at *;refine Ev.x N.MT rfl rfl ?_;(repeat' ((first|(apply BT;omega)|apply AQ|apply AD|refine AC (hT _) ?_)<;>conv=>whnf))
 exact CM rfl
end Go.e8

namespace Go.e8
open F
attribute [local irreducible] AA AF AM AE C8 AX BF BD B9 B2 CX E9 B0 A5 B5 CQ AB A7 AJ pw BR BO C4 D0 DZ DU DN BZ DW
variable {L:Lib} (n:Nt)
set_option maxHeartbeats 1000000
end Go.e8

namespace Go.e8
open F
attribute [local irreducible] AA AF AM AE C8 AX BF BD B9 B2 CX E9 B0 A5 B5 CQ AB A7 AJ pw BR BO C4 D0 DZ DU DN BZ DW
variable {L:Lib}
set_option maxHeartbeats 16000000
theorem mH (m p:Nat):(List.replicate m (0:Rat)).set p 1=DE m p:=by
 refine List.ext_getElem? λ j => ?_
 simp only[DE,List.getElem?_set,List.getElem?_map,List.getElem?_replicate,List.length_replicate];by_cases h:j<m
 ·rw[List.getElem?_range h]
  by_cases e:p=j
  ·subst e;simp [h]
  ·simp [h,e];intro h3;omega
 ·rw[List.getElem?_eq_none (by simpa using h)]
  simp [h];intro e;omega
def fz {α:Type} (z:α) (l:List α) (m:Nat):List α:=l++List.replicate (m-l.length) z
theorem bL {α:Type} {z:α} {l:List α} {m:Nat} (h:l.length<=m):(fz z l m).length=m:=by simp [fz];omega
theorem bM {α:Type} {z x:α} {l:List α} {m:Nat} (h:l.length<m):(fz z l m).set l.length x=fz z (l++[x]) m:=by
 unfold fz;obtain ⟨k,hk⟩ : ∃ k,m-l.length=k+1:=⟨m-l.length-1,by omega⟩;rw[List.set_append_right _ _ (by simp),hk,Nat.sub_self,List.replicate_succ,List.set_cons_zero,List.length_append,List.length_singleton,show m-(l.length+1)=k by omega,List.append_assoc];rfl
theorem tC {α:Type} {z:α} {l:List α} {m:Nat} (h:l.length<m):(fz z l m)[l.length]? = some z:=by
 unfold fz;rw[List.getElem?_append_right (by omega),Nat.sub_self,List.getElem?_replicate,if_pos (by omega)]
theorem bK {α:Type} {z:α} {l:List α} {m:Nat} (h:l.length=m):fz z l m=l:=by simp [fz,h]
theorem NX {α:Type} {l:List α} {i:Nat} {x:α} (h:l[i]? = some x):l.take (i+1)=l.take i++[x]:=by
 rw[List.take_add_one,h];rfl
theorem Ahv {X:List Rat} {n j:Nat} (h:j*n+n<=X.length):(VD X n j).length=n:=by
 simp only[VD,List.length_drop,List.length_take];omega
theorem DQ.Ok.le {S:DQ} {n k j:Nat} (h:S.Ok n k) (hj:k<=j):S.Ok n j:=⟨h.la,h.lr,h.lb,h.lc,λ r hr=>(h.ba r hr).le hj,h.bb.le hj,h.bc.le hj,h.bd.le hj⟩
end Go.e8

namespace Go.e8
def hQ (S:DQ):Nat->Rat
 | 0=>S.d
 | j+1=>A2 S.c (wQ S j)
theorem pQ {l:List Rat} : ∀ {n i:Nat},CP l n<=i->i<n->l.getD i 0=0
 | 0,i,_,h=>by omega
 | n+1,i,h,hi=>by
  rw[CP]at h;split at h
  ·rename_i h0
   by_cases e:i=n
   ·subst e;exact h0
   ·exact pQ h (by omega)
  ·omega
theorem Aiw (l:List Rat) (i:Nat):(BW l).getD i 0=l.getD i 0:=by
 by_cases h:i<CP l l.length
 ·have:=IW l l.length
  rw[BW,List.getD_eq_getElem?_getD,List.getElem?_take_of_lt h,List.getD_eq_getElem?_getD]
 ·rw[JV (by rw[J8];omega)]
  by_cases h2:i<l.length
  ·exact (pQ (by omega) h2).symm
  ·exact (JV (by omega)).symm
theorem N8 {R:List (Option (Nat × List (List AV)))} {i e z:Nat} {es:List (List AV)} {K:Option (Nat × List (List AV))->Prop} (he:e=i) (hi:i<R.length) (h:K (some (z,es))):BR (R.set i (some (z,es))) e K:=by
 subst he;exact ⟨_,by rw[List.getElem?_set,if_pos rfl,if_pos hi],h⟩
theorem JN {R:List (Option (Nat × List (List AV)))} {i e z:Nat} {es:List (List AV)} {K:Nat->List (List AV)->Prop} (he:e=i) (hi:i<R.length) (h:K z es):BO (R.set i (some (z,es))) e K:=by
 subst he;exact ⟨z,es,by rw[List.getElem?_set,if_pos rfl,if_pos hi],h⟩
theorem V1 {R:List (Option (Nat × List (List AV)))} {i e z:Nat} {es es':List (List AV)} {K:List (Option (Nat × List (List AV)))->Prop} (he:e=i) (hl:es'.length=es.length) (h:K (R.set i (some (z,es')))):D0 (R.set i (some (z,es))) e z es es' K:=by
 subst he;exact ⟨hl,by rw[List.set_set];exact h⟩
theorem OB {R:List (Option (Nat × List (List AV)))} {i e z:Nat} {es:List (List AV)} {K:List (Option (Nat × List (List AV)))->Prop} (he:e=i) (hi:i<R.length) (h:K (R.set i (some (z,es)))):C4 R e z es K:=by
 subst he;exact ⟨hi,h⟩
theorem RC {r:List Rat} (h:BW r=r) (hn:r.length≠0):r.getD (r.length-1) 0≠0:=by
 have hl:=J8 r;rw[h]at hl;obtain ⟨n,qt⟩ : ∃ n,r.length=n+1:=⟨r.length-1,by omega⟩;rw[qt,CP]at hl;rw[qt,Nat.add_sub_cancel];intro h0;rw[if_pos h0]at hl;have:=IW r n
 omega
def B4 (B A:List Rat) (n:Nat):DQ where
 a:=(List.range n).map λ i=>if i=0 then (List.range n).map λ k => -(A.getD (k+1) 0) else DE n ((i-1:Nat):Int)
 b:=DE n 0
 c:=(List.range n).map λ i=>B.getD (i+1) 0-B.getD 0 0*A.getD (i+1) 0
 d:=B.getD 0 0
end Go.e8

namespace Go.e8
section
variable {M ky:Nat} {g:List Pt}
end
end Go.e8

namespace Go.e8
open F
attribute [local irreducible] AA AF AM AE C8 AX BF BD B9 B2 CX E9 B0 A5 B5 CQ AB A7 AJ pw BR BO C4 D0 DZ DU DN BZ DW
variable {L:Lib}
set_option maxHeartbeats 16000000
def mz (Q:List (List Rat)) (n i:Nat):List (Option (Nat × List (List AV))):=fz none (BM 3 eQ (Q.take i)) n
theorem W4 {Q:List (List Rat)} {n i:Nat} (hi:i<=n):(mz Q n i).length=n:=by
 refine bL ?_;simp only[BM,List.length_map,List.length_take];omega
theorem W6 (Q:List (List Rat)) (n:Nat):mz Q n 0=List.replicate n none:=by simp [mz,fz]
theorem W5 {Q:List (List Rat)} {n i:Nat} {row:List Rat} (h:Q[i]? = some row) (hi:i<n):(mz Q n i).set i (some (3,row.map eQ))=mz Q n (i+1):=by
 have h1:=(zS h).1;have hl:(BM 3 eQ (Q.take i)).length=i:=by simp only[BM,List.length_map,List.length_take];omega
 have:=bM (z:=none) (l:=BM 3 eQ (Q.take i)) (m:=n) (x:=some (3,row.map eQ)) (by omega)
 rw[hl]at this;rw[mz,this,mz,NX h];simp [BM]
theorem W3 {Q:List (List Rat)} {n:Nat} (h:Q.length=n):mz Q n n=BM 3 eQ Q:=by
 rw[mz,zT (by omega)];exact bK (by simp [BM,h])
def cz (row:List Rat) (n j:Nat):List Rat:=fz 0 (row.take j) n
theorem Xl {row:List Rat} {n j:Nat} (hj:j<=n):(cz row n j).length=n:=by
 refine bL ?_;rw[List.length_take];omega
theorem Xn (row:List Rat) (n:Nat):cz row n 0=List.replicate n 0:=by simp [cz,fz]
theorem Xm {row:List Rat} {n j:Nat} {x:Rat} (h:row[j]? = some x) (hj:j<n):(cz row n j).set j x=cz row n (j+1):=by
 have h1:=(zS h).1;have hl:(row.take j).length=j:=by rw[List.length_take];omega
 have:=bM (z:=(0:Rat)) (l:=row.take j) (m:=n) (x:=x) (by omega)
 rw[hl]at this;rw[cz,this,cz,NX h]
theorem Xk {row:List Rat} {n:Nat} (h:row.length=n):cz row n n=row:=by
 rw[cz,zT (by omega)];exact bK h
end Go.e8
