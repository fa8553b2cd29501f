/-
  Natural numbers (layer 1): one digit of a long division, in the caller's memory.
-/
import Derived.Test.YtdehnieflanifaaGreatB8
import Derived.Test.YtdehnieflanifaaGreatB7
import Derived.Test.YtdehnieflanifaaGreatB4
set_option linter.unusedSimpArgs false
set_option linter.unusedVariables false
set_option linter.unnecessarySimpa false
namespace Go.Eng
open F
attribute [local irreducible] AKM CmpP Req OpP UnP ConvP RdP LdR StR MkR LenP AppR AppN CpyR RowP SnR Bds SlS CallP CalP FinP pw LdM GetM SetM PutM MkM AppM SnM FlP CallR
set_option maxHeartbeats 4000000
variable {L:Lib}
abbrev dvTM (v:List Nat) (j m s xl:Nat):Tm:=[(102,AV.sl false (List.map e32 v)),(101,AV.row 71012 0 1 j (v.length+1)),
           (100,AV.int IntKind.i64 (↑j + ↑v.length+1)),(99,AV.int IntKind.i64 (↑j + ↑v.length)),
           (98,AV.int IntKind.i64 ↑v.length),(97,AV.int IntKind.i64 ↑j),(96,AV.int IntKind.i64 ↑j),
           (95,AV.row 71012 0 1 0 (xl+1)),(94,AV.int IntKind.i64 ↑j),(93,AV.row 28 0 1 0 m),
           (90,AV.bool true),(14,AV.int IntKind.i64 ↑j),(13,AV.sl false (List.map e32 v)),
           (12,AV.row 71012 0 1 0 (xl+1)),(11,AV.int IntKind.u64 ↑s),(7,AV.row 28 0 1 0 m),
           (6,AV.int IntKind.i64 ↑v.length)]
abbrev dvK2:List It:=[It.lp nat_digit.l2,It.blk 2,It.code
      (((ACode.ops nat_digit.r18 false).dr [9,10,84,85,86,87,118,119,120,121,122,123,124,125,126]
         []).seq
       (((ACode.ops nat_digit.r19 false).dr [127,128,129,130,131] []).seq
        ((((ACode.ops nat_digit.r20 false).dr [15,132,133] []).seq
           (ACode.cond 134
            (((ACode.ops nat_digit.r21 false).dr [0,1,5,7,134,135,136] []).seq ACode.ret)
            ACode.skip)).seq
         (((ACode.ops nat_digit.r22 false).dr [134] []).seq
          ((((ACode.ops nat_digit.r23 false).dr [1] []).seq (ACode.block 4 nat_digit.l3.loop)).seq
           (((ACode.ops nat_digit.r30 false).dr
              [0,5,9,137,138,139,140,162,163,164,165,166,167,168,169] []).seq
            (((ACode.ops nat_digit.r31 false).dr [7,170,171,172] []).seq ACode.ret)))))))]
section
variable {A W C w v:List Nat} {j m s xl q:Nat} {K:AV→Mem→Prop}
theorem digit_rest (hA:A.length=j) (hW:W.length=v.length+1) (D2:Dig W) (hVD:Dig v) (hv2l:2≤v.length) (hvL:v.length≤549755813888) (hV0:0<val v)
  (r1:q<4294967296) (r2:val W/val v≤q) (r3:q≤val W/val v+1)
  (hk : ∀ (W':List Nat) (o':List (List AV)) (q':Nat),W'.length=v.length+1→Dig W'→val W'=val W%val v→q'=val W/val v→K (.int .u32 (q':Int)) [(71012,71012,.rw 1 ((A++W'++C).map e32)),(28,28,.rw 1 (w.map e32)),(71012,71012,.rw 1 o')])
  (hk2 : ∀ (W':List Nat) (o':List (List AV)) (q':Nat),W'.length=v.length+1→Dig W'→val W'=val W%val v→q'=val W/val v→K (.int .u32 (q':Int)) [(71012,71012,.rw 1 ((A++W'++C).map e32)),(71012,71012,.rw 1 o'),(28,28,.rw 1 (w.map e32))]) :
  AKM L dvK2 ([(86,.int .i64 0),(85,.int .i64 v.length),(84,.sl false (v.map e32)),(10,.int .u64 0),(9,.int .u64 0),(7,.int .u64 (q:Int)),(5,.int .i64 v.length),(0,AV.row 71012 0 1 j (v.length+1)),(1,AV.sl false (List.map e32 v))]++shT 1000 (dvTM v j m s xl))
   [(71012,71012,Cel.rw 1 (List.map e32 (A++W++C))),(28,28,Cel.rw 1 (List.map e32 w))] (RetI 1000 nat_digit (dvTM v j m s xl) K):=by
 refine AKM.loop4 (fun i _ _ _=>v.length-i) (fun (i:Nat) (Z:List Nat) (c b:Nat)=>i≤v.length∧Z.length=v.length+1∧Dig Z∧c<4294967296∧b≤1∧Z.drop i=W.drop i∧val (Z.take i)+q*val (v.take i)=val (W.take i)+4294967296^i*(c+b)) (fun i Z c b=>[(86,.int .i64 i),(10,.int .u64 (b:Int)),(9,.int .u64 (c:Int))]) (fun i Z c b=>[(71012,71012,.rw 1 ((A++Z++C).map e32))]) [] [] 0 W 0 0 (by (conv=>whnf);exact ⟨rfl,rfl,rfl⟩) ⟨by omega,hW,D2,by omega,by omega,rfl,by simp [val]⟩ ?_
 intro i Z c b ⟨p1,p2,p3,p4,p5,p6,p7⟩ ih
 by_cases hi:i<v.length
 ·obtain ⟨d,hd⟩ : ∃ d,v[i]? = some d:=⟨_,List.getElem?_eq_getElem hi⟩
  obtain ⟨u,hu⟩ : ∃ u,Z[i]? = some u:=⟨_,List.getElem?_eq_getElem (by omega)⟩
  have hdb:=hVD.at hd
  have hub:=p3.at hu
  obtain ⟨pr,hpr⟩ : ∃ pr,pr=q*d+c:=⟨_,rfl⟩
  obtain ⟨m1,m2,m3⟩:=ms_carry r1 hdb p4 hpr
  have hWi:W[i]? = some u:=by
   have e1:(Z.drop i)[0]? = (W.drop i)[0]? := by rw[p6]
   simpa [hu] using e1.symm
  (repeat' (first|(refine CmpP.go (fun hc => ?_) (fun hc => ?_)<;>first|(exfalso;omega)|(conv=>whnf))|(refine Req.go ?_ ?_;omega;conv=>whnf)|(refine OpP.nadd ?_ ?_;omega;conv=>whnf)|(refine OpP.nmul ?_ ?_;omega;conv=>whnf)|(refine OpP.nshr32 ?_;conv=>whnf)|(refine ConvP.u64 ?_ ?_;omega;conv=>whnf)|(refine RdP.at (by assumption) ?_ rfl ?_;omega;conv=>whnf)|(refine AKM.x ?_;conv=>whnf)))
  rw[←hpr]
  refine LdR.winat i hu (by omega) ?_
  (conv=>whnf)
  (repeat' (first|(refine Req.go ?_ ?_;omega;conv=>whnf)|(refine OpP.nsubw ?_ ?_;omega;conv=>whnf)|(refine ConvP.u64 ?_ ?_;omega;conv=>whnf)|(refine ConvP.n32 ?_;conv=>whnf)))
  obtain ⟨s1,s2⟩:=sub_step hub (show pr%4294967296<4294967296 by omega) p5
  have hst:=ms_step p7 hpr rfl hub p5
  generalize w64s (w64s u (pr%4294967296)) b=t at *
  refine StR.win i (by omega) (by omega) ?_
  (conv=>whnf)
  (repeat' (first|(refine OpP.add ?_ ?_;omega;conv=>whnf)|(refine OpP.nshr63 ?_;conv=>whnf)))
  refine AKM.back [] (by (conv=>whnf);exact ⟨rfl,rfl,rfl⟩) (ih (i+1) _ _ _ (by omega) ⟨by omega,by simpa using p2,p3.set _ (by omega),m1,s2,?_,?_⟩)
  ·rw[List.drop_set_of_lt (by omega)]
   have e1:(Z.drop i).drop 1=(W.drop i).drop 1:=by rw[p6]
   simpa using e1
  ·rw[val_set_take (by omega),val_take_succ hd,val_take_succ hWi,Nat.pow_succ]
   exact hst
 ·obtain rfl:i=v.length:=by omega
  clear ih
  obtain ⟨u,hu⟩ : ∃ u,Z[v.length]? = some u:=⟨_,List.getElem?_eq_getElem (by omega)⟩
  have hub:=p3.at hu
  have hWi:W[v.length]? = some u:=by
   have e1:(Z.drop v.length)[0]? = (W.drop v.length)[0]? := by rw[p6]
   simpa [hu] using e1.symm
  rw[val_take_all (Nat.le_refl v.length)]at p7
  obtain ⟨s1,s2⟩:=sub_step hub p4 p5
  have hst:=ms_last p7 rfl hub p4 p5
  have eW:val W=val (W.take v.length)+4294967296^v.length*u:=by
   rw[←val_take_succ hWi,val_take_all (by omega)]
  rw[←eW,←val_set_take (show v.length<Z.length by omega),val_take_all (by simp;omega)]at hst
  (repeat' (first|(refine CmpP.go (fun hc => ?_) (fun hc => ?_)<;>first|(exfalso;omega)|(conv=>whnf))|(refine Req.go ?_ ?_;omega;conv=>whnf)|(refine AKM.x ?_;conv=>whnf)))
  refine LdR.winat v.length hu (by omega) ?_
  (conv=>whnf)
  (repeat' (first|(refine Req.go ?_ ?_;omega;conv=>whnf)|(refine OpP.nsubw ?_ ?_;omega;conv=>whnf)|(refine ConvP.u64 ?_ ?_;omega;conv=>whnf)|(refine ConvP.n32 ?_;conv=>whnf)))
  generalize w64s (w64s u c) b=t at *
  refine StR.win v.length (by omega) (by omega) ?_
  (conv=>whnf)
  (repeat' (first|(refine CmpP.go (fun hc => ?_) (fun hc => ?_)<;>first|(exfalso;omega)|(conv=>whnf))|(refine OpP.nshr63 ?_;conv=>whnf)|(refine ConvP.n32i ?_ ?_;omega;conv=>whnf)|(refine LenP.go ?_;conv=>whnf)))
  ·have ht0:t/9223372036854775808=0:=by omega
   rw[ht0,Nat.mul_zero,Nat.add_zero]at hst
   obtain ⟨y1,y2⟩:=digit_ok hV0 r2 hst
   exact ⟨rfl,_,rfl,hk _ _ _ (by simpa using p2) (p3.set _ (by omega)) y2 y1⟩
  ·have ht1:t/9223372036854775808=1:=by omega
   rw[ht1,Nat.mul_one]at hst
   have hXD:Dig (Z.set v.length (t%4294967296)):=p3.set _ (by omega)
   have hXl:(Z.set v.length (t%4294967296)).length=v.length+1:=by simpa using p2
   clear p7 p6 p4 p5 s1 s2 eW ht1 hu hWi hub p1 p2 p3
   generalize Z.set v.length (t%4294967296)=X at *
   have hU':=val_lt hXD
   rw[hXl,Nat.pow_succ]at hU'
   obtain ⟨y1,y2,y3⟩:=digit_back hV0 r3 hU' hst
   have hRV:val W%val v<val v:=Nat.mod_lt _ hV0
   have hVl:=val_lt hVD
   obtain ⟨xw,hxw⟩ : ∃ xw,X[v.length]? = some xw:=⟨_,List.getElem?_eq_getElem (by omega)⟩
   have eX:val X=val (X.take v.length)+4294967296^v.length*xw:=by
    rw[←val_take_succ hxw,val_take_all (by omega)]
   refine AKM.loop3 (fun i _ _=>v.length-i) (fun (i:Nat) (Z:List Nat) (c:Nat)=>i≤v.length∧Z.length=v.length+1∧Dig Z∧c≤1∧Z.drop i=X.drop i∧val (Z.take i)+4294967296^i*c=val (X.take i)+val (v.take i)) (fun i Z c=>[(139,.int .i64 i),(9,.int .u64 (c:Int))]) (fun i Z c=>[(71012,71012,.rw 1 ((A++Z++C).map e32))]) [] [] 0 X 0 (by (conv=>whnf);exact ⟨rfl,rfl,rfl⟩) ⟨by omega,hXl,hXD,by omega,rfl,by simp [val]⟩ ?_
   intro i Z c ⟨p1,p2,p3,p4,p6,p7⟩ ih
   by_cases hi:i<v.length
   ·obtain ⟨d,hd⟩ : ∃ d,v[i]? = some d:=⟨_,List.getElem?_eq_getElem hi⟩
    obtain ⟨u,hu⟩ : ∃ u,Z[i]? = some u:=⟨_,List.getElem?_eq_getElem (by omega)⟩
    have hdb:=hVD.at hd
    have hub:=p3.at hu
    have hXi:X[i]? = some u:=by
     have e1:(Z.drop i)[0]? = (X.drop i)[0]? := by rw[p6]
     simpa [hu] using e1.symm
    have hab:=ab_step (d:=d) (w:=u) p7 rfl
    (repeat' (first|(refine CmpP.go (fun hc => ?_) (fun hc => ?_)<;>first|(exfalso;omega)|(conv=>whnf))|(refine Req.go ?_ ?_;omega;conv=>whnf)|(refine RdP.at (by assumption) ?_ rfl ?_;omega;conv=>whnf)|(refine AKM.x ?_;conv=>whnf)))
    refine LdR.winat i hu (by omega) ?_
    (conv=>whnf)
    (repeat' (first|(refine Req.go ?_ ?_;omega;conv=>whnf)|(refine OpP.nadd ?_ ?_;omega;conv=>whnf)|(refine ConvP.u64 ?_ ?_;omega;conv=>whnf)|(refine ConvP.n32 ?_;conv=>whnf)))
    generalize ht2:u+d+c=t2 at *
    refine StR.win i (by omega) (by omega) ?_
    (conv=>whnf)
    (repeat' (first|(refine OpP.add ?_ ?_;omega;conv=>whnf)|(refine OpP.nshr32 ?_;conv=>whnf)))
    refine AKM.back [] (by (conv=>whnf);exact ⟨rfl,rfl,rfl⟩) (ih (i+1) _ _ (by omega) ⟨by omega,by simpa using p2,p3.set _ (by omega),by omega,?_,?_⟩)
    ·rw[List.drop_set_of_lt (by omega)]
     have e1:(Z.drop i).drop 1=(X.drop i).drop 1:=by rw[p6]
     simpa using e1
    ·rw[val_set_take (by omega),val_take_succ hd,val_take_succ hXi,Nat.pow_succ]
     exact hab
   ·obtain rfl:i=v.length:=by omega
    clear ih
    obtain ⟨u,hu⟩ : ∃ u,Z[v.length]? = some u:=⟨_,List.getElem?_eq_getElem (by omega)⟩
    have hub:=p3.at hu
    have hXi:X[v.length]? = some u:=by
     have e1:(Z.drop v.length)[0]? = (X.drop v.length)[0]? := by rw[p6]
     simpa [hu] using e1.symm
    rw[hXi]at hxw
    obtain rfl:u=xw:=by simpa using hxw
    rw[val_take_all (Nat.le_refl v.length)]at p7
    have hZl:=val_lt (p3.take v.length)
    rw[List.length_take,Nat.min_eq_left (by omega)]at hZl
    rw[eX]at y3
    have hend:=ab_last p7 y3 (by omega) hZl
    rw[←val_set_take (show v.length<Z.length by omega),val_take_all (by simp;omega)]at hend
    (repeat' (first|(refine CmpP.go (fun hc => ?_) (fun hc => ?_)<;>first|(exfalso;omega)|(conv=>whnf))|(refine Req.go ?_ ?_;omega;conv=>whnf)|(refine AKM.x ?_;conv=>whnf)))
    refine LdR.winat v.length hu (by omega) ?_
    (conv=>whnf)
    (repeat' (first|(refine Req.go ?_ ?_;omega;conv=>whnf)|(refine OpP.nadd4 ?_;conv=>whnf)|(refine ConvP.n32i ?_ ?_;omega;conv=>whnf)))
    refine StR.win v.length (by omega) (by omega) ?_
    (conv=>whnf)
    (repeat' (first|(refine OpP.nsub ?_ ?_ ?_;omega;omega;conv=>whnf)|(refine ConvP.n32i ?_ ?_;omega;conv=>whnf)))
    exact ⟨rfl,_,rfl,hk2 _ _ _ (by simpa using p2) (p3.set _ (by omega)) hend y1⟩
theorem digit_walk (N:NatGLib L) (hA:A.length=j) (hW:W.length=v.length+1) (D2:Dig W) (hVD:Dig v) (hv2l:2≤v.length) (hvL:v.length≤549755813888) (hV0:0<val v)
  (n2:4294967296^(v.length-1)*2147483648≤val v) (g2:val W<4294967296*val v)
  (hk : ∀ (W':List Nat) (o':List (List AV)) (q':Nat),W'.length=v.length+1→Dig W'→val W'=val W%val v→q'=val W/val v→K (.int .u32 (q':Int)) [(71012,71012,.rw 1 ((A++W'++C).map e32)),(28,28,.rw 1 (w.map e32)),(71012,71012,.rw 1 o')])
  (hk2 : ∀ (W':List Nat) (o':List (List AV)) (q':Nat),W'.length=v.length+1→Dig W'→val W'=val W%val v→q'=val W/val v→K (.int .u32 (q':Int)) [(71012,71012,.rw 1 ((A++W'++C).map e32)),(71012,71012,.rw 1 o'),(28,28,.rw 1 (w.map e32))]) :
  CalP L 73 [AV.row 71012 0 1 j (v.length+1),AV.sl false (List.map e32 v)] (dvTM v j m s xl) [(71012,71012,Cel.rw 1 (List.map e32 (A++W++C))),(28,28,Cel.rw 1 (List.map e32 w))] K:=by
 obtain ⟨UL,a1,a2⟩:=val_top3 D2 (n:=v.length+1) (by omega) (by omega)
 obtain ⟨VL,b5,b6⟩:=val_top2 hVD (n:=v.length) hv2l (by omega)
 obtain ⟨u0,w0⟩ : ∃ d,W[v.length]? = some d:=⟨_,List.getElem?_eq_getElem (by omega)⟩
 obtain ⟨u1,w1⟩ : ∃ d,W[v.length-1]? = some d:=⟨_,List.getElem?_eq_getElem (by omega)⟩
 obtain ⟨u2,w2⟩ : ∃ d,W[v.length-2]? = some d:=⟨_,List.getElem?_eq_getElem (by omega)⟩
 obtain ⟨f1,x1⟩ : ∃ d,v[v.length-1]? = some d:=⟨_,List.getElem?_eq_getElem (by omega)⟩
 obtain ⟨f2,x2⟩ : ∃ d,v[v.length-2]? = some d:=⟨_,List.getElem?_eq_getElem (by omega)⟩
 rw[show v.length+1-3=v.length-2 by omega,show v.length+1-2=v.length-1 by omega,show v.length+1-1=v.length by omega,getD_is w0,getD_is w1,getD_is w2]at a2
 rw[show v.length+1-3=v.length-2 by omega]at a1
 rw[getD_is x1,getD_is x2]at b6
 have hf1:=top_ge hVD (k:=v.length-1) (by omega) n2 x1
 have k0:=D2.at w0
 have k1:=D2.at w1
 have k2:=D2.at w2
 have k3:=hVD.at x1
 have k4:=hVD.at x2
 have z1:v[((v.length:Int)-1).toNat]? = some f1:=by rw[show ((v.length:Int)-1).toNat=v.length-1 by omega];exact x1
 have z2:v[((v.length:Int)-2).toNat]? = some f2:=by rw[show ((v.length:Int)-2).toNat=v.length-2 by omega];exact x2
 refine CalP.walk 1000 N.nat_digit rfl rfl ?_
 (repeat' (first|(refine Req.go ?_ ?_;omega;conv=>whnf)|(refine LenP.go ?_;conv=>whnf)|(refine AKM.x ?_;conv=>whnf)))
 refine LdR.winat v.length w0 (by omega) ?_
 (conv=>whnf)
 (repeat' (first|(refine Req.go ?_ ?_;omega;conv=>whnf)|(refine OpP.sub ?_ ?_;omega;conv=>whnf)|(refine OpP.nshl32 ?_ ?_;omega;conv=>whnf)|(refine ConvP.u64 ?_ ?_;omega;conv=>whnf)))
 refine LdR.winat (v.length-1) w1 (by omega) ?_
 (conv=>whnf)
 refine ConvP.n64 (by omega) ?_
 (conv=>whnf)
 refine OpP.nor (by omega) ?_
 (conv=>whnf)
 generalize htop:u0*4294967296+u1=top at *
 have htb:top≤18446744073709551615:=by omega
 have hU:val W=UL+4294967296^(v.length-2)*(u2+4294967296*top):=by rw[a2,show u1+4294967296*u0=top by omega]
 (repeat' (first|(refine OpP.sub ?_ ?_;omega;conv=>whnf)|(refine OpP.nrem ?_ ?_;omega;conv=>whnf)|(refine OpP.nquo ?_ ?_ ?_;omega;omega;conv=>whnf)|(refine ConvP.u64 ?_ ?_;omega;conv=>whnf)|(refine RdP.at (by assumption) ?_ rfl ?_;omega;conv=>whnf)))
 refine AKM.loop2 (fun q _=>q) (fun (q r:Nat)=>Gs (val W) (val v) f1 f2 u2 top q r) (fun q r=>[(7,.int .u64 (q:Int)),(8,.int .u64 (r:Int))]) (fun _ _=>[]) [] [] (top/f1) (top%f1) (by (conv=>whnf);exact ⟨rfl,rfl,rfl⟩) (Gs.start hU b6 a1 k2 hV0 (by omega) k3) ?_
 intro q r g ih2
 have hqt:q≤top:=by
  have h3:=g.hq
  have h4:q*1≤q*f1:=Nat.mul_le_mul_left q (by omega)
  omega
 have hr:=g.hr
 have hge:=g.ge
 by_cases hb:4294967296≤q
 ·obtain ⟨y1,y2,y3⟩:=g.next hU b6 a1 hV0 g2 (Or.inl hb)
  (repeat' (first|(refine CmpP.go (fun hc => ?_) (fun hc => ?_)<;>first|(exfalso;omega)|(conv=>whnf))|(refine OpP.sub ?_ ?_;omega;conv=>whnf)|(refine OpP.nadd ?_ ?_;omega;conv=>whnf)|(refine OpP.nsub ?_ ?_ ?_;omega;omega;conv=>whnf)|(refine ConvP.u64 ?_ ?_;omega;conv=>whnf)|(refine LenP.go ?_;conv=>whnf)|(refine RdP.at (by assumption) ?_ rfl ?_;omega;conv=>whnf)|(refine AKM.x ?_;conv=>whnf)))
  ·obtain ⟨t1,t2⟩:=guess_stop hU b6 b5 hf1 k4 g2 y2 (Or.inr (by omega))
   exact AKM.back [] (by (conv=>whnf);exact ⟨rfl,rfl,rfl⟩) (digit_rest (w:=w) (C:=C) hA hW D2 hVD hv2l hvL hV0 t1 y3 t2 hk hk2)
  ·exact AKM.back [] (by (conv=>whnf);exact ⟨rfl,rfl,rfl⟩) (ih2 (q-1) (r+f1) (by omega) ⟨y2,by omega,y3⟩)
 ·have hmq:=mul_le_dig (show q<4294967296 by omega) k4
  by_cases hb2:r*4294967296+u2<q*f2
  ·obtain ⟨y1,y2,y3⟩:=g.next hU b6 a1 hV0 g2 (Or.inr hb2)
   (repeat' (first|(refine CmpP.go (fun hc => ?_) (fun hc => ?_)<;>first|(exfalso;omega)|(conv=>whnf))|(refine Req.go ?_ ?_;omega;conv=>whnf)|(refine OpP.sub ?_ ?_;omega;conv=>whnf)|(refine OpP.nmul ?_ ?_;omega;conv=>whnf)|(refine OpP.nshl32 ?_ ?_;omega;conv=>whnf)|(refine ConvP.u64 ?_ ?_;omega;conv=>whnf)|(refine RdP.at (by assumption) ?_ rfl ?_;omega;conv=>whnf)|(refine AKM.x ?_;conv=>whnf)))
   refine LdR.winat (v.length-2) w2 (by omega) ?_
   (conv=>whnf)
   (repeat' (first|(refine CmpP.go (fun hc => ?_) (fun hc => ?_)<;>first|(exfalso;omega)|(conv=>whnf))|(refine OpP.sub ?_ ?_;omega;conv=>whnf)|(refine OpP.nadd ?_ ?_;omega;conv=>whnf)|(refine OpP.nor ?_ ?_;omega;conv=>whnf)|(refine OpP.nsub ?_ ?_ ?_;omega;omega;conv=>whnf)|(refine ConvP.u64 ?_ ?_;omega;conv=>whnf)|(refine LenP.go ?_;conv=>whnf)|(refine RdP.at (by assumption) ?_ rfl ?_;omega;conv=>whnf)))
   ·obtain ⟨t1,t2⟩:=guess_stop hU b6 b5 hf1 k4 g2 y2 (Or.inr (by omega))
    exact AKM.back [] (by (conv=>whnf);exact ⟨rfl,rfl,rfl⟩) (digit_rest (w:=w) (C:=C) hA hW D2 hVD hv2l hvL hV0 t1 y3 t2 hk hk2)
   ·exact AKM.back [] (by (conv=>whnf);exact ⟨rfl,rfl,rfl⟩) (ih2 (q-1) (r+f1) (by omega) ⟨y2,by omega,y3⟩)
  ·obtain ⟨t1,t2⟩:=guess_stop hU b6 b5 hf1 k4 g2 g.hq (Or.inl ⟨by omega,by omega⟩)
   (repeat' (first|(refine CmpP.go (fun hc => ?_) (fun hc => ?_)<;>first|(exfalso;omega)|(conv=>whnf))|(refine Req.go ?_ ?_;omega;conv=>whnf)|(refine OpP.sub ?_ ?_;omega;conv=>whnf)|(refine OpP.nmul ?_ ?_;omega;conv=>whnf)|(refine OpP.nshl32 ?_ ?_;omega;conv=>whnf)|(refine ConvP.u64 ?_ ?_;omega;conv=>whnf)|(refine RdP.at (by assumption) ?_ rfl ?_;omega;conv=>whnf)|(refine AKM.x ?_;conv=>whnf)))
   refine LdR.winat (v.length-2) w2 (by omega) ?_
   (conv=>whnf)
   (repeat' (first|(refine CmpP.go (fun hc => ?_) (fun hc => ?_)<;>first|(exfalso;omega)|(conv=>whnf))|(refine OpP.nor ?_ ?_;omega;conv=>whnf)|(refine ConvP.u64 ?_ ?_;omega;conv=>whnf)|(refine LenP.go ?_;conv=>whnf)))
   exact AKM.back [] (by (conv=>whnf);exact ⟨rfl,rfl,rfl⟩) (digit_rest (w:=w) (C:=C) hA hW D2 hVD hv2l hvL hV0 t1 hge t2 hk hk2)
end
end Go.Eng
namespace Go.Eng
open F
attribute [local irreducible] AKM CmpP Req OpP UnP ConvP RdP LdR StR MkR LenP AppR AppN CpyR RowP SnR Bds SlS CallP CalP FinP pw LdM GetM SetM PutM MkM AppM SnM FlP CallR
set_option maxHeartbeats 4000000
variable {L:Lib}
theorem small_step {V R y d t Q:Nat} (h:Q*y+R=V) (ht:t=R*4294967296+d):(t/y+4294967296*Q)*y+t%y=d+4294967296*V:=by
 have:=Nat.div_add_mod t y
 rw[←h,Nat.add_mul]
 have e:t/y*y=y*(t/y):=Nat.mul_comm _ _
 grind
theorem cl_pair (a b:List Nat):Clean (.tup [.sl false (a.map e32),.sl false (b.map e32)]):=by
 simp only[Clean,CleanL,and_true,true_and]
 exact ⟨cl_dig a,cl_dig b⟩
set_option maxHeartbeats 4000000 in
theorem ev_nat_divide (N:NatGLib L) (X Y:Nat) (q1 q2:Bool) (hY:Y≠0) (lx:(dg X).length≤549755813888) (ly:(dg Y).length≤549755813888):Ev L 74 [.sl q1 ((dg X).map e32),.sl q2 ((dg Y).map e32)] (.tup [.sl false ((dg (X/Y)).map e32),.sl false ((dg (X%Y)).map e32)]):=by
 have hcmp:=fun q q'=>ev_nat_Compare N (dg X) (dg Y) q q' (dig_dg X) (dig_dg Y) (by omega) (by omega)
 rw[val_dg,val_dg]at hcmp
 have d1:=dig_dg X
 have d2:=dig_dg Y
 have v1:=val_dg X
 have v2:=val_dg Y
 have hy1:=dg_len_pos hY
 refine Ev.x N.nat_divide rfl rfl ?_
 by_cases hlt:X<Y
 ·have hn:cmpS X Y = -1:=(cmpS_lt (by omega)).symm
  rw[hn]at hcmp
  (repeat' (first|(refine CmpP.go (fun hc => ?_) (fun hc => ?_)<;>first|(exfalso;omega)|(conv=>whnf))|(refine AKM.x ?_;conv=>whnf)|(refine CallP.go (hcmp _ _) ?_;conv=>whnf)|(refine CallP.go (ev_Clone N (dg X) _ (by omega)) ?_;conv=>whnf)))
  refine FinP.go ?_ (cl_pair _ _)
  rw[Nat.div_eq_of_lt hlt,Nat.mod_eq_of_lt hlt,dg_zero];rfl
 have hge:0≤cmpS X Y:=by unfold cmpS;split<;>(try split)<;>omega
 have hll:=dg_len_mono (show Y≤X by omega)
 generalize cmpS X Y=cm at *
 by_cases h1:(dg Y).length=1
 ·-- one digit
  obtain ⟨y0,hy0⟩ : ∃ y0,dg Y=[y0]:=List.length_eq_one_iff.1 h1
  have hyv:Y=y0:=by rw[←v2,hy0];simp [val]
  subst hyv
  have hyb:Y<4294967296:=d2 Y (by rw[hy0];simp)
  have hyg:(dg Y)[0]? = some Y:=by rw[hy0];rfl
  clear hy0 v2
  generalize dg Y=y at *
  generalize hx:dg X=x at *
  (repeat' (first|(refine CmpP.go (fun hc => ?_) (fun hc => ?_)<;>first|(exfalso;omega)|(conv=>whnf))|(refine OpP.add ?_ ?_;omega;conv=>whnf)|(refine OpP.sub ?_ ?_;omega;conv=>whnf)|(refine LenP.go ?_;conv=>whnf)|(refine AKM.x ?_;conv=>whnf)|(refine CallP.go (hcmp _ _) ?_;conv=>whnf)))
  refine MkR.go (enc:=e32) 0 x.length rfl (by omega) (by omega) ?_
  (conv=>whnf)
  (repeat' (first|(refine CmpP.go (fun hc => ?_) (fun hc => ?_)<;>first|(exfalso;omega)|(conv=>whnf))|(refine OpP.sub ?_ ?_;omega;conv=>whnf)|(refine LenP.go ?_;conv=>whnf)))
  refine AKM.loop3 (fun n _ _=>n) (fun (n:Nat) (o:List Nat) (r:Nat)=>n≤x.length∧o.length=x.length∧Dig o∧r<Y∧val (o.drop n)*Y+r=val (x.drop n)) (fun n o r=>[(8,.int .u64 (r:Int)),(9,.int .i64 ((n:Int)-1))]) (fun n o r=>[(28,28,.rw 1 (o.map e32))]) [] [] x.length (List.replicate x.length 0) 0 (by (conv=>whnf);exact ⟨rfl,rfl,rfl⟩) ⟨by omega,by simp,dig_zeros _,by omega,by rw[List.drop_of_length_le (Nat.le_refl _),List.drop_of_length_le (by simp)];simp [val]⟩ ?_
  intro n o r ⟨p1,p2,p3,p4,p5⟩ ih
  rcases n with _|n
  ·rw[List.drop_zero,List.drop_zero]at p5
   have hq:X/Y=val o∧X%Y=r:=by
    rw[←v1,←p5]
    have e1:(val o*Y+r)/Y=val o:=by
     rw[Nat.mul_comm,Nat.mul_add_div (by omega),Nat.div_eq_of_lt p4,Nat.add_zero]
    have e2:(val o*Y+r)%Y=r:=by
     rw[Nat.mul_comm,Nat.mul_add_mod,Nat.mod_eq_of_lt p4]
    exact ⟨e1,e2⟩
   rw[hq.1,hq.2,←p2]
   clear ih hq p5
   have hl1:=dg_len_val p3
   have hr1:Dig [r]:=dig_one (by omega)
   have hl2:=dg_len_val hr1
   have hv1:val [r]=r:=by simp [val]
   have hl3:[r].length=1:=rfl
   (repeat' (first|(refine CmpP.go (fun hc => ?_) (fun hc => ?_)<;>first|(exfalso;omega)|(conv=>whnf))|(refine ConvP.n32i ?_ ?_;omega;conv=>whnf)|(refine AKM.x ?_;conv=>whnf)|(refine CalP.cutR N (by assumption) (by omega) rfl (by first|rfl|omega|assumption) ?_;conv=>whnf)))
   refine SnR.part (enc:=e32) (fun _=>rfl) (by omega) ?_
   (conv=>whnf)
   refine SnR.part (enc:=e32) (l:=[r]) (fun _=>rfl) (by omega) ?_
   (conv=>whnf)
   refine FinP.go ?_ (cl_pair _ _)
   rw[List.drop_zero,List.drop_zero,take_dg p3,take_dg hr1,hv1]
  ·have e1:((n+1:Nat):Int)-1=n:=by omega
   rw[e1]
   obtain ⟨d,hd⟩ : ∃ d,x[n]? = some d:=⟨_,List.getElem?_eq_getElem (by omega)⟩
   have hdb:=d1.at hd
   have hYb:Y<4294967296:=hyb
   have hR:r*4294967296+d<Y*4294967296:=by omega
   have hq0:(r*4294967296+d)/Y<4294967296:=(Nat.div_lt_iff_lt_mul (by omega)).2 (by omega)
   (repeat' (first|(refine CmpP.go (fun hc => ?_) (fun hc => ?_)<;>first|(exfalso;omega)|(conv=>whnf))|(refine Req.go ?_ ?_;omega;conv=>whnf)|(refine OpP.nshl32 ?_ ?_;omega;conv=>whnf)|(refine OpP.nor ?_ ?_;omega;conv=>whnf)|(refine OpP.nquo ?_ ?_ ?_;omega;omega;conv=>whnf)|(refine ConvP.u64 ?_ ?_;omega;conv=>whnf)|(refine ConvP.n32i ?_ ?_;omega;conv=>whnf)|(refine RdP.at (by assumption) ?_ rfl ?_;omega;conv=>whnf)|(refine AKM.x ?_;conv=>whnf)))
   obtain ⟨t,ht⟩ : ∃ t,t=r*4294967296+d:=⟨_,rfl⟩
   rw[←ht]at hR hq0 ⊢
   have hm:t%Y<Y:=Nat.mod_lt _ (by omega)
   have hst:=small_step p5 ht
   rw[←val_getD_drop hd]at hst
   clear ht
   skip
   refine StR.dig (by omega) ?_
   (conv=>whnf)
   (repeat' (first|(refine OpP.sub ?_ ?_;omega;conv=>whnf)|(refine OpP.nrem ?_ ?_;omega;conv=>whnf)|(refine ConvP.u64 ?_ ?_;omega;conv=>whnf)|(refine RdP.at (by assumption) ?_ rfl ?_;omega;conv=>whnf)))
   generalize t/Y=tq at *
   generalize t%Y=tr at *
   refine AKM.back [] (by (conv=>whnf);exact ⟨rfl,rfl,rfl⟩) (ih n _ _ (by omega) ⟨by omega,by simpa using p2,p3.set _ (by omega),hm,?_⟩)
   rw[val_getD_drop (l:=o.set n tq) (d:=tq) (by rw[List.getElem?_set_self (by omega)]),List.drop_set_of_lt (by omega)]
   exact hst
 ·-- two digits or more
  have hn2:2≤(dg Y).length:=by omega
  obtain ⟨yt,hyt,hyt0⟩:=dg_top hY
  have hytb:=d2.at hyt
  obtain ⟨b1,b2,b3,b4⟩:=lz_top hyt0 hytb
  have hlz:=ev_LZ32 N yt hytb
  generalize hs:32-blen yt=s at *
  have hs31:s≤31:=by omega
  generalize dg Y=y at *
  generalize hx:dg X=x at *
  have e1:((y.length:Int)-1).toNat=y.length-1:=by omega
  rw[←e1]at hyt
  obtain ⟨rv,hrv,v,hV,hvl,hrve⟩:=ev_nat_lift N y q2 s y.length d2 hs31 (by omega) (by omega)
  subst hrve
  (repeat' (first|(refine CmpP.go (fun hc => ?_) (fun hc => ?_)<;>first|(exfalso;omega)|(conv=>whnf))|(refine OpP.add ?_ ?_;omega;conv=>whnf)|(refine OpP.sub ?_ ?_;omega;conv=>whnf)|(refine LenP.go ?_;conv=>whnf)|(refine AKM.x ?_;conv=>whnf)|(refine CallP.go (hcmp _ _) ?_;conv=>whnf)))
  refine MkR.go (enc:=e32) 0 (x.length-y.length+1) rfl (by omega) (by omega) ?_
  (conv=>whnf)
  (repeat' (first|(refine CmpP.go (fun hc => ?_) (fun hc => ?_)<;>first|(exfalso;omega)|(conv=>whnf))|(refine OpP.add ?_ ?_;omega;conv=>whnf)|(refine OpP.sub ?_ ?_;omega;conv=>whnf)|(refine ConvP.u64 ?_ ?_;omega;conv=>whnf)|(refine LenP.go ?_;conv=>whnf)|(refine RdP.at (by assumption) ?_ rfl ?_;omega;conv=>whnf)|(refine CallP.go (hlz) ?_;conv=>whnf)))
  refine CalP.walk 1000 N.nat_lift rfl rfl ?_
  (repeat' (refine AKM.x ?_;conv=>whnf))
  refine MkR.go (enc:=e32) 0 (x.length+1) rfl (by omega) (by omega) ?_
  (conv=>whnf)
  (repeat' (refine LenP.go ?_;conv=>whnf))
  have hps:=pow_s_le (s:=s) (by omega)
  refine AKM.loop3 (fun i _ _=>x.length-i) (fun (i:Nat) (o:List Nat) (lo:Nat)=>i≤x.length∧o.length=x.length+1∧Dig o∧lo<2^s∧val (o.take i)+4294967296^i*lo=val (x.take i)*2^s) (fun i o lo=>[(8,.int .u32 (lo:Int)),(15,.int .i64 i)]) (fun i o lo=>[(71012,71012,.rw 1 (o.map e32))]) [] [] 0 (List.replicate (x.length+1) 0) 0 (by (conv=>whnf);exact ⟨rfl,rfl,rfl⟩) ⟨by omega,by simp,dig_zeros _,Nat.two_pow_pos s,by simp [val]⟩ ?_
  intro i o lo ⟨p1,p2,p3,p4,p5⟩ ih
  by_cases hi:i<x.length
  ·obtain ⟨d,hd⟩ : ∃ d,x[i]? = some d:=⟨_,List.getElem?_eq_getElem hi⟩
   have hdb:=d1.at hd
   obtain ⟨f1,f2,f3,f4⟩:=sh_facts (s:=s) hdb (by omega)
   (repeat' (first|(refine CmpP.go (fun hc => ?_) (fun hc => ?_)<;>first|(exfalso;omega)|(conv=>whnf))|(refine RdP.at (by assumption) ?_ rfl ?_;omega;conv=>whnf)|(refine AKM.x ?_;conv=>whnf)))
   refine OpP.sh4 (by omega) ?_
   (conv=>whnf)
   skip
   refine OpP.or4 s f1 p4 (by omega) ?_
   (conv=>whnf)
   (repeat' (first|(refine Req.go ?_ ?_;omega;conv=>whnf)|fail))
   refine StR.dig (by omega) ?_
   (conv=>whnf)
   (repeat' (refine ConvP.u64 ?_ ?_;omega;conv=>whnf))
   refine OpP.sh8 (by omega) f4 ?_
   (conv=>whnf)
   (repeat' (first|(refine OpP.add ?_ ?_;omega;conv=>whnf)|(refine OpP.nshr32 ?_;conv=>whnf)|(refine ConvP.n32i ?_ ?_;omega;conv=>whnf)))
   rw[←shHi_def]
   refine AKM.back [] (by (conv=>whnf);exact ⟨rfl,rfl,rfl⟩) (ih (i+1) _ _ (by omega) ⟨by omega,by simpa using p2,p3.set _ (by omega),f2,?_⟩)
   rw[val_set_take (by omega),val_take_succ hd,Nat.pow_succ]
   exact lift_step p5
  obtain rfl:i=x.length:=by omega
  clear ih
  (repeat' (first|(refine CmpP.go (fun hc => ?_) (fun hc => ?_)<;>first|(exfalso;omega)|(conv=>whnf))|(refine Req.go ?_ ?_;omega;conv=>whnf)|(refine LenP.go ?_;conv=>whnf)|(refine AKM.x ?_;conv=>whnf)))
  refine StR.dig (by omega) ?_
  (conv=>whnf)
  skip
  have hU:=lift_end2 p3 (by omega) p2 p5
  have hUl:(o.set x.length lo).length=x.length+1:=by simpa using p2
  clear p3 p4 p5 p2
  generalize o.set x.length lo=u at *
  refine ⟨rfl,_,rfl,?_⟩
  (conv=>whnf)
  (repeat' (first|(refine OpP.sub ?_ ?_;omega;conv=>whnf)|(refine LenP.go ?_;conv=>whnf)|(refine CallP.go (hrv) ?_;conv=>whnf)))
  have hyt':y[y.length-1]? = some yt:=by rw[←e1];exact hyt
  obtain ⟨n1,n2⟩:=lift_norm d2 hyt' (by omega) hs31 b3 b4
  have hVv:val v=Y*2^s:=by rw[←v2];exact hV.2.2 (by rw[hvl];exact n1)
  have hUu:val u=X*2^s:=by
   rw[←v1]
   refine hU.2.2 ?_
   have h3:=val_lt d1
   rw[hUl,Nat.pow_succ]
   exact Nat.lt_of_lt_of_le (Nat.mul_lt_mul_of_pos_right h3 (Nat.two_pow_pos s)) (Nat.mul_le_mul_left _ hps)
  have hVD:=hV.1
  have hUD:=hU.1
  have hVlt:=val_lt hVD
  rw[v2,←hVv]at n2
  rw[←hvl]at n2
  clear hV hU hcmp hrv hlz
  have hv2l:2≤v.length:=by omega
  have hvx:v.length≤x.length:=by omega
  have hvL:v.length≤549755813888:=by omega
  have hxL:x.length≤549755813888:=by omega
  have hX:X<4294967296^x.length:=by rw[←v1];exact val_lt d1
  rw[←hvl]
  generalize hm:x.length-v.length+1=m at *
  have hV0:0<val v:=by
   have:=pow_pos' (v.length-1)
   omega
  have hi0:val (u.drop m)<val v:=by
   have h1:=val_split u m (by omega)
   rw[hUu]at h1
   have h2:X*2^s<4294967296^x.length*2147483648:=Nat.lt_of_lt_of_le (Nat.mul_lt_mul_of_pos_right hX (Nat.two_pow_pos s)) (Nat.mul_le_mul_left _ (Nat.pow_le_pow_right (by omega) hs31))
   have h3:4294967296^x.length=4294967296^m*4294967296^(v.length-1):=by rw[←Nat.pow_add];congr 1;omega
   rw[h3,Nat.mul_assoc]at h2
   refine Nat.lt_of_lt_of_le ?_ n2
   refine Nat.lt_of_mul_lt_mul_left (a:=4294967296^m) ?_
   omega
  have e2:(x.length:Int)-v.length=((m:Nat):Int)-1:=by omega
  rw[e2]
  refine AKM.loop3 (fun n _ _=>n) (fun (n:Nat) (o w:List Nat)=>n≤m∧o.length=x.length+1∧Dig o∧w.length=m∧Dig w∧val (o.drop n)<val v∧X*2^s=val (o.take n)+4294967296^n*(val (w.drop n)*val v+val (o.drop n))) (fun n o w=>[(14,.int .i64 ((n:Int)-1))]) (fun n o w=>[(71012,71012,.rw 1 (o.map e32)),(28,28,.rw 1 (w.map e32))]) [] [] m u (List.replicate m 0) (by (conv=>whnf);exact ⟨rfl,rfl,rfl⟩) ⟨by omega,hUl,hUD,by simp,dig_zeros _,hi0,by rw[←hUu,List.drop_of_length_le (show (List.replicate m 0).length≤m by simp),val_nil,Nat.zero_mul,Nat.zero_add];exact val_split u m (by omega)⟩ ?_
  intro n o w ⟨p1,p2,p3,p4,p5,p6,p7⟩ ih
  rcases n with _|j
  ·clear ih
   rw[List.drop_zero]at p6
   rw[List.take_zero,List.drop_zero,List.drop_zero,val_nil,Nat.zero_add,Nat.pow_zero,Nat.one_mul]at p7
   have hdr:val o=val (o.take v.length):=by
    have h1:=val_splitD o v.length
    rcases Nat.eq_zero_or_pos (val (o.drop v.length)) with h2|h2
    ·rw[h2,Nat.mul_zero,Nat.add_zero]at h1;exact h1
    ·have h3:4294967296^v.length*1≤4294967296^v.length*val (o.drop v.length):=Nat.mul_le_mul_left _ h2
     omega
   have hX0:X/Y=val w∧X%Y=val o/2^s:=by
    obtain ⟨z1,z2⟩:=div_scale (X:=X) (Y:=Y) (Nat.two_pow_pos s)
    rw[←z1,←z2,←hVv,p7]
    have e1:(val w*val v+val o)/val v=val w:=by
     rw[Nat.mul_comm,Nat.mul_add_div hV0,Nat.div_eq_of_lt p6,Nat.add_zero]
    have e2:(val w*val v+val o)%val v=val o:=by
     rw[Nat.mul_comm,Nat.mul_add_mod,Nat.mod_eq_of_lt p6]
    rw[e1,e2]
    exact ⟨rfl,rfl⟩
   rw[hX0.1,hX0.2]
   have hl1:=dg_len_val p5
   obtain ⟨ro,hro,o2,k1,k2,k3,k4⟩:=ev_nat_lower N (o.take v.length) true s (p3.take _) hs31 (by rw[List.length_take];omega)
   subst k4
   rw[hdr,←k3]
   have hl2:=dg_len_val k1
   rw[List.length_take]at k2
   clear p7 hX0 hi0
   (repeat' (first|(refine CmpP.go (fun hc => ?_) (fun hc => ?_)<;>first|(exfalso;omega)|(conv=>whnf))|(refine AKM.x ?_;conv=>whnf)|(refine CalP.cutR N (by assumption) (by omega) rfl (by first|rfl|omega|assumption) ?_;conv=>whnf)))
   refine Bds.up v.length rfl (by omega) ?_
   (conv=>whnf)
   refine SnR.part (enc:=e32) (fun _=>rfl) (by omega) ?_
   (conv=>whnf)
   rw[List.drop_zero,Nat.sub_zero]
   (repeat' (first|(refine CallP.go (hro) ?_;conv=>whnf)|(refine CalP.ro (ro_cut N o2 _ k1 (by omega)) ?_;conv=>whnf)))
   refine SnR.part (enc:=e32) (fun _=>rfl) (by omega) ?_
   (conv=>whnf)
   refine FinP.go ?_ (cl_pair _ _)
   rw[List.drop_zero,take_dg p5]
  ·have e3:((j+1:Nat):Int)-1=j:=by omega
   rw[e3]
   have e4:(v.length:Int).toNat=v.length:=by omega
   obtain ⟨A,W,C,hA,hW,rfl⟩:=dv_cut o j (v.length+1) (by omega)
   obtain ⟨g1,g2,g3⟩:=dv_pre hA hW p3 p6 hVlt
   obtain ⟨D1,D2,D3⟩:=dig_win p3
   have hqb:val W/val v<4294967296:=(Nat.div_lt_iff_lt_mul hV0).2 g2
   have hWV:val W=val W/val v*val v+val W%val v:=by rw[Nat.mul_comm];exact (Nat.div_add_mod _ _).symm
   have hWl:val W%val v<val v:=Nat.mod_lt _ hV0
   have hTot:X*2^s=val A+4294967296^j*val W+4294967296^j*4294967296*(val (w.drop (j+1))*val v):=by
    rw[p7,Nat.mul_add,←g3,Nat.pow_succ];omega
   have hTot2:=dv_next hTot hWV
   have hset : ∀ q',q'=val W/val v→val ((w.set j q').drop j)=val W/val v+4294967296*val (w.drop (j+1)):=fun q' h=>by
    rw[val_getD_drop (l:=w.set j q') (d:=q') (by rw[List.getElem?_set_self (by omega)]),List.drop_set_of_lt (by omega),h]
   have hlen : ∀ W':List Nat,W'.length=v.length+1→(A++W'++C).length=x.length+1:=fun W' h=>by
    rw[←p2];simp [h,hW]
   (repeat' (first|(refine CmpP.go (fun hc => ?_) (fun hc => ?_)<;>first|(exfalso;omega)|(conv=>whnf))|(refine OpP.add ?_ ?_;omega;conv=>whnf)|(refine Bds.ss ?_ ?_;omega;conv=>whnf)|(refine AKM.x ?_;conv=>whnf)))
   rw[show ((j:Int)+v.length+1).toNat-(j:Int).toNat=v.length+1 by omega,show 0+(j:Int).toNat=j by omega]
   refine digit_walk N hA hW D2 hVD hv2l hvL hV0 n2 g2 (fun W' o' q' z1 z2 z3 z4 => ?_) (fun W' o' q' z1 z2 z3 z4 => ?_)
   ·(conv=>whnf)
    (repeat' (first|(refine Req.go ?_ ?_;omega;conv=>whnf)|fail))
    refine StR.dig (by omega) ?_
    (conv=>whnf)
    (repeat' (refine OpP.sub ?_ ?_;omega;conv=>whnf))
    obtain ⟨t1,t2⟩:=dv_post (A:=A) (W:=W') (C:=C) (j:=j) hA g1
    refine AKM.back [] (by (conv=>whnf);exact ⟨rfl,rfl,rfl⟩) (ih j (A++W'++C) (w.set j q') (by omega) ⟨by omega,hlen W' z1,(D1.append z2).append D3,by simpa using p4,p5.set _ (by omega),by omega,?_⟩)
    rw[t1,t2,hset q' z4,z3]
    exact hTot2
   ·(conv=>whnf)
    (repeat' (first|(refine Req.go ?_ ?_;omega;conv=>whnf)|fail))
    refine StR.dig (by omega) ?_
    (conv=>whnf)
    (repeat' (refine OpP.sub ?_ ?_;omega;conv=>whnf))
    obtain ⟨t1,t2⟩:=dv_post (A:=A) (W:=W') (C:=C) (j:=j) hA g1
    refine AKM.back [] (by (conv=>whnf);exact ⟨rfl,rfl,rfl⟩) (ih j (A++W'++C) (w.set j q') (by omega) ⟨by omega,hlen W' z1,(D1.append z2).append D3,by simpa using p4,p5.set _ (by omega),by omega,?_⟩)
    rw[t1,t2,hset q' z4,z3]
    exact hTot2
end Go.Eng

namespace Go.Eng
def LSg (a b c d:Int):Prop:=(0≤a∧b≤0∧c≤0∧0≤d)∨(a≤0∧0≤b∧0≤c∧d≤0)
structure LInv (P Q a b c d p q:Int):Prop where
 hp:p=a*P+b*Q
 hq:q=c*P+d*Q
 sg:LSg a b c d
 pa:0≤p+a
 pb:0≤p+b
 qc:0≤q+c
 qd:0≤q+d
theorem LInv.start {P Q:Int} (hP:0≤P) (hQ:0≤Q):LInv P Q 1 0 0 1 P Q :=
 ⟨by omega,by omega,Or.inl (by omega),by omega,by omega,by omega,by omega⟩
def LGood (P Q a b c d:Int):Prop := ∀ x y K e1 e2:Int,0<K→x=K*P+e1→y=K*Q+e2→0≤e1→e1≤K→0≤e2→e2≤K →
 0≤c*x+d*y∧c*x+d*y<a*x+b*y∧a*x+b*y≤y∧Int.gcd (a*x+b*y) (c*x+d*y)=Int.gcd x y
def LHalf (P Q a b c d:Int):Prop := ∀ x y K e1 e2:Int,0<K→x=K*P+e1→y=K*Q+e2→0≤e1→e1≤K→0≤e2→e2≤K →
 c*x+d*y≤y∧Int.gcd (a*x+b*y) (c*x+d*y)=Int.gcd x y
theorem LHalf.start (P Q:Int):LHalf P Q 1 0 0 1:=by
 intro x y K e1 e2 _ _ _ _ _ _ _
 simp
theorem LGood.half {P Q a b c d:Int} (h:LGood P Q a b c d):LHalf P Q a b c d:=fun x y K e1 e2 h1 h2 h3 h4 h5 h6 h7=>by
 obtain ⟨g1,g2,g3,g4⟩:=h x y K e1 e2 h1 h2 h3 h4 h5 h6 h7
 exact ⟨by omega,g4⟩
theorem gcd_step (X Y f:Int):Int.gcd Y (X-f*Y)=Int.gcd X Y:=by
 rw[Int.gcd_comm X Y]
 exact Int.gcd_sub_mul_right_right Y X f
theorem LInv.step {P Q a b c d p q f:Int} (h:LInv P Q a b c d p q) (hc:q+c≠0) (hd:q+d≠0) (h1:f=(p+a)/(q+c)) (h2:f=(p+b)/(q+d)) :
  LInv P Q c d (a-f*c) (b-f*d) q (p-f*q)∧0≤f∧p-f*q<q∧(LHalf P Q a b c d→LGood P Q c d (a-f*c) (b-f*d)):=by
 have c0:0<q+c:=by have:=h.qc;omega
 have d0:0<q+d:=by have:=h.qd;omega
 have f0:0≤f:=by rw[h1];exact Int.ediv_nonneg h.pa h.qc
 have m1:p-f*q+(a-f*c)=(p+a)%(q+c):=by
  have:=Int.emod_add_mul_ediv (p+a) (q+c)
  rw[←h1]at this
  grind
 have m2:p-f*q+(b-f*d)=(p+b)%(q+d):=by
  have:=Int.emod_add_mul_ediv (p+b) (q+d)
  rw[←h2]at this
  grind
 have n1:0≤p-f*q+(a-f*c):=by rw[m1];exact Int.emod_nonneg _ hc
 have n2:0≤p-f*q+(b-f*d):=by rw[m2];exact Int.emod_nonneg _ hd
 have n3:p-f*q+(a-f*c)<q+c:=by rw[m1];exact Int.emod_lt_of_pos _ c0
 have n4:p-f*q+(b-f*d)<q+d:=by rw[m2];exact Int.emod_lt_of_pos _ d0
 have hq':p-f*q=(a-f*c)*P+(b-f*d)*Q:=by rw[h.hp,h.hq];grind
 have hsg:LSg c d (a-f*c) (b-f*d):=by
  rcases h.sg with ⟨s1,s2,s3,s4⟩|⟨s1,s2,s3,s4⟩
  ·have t1:f*c≤0:=Int.mul_nonpos_of_nonneg_of_nonpos f0 s3
   have t2:0≤f*d:=Int.mul_nonneg f0 s4
   exact Or.inr (by omega)
  ·have t1:0≤f*c:=Int.mul_nonneg f0 s3
   have t2:f*d≤0:=Int.mul_nonpos_of_nonneg_of_nonpos f0 s4
   exact Or.inl (by omega)
 have hlt:p-f*q<q:=by
  rcases hsg with ⟨s1,s2,s3,s4⟩|⟨s1,s2,s3,s4⟩
  ·omega
  ·omega
 refine ⟨⟨h.hq,hq',hsg,h.qc,h.qd,n1,n2⟩,f0,hlt,fun hh => ?_⟩
 intro x y K e1 e2 hK hx hy a1 a2 b1 b2
 obtain ⟨k1,k2⟩:=hh x y K e1 e2 hK hx hy a1 a2 b1 b2
 have eY:c*x+d*y=K*q+c*e1+d*e2:=by rw[hx,hy,h.hq];grind
 have eX:(a-f*c)*x+(b-f*d)*y=K*(p-f*q)+(a-f*c)*e1+(b-f*d)*e2:=by rw[hx,hy,hq'];grind
 have eS:(a-f*c)*x+(b-f*d)*y=(a*x+b*y)-f*(c*x+d*y):=by grind
 generalize hE:a-f*c=E at *
 generalize hG:b-f*d=G at *
 generalize hq2:p-f*q=q2 at *
 have key:0≤E*x+G*y∧E*x+G*y<c*x+d*y:=by
  rw[eX,eY]
  rcases hsg with ⟨s1,s2,s3,s4⟩|⟨s1,s2,s3,s4⟩
  ·-- c≥0,d≤0,E≤0,G≥0
   have t1:E*K≤E*e1:=Int.mul_le_mul_of_nonpos_left s3 a2
   have t2:0≤G*e2:=Int.mul_nonneg s4 b1
   have t3:0≤K*(q2+E):=Int.mul_nonneg (by omega) n1
   have t4:(G-d)*e2≤(G-d)*K:=Int.mul_le_mul_of_nonneg_left b2 (by omega)
   have t5:(E-c)*e1≤0:=Int.mul_nonpos_of_nonpos_of_nonneg (by omega) a1
   have t6:0<K*((q+d)-(q2+G)):=Int.mul_pos hK (by omega)
   constructor
   ·grind
   ·grind
  ·have t1:G*K≤G*e2:=Int.mul_le_mul_of_nonpos_left s4 b2
   have t2:0≤E*e1:=Int.mul_nonneg s3 a1
   have t3:0≤K*(q2+G):=Int.mul_nonneg (by omega) n2
   have t4:(E-c)*e1≤(E-c)*K:=Int.mul_le_mul_of_nonneg_left a2 (by omega)
   have t5:(G-d)*e2≤0:=Int.mul_nonpos_of_nonpos_of_nonneg (by omega) b1
   have t6:0<K*((q+c)-(q2+E)):=Int.mul_pos hK (by omega)
   constructor
   ·grind
   ·grind
 refine ⟨key.1,key.2,k1,?_⟩
 rw[←k2,eS]
 exact gcd_step _ _ _
end Go.Eng

namespace Go.Eng
def leadK (n s:Nat):Nat:=4294967296^(n-3)*(2^(32-s)*4)
theorem leadK_pos (n s:Nat):0<leadK n s:=Nat.mul_pos (Nat.pow_pos (by omega)) (Nat.mul_pos (Nat.two_pow_pos _) (by omega))
theorem lead_eq {a:List Nat} (hD:Dig a) {n s d1 d2 d3:Nat} (hn:3≤n) (hl:a.length≤n) (hs:s≤31) (h1:d1=a.getD (n-1) 0) (h2:d2=a.getD (n-2) 0) (h3:d3=a.getD (n-3) 0) :
  ((d1*4294967296+d2)*2^s+d3*2^s/4294967296)/4=val a/leadK n s:=by
 obtain ⟨r,hr,hv⟩:=val_top3 hD hn hl
 rw[←h1,←h2,←h3]at hv
 unfold leadK
 rw[hv,←Nat.div_div_eq_div_mul,Nat.add_mul_div_left _ _ (Nat.pow_pos (by omega)),Nat.div_eq_of_lt hr,Nat.zero_add,←Nat.div_div_eq_div_mul]
 congr 1
 have e:d3+4294967296*(d2+4294967296*d1)=d3+2^(32-s)*(2^s*(d1*4294967296+d2)):=by
  rw[←Nat.mul_assoc,←Nat.pow_add,show 32-s+s=32 by omega];omega
 rw[e,Nat.add_mul_div_left _ _ (Nat.two_pow_pos _)]
 have:=shHi_eq (d:=d3) (s:=s) (by omega)
 rw[shHi_def]at this
 rw[this,Nat.mul_comm (2^s)]
 omega
theorem lead_fits {a:List Nat} (hD:Dig a) {n s d1 d2:Nat} (hn:3≤n) (hl:a.length≤n) (h1:d1=a.getD (n-1) 0) (h2:d2=a.getD (n-2) 0) (hlt:val a*2^s<4294967296^n) :
  (d1*4294967296+d2)*2^s≤18446744073709551615:=by
 obtain ⟨r,hr,hv⟩:=val_top3 hD hn hl
 rw[←h1,←h2]at hv
 generalize a.getD (n-3) 0=d3 at *
 have e:4294967296^n=4294967296^(n-3)*(4294967296*18446744073709551616):=by
  rw[show n=n-3+3 by omega,Nat.pow_add,show n-3+3-3=n-3 by omega]
 rw[e,hv]at hlt
 generalize 4294967296^(n-3)=p at *
 have h3:p*(4294967296*((d1*4294967296+d2)*2^s))<p*(4294967296*18446744073709551616):=by
  refine Nat.lt_of_le_of_lt ?_ hlt
  rw[←Nat.mul_assoc,←Nat.mul_assoc]
  refine Nat.mul_le_mul_right _ ?_
  have h5:p*(4294967296*(d2+4294967296*d1))≤p*(d3+4294967296*(d2+4294967296*d1)):=Nat.mul_le_mul_left p (by omega)
  rw[Nat.mul_assoc,show d1*4294967296+d2=d2+4294967296*d1 by omega]
  omega
 have:=Nat.lt_of_mul_lt_mul_left (Nat.lt_of_mul_lt_mul_left h3)
 omega
theorem mul_room {k s:Nat} (hs:s≤64) (h:k*2^s≤18446744073709551615):k*2^s+2^s≤18446744073709551616:=by
 have e:18446744073709551616=2^(64-s)*2^s:=by rw[←Nat.pow_add,show 64-s+s=64 by omega]
 have h1:k<2^(64-s):=by
  refine Nat.lt_of_mul_lt_mul_right (a:=2^s) ?_
  rw[←e];omega
 have h2:=Nat.mul_le_mul_right (2^s) h1
 rw[Nat.succ_mul,←e]at h2
 exact h2
theorem lead_le {a:List Nat} (hD:Dig a) {n s:Nat} (hn:3≤n) (hl:a.length≤n) (hs:s≤31) (hlt:val a*2^s<4294967296^n):val a/leadK n s≤4611686018427387904:=by
 rw[←lead_eq hD hn hl hs rfl rfl rfl]
 have h1:=lead_fits hD hn hl rfl rfl hlt
 have b3:=getD_lt hD (n-3)
 have h2:=mul_room (show s≤64 by omega) h1
 obtain ⟨_,h3,_,_⟩:=sh_facts (s:=s) b3 (by omega)
 rw[shHi_def]at h3
 generalize (a.getD (n-1) 0*4294967296+a.getD (n-2) 0)*2^s=T at *
 generalize a.getD (n-3) 0*2^s=U at *
 omega
theorem lead_part {V K:Nat} (hK:0<K) : ∃ e:Int,(V:Int)=(K:Int)*((V/K:Nat):Int)+e∧0≤e∧e≤K:=by
 refine ⟨((V%K:Nat):Int),?_,by omega,?_⟩
 ·have:=Nat.div_add_mod V K
  have h2:((K*(V/K)+V%K:Nat):Int)=(V:Int):=by rw[this]
  rw[←h2];simp
 ·have:=Nat.mod_lt V hK
  omega
def cmD (t:Int):Nat:=(t%4294967296).toNat
theorem cmD_lt (t:Int):cmD t<4294967296:=by unfold cmD;omega
theorem cmD_eq (t:Int):(cmD t:Int)=t%4294967296:=by unfold cmD;omega
def CSg (f g:Int):Prop:=(0≤f∧f≤2147483647 ∧ -2147483647≤g∧g≤0)∨(-2147483647≤f∧f≤0∧0≤g∧g≤2147483647)
theorem sgn_mul {f:Int} {d:Nat} (hd:d<4294967296):(0≤f→f≤2147483647→0≤f*d∧f*d≤9223372030412324865)∧(f≤0 → -2147483647≤f→f*d≤0 ∧ -9223372030412324865≤f*d):=by
 constructor
 ·intro h0 h1
  refine ⟨Int.mul_nonneg h0 (by omega),?_⟩
  have:f*d≤2147483647*4294967295:=Int.mul_le_mul h1 (by omega) (by omega) (by omega)
  omega
 ·intro h0 h1
  have a1:0≤(-f)*d:=Int.mul_nonneg (by omega) (by omega)
  have a2:(-f)*d≤2147483647*4294967295:=Int.mul_le_mul (by omega) (by omega) (by omega) (by omega)
  rw[Int.neg_mul]at a1 a2
  omega
theorem CSg.rng {f g:Int} (h:CSg f g) {d e:Nat} (hd:d<4294967296) (he:e<4294967296):(-9223372030412324865≤f*d∧f*d≤9223372030412324865)∧(-9223372030412324865≤g*e∧g*e≤9223372030412324865) ∧ -9223372030412324865≤f*d+g*e∧f*d+g*e≤9223372030412324865:=by
 obtain ⟨a1,a2⟩:=sgn_mul (f:=f) hd
 obtain ⟨b1,b2⟩:=sgn_mul (f:=g) he
 rcases h with ⟨h1,h2,h3,h4⟩|⟨h1,h2,h3,h4⟩
 ·have:=a1 h1 h2;have:=b2 h4 h3;omega
 ·have:=a2 h2 h1;have:=b1 h3 h4;omega
theorem cm_step {V X Y p c f g d e t:Int} (h:V+p*c=f*X+g*Y) (ht:t=f*d+c+g*e):V+p*(t%4294967296)+p*4294967296*(t/4294967296)=f*(X+p*d)+g*(Y+p*e):=by
 have h1:=Int.emod_add_mul_ediv t 4294967296
 have h2:p*(t%4294967296)+p*4294967296*(t/4294967296)=p*t:=by
  rw[Int.mul_assoc,←Int.mul_add,h1]
 have h3:p*t=f*(p*d)+p*c+g*(p*e):=by rw[ht];grind
 have h4:f*(X+p*d)=f*X+f*(p*d):=by rw[Int.mul_add]
 have h5:g*(Y+p*e)=g*Y+g*(p*e):=by rw[Int.mul_add]
 omega
theorem cm_end {V P:Nat} {c R:Int} (hV:V<P) (h:(V:Int)+P*c=R) (h0:0≤R) (h1:R<P):(V:Int)=R:=by
 have hc:c=0:=by
  rcases Int.lt_trichotomy c 0 with hc|hc|hc
  ·have:(P:Int)*c≤P*(-1):=Int.mul_le_mul_of_nonneg_left (by omega) (by omega)
   omega
  ·exact hc
  ·have:(P:Int)*1≤P*c:=Int.mul_le_mul_of_nonneg_left (by omega) (by omega)
   omega
 subst hc
 omega
theorem gcd_mod_step (x y:Nat):Nat.gcd y (x%y)=Nat.gcd x y:=by
 rw[Nat.gcd_comm x y,Nat.gcd_rec y x];exact Nat.gcd_comm _ _
end Go.Eng

namespace Go.Eng
open F
attribute [local irreducible] AKM CmpP Req OpP UnP ConvP RdP LdR StR MkR LenP AppR AppN CpyR RowP SnR Bds SlS CallP CalP FinP pw LdM GetM SetM PutM MkM AppM SnM FlP CallR
set_option maxHeartbeats 4000000
variable {L:Lib}
theorem OpP.shr32 {k':IntKind} {a:Int} {K:AV→Prop} (hk:K (.int .i64 (a/4294967296))):OpP .shr .i64 a k' 32 K:=by
 refine OpP.shr (by omega) ?_
 have:pw 32=4294967296:=by decide +kernel
 rw[this];exact hk
theorem ConvP.i32 {t:Int} {K:Int→Prop} (hk:K (cmD t:Int)):ConvP .u32 t K:=by
 unfold ConvP
 rw[IntKind.wrap_u32,←cmD_eq];exact hk
section
variable {k':IntKind} {a b:Nat} {K:AV→Prop}
theorem OpP.shlm {i:Nat} (hi:i<2) (ha:a<4294967296) (hk:K (.int .u64 ((a*4294967296^i:Nat):Int))):OpP .shl .u64 (a:Int) k' (32*(i:Int)) K:=by
 rcases i with _|_|i
 ·exact OpP.sh8 (s:=0) (by omega) (by omega) hk
 ·exact OpP.sh8 (s:=32) (by omega) (by omega) hk
 ·omega
end
theorem int_mul_bd {x y M N:Int} (hx : -M≤x∧x≤M) (hy : -N≤y∧y≤N) : -(M*N)≤x*y∧x*y≤M*N:=by
 have h1:x.natAbs≤M.natAbs:=by omega
 have h2:y.natAbs≤N.natAbs:=by omega
 have h3:=Nat.mul_le_mul h1 h2
 rw[←Int.natAbs_mul,←Int.natAbs_mul]at h3
 have h4:0≤M*N:=Int.mul_nonneg (by omega) (by omega)
 omega
theorem ev_nat_DivMod (N:NatGLib L) (a b:List Nat) (q1 q2:Bool) (hA:Dig a) (hB:Dig b) (la:a.length≤549755813888) (lb:b.length≤549755813888) (h0:val b≠0) :
  Ev L 75 [.sl q1 (a.map e32),.sl q2 (b.map e32)] (.tup [.sl false ((dg (val a/val b)).map e32),.sl false ((dg (val a%val b)).map e32),.int .i64 0]):=by
 have l1:=dg_len_val hA
 have l2:=dg_len_val hB
 have hp:=dg_len_pos h0
 refine Ev.x N.nat_DivMod rfl rfl ?_
 (repeat' (first|(refine CmpP.go (fun hc => ?_) (fun hc => ?_)<;>first|(exfalso;omega)|(conv=>whnf))|(refine LenP.go ?_;conv=>whnf)|(refine AKM.x ?_;conv=>whnf)|(refine CalP.ro (ro_cut N a _ hA (by omega)) ?_;conv=>whnf)|(refine CalP.ro (ro_cut N b _ hB (by omega)) ?_;conv=>whnf)|(refine CallP.go (ev_nat_divide N _ _ _ _ h0 (by omega) (by omega)) ?_;conv=>whnf)))
 refine FinP.go rfl ?_
 simp only[Clean,CleanL,and_true,true_and]
 exact ⟨cl_dig _,cl_dig _⟩
theorem ev_nat_small (N:NatGLib L) (V:Nat) (q:Bool) (hl:(dg V).length≤2):Ev L 76 [.sl q ((dg V).map e32)] (.int .u64 (V:Int)):=by
 have hV:=dg_len_le.1 hl
 have hD:=dig_dg V
 have hv:=val_dg V
 refine Ev.x N.nat_small rfl rfl ?_
 generalize dg V=l at *
 (repeat' (first|(refine LenP.go ?_;conv=>whnf)|(refine AKM.x ?_;conv=>whnf)))
 refine AKM.loop2 (fun i _=>l.length-i) (fun (i:Nat) (a:Nat)=>i≤l.length∧a=val (l.take i)) (fun i a=>[(3,.int .u64 (a:Int)),(8,.int .i64 i)]) (fun _ _=>[]) [] [] 0 0 (by (conv=>whnf);exact ⟨rfl,rfl,rfl⟩) ⟨by omega,rfl⟩ ?_
 intro i a ⟨p1,p2⟩ ih
 by_cases hi:i<l.length
 ·obtain ⟨d,hd⟩ : ∃ d,l[i]? = some d:=⟨_,List.getElem?_eq_getElem hi⟩
  have hdb:=hD.at hd
  have h1:=val_take_succ hd
  have h2:=val_lt (hD.take i)
  have h3:=val_lt (hD.take (i+1))
  rw[List.length_take,Nat.min_eq_left (by omega)]at h2 h3
  have h4:4294967296^(i+1)≤4294967296^2:=Nat.pow_le_pow_right (by omega) (by omega)
  (repeat' (first|(refine CmpP.go (fun hc => ?_) (fun hc => ?_)<;>first|(exfalso;omega)|(conv=>whnf))|(refine OpP.mul ?_ ?_;omega;conv=>whnf)|(refine ConvP.u64 ?_ ?_;omega;conv=>whnf)|(refine RdP.at (by assumption) ?_ rfl ?_;omega;conv=>whnf)|(refine AKM.x ?_;conv=>whnf)))
  refine OpP.shlm (by omega) hdb ?_
  (conv=>whnf)
  rw[Nat.mul_comm d]
  refine OpP.nor8r (32*i) (by rw[Nat.pow_mul];exact Nat.mul_mod_right _ _) (by rw[Nat.pow_mul,p2];exact h2) (by omega) ?_
  (conv=>whnf)
  (repeat' (refine OpP.add ?_ ?_;omega;conv=>whnf))
  exact AKM.back [] (by (conv=>whnf);exact ⟨rfl,rfl,rfl⟩) (ih (i+1) _ (by omega) ⟨by omega,by rw[h1,p2]⟩)
 ·obtain rfl:i=l.length:=by omega
  clear ih
  (repeat' (first|(refine CmpP.go (fun hc => ?_) (fun hc => ?_)<;>first|(exfalso;omega)|(conv=>whnf))|(refine AKM.x ?_;conv=>whnf)))
  rw[val_take_all (Nat.le_refl _)]at p2
  exact FinP.i (by omega)
theorem CalP.fix {f:Nat} {vs:List AV} {tm:Tm} {M:Mem} {K:AV→Mem→Prop} {v:AV} (h:CalP L f vs tm M (fun r M'=>r=v∧M'=M)) (hk:K v M):CalP L f vs tm M K:=by
 unfold CalP at h ⊢
 intro σ own hs
 obtain ⟨r,own',σ',M',h1,h2,h3,rfl,rfl⟩:=h σ own hs
 exact ⟨_,own',σ',_,h1,h2,h3,hk⟩
theorem ev_nat_leading (N:NatGLib L) (a:List Nat) (q:Bool) (n s:Nat) (hD:Dig a) (hn:3≤n) (hl:a.length≤n) (hn2:n≤549755813888) (hs:s≤31) (hlt:val a*2^s<4294967296^n) :
  Ev L 78 [.sl q (a.map e32),.int .i64 (n:Int),.int .u64 (s:Int)] (.int .i64 ((val a/leadK n s:Nat):Int)):=by
 have b1:=getD_lt hD (n-1)
 have b2:=getD_lt hD (n-2)
 have b3:=getD_lt hD (n-3)
 have hfit:=lead_fits hD hn hl rfl rfl hlt
 have heq:=lead_eq (s:=s) hD hn hl hs rfl rfl rfl
 obtain ⟨f1,f2,f3,f4⟩:=sh_facts (s:=s) b3 (by omega)
 refine Ev.x N.nat_leading rfl rfl ?_
 (repeat' (first|(refine Req.go ?_ ?_;omega;conv=>whnf)|(refine OpP.sub ?_ ?_;omega;conv=>whnf)|(refine AKM.x ?_;conv=>whnf)))
 refine CalP.fix (v := .int .u64 ((a.getD (n-1) 0:Nat):Int)) ?_ ?_
 ·refine CalP.walk 1000 N.nat_leading_1 rfl rfl ?_
  (repeat' (first|(refine CmpP.go (fun hc => ?_) (fun hc => ?_)<;>first|(exfalso;omega)|(conv=>whnf))|(refine ConvP.u64 ?_ ?_;omega;conv=>whnf)|(refine LenP.go ?_;conv=>whnf)|(refine RdP.digi (by assumption) ?_ (fun e he hb => ?_);omega;conv=>whnf)|(refine AKM.x ?_;conv=>whnf)))
  ·refine ⟨rfl,_,rfl,?_,rfl⟩
   rw[show ((n:Int)-1).toNat=n-1 by omega]at he
   rw[getD_is he];rfl
  ·refine ⟨rfl,_,rfl,?_,rfl⟩
   rw[←getD_none (show a.length≤n-1 by omega)];rfl
 (conv=>whnf)
 (repeat' (first|(refine Req.go ?_ ?_;omega;conv=>whnf)|(refine OpP.sub ?_ ?_;omega;conv=>whnf)|(refine OpP.nshl32 ?_ ?_;omega;conv=>whnf)))
 refine CalP.fix (v := .int .u64 ((a.getD (n-2) 0:Nat):Int)) ?_ ?_
 ·refine CalP.walk 1000 N.nat_leading_1 rfl rfl ?_
  (repeat' (first|(refine CmpP.go (fun hc => ?_) (fun hc => ?_)<;>first|(exfalso;omega)|(conv=>whnf))|(refine ConvP.u64 ?_ ?_;omega;conv=>whnf)|(refine LenP.go ?_;conv=>whnf)|(refine RdP.digi (by assumption) ?_ (fun e he hb => ?_);omega;conv=>whnf)|(refine AKM.x ?_;conv=>whnf)))
  ·refine ⟨rfl,_,rfl,?_,rfl⟩
   rw[show ((n:Int)-2).toNat=n-2 by omega]at he
   rw[getD_is he];rfl
  ·refine ⟨rfl,_,rfl,?_,rfl⟩
   rw[←getD_none (show a.length≤n-2 by omega)];rfl
 (conv=>whnf)
 generalize a.getD (n-1) 0=d1 at *
 generalize a.getD (n-2) 0=d2 at *
 (repeat' (refine OpP.nor ?_ ?_;omega;conv=>whnf))
 refine OpP.sh8 (by omega) hfit ?_
 (conv=>whnf)
 generalize hT:(d1*4294967296+d2)*2^s=T at *
 (repeat' (first|(refine Req.go ?_ ?_;omega;conv=>whnf)|(refine OpP.sub ?_ ?_;omega;conv=>whnf)))
 refine CalP.fix (v := .int .u64 ((a.getD (n-3) 0:Nat):Int)) ?_ ?_
 ·refine CalP.walk 1000 N.nat_leading_1 rfl rfl ?_
  (repeat' (first|(refine CmpP.go (fun hc => ?_) (fun hc => ?_)<;>first|(exfalso;omega)|(conv=>whnf))|(refine ConvP.u64 ?_ ?_;omega;conv=>whnf)|(refine LenP.go ?_;conv=>whnf)|(refine RdP.digi (by assumption) ?_ (fun e he hb => ?_);omega;conv=>whnf)|(refine AKM.x ?_;conv=>whnf)))
  ·refine ⟨rfl,_,rfl,?_,rfl⟩
   rw[show ((n:Int)-3).toNat=n-3 by omega]at he
   rw[getD_is he];rfl
  ·refine ⟨rfl,_,rfl,?_,rfl⟩
   rw[←getD_none (show a.length≤n-3 by omega)];rfl
 (conv=>whnf)
 generalize a.getD (n-3) 0=d3 at *
 skip
 refine OpP.sh8 (by omega) f4 ?_
 (conv=>whnf)
 (repeat' (refine OpP.nshr32 ?_;conv=>whnf))
 rw[shHi_def]at f2
 refine OpP.nor8 s (by rw[←hT];exact Nat.mul_mod_left _ _) f2 (by have:=mul_room (k:=d1*4294967296+d2) (show s≤64 by omega) (by omega);omega) ?_
 (conv=>whnf)
 (repeat' (first|(refine OpP.nshr2 ?_;conv=>whnf)|(refine ConvP.i64 ?_ ?_;omega;conv=>whnf)))
 rw[heq]
 exact FinP.i rfl
theorem ev_nat_cofactors (N:NatGLib L) (P Q:Int) (hP:0≤P∧P≤4611686018427387904) (hQ:0≤Q∧Q≤4611686018427387904) : ∃ r,Ev L 79 [.int .i64 P,.int .i64 Q] r ∧ ∃ a b c d:Int,(LSg a b c d∧(-2147483647≤a∧a≤2147483647)∧(-2147483647≤b∧b≤2147483647)∧(-2147483647≤c∧c≤2147483647)∧(-2147483647≤d∧d≤2147483647))∧(b≠0→LGood P Q a b c d)∧r = .tup [.int .i64 a,.int .i64 b,.int .i64 c,.int .i64 d]:=by
 refine Ev.xE N.nat_cofactors rfl rfl ?_
 (repeat' (refine AKM.x ?_;conv=>whnf))
 refine AKM.loop6 (fun _ _ _ _ _ q=>(q+2147483648).toNat) (fun (a b c d p q:Int)=>LInv P Q a b c d p q∧((-2147483647≤a∧a≤2147483647)∧(-2147483647≤b∧b≤2147483647)∧(-2147483647≤c∧c≤2147483647)∧(-2147483647≤d∧d≤2147483647))∧(p≤4611686018427387904∧q≤4611686018427387904)∧LHalf P Q a b c d∧(b≠0→LGood P Q a b c d)) (fun a b c d p q=>[(0,.int .i64 p),(1,.int .i64 q),(4,.int .i64 a),(5,.int .i64 b),(6,.int .i64 c),(7,.int .i64 d)]) (fun _ _ _ _ _ _=>[]) [] [] 1 0 0 1 P Q (by (conv=>whnf);exact ⟨rfl,rfl,rfl⟩) ⟨LInv.start hP.1 hQ.1,by omega,by omega,LHalf.start P Q,fun h=>absurd rfl h⟩ ?_
 intro a b c d p q ⟨p1,⟨⟨p2,p2'⟩,⟨p3,p3'⟩,⟨p4,p4'⟩,⟨p5,p5'⟩⟩,⟨p6,p7⟩,p8,p9⟩ ih
 have g1:=p1.pa
 have g2:=p1.pb
 have g3:=p1.qc
 have g4:=p1.qd
 by_cases hc0:q+c=0
 ·(repeat' (first|(refine CmpP.go (fun hc => ?_) (fun hc => ?_)<;>first|(exfalso;omega)|(conv=>whnf))|(refine OpP.add ?_ ?_;omega;conv=>whnf)|(refine AKM.x ?_;conv=>whnf)))
  refine ⟨.tup [.int .i64 a,.int .i64 b,.int .i64 c,.int .i64 d],?_,a,b,c,d,⟨p1.sg,by omega⟩,p9,rfl⟩
  (conv=>whnf)
  exact FinP.go rfl (by simp [Clean,CleanL])
 by_cases hd0:q+d=0
 ·(repeat' (first|(refine CmpP.go (fun hc => ?_) (fun hc => ?_)<;>first|(exfalso;omega)|(conv=>whnf))|(refine OpP.add ?_ ?_;omega;conv=>whnf)|(refine AKM.x ?_;conv=>whnf)))
  refine ⟨.tup [.int .i64 a,.int .i64 b,.int .i64 c,.int .i64 d],?_,a,b,c,d,⟨p1.sg,by omega⟩,p9,rfl⟩
  (conv=>whnf)
  exact FinP.go rfl (by simp [Clean,CleanL])
 by_cases hff:(p+a)/(q+c)=(p+b)/(q+d)
 ·obtain ⟨s1,s2,s3,s4⟩:=p1.step hc0 hd0 rfl hff
  have s5:=s4 p8
  have s6:=s5.half
  have s7:=s1.qc
  by_cases hfl:2147483647<(p+a)/(q+c)
  ·(repeat' (first|(refine CmpP.go (fun hc => ?_) (fun hc => ?_)<;>first|(exfalso;omega)|(conv=>whnf))|(refine OpP.add ?_ ?_;omega;conv=>whnf)|(refine OpP.quo ?_ ?_ (fun _ => ?_) (fun _ _ => ?_);omega;omega;all_goals first|(exfalso;omega)|(conv=>whnf))|(refine AKM.x ?_;conv=>whnf)))
   refine ⟨.tup [.int .i64 a,.int .i64 b,.int .i64 c,.int .i64 d],?_,a,b,c,d,⟨p1.sg,by omega⟩,p9,rfl⟩
   (conv=>whnf)
   exact FinP.go rfl (by simp [Clean,CleanL])
  ·have t1:=int_mul_bd (x:=(p+a)/(q+c)) (y:=c) (M:=2147483647) (N:=2147483647) (by omega) (by omega)
   have t2:=int_mul_bd (x:=(p+a)/(q+c)) (y:=d) (M:=2147483647) (N:=2147483647) (by omega) (by omega)
   (repeat' (first|(refine CmpP.go (fun hc => ?_) (fun hc => ?_)<;>first|(exfalso;omega)|(conv=>whnf))|(refine OpP.add ?_ ?_;omega;conv=>whnf)|(refine OpP.sub ?_ ?_;omega;conv=>whnf)|(refine OpP.mul ?_ ?_;omega;conv=>whnf)|(refine OpP.quo ?_ ?_ (fun _ => ?_) (fun _ _ => ?_);omega;omega;all_goals first|(exfalso;omega)|(conv=>whnf))|(refine UnP.neg ?_ ?_;omega;conv=>whnf)|(refine AKM.x ?_;conv=>whnf)))
   all_goals first
    | exact AKM.back [] (by (conv=>whnf);exact ⟨rfl,rfl,rfl⟩) (ih _ _ _ _ _ _ (by omega) ⟨s1,by omega,by omega,s6,fun _=>s5⟩)
    |(refine ⟨.tup [.int .i64 a,.int .i64 b,.int .i64 c,.int .i64 d],?_,a,b,c,d,⟨p1.sg,by omega⟩,p9,rfl⟩
      (conv=>whnf)
      exact FinP.go rfl (by simp [Clean,CleanL]))
 ·(repeat' (first|(refine CmpP.go (fun hc => ?_) (fun hc => ?_)<;>first|(exfalso;omega)|(conv=>whnf))|(refine OpP.add ?_ ?_;omega;conv=>whnf)|(refine OpP.quo ?_ ?_ (fun _ => ?_) (fun _ _ => ?_);omega;omega;all_goals first|(exfalso;omega)|(conv=>whnf))|(refine AKM.x ?_;conv=>whnf)))
  refine ⟨.tup [.int .i64 a,.int .i64 b,.int .i64 c,.int .i64 d],?_,a,b,c,d,⟨p1.sg,by omega⟩,p9,rfl⟩
  (conv=>whnf)
  exact FinP.go rfl (by simp [Clean,CleanL])
theorem ev_nat_combine (N:NatGLib L) (x y:List Nat) (q1 q2:Bool) (f g:Int) (hX:Dig x) (hY:Dig y) (hl:y.length≤x.length) (lx:x.length≤549755813888) (hs:CSg f g) (R:Nat) (hR:(R:Int)=f*val x+g*val y) (hR2:R≤val x) :
  Ev L 80 [.sl q1 (x.map e32),.sl q2 (y.map e32),.int .i64 f,.int .i64 g] (.sl false ((dg R).map e32)):=by
 refine Ev.x N.nat_combine rfl rfl ?_
 (repeat' (first|(refine LenP.go ?_;conv=>whnf)|(refine AKM.x ?_;conv=>whnf)))
 refine MkR.go (enc:=e32) 0 x.length rfl rfl (by omega) ?_
 (conv=>whnf)
 (repeat' (refine LenP.go ?_;conv=>whnf))
 refine AKM.loop3 (fun i _ _=>x.length-i) (fun (i:Nat) (o:List Nat) (c:Int)=>i≤x.length∧o.length=x.length∧Dig o ∧ -2147483648≤c∧c≤2147483648∧(val (o.take i):Int)+((4294967296^i:Nat):Int)*c=f*val (x.take i)+g*val (y.take i)) (fun i o c=>[(10,.int .i64 c),(19,.int .i64 i)]) (fun i o c=>[(16,16,.rw 1 (o.map e32))]) [] [] 0 (List.replicate x.length 0) 0 (by (conv=>whnf);exact ⟨rfl,rfl,rfl⟩) ⟨by omega,by simp,dig_zeros _,by omega,by omega,by simp [val]⟩ ?_
 intro i o c ⟨p1,p2,p3,p4,p5,p6⟩ ih
 by_cases hi:i<x.length
 ·obtain ⟨d,hd⟩ : ∃ d,x[i]? = some d:=⟨_,List.getElem?_eq_getElem hi⟩
  have hdb:=hX.at hd
  have h1:=val_take_succ hd
  by_cases hy:i<y.length
  ·obtain ⟨e,he⟩ : ∃ e,y[i]? = some e:=⟨_,List.getElem?_eq_getElem hy⟩
   have heb:=hY.at he
   have h2:=val_take_succ he
   obtain ⟨r1,r2,r3⟩:=hs.rng hdb heb
   have hst:=cm_step (d:=d) (e:=e) p6 rfl
   (repeat' (first|(refine CmpP.go (fun hc => ?_) (fun hc => ?_)<;>first|(exfalso;omega)|(conv=>whnf))|(refine OpP.add ?_ ?_;omega;conv=>whnf)|(refine OpP.mul ?_ ?_;omega;conv=>whnf)|(refine ConvP.i64 ?_ ?_;omega;conv=>whnf)|(refine LenP.go ?_;conv=>whnf)|(refine RdP.at (by assumption) ?_ rfl ?_;omega;conv=>whnf)|(refine AKM.x ?_;conv=>whnf)))
   generalize htt:f * ↑d+c+g * ↑e=t at *
   refine ConvP.i32 ?_
   (conv=>whnf)
   (repeat' (first|(refine Req.go ?_ ?_;omega;conv=>whnf)|fail))
   refine StR.dig (by omega) ?_
   (conv=>whnf)
   refine OpP.shr32 ?_
   (conv=>whnf)
   (repeat' (refine OpP.add ?_ ?_;omega;conv=>whnf))
   refine AKM.back [] (by (conv=>whnf);exact ⟨rfl,rfl,rfl⟩) (ih (i+1) _ _ (by omega) ⟨by omega,by simpa using p2,p3.set _ (cmD_lt t),by omega,by omega,?_⟩)
   rw[val_set_take (by omega),h1,h2,Nat.pow_succ]
   simp only[Int.natCast_add,Int.natCast_mul,cmD_eq]
   exact hst
  ·have h2:=val_take_end (y:=y) (i:=i) (by omega)
   obtain ⟨r1,r2,r3⟩:=hs.rng (e:=0) hdb (by omega)
   have hst:=cm_step (d:=d) (e:=0) p6 rfl
   rw[Int.mul_zero,Int.add_zero]at hst
   have r4 : -9223372030412324865≤f*(d:Int)∧f*(d:Int)≤9223372030412324865:=r1
   (repeat' (first|(refine CmpP.go (fun hc => ?_) (fun hc => ?_)<;>first|(exfalso;omega)|(conv=>whnf))|(refine OpP.add ?_ ?_;omega;conv=>whnf)|(refine OpP.mul ?_ ?_;omega;conv=>whnf)|(refine ConvP.i64 ?_ ?_;omega;conv=>whnf)|(refine LenP.go ?_;conv=>whnf)|(refine RdP.at (by assumption) ?_ rfl ?_;omega;conv=>whnf)|(refine AKM.x ?_;conv=>whnf)))
   generalize htt:f * ↑d+c=t at *
   refine ConvP.i32 ?_
   (conv=>whnf)
   (repeat' (first|(refine Req.go ?_ ?_;omega;conv=>whnf)|fail))
   refine StR.dig (by omega) ?_
   (conv=>whnf)
   refine OpP.shr32 ?_
   (conv=>whnf)
   (repeat' (refine OpP.add ?_ ?_;omega;conv=>whnf))
   refine AKM.back [] (by (conv=>whnf);exact ⟨rfl,rfl,rfl⟩) (ih (i+1) _ _ (by omega) ⟨by omega,by simpa using p2,p3.set _ (cmD_lt t),by omega,by omega,?_⟩)
   rw[val_set_take (by omega),h1,h2,Nat.pow_succ]
   simp only[Int.natCast_add,Int.natCast_mul,cmD_eq]
   rw[Int.mul_zero,Int.add_zero]at hst
   exact hst
 ·obtain rfl:i=x.length:=by omega
  clear ih
  rw[val_take_all (by omega),val_take_all (Nat.le_refl _),val_take_all (by omega)]at p6
  have hov:=val_lt p3
  have hxv:=val_lt hX
  rw[p2]at hov
  have hVR:val o=R:=by
   have:=cm_end hov p6 (by omega) (by omega)
   omega
  have hl1:=dg_len_val p3
  rw[←p2,←hVR]
  (repeat' (first|(refine CmpP.go (fun hc => ?_) (fun hc => ?_)<;>first|(exfalso;omega)|(conv=>whnf))|(refine AKM.x ?_;conv=>whnf)|(refine CalP.cutR N (by assumption) (by omega) rfl (by first|rfl|omega|assumption) ?_;conv=>whnf)))
  refine SnR.part (enc:=e32) (fun _=>rfl) (by omega) ?_
  (conv=>whnf)
  refine FinP.go ?_ (by simp only[Clean,true_and];exact cl_dig _)
  rw[List.drop_zero,take_dg p3]
theorem ev_nat_shorten (N:NatGLib L) (X Y:Nat) (hXY:Y≤X) (hy:3≤(dg Y).length) (lx:(dg X).length≤549755813888) : ∃ r,Ev L 81 [.sl false ((dg X).map e32),.sl false ((dg Y).map e32)] r ∧ ∃ A B:Nat,(B<Y∧B≤A∧A≤X∧Nat.gcd A B=Nat.gcd X Y)∧r = .tup [.sl false ((dg A).map e32),.sl false ((dg B).map e32)]:=by
 have hY0:Y≠0:=fun h=>by rw[h,dg_zero]at hy;simp at hy
 have hX0:X≠0:=by omega
 have hlen:=dg_len_mono hXY
 have hdv:=fun q q'=>ev_nat_divide N X Y q q' hY0 lx (by omega)
 have d1:=dig_dg X
 have d2:=dig_dg Y
 have v1:=val_dg X
 have v2:=val_dg Y
 obtain ⟨xt,hxt,hxt0⟩:=dg_top hX0
 have hxtb:=d1.at hxt
 obtain ⟨b1,b2,b3,b4⟩:=lz_top hxt0 hxtb
 have hlz:=ev_LZ32 N xt hxtb
 generalize hs:32-blen xt=s at *
 have hs31:s≤31:=by omega
 obtain ⟨n1,n2⟩:=lift_norm d1 hxt (by omega) hs31 b3 b4
 have hcb:=fun (f g:Int) (R:Nat) (hs:CSg f g) (h1:(R:Int)=f*val (dg X)+g*val (dg Y)) (h2:R≤val (dg X)) (q q':Bool)=>ev_nat_combine N (dg X) (dg Y) q q' f g d1 d2 (by omega) lx hs R h1 h2
 have n3:val (dg Y)*2^s<4294967296^(dg X).length:=Nat.lt_of_le_of_lt (Nat.mul_le_mul_right _ (by omega)) n1
 have hl1:=fun q=>ev_nat_leading N (dg X) q (dg X).length s d1 (by omega) (by omega) lx hs31 n1
 have hl2:=fun q=>ev_nat_leading N (dg Y) q (dg X).length s d2 (by omega) (by omega) lx hs31 n3
 have hK:=leadK_pos (dg X).length s
 obtain ⟨e1,x1,x2,x3⟩:=lead_part (V:=X) hK
 obtain ⟨e2,y1,y2,y3⟩:=lead_part (V:=Y) hK
 rw[v1]at hl1
 rw[v2]at hl2
 have hq1:=lead_le d1 (n:=(dg X).length) (by omega) (by omega) hs31 n1
 have hq2:=lead_le d2 (n:=(dg X).length) (by omega) (by omega) hs31 n3
 rw[v1]at hq1
 rw[v2]at hq2
 generalize leadK (dg X).length s=K at *
 generalize X/K=P at *
 generalize Y/K=Q at *
 rw[v1,v2]at hcb
 obtain ⟨rc,hrc,a,b,c,d,⟨z1,z2,z3,z4,z5⟩,z6,rfl⟩:=ev_nat_cofactors N (P:Int) (Q:Int) (by omega) (by omega)
 have e1:(((dg X).length:Int)-1).toNat=(dg X).length-1:=by omega
 rw[←e1]at hxt
 refine Ev.xE N.nat_shorten rfl rfl ?_
 by_cases hb:b=0
 ·(repeat' (first|(refine CmpP.go (fun hc => ?_) (fun hc => ?_)<;>first|(exfalso;omega)|(conv=>whnf))|(refine OpP.sub ?_ ?_;omega;conv=>whnf)|(refine ConvP.u64 ?_ ?_;omega;conv=>whnf)|(refine LenP.go ?_;conv=>whnf)|(refine RdP.at (by assumption) ?_ rfl ?_;omega;conv=>whnf)|(refine AKM.x ?_;conv=>whnf)|(refine CallP.go (hlz) ?_;conv=>whnf)|(refine CallP.go (hl1 _) ?_;conv=>whnf)|(refine CallP.go (hl2 _) ?_;conv=>whnf)|(refine CallP.go (hrc) ?_;conv=>whnf)|(refine CallP.go (hdv _ _) ?_;conv=>whnf)))
  refine ⟨_,?_,Y,X%Y,⟨Nat.mod_lt _ (by omega),Nat.le_of_lt (Nat.mod_lt _ (by omega)),hXY,gcd_mod_step X Y⟩,rfl⟩
  (conv=>whnf)
  exact FinP.go rfl (cl_pair _ _)
 ·obtain ⟨g1,g2,g3,g4⟩:=z6 hb (X:Int) (Y:Int) (K:Int) _ _ (by omega) x1 y1 x2 x3 y2 y3
  obtain ⟨A,hA⟩:=Int.eq_ofNat_of_zero_le (show 0≤a*X+b*Y by omega)
  obtain ⟨B,hB⟩:=Int.eq_ofNat_of_zero_le g1
  have s1:CSg a b:=by rcases z1 with ⟨h1,h2,h3,h4⟩|⟨h1,h2,h3,h4⟩<;>unfold CSg<;>omega
  have s2:CSg c d:=by rcases z1 with ⟨h1,h2,h3,h4⟩|⟨h1,h2,h3,h4⟩<;>unfold CSg<;>omega
  (repeat' (first|(refine CmpP.go (fun hc => ?_) (fun hc => ?_)<;>first|(exfalso;omega)|(conv=>whnf))|(refine OpP.sub ?_ ?_;omega;conv=>whnf)|(refine ConvP.u64 ?_ ?_;omega;conv=>whnf)|(refine LenP.go ?_;conv=>whnf)|(refine RdP.at (by assumption) ?_ rfl ?_;omega;conv=>whnf)|(refine AKM.x ?_;conv=>whnf)|(refine CallP.go (hlz) ?_;conv=>whnf)|(refine CallP.go (hl1 _) ?_;conv=>whnf)|(refine CallP.go (hl2 _) ?_;conv=>whnf)|(refine CallP.go (hrc) ?_;conv=>whnf)|(refine CallP.go (hcb a b A s1 hA.symm (by omega) _ _) ?_;conv=>whnf)|(refine CallP.go (hcb c d B s2 hB.symm (by omega) _ _) ?_;conv=>whnf)))
  rw[hA,hB]at g4
  rw[hA,hB]at g2
  refine ⟨_,?_,A,B,⟨by omega,by omega,by omega,by simpa using g4⟩,rfl⟩
  (conv=>whnf)
  exact FinP.go rfl (cl_pair _ _)
theorem gcd_main (N:NatGLib L) (X Y:Nat) (hXY:Y≤X) (lx:(dg X).length≤549755813888) :
 AKM L [It.lp nat_Gcd.l1,It.blk 0,
   It.code
    ((((ACode.ops nat_Gcd.r6 false).dr [23,30,31] []).seq
       (ACode.cond 32 (((ACode.ops nat_Gcd.r7 false).dr [5,6,32,33] []).seq ACode.ret) ACode.skip)).seq
     (((ACode.ops nat_Gcd.r8 false).dr [5,7,32,34,35,36,37,38,39] []).seq
      (((ACode.ops nat_Gcd.r9 false).dr [6,8,40,41,42,43] []).seq
       ((ACode.block 2 nat_Gcd.l2.loop).seq
        (((ACode.ops nat_Gcd.r12 false).dr [9,10,45,50,51,52,53,54,55,56] []).seq ACode.ret)))))]
  [(6,AV.sl false (List.map e32 (dg Y))),(5,AV.sl false (List.map e32 (dg X)))] []
  (RetX nat_Gcd (AV.sl false (List.map e32 (dg (X.gcd Y))))):=by
 refine AKM.loop2 (fun _ y=>y) (fun (x y:Nat)=>y≤x∧(dg x).length≤549755813888∧Nat.gcd x y=Nat.gcd X Y) (fun x y=>[(6,AV.sl false (List.map e32 (dg y))),(5,AV.sl false (List.map e32 (dg x)))]) (fun _ _=>[]) [] [] X Y (by (conv=>whnf);exact ⟨rfl,rfl,rfl⟩) ⟨hXY,lx,rfl⟩ ?_
 intro x y ⟨p1,p2,p3⟩ ih
 rw[←p3]at ih ⊢
 generalize Nat.gcd X Y=G at *
 clear hXY lx
 subst p3
 have hlen:=dg_len_mono p1
 by_cases h3:3≤(dg y).length
 ·obtain ⟨r,hr,A,B,⟨k1,k2,k3,k4⟩,rfl⟩:=ev_nat_shorten N x y p1 h3 p2
  have k5:=dg_len_mono k3
  (repeat' (first|(refine CmpP.go (fun hc => ?_) (fun hc => ?_)<;>first|(exfalso;omega)|(conv=>whnf))|(refine LenP.go ?_;conv=>whnf)|(refine AKM.x ?_;conv=>whnf)|(refine CallP.go (hr) ?_;conv=>whnf)))
  exact AKM.back [] (by (conv=>whnf);exact ⟨rfl,rfl,rfl⟩) (ih A B k1 ⟨k2,by omega,k4⟩)
 ·clear ih
  by_cases h0:y=0
  ·subst h0
   have hl0:(dg 0).length=0:=by rw[dg_zero];rfl
   (repeat' (first|(refine CmpP.go (fun hc => ?_) (fun hc => ?_)<;>first|(exfalso;omega)|(conv=>whnf))|(refine LenP.go ?_;conv=>whnf)|(refine AKM.x ?_;conv=>whnf)))
   rw[Nat.gcd_zero_right]
   exact FinP.go rfl (by simp only[Clean,true_and];exact cl_dig _)
  ·have hp:=dg_len_pos h0
   have hm:=dg_len_mono (Nat.le_of_lt (Nat.mod_lt x (show y>0 by omega)))
   have hd:=fun q q'=>ev_nat_divide N x y q q' h0 p2 (by omega)
   have hs1:=fun q=>ev_nat_small N y q (by omega)
   have hs2:=fun q=>ev_nat_small N (x%y) q (by omega)
   have hb:y<18446744073709551616:=dg_len_le.1 (show (dg y).length≤2 by omega)
   have hml:x%y<y:=Nat.mod_lt _ (by omega)
   rw[←gcd_mod_step x y]
   (repeat' (first|(refine CmpP.go (fun hc => ?_) (fun hc => ?_)<;>first|(exfalso;omega)|(conv=>whnf))|(refine LenP.go ?_;conv=>whnf)|(refine AKM.x ?_;conv=>whnf)|(refine CallP.go (hd _ _) ?_;conv=>whnf)|(refine CallP.go (hs1 _) ?_;conv=>whnf)|(refine CallP.go (hs2 _) ?_;conv=>whnf)))
   refine AKM.loop2 (fun _ q=>q) (fun (p q:Nat)=>p<18446744073709551616∧q<18446744073709551616∧Nat.gcd p q=Nat.gcd y (x%y)) (fun p q=>[(9,.int .u64 (p:Int)),(10,.int .u64 (q:Int))]) (fun _ _=>[]) [] [] y (x%y) (by (conv=>whnf);exact ⟨rfl,rfl,rfl⟩) ⟨hb,by omega,rfl⟩ ?_
   intro p q ⟨g1,g2,g3⟩ ih
   rw[←g3]at ih ⊢
   by_cases hq:q=0
   ·subst hq
    clear ih
    obtain ⟨v1,v2⟩:=dg2 g1
    rw[Nat.gcd_zero_right]
    have hl1:=dg_len_val v2
    have ht:=take_dg v2
    rw[v1]at hl1 ht
    (repeat' (first|(refine CmpP.go (fun hc => ?_) (fun hc => ?_)<;>first|(exfalso;omega)|(conv=>whnf))|(refine OpP.nshr32 ?_;conv=>whnf)|(refine ConvP.n32i ?_ ?_;omega;conv=>whnf)|(refine ConvP.n32 ?_;conv=>whnf)|(refine AKM.x ?_;conv=>whnf)))
    generalize p%4294967296=lo at *
    generalize p/4294967296=hi at *
    refine CalP.cutR N v2 (by simp) rfl rfl ?_
    rw[v1]
    (conv=>whnf)
    skip
    refine SnR.part (enc:=e32) (l:=[lo,hi]) (fun _=>rfl) (by omega) ?_
    (conv=>whnf)
    refine FinP.go ?_ (by simp only[Clean,true_and];exact cl_dig _)
    rw[List.drop_zero,ht]
   ·have hpq:p%q<q:=Nat.mod_lt _ (by omega)
    (repeat' (first|(refine CmpP.go (fun hc => ?_) (fun hc => ?_)<;>first|(exfalso;omega)|(conv=>whnf))|(refine OpP.nrem ?_ ?_;omega;conv=>whnf)|(refine AKM.x ?_;conv=>whnf)))
    exact AKM.back [] (by (conv=>whnf);exact ⟨rfl,rfl,rfl⟩) (ih q (p%q) hpq ⟨g2,by omega,gcd_mod_step p q⟩)
theorem ev_nat_Gcd (N:NatGLib L) (a b:List Nat) (q1 q2:Bool) (hA:Dig a) (hB:Dig b) (la:a.length≤549755813888) (lb:b.length≤549755813888) :
  Ev L 82 [.sl q1 (a.map e32),.sl q2 (b.map e32)] (.sl false ((dg (Nat.gcd (val a) (val b))).map e32)):=by
 have t1:=fun q=>ev_Trim N a q hA (by omega)
 have t2:=fun q=>ev_Trim N b q hB (by omega)
 have l1:=dg_len_val hA
 have l2:=dg_len_val hB
 have hcmp:=fun q q'=>ev_nat_Compare N (dg (val a)) (dg (val b)) q q' (dig_dg _) (dig_dg _) (by omega) (by omega)
 rw[val_dg,val_dg]at hcmp
 generalize val a=X at *
 generalize val b=Y at *
 refine Ev.x N.nat_Gcd rfl rfl ?_
 by_cases hlt:X<Y
 ·have hn:cmpS X Y = -1:=(cmpS_lt (by omega)).symm
  rw[hn]at hcmp
  (repeat' (first|(refine CmpP.go (fun hc => ?_) (fun hc => ?_)<;>first|(exfalso;omega)|(conv=>whnf))|(refine AKM.x ?_;conv=>whnf)|(refine CallP.go (t1 _) ?_;conv=>whnf)|(refine CallP.go (t2 _) ?_;conv=>whnf)|(refine CallP.go (hcmp _ _) ?_;conv=>whnf)))
  rw[Nat.gcd_comm]
  exact AKM.back [] (by (conv=>whnf);exact ⟨rfl,rfl,rfl⟩) (gcd_main N Y X (by omega) (by omega))
 ·have hge:0≤cmpS X Y:=by unfold cmpS;split<;>(try split)<;>omega
  generalize cmpS X Y=cm at *
  (repeat' (first|(refine CmpP.go (fun hc => ?_) (fun hc => ?_)<;>first|(exfalso;omega)|(conv=>whnf))|(refine AKM.x ?_;conv=>whnf)|(refine CallP.go (t1 _) ?_;conv=>whnf)|(refine CallP.go (t2 _) ?_;conv=>whnf)|(refine CallP.go (hcmp _ _) ?_;conv=>whnf)))
  exact AKM.back [] (by (conv=>whnf);exact ⟨rfl,rfl,rfl⟩) (gcd_main N X Y (by omega) (by omega))
end Go.Eng

namespace Go.Eng
def resLtC (N:Nat):List ARes→Bool
 | []=>true
 | .tmp t::r=>Nat.blt t N&&resLtC N r
 | .cell t _ _::r=>Nat.blt t N&&resLtC N r
theorem resOf_lo {N:Nat} {s s':St} (ho:s.own=s'.own) (hlo : ∀ j,j<N→tget s'.tm j=tget s.tm j) : ∀ {res:List ARes},resLtC N res=true→res.mapM (resOf s)=res.mapM (resOf s')
 | [],_=>rfl
 | .tmp t::r,h=>by
  simp only[resLtC,Bool.and_eq_true]at h
  have:=resOf_lo ho hlo h.2
  simp only[List.mapM_cons,resOf,hlo t (blt_iff.1 h.1),this]
 | .cell t agg n::r,h=>by
  simp only[resLtC,Bool.and_eq_true]at h
  have:=resOf_lo ho hlo h.2
  simp only[List.mapM_cons,resOf,hlo t (blt_iff.1 h.1),this,ho]
def RetC (N:Nat) (fn:AFn) (tm:Tm) (K:AV→Mem→Prop) (tm':Tm) (M':Mem):Prop:=gh N tm'=tm∧resLX tm' M' fn.res (fun rs=>rsv rs fun v=>K v M')
theorem CalP.walkC {L:Lib} {f:Nat} {fn:AFn} {vs:List AV} {tm:Tm} {M:Mem} {K:AV→Mem→Prop} (N:Nat) (hL:L f=some fn) (hp:Nat.beq vs.length fn.pars=true) (hN:(Nat.ble fn.pars N&&(cLt N fn.body&&resLtC N fn.res))=true)
  (h:AKM L [.code fn.body] (initTm 0 vs++shT N tm) M (RetC N fn tm K)):CalP L f vs tm M K:=by
 intro σ own hs
 simp only[Bool.and_eq_true]at hN
 obtain ⟨n1,n2,n3⟩:=hN
 have n1:=Nat.le_of_ble_eq_true n1
 have hp:vs.length=fn.pars:=Nat.eq_of_beq_eq_true hp
 have hrx:RX σ (initTm 0 vs++shT N tm) M ⟨mapT (st3 σ) (initTm 0 vs++shT N tm),own⟩:=⟨fun j=>Or.inr (by rw[tg_eq];exact tget_mapT (st3_any σ) j _),hs⟩
 obtain ⟨n,c,s',hr,σ',tm',M',hR,hg,hres⟩:=h σ _ hrx
 have hgh:Gh N (mapT (st3 σ) (shT N tm)) (initTm 0 (vs.map (st3 σ))) (mapT (st3 σ) (initTm 0 vs++shT N tm)):=by
  constructor
  ·intro j hj
   rw[initTm_map,tget_mapT (st3_any σ),tget_mapT (st3_any σ)]
   rcases tget_append j (shT N tm) (initTm 0 vs) with ⟨_,e⟩|⟨hn,e⟩
   ·rw[e]
   ·rw[e,tget_shT_lt hj,tget_initTm_hi j 0 vs hn]
  ·intro j hj
   rw[tget_mapT (st3_any σ),tget_mapT (st3_any σ)]
   rcases tget_append j (shT N tm) (initTm 0 vs) with ⟨hn,e⟩|⟨_,e⟩
   ·have:=initTm_any j 0 vs hn
    omega
   ·rw[e]
 obtain ⟨s,r1,r2,r3⟩:=run_gh n (by simp [iLt,n2]) hgh hr
 obtain ⟨rs,i1,i2,i3⟩:=resLX_sound hR hres
 rw[←resOf_lo (s:=s) r2.symm r3.lo n3,i3]at i1
 have key : ∃ r,resVal (rs.map (st2 σ'))=st3 σ' r∧K r M':=by
  match rs,i2,i3 with
  | [],h,_=>exact ⟨.tup [],rfl,h⟩
  | [v],h,e =>
   simp only[List.map_cons,List.map_nil,List.cons.injEq,and_true]at e
   exact ⟨v,by simp only[List.map_cons,List.map_nil,resVal];exact e.symm,h⟩
  | a::b::l,h,_=>exact ⟨.tup (a::b::l),rfl,h⟩
 obtain ⟨r,k1,k2⟩:=key
 refine ⟨r,s.own,σ',M',EvI.intro hL (by simpa using hp) ⟨n,c,s,r1,?_,rfl⟩,?_,?_,k2⟩
 ·rw[i1,Option.map_some,k1]
 ·rw[←r2];exact hR.sat
 ·intro j
  have e1:tg tm j=tg tm' (N+j):=by rw[tg_eq,tg_eq,←hg,tget_gh]
  rcases hR.tm (N+j) with e|e
  ·rw[e1,e];rfl
  ·rw[e1,←e,r3.hi (N+j) (by omega),tget_mapT (st3_any σ),tget_shT,←tg_eq,e1]
end Go.Eng

namespace Go.Eng
def zv (neg:Bool) (m:List Nat):Int:=bif neg then -(val m:Int) else (val m:Int)
abbrev rZ (q neg:Bool) (m:List Nat):List AV:=[.bool neg,.sl q (m.map e32)]
abbrev eZ (z:Int):List AV:=rZ false (decide (z<0)) (dg z.natAbs)
theorem zv_abs (neg:Bool) (m:List Nat):(zv neg m).natAbs=val m:=by cases neg<;>simp [zv]
theorem zv_of (z:Int):zv (decide (z<0)) (dg z.natAbs)=z:=by
 unfold zv
 rw[val_dg]
 by_cases h:z<0
 ·simp [h];omega
 ·simp [h];omega
def Sm (n:Nat) (m:List Nat):Prop:=Dig m∧m.length≤n
theorem Sm.dg {n V:Nat} (h:V<4294967296^n):Sm n (dg V):=⟨dig_dg V,dg_len_le.2 h⟩
theorem Sm.le {n n':Nat} {m:List Nat} (h:Sm n m) (hn:n≤n'):Sm n' m:=⟨h.1,by have:=h.2;omega⟩
theorem Sm.val {n:Nat} {m:List Nat} (h:Sm n m):val m<4294967296^n:=Nat.lt_of_lt_of_le (val_lt h.1) (Nat.pow_le_pow_right (by omega) h.2)
theorem Sm.nrm {n:Nat} {m:List Nat} (h:Sm n m):Sm n (Go.Eng.dg (Go.Eng.val m)):=Sm.dg h.val
theorem agg_eZ {z:Int} {b:Bool} {n:Nat} (h1:n=z.natAbs) (h2:b=decide (z<0)):AV.agg [.bool b,.sl false ((dg n).map e32)] = .agg (eZ z):=by rw[h1,h2]
theorem cl_eZ (z:Int):Clean (.agg (eZ z)):=by
 simp only[Clean,CleanL,and_true,true_and]
 exact cl_dig _
theorem sgn_T {z:Int} (h:z<0):true=decide (z<0):=by simp [h]
theorem sgn_F {z:Int} (h:0≤z):false=decide (z<0):=by simp;omega
theorem sm_nil (n:Nat):Sm n []:=⟨dig_nil,Nat.zero_le _⟩
theorem sm_one {n d:Nat} (hn:1≤n) (hd:d<4294967296):Sm n [d]:=⟨dig_one hd,hn⟩
theorem zv_nil (b:Bool):zv b []=0:=by cases b<;>rfl
theorem Sm.low {n V:Nat} {m:List Nat} (h:Sm n m) (hV:V≤Go.Eng.val m):Sm n (Go.Eng.dg V):=Sm.dg (Nat.lt_of_le_of_lt hV h.val)
theorem Sm.mul {n k:Nat} {a b:List Nat} (ha:Sm n a) (hb:Sm k b) {V:Nat} (hV:V=Go.Eng.val a*Go.Eng.val b):Sm (n+k) (Go.Eng.dg V):=by
 refine Sm.dg ?_
 rw[hV,Nat.pow_add]
 exact Nat.mul_lt_mul_of_le_of_lt (Nat.le_of_lt ha.val) hb.val (Nat.pow_pos (by omega))
theorem Sm.add {n:Nat} {a b:List Nat} (ha:Sm n a) (hb:Sm n b) {V:Nat} (hV:V≤Go.Eng.val a+Go.Eng.val b):Sm (n+1) (Go.Eng.dg V):=by
 refine Sm.dg ?_
 have h1:=ha.val
 have h2:=hb.val
 rw[Nat.pow_succ]
 omega
theorem dg_len0 (V:Nat):(dg V).length=0↔V=0:=by rw[List.length_eq_zero_iff,dg_eq_nil]
theorem zv_F (m:List Nat):zv false m=(val m:Int):=rfl
theorem zv_T (m:List Nat):zv true m = -(val m:Int):=rfl
def sgn (z:Int):Int:=if z<0 then -1 else if 0<z then 1 else 0
theorem sgn_neg {z:Int} (h:z<0) : -1=sgn z:=by unfold sgn;rw[if_pos h]
theorem sgn_pos {z:Int} (h:0<z):1=sgn z:=by unfold sgn;rw[if_neg (by omega),if_pos h]
theorem sgn_zero {z:Int} (h:z=0):0=sgn z:=by unfold sgn;rw[if_neg (by omega),if_neg (by omega)]
theorem val_two {n:Nat} (h:n<18446744073709551616):val [n%4294967296,n/4294967296]=n:=(by simp [val];omega)
end Go.Eng

namespace Go.Eng
open F
attribute [local irreducible] AKM CmpP Req OpP UnP ConvP RdP LdR StR MkR LenP AppR AppN CpyR RowP SnR Bds SlS CallP CalP FinP pw LdM GetM SetM PutM MkM AppM SnM FlP CallR
set_option maxHeartbeats 4000000
variable {L:Lib}
theorem ConvP.u64neg {k:Nat} {K:Int→Prop} (h:0<k∧k≤9223372036854775808) (hk:K ((18446744073709551616-k:Nat):Int)):ConvP .u64 (-(k:Int)) K:=by
 unfold ConvP
 have e:IntKind.u64.wrap (-(k:Int))=((18446744073709551616-k:Nat):Int):=by
  simp [IntKind.wrap,IntKind.bits,IntKind.signed];omega
 rw[e];exact hk
theorem UnP.neg64 {k:Nat} {K:AV→Prop} (h:0<k∧k≤9223372036854775808) (hk:K (.int .u64 (k:Int))):UnP .neg .u64 ((18446744073709551616-k:Nat):Int) K:=by
 refine UnP.go (v := .int .u64 (IntKind.u64.wrap (0-((18446744073709551616-k:Nat):Int)))) rfl ?_
 have e:IntKind.u64.wrap (0-((18446744073709551616-k:Nat):Int))=(k:Int):=by
  simp [IntKind.wrap,IntKind.bits,IntKind.signed];omega
 rw[e];exact hk
theorem ev_integer_Of (N:RatGLib L) (z:Int) (hz : -9223372036854775808≤z∧z≤9223372036854775807):Ev L 85 [.int .i64 z] (.agg (eZ z)):=by
 have two : ∀ k:Nat,k<18446744073709551616 → ∀ q,Ev L 66 [.sl q [[.int .u32 ((k%4294967296:Nat):Int)],[.int .u32 ((k/4294967296:Nat):Int)]]] (.sl false ((dg k).map e32)):=fun k hk q=>by
  have:=ev_Trim N.toNatGLib [k%4294967296,k/4294967296] q (dg2 hk).2 (by simp)
  rw[val_two hk]at this
  exact this
 refine Ev.x N.integer_Of rfl rfl ?_
 by_cases h0:0≤z
 ·obtain ⟨k,rfl⟩:=Int.eq_ofNat_of_zero_le h0
  have hT:=two k (by omega)
  have z1:=dg_len0 k
  (repeat' (first|(refine CmpP.go (fun hc => ?_) (fun hc => ?_)<;>first|(exfalso;omega)|(conv=>whnf))|(refine OpP.nshr32 ?_;conv=>whnf)|(refine ConvP.u64 ?_ ?_;omega;conv=>whnf)|(refine ConvP.n32i ?_ ?_;omega;conv=>whnf)|(refine ConvP.n32 ?_;conv=>whnf)|(refine SnR.e2 rfl rfl ?_;conv=>whnf)|(refine AKM.x ?_;conv=>whnf)))
  generalize k%4294967296=lo at *
  generalize k/4294967296=hi at *
  (repeat' (refine CallP.go (hT _) ?_;conv=>whnf))
  refine CalP.walkC 1000 N.integer_signed rfl rfl ?_
  (repeat' (refine AKM.x ?_;conv=>whnf))
  all_goals (refine ⟨rfl,?_⟩;(conv=>whnf);skip)
  exact FinP.go (agg_eZ (by omega) (sgn_F (by omega))) (cl_eZ _)
 ·obtain ⟨k,hk⟩:=Int.eq_ofNat_of_zero_le (show 0 ≤ -z by omega)
  obtain rfl:z = -(k:Int):=by omega
  have hT:=two k (by omega)
  have z1:=dg_len0 k
  (repeat' (refine AKM.x ?_;conv=>whnf))
  refine ConvP.u64neg (by omega) ?_
  (conv=>whnf)
  (repeat' (refine CmpP.go (fun hc => ?_) (fun hc => ?_)<;>first|(exfalso;omega)|(conv=>whnf)))
  refine UnP.neg64 (by omega) ?_
  (conv=>whnf)
  (repeat' (first|(refine CmpP.go (fun hc => ?_) (fun hc => ?_)<;>first|(exfalso;omega)|(conv=>whnf))|(refine OpP.nshr32 ?_;conv=>whnf)|(refine ConvP.n32i ?_ ?_;omega;conv=>whnf)|(refine ConvP.n32 ?_;conv=>whnf)|(refine SnR.e2 rfl rfl ?_;conv=>whnf)))
  generalize k%4294967296=lo at *
  generalize k/4294967296=hi at *
  (repeat' (refine CallP.go (hT _) ?_;conv=>whnf))
  refine CalP.walkC 1000 N.integer_signed rfl rfl ?_
  (repeat' (first|(refine CmpP.go (fun hc => ?_) (fun hc => ?_)<;>first|(exfalso;omega)|(conv=>whnf))|(refine LenP.go ?_;conv=>whnf)|(refine AKM.x ?_;conv=>whnf)))
  all_goals (refine ⟨rfl,?_⟩;(conv=>whnf);skip)
  exact FinP.go (agg_eZ (by omega) (sgn_T (by omega))) (cl_eZ _)
theorem ev_integer_Trim (N:RatGLib L) (n q:Bool) (m:List Nat) (hm:Sm 549755813888 m):Ev L 84 [.agg (rZ q n m)] (.agg (eZ (zv n m))):=by
 have hT:=fun q=>ev_Trim N.toNatGLib m q hm.1 (by have:=hm.2;omega)
 have hz:=dg_len0 (val m)
 have ha:=zv_abs n m
 refine Ev.x N.integer_Trim rfl rfl ?_
 cases n
 ·rw[zv_F]at *
  (repeat' (first|(refine AKM.x ?_;conv=>whnf)|(refine CallP.go (hT _) ?_;conv=>whnf)))
  refine CalP.walkC 1000 N.integer_signed rfl rfl ?_
  (repeat' (refine AKM.x ?_;conv=>whnf))
  all_goals (refine ⟨rfl,?_⟩;(conv=>whnf);skip)
  exact FinP.go (agg_eZ ha.symm (sgn_F (by omega))) (cl_eZ _)
 ·rw[zv_T]at *
  (repeat' (first|(refine AKM.x ?_;conv=>whnf)|(refine CallP.go (hT _) ?_;conv=>whnf)))
  refine CalP.walkC 1000 N.integer_signed rfl rfl ?_
  (repeat' (first|(refine CmpP.go (fun hc => ?_) (fun hc => ?_)<;>first|(exfalso;omega)|(conv=>whnf))|(refine LenP.go ?_;conv=>whnf)|(refine AKM.x ?_;conv=>whnf)))
  all_goals (refine ⟨rfl,?_⟩;(conv=>whnf);skip)
  ·exact FinP.go (agg_eZ ha.symm (sgn_T (by omega))) (cl_eZ _)
  ·exact FinP.go (agg_eZ ha.symm (sgn_F (by omega))) (cl_eZ _)
theorem ev_integer_Sign (N:RatGLib L) (n q:Bool) (m:List Nat) (hm:Sm 549755813888 m):Ev L 86 [.agg (rZ q n m)] (.int .i64 (sgn (zv n m))):=by
 have hcmp:=fun q q'=>ev_nat_Compare N.toNatGLib m [] q q' hm.1 dig_nil (by have:=hm.2;omega) (by simp)
 rw[val_nil]at hcmp
 refine Ev.x N.integer_Sign rfl rfl ?_
 by_cases h0:val m=0
 ·have hn:cmpS (val m) (0:Nat)=0:=(cmpS_eq (by omega)).symm
  rw[hn]at hcmp
  (repeat' (first|(refine CmpP.go (fun hc => ?_) (fun hc => ?_)<;>first|(exfalso;omega)|(conv=>whnf))|(refine AKM.x ?_;conv=>whnf)|(refine CallP.go (hcmp _ _) ?_;conv=>whnf)))
  exact FinP.i (sgn_zero (by have:=zv_abs n m;omega))
 ·have hn:cmpS (val m) (0:Nat)=1:=(cmpS_gt (by omega)).symm
  rw[hn]at hcmp
  cases n
  ·(repeat' (first|(refine CmpP.go (fun hc => ?_) (fun hc => ?_)<;>first|(exfalso;omega)|(conv=>whnf))|(refine AKM.x ?_;conv=>whnf)|(refine CallP.go (hcmp _ _) ?_;conv=>whnf)))
   exact FinP.i (sgn_pos (by rw[zv_F];omega))
  ·(repeat' (first|(refine CmpP.go (fun hc => ?_) (fun hc => ?_)<;>first|(exfalso;omega)|(conv=>whnf))|(refine AKM.x ?_;conv=>whnf)|(refine CallP.go (hcmp _ _) ?_;conv=>whnf)))
   exact FinP.i (sgn_neg (by rw[zv_T];omega))
theorem ev_integer_Add (N:RatGLib L) (n1 n2 q1 q2:Bool) (a b:List Nat) (ha:Sm 549755813888 a) (hb:Sm 549755813888 b):Ev L 87 [.agg (rZ q1 n1 a),.agg (rZ q2 n2 b)] (.agg (eZ (zv n1 a+zv n2 b))):=by
 have la:=ha.2
 have lb:=hb.2
 have h1:=fun q q'=>ev_nat_Add N.toNatGLib a b q q' ha.1 hb.1 (by omega) (by omega)
 have h2:=fun q q'=>ev_nat_Sub N.toNatGLib a b q q' ha.1 hb.1 (by omega) (by omega)
 have h3:=fun q q'=>ev_nat_Sub N.toNatGLib b a q q' hb.1 ha.1 (by omega) (by omega)
 have hcmp:=fun q q'=>ev_nat_Compare N.toNatGLib a b q q' ha.1 hb.1 (by omega) (by omega)
 have z1:=dg_len0 (val a+val b)
 have z2:=dg_len0 (val a-val b)
 have z3:=dg_len0 (val b-val a)
 refine Ev.x N.integer_Add rfl rfl ?_
 by_cases hlt:val a<val b
 ·have hn:cmpS (val a) (val b) = -1:=(cmpS_lt (by omega)).symm
  rw[hn]at hcmp
  cases n1<;>cases n2<;>simp only[zv_F,zv_T]
  ·(repeat' (first|(refine AKM.x ?_;conv=>whnf)|(refine CallP.go (h1 _ _) ?_;conv=>whnf)))
   refine CalP.walkC 1000 N.integer_signed rfl rfl ?_
   (repeat' (refine AKM.x ?_;conv=>whnf))
   all_goals (refine ⟨rfl,?_⟩;(conv=>whnf);skip)
   exact FinP.go (agg_eZ (by omega) (sgn_F (by omega))) (cl_eZ _)
  ·(repeat' (first|(refine CmpP.go (fun hc => ?_) (fun hc => ?_)<;>first|(exfalso;omega)|(conv=>whnf))|(refine AKM.x ?_;conv=>whnf)|(refine CallP.go (h3 _ _) ?_;conv=>whnf)|(refine CallP.go (hcmp _ _) ?_;conv=>whnf)))
   refine CalP.walkC 1000 N.integer_signed rfl rfl ?_
   (repeat' (first|(refine CmpP.go (fun hc => ?_) (fun hc => ?_)<;>first|(exfalso;omega)|(conv=>whnf))|(refine LenP.go ?_;conv=>whnf)|(refine AKM.x ?_;conv=>whnf)))
   all_goals (refine ⟨rfl,?_⟩;(conv=>whnf);skip)
   ·exact FinP.go (agg_eZ (by omega) (sgn_T (by omega))) (cl_eZ _)
  ·(repeat' (first|(refine CmpP.go (fun hc => ?_) (fun hc => ?_)<;>first|(exfalso;omega)|(conv=>whnf))|(refine AKM.x ?_;conv=>whnf)|(refine CallP.go (h3 _ _) ?_;conv=>whnf)|(refine CallP.go (hcmp _ _) ?_;conv=>whnf)))
   refine CalP.walkC 1000 N.integer_signed rfl rfl ?_
   (repeat' (refine AKM.x ?_;conv=>whnf))
   all_goals (refine ⟨rfl,?_⟩;(conv=>whnf);skip)
   ·exact FinP.go (agg_eZ (by omega) (sgn_F (by omega))) (cl_eZ _)
  ·(repeat' (first|(refine AKM.x ?_;conv=>whnf)|(refine CallP.go (h1 _ _) ?_;conv=>whnf)))
   refine CalP.walkC 1000 N.integer_signed rfl rfl ?_
   (repeat' (first|(refine CmpP.go (fun hc => ?_) (fun hc => ?_)<;>first|(exfalso;omega)|(conv=>whnf))|(refine LenP.go ?_;conv=>whnf)|(refine AKM.x ?_;conv=>whnf)))
   all_goals (refine ⟨rfl,?_⟩;(conv=>whnf);skip)
   ·exact FinP.go (agg_eZ (by omega) (sgn_T (by omega))) (cl_eZ _)
 ·have hn:cmpS (val a) (val b) ≠ -1:=by unfold cmpS;split<;>(try split)<;>omega
  generalize cmpS (val a) (val b)=cm at *
  cases n1<;>cases n2<;>simp only[zv_F,zv_T]
  ·(repeat' (first|(refine AKM.x ?_;conv=>whnf)|(refine CallP.go (h1 _ _) ?_;conv=>whnf)))
   refine CalP.walkC 1000 N.integer_signed rfl rfl ?_
   (repeat' (refine AKM.x ?_;conv=>whnf))
   all_goals (refine ⟨rfl,?_⟩;(conv=>whnf);skip)
   exact FinP.go (agg_eZ (by omega) (sgn_F (by omega))) (cl_eZ _)
  ·(repeat' (first|(refine CmpP.go (fun hc => ?_) (fun hc => ?_)<;>first|(exfalso;omega)|(conv=>whnf))|(refine AKM.x ?_;conv=>whnf)|(refine CallP.go (h2 _ _) ?_;conv=>whnf)|(refine CallP.go (hcmp _ _) ?_;conv=>whnf)))
   refine CalP.walkC 1000 N.integer_signed rfl rfl ?_
   (repeat' (refine AKM.x ?_;conv=>whnf))
   all_goals (refine ⟨rfl,?_⟩;(conv=>whnf);skip)
   exact FinP.go (agg_eZ (by omega) (sgn_F (by omega))) (cl_eZ _)
  ·(repeat' (first|(refine CmpP.go (fun hc => ?_) (fun hc => ?_)<;>first|(exfalso;omega)|(conv=>whnf))|(refine AKM.x ?_;conv=>whnf)|(refine CallP.go (h2 _ _) ?_;conv=>whnf)|(refine CallP.go (hcmp _ _) ?_;conv=>whnf)))
   refine CalP.walkC 1000 N.integer_signed rfl rfl ?_
   (repeat' (first|(refine CmpP.go (fun hc => ?_) (fun hc => ?_)<;>first|(exfalso;omega)|(conv=>whnf))|(refine LenP.go ?_;conv=>whnf)|(refine AKM.x ?_;conv=>whnf)))
   all_goals (refine ⟨rfl,?_⟩;(conv=>whnf);skip)
   ·exact FinP.go (agg_eZ (by omega) (sgn_T (by omega))) (cl_eZ _)
   ·exact FinP.go (agg_eZ (by omega) (sgn_F (by omega))) (cl_eZ _)
  ·(repeat' (first|(refine AKM.x ?_;conv=>whnf)|(refine CallP.go (h1 _ _) ?_;conv=>whnf)))
   refine CalP.walkC 1000 N.integer_signed rfl rfl ?_
   (repeat' (first|(refine CmpP.go (fun hc => ?_) (fun hc => ?_)<;>first|(exfalso;omega)|(conv=>whnf))|(refine LenP.go ?_;conv=>whnf)|(refine AKM.x ?_;conv=>whnf)))
   all_goals (refine ⟨rfl,?_⟩;(conv=>whnf);skip)
   ·exact FinP.go (agg_eZ (by omega) (sgn_T (by omega))) (cl_eZ _)
   ·exact FinP.go (agg_eZ (by omega) (sgn_F (by omega))) (cl_eZ _)
theorem ev_integer_Mul (N:RatGLib L) (n1 n2 q1 q2:Bool) (a b:List Nat) (ha:Dig a) (hb:Dig b) (hl:a.length+b.length≤1099511627776):Ev L 88 [.agg (rZ q1 n1 a),.agg (rZ q2 n2 b)] (.agg (eZ (zv n1 a*zv n2 b))):=by
 have h1:=fun q q'=>ev_nat_Mul N.toNatGLib a b q q' ha hb hl
 have z1:=dg_len0 (val a*val b)
 have habs:(zv n1 a*zv n2 b).natAbs=val a*val b:=by rw[Int.natAbs_mul,zv_abs,zv_abs]
 refine Ev.x N.integer_Mul rfl rfl ?_
 have e:zv n1 a*zv n2 b=bif n1 == n2 then ((val a*val b:Nat):Int) else -((val a*val b:Nat):Int):=by
  cases n1<;>cases n2<;>simp [zv_F,zv_T,Int.mul_neg,Int.neg_mul]
 rw[e]at habs ⊢
 generalize val a*val b=V at *
 cases n1<;>cases n2<;>simp only[beq_self_eq_true,cond_true,show (false == true)=false from rfl,show (true == false)=false from rfl,cond_false]
 ·(repeat' (first|(refine AKM.x ?_;conv=>whnf)|(refine CallP.go (h1 _ _) ?_;conv=>whnf)))
  refine CalP.walkC 1000 N.integer_signed rfl rfl ?_
  (repeat' (refine AKM.x ?_;conv=>whnf))
  all_goals (refine ⟨rfl,?_⟩;(conv=>whnf);skip)
  exact FinP.go (agg_eZ (by omega) (sgn_F (by omega))) (cl_eZ _)
 ·(repeat' (first|(refine AKM.x ?_;conv=>whnf)|(refine CallP.go (h1 _ _) ?_;conv=>whnf)))
  refine CalP.walkC 1000 N.integer_signed rfl rfl ?_
  (repeat' (first|(refine CmpP.go (fun hc => ?_) (fun hc => ?_)<;>first|(exfalso;omega)|(conv=>whnf))|(refine LenP.go ?_;conv=>whnf)|(refine AKM.x ?_;conv=>whnf)))
  all_goals (refine ⟨rfl,?_⟩;(conv=>whnf);skip)
  ·exact FinP.go (agg_eZ (by omega) (sgn_T (by omega))) (cl_eZ _)
  ·exact FinP.go (agg_eZ (by omega) (sgn_F (by omega))) (cl_eZ _)
 ·(repeat' (first|(refine AKM.x ?_;conv=>whnf)|(refine CallP.go (h1 _ _) ?_;conv=>whnf)))
  refine CalP.walkC 1000 N.integer_signed rfl rfl ?_
  (repeat' (first|(refine CmpP.go (fun hc => ?_) (fun hc => ?_)<;>first|(exfalso;omega)|(conv=>whnf))|(refine LenP.go ?_;conv=>whnf)|(refine AKM.x ?_;conv=>whnf)))
  all_goals (refine ⟨rfl,?_⟩;(conv=>whnf);skip)
  ·exact FinP.go (agg_eZ (by omega) (sgn_T (by omega))) (cl_eZ _)
  ·exact FinP.go (agg_eZ (by omega) (sgn_F (by omega))) (cl_eZ _)
 ·(repeat' (first|(refine AKM.x ?_;conv=>whnf)|(refine CallP.go (h1 _ _) ?_;conv=>whnf)))
  refine CalP.walkC 1000 N.integer_signed rfl rfl ?_
  (repeat' (refine AKM.x ?_;conv=>whnf))
  all_goals (refine ⟨rfl,?_⟩;(conv=>whnf);skip)
  exact FinP.go (agg_eZ (by omega) (sgn_F (by omega))) (cl_eZ _)
end Go.Eng

namespace Go.Eng
abbrev rQ (q1 q2 n:Bool) (m d:List Nat):List AV:=[.bool n,.sl q1 (m.map e32),.sl q2 (d.map e32)]
abbrev eQ (x:Rat):List AV:=rQ false false (decide (x.num<0)) (dg x.num.natAbs) (dg x.den)
def qv (n:Bool) (m d:List Nat):Rat:=mkRat (zv n m) (val d)
theorem qv_of (x:Rat):qv (decide (x.num<0)) (dg x.num.natAbs) (dg x.den)=x:=by
 unfold qv
 rw[zv_of,val_dg,Rat.mkRat_self]
theorem gcd_pos' {d:Nat} (z:Nat) (hd:d≠0):0<Nat.gcd d z:=Nat.gcd_pos_of_pos_left z (by omega)
theorem mk_parts {z:Int} {d:Nat} (hd:d≠0):(mkRat z d).num.natAbs=z.natAbs/Nat.gcd d z.natAbs∧(mkRat z d).den=d/Nat.gcd d z.natAbs∧decide ((mkRat z d).num<0)=decide (z<0):=by
 have hg:=gcd_pos' z.natAbs hd
 have h1:=Rat.num_mkRat z d
 have h2:=Rat.den_mkRat z d
 rw[if_neg hd]at h1 h2
 rw[h1,h2]
 obtain ⟨k,hk⟩:=Nat.gcd_dvd_right d z.natAbs
 generalize hG:Nat.gcd d z.natAbs=g at *
 have hz:z=(g:Int)*(z.sign*k):=by
  rw[←Int.mul_assoc,Int.mul_comm (g:Int),Int.mul_assoc,←Int.natCast_mul,←hk,Int.sign_mul_natAbs]
 have e1:z/(g:Int)=z.sign*k:=by
  rw[hz,Int.mul_ediv_cancel_left _ (by omega),←hz]
 refine ⟨?_,rfl,?_⟩
 ·rw[e1,Int.natAbs_mul,hk,Nat.mul_div_cancel_left _ hg]
  by_cases h0:z=0
  ·subst h0
   have:k=0:=by
    have h5:g*k=0:=hk.symm
    rcases Nat.mul_eq_zero.1 h5 with h|h
    ·omega
    ·exact h
   subst this;simp
  ·rw[Int.natAbs_sign_of_ne_zero h0,Nat.one_mul];simp
 ·congr 1
  rw[eq_iff_iff]
  rw[Int.ediv_lt_iff_lt_mul (by omega),Int.zero_mul]
theorem cl_eQ (x:Rat):Clean (.agg (eQ x)):=by
 simp only[Clean,CleanL,and_true,true_and]
 exact ⟨cl_dig _,cl_dig _⟩
theorem cl_agg4 (b w:Bool) (m d:List Nat):Clean (.agg [.bool b,.sl false (m.map e32),.sl false (d.map e32),.bool w]):=by
 simp only[Clean,CleanL,and_true,true_and]
 exact ⟨cl_dig _,cl_dig _⟩
theorem cl_agg2 (b:Bool) (m:List Nat):Clean (.agg [.bool b,.sl false (m.map e32)]):=by
 simp only[Clean,CleanL,and_true,true_and]
 exact cl_dig _
theorem cl_agg3 (b:Bool) (m d:List Nat):Clean (.agg [.bool b,.sl false (m.map e32),.sl false (d.map e32)]):=by
 simp only[Clean,CleanL,and_true,true_and]
 exact ⟨cl_dig _,cl_dig _⟩
theorem flat_dig (q:Bool) (l:List Nat):Flat1 (.sl q (l.map e32)):=by
 intro e he c hc
 obtain ⟨x,_,rfl⟩:=List.mem_map.1 he
 simp at hc
 subst hc
 rfl
theorem FlP.n4 {b w q1 q2:Bool} {m d:List Nat} {K:AV→Prop} (hk:K (.agg [.bool b,.sl true (m.map e32),.sl true (d.map e32),.bool w])):FlP (.agg [.bool b,.sl q1 (m.map e32),.sl q2 (d.map e32),.bool w]) K:=by
 refine ⟨fun c hc => ?_,hk⟩
 simp only[List.mem_cons,List.not_mem_nil,or_false]at hc
 rcases hc with rfl|rfl|rfl|rfl
 ·trivial
 ·exact flat_dig _ _
 ·exact flat_dig _ _
 ·trivial
theorem FlP.n3 {b q1 q2:Bool} {m d:List Nat} {K:AV→Prop} (hk:K (.agg [.bool b,.sl true (m.map e32),.sl true (d.map e32)])):FlP (.agg [.bool b,.sl q1 (m.map e32),.sl q2 (d.map e32)]) K:=by
 refine ⟨fun c hc => ?_,hk⟩
 simp only[List.mem_cons,List.not_mem_nil,or_false]at hc
 rcases hc with rfl|rfl|rfl
 ·trivial
 ·exact flat_dig _ _
 ·exact flat_dig _ _
theorem FlP.n2 {b q1:Bool} {m:List Nat} {K:AV→Prop} (hk:K (.agg [.bool b,.sl true (m.map e32)])):FlP (.agg [.bool b,.sl q1 (m.map e32)]) K:=by
 refine ⟨fun c hc => ?_,hk⟩
 simp only[List.mem_cons,List.not_mem_nil,or_false]at hc
 rcases hc with rfl|rfl
 ·trivial
 ·exact flat_dig _ _
theorem mk_add {a b:Int} {d e:Nat} (hd:d≠0) (he:e≠0):mkRat a d+mkRat b e=mkRat (a*e+b*d) (d*e):=Rat.mkRat_add_mkRat a b hd he
theorem mk_add_same {a b:Int} {d:Nat} (hd:d≠0):mkRat a d+mkRat b d=mkRat (a+b) d:=by
 rw[mk_add hd hd,←Int.add_mul,Rat.mkRat_mul_right hd]
theorem mk_mul (a b:Int) (d e:Nat):mkRat a d*mkRat b e=mkRat (a*b) (d*e):=Rat.mkRat_mul_mkRat a b d e
theorem mk_one (a:Int):mkRat a 1=(a:Rat):=by
 have h:=Rat.mkRat_self (a:Rat)
 rw[Rat.num_intCast,Rat.den_intCast]at h
 exact h
theorem mk_num_zero {z:Int} {d:Nat} (hd:d≠0):mkRat z d=0↔z=0:=Rat.mkRat_eq_zero hd
theorem mk_sgn {z:Int} {d:Nat} (hd:d≠0):sgn (mkRat z d).num=sgn z:=by
 obtain ⟨_,_,h⟩:=mk_parts (z:=z) hd
 have h0:(mkRat z d).num=0↔z=0:=by rw[Rat.num_eq_zero,mk_num_zero hd]
 have h1:(mkRat z d).num<0↔z<0:=by simpa using h
 unfold sgn
 by_cases a:z<0
 ·rw[if_pos a,if_pos (h1.2 a)]
 ·rw[if_neg a,if_neg (fun h=>a (h1.1 h))]
  by_cases b:z=0
  ·rw[if_neg (by omega),if_neg (by have:=h0.2 b;omega)]
  ·rw[if_pos (by omega),if_pos (by have:=mt h0.1 b;have:=mt h1.1 a;omega)]
theorem mk_div {a b:Int} {d e:Nat} (hd:d≠0) (he:e≠0) (hb:b≠0):mkRat a d/mkRat b e=mkRat (b.sign*(a*e)) (d*b.natAbs):=by
 have hbn:b.natAbs≠0:=by omega
 have h1:mkRat b e≠0:=fun h=>hb ((mk_num_zero he).1 h)
 have key:mkRat (b.sign*(a*e)) (d*b.natAbs)*mkRat b e=mkRat a d:=by
  rw[mk_mul]
  have e1:b.sign*(a*e)*b=a*((b.natAbs*e:Nat):Int):=by
   have:=Int.sign_mul_self b
   rw[Int.natCast_mul,←this]
   grind
  rw[e1,show d*b.natAbs*e=d*(b.natAbs*e) by rw[Nat.mul_assoc]]
  exact Rat.mkRat_mul_right (Nat.mul_ne_zero hbn he)
 rw[←key,Rat.mul_div_cancel h1]
theorem zv_quot {x y:Int} (hy:y≠0):zv (decide (x<0) != decide (y<0)) (dg x.natAbs)=y.sign*x:=by
 unfold zv
 rw[val_dg]
 rcases Int.lt_or_gt_of_ne hy with h|h
 ·rw[Int.sign_eq_neg_one_of_neg h]
  by_cases hx:x<0
  ·simp [hx,h];omega
  ·simp [hx,h];omega
 ·rw[Int.sign_eq_one_of_pos h]
  by_cases hx:x<0
  ·simp [hx,show ¬ y<0 by omega];omega
  ·simp [hx,show ¬ y<0 by omega];omega
end Go.Eng

namespace Go.Eng
open F
attribute [local irreducible] AKM CmpP Req OpP UnP ConvP RdP LdR StR MkR LenP AppR AppN CpyR RowP SnR Bds SlS CallP CalP FinP pw LdM GetM SetM PutM MkM AppM SnM FlP CallR
set_option maxHeartbeats 4000000
variable {L:Lib}
theorem dg_one:dg 1=[1]:=by rw[dg_pos (by omega)];simp [dg_zero]
theorem ev_isOne (N:RatGLib L) (V:Nat) (q:Bool):Ev L 90 [.sl q ((dg V).map e32)] (.bool (decide (V=1))):=by
 have hv:=val_dg V
 have hD:=dig_dg V
 have h1:V=1→dg V=[1]:=fun h=>by rw[h,dg_one]
 generalize dg V=l at *
 refine Ev.x N.rational_isOne rfl rfl ?_
 by_cases hl:l.length=1
 ·obtain ⟨d,rfl⟩:=List.length_eq_one_iff.1 hl
  have e:V=d:=by rw[←hv];simp [val]
  subst e
  have hd:[V][(0:Int).toNat]? = some V:=rfl
  (repeat' (first|(refine CmpP.go (fun hc => ?_) (fun hc => ?_)<;>first|(exfalso;omega)|(conv=>whnf))|(refine LenP.go ?_;conv=>whnf)|(refine RdP.at (by assumption) ?_ rfl ?_;omega;conv=>whnf)|(refine AKM.x ?_;conv=>whnf)))
  ·exact FinP.dt (by omega)
  ·exact FinP.df (by omega)
 ·(repeat' (first|(refine CmpP.go (fun hc => ?_) (fun hc => ?_)<;>first|(exfalso;omega)|(conv=>whnf))|(refine LenP.go ?_;conv=>whnf)|(refine AKM.x ?_;conv=>whnf)))
  exact FinP.df (fun h=>by rw[h1 h]at hl;simp at hl)
theorem ev_lowest (N:RatGLib L) (n q1 q2:Bool) (m d:List Nat) (hm:Sm 549755813888 m) (hd:Sm 549755813888 d) (h0:val d≠0):Ev L 94 [.agg (rQ q1 q2 n m d)] (.agg (eQ (qv n m d))):=by
 have hDM:=fun q q'=>ev_nat_DivMod N.toNatGLib m d q q' hm.1 hd.1 hm.2 hd.2 h0
 have hza:=zv_abs n m
 have sq:Sm 549755813888 (dg (val m/val d)):=hm.low (Nat.div_le_self _ _)
 have sr:Sm 549755813888 (dg (val m%val d)):=hd.low (Nat.le_of_lt (Nat.mod_lt _ (by omega)))
 have hT:=fun q=>ev_integer_Trim N n q _ sq
 have hG:=fun q q'=>ev_nat_Gcd N.toNatGLib d (dg (val m%val d)) q q' hd.1 sr.1 hd.2 sr.2
 rw[val_dg,show Nat.gcd (val d) (val m%val d)=Nat.gcd (val d) (zv n m).natAbs by rw[hza,gcd_mod_step,Nat.gcd_comm]]at hG
 have hgp:=gcd_pos' (zv n m).natAbs h0
 have hgd:=Nat.gcd_le_left (zv n m).natAbs (show 0<val d by omega)
 have hz:=dg_len0 (val m%val d)
 obtain ⟨e1,e2,e3⟩:=mk_parts (z:=zv n m) h0
 unfold qv
 generalize hGG:Nat.gcd (val d) (zv n m).natAbs=g at *
 have h1:=fun q=>ev_isOne N g q
 refine Ev.x N.rational_pair_lowest rfl rfl ?_
 by_cases hr0:val m%val d=0
 ·(repeat' (first|(refine CmpP.go (fun hc => ?_) (fun hc => ?_)<;>first|(exfalso;omega)|(conv=>whnf))|(refine LenP.go ?_;conv=>whnf)|(refine AKM.x ?_;conv=>whnf)|(refine CallP.go (hDM _ _) ?_;conv=>whnf)|(refine CallP.go (hT _) ?_;conv=>whnf)))
  refine CalP.walkC 1000 N.rational_whole rfl rfl ?_
  (repeat' (refine AKM.x ?_;conv=>whnf))
  refine ⟨rfl,?_⟩
  (conv=>whnf)
  (repeat' (refine SnR.e1 rfl ?_;conv=>whnf))
  have hge:g=val d:=by
   rw[←hGG,hza]
   exact Nat.gcd_eq_left (Nat.dvd_of_mod_eq_zero hr0)
  have hv:=val_dg (val m/val d)
  refine FinP.go ?_ ?_
  ·show _=AV.agg (rQ _ _ _ _ _)
   rw[e1,e2,e3,hza,hge,Nat.div_self (by omega),zv_abs,hv,dg_one]
   have hs:decide (zv n (dg (val m/val d))<0)=decide (zv n m<0):=by
    cases n
    ·rw[zv_F,zv_F];simp;omega
    ·rw[zv_T,zv_T,hv]
     congr 1
     rw[eq_iff_iff]
     have h5:=Nat.div_add_mod (val m) (val d)
     rw[hr0,Nat.add_zero]at h5
     constructor
     ·intro h6
      have h7:val m/val d≠0:=by omega
      have:val m≠0:=fun h8=>h7 (by rw[h8,Nat.zero_div])
      omega
     ·intro h6
      have h7:val m/val d≠0:=fun h8=>by rw[h8,Nat.mul_zero]at h5;omega
      omega
   rw[hs]
   rfl
  ·exact cl_eQ _
 ·by_cases hg1:g=1
  ·have hT1:=fun q=>ev_integer_Trim N n q m hm
   have hT2:=fun q=>ev_Trim N.toNatGLib d q hd.1 (by have:=hd.2;omega)
   (repeat' (first|(refine CmpP.go (fun hc => ?_) (fun hc => ?_)<;>first|(exfalso;omega)|(conv=>whnf))|(refine LenP.go ?_;conv=>whnf)|(refine AKM.x ?_;conv=>whnf)|(refine CallP.go (hDM _ _) ?_;conv=>whnf)|(refine CallP.go (hG _ _) ?_;conv=>whnf)|(refine CallP.b (h1 _) (fun hf => ?_) (fun hf => ?_)<;>(conv=>whnf))|(refine CallP.go (hT1 _) ?_;conv=>whnf)|(refine CallP.go (hT2 _) ?_;conv=>whnf)))
   ·refine FinP.go ?_ (cl_agg3 _ _ _)
    show _=AV.agg (rQ _ _ _ _ _)
    rw[e1,e2,e3,hg1,Nat.div_one,Nat.div_one]
   ·exact absurd hg1 hf
  ·have sg:Sm 549755813888 (dg g):=hd.low hgd
   have hD1:=fun q q'=>ev_nat_DivMod N.toNatGLib m (dg g) q q' hm.1 sg.1 hm.2 sg.2 (by rw[val_dg];omega)
   have hD2:=fun q q'=>ev_nat_DivMod N.toNatGLib d (dg g) q q' hd.1 sg.1 hd.2 sg.2 (by rw[val_dg];omega)
   rw[val_dg]at hD1 hD2
   (repeat' (first|(refine CmpP.go (fun hc => ?_) (fun hc => ?_)<;>first|(exfalso;omega)|(conv=>whnf))|(refine LenP.go ?_;conv=>whnf)|(refine AKM.x ?_;conv=>whnf)|(refine CallP.go (hDM _ _) ?_;conv=>whnf)|(refine CallP.go (hG _ _) ?_;conv=>whnf)|(refine CallP.b (h1 _) (fun hf => ?_) (fun hf => ?_)<;>(conv=>whnf))|(refine CallP.go (hD1 _ _) ?_;conv=>whnf)|(refine CallP.go (hD2 _ _) ?_;conv=>whnf)))
   ·exact absurd hf hg1
   ·refine FinP.go ?_ (cl_agg3 _ _ _)
    show _=AV.agg (rQ _ _ _ _ _)
    rw[e1,e2,e3,hza]
    have hs:n=decide (zv n m<0):=by
     have:val m≠0:=fun h=>hr0 (by rw[h,Nat.zero_mod])
     cases n
     ·exact sgn_F (by rw[zv_F];omega)
     ·exact sgn_T (by rw[zv_T];omega)
    rw[←hs]
theorem ev_natural (N:RatGLib L) (m:List Nat):Ev L 91 [.sl false (m.map e32)] (.agg [.bool false,.sl false (m.map e32)]):=by
 refine Ev.x N.rational_natural rfl rfl ?_
 (repeat' (refine AKM.x ?_;conv=>whnf))
 exact FinP.go rfl (cl_agg2 _ _)
def RdIs (n:Bool) (m d:List Nat) (n':Bool) (m' d':List Nat) (w:Bool) (k:Nat):Prop:=Sm k m'∧Sm k d'∧val d'≠0∧(w=true→val d'=1)∧qv n m d=mkRat (zv n' m') (val d')
theorem ev_read (N:RatGLib L) (n:Bool) (m d:List Nat) (k:Nat) (hk:1≤k∧k≤549755813888) (hm:Sm k m) (hd:Sm k d) : ∃ n' m' d' w,Ev L 89 [.agg (rQ false false n m d)] (.agg [.bool n',.sl false (m'.map e32),.sl false (d'.map e32),.bool w])∧RdIs n m d n' m' d' w k:=by
 have hcmp:=fun q q'=>ev_nat_Compare N.toNatGLib d [] q q' hd.1 dig_nil (by have:=hd.2;omega) (by simp)
 rw[val_nil]at hcmp
 by_cases h1:d=[1]
 ·subst h1
  refine ⟨n,m,[1],true,?_,hm,hd,by decide,fun _=>rfl,rfl⟩
  refine Ev.x N.rational_read rfl rfl ?_
  have hd:[1][(0:Int).toNat]? = some 1:=rfl
  have hll:([1]:List Nat).length=1:=rfl
  (repeat' (first|(refine CmpP.go (fun hc => ?_) (fun hc => ?_)<;>first|(exfalso;omega)|(conv=>whnf))|(refine LenP.go ?_;conv=>whnf)|(refine RdP.at (by assumption) ?_ rfl ?_;omega;conv=>whnf)|(refine AKM.x ?_;conv=>whnf)))
  exact FinP.go rfl (cl_agg4 _ _ _ _)
 have hne : ∀ x,d[(0:Int).toNat]? = some x→(d.length:Int)=1→(x:Int)≠1:=fun x hx hl h=>by
  obtain ⟨y,rfl⟩:=List.length_eq_one_iff.1 (show d.length=1 by omega)
  simp at hx
  apply h1
  congr 1
  omega
 by_cases h0:val d=0
 ·refine ⟨false,[],[1],true,?_,sm_nil _,sm_one hk.1 (by omega),by decide,fun _=>rfl,by unfold qv;rw[h0,Rat.mkRat_zero,zv_nil,Rat.zero_mkRat]⟩
  have hn:cmpS (val d) (0:Nat)=0:=(cmpS_eq (by omega)).symm
  rw[hn]at hcmp
  refine Ev.x N.rational_read rfl rfl ?_
  have hD:=hd.1
  (repeat' (first|(refine CmpP.go (fun hc => ?_) (fun hc => ?_)<;>first|(exfalso;omega)|(conv=>whnf))|(refine LenP.go ?_;conv=>whnf)|(refine RdP.digi (by assumption) ?_ (fun e he hb => ?_);omega;conv=>whnf)|(refine SnR.e1 rfl ?_;conv=>whnf)|(refine AKM.x ?_;conv=>whnf)|(refine CallP.go (hcmp _ _) ?_;conv=>whnf)))
  all_goals first
   | exact FinP.go rfl (cl_agg4 _ _ _ _)
   | exact FinP.go rfl (cl_agg4 false true [] [1])
   | exact absurd (by assumption) (hne _ he (by assumption))
 ·refine ⟨n,m,d,false,?_,hm,hd,h0,(fun h=>by cases h),rfl⟩
  have hn:cmpS (val d) (0:Nat)=1:=(cmpS_gt (by omega)).symm
  rw[hn]at hcmp
  have hD:=hd.1
  refine Ev.x N.rational_read rfl rfl ?_
  (repeat' (first|(refine CmpP.go (fun hc => ?_) (fun hc => ?_)<;>first|(exfalso;omega)|(conv=>whnf))|(refine LenP.go ?_;conv=>whnf)|(refine RdP.digi (by assumption) ?_ (fun e he hb => ?_);omega;conv=>whnf)|(refine AKM.x ?_;conv=>whnf)|(refine CallP.go (hcmp _ _) ?_;conv=>whnf)))
  all_goals first
   | exact FinP.go rfl (cl_agg4 _ _ _ _)
   | exact FinP.go rfl (cl_agg4 false true [] [1])
   | exact absurd (by assumption) (hne _ he (by assumption))
theorem ev_rational_Trim (N:RatGLib L) (n q1 q2:Bool) (m d:List Nat) (hm:Sm 549755813888 m) (hd:Sm 549755813888 d):Ev L 95 [.agg (rQ q1 q2 n m d)] (.agg (eQ (qv n m d))):=by
 obtain ⟨n',m',d',w,hr,s1,s2,s3,s4,s5⟩:=ev_read N n m d 549755813888 (by omega) hm hd
 have hl:=fun q1 q2=>ev_lowest N n' q1 q2 m' d' s1 s2 s3
 rw[s5]
 unfold qv at hl
 refine Ev.x N.rational_Trim rfl rfl ?_
 (repeat' (first|(refine FlP.n4 ?_;conv=>whnf)|(refine AKM.x ?_;conv=>whnf)|(refine CallP.go (hr) ?_;conv=>whnf)|(refine CallP.go (hl _ _) ?_;conv=>whnf)))
 exact FinP.go rfl (cl_eQ _)
theorem ev_rational_Sign (N:RatGLib L) (n q1 q2:Bool) (m d:List Nat) (hm:Sm 549755813888 m) (hd:Sm 549755813888 d):Ev L 97 [.agg (rQ q1 q2 n m d)] (.int .i64 (sgn (qv n m d).num)):=by
 obtain ⟨n',m',d',w,hr,s1,s2,s3,s4,s5⟩:=ev_read N n m d 549755813888 (by omega) hm hd
 have hl:=fun q=>ev_integer_Sign N n' q m' s1
 rw[s5,mk_sgn s3]
 refine Ev.x N.rational_Sign rfl rfl ?_
 (repeat' (first|(refine FlP.n4 ?_;conv=>whnf)|(refine AKM.x ?_;conv=>whnf)|(refine CallP.go (hr) ?_;conv=>whnf)|(refine CallP.go (hl _) ?_;conv=>whnf)))
 exact FinP.i rfl
theorem agg_whole (z:Int):AV.agg [.bool (decide (z<0)),.sl false ((dg z.natAbs).map e32),.sl false [[.int .u32 1]]] = .agg (eQ (z:Rat)):=by
 show _=AV.agg (rQ _ _ _ _ _)
 rw[Rat.num_intCast,Rat.den_intCast,dg_one];rfl
theorem ev_rational_Of (N:RatGLib L) (z:Int) (hz : -9223372036854775808≤z∧z≤9223372036854775807):Ev L 96 [.int .i64 z] (.agg (eQ (z:Rat))):=by
 have h1:=ev_integer_Of N z hz
 refine Ev.x N.rational_Of rfl rfl ?_
 (repeat' (first|(refine AKM.x ?_;conv=>whnf)|(refine CallP.go (h1) ?_;conv=>whnf)))
 refine CalP.walkC 1000 N.rational_whole rfl rfl ?_
 (repeat' (refine AKM.x ?_;conv=>whnf))
 refine ⟨rfl,?_⟩
 (conv=>whnf)
 (repeat' (refine SnR.e1 rfl ?_;conv=>whnf))
 exact FinP.go (agg_whole z) (cl_eQ _)
theorem sm_zmul {k l:Nat} {n1 n2:Bool} {a b:List Nat} (ha:Sm k a) (hb:Sm l b):Sm (k+l) (dg (zv n1 a*zv n2 b).natAbs):=ha.mul hb (by rw[Int.natAbs_mul,zv_abs,zv_abs])
theorem sm_zadd {k:Nat} {x y:Int} (ha:Sm k (dg x.natAbs)) (hb:Sm k (dg y.natAbs)):Sm (k+1) (dg (x+y).natAbs):=ha.add hb (by rw[val_dg,val_dg];omega)
theorem ev_rational_Add (N:RatGLib L) (k:Nat) (hk:1≤k∧k≤68719476736) (n1 n2 q1 q2 q3 q4:Bool) (m1 d1 m2 d2:List Nat) (hm1:Sm k m1) (hd1:Sm k d1) (hm2:Sm k m2) (hd2:Sm k d2) :
  Ev L 98 [.agg (rQ q1 q2 n1 m1 d1),.agg (rQ q3 q4 n2 m2 d2)] (.agg (eQ (qv n1 m1 d1+qv n2 m2 d2))):=by
 obtain ⟨a1,a2,a3,w1,hr1,s1,s2,s3,s4,s5⟩:=ev_read N n1 m1 d1 k (by omega) hm1 hd1
 obtain ⟨b1,b2,b3,w2,hr2,t1,t2,t3,t4,t5⟩:=ev_read N n2 m2 d2 k (by omega) hm2 hd2
 rw[s5,t5]
 have hA:=fun q q'=>ev_integer_Add N a1 b1 q q' a2 b2 (s1.le (by omega)) (t1.le (by omega))
 have hsum:Sm (k+1) (dg (zv a1 a2+zv b1 b2).natAbs):=sm_zadd (by rw[zv_abs];exact s1.nrm) (by rw[zv_abs];exact t1.nrm)
 by_cases hw:w1=true∧w2=true
 ·obtain ⟨rfl,rfl⟩:=hw
  rw[s4 rfl,t4 rfl,mk_add_same (by omega),mk_one]
  generalize zv a1 a2+zv b1 b2=z at *
  refine Ev.x N.rational_Add rfl rfl ?_
  (repeat' (first|(refine FlP.n4 ?_;conv=>whnf)|(refine AKM.x ?_;conv=>whnf)|(refine CallP.go (hr1) ?_;conv=>whnf)|(refine CallP.go (hr2) ?_;conv=>whnf)|(refine CallP.go (hA _ _) ?_;conv=>whnf)))
  refine CalP.walkC 1000 N.rational_whole rfl rfl ?_
  (repeat' (refine AKM.x ?_;conv=>whnf))
  refine ⟨rfl,?_⟩
  (conv=>whnf)
  (repeat' (refine SnR.e1 rfl ?_;conv=>whnf))
  exact FinP.go (agg_whole z) (cl_eQ _)
 ·have hcmp:=fun q q'=>ev_nat_Compare N.toNatGLib a3 b3 q q' s2.1 t2.1 (by have:=s2.2;omega) (by have:=t2.2;omega)
  by_cases hde:val a3=val b3
  ·have hn:cmpS (val a3) (val b3)=0:=(cmpS_eq (by omega)).symm
   rw[hn]at hcmp
   rw[←hde,mk_add_same s3]
   generalize zv a1 a2+zv b1 b2=z at *
   have hl:=fun q1 q2=>ev_lowest N (decide (z<0)) q1 q2 (dg z.natAbs) a3 (hsum.le (by omega)) (s2.le (by omega)) s3
   unfold qv at hl
   rw[zv_of]at hl
   refine Ev.x N.rational_Add rfl rfl ?_
   cases w1<;>cases w2
   ·(repeat' (first|(refine CmpP.go (fun hc => ?_) (fun hc => ?_)<;>first|(exfalso;omega)|(conv=>whnf))|(refine FlP.n4 ?_;conv=>whnf)|(refine AKM.x ?_;conv=>whnf)|(refine CallP.go (hr1) ?_;conv=>whnf)|(refine CallP.go (hr2) ?_;conv=>whnf)|(refine CallP.go (hA _ _) ?_;conv=>whnf)|(refine CallP.go (hcmp _ _) ?_;conv=>whnf)|(refine CallP.go (hl _ _) ?_;conv=>whnf)))
    exact FinP.go rfl (cl_eQ _)
   ·(repeat' (first|(refine CmpP.go (fun hc => ?_) (fun hc => ?_)<;>first|(exfalso;omega)|(conv=>whnf))|(refine FlP.n4 ?_;conv=>whnf)|(refine AKM.x ?_;conv=>whnf)|(refine CallP.go (hr1) ?_;conv=>whnf)|(refine CallP.go (hr2) ?_;conv=>whnf)|(refine CallP.go (hA _ _) ?_;conv=>whnf)|(refine CallP.go (hcmp _ _) ?_;conv=>whnf)|(refine CallP.go (hl _ _) ?_;conv=>whnf)))
    exact FinP.go rfl (cl_eQ _)
   ·(repeat' (first|(refine CmpP.go (fun hc => ?_) (fun hc => ?_)<;>first|(exfalso;omega)|(conv=>whnf))|(refine FlP.n4 ?_;conv=>whnf)|(refine AKM.x ?_;conv=>whnf)|(refine CallP.go (hr1) ?_;conv=>whnf)|(refine CallP.go (hr2) ?_;conv=>whnf)|(refine CallP.go (hA _ _) ?_;conv=>whnf)|(refine CallP.go (hcmp _ _) ?_;conv=>whnf)|(refine CallP.go (hl _ _) ?_;conv=>whnf)))
    exact FinP.go rfl (cl_eQ _)
   ·exact absurd ⟨rfl,rfl⟩ hw
  ·have hn:cmpS (val a3) (val b3)≠0:=by unfold cmpS;split<;>(try split)<;>omega
   generalize cmpS (val a3) (val b3)=cm at *
   have hM1:=fun q q'=>ev_integer_Mul N a1 false q q' a2 b3 s1.1 t2.1 (by have:=s1.2;have:=t2.2;omega)
   have hM2:=fun q q'=>ev_integer_Mul N b1 false q q' b2 a3 t1.1 s2.1 (by have:=t1.2;have:=s2.2;omega)
   have hM3:=fun q q'=>ev_nat_Mul N.toNatGLib a3 b3 q q' s2.1 t2.1 (by have:=s2.2;have:=t2.2;omega)
   have hna:=ev_natural N a3
   have hnb:=ev_natural N b3
   have g1:Sm (k+k) (dg (zv a1 a2*zv false b3).natAbs):=sm_zmul s1 t2
   have g2:Sm (k+k) (dg (zv b1 b2*zv false a3).natAbs):=sm_zmul t1 s2
   have g3:=sm_zadd g1 g2
   have g4:Sm (k+k) (dg (val a3*val b3)):=s2.mul t2 rfl
   rw[mk_add s3 t3,←zv_F b3,←zv_F a3]
   have hden:val a3*val b3≠0:=Nat.mul_ne_zero s3 t3
   generalize zv a1 a2*zv false b3=x at *
   generalize zv b1 b2*zv false a3=y at *
   generalize val a3*val b3=D at *
   have hA2:=fun q q'=>ev_integer_Add N (decide (x<0)) (decide (y<0)) q q' (dg x.natAbs) (dg y.natAbs) (g1.le (by omega)) (g2.le (by omega))
   rw[zv_of,zv_of]at hA2
   generalize x+y=z at *
   have hl:=fun q1 q2=>ev_lowest N (decide (z<0)) q1 q2 (dg z.natAbs) (dg D) (g3.le (by omega)) (g4.le (by omega)) (by rw[val_dg];exact hden)
   unfold qv at hl
   rw[zv_of,val_dg]at hl
   refine Ev.x N.rational_Add rfl rfl ?_
   cases w1<;>cases w2
   ·(repeat' (first|(refine CmpP.go (fun hc => ?_) (fun hc => ?_)<;>first|(exfalso;omega)|(conv=>whnf))|(refine FlP.n4 ?_;conv=>whnf)|(refine FlP.n2 ?_;conv=>whnf)|(refine AKM.x ?_;conv=>whnf)|(refine CallP.go (hr1) ?_;conv=>whnf)|(refine CallP.go (hr2) ?_;conv=>whnf)|(refine CallP.go (hcmp _ _) ?_;conv=>whnf)|(refine CallP.go (hna) ?_;conv=>whnf)|(refine CallP.go (hnb) ?_;conv=>whnf)|(refine CallP.go (hM1 _ _) ?_;conv=>whnf)|(refine CallP.go (hM2 _ _) ?_;conv=>whnf)|(refine CallP.go (hA2 _ _) ?_;conv=>whnf)|(refine CallP.go (hM3 _ _) ?_;conv=>whnf)|(refine CallP.go (hl _ _) ?_;conv=>whnf)))
    exact FinP.go rfl (cl_eQ _)
   ·(repeat' (first|(refine CmpP.go (fun hc => ?_) (fun hc => ?_)<;>first|(exfalso;omega)|(conv=>whnf))|(refine FlP.n4 ?_;conv=>whnf)|(refine FlP.n2 ?_;conv=>whnf)|(refine AKM.x ?_;conv=>whnf)|(refine CallP.go (hr1) ?_;conv=>whnf)|(refine CallP.go (hr2) ?_;conv=>whnf)|(refine CallP.go (hcmp _ _) ?_;conv=>whnf)|(refine CallP.go (hna) ?_;conv=>whnf)|(refine CallP.go (hnb) ?_;conv=>whnf)|(refine CallP.go (hM1 _ _) ?_;conv=>whnf)|(refine CallP.go (hM2 _ _) ?_;conv=>whnf)|(refine CallP.go (hA2 _ _) ?_;conv=>whnf)|(refine CallP.go (hM3 _ _) ?_;conv=>whnf)|(refine CallP.go (hl _ _) ?_;conv=>whnf)))
    exact FinP.go rfl (cl_eQ _)
   ·(repeat' (first|(refine CmpP.go (fun hc => ?_) (fun hc => ?_)<;>first|(exfalso;omega)|(conv=>whnf))|(refine FlP.n4 ?_;conv=>whnf)|(refine FlP.n2 ?_;conv=>whnf)|(refine AKM.x ?_;conv=>whnf)|(refine CallP.go (hr1) ?_;conv=>whnf)|(refine CallP.go (hr2) ?_;conv=>whnf)|(refine CallP.go (hcmp _ _) ?_;conv=>whnf)|(refine CallP.go (hna) ?_;conv=>whnf)|(refine CallP.go (hnb) ?_;conv=>whnf)|(refine CallP.go (hM1 _ _) ?_;conv=>whnf)|(refine CallP.go (hM2 _ _) ?_;conv=>whnf)|(refine CallP.go (hA2 _ _) ?_;conv=>whnf)|(refine CallP.go (hM3 _ _) ?_;conv=>whnf)|(refine CallP.go (hl _ _) ?_;conv=>whnf)))
    exact FinP.go rfl (cl_eQ _)
   ·exact absurd ⟨rfl,rfl⟩ hw
theorem ev_rational_Mul (N:RatGLib L) (k:Nat) (hk:1≤k∧k≤68719476736) (n1 n2 q1 q2 q3 q4:Bool) (m1 d1 m2 d2:List Nat) (hm1:Sm k m1) (hd1:Sm k d1) (hm2:Sm k m2) (hd2:Sm k d2) :
  Ev L 99 [.agg (rQ q1 q2 n1 m1 d1),.agg (rQ q3 q4 n2 m2 d2)] (.agg (eQ (qv n1 m1 d1*qv n2 m2 d2))):=by
 obtain ⟨a1,a2,a3,w1,hr1,s1,s2,s3,s4,s5⟩:=ev_read N n1 m1 d1 k (by omega) hm1 hd1
 obtain ⟨b1,b2,b3,w2,hr2,t1,t2,t3,t4,t5⟩:=ev_read N n2 m2 d2 k (by omega) hm2 hd2
 rw[s5,t5,mk_mul]
 have hM1:=fun q q'=>ev_integer_Mul N a1 b1 q q' a2 b2 s1.1 t1.1 (by have:=s1.2;have:=t1.2;omega)
 have hM3:=fun q q'=>ev_nat_Mul N.toNatGLib a3 b3 q q' s2.1 t2.1 (by have:=s2.2;have:=t2.2;omega)
 have g1:Sm (k+k) (dg (zv a1 a2*zv b1 b2).natAbs):=sm_zmul s1 t1
 have g4:Sm (k+k) (dg (val a3*val b3)):=s2.mul t2 rfl
 have hden:val a3*val b3≠0:=Nat.mul_ne_zero s3 t3
 generalize zv a1 a2*zv b1 b2=z at *
 by_cases hw:w1=true∧w2=true
 ·obtain ⟨rfl,rfl⟩:=hw
  rw[s4 rfl,t4 rfl,Nat.one_mul,mk_one]
  refine Ev.x N.rational_Mul rfl rfl ?_
  (repeat' (first|(refine FlP.n4 ?_;conv=>whnf)|(refine AKM.x ?_;conv=>whnf)|(refine CallP.go (hr1) ?_;conv=>whnf)|(refine CallP.go (hr2) ?_;conv=>whnf)|(refine CallP.go (hM1 _ _) ?_;conv=>whnf)))
  refine CalP.walkC 1000 N.rational_whole rfl rfl ?_
  (repeat' (refine AKM.x ?_;conv=>whnf))
  refine ⟨rfl,?_⟩
  (conv=>whnf)
  (repeat' (refine SnR.e1 rfl ?_;conv=>whnf))
  exact FinP.go (agg_whole z) (cl_eQ _)
 ·generalize val a3*val b3=D at *
  have hl:=fun q1 q2=>ev_lowest N (decide (z<0)) q1 q2 (dg z.natAbs) (dg D) (g1.le (by omega)) (g4.le (by omega)) (by rw[val_dg];exact hden)
  unfold qv at hl
  rw[zv_of,val_dg]at hl
  refine Ev.x N.rational_Mul rfl rfl ?_
  cases w1<;>cases w2
  ·(repeat' (first|(refine FlP.n4 ?_;conv=>whnf)|(refine AKM.x ?_;conv=>whnf)|(refine CallP.go (hr1) ?_;conv=>whnf)|(refine CallP.go (hr2) ?_;conv=>whnf)|(refine CallP.go (hM1 _ _) ?_;conv=>whnf)|(refine CallP.go (hM3 _ _) ?_;conv=>whnf)|(refine CallP.go (hl _ _) ?_;conv=>whnf)))
   exact FinP.go rfl (cl_eQ _)
  ·(repeat' (first|(refine FlP.n4 ?_;conv=>whnf)|(refine AKM.x ?_;conv=>whnf)|(refine CallP.go (hr1) ?_;conv=>whnf)|(refine CallP.go (hr2) ?_;conv=>whnf)|(refine CallP.go (hM1 _ _) ?_;conv=>whnf)|(refine CallP.go (hM3 _ _) ?_;conv=>whnf)|(refine CallP.go (hl _ _) ?_;conv=>whnf)))
   exact FinP.go rfl (cl_eQ _)
  ·(repeat' (first|(refine FlP.n4 ?_;conv=>whnf)|(refine AKM.x ?_;conv=>whnf)|(refine CallP.go (hr1) ?_;conv=>whnf)|(refine CallP.go (hr2) ?_;conv=>whnf)|(refine CallP.go (hM1 _ _) ?_;conv=>whnf)|(refine CallP.go (hM3 _ _) ?_;conv=>whnf)|(refine CallP.go (hl _ _) ?_;conv=>whnf)))
   exact FinP.go rfl (cl_eQ _)
  ·exact absurd ⟨rfl,rfl⟩ hw
theorem cl_eQt (x:Rat) (e:Int):Clean (.tup [.agg (eQ x),.int .i64 e]):=by
 simp only[Clean,CleanL,and_true,true_and]
 exact ⟨cl_dig _,cl_dig _⟩
theorem ev_rational_Div (N:RatGLib L) (k:Nat) (hk:1≤k∧k≤68719476736) (n1 n2 q1 q2 q3 q4:Bool) (m1 d1 m2 d2:List Nat) (hm1:Sm k m1) (hd1:Sm k d1) (hm2:Sm k m2) (hd2:Sm k d2) (h0:qv n2 m2 d2≠0) :
  Ev L 100 [.agg (rQ q1 q2 n1 m1 d1),.agg (rQ q3 q4 n2 m2 d2)] (.tup [.agg (eQ (qv n1 m1 d1/qv n2 m2 d2)),.int .i64 0]):=by
 obtain ⟨a1,a2,a3,w1,hr1,s1,s2,s3,s4,s5⟩:=ev_read N n1 m1 d1 k (by omega) hm1 hd1
 obtain ⟨b1,b2,b3,w2,hr2,t1,t2,t3,t4,t5⟩:=ev_read N n2 m2 d2 k (by omega) hm2 hd2
 rw[t5]at h0
 rw[s5,t5]
 have hb0:zv b1 b2≠0:=fun h=>h0 ((mk_num_zero t3).2 h)
 rw[mk_div s3 t3 hb0]
 have hS:=fun q=>ev_integer_Sign N b1 q b2 (t1.le (by omega))
 have hsg:sgn (zv b1 b2)≠0:=by unfold sgn;split<;>(try split)<;>omega
 have hM1:=fun q q'=>ev_integer_Mul N a1 false q q' a2 b3 s1.1 t2.1 (by have:=s1.2;have:=t2.2;omega)
 have hM2:=fun q q'=>ev_integer_Mul N false b1 q q' a3 b2 s2.1 t1.1 (by have:=t1.2;have:=s2.2;omega)
 have hna:=ev_natural N a3
 have hnb:=ev_natural N b3
 have g1:Sm (k+k) (dg (zv a1 a2*zv false b3).natAbs):=sm_zmul s1 t2
 have g2:Sm (k+k) (dg (zv false a3*zv b1 b2).natAbs):=sm_zmul s2 t1
 have hd:(zv false a3*zv b1 b2).natAbs=val a3*(zv b1 b2).natAbs:=by rw[Int.natAbs_mul,zv_abs]
 have hds:(zv false a3*zv b1 b2).sign=(zv b1 b2).sign:=by
  rw[Int.sign_mul,zv_F,Int.sign_eq_one_of_pos (by omega),Int.one_mul]
 have hy0:zv false a3*zv b1 b2≠0:=by
  intro h
  rw[h]at hds
  exact hb0 (by simpa using hds.symm)
 rw[←hd,←hds,←zv_F b3]
 generalize zv a1 a2*zv false b3=x at *
 generalize zv false a3*zv b1 b2=y at *
 generalize sgn (zv b1 b2)=sg at *
 have hl:=fun q1 q2=>ev_lowest N (decide (x<0) != decide (y<0)) q1 q2 (dg x.natAbs) (dg y.natAbs) (g1.le (by omega)) (g2.le (by omega)) (by rw[val_dg];omega)
 unfold qv at hl
 rw[zv_quot hy0,val_dg]at hl
 refine Ev.x N.rational_Div rfl rfl ?_
 (repeat' (first|(refine CmpP.go (fun hc => ?_) (fun hc => ?_)<;>first|(exfalso;omega)|(conv=>whnf))|(refine FlP.n4 ?_;conv=>whnf)|(refine FlP.n2 ?_;conv=>whnf)|(refine AKM.x ?_;conv=>whnf)|(refine CallP.go (hr1) ?_;conv=>whnf)|(refine CallP.go (hr2) ?_;conv=>whnf)|(refine CallP.go (hS _) ?_;conv=>whnf)|(refine CallP.go (hna) ?_;conv=>whnf)|(refine CallP.go (hnb) ?_;conv=>whnf)|(refine CallP.go (hM1 _ _) ?_;conv=>whnf)|(refine CallP.go (hM2 _ _) ?_;conv=>whnf)))
 refine CalP.walkC 1000 N.rational_quotient rfl rfl ?_
 (repeat' (refine AKM.x ?_;conv=>whnf))
 generalize decide (x<0)=p at *
 generalize decide (y<0)=r at *
 cases p<;>cases r
 all_goals
  (conv=>whnf)
  refine ⟨rfl,?_⟩
  (conv=>whnf)
  (repeat' (refine CallP.go (hl _ _) ?_;conv=>whnf))
  exact FinP.go rfl (cl_eQt _ _)
end Go.Eng

namespace Go.Eng
def Bt (k:Nat) (x:Rat):Prop:=x.num.natAbs≤2^k∧x.den≤2^k
theorem Bt.le {k l:Nat} {x:Rat} (h:Bt k x) (hl:k≤l):Bt l x:=by
 have:=Nat.pow_le_pow_right (show 0<2 by omega) hl
 exact ⟨Nat.le_trans h.1 this,Nat.le_trans h.2 this⟩
theorem Bt.mk {k:Nat} {z:Int} {d:Nat} (hz:z.natAbs≤2^k) (hd:d≤2^k):Bt k (mkRat z d):=by
 by_cases h0:d=0
 ·subst h0
  rw[Rat.mkRat_zero]
  exact ⟨by simp,by simp;exact Nat.one_le_two_pow⟩
 ·obtain ⟨e1,e2,_⟩:=mk_parts (z:=z) h0
  unfold Bt
  rw[e1,e2]
  exact ⟨Nat.le_trans (Nat.div_le_self _ _) hz,Nat.le_trans (Nat.div_le_self _ _) hd⟩
theorem Bt.add {k l:Nat} {x y:Rat} (hx:Bt k x) (hy:Bt l y):Bt (k+l+1) (x+y):=by
 rw[Rat.add_def']
 refine Bt.mk ?_ ?_
 ·have h1:(x.num*y.den).natAbs≤2^k*2^l:=by rw[Int.natAbs_mul,Int.natAbs_natCast];exact Nat.mul_le_mul hx.1 hy.2
  have h2:(y.num*x.den).natAbs≤2^l*2^k:=by rw[Int.natAbs_mul,Int.natAbs_natCast];exact Nat.mul_le_mul hy.1 hx.2
  rw[Nat.mul_comm (2^l)]at h2
  rw[Nat.pow_succ,Nat.pow_add]
  have h3:=Int.natAbs_add_le (x.num*y.den) (y.num*x.den)
  omega
 ·rw[Nat.pow_succ,Nat.pow_add]
  have:=Nat.mul_le_mul hx.2 hy.2
  omega
theorem Bt.mul {k l:Nat} {x y:Rat} (hx:Bt k x) (hy:Bt l y):Bt (k+l) (x*y):=by
 rw[Rat.mul_def']
 refine Bt.mk ?_ ?_
 ·rw[Int.natAbs_mul,Nat.pow_add];exact Nat.mul_le_mul hx.1 hy.1
 ·rw[Nat.pow_add];exact Nat.mul_le_mul hx.2 hy.2
theorem Bt.zero (k:Nat):Bt k 0:=⟨by simp,by simp;exact Nat.one_le_two_pow⟩
theorem Bt.one (k:Nat):Bt k 1:=⟨by simp;exact Nat.one_le_two_pow,by simp;exact Nat.one_le_two_pow⟩
theorem Bt.dig {k n:Nat} {x:Rat} (h:Bt k x) (hn:k<32*n):Sm n (dg x.num.natAbs)∧Sm n (dg x.den):=by
 have e:2^k<4294967296^n:=by
  rw[show 4294967296=2^32 from rfl,←Nat.pow_mul]
  exact (Nat.pow_lt_pow_iff_right (by omega)).2 hn
 exact ⟨Sm.dg (Nat.lt_of_le_of_lt h.1 e),Sm.dg (Nat.lt_of_le_of_lt h.2 e)⟩
def Bs (k:Nat) (l:List Rat):Prop := ∀ x∈l,Bt k x
theorem Bs.at {k:Nat} {l:List Rat} (h:Bs k l) {i:Nat} {x:Rat} (hx:l[i]? = some x):Bt k x:=h x (List.mem_of_getElem? hx)
theorem Bs.le {k j:Nat} {l:List Rat} (h:Bs k l) (hj:k≤j):Bs j l:=fun x hx=>(h x hx).le hj
theorem Bs.take {k:Nat} {l:List Rat} (h:Bs k l) (n:Nat):Bs k (l.take n):=fun x hx=>h x (List.mem_of_mem_take hx)
def dotQ:List Rat→List Rat→Rat
 | x::xs,y::ys=>x*y+dotQ xs ys
 | _,_=>0
theorem dotQ_snoc : ∀ {a b:List Rat} {x y:Rat},a.length=b.length→dotQ (a++[x]) (b++[y])=dotQ a b+x*y
 | [],[],x,y,_=>by show x*y+0=0+x*y;rw[Rat.add_zero,Rat.zero_add]
 | p::a,q::b,x,y,h=>by
  show p*q+dotQ (a++[x]) (b++[y])=p*q+dotQ a b+x*y
  rw[dotQ_snoc (by simpa using h),Rat.add_assoc]
theorem dotQ_take {a b:List Rat} {i:Nat} {x y:Rat} (hx:a[i]? = some x) (hy:b[i]? = some y):dotQ (a.take (i+1)) (b.take (i+1))=dotQ (a.take i) (b.take i)+x*y:=by
 have h1:=(List.getElem?_eq_some_iff.1 hx).1
 have h2:=(List.getElem?_eq_some_iff.1 hy).1
 rw[List.take_add_one,List.take_add_one,hx,hy,Option.toList_some,Option.toList_some,dotQ_snoc (by rw[List.length_take,List.length_take];omega)]
theorem dotQ_all {a b:List Rat} {n:Nat} (h:a.length=n):dotQ (a.take n) (b.take n)=dotQ a b:=by
 subst h
 rw[List.take_of_length_le (Nat.le_refl _)]
 induction a generalizing b with
 | nil=>cases b<;>rfl
 | cons x a ih=>cases b with
  | nil=>rfl
  | cons y b=>simp only[List.length_cons,List.take_succ_cons,dotQ,ih]
theorem Bs.dot {k l:Nat} : ∀ {a b:List Rat},Bs k a→Bs l b→Bt (a.length*(k+l+1)) (dotQ a b)
 | [],b,_,_=>by cases b<;>exact Bt.zero _
 | x::a,[],_,_=>Bt.zero _
 | x::a,y::b,ha,hb=>by
  have h1:=(ha x (by simp)).mul (hb y (by simp))
  have h2:=Bs.dot (a:=a) (b:=b) (fun z hz=>ha z (by simp [hz])) (fun z hz=>hb z (by simp [hz]))
  refine (h1.add h2).le ?_
  rw[List.length_cons,Nat.succ_mul]
  omega
def addL (a b:List Rat):List Rat:=List.zipWith (· + ·) a b
theorem dotQ_add : ∀ {a u v:List Rat},u.length=v.length→dotQ a (addL u v)=dotQ a u+dotQ a v
 | [],_,_,_=>by simp only[dotQ];rw[Rat.add_zero]
 | x::a,[],[],_=>by simp only[addL,List.zipWith_nil_left,dotQ];rw[Rat.add_zero]
 | x::a,p::u,q::v,h=>by
  show x*(p+q)+dotQ a (addL u v)=_
  rw[dotQ_add (by simpa using h)]
  simp only[dotQ]
  grind
structure SysQ where
 a:List (List Rat)
 b:List Rat
 c:List Rat
 d:Rat
structure SysQ.Ok (S:SysQ) (n k:Nat):Prop where
 la:S.a.length=n
 lr : ∀ r∈S.a,r.length=n
 lb:S.b.length=n
 lc:S.c.length=n
 ba : ∀ r∈S.a,Bs k r
 bb:Bs k S.b
 bc:Bs k S.c
 bd:Bt k S.d
def SysQ.out (S:SysQ) (now:List Rat) (x:Rat):Rat:=dotQ S.c now+S.d*x
def nextQ (now:List Rat) (x:Rat):List (List Rat)→List Rat→List Rat
 | r::a,b::bs=>(dotQ r now+b*x)::nextQ now x a bs
 | _,_=>[]
def SysQ.next (S:SysQ) (now:List Rat) (x:Rat):List Rat:=nextQ now x S.a S.b
def SysQ.state (S:SysQ):List Rat→List Rat→List Rat
 | now,[]=>now
 | now,x::xs=>S.state (S.next now x) xs
def SysQ.outs (S:SysQ):List Rat→List Rat→List Rat
 | _,[]=>[]
 | now,x::xs=>S.out now x::S.outs (S.next now x) xs
theorem nextQ_len (now:List Rat) (x:Rat) : ∀ (a:List (List Rat)) (b:List Rat),a.length=b.length→(nextQ now x a b).length=a.length
 | [],[],_=>rfl
 | r::a,y::b,h=>by simp only[nextQ,List.length_cons];rw[nextQ_len now x a b (by simpa using h)]
theorem nextQ_at (now:List Rat) (x:Rat) : ∀ (a:List (List Rat)) (b:List Rat) (i:Nat) (r:List Rat) (y:Rat),a[i]? = some r→b[i]? = some y→(nextQ now x a b)[i]? = some (dotQ r now+y*x)
 | [],_,i,r,y,h,_=>by simp at h
 | _::_,[],i,r,y,_,h=>by simp at h
 | r0::a,y0::b,0,r,y,h,h'=>by
  simp at h h'
  subst h;subst h';rfl
 | r0::a,y0::b,i+1,r,y,h,h'=>by
  simp only[nextQ,List.getElem?_cons_succ]at h h' ⊢
  exact nextQ_at now x a b i r y h h'
theorem state_snoc (S:SysQ) (x:Rat) : ∀ (xs now:List Rat),S.state now (xs++[x])=S.next (S.state now xs) x
 | [],_=>rfl
 | y::xs,now=>state_snoc S x xs (S.next now y)
theorem outs_snoc (S:SysQ) (x:Rat) : ∀ (xs now:List Rat),S.outs now (xs++[x])=S.outs now xs++[S.out (S.state now xs) x]
 | [],_=>rfl
 | y::xs,now=>by
  show S.out now y::S.outs (S.next now y) (xs++[x])=_
  rw[outs_snoc S x xs (S.next now y)];rfl
theorem outs_len (S:SysQ) : ∀ (xs now:List Rat),(S.outs now xs).length=xs.length
 | [],_=>rfl
 | y::xs,now=>by simp only[SysQ.outs,List.length_cons,outs_len S xs]
theorem SysQ.Ok.next_len {S:SysQ} {n k:Nat} (h:S.Ok n k) (now:List Rat) (x:Rat):(S.next now x).length=n:=by
 unfold SysQ.next;rw[nextQ_len _ _ _ _ (by rw[h.la,h.lb]),h.la]
theorem SysQ.Ok.state_len {S:SysQ} {n k:Nat} (h:S.Ok n k) : ∀ (xs now:List Rat),now.length=n→(S.state now xs).length=n
 | [],_,hn=>hn
 | x::xs,now,_=>h.state_len xs _ (h.next_len now x)
def stepK (n k s:Nat):Nat:=n*(k+s+1)+(k+k)+1
def respK (n k:Nat):Nat→Nat→Nat
 | s,0=>s
 | s,i+1=>respK n k (stepK n k s) i
theorem SysQ.Ok.next_bs {S:SysQ} {n k s:Nat} (h:S.Ok n k) {now:List Rat} {x:Rat} (hl:now.length=n) (hs:Bs s now) (hx:Bt k x):Bs (stepK n k s) (S.next now x)∧Bt (stepK n k s) (S.out now x):=by
 constructor
 ·have key : ∀ (a:List (List Rat)) (b:List Rat),(∀ r∈a,r.length=n∧Bs k r)→Bs k b→Bs (stepK n k s) (nextQ now x a b):=by
   intro a
   induction a with
   | nil=>intro b _ _ y hy;simp [nextQ]at hy
   | cons r a ih =>
    intro b ha hb
    cases b with
    | nil=>intro y hy;simp [nextQ]at hy
    | cons c b =>
     intro y hy
     simp only[nextQ,List.mem_cons]at hy
     rcases hy with rfl|hy
     ·obtain ⟨l1,l2⟩:=ha r (by simp)
      have h1:=l2.dot (b:=now) hs
      rw[l1]at h1
      refine (h1.add ((hb c (by simp)).mul hx)).le ?_
      unfold stepK;omega
     ·exact ih b (fun r hr=>ha r (by simp [hr])) (fun z hz=>hb z (by simp [hz])) y hy
  exact key S.a S.b (fun r hr=>⟨h.lr r hr,h.ba r hr⟩) h.bb
 ·have h1:=h.bc.dot (b:=now) hs
  rw[h.lc]at h1
  refine (h1.add (h.bd.mul hx)).le ?_
  unfold stepK;omega
theorem respK_succ (n k:Nat) : ∀ (i s:Nat),respK n k s (i+1)=stepK n k (respK n k s i)
 | 0,_=>rfl
 | i+1,s=>respK_succ n k i (stepK n k s)
theorem SysQ.Ok.state_bs {S:SysQ} {n k:Nat} (h:S.Ok n k) : ∀ (xs now:List Rat) (s:Nat),now.length=n→Bs s now→Bs k xs→Bs (respK n k s xs.length) (S.state now xs)
 | [],_,_,_,hs,_=>hs
 | x::xs,now,s,hl,hs,hx=>by
  exact h.state_bs xs _ _ (h.next_len now x) (h.next_bs hl hs (hx x (by simp))).1 (fun z hz=>hx z (by simp [hz]))
def unitL (n:Nat) (j:Int):List Rat:=(List.range n).map fun i:Nat=>if (i:Int)=j then 1 else 0
theorem unitL_len (n:Nat) (j:Int):(unitL n j).length=n:=by simp [unitL]
theorem unitL_neg (n:Nat):unitL n (-1)=List.replicate n 0:=by
 refine List.ext_getElem? fun i => ?_
 simp only[unitL,List.getElem?_map,List.getElem?_replicate,List.getElem?_range]
 by_cases h:i<n
 ·rw[List.getElem?_range h,if_pos h]
  simp
 ·rw[List.getElem?_eq_none (by simp;omega),if_neg h];rfl
end Go.Eng

namespace Go.Eng
open F
variable {L:Lib}
theorem Bt.sm {k:Nat} {x:Rat} (h:Bt k x) (hk:k<2199023255552):Sm 68719476736 (dg x.num.natAbs)∧Sm 68719476736 (dg x.den):=h.dig (by omega)
theorem ev_addQ (N:RatGLib L) {x y:Rat} {k l:Nat} (hx:Bt k x) (hy:Bt l y) (hk:k<2199023255552) (hl:l<2199023255552):Ev L 98 [.agg (eQ x),.agg (eQ y)] (.agg (eQ (x+y))):=by
 have:=ev_rational_Add N 68719476736 (by omega) (decide (x.num<0)) (decide (y.num<0)) false false false false _ _ _ _ (hx.sm hk).1 (hx.sm hk).2 (hy.sm hl).1 (hy.sm hl).2
 rw[qv_of,qv_of]at this
 exact this
theorem ev_mulQ (N:RatGLib L) {x y:Rat} {k l:Nat} (hx:Bt k x) (hy:Bt l y) (hk:k<2199023255552) (hl:l<2199023255552):Ev L 99 [.agg (eQ x),.agg (eQ y)] (.agg (eQ (x*y))):=by
 have:=ev_rational_Mul N 68719476736 (by omega) (decide (x.num<0)) (decide (y.num<0)) false false false false _ _ _ _ (hx.sm hk).1 (hx.sm hk).2 (hy.sm hl).1 (hy.sm hl).2
 rw[qv_of,qv_of]at this
 exact this
theorem ev_divQ (N:RatGLib L) {x y:Rat} {k l:Nat} (hx:Bt k x) (hy:Bt l y) (hk:k<2199023255552) (hl:l<2199023255552) (h0:y≠0):Ev L 100 [.agg (eQ x),.agg (eQ y)] (.tup [.agg (eQ (x/y)),.int .i64 0]):=by
 have:=ev_rational_Div N 68719476736 (by omega) (decide (x.num<0)) (decide (y.num<0)) false false false false _ _ _ _ (hx.sm hk).1 (hx.sm hk).2 (hy.sm hl).1 (hy.sm hl).2 (by rw[qv_of];exact h0)
 rw[qv_of,qv_of]at this
 exact this
theorem ev_trimQ (N:RatGLib L) {x:Rat} {k:Nat} (hx:Bt k x) (hk:k<2199023255552):Ev L 95 [.agg (eQ x)] (.agg (eQ x)):=by
 have:=ev_rational_Trim N (decide (x.num<0)) false false _ _ ((hx.sm hk).1.le (by omega)) ((hx.sm hk).2.le (by omega))
 rw[qv_of]at this
 exact this
theorem ev_signQ (N:RatGLib L) {x:Rat} {k:Nat} (hx:Bt k x) (hk:k<2199023255552):Ev L 97 [.agg (eQ x)] (.int .i64 (sgn x.num)):=by
 have:=ev_rational_Sign N (decide (x.num<0)) false false _ _ ((hx.sm hk).1.le (by omega)) ((hx.sm hk).2.le (by omega))
 rw[qv_of]at this
 exact this
theorem sgn_num {x:Rat}:sgn x.num=0↔x=0:=by
 rw[←Rat.num_eq_zero]
 unfold sgn
 split
 ·omega
 ·split<;>omega
end Go.Eng

namespace Go.Eng
abbrev eO:Option Rat→List AV
 | none=>[.bool false,.nil,.nil]
 | some x=>eQ x
def fillO (l:List Rat) (m:Nat):List (Option Rat):=l.map some++List.replicate (m-l.length) none
theorem fillO_nil (m:Nat):fillO [] m=List.replicate m none:=by simp [fillO]
theorem fillO_len {l:List Rat} {m:Nat} (h:l.length≤m):(fillO l m).length=m:=by simp [fillO];omega
theorem fillO_set {l:List Rat} {m:Nat} {x:Rat} (h:l.length<m):(fillO l m).set l.length (some x)=fillO (l++[x]) m:=by
 unfold fillO
 have e:m-l.length=(m-(l++[x]).length)+1:=by simp;omega
 rw[e,List.replicate_succ,List.set_append_right _ _ (by simp)]
 simp
theorem fillO_full {l:List Rat} {m:Nat} (h:l.length=m):(fillO l m).map eO=l.map eQ:=by
 unfold fillO
 rw[h,Nat.sub_self]
 simp [Function.comp_def]
abbrev eS (S:SysQ):List AV:=[.sl false (S.a.map fun r=>[AV.sl false (r.map eQ)]),.sl false (S.b.map eQ),.sl false (S.c.map eQ)]++eQ S.d
theorem cl_eQs (l:List Rat):CleanLL (l.map eQ):=cleanLL_map (fun x=>by simp only[CleanL,Clean,and_true,true_and];exact ⟨cl_dig _,cl_dig _⟩) l
theorem take_snoc' {l:List Rat} {i:Nat} {x:Rat} (h:l[i]? = some x):l.take (i+1)=l.take i++[x]:=by
 rw[List.take_add_one,h];rfl
theorem cl_three (a b:List Rat) (e:Int):Clean (.tup [.sl false (a.map eQ),.sl false (b.map eQ),.int .i64 e]):=by
 simp only[Clean,CleanL,and_true,true_and]
 exact ⟨cl_eQs a,cl_eQs b⟩
theorem cl_two (a:List Rat) (e:Int):Clean (.tup [.sl false (a.map eQ),.int .i64 e]):=by
 simp only[Clean,CleanL,and_true,true_and]
 exact cl_eQs a
theorem cl_eS (S:SysQ):Clean (.agg (eS S)):=by
 have h:CleanLL (S.a.map fun r=>[AV.sl false (r.map eQ)]):=cleanLL_map (fun r=>by simp only[CleanL,Clean,and_true,true_and];exact cl_eQs r) S.a
 simp only[Clean,List.cons_append,List.nil_append,CleanL,and_true,true_and]
 exact ⟨h,cl_eQs _,cl_eQs _,cl_dig _,cl_dig _⟩
end Go.Eng
