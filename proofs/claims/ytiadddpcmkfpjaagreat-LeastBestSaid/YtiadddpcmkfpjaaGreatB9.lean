/-
  The references of natural numbers (ref01): division.
-/
import Derived.Test.YtiadddpcmkfpjaaGreatB8
import Derived.Test.YtiadddpcmkfpjaaGreatB3
import Derived.Test.YtiadddpcmkfpjaaGreatB5
import Derived.ProofKit
import Derived.OpenShut
import Derived.ChangeOld
import Derived.WalkKit
import Derived.WideShapes
import Derived.ChangeArms
import Derived.Test.YtiadddpcmkfpjaaGreatB7
import Derived.Test.YtiadddpcmkfpjaaGreatB4
set_option linter.unusedSimpArgs false
set_option linter.unusedVariables false
set_option linter.unnecessarySimpa false
namespace Go.Eng
open F
attribute [local irreducible] AKM CmpP Req OpP UnP ConvP RdP LdR StR MkR LenP AppR AppN CpyR RowP SnR Bds SlS CallP CalP FinP pw LdM GetM SetM PutM MkM AppM SnM FlP CallR
set_option maxHeartbeats 4000000
variable {L:Lib}
theorem small_step' {V R y d t Q:Nat} (h:Q*y+R=V) (ht:t=R*4294967296+d):(t/y+4294967296*Q)*y+t%y=d+4294967296*V:=by
 have:=Nat.div_add_mod t y
 rw[←h,Nat.add_mul]
 have e:t/y*y=y*(t/y):=Nat.mul_comm _ _
 grind
theorem ev_r1_small (N:RefGLib L) (x:List Nat) (Y:Nat) (q:Bool) (d1:Dig x) (hx:x.length≤549755813888) (h0:Y≠0) (hY:Y<4294967296):Ev L 108 [.sl q (x.map e32),.int .u32 (Y:Int)] (.tup [.sl false ((dg (val x/Y)).map e32),.int .u32 ((val x%Y:Nat):Int)]):=by
 refine Ev.x N.ref01_small rfl rfl ?_
 (repeat' (first|(refine LenP.go ?_;conv=>whnf)|(refine AKM.x ?_;conv=>whnf)))
 refine MkR.go (enc:=e32) 0 x.length rfl (by omega) (by omega) ?_
 (conv=>whnf)
 (repeat' (first|(refine OpP.sub ?_ ?_;omega;conv=>whnf)|(refine LenP.go ?_;conv=>whnf)))
 refine AKM.loop3 (fun n _ _=>n) (fun (n:Nat) (o:List Nat) (r:Nat)=>n≤x.length∧o.length=x.length∧Dig o∧r<Y∧val (o.drop n)*Y+r=val (x.drop n)) (fun n o r=>[(7,.int .u64 (r:Int)),(8,.int .i64 ((n:Int)-1))]) (fun n o r=>[(11,11,.rw 1 (o.map e32))]) [] [] x.length (List.replicate x.length 0) 0 (by (conv=>whnf);exact ⟨rfl,rfl,rfl⟩) ⟨by omega,by simp,dig_zeros _,by omega,by rw[List.drop_of_length_le (Nat.le_refl _),List.drop_of_length_le (by simp)];simp [val]⟩ ?_
 intro n o r ⟨p1,p2,p3,p4,p5⟩ ih
 rcases n with _|n
 ·rw[List.drop_zero,List.drop_zero]at p5
  have hq:val x/Y=val o∧val x%Y=r:=by
   rw[←p5]
   have e1:(val o*Y+r)/Y=val o:=by
    rw[Nat.mul_comm,Nat.mul_add_div (by omega),Nat.div_eq_of_lt p4,Nat.add_zero]
   have e2:(val o*Y+r)%Y=r:=by
    rw[Nat.mul_comm,Nat.mul_add_mod,Nat.mod_eq_of_lt p4]
   exact ⟨e1,e2⟩
  have hT:=fun q=>ev_r1_Trim N o q p3 (by omega)
  rw[hq.1,hq.2,←p2]
  clear ih hq p5
  (repeat' (first|(refine CmpP.go (fun hc => ?_) (fun hc => ?_)<;>first|(exfalso;omega)|(conv=>whnf))|(refine ConvP.n32i ?_ ?_;omega;conv=>whnf)|(refine SnR.all (fun _=>rfl) rfl ?_ ?_;(first|rfl|simp);conv=>whnf)|(refine AKM.x ?_;conv=>whnf)|(refine CallP.go (hT _) ?_;conv=>whnf)))
  refine FinP.go rfl ?_
  simp only[Clean,CleanL,and_true,true_and]
  exact cl_dig _
 ·have e1:((n+1:Nat):Int)-1=n:=by omega
  rw[e1]
  obtain ⟨d,hd⟩ : ∃ d,x[n]? = some d:=⟨_,zE (by omega)⟩
  have hdb:=d1.at hd
  have hR:r*4294967296+d<Y*4294967296:=by omega
  have hq0:(r*4294967296+d)/Y<4294967296:=(Nat.div_lt_iff_lt_mul (by omega)).2 (by omega)
  (repeat' (first|(refine CmpP.go (fun hc => ?_) (fun hc => ?_)<;>first|(exfalso;omega)|(conv=>whnf))|(refine Req.go ?_ ?_;omega;conv=>whnf)|(refine OpP.nshl32 ?_ ?_;omega;conv=>whnf)|(refine OpP.nor ?_ ?_;omega;conv=>whnf)|(refine OpP.nquo ?_ ?_ ?_;omega;omega;conv=>whnf)|(refine ConvP.u64 ?_ ?_;omega;conv=>whnf)|(refine ConvP.n32i ?_ ?_;omega;conv=>whnf)|(refine RdP.at (by assumption) ?_ rfl ?_;omega;conv=>whnf)|(refine AKM.x ?_;conv=>whnf)))
  obtain ⟨t,ht⟩ : ∃ t,t=r*4294967296+d:=⟨_,rfl⟩
  rw[←ht]at hR hq0 ⊢
  have hm:t%Y<Y:=Nat.mod_lt _ (by omega)
  have hst:=small_step' p5 ht
  rw[←val_getD_drop hd]at hst
  clear ht
  skip
  refine StR.dig (by omega) ?_
  (conv=>whnf)
  (repeat' (first|(refine OpP.sub ?_ ?_;omega;conv=>whnf)|(refine OpP.nrem ?_ ?_;omega;conv=>whnf)|(refine ConvP.u64 ?_ ?_;omega;conv=>whnf)))
  generalize t/Y=tq at *
  generalize t%Y=tr at *
  refine AKM.back [] (by (conv=>whnf);exact ⟨rfl,rfl,rfl⟩) (ih n _ _ (by omega) ⟨by omega,by simpa using p2,p3.set _ (by omega),hm,?_⟩)
  rw[val_getD_drop (l:=o.set n tq) (d:=tq) (by rw[List.getElem?_set_self (by omega)]),List.drop_set_of_lt (by omega)]
  exact hst
theorem cl_pair3 (a b:List Nat) (e:Int):Clean (.tup [.sl false (a.map e32),.sl false (b.map e32),.int .i64 e]):=by
 simp only[Clean,CleanL,and_true,true_and]
 exact ⟨cl_dig a,cl_dig b⟩
abbrev dmK1:List It:=[It.lp ref01_DivMod.l1,It.blk 0,
   It.code
    (((ACode.ops ref01_DivMod.r14 false).dr [0,75,79,80] []).seq
     (((ACode.ops ref01_DivMod.r15 false).dr [81,82,83,84,85] []).seq
      ((((ACode.ops ref01_DivMod.r16 false).dr [86,87,88,89,90] []).seq
         (ACode.block 2 ref01_DivMod.l2.loop)).seq
       (((ACode.ops ref01_DivMod.r57 true).dr [9,10,11,12,13,14,92,277,278,279,280,281,282,283,284]
          []).seq
        ACode.ret))))]
abbrev dmK2:List It:=[It.lp ref01_DivMod.l2,It.blk 2,It.code
       (((ACode.ops ref01_DivMod.r57 true).dr [9,10,11,12,13,14,92,277,278,279,280,281,282,283,284]
          []).seq
        ACode.ret)]
abbrev dmTM (v:List Nat) (s ul m:Nat) (j:Int):Tm:=[(14,.int .i64 j),(13,.row 85 0 1 0 m),(12,.int .i64 v.length),(11,.sl false (v.map e32)),(10,.row 69 0 1 0 ul),(9,.int .i64 (s:Int))]
abbrev dmC4:ACode:=(((ACode.ops ref01_DivMod.r39 false).dr [18,19,20,166,205,206,207] []).seq
                (((ACode.ops ref01_DivMod.r40 false).dr [208,209,210,211,212,213,214] []).seq
                 ((ACode.ops ref01_DivMod.r41 false).seq
                  ((((ACode.ops ref01_DivMod.r42 false).dr [215,216] []).seq
                     (ACode.cond 217
                      (((ACode.ops ref01_DivMod.r43 false).dr [18,217,218,219] []).seq
                       (ACode.ops ref01_DivMod.r44 false))
                      ACode.skip)).seq
                   (((ACode.ops ref01_DivMod.r45 false).dr
                      [23,24,217,220,221,222,223,224,225,226,227,228] []).seq
                    ((((ACode.ops ref01_DivMod.r46 false).dr [18,229] []).seq
                       (ACode.cond 230
                        (((ACode.ops ref01_DivMod.r47 false).dr [230,231,232] []).seq
                         ((ACode.ops ref01_DivMod.r48 false).seq
                          (((ACode.ops ref01_DivMod.r49 false).seq
                             (ACode.block 8 ref01_DivMod.l5.loop)).seq
                           ((ACode.ops ref01_DivMod.r55 false).dr
                            [25,26,235,262,263,264,265,266,267,268,269,270,271]
                            []))))
                        ACode.skip)).seq
                     ((ACode.ops ref01_DivMod.r56 false).dr [16,230,272,273,274,275,276]
                      [])))))))
abbrev dmK4:List It:=It.lp ref01_DivMod.l4::It.blk 6::It.code dmC4::It.blk 3::It.code ((ACode.ops ref01_DivMod.r18 false).dr [93,94] [])::dmK2
section
variable {A W C w y:List Nat} {j m s ul q:Nat} {Q:Tm→Mem→Prop}
theorem win_at {e i n:Nat} (hi:i=A.length+n) (he:W[n]? = some e):(A++W++C)[i]? = some e:=by
 rw[win_get hi (zS he).1];exact he
theorem dm_rest (hA:A.length=j) (hW:W.length=y.length+1) (D2:Dig W) (hVD:Dig y) (hv2l:2≤y.length) (hvL:y.length≤549755813888) (hV0:0<val y) (hjl:j≤1099511627776)
  (hul:ul=j+(y.length+1)+C.length) (hwm:w.length=m) (hjm:j<m)
  (r1:q<4294967296) (r2:val W/val y≤q) (r3:q≤val W/val y+1)
  (hk : ∀ (W':List Nat) (q':Nat),W'.length=y.length+1→Dig W'→val W'=val W%val y→q'=val W/val y→AKM L dmK2 (dmTM y s ul m ((j:Int)-1)) [(69,101021,.rw 1 ((A++W'++C).map e32)),(85,85,.rw 1 ((w.set j q').map e32))] Q) :
  AKM L dmK4 ([(20,.int .i64 0),(19,.int .u64 0),(18,.int .u64 0),(16,.int .u64 (q:Int))]++dmTM y s ul m (j:Int)) [(69,101021,.rw 1 ((A++W++C).map e32)),(85,85,.rw 1 (w.map e32))] Q:=by
 refine AKM.loop4 (fun i _ _ _=>y.length-i) (fun (i:Nat) (Z:List Nat) (c b:Nat)=>i≤y.length∧Z.length=y.length+1∧Dig Z∧c<4294967296∧b≤1∧Z.drop i=W.drop i∧val (Z.take i)+q*val (y.take i)=val (W.take i)+4294967296^i*(c+b)) (fun i Z c b=>[(20,.int .i64 i),(18,.int .u64 (b:Int)),(19,.int .u64 (c:Int))]) (fun i Z c b=>[(69,101021,.rw 1 ((A++Z++C).map e32))]) [] [] 0 W 0 0 (by (conv=>whnf);exact ⟨rfl,rfl,rfl⟩) ⟨by omega,hW,D2,by omega,by omega,rfl,by simp [val]⟩ ?_
 intro i Z c b ⟨p1,p2,p3,p4,p5,p6,p7⟩ ih
 by_cases hi:i<y.length
 ·obtain ⟨d,hd⟩ : ∃ d,y[i]? = some d:=⟨_,zE hi⟩
  obtain ⟨u,hu⟩ : ∃ u,Z[i]? = some u:=⟨_,zE (by omega)⟩
  have hdb:=hVD.at hd
  have hub:=p3.at hu
  have hru:(A++Z++C)[((i:Int)+(j:Int)).toNat]? = some u:=win_at (by omega) hu
  obtain ⟨pr,hpr⟩ : ∃ pr,pr=c+q*d:=⟨_,rfl⟩
  obtain ⟨m1,m2,m3⟩:=ms_carry r1 hdb p4 (show pr=q*d+c by omega)
  have hWi:W[i]? = some u:=by
   have e1:(Z.drop i)[0]? = (W.drop i)[0]? := by rw[p6]
   simpa [hu] using e1.symm
  have hdr : ∀ w,(Z.set i w).drop (i+1)=W.drop (i+1):=fun w=>by
   rw[List.drop_set_of_lt (by omega)]
   have e1:(Z.drop i).drop 1=(W.drop i).drop 1:=by rw[p6]
   simpa using e1
  have hst : ∀ have' take w bw',take=pr%4294967296+b→((have'=u∧bw'=0∧take≤u)∨(have'=u+4294967296∧bw'=1∧u<take))→w+take=have'→val ((Z.set i w).take (i+1))+q*val (y.take (i+1))=val (W.take (i+1))+4294967296^(i+1)*(pr/4294967296+bw'):=fun have' take w bw' a1 a2 a3=>by
   rw[val_set_take (by omega),val_take_succ hd,val_take_succ hWi,Nat.pow_succ]
   exact ms_step2 p7 hpr a1 a2 a3
  by_cases hlt:u<pr%4294967296+b
  ·have h3:=hst (u+4294967296) (pr%4294967296+b) (u+4294967296-(pr%4294967296+b)) 1 rfl (Or.inr ⟨rfl,rfl,hlt⟩) (by omega)
   (repeat' (first|(refine CmpP.go (fun hc => ?_) (fun hc => ?_)<;>first|(exfalso;omega)|(conv=>whnf))|(refine Req.go ?_ ?_;omega;conv=>whnf)|(refine OpP.add ?_ ?_;omega;conv=>whnf)|(refine OpP.nadd ?_ ?_;omega;conv=>whnf)|(refine OpP.nmul ?_ ?_;omega;conv=>whnf)|(refine OpP.nand32 ?_ ?_;omega;conv=>whnf)|(refine OpP.nsub ?_ ?_ ?_;omega;omega;conv=>whnf)|(refine OpP.nshr32 ?_;conv=>whnf)|(refine OpP.naddB ?_ ?_;omega;conv=>whnf)|(refine ConvP.u64 ?_ ?_;omega;conv=>whnf)|(refine ConvP.n32i ?_ ?_;omega;conv=>whnf)|(refine RdP.at (by assumption) ?_ rfl ?_;omega;conv=>whnf)|(refine LdR.dat (by assumption) ?_;conv=>whnf)|(refine AKM.x ?_;conv=>whnf)))
   rw[←hpr]
   skip
   refine StR.win i (by omega) (by omega) ?_
   (conv=>whnf)
   (repeat' (refine OpP.add ?_ ?_;omega;conv=>whnf))
   exact AKM.back [] (by (conv=>whnf);exact ⟨rfl,rfl,rfl⟩) (ih (i+1) (Z.set i (u+4294967296-(pr%4294967296+b))) (pr/4294967296) 1 (by omega) ⟨by omega,by simpa using p2,p3.set _ (by omega),m1,by omega,hdr _,h3⟩)
  ·have h3:=hst u (pr%4294967296+b) (u-(pr%4294967296+b)) 0 rfl (Or.inl ⟨rfl,rfl,by omega⟩) (by omega)
   (repeat' (first|(refine CmpP.go (fun hc => ?_) (fun hc => ?_)<;>first|(exfalso;omega)|(conv=>whnf))|(refine Req.go ?_ ?_;omega;conv=>whnf)|(refine OpP.add ?_ ?_;omega;conv=>whnf)|(refine OpP.nadd ?_ ?_;omega;conv=>whnf)|(refine OpP.nmul ?_ ?_;omega;conv=>whnf)|(refine OpP.nand32 ?_ ?_;omega;conv=>whnf)|(refine OpP.nsub ?_ ?_ ?_;omega;omega;conv=>whnf)|(refine OpP.nshr32 ?_;conv=>whnf)|(refine ConvP.u64 ?_ ?_;omega;conv=>whnf)|(refine ConvP.n32i ?_ ?_;omega;conv=>whnf)|(refine RdP.at (by assumption) ?_ rfl ?_;omega;conv=>whnf)|(refine LdR.dat (by assumption) ?_;conv=>whnf)|(refine AKM.x ?_;conv=>whnf)))
   rw[←hpr]
   skip
   refine StR.win i (by omega) (by omega) ?_
   (conv=>whnf)
   (repeat' (refine OpP.add ?_ ?_;omega;conv=>whnf))
   exact AKM.back [] (by (conv=>whnf);exact ⟨rfl,rfl,rfl⟩) (ih (i+1) (Z.set i (u-(pr%4294967296+b))) (pr/4294967296) 0 (by omega) ⟨by omega,by simpa using p2,p3.set _ (by omega),m1,by omega,hdr _,h3⟩)
 ·obtain rfl:i=y.length:=by omega
  clear ih
  obtain ⟨u,hu⟩ : ∃ u,Z[y.length]? = some u:=⟨_,zE (by omega)⟩
  have hub:=p3.at hu
  have hru:(A++Z++C)[((j:Int)+(y.length:Int)).toNat]? = some u:=win_at (by omega) hu
  have hWi:W[y.length]? = some u:=by
   have e1:(Z.drop y.length)[0]? = (W.drop y.length)[0]? := by rw[p6]
   simpa [hu] using e1.symm
  rw[val_take_all (Nat.le_refl y.length)]at p7
  have eW:val W=val (W.take y.length)+4294967296^y.length*u:=by
   rw[←val_take_succ hWi,val_take_all (by omega)]
  have hst : ∀ have' take w bw',take=c+b→((have'=u∧bw'=0∧take≤u)∨(have'=u+4294967296∧bw'=1∧u<take))→w+take=have'→val (Z.set y.length w)+q*val y=val W+4294967296^y.length*4294967296*bw':=fun have' take w bw' a1 a2 a3=>by
   have h1:=ms_last2 p7 a1 a2 a3
   rw[←eW,←val_set_take (show y.length<Z.length by omega),val_take_all (by simp;omega)]at h1
   exact h1
  by_cases hlt:u<c+b
  ·have h3:=hst (u+4294967296) (c+b) (u+4294967296-(c+b)) 1 rfl (Or.inr ⟨rfl,rfl,hlt⟩) (by omega)
   have hXD:Dig (Z.set y.length (u+4294967296-(c+b))):=p3.set _ (by omega)
   have hXl:(Z.set y.length (u+4294967296-(c+b))).length=y.length+1:=by simpa using p2
   rw[Nat.mul_one]at h3
   have hU':=val_lt hXD
   rw[hXl,Nat.pow_succ]at hU'
   obtain ⟨y1,y2,y3⟩:=digit_back hV0 r3 hU' h3
   (repeat' (first|(refine CmpP.go (fun hc => ?_) (fun hc => ?_)<;>first|(exfalso;omega)|(conv=>whnf))|(refine Req.go ?_ ?_;omega;conv=>whnf)|(refine OpP.add ?_ ?_;omega;conv=>whnf)|(refine OpP.nadd ?_ ?_;omega;conv=>whnf)|(refine OpP.nsub ?_ ?_ ?_;omega;omega;conv=>whnf)|(refine OpP.naddB ?_ ?_;omega;conv=>whnf)|(refine ConvP.u64 ?_ ?_;omega;conv=>whnf)|(refine ConvP.n32i ?_ ?_;omega;conv=>whnf)|(refine LdR.dat (by assumption) ?_;conv=>whnf)|(refine AKM.x ?_;conv=>whnf)))
   refine StR.win y.length (by omega) (by omega) ?_
   (conv=>whnf)
   (repeat' (first|(refine CmpP.go (fun hc => ?_) (fun hc => ?_)<;>first|(exfalso;omega)|(conv=>whnf))|(refine OpP.nsub ?_ ?_ ?_;omega;omega;conv=>whnf)))
   clear p7 p6 eW hu hWi hub hru p2 p3 hst
   generalize Z.set y.length (u+4294967296-(c+b))=X at *
   have hRV:val W%val y<val y:=Nat.mod_lt _ hV0
   have hVl:=val_lt hVD
   obtain ⟨xw,hxw⟩ : ∃ xw,X[y.length]? = some xw:=⟨_,zE (by omega)⟩
   have eX:val X=val (X.take y.length)+4294967296^y.length*xw:=by
    rw[←val_take_succ hxw,val_take_all (by omega)]
   have hqb:q-1<4294967296:=by omega
   refine AKM.loop3 (fun i _ _=>y.length-i) (fun (i:Nat) (Z:List Nat) (c:Nat)=>i≤y.length∧Z.length=y.length+1∧Dig Z∧c≤1∧Z.drop i=X.drop i∧val (Z.take i)+4294967296^i*c=val (X.take i)+val (y.take i)) (fun i Z c=>[(26,.int .i64 i),(25,.int .u64 (c:Int))]) (fun i Z c=>[(69,101021,.rw 1 ((A++Z++C).map e32))]) [] [] 0 X 0 (by (conv=>whnf);exact ⟨rfl,rfl,rfl⟩) ⟨by omega,hXl,hXD,by omega,rfl,by simp [val]⟩ ?_
   intro i Z c ⟨p1,p2,p3,p4,p6,p7⟩ ih
   by_cases hi:i<y.length
   ·obtain ⟨d,hd⟩ : ∃ d,y[i]? = some d:=⟨_,zE hi⟩
    obtain ⟨u,hu⟩ : ∃ u,Z[i]? = some u:=⟨_,zE (by omega)⟩
    have hdb:=hVD.at hd
    have hub:=p3.at hu
    have hru:(A++Z++C)[((i:Int)+(j:Int)).toNat]? = some u:=win_at (by omega) hu
    have hXi:X[i]? = some u:=by
     have e1:(Z.drop i)[0]? = (X.drop i)[0]? := by rw[p6]
     simpa [hu] using e1.symm
    have hab:=ab_step (d:=d) (w:=u) (t:=c+(u+d)) p7 (by omega)
    (repeat' (first|(refine CmpP.go (fun hc => ?_) (fun hc => ?_)<;>first|(exfalso;omega)|(conv=>whnf))|(refine Req.go ?_ ?_;omega;conv=>whnf)|(refine OpP.add ?_ ?_;omega;conv=>whnf)|(refine OpP.nadd ?_ ?_;omega;conv=>whnf)|(refine ConvP.u64 ?_ ?_;omega;conv=>whnf)|(refine ConvP.n32 ?_;conv=>whnf)|(refine RdP.at (by assumption) ?_ rfl ?_;omega;conv=>whnf)|(refine LdR.dat (by assumption) ?_;conv=>whnf)|(refine AKM.x ?_;conv=>whnf)))
    generalize ht2:c+(u+d)=t2 at *
    refine StR.win i (by omega) (by omega) ?_
    (conv=>whnf)
    (repeat' (first|(refine OpP.add ?_ ?_;omega;conv=>whnf)|(refine OpP.nshr32 ?_;conv=>whnf)))
    refine AKM.back [] (by (conv=>whnf);exact ⟨rfl,rfl,rfl⟩) (ih (i+1) (Z.set i (t2%4294967296)) (t2/4294967296) (by omega) ⟨by omega,by simpa using p2,p3.set _ (by omega),by omega,?_,?_⟩)
    ·rw[List.drop_set_of_lt (by omega)]
     have e1:(Z.drop i).drop 1=(X.drop i).drop 1:=by rw[p6]
     simpa using e1
    ·rw[val_set_take (by omega),val_take_succ hd,val_take_succ hXi,Nat.pow_succ]
     exact hab
   ·obtain rfl:i=y.length:=by omega
    clear ih
    obtain ⟨u,hu⟩ : ∃ u,Z[y.length]? = some u:=⟨_,zE (by omega)⟩
    have hub:=p3.at hu
    have hru:(A++Z++C)[((j:Int)+(y.length:Int)).toNat]? = some u:=win_at (by omega) hu
    have hXi:X[y.length]? = some u:=by
     have e1:(Z.drop y.length)[0]? = (X.drop y.length)[0]? := by rw[p6]
     simpa [hu] using e1.symm
    rw[hXi]at hxw
    obtain rfl:u=xw:=by simpa using hxw
    rw[val_take_all (Nat.le_refl y.length)]at p7
    have hZl:=val_lt (p3.take y.length)
    rw[List.length_take,Nat.min_eq_left (by omega)]at hZl
    rw[eX]at y3
    have hend:=ab_last p7 y3 (by omega) hZl
    rw[←val_set_take (show y.length<Z.length by omega),val_take_all (by simp;omega)]at hend
    (repeat' (first|(refine CmpP.go (fun hc => ?_) (fun hc => ?_)<;>first|(exfalso;omega)|(conv=>whnf))|(refine Req.go ?_ ?_;omega;conv=>whnf)|(refine OpP.add ?_ ?_;omega;conv=>whnf)|(refine OpP.nadd4 ?_;conv=>whnf)|(refine ConvP.n32i ?_ ?_;omega;conv=>whnf)|(refine LdR.dat (by assumption) ?_;conv=>whnf)|(refine AKM.x ?_;conv=>whnf)))
    refine StR.win y.length (by omega) (by omega) ?_
    (conv=>whnf)
    (repeat' (first|(refine Req.go ?_ ?_;omega;conv=>whnf)|(refine ConvP.n32i ?_ ?_;omega;conv=>whnf)))
    refine StR.dig (by omega) ?_
    (conv=>whnf)
    (repeat' (refine OpP.sub ?_ ?_;omega;conv=>whnf))
    exact AKM.back [] (by (conv=>whnf);exact ⟨rfl,rfl,rfl⟩) (hk _ _ (by simpa using p2) (p3.set _ (by omega)) hend y1)
  ·have h3:=hst u (c+b) (u-(c+b)) 0 rfl (Or.inl ⟨rfl,rfl,by omega⟩) (by omega)
   rw[Nat.mul_zero,Nat.add_zero]at h3
   obtain ⟨y1,y2⟩:=digit_ok hV0 r2 h3
   (repeat' (first|(refine CmpP.go (fun hc => ?_) (fun hc => ?_)<;>first|(exfalso;omega)|(conv=>whnf))|(refine Req.go ?_ ?_;omega;conv=>whnf)|(refine OpP.add ?_ ?_;omega;conv=>whnf)|(refine OpP.nadd ?_ ?_;omega;conv=>whnf)|(refine OpP.nsub ?_ ?_ ?_;omega;omega;conv=>whnf)|(refine ConvP.u64 ?_ ?_;omega;conv=>whnf)|(refine ConvP.n32i ?_ ?_;omega;conv=>whnf)|(refine LdR.dat (by assumption) ?_;conv=>whnf)|(refine AKM.x ?_;conv=>whnf)))
   refine StR.win y.length (by omega) (by omega) ?_
   (conv=>whnf)
   (repeat' (first|(refine CmpP.go (fun hc => ?_) (fun hc => ?_)<;>first|(exfalso;omega)|(conv=>whnf))|(refine Req.go ?_ ?_;omega;conv=>whnf)|(refine ConvP.n32i ?_ ?_;omega;conv=>whnf)))
   refine StR.dig (by omega) ?_
   (conv=>whnf)
   (repeat' (refine OpP.sub ?_ ?_;omega;conv=>whnf))
   exact AKM.back [] (by (conv=>whnf);exact ⟨rfl,rfl,rfl⟩) (hk _ _ (by simpa using p2) (p3.set _ (by omega)) y2 y1)
theorem dm_iter (hA:A.length=j) (hW:W.length=y.length+1) (D2:Dig W) (hVD:Dig y) (hv2l:2≤y.length) (hvL:y.length≤549755813888) (hV0:0<val y) (hjl:j≤1099511627776)
  (n2:4294967296^(y.length-1)*2147483648≤val y) (g2:val W<4294967296*val y) (hul:ul=j+(y.length+1)+C.length) (hwm:w.length=m) (hjm:j<m)
  (hk : ∀ (W':List Nat) (q':Nat),W'.length=y.length+1→Dig W'→val W'=val W%val y→q'=val W/val y→AKM L dmK2 (dmTM y s ul m ((j:Int)-1)) [(69,101021,.rw 1 ((A++W'++C).map e32)),(85,85,.rw 1 ((w.set j q').map e32))] Q) :
  AKM L (.code ref01_DivMod.l2::dmK2) (dmTM y s ul m (j:Int)) [(69,101021,.rw 1 ((A++W++C).map e32)),(85,85,.rw 1 (w.map e32))] Q:=by
 obtain ⟨UL,a1,a2⟩:=val_top3 D2 (n:=y.length+1) (by omega) (by omega)
 obtain ⟨VL,b5,b6⟩:=val_top2 hVD (n:=y.length) hv2l (by omega)
 obtain ⟨u0,w0⟩ : ∃ d,W[y.length]? = some d:=⟨_,zE (by omega)⟩
 obtain ⟨u1,w1⟩ : ∃ d,W[y.length-1]? = some d:=⟨_,zE (by omega)⟩
 obtain ⟨u2,w2⟩ : ∃ d,W[y.length-2]? = some d:=⟨_,zE (by omega)⟩
 obtain ⟨f1,x1⟩ : ∃ d,y[y.length-1]? = some d:=⟨_,zE (by omega)⟩
 obtain ⟨f2,x2⟩ : ∃ d,y[y.length-2]? = some d:=⟨_,zE (by omega)⟩
 rw[show y.length+1-3=y.length-2 by omega,show y.length+1-2=y.length-1 by omega,show y.length+1-1=y.length by omega,getD_is w0,getD_is w1,getD_is w2]at a2
 rw[show y.length+1-3=y.length-2 by omega]at a1
 rw[getD_is x1,getD_is x2]at b6
 have hf1:=top_ge hVD (k:=y.length-1) (by omega) n2 x1
 have k0:=D2.at w0
 have k1:=D2.at w1
 have k2:=D2.at w2
 have k3:=hVD.at x1
 have k4:=hVD.at x2
 have z1:y[((y.length:Int)-1).toNat]? = some f1:=by rw[show ((y.length:Int)-1).toNat=y.length-1 by omega];exact x1
 have z2:y[((y.length:Int)-2).toNat]? = some f2:=by rw[show ((y.length:Int)-2).toNat=y.length-2 by omega];exact x2
 have hr0:(A++W++C)[((j:Int)+(y.length:Int)).toNat]? = some u0:=win_at (by omega) w0
 (repeat' (first|(refine CmpP.go (fun hc => ?_) (fun hc => ?_)<;>first|(exfalso;omega)|(conv=>whnf))|(refine Req.go ?_ ?_;omega;conv=>whnf)|(refine OpP.add ?_ ?_;omega;conv=>whnf)|(refine OpP.sub ?_ ?_;omega;conv=>whnf)|(refine OpP.nshl32 ?_ ?_;omega;conv=>whnf)|(refine ConvP.u64 ?_ ?_;omega;conv=>whnf)|(refine LdR.dat (by assumption) ?_;conv=>whnf)|(refine AKM.x ?_;conv=>whnf)))
 have hr1:(A++W++C)[((j:Int)+(y.length:Int)-1).toNat]? = some u1:=win_at (by omega) w1
 refine LdR.dai hr1 ?_
 (conv=>whnf)
 refine ConvP.n64 (by omega) ?_
 (conv=>whnf)
 refine OpP.nor (by omega) ?_
 (conv=>whnf)
 clear hr0 hr1
 have hr2:(A++W++C)[((j:Int)+(y.length:Int)-2).toNat]? = some u2:=win_at (by omega) w2
 generalize htop:u0*4294967296+u1=top at *
 have htb:top≤18446744073709551615:=by omega
 have hU:val W=UL+4294967296^(y.length-2)*(u2+4294967296*top):=by rw[a2,show u1+4294967296*u0=top by omega]
 (repeat' (first|(refine OpP.sub ?_ ?_;omega;conv=>whnf)|(refine OpP.nrem ?_ ?_;omega;conv=>whnf)|(refine OpP.nquo ?_ ?_ ?_;omega;omega;conv=>whnf)|(refine ConvP.u64 ?_ ?_;omega;conv=>whnf)|(refine RdP.at (by assumption) ?_ rfl ?_;omega;conv=>whnf)))
 refine AKM.loop2 (fun q _=>q) (fun (q r:Nat)=>Gs (val W) (val y) f1 f2 u2 top q r) (fun q r=>[(16,.int .u64 (q:Int)),(17,.int .u64 (r:Int))]) (fun _ _=>[]) [] [] (top/f1) (top%f1) (by (conv=>whnf);exact ⟨rfl,rfl,rfl⟩) (Gs.start hU b6 a1 k2 hV0 (by omega) k3) ?_
 intro q r g ih2
 have hqt:q≤top:=by
  have h3:=g.hq
  have h4:q*1≤q*f1:=Nat.mul_le_mul_left q (by omega)
  omega
 have hr:=g.hr
 have hge:=g.ge
 by_cases hb:4294967296≤q
 ·obtain ⟨y1,y2,y3⟩:=g.next hU b6 a1 hV0 g2 (Or.inl hb)
  (repeat' (first|(refine CmpP.go (fun hc => ?_) (fun hc => ?_)<;>first|(exfalso;omega)|(conv=>whnf))|(refine OpP.sub ?_ ?_;omega;conv=>whnf)|(refine OpP.nadd ?_ ?_;omega;conv=>whnf)|(refine OpP.nsub ?_ ?_ ?_;omega;omega;conv=>whnf)|(refine ConvP.u64 ?_ ?_;omega;conv=>whnf)|(refine RdP.at (by assumption) ?_ rfl ?_;omega;conv=>whnf)|(refine AKM.x ?_;conv=>whnf)))
  ·obtain ⟨t1,t2⟩:=guess_stop hU b6 b5 hf1 k4 g2 y2 (Or.inr (by omega))
   exact AKM.back [] (by (conv=>whnf);exact ⟨rfl,rfl,rfl⟩) (dm_rest (w:=w) (C:=C) hA hW D2 hVD hv2l hvL hV0 hjl hul hwm hjm t1 y3 t2 hk)
  ·exact AKM.back [] (by (conv=>whnf);exact ⟨rfl,rfl,rfl⟩) (ih2 (q-1) (r+f1) (by omega) ⟨y2,by omega,y3⟩)
 ·have hmq:=mul_le_dig (show q<4294967296 by omega) k4
  by_cases hb2:r*4294967296+u2<q*f2
  ·obtain ⟨y1,y2,y3⟩:=g.next hU b6 a1 hV0 g2 (Or.inr hb2)
   (repeat' (first|(refine CmpP.go (fun hc => ?_) (fun hc => ?_)<;>first|(exfalso;omega)|(conv=>whnf))|(refine Req.go ?_ ?_;omega;conv=>whnf)|(refine OpP.add ?_ ?_;omega;conv=>whnf)|(refine OpP.sub ?_ ?_;omega;conv=>whnf)|(refine OpP.nadd ?_ ?_;omega;conv=>whnf)|(refine OpP.nmul ?_ ?_;omega;conv=>whnf)|(refine OpP.nshl32 ?_ ?_;omega;conv=>whnf)|(refine OpP.nor ?_ ?_;omega;conv=>whnf)|(refine OpP.nsub ?_ ?_ ?_;omega;omega;conv=>whnf)|(refine ConvP.u64 ?_ ?_;omega;conv=>whnf)|(refine RdP.at (by assumption) ?_ rfl ?_;omega;conv=>whnf)|(refine LdR.dat (by assumption) ?_;conv=>whnf)|(refine AKM.x ?_;conv=>whnf)))
   ·obtain ⟨t1,t2⟩:=guess_stop hU b6 b5 hf1 k4 g2 y2 (Or.inr (by omega))
    exact AKM.back [] (by (conv=>whnf);exact ⟨rfl,rfl,rfl⟩) (dm_rest (w:=w) (C:=C) hA hW D2 hVD hv2l hvL hV0 hjl hul hwm hjm t1 y3 t2 hk)
   ·exact AKM.back [] (by (conv=>whnf);exact ⟨rfl,rfl,rfl⟩) (ih2 (q-1) (r+f1) (by omega) ⟨y2,by omega,y3⟩)
  ·obtain ⟨t1,t2⟩:=guess_stop hU b6 b5 hf1 k4 g2 g.hq (Or.inl ⟨by omega,by omega⟩)
   (repeat' (first|(refine CmpP.go (fun hc => ?_) (fun hc => ?_)<;>first|(exfalso;omega)|(conv=>whnf))|(refine Req.go ?_ ?_;omega;conv=>whnf)|(refine OpP.add ?_ ?_;omega;conv=>whnf)|(refine OpP.sub ?_ ?_;omega;conv=>whnf)|(refine OpP.nmul ?_ ?_;omega;conv=>whnf)|(refine OpP.nshl32 ?_ ?_;omega;conv=>whnf)|(refine OpP.nor ?_ ?_;omega;conv=>whnf)|(refine ConvP.u64 ?_ ?_;omega;conv=>whnf)|(refine RdP.at (by assumption) ?_ rfl ?_;omega;conv=>whnf)|(refine LdR.dat (by assumption) ?_;conv=>whnf)|(refine AKM.x ?_;conv=>whnf)))
   exact AKM.back [] (by (conv=>whnf);exact ⟨rfl,rfl,rfl⟩) (dm_rest (w:=w) (C:=C) hA hW D2 hVD hv2l hvL hV0 hjl hul hwm hjm t1 hge t2 hk)
end
theorem val_top0 {l:List Nat} (hD:Dig l) (h:l[l.length-1]? = some 0):val l<4294967296^(l.length-1):=by
 have hl:=(zS h).1
 have h1:=val_split l (l.length-1) (by omega)
 have h2:=val_getD_drop h
 rw[List.drop_of_length_le (show l.length≤l.length-1+1 by omega),val_nil]at h2
 rw[h2]at h1
 simp only[Nat.mul_zero,Nat.add_zero]at h1
 have h3:=val_lt (hD.take (l.length-1))
 rw[List.length_take,Nat.min_eq_left (by omega)]at h3
 omega
theorem dm_main (N:RefGLib L) {X Y s:Nat} {x u y:List Nat} (hY:Y≠0) (hs31:s≤31) (hUD:Dig u) (hUu:val u=X*2^s) (hU0:u[u.length-1]? = some 0) (hul:x.length+1≤u.length∧u.length≤549755813888) (hVD:Dig y) (hVv:val y=Y*2^s) (hvl:2≤y.length∧y.length≤x.length) (n2:4294967296^(y.length-1)*2147483648≤val y) :
  AKM L dmK1 [(10,.row 69 0 1 0 u.length),(11,.sl false (y.map e32)),(9,.int .i64 (s:Int)),(0,.sl false (x.map e32))] [(69,101021,.rw 1 (u.map e32))] (RetX ref01_DivMod (.tup [.sl false ((dg (X/Y)).map e32),.sl false ((dg (X%Y)).map e32),.int .i64 0])):=by
 refine AKM.loop1 (fun (_:Nat)=>0) (fun _=>True) (fun _=>[]) (fun _=>[]) [] [] 0 (by (conv=>whnf);exact ⟨rfl,rfl,rfl⟩) trivial ?_
 intro _ _ _
 (repeat' (first|(refine CmpP.go (fun hc => ?_) (fun hc => ?_)<;>first|(exfalso;omega)|(conv=>whnf))|(refine OpP.add ?_ ?_;omega;conv=>whnf)|(refine OpP.sub ?_ ?_;omega;conv=>whnf)|(refine LenP.go ?_;conv=>whnf)|(refine AKM.x ?_;conv=>whnf)))
 refine MkR.go (enc:=e32) 0 (u.length-y.length) (by rfl) (by omega) (by omega) ?_
 (conv=>whnf)
 (repeat' (refine OpP.sub ?_ ?_;omega;conv=>whnf))
 have hV0:0<val y:=by
  have:=pow_pos' (y.length-1)
  omega
 have hVlt:=val_lt hVD
 generalize hm:u.length-y.length=m at *
 have hi0:val (u.drop m)<val y:=by
  have h1:(u.drop m).length=y.length:=by simp;omega
  have h2:=val_top0 (l:=u.drop m) (hUD.drop _) (by rw[h1,List.getElem?_drop,show m+(y.length-1)=u.length-1 by omega];exact hU0)
  rw[h1]at h2
  omega
 rw[show (u.length:Int)-y.length-1=((m:Nat):Int)-1 by omega]
 refine AKM.loop3 (fun n _ _=>n) (fun (n:Nat) (o w:List Nat)=>n≤m∧o.length=u.length∧Dig o∧w.length=m∧Dig w∧val (o.drop n)<val y∧X*2^s=val (o.take n)+4294967296^n*(val (w.drop n)*val y+val (o.drop n))) (fun n o w=>[(14,.int .i64 ((n:Int)-1))]) (fun n o w=>[(69,101021,.rw 1 (o.map e32)),(85,85,.rw 1 (w.map e32))]) [] [] m u (List.replicate m 0) (by (conv=>whnf);exact ⟨rfl,rfl,rfl⟩) ⟨by omega,rfl,hUD,by simp,dig_zeros _,hi0,by rw[←hUu,List.drop_of_length_le (show (List.replicate m 0).length≤m by simp),val_nil,Nat.zero_mul,Nat.zero_add];exact val_split u m (by omega)⟩ ?_
 intro n o w ⟨p1,p2,p3,p4,p5,p6,p7⟩ ih
 rcases n with _|j
 ·clear ih
  rw[List.drop_zero]at p6
  rw[List.take_zero,List.drop_zero,List.drop_zero,val_nil,Nat.zero_add,Nat.pow_zero,Nat.one_mul]at p7
  have hdr:val o=val (o.take y.length):=by
   have h1:=val_splitD o y.length
   rcases Nat.eq_zero_or_pos (val (o.drop y.length)) with h2|h2
   ·rw[h2,Nat.mul_zero,Nat.add_zero]at h1;exact h1
   ·have h3:4294967296^y.length*1≤4294967296^y.length*val (o.drop y.length):=Nat.mul_le_mul_left _ h2
    omega
  have hX0:X/Y=val w∧X%Y=val o/2^s:=by
   obtain ⟨z1,z2⟩:=div_scale (X:=X) (Y:=Y) (Nat.two_pow_pos s)
   rw[←z1,←z2,←hVv,p7]
   have e1:(val w*val y+val o)/val y=val w:=by
    rw[Nat.mul_comm,Nat.mul_add_div hV0,Nat.div_eq_of_lt p6,Nat.add_zero]
   have e2:(val w*val y+val o)%val y=val o:=by
    rw[Nat.mul_comm,Nat.mul_add_mod,Nat.mod_eq_of_lt p6]
   rw[e1,e2]
   exact ⟨rfl,rfl⟩
  rw[hX0.1,hX0.2,hdr]
  have hT:=fun q=>ev_r1_Trim N w q p5 (by omega)
  have htl:(o.take y.length).length≤549755813888:=by rw[List.length_take];omega
  clear p7 hX0 hi0
  rw[←p4]
  rcases Nat.eq_zero_or_pos s with h0|h0
  ·subst h0
   have hS:=fun q=>ev_r1_Shl N (o.take y.length) q 0 (p3.take _) htl (by omega)
   rw[Nat.pow_zero,Nat.mul_one]at hS
   rw[Nat.pow_zero,Nat.div_one]
   (repeat' (first|(refine CmpP.go (fun hc => ?_) (fun hc => ?_)<;>first|(exfalso;omega)|(conv=>whnf))|(refine SnR.all (fun _=>rfl) rfl ?_ ?_;(first|rfl|simp);conv=>whnf)|(refine AKM.x ?_;conv=>whnf)|(refine CallP.go (hT _) ?_;conv=>whnf)))
   refine Bds.up y.length rfl (by omega) ?_
   (conv=>whnf)
   refine UnP.neg (by omega) ?_
   (conv=>whnf)
   refine SnR.part (enc:=e32) (fun _=>rfl) (by omega) ?_
   (conv=>whnf)
   rw[List.drop_zero,Nat.sub_zero,show -((0:Nat):Int)=((0:Nat):Int) by omega]
   (repeat' (refine CallP.go (hS _) ?_;conv=>whnf))
   exact FinP.go rfl (cl_pair3 _ _ _)
  ·have hS:=fun q=>ev_r1_Shr N (o.take y.length) q s (p3.take _) htl (by omega)
   (repeat' (first|(refine CmpP.go (fun hc => ?_) (fun hc => ?_)<;>first|(exfalso;omega)|(conv=>whnf))|(refine SnR.all (fun _=>rfl) rfl ?_ ?_;(first|rfl|simp);conv=>whnf)|(refine AKM.x ?_;conv=>whnf)|(refine CallP.go (hT _) ?_;conv=>whnf)))
   refine Bds.up y.length rfl (by omega) ?_
   (conv=>whnf)
   refine UnP.neg (by omega) ?_
   (conv=>whnf)
   refine SnR.part (enc:=e32) (fun _=>rfl) (by omega) ?_
   (conv=>whnf)
   rw[List.drop_zero,Nat.sub_zero]
   (repeat' (refine CallP.go (hS _) ?_;conv=>whnf))
   exact FinP.go rfl (cl_pair3 _ _ _)
 ·have e3:((j+1:Nat):Int)-1=j:=by omega
  rw[e3]
  obtain ⟨A,W,C,hA,hW,rfl⟩:=dv_cut o j (y.length+1) (by omega)
  obtain ⟨g1,g2,g3⟩:=dv_pre hA hW p3 p6 hVlt
  obtain ⟨D1,D2,D3⟩:=dig_win p3
  have hqb:val W/val y<4294967296:=(Nat.div_lt_iff_lt_mul hV0).2 g2
  have hWV:val W=val W/val y*val y+val W%val y:=by rw[Nat.mul_comm];exact (Nat.div_add_mod _ _).symm
  have hWl:val W%val y<val y:=Nat.mod_lt _ hV0
  have hTot:X*2^s=val A+4294967296^j*val W+4294967296^j*4294967296*(val (w.drop (j+1))*val y):=by
   rw[p7,Nat.mul_add,←g3,Nat.pow_succ];omega
  have hTot2:=dv_next hTot hWV
  have hset : ∀ q',q'=val W/val y→val ((w.set j q').drop j)=val W/val y+4294967296*val (w.drop (j+1)):=fun q' h=>by
   rw[val_getD_drop (l:=w.set j q') (d:=q') (by rw[List.getElem?_set_self (by omega)]),List.drop_set_of_lt (by omega),h]
  have hlen : ∀ W':List Nat,W'.length=y.length+1→(A++W'++C).length=u.length:=fun W' h=>by
   rw[←p2];simp [h,hW]
  have hl3:u.length=j+(y.length+1)+C.length:=by rw[←p2];simp [hA,hW];omega
  refine AKM.back [] (by (conv=>whnf);exact ⟨rfl,rfl,rfl⟩) (dm_iter (m:=m) (s:=s) (ul:=u.length) (C:=C) hA hW D2 hVD hvl.1 (by omega) hV0 (by omega) n2 g2 hl3 p4 (by omega) (fun W' q' z1 z2 z3 z4 => ?_))
  obtain ⟨t1,t2⟩:=dv_post (A:=A) (W:=W') (C:=C) (j:=j) hA g1
  refine AKM.back [] (by (conv=>whnf);exact ⟨rfl,rfl,rfl⟩) (ih j (A++W'++C) (w.set j q') (by omega) ⟨by omega,hlen W' z1,(D1.append z2).append D3,by simpa using p4,p5.set _ (by omega),by omega,?_⟩)
  rw[t1,t2,hset q' z4,z3]
  exact hTot2
end Go.Eng
namespace Go.Eng
open F
attribute [local irreducible] AKM CmpP Req OpP UnP ConvP RdP LdR StR MkR LenP AppR AppN CpyR RowP SnR Bds SlS CallP CalP FinP pw LdM GetM SetM PutM MkM AppM SnM FlP CallR
set_option maxHeartbeats 8000000
variable {L:Lib}
theorem ev_r1_DivMod (N:RefGLib L) (a b:List Nat) (q1 q2:Bool) (hA:Dig a) (hB:Dig b) (la:a.length≤274877906944) (lb:b.length≤274877906944) (h0:val b≠0) :
  Ev L 109 [.sl q1 (a.map e32),.sl q2 (b.map e32)] (.tup [.sl false ((dg (val a/val b)).map e32),.sl false ((dg (val a%val b)).map e32),.int .i64 0]):=by
 have t1:=fun q=>ev_r1_Trim N a q hA (by omega)
 have t2:=fun q=>ev_r1_Trim N b q hB (by omega)
 have l1:=dg_len_val hA
 have l2:=dg_len_val hB
 have hcmp:=fun q q'=>ev_r1_Compare N (dg (val a)) (dg (val b)) q q' (dig_dg _) (dig_dg _) (by omega) (by omega)
 rw[val_dg,val_dg]at hcmp
 generalize val a=X at *
 generalize val b=Y at *
 have d1:=dig_dg X
 have d2:=dig_dg Y
 have v1:=val_dg X
 have v2:=val_dg Y
 have hy1:=dg_len_pos h0
 refine Ev.x N.ref01_DivMod rfl rfl ?_
 by_cases h1:(dg Y).length=1
 ·obtain ⟨y0,hy0⟩ : ∃ y0,dg Y=[y0]:=List.length_eq_one_iff.1 h1
  have hyv:Y=y0:=by rw[←v2,hy0];simp [val]
  subst hyv
  have hyb:Y<4294967296:=d2 Y (by rw[hy0];simp)
  have hyg:(dg Y)[(0:Int).toNat]? = some Y:=by rw[hy0];rfl
  have hsm:=fun q=>ev_r1_small N (dg X) Y q d1 (by omega) h0 hyb
  rw[v1]at hsm
  have hrb:X%Y<4294967296:=Nat.lt_trans (Nat.mod_lt _ (by omega)) hyb
  have hT3:=fun q=>ev_r1_Trim N [X%Y] q (dig_one hrb) (by simp)
  rw[show val [X%Y]=X%Y by simp [val]]at hT3
  clear hy0 v2
  generalize dg Y=y at *
  (repeat' (first|(refine CmpP.go (fun hc => ?_) (fun hc => ?_)<;>first|(exfalso;omega)|(conv=>whnf))|(refine LenP.go ?_;conv=>whnf)|(refine RdP.at (by assumption) ?_ rfl ?_;omega;conv=>whnf)|(refine SnR.e1 rfl ?_;conv=>whnf)|(refine AKM.x ?_;conv=>whnf)|(refine CallP.go (t1 _) ?_;conv=>whnf)|(refine CallP.go (t2 _) ?_;conv=>whnf)|(refine CallP.go (hsm _) ?_;conv=>whnf)|(refine CallP.go (hT3 _) ?_;conv=>whnf)))
  exact FinP.go rfl (cl_pair3 _ _ _)
 by_cases hlt:X<Y
 ·rw[←cmpS_lt (by omega)]at hcmp
  (repeat' (first|(refine CmpP.go (fun hc => ?_) (fun hc => ?_)<;>first|(exfalso;omega)|(conv=>whnf))|(refine LenP.go ?_;conv=>whnf)|(refine AKM.x ?_;conv=>whnf)|(refine CallP.go (t1 _) ?_;conv=>whnf)|(refine CallP.go (t2 _) ?_;conv=>whnf)|(refine CallP.go (hcmp _ _) ?_;conv=>whnf)))
  refine FinP.go ?_ (cl_pair3 _ _ _)
  rw[Nat.div_eq_of_lt hlt,Nat.mod_eq_of_lt hlt,dg_zero];rfl
 have hge:=cmpS_ge (show Y≤X by omega)
 generalize cmpS X Y=cm at *
 have hn2:2≤(dg Y).length:=by omega
 obtain ⟨yt,hyt,hyt0⟩:=dg_top h0
 have hytb:=d2.at hyt
 obtain ⟨b1,b2,b3,b4⟩:=lz_top hyt0 hytb
 have hbl:=fun q=>ev_r1_BitLen N yt q hyt0 hytb
 generalize hs:32-blen yt=s at *
 have hs31:s≤31:=by omega
 have hsv:=fun q=>ev_r1_Shl N (dg Y) q s d2 (by omega) (by omega)
 obtain ⟨n1,n2⟩:=lift_norm d2 hyt (by omega) hs31 b3 b4
 rw[v2]at hsv n1 n2
 have hdr:(dg Y).drop ((dg Y).length-1)=[yt]:=by
  obtain ⟨hi,he⟩:=zS hyt
  rw[List.drop_eq_getElem_cons hi,he,List.drop_of_length_le (by omega)]
 have hvl:(dg (Y*2^s)).length=(dg Y).length:=by
  have a1:=dg_len_le.2 n1
  have a2 : ¬ (dg (Y*2^s)).length≤(dg Y).length-1:=fun h=>by
   have:=dg_len_le.1 h
   omega
  omega
 have hXl2:(dg (X*2^s)).length≤(dg X).length+1:=by
  refine dg_len_le.2 ?_
  have a1:X<4294967296^(dg X).length:=dg_len_le.1 (Nat.le_refl _)
  rw[Nat.pow_succ]
  have a2:=pow_s_le (s:=s) (by omega)
  exact Nat.lt_of_lt_of_le (Nat.mul_lt_mul_of_pos_right a1 (Nat.two_pow_pos s)) (Nat.mul_le_mul_left _ a2)
 have hXl:(dg X).length≤(dg (X*2^s)).length:=dg_len_mono (Nat.le_mul_of_pos_right _ (Nat.two_pow_pos s))
 have hll:=dg_len_mono (show Y≤X by omega)
 generalize hx:dg X=x at *
 generalize hy:dg Y=y at *
 have t3:=fun q=>ev_r1_Trim N x q d1 (by omega)
 rw[v1,hx]at t3
 (repeat' (first|(refine CmpP.go (fun hc => ?_) (fun hc => ?_)<;>first|(exfalso;omega)|(conv=>whnf))|(refine OpP.sub ?_ ?_;omega;conv=>whnf)|(refine LenP.go ?_;conv=>whnf)|(refine AKM.x ?_;conv=>whnf)|(refine CallP.go (t1 _) ?_;conv=>whnf)|(refine CallP.go (t2 _) ?_;conv=>whnf)|(refine CallP.go (hcmp _ _) ?_;conv=>whnf)))
 rw[show (y.length:Int)-1=((y.length-1:Nat):Int) by omega]
 refine SlS.off (k:=y.length-1) (fun _=>rfl) (by omega) ?_
 (conv=>whnf)
 rw[hdr]
 (repeat' (first|(refine OpP.sub ?_ ?_;omega;conv=>whnf)|(refine CallP.go (hbl _) ?_;conv=>whnf)))
 rw[show (32:Int)-(blen yt:Nat)=((s:Nat):Int) by omega]
 refine CalP.walk 1000 N.ref01_Shift rfl rfl ?_
 have hsq:(s:Int)/32=((0:Nat):Int):=by omega
 have hsr:(s:Int)%32=((s:Nat):Int):=by omega
 (repeat' (first|(refine CmpP.go (fun hc => ?_) (fun hc => ?_)<;>first|(exfalso;omega)|(conv=>whnf))|(refine OpP.quo ?_ ?_ (fun _ => ?_) (fun _ _ => ?_);omega;omega;all_goals first|(exfalso;omega)|(conv=>whnf))|(refine LenP.go ?_;conv=>whnf)|(refine AKM.x ?_;conv=>whnf)|(refine CallP.go (t3 _) ?_;conv=>whnf)))
 rw[hsq]
 refine MkR.go (enc:=e32) 0 0 rfl rfl (by omega) ?_
 (conv=>whnf)
 skip
 refine AKM.loop3 (fun i _ _=>x.length-i) (fun (i:Nat) (o:List Nat) (c:Nat)=>i≤x.length∧o.length=i∧Dig o∧c<2^s∧val o+4294967296^i*c=val (x.take i)*2^s) (fun i o c=>[(10,.int .i64 i),(9,.int .u64 (c:Int)),(8,.row 107069 0 1 0 i)]) (fun i o c=>[(107069,107069,.rw 1 (o.map e32))]) [] [] 0 [] 0 (by (conv=>whnf);exact ⟨rfl,rfl,rfl⟩) ⟨by omega,rfl,dig_nil,Nat.two_pow_pos _,by simp [val]⟩ ?_
 intro i o c ⟨p1,p2,p3,p4,p5⟩ ih
 have hps:=pow_s_le (s:=s) (by omega)
 by_cases hi:i<x.length
 ·obtain ⟨d,hd⟩ : ∃ d,x[i]? = some d:=⟨_,zE hi⟩
  have hdb:=d1.at hd
  obtain ⟨f1,f2,f3,f4⟩:=sh_facts (s:=s) hdb (by omega)
  have hr:=mul_room (show s≤64 by omega) f4
  (repeat' (first|(refine CmpP.go (fun hc => ?_) (fun hc => ?_)<;>first|(exfalso;omega)|(conv=>whnf))|(refine OpP.rem ?_ (fun _ _ _ => ?_) (fun _ _ _ _ => ?_);omega;all_goals first|(exfalso;omega)|(conv=>whnf))|(refine ConvP.u64 ?_ ?_;omega;conv=>whnf)|(refine LenP.go ?_;conv=>whnf)|(refine RdP.at (by assumption) ?_ rfl ?_;omega;conv=>whnf)|(refine AKM.x ?_;conv=>whnf)))
  rw[hsr]
  refine OpP.sh8 (by omega) f4 ?_
  (conv=>whnf)
  skip
  refine OpP.nor8r s (Nat.mul_mod_left _ _) p4 (by omega) ?_
  (conv=>whnf)
  have hst:=up_step (d:=d) (P:=1) (V:=val o) (p:=4294967296^i) (lo:=c) (X:=val (x.take i)) (s:=s) (by rw[Nat.one_mul,Nat.one_mul];exact p5) rfl
  have hc2:(c+d*2^s)/4294967296<2^s:=by
   rw[Nat.div_lt_iff_lt_mul (by omega)]
   have:=Nat.mul_le_mul_right (2^s) (show d≤4294967295 by omega)
   omega
  generalize c+d*2^s=t at *
  (repeat' (first|(refine ConvP.n32 ?_;conv=>whnf)|(refine RowP.e1 ?_;conv=>whnf)))
  refine AppR.one (enc:=e32) (t%4294967296) rfl p2.symm rfl (by omega) (by omega) ?_
  (conv=>whnf)
  (repeat' (first|(refine OpP.add ?_ ?_;omega;conv=>whnf)|(refine OpP.nshr32 ?_;conv=>whnf)))
  rw[show (o++[t%4294967296]).length=i+1 by simp [p2]]
  refine AKM.back [(107069,107091)] (by (conv=>whnf);exact ⟨rfl,rfl,rfl⟩) (ih (i+1) (o++[t%4294967296]) (t/4294967296) (by omega) ⟨by omega,by simp;omega,p3.append (dig_one (by omega)),hc2,?_⟩)
  rw[val_snoc,p2,val_take_succ hd,Nat.pow_succ]
  rw[Nat.one_mul,Nat.one_mul]at hst
  exact hst
 obtain rfl:i=x.length:=by omega
 clear ih
 have hcb:c<4294967296:=by omega
 have hOD:Dig (o++[c]):=p3.append (dig_one hcb)
 have hOv:val (o++[c])=X*2^s:=by
  rw[val_snoc,p2,p5,val_take_all (Nat.le_refl _),v1]
 have hOl:(o++[c]).length=x.length+1:=by simp [p2]
 (repeat' (first|(refine CmpP.go (fun hc => ?_) (fun hc => ?_)<;>first|(exfalso;omega)|(conv=>whnf))|(refine ConvP.n32i ?_ ?_;omega;conv=>whnf)|(refine LenP.go ?_;conv=>whnf)|(refine RowP.e1 ?_;conv=>whnf)|(refine AKM.x ?_;conv=>whnf)))
 refine AppR.one (enc:=e32) c rfl p2.symm rfl (by omega) (by omega) ?_
 (conv=>whnf)
 rw[hOl]
 generalize o++[c]=O at *
 rw[←hOl]
 clear p3 p4 p5
 refine CalP.walk 1000 N.ref01_Trim rfl rfl ?_
 (repeat' (refine AKM.x ?_;conv=>whnf))
 refine AKM.loop1 (fun n=>n) (fun (n:Nat)=>n≤(O).length ∧ ∀ i,n≤i→i<(O).length→(O)[i]? = some 0) (fun n=>[(3,.int .i64 n)]) (fun _=>[]) [] [] (O).length (by (conv=>whnf);exact ⟨rfl,rfl,rfl⟩) ⟨Nat.le_refl _,fun i h1 h2=>by omega⟩ ?_
 intro n ⟨p1,p2⟩ ih
 rcases n with _|n
 ·(repeat' (first|(refine CmpP.go (fun hc => ?_) (fun hc => ?_)<;>first|(exfalso;omega)|(conv=>whnf))|(refine AKM.x ?_;conv=>whnf)))
  refine Bds.up 0 (by omega) (by omega) ?_
  (conv=>whnf)
  have hct:=cut_found (l:=O) (by assumption) p1 p2 (Or.inl rfl)
  have hcl:(List.take 0 O).length≤(O).length:=by rw[List.length_take];omega
  clear ih p2
  refine RowP.part (enc:=e32) (by omega) ?_
  (conv=>whnf)
  rw[List.drop_zero,Nat.sub_zero]
  generalize hT0:List.take 0 O=T0 at *
  refine AppN.many (enc:=e32) (fun _=>rfl) (by omega) (by omega) ?_
  (conv=>whnf)
  refine ⟨rfl,_,rfl,?_⟩
  (conv=>whnf)
  (refine ⟨rfl,_,rfl,?_⟩;(conv=>whnf);(repeat' (first|(refine RowP.e1 ?_;conv=>whnf)|(refine CallP.go (hsv _) ?_;conv=>whnf)));refine AppR.one (enc:=e32) 0 rfl rfl rfl (by omega) (by omega) ?_;(conv=>whnf);rw[hOv]at hct;rw[hct];exact AKM.back [] (by (conv=>whnf);exact ⟨rfl,rfl,rfl⟩) (dm_main N (x:=x) (X:=X) (Y:=Y) (s:=s) (u:=dg (X*2^s)++[0]) (y:=dg (Y*2^s)) h0 hs31 ((dig_dg _).append (dig_one (by omega))) (by rw[val_snoc,val_dg,Nat.mul_zero,Nat.add_zero]) (by simp) (by simp;omega) (dig_dg _) (val_dg _) (by omega) (by rw[val_dg,hvl];exact n2)))
 ·have e1:((n+1:Nat):Int)-1=n:=by omega
  (repeat' (first|(refine CmpP.go (fun hc => ?_) (fun hc => ?_)<;>first|(exfalso;omega)|(conv=>whnf))|(refine Req.go ?_ ?_;omega;conv=>whnf)|(refine OpP.sub ?_ ?_;omega;conv=>whnf)|(refine LdR.digi (by assumption) ?_ (fun v hv hb => ?_);omega;conv=>whnf)|(refine AKM.x ?_;conv=>whnf)))
  ·rw[e1]
   exact AKM.back [] (by (conv=>whnf);exact ⟨rfl,rfl,rfl⟩) (ih n (by omega) ⟨by omega,fun i h1 h2=>by
    by_cases h:i=n
    ·subst h
     rw[e1,Int.toNat_natCast]at hv
     rw[hv];congr 1;omega
    ·exact p2 i (by omega) h2⟩)
  ·refine Bds.up (n+1) (by omega) (by omega) ?_
   (conv=>whnf)
   rw[e1,Int.toNat_natCast]at hv
   have hct:=cut_found (l:=O) (by assumption) p1 p2 (Or.inr ⟨_,hv,by omega⟩)
   have hcl:(List.take (n+1) O).length≤(O).length:=by rw[List.length_take];omega
   clear ih p2 hv
   (rw[apX_rw (l:=O)];rotate_left;exact rfl;exact rfl);(conv=>whnf)
   refine RowP.part (enc:=e32) (by omega) ?_
   (conv=>whnf)
   rw[List.drop_zero,Nat.sub_zero]
   generalize hT0:List.take (n+1) O=T0 at *
   refine AppN.many (enc:=e32) (fun _=>rfl) (by omega) (by omega) ?_
   (conv=>whnf)
   refine ⟨rfl,_,rfl,?_⟩
   (conv=>whnf)
   (refine ⟨rfl,_,rfl,?_⟩;(conv=>whnf);(repeat' (first|(refine RowP.e1 ?_;conv=>whnf)|(refine CallP.go (hsv _) ?_;conv=>whnf)));refine AppR.one (enc:=e32) 0 rfl rfl rfl (by omega) (by omega) ?_;(conv=>whnf);rw[hOv]at hct;rw[hct];exact AKM.back [] (by (conv=>whnf);exact ⟨rfl,rfl,rfl⟩) (dm_main N (x:=x) (X:=X) (Y:=Y) (s:=s) (u:=dg (X*2^s)++[0]) (y:=dg (Y*2^s)) h0 hs31 ((dig_dg _).append (dig_one (by omega))) (by rw[val_snoc,val_dg,Nat.mul_zero,Nat.add_zero]) (by simp) (by simp;omega) (dig_dg _) (val_dg _) (by omega) (by rw[val_dg,hvl];exact n2)))
theorem ev_r1_Gcd (N:RefGLib L) (a b:List Nat) (q1 q2:Bool) (hA:Dig a) (hB:Dig b) (la:a.length≤274877906944) (lb:b.length≤274877906944) :
  Ev L 110 [.sl q1 (a.map e32),.sl q2 (b.map e32)] (.sl false ((dg (Nat.gcd (val a) (val b))).map e32)):=by
 have t1:=fun q=>ev_r1_Trim N a q hA (by omega)
 have t2:=fun q=>ev_r1_Trim N b q hB (by omega)
 have l1:=dg_len_val hA
 have l2:=dg_len_val hB
 generalize val a=X at *
 generalize val b=Y at *
 refine Ev.x N.ref01_Gcd rfl rfl ?_
 (repeat' (first|(refine AKM.x ?_;conv=>whnf)|(refine CallP.go (t1 _) ?_;conv=>whnf)|(refine CallP.go (t2 _) ?_;conv=>whnf)))
 refine AKM.loop2 (fun _ y=>y) (fun (x y:Nat)=>(dg x).length≤274877906944∧(dg y).length≤274877906944∧Nat.gcd x y=Nat.gcd X Y) (fun x y=>[(0,.sl false ((dg x).map e32)),(1,.sl false ((dg y).map e32))]) (fun _ _=>[]) [] [] X Y (by (conv=>whnf);exact ⟨rfl,rfl,rfl⟩) ⟨by omega,by omega,rfl⟩ ?_
 intro x y ⟨p1,p2,p3⟩ ih
 rw[←p3]
 by_cases h0:y=0
 ·subst h0
  have hl0:(dg 0).length=0:=by rw[dg_zero];rfl
  clear ih
  rw[Nat.gcd_zero_right]
  (repeat' (first|(refine CmpP.go (fun hc => ?_) (fun hc => ?_)<;>first|(exfalso;omega)|(conv=>whnf))|(refine LenP.go ?_;conv=>whnf)|(refine AKM.x ?_;conv=>whnf)))
  exact FinP.go rfl (cl_sl _)
 ·have hp:=dg_len_pos h0
  have hD:=fun q q'=>ev_r1_DivMod N (dg x) (dg y) q q' (dig_dg _) (dig_dg _) p1 p2 (by rw[val_dg];exact h0)
  rw[val_dg,val_dg]at hD
  have hlt:x%y<y:=Nat.mod_lt _ (by omega)
  have hml:=dg_len_mono (Nat.le_of_lt hlt)
  (repeat' (first|(refine CmpP.go (fun hc => ?_) (fun hc => ?_)<;>first|(exfalso;omega)|(conv=>whnf))|(refine LenP.go ?_;conv=>whnf)|(refine AKM.x ?_;conv=>whnf)|(refine CallP.go (hD _ _) ?_;conv=>whnf)))
  rw[p3]
  exact AKM.back [] (by (conv=>whnf);exact ⟨rfl,rfl,rfl⟩) (ih y (x%y) hlt ⟨p2,by omega,by rw[gcd_mod_step];exact p3⟩)
end Go.Eng

namespace Go.Eng
open F
attribute [local irreducible] AKM CmpP Req OpP UnP ConvP RdP LdR StR MkR LenP AppR AppN CpyR RowP SnR Bds SlS CallP CalP FinP pw LdM GetM SetM PutM MkM AppM SnM FlP CallR
set_option maxHeartbeats 4000000
variable {L:Lib}
theorem ev_r2_Trim (N:RefGLib L) (n q:Bool) (m:List Nat) (hm:Sm 274877906944 m):Ev L 111 [.agg (rZ q n m)] (.agg (eZ (zv n m))):=by
 have hT:=fun q=>ev_r1_Trim N m q hm.1 (by have:=hm.2;omega)
 have hz:=dg_len0 (val m)
 have ha:=zv_abs n m
 refine Ev.x N.ref02_Trim rfl rfl ?_
 cases n
 ·rw[zv_F]at *
  (repeat' (first|(refine AKM.x ?_;conv=>whnf)|(refine CallP.go (hT _) ?_;conv=>whnf)))
  exact FinP.go (agg_eZ ha.symm (sgn_F (by omega))) (cl_eZ _)
 ·rw[zv_T]at *
  (repeat' (first|(refine CmpP.go (fun hc => ?_) (fun hc => ?_)<;>first|(exfalso;omega)|(conv=>whnf))|(refine LenP.go ?_;conv=>whnf)|(refine AKM.x ?_;conv=>whnf)|(refine CallP.go (hT _) ?_;conv=>whnf)))
  ·exact FinP.go (agg_eZ ha.symm (sgn_T (by omega))) (cl_eZ _)
  ·exact FinP.go (agg_eZ ha.symm (sgn_F (by omega))) (cl_eZ _)
theorem ev_r2_Sign (N:RefGLib L) (n q:Bool) (m:List Nat) (hm:Sm 274877906944 m):Ev L 113 [.agg (rZ q n m)] (.int .i64 (sgn (zv n m))):=by
 have hT:=fun q=>ev_r2_Trim N n q m hm
 generalize zv n m=z at *
 have hz:=dg_len0 z.natAbs
 refine Ev.x N.ref02_Sign rfl rfl ?_
 (repeat' (first|(refine CmpP.go (fun hc => ?_) (fun hc => ?_)<;>first|(exfalso;omega)|(conv=>whnf))|(refine LenP.go ?_;conv=>whnf)|(refine AKM.x ?_;conv=>whnf)|(refine CallP.go (hT _) ?_;conv=>whnf)))
 ·exact FinP.i (sgn_zero (by omega))
 ·cases hd:decide (z<0)
  ·(conv=>whnf)
   exact FinP.i (sgn_pos (by have:=of_decide_eq_false hd;omega))
  ·(conv=>whnf)
   exact FinP.i (sgn_neg (of_decide_eq_true hd))
theorem ev_r2_Neg (N:RefGLib L) (n q:Bool) (m:List Nat) (hm:Sm 274877906944 m):Ev L 114 [.agg (rZ q n m)] (.agg (eZ (-(zv n m)))):=by
 have hT:=fun q=>ev_r2_Trim N n q m hm
 generalize zv n m=z at *
 have hz:=dg_len0 z.natAbs
 refine Ev.x N.ref02_Neg rfl rfl ?_
 (repeat' (first|(refine AKM.x ?_;conv=>whnf)|(refine CallP.go (hT _) ?_;conv=>whnf)))
 cases hd:decide (z<0)
 ·have h1:=of_decide_eq_false hd
  (conv=>whnf)
  (repeat' (first|(refine CmpP.go (fun hc => ?_) (fun hc => ?_)<;>first|(exfalso;omega)|(conv=>whnf))|(refine LenP.go ?_;conv=>whnf)))
  ·exact FinP.go (agg_eZ (by omega) (sgn_T (by omega))) (cl_eZ _)
  ·exact FinP.go (agg_eZ (by omega) (sgn_F (by omega))) (cl_eZ _)
 ·have h1:=of_decide_eq_true hd
  (conv=>whnf)
  skip
  exact FinP.go (agg_eZ (by omega) (sgn_F (by omega))) (cl_eZ _)
theorem ev_r2_Mul (N:RefGLib L) (n1 n2 q1 q2:Bool) (a b:List Nat) (ha:Dig a) (hb:Dig b) (hl:a.length+b.length≤274877906944):Ev L 118 [.agg (rZ q1 n1 a),.agg (rZ q2 n2 b)] (.agg (eZ (zv n1 a*zv n2 b))):=by
 have h1:=fun q q'=>ev_r1_Mul N a b q q' ha hb (by omega)
 have sa:Sm a.length a:=⟨ha,Nat.le_refl _⟩
 have sb:Sm b.length b:=⟨hb,Nat.le_refl _⟩
 have hT:=fun n q=>ev_r2_Trim N n q (dg (val a*val b)) ((sa.mul sb rfl).le hl)
 have e : ∀ n,zv n (dg (val a*val b))=bif n then -((val a*val b:Nat):Int) else ((val a*val b:Nat):Int):=fun n=>by unfold zv;rw[val_dg]
 have e2:zv n1 a*zv n2 b=zv (n1 != n2) (dg (val a*val b)):=by
  rw[e]
  cases n1<;>cases n2<;>simp [zv_F,zv_T,Int.mul_neg,Int.neg_mul]
 rw[e2]
 refine Ev.x N.ref02_Mul rfl rfl ?_
 cases n1<;>cases n2
 all_goals
  (repeat' (first|(refine AKM.x ?_;conv=>whnf)|(refine CallP.go (h1 _ _) ?_;conv=>whnf)|(refine CallP.go (hT _ _) ?_;conv=>whnf)))
  exact FinP.go rfl (cl_eZ _)
theorem ev_r2_Add (N:RefGLib L) (n1 n2 q1 q2:Bool) (a b:List Nat) (ha:Sm 274877906943 a) (hb:Sm 274877906943 b):Ev L 115 [.agg (rZ q1 n1 a),.agg (rZ q2 n2 b)] (.agg (eZ (zv n1 a+zv n2 b))):=by
 have t1:=fun q=>ev_r2_Trim N n1 q a (ha.le (by omega))
 have t2:=fun q=>ev_r2_Trim N n2 q b (hb.le (by omega))
 have s1:Sm 274877906943 (dg (zv n1 a).natAbs):=by rw[zv_abs];exact ha.nrm
 have s2:Sm 274877906943 (dg (zv n2 b).natAbs):=by rw[zv_abs];exact hb.nrm
 generalize zv n1 a=x at *
 generalize zv n2 b=y at *
 have h1:=fun q q'=>ev_r1_Add N (dg x.natAbs) (dg y.natAbs) q q' s1.1 s2.1 (by have:=s1.2;omega) (by have:=s2.2;omega)
 have h2:=fun q q'=>ev_r1_Sub N (dg x.natAbs) (dg y.natAbs) q q' s1.1 s2.1 (by have:=s1.2;omega) (by have:=s2.2;omega)
 have h3:=fun q q'=>ev_r1_Sub N (dg y.natAbs) (dg x.natAbs) q q' s2.1 s1.1 (by have:=s2.2;omega) (by have:=s1.2;omega)
 have hcmp:=fun q q'=>ev_r1_Compare N (dg x.natAbs) (dg y.natAbs) q q' s1.1 s2.1 (by have:=s1.2;omega) (by have:=s2.2;omega)
 rw[val_dg,val_dg]at h1 h2 h3 hcmp
 have u1:=fun n q=>ev_r2_Trim N n q (dg (x.natAbs+y.natAbs)) (s1.add s2 (by rw[val_dg,val_dg];omega))
 have u2:=fun n q=>ev_r2_Trim N n q (dg (x.natAbs-y.natAbs)) ((s1.low (V:=x.natAbs-y.natAbs) (by rw[val_dg];omega)).le (by omega))
 have u3:=fun n q=>ev_r2_Trim N n q (dg (y.natAbs-x.natAbs)) ((s2.low (V:=y.natAbs-x.natAbs) (by rw[val_dg];omega)).le (by omega))
 have e : ∀ n V,zv n (dg V)=bif n then -(V:Int) else (V:Int):=fun n V=>by unfold zv;rw[val_dg]
 refine Ev.x N.ref02_Add rfl rfl ?_
 (repeat' (first|(refine AKM.x ?_;conv=>whnf)|(refine CallP.go (t1 _) ?_;conv=>whnf)|(refine CallP.go (t2 _) ?_;conv=>whnf)))
 cases hx:decide (x<0)<;>cases hy:decide (y<0)
 ·have g1:=of_decide_eq_false hx
  have g2:=of_decide_eq_false hy
  have hz:x+y=zv false (dg (x.natAbs+y.natAbs)):=by rw[e];simp only[cond_true,cond_false];omega
  rw[hz]
  (conv=>whnf)
  (repeat' (first|(refine CallP.go (h1 _ _) ?_;conv=>whnf)|(refine CallP.go (u1 _ _) ?_;conv=>whnf)))
  exact FinP.go rfl (cl_eZ _)
 ·have g1:=of_decide_eq_false hx
  have g2:=of_decide_eq_true hy
  by_cases hlt:x.natAbs<y.natAbs
  ·have hz:x+y=zv true (dg (y.natAbs-x.natAbs)):=by rw[e];simp only[cond_true,cond_false];omega
   rw[hz]
   rw[←cmpS_lt (by omega)]at hcmp
   (conv=>whnf)
   (repeat' (first|(refine CmpP.go (fun hc => ?_) (fun hc => ?_)<;>first|(exfalso;omega)|(conv=>whnf))|(refine CallP.go (hcmp _ _) ?_;conv=>whnf)|(refine CallP.go (h3 _ _) ?_;conv=>whnf)|(refine CallP.go (u3 _ _) ?_;conv=>whnf)))
   exact FinP.go rfl (cl_eZ _)
  ·have hz:x+y=zv false (dg (x.natAbs-y.natAbs)):=by rw[e];simp only[cond_true,cond_false];omega
   rw[hz]
   have hge:=cmpS_ge (show y.natAbs≤x.natAbs by omega)
   generalize cmpS (x.natAbs:Nat) (y.natAbs:Nat)=cm at *
   (conv=>whnf)
   (repeat' (first|(refine CmpP.go (fun hc => ?_) (fun hc => ?_)<;>first|(exfalso;omega)|(conv=>whnf))|(refine CallP.go (hcmp _ _) ?_;conv=>whnf)|(refine CallP.go (h2 _ _) ?_;conv=>whnf)|(refine CallP.go (u2 _ _) ?_;conv=>whnf)))
   exact FinP.go rfl (cl_eZ _)
 ·have g1:=of_decide_eq_true hx
  have g2:=of_decide_eq_false hy
  by_cases hlt:x.natAbs<y.natAbs
  ·have hz:x+y=zv false (dg (y.natAbs-x.natAbs)):=by rw[e];simp only[cond_true,cond_false];omega
   rw[hz]
   rw[←cmpS_lt (by omega)]at hcmp
   (conv=>whnf)
   (repeat' (first|(refine CmpP.go (fun hc => ?_) (fun hc => ?_)<;>first|(exfalso;omega)|(conv=>whnf))|(refine CallP.go (hcmp _ _) ?_;conv=>whnf)|(refine CallP.go (h3 _ _) ?_;conv=>whnf)|(refine CallP.go (u3 _ _) ?_;conv=>whnf)))
   exact FinP.go rfl (cl_eZ _)
  ·have hz:x+y=zv true (dg (x.natAbs-y.natAbs)):=by rw[e];simp only[cond_true,cond_false];omega
   rw[hz]
   have hge:=cmpS_ge (show y.natAbs≤x.natAbs by omega)
   generalize cmpS (x.natAbs:Nat) (y.natAbs:Nat)=cm at *
   (conv=>whnf)
   (repeat' (first|(refine CmpP.go (fun hc => ?_) (fun hc => ?_)<;>first|(exfalso;omega)|(conv=>whnf))|(refine CallP.go (hcmp _ _) ?_;conv=>whnf)|(refine CallP.go (h2 _ _) ?_;conv=>whnf)|(refine CallP.go (u2 _ _) ?_;conv=>whnf)))
   exact FinP.go rfl (cl_eZ _)
 ·have g1:=of_decide_eq_true hx
  have g2:=of_decide_eq_true hy
  have hz:x+y=zv true (dg (x.natAbs+y.natAbs)):=by rw[e];simp only[cond_true,cond_false];omega
  rw[hz]
  (conv=>whnf)
  (repeat' (first|(refine CallP.go (h1 _ _) ?_;conv=>whnf)|(refine CallP.go (u1 _ _) ?_;conv=>whnf)))
  exact FinP.go rfl (cl_eZ _)
theorem ev_r2_Sub (N:RefGLib L) (n1 n2 q1 q2:Bool) (a b:List Nat) (ha:Sm 274877906943 a) (hb:Sm 274877906943 b):Ev L 116 [.agg (rZ q1 n1 a),.agg (rZ q2 n2 b)] (.agg (eZ (zv n1 a-zv n2 b))):=by
 have t2:=fun q=>ev_r2_Neg N n2 q b (hb.le (by omega))
 have s2:Sm 274877906943 (dg (-(zv n2 b)).natAbs):=by rw[Int.natAbs_neg,zv_abs];exact hb.nrm
 have h1:=fun q q'=>ev_r2_Add N n1 (decide (-(zv n2 b)<0)) q q' a (dg (-(zv n2 b)).natAbs) ha s2
 rw[zv_of,←Int.sub_eq_add_neg]at h1
 refine Ev.x N.ref02_Sub rfl rfl ?_
 (repeat' (first|(refine AKM.x ?_;conv=>whnf)|(refine CallP.go (t2 _) ?_;conv=>whnf)|(refine CallP.go (h1 _ _) ?_;conv=>whnf)))
 exact FinP.go rfl (cl_eZ _)
theorem ev_r2_Compare (N:RefGLib L) (n1 n2 q1 q2:Bool) (a b:List Nat) (ha:Sm 274877906943 a) (hb:Sm 274877906943 b):Ev L 117 [.agg (rZ q1 n1 a),.agg (rZ q2 n2 b)] (.int .i64 (sgn (zv n1 a-zv n2 b))):=by
 have h1:=fun q q'=>ev_r2_Sub N n1 n2 q q' a b ha hb
 have s1:Sm 274877906943 (dg (zv n1 a).natAbs):=by rw[zv_abs];exact ha.nrm
 have s2:Sm 274877906943 (dg (zv n2 b).natAbs):=by rw[zv_abs];exact hb.nrm
 have s3:Sm 274877906944 (dg (zv n1 a-zv n2 b).natAbs):=s1.add s2 (by rw[val_dg,val_dg];omega)
 have h2:=fun q=>ev_r2_Sign N (decide (zv n1 a-zv n2 b<0)) q (dg (zv n1 a-zv n2 b).natAbs) s3
 rw[zv_of]at h2
 refine Ev.x N.ref02_Compare rfl rfl ?_
 (repeat' (first|(refine AKM.x ?_;conv=>whnf)|(refine CallP.go (h1 _ _) ?_;conv=>whnf)|(refine CallP.go (h2 _) ?_;conv=>whnf)))
 exact FinP.i rfl
theorem ev_r2_Of (N:RefGLib L) (z:Int) (hz : -9223372036854775808≤z∧z≤9223372036854775807):Ev L 112 [.int .i64 z] (.agg (eZ z)):=by
 have two : ∀ k:Nat,k<18446744073709551616 → ∀ n q,Ev L 111 [.agg [.bool n,.sl q [[.int .u32 ((k%4294967296:Nat):Int)],[.int .u32 ((k/4294967296:Nat):Int)]]]] (.agg (eZ (bif n then -(k:Int) else (k:Int)))):=fun k hk n q=>by
  have:=ev_r2_Trim N n q [k%4294967296,k/4294967296] ⟨(dg2 hk).2,by simp⟩
  unfold zv at this
  rw[val_two hk]at this
  exact this
 refine Ev.x N.ref02_Of rfl rfl ?_
 by_cases h0:0≤z
 ·obtain ⟨k,rfl⟩:=Int.eq_ofNat_of_zero_le h0
  have hT:=two k (by omega)
  (repeat' (first|(refine CmpP.go (fun hc => ?_) (fun hc => ?_)<;>first|(exfalso;omega)|(conv=>whnf))|(refine OpP.nshr32 ?_;conv=>whnf)|(refine ConvP.u64 ?_ ?_;omega;conv=>whnf)|(refine ConvP.n32i ?_ ?_;omega;conv=>whnf)|(refine ConvP.n32 ?_;conv=>whnf)|(refine SnR.e2 rfl rfl ?_;conv=>whnf)|(refine AKM.x ?_;conv=>whnf)))
  generalize k%4294967296=lo at *
  generalize k/4294967296=hi at *
  (repeat' (refine CallP.go (hT _ _) ?_;conv=>whnf))
  exact FinP.go rfl (cl_eZ _)
 ·obtain ⟨k,hk⟩:=Int.eq_ofNat_of_zero_le (show 0 ≤ -(z+1) by omega)
  have hz2:z = -((k+1:Nat):Int):=by omega
  have hT:=two (k+1) (by omega)
  (repeat' (first|(refine CmpP.go (fun hc => ?_) (fun hc => ?_)<;>first|(exfalso;omega)|(conv=>whnf))|(refine OpP.add ?_ ?_;omega;conv=>whnf)|(refine OpP.wadd ?_;conv=>whnf)|(refine UnP.neg ?_ ?_;omega;conv=>whnf)|(refine ConvP.u64 ?_ ?_;omega;conv=>whnf)|(refine AKM.x ?_;conv=>whnf)))
  rw[show IntKind.u64.wrap (-(z+1)+1)=((k+1:Nat):Int) by rw[IntWalk.u64_in _ (by omega)];omega]
  rw[hz2]
  generalize k+1=k1 at *
  (repeat' (first|(refine OpP.nshr32 ?_;conv=>whnf)|(refine ConvP.n32i ?_ ?_;omega;conv=>whnf)|(refine ConvP.n32 ?_;conv=>whnf)|(refine SnR.e2 rfl rfl ?_;conv=>whnf)))
  generalize k1%4294967296=lo at *
  generalize k1/4294967296=hi at *
  (repeat' (refine CallP.go (hT _ _) ?_;conv=>whnf))
  exact FinP.go rfl (cl_eZ _)
theorem ev_r2_Gcd (N:RefGLib L) (n1 n2 q1 q2:Bool) (a b:List Nat) (ha:Sm 274877906944 a) (hb:Sm 274877906944 b):Ev L 120 [.agg (rZ q1 n1 a),.agg (rZ q2 n2 b)] (.agg (eZ ((Nat.gcd (val a) (val b):Nat):Int))):=by
 have h1:=fun q q'=>ev_r1_Gcd N a b q q' ha.1 hb.1 ha.2 hb.2
 refine Ev.x N.ref02_Gcd rfl rfl ?_
 (repeat' (first|(refine AKM.x ?_;conv=>whnf)|(refine CallP.go (h1 _ _) ?_;conv=>whnf)))
 exact FinP.go (agg_eZ (by omega) (sgn_F (by omega))) (cl_eZ _)
theorem ediv_cases (n1 n2:Bool) (A B:Nat) (hB:B≠0):(bif n1 then -(A:Int) else (A:Int))/(bif n2 then -(B:Int) else (B:Int))=(bif n1 != n2 then -((if n1=true∧A%B≠0 then A/B+1 else A/B:Nat):Int) else ((if n1=true∧A%B≠0 then A/B+1 else A/B:Nat):Int)) ∧
  (bif n1 then -(A:Int) else (A:Int))%(bif n2 then -(B:Int) else (B:Int))=((if n1=true∧A%B≠0 then B-A%B else A%B:Nat):Int):=by
 have hBp:(0:Int)<B:=by omega
 have key : ∀ x:Int,x/(bif n2 then -(B:Int) else (B:Int))=(bif n2 then -(x/B) else x/B)∧x%(bif n2 then -(B:Int) else (B:Int))=x%B:=fun x=>by
  cases n2
  ·exact ⟨rfl,rfl⟩
  ·exact ⟨Int.ediv_neg x B,Int.emod_neg x B⟩
 rw[(key _).1,(key _).2]
 cases n1
 ·have h1:((A:Int))/B=((A/B:Nat):Int):=by simp
  have h2:((A:Int))%B=((A%B:Nat):Int):=by simp
  simp only[cond_false,h1,h2]
  cases n2<;>simp
 ·have hd:=Nat.div_add_mod A B
  have hlt:=Nat.mod_lt A (show B>0 by omega)
  by_cases h0:A%B=0
  ·have e : -(A:Int)=(B:Int)*(-((A/B:Nat):Int)):=by
    rw[h0,Nat.add_zero]at hd
    rw[Int.mul_neg,←Int.natCast_mul,hd]
   have h1 : -(A:Int)/B = -((A/B:Nat):Int):=by rw[e,Int.mul_ediv_cancel_left _ (by omega)]
   have h2 : -(A:Int)%B=0:=by rw[e,Int.mul_emod_right]
   simp only[cond_true,h1,h2,h0]
   cases n2<;>simp
  ·have e : -(A:Int)=(B:Int)*(-((A/B+1:Nat):Int))+((B-A%B:Nat):Int):=by
    have h3:(B:Int)*((A/B:Nat):Int)+((A%B:Nat):Int)=A:=by rw[←Int.natCast_mul,←Int.natCast_add,hd]
    rw[Int.mul_neg,Int.natCast_add,Int.mul_add]
    omega
   have h1 : -(A:Int)/B = -((A/B+1:Nat):Int):=by
    rw[e,Int.mul_add_ediv_left _ _ (by omega),Int.ediv_eq_zero_of_lt (by omega) (by omega),Int.add_zero]
   have h2 : -(A:Int)%B=((B-A%B:Nat):Int):=by
    rw[e,Int.mul_add_emod_self_left,Int.emod_eq_of_lt (by omega) (by omega)]
   simp only[cond_true,h1,h2]
   cases n2<;>simp [h0]
theorem ev_r2_Div (N:RefGLib L) (n1 n2 q1 q2:Bool) (a b:List Nat) (ha:Sm 274877906943 a) (hb:Sm 274877906943 b) (h0:zv n2 b≠0):Ev L 119 [.agg (rZ q1 n1 a),.agg (rZ q2 n2 b)] (.tup [.agg (eZ (zv n1 a/zv n2 b)),.agg (eZ (zv n1 a%zv n2 b)),.int .i64 0]):=by
 have t1:=fun q=>ev_r2_Trim N n1 q a (ha.le (by omega))
 have t2:=fun q=>ev_r2_Trim N n2 q b (hb.le (by omega))
 have s1:Sm 274877906943 (dg (zv n1 a).natAbs):=by rw[zv_abs];exact ha.nrm
 have s2:Sm 274877906943 (dg (zv n2 b).natAbs):=by rw[zv_abs];exact hb.nrm
 generalize zv n1 a=x at *
 generalize zv n2 b=y at *
 have hDM:=fun q q'=>ev_r1_DivMod N (dg x.natAbs) (dg y.natAbs) q q' s1.1 s2.1 (by have:=s1.2;omega) (by have:=s2.2;omega) (by rw[val_dg];omega)
 rw[val_dg,val_dg]at hDM
 obtain ⟨e1,e2⟩:=ediv_cases (decide (x<0)) (decide (y<0)) x.natAbs y.natAbs (by omega)
 have hx:(bif decide (x<0) then -(x.natAbs:Int) else (x.natAbs:Int))=x:=by have:=zv_of x;unfold zv at this;rw[val_dg]at this;exact this
 have hy:(bif decide (y<0) then -(y.natAbs:Int) else (y.natAbs:Int))=y:=by have:=zv_of y;unfold zv at this;rw[val_dg]at this;exact this
 rw[hx,hy]at e1 e2
 rw[e1,e2]
 have l1:=s1.2
 have l2:=s2.2
 have hq:Sm 274877906943 (dg (x.natAbs/y.natAbs)):=s1.low (by rw[val_dg];exact Nat.div_le_self _ _)
 have hr:Sm 274877906943 (dg (x.natAbs%y.natAbs)):=s2.low (by rw[val_dg];exact Nat.le_of_lt (Nat.mod_lt _ (by omega)))
 have hrz:=dg_len0 (x.natAbs%y.natAbs)
 have hone:Ev L 103 [.sl false ((dg (x.natAbs/y.natAbs)).map e32),.sl true [[.int .u32 1]]] (.sl false ((dg (x.natAbs/y.natAbs+1)).map e32)):=by
  have:=ev_r1_Add N (dg (x.natAbs/y.natAbs)) [1] false true (dig_dg _) (dig_one (by omega)) (by have:=hq.2;omega) (by simp)
  rw[val_dg,show val [1]=1 from rfl]at this
  exact this
 have hq1:Sm 274877906944 (dg (x.natAbs/y.natAbs+1)):=hq.add (b:=[1]) (sm_one (by omega) (by omega)) (by rw[val_dg];simp [val])
 have hsub:=fun q q'=>ev_r1_Sub N (dg y.natAbs) (dg (x.natAbs%y.natAbs)) q q' s2.1 hr.1 (by omega) (by have:=hr.2;omega)
 rw[val_dg,val_dg]at hsub
 have u1:=fun n q=>ev_r2_Trim N n q (dg (x.natAbs/y.natAbs)) (hq.le (by omega))
 have u2:=fun n q=>ev_r2_Trim N n q (dg (x.natAbs/y.natAbs+1)) hq1
 have ez : ∀ n V,zv n (dg V)=bif n then -(V:Int) else (V:Int):=fun n V=>by unfold zv;rw[val_dg]
 have fin : ∀ (z:Int) (V:Nat),FinP (.tup [.agg (eZ z),.agg [.bool false,.sl false ((dg V).map e32)],.int .i64 0]) (.tup [.agg (eZ z),.agg (eZ (V:Int)),.int .i64 0]):=fun z V=>by
  have e3:AV.agg (eZ (V:Int)) = .agg [.bool false,.sl false ((dg V).map e32)]:=(agg_eZ (by omega) (sgn_F (by omega))).symm
  rw[e3]
  refine FinP.go rfl ?_
  simp only[Clean,CleanL,and_true,true_and]
  exact ⟨cl_dig _,cl_dig _⟩
 clear e1 e2 hx hy
 generalize x.natAbs/y.natAbs=qq at *
 generalize x.natAbs%y.natAbs=rr at *
 refine Ev.x N.ref02_Div rfl rfl ?_
 (repeat' (first|(refine CmpP.go (fun hc => ?_) (fun hc => ?_)<;>first|(exfalso;omega)|(conv=>whnf))|(refine AKM.x ?_;conv=>whnf)|(refine CallP.go (t1 _) ?_;conv=>whnf)|(refine CallP.go (t2 _) ?_;conv=>whnf)|(refine CallP.go (hDM _ _) ?_;conv=>whnf)))
 generalize decide (x<0)=p at *
 generalize decide (y<0)=r at *
 cases p
 ·rw[if_neg (by simp),if_neg (by simp),←ez]
  cases r
  all_goals
   (conv=>whnf)
   (repeat' (refine CallP.go (u1 _ _) ?_;conv=>whnf))
   exact fin _ _
 ·by_cases hr0:rr=0
  ·rw[if_neg (by simp [hr0]),if_neg (by simp [hr0]),←ez]
   cases r
   all_goals
    (conv=>whnf)
    (repeat' (first|(refine CmpP.go (fun hc => ?_) (fun hc => ?_)<;>first|(exfalso;omega)|(conv=>whnf))|(refine LenP.go ?_;conv=>whnf)|(refine CallP.go (u1 _ _) ?_;conv=>whnf)))
    exact fin _ _
  ·rw[if_pos ⟨rfl,hr0⟩,if_pos ⟨rfl,hr0⟩,←ez]
   cases r
   all_goals
    (conv=>whnf)
    (repeat' (first|(refine CmpP.go (fun hc => ?_) (fun hc => ?_)<;>first|(exfalso;omega)|(conv=>whnf))|(refine LenP.go ?_;conv=>whnf)|(refine SnR.e1 rfl ?_;conv=>whnf)|(refine CallP.go (hone) ?_;conv=>whnf)|(refine CallP.go (hsub _ _) ?_;conv=>whnf)|(refine CallP.go (u2 _ _) ?_;conv=>whnf)))
    exact fin _ _
end Go.Eng

namespace Go.Eng
abbrev rQ (q1 q2 n:Bool) (m d:List Nat):List AV:=[.bool n,.sl q1 (m.map e32),.sl q2 (d.map e32)]
abbrev eQ (x:Rat):List AV:=rQ false false (decide (x.num<0)) (dg x.num.natAbs) (dg x.den)
def qv (n:Bool) (m d:List Nat):Rat:=mkRat (zv n m) (val d)
theorem qv_of (x:Rat):qv (decide (x.num<0)) (dg x.num.natAbs) (dg x.den)=x:=by
 unfold qv
 rw[zv_of,val_dg,Rat.mkRat_self]
theorem gcd_pos' {d:Nat} (z:Nat) (hd:d≠0):0<Nat.gcd d z:=Nat.gcd_pos_of_pos_left z (by omega)
theorem mk_parts {z:Int} {d:Nat} (hd:d≠0):(mkRat z d).num.natAbs=z.natAbs/Nat.gcd d z.natAbs∧(mkRat z d).den=d/Nat.gcd d z.natAbs∧decide ((mkRat z d).num<0)=decide (z<0):=by
 have hg:=gcd_pos' z.natAbs hd
 have h1:=Rat.num_mkRat z d
 have h2:=Rat.den_mkRat z d
 rw[if_neg hd]at h1 h2
 rw[h1,h2]
 obtain ⟨k,hk⟩:=Nat.gcd_dvd_right d z.natAbs
 generalize hG:Nat.gcd d z.natAbs=g at *
 have hz:z=(g:Int)*(z.sign*k):=by
  rw[←Int.mul_assoc,Int.mul_comm (g:Int),Int.mul_assoc,←Int.natCast_mul,←hk,Int.sign_mul_natAbs]
 have e1:z/(g:Int)=z.sign*k:=by
  rw[hz,Int.mul_ediv_cancel_left _ (by omega),←hz]
 refine ⟨?_,rfl,?_⟩
 ·rw[e1,Int.natAbs_mul,hk,Nat.mul_div_cancel_left _ hg]
  by_cases h0:z=0
  ·subst h0
   have:k=0:=by
    have h5:g*k=0:=hk.symm
    rcases Nat.mul_eq_zero.1 h5 with h|h
    ·omega
    ·exact h
   subst this;simp
  ·rw[Int.natAbs_sign_of_ne_zero h0,Nat.one_mul];simp
 ·congr 1
  rw[eq_iff_iff]
  rw[Int.ediv_lt_iff_lt_mul (by omega),Int.zero_mul]
theorem cl_eQ (x:Rat):Clean (.agg (eQ x)):=by
 simp only[Clean,CleanL,and_true,true_and]
 exact ⟨cl_dig _,cl_dig _⟩
theorem cl_agg4 (b w:Bool) (m d:List Nat):Clean (.agg [.bool b,.sl false (m.map e32),.sl false (d.map e32),.bool w]):=by
 simp only[Clean,CleanL,and_true,true_and]
 exact ⟨cl_dig _,cl_dig _⟩
theorem cl_agg2 (b:Bool) (m:List Nat):Clean (.agg [.bool b,.sl false (m.map e32)]):=by
 simp only[Clean,CleanL,and_true,true_and]
 exact cl_dig _
theorem cl_agg3 (b:Bool) (m d:List Nat):Clean (.agg [.bool b,.sl false (m.map e32),.sl false (d.map e32)]):=by
 simp only[Clean,CleanL,and_true,true_and]
 exact ⟨cl_dig _,cl_dig _⟩
theorem flat_dig (q:Bool) (l:List Nat):Flat1 (.sl q (l.map e32)):=by
 intro e he c hc
 obtain ⟨x,_,rfl⟩:=List.mem_map.1 he
 simp at hc
 subst hc
 rfl
theorem FlP.n4 {b w q1 q2:Bool} {m d:List Nat} {K:AV→Prop} (hk:K (.agg [.bool b,.sl true (m.map e32),.sl true (d.map e32),.bool w])):FlP (.agg [.bool b,.sl q1 (m.map e32),.sl q2 (d.map e32),.bool w]) K:=by
 refine ⟨fun c hc => ?_,hk⟩
 simp only[List.mem_cons,List.not_mem_nil,or_false]at hc
 rcases hc with rfl|rfl|rfl|rfl
 ·trivial
 ·exact flat_dig _ _
 ·exact flat_dig _ _
 ·trivial
theorem FlP.n3 {b q1 q2:Bool} {m d:List Nat} {K:AV→Prop} (hk:K (.agg [.bool b,.sl true (m.map e32),.sl true (d.map e32)])):FlP (.agg [.bool b,.sl q1 (m.map e32),.sl q2 (d.map e32)]) K:=by
 refine ⟨fun c hc => ?_,hk⟩
 simp only[List.mem_cons,List.not_mem_nil,or_false]at hc
 rcases hc with rfl|rfl|rfl
 ·trivial
 ·exact flat_dig _ _
 ·exact flat_dig _ _
theorem FlP.n2 {b q1:Bool} {m:List Nat} {K:AV→Prop} (hk:K (.agg [.bool b,.sl true (m.map e32)])):FlP (.agg [.bool b,.sl q1 (m.map e32)]) K:=by
 refine ⟨fun c hc => ?_,hk⟩
 simp only[List.mem_cons,List.not_mem_nil,or_false]at hc
 rcases hc with rfl|rfl
 ·trivial
 ·exact flat_dig _ _
theorem mk_add {a b:Int} {d e:Nat} (hd:d≠0) (he:e≠0):mkRat a d+mkRat b e=mkRat (a*e+b*d) (d*e):=Rat.mkRat_add_mkRat a b hd he
theorem mk_add_same {a b:Int} {d:Nat} (hd:d≠0):mkRat a d+mkRat b d=mkRat (a+b) d:=by
 rw[mk_add hd hd,←Int.add_mul,Rat.mkRat_mul_right hd]
theorem mk_mul (a b:Int) (d e:Nat):mkRat a d*mkRat b e=mkRat (a*b) (d*e):=Rat.mkRat_mul_mkRat a b d e
theorem mk_one (a:Int):mkRat a 1=(a:Rat):=by
 have h:=Rat.mkRat_self (a:Rat)
 rw[Rat.num_intCast,Rat.den_intCast]at h
 exact h
theorem mk_num_zero {z:Int} {d:Nat} (hd:d≠0):mkRat z d=0↔z=0:=Rat.mkRat_eq_zero hd
theorem mk_sgn {z:Int} {d:Nat} (hd:d≠0):sgn (mkRat z d).num=sgn z:=by
 obtain ⟨_,_,h⟩:=mk_parts (z:=z) hd
 have h0:(mkRat z d).num=0↔z=0:=by rw[Rat.num_eq_zero,mk_num_zero hd]
 have h1:(mkRat z d).num<0↔z<0:=by simpa using h
 unfold sgn
 by_cases a:z<0
 ·rw[if_pos a,if_pos (h1.2 a)]
 ·rw[if_neg a,if_neg (fun h=>a (h1.1 h))]
  by_cases b:z=0
  ·rw[if_neg (by omega),if_neg (by have:=h0.2 b;omega)]
  ·rw[if_pos (by omega),if_pos (by have:=mt h0.1 b;have:=mt h1.1 a;omega)]
theorem mk_div {a b:Int} {d e:Nat} (hd:d≠0) (he:e≠0) (hb:b≠0):mkRat a d/mkRat b e=mkRat (b.sign*(a*e)) (d*b.natAbs):=by
 have hbn:b.natAbs≠0:=by omega
 have h1:mkRat b e≠0:=fun h=>hb ((mk_num_zero he).1 h)
 have key:mkRat (b.sign*(a*e)) (d*b.natAbs)*mkRat b e=mkRat a d:=by
  rw[mk_mul]
  have e1:b.sign*(a*e)*b=a*((b.natAbs*e:Nat):Int):=by
   have:=Int.sign_mul_self b
   rw[Int.natCast_mul,←this]
   grind
  rw[e1,show d*b.natAbs*e=d*(b.natAbs*e) by rw[Nat.mul_assoc]]
  exact Rat.mkRat_mul_right (Nat.mul_ne_zero hbn he)
 rw[←key,Rat.mul_div_cancel h1]
theorem zv_quot {x y:Int} (hy:y≠0):zv (decide (x<0) != decide (y<0)) (dg x.natAbs)=y.sign*x:=by
 unfold zv
 rw[val_dg]
 rcases Int.lt_or_gt_of_ne hy with h|h
 ·rw[Int.sign_eq_neg_one_of_neg h]
  by_cases hx:x<0
  ·simp [hx,h];omega
  ·simp [hx,h];omega
 ·rw[Int.sign_eq_one_of_pos h]
  by_cases hx:x<0
  ·simp [hx,show ¬ y<0 by omega];omega
  ·simp [hx,show ¬ y<0 by omega];omega
end Go.Eng

namespace Go.Eng
open F
attribute [local irreducible] AKM CmpP Req OpP UnP ConvP RdP LdR StR MkR LenP AppR AppN CpyR RowP SnR Bds SlS CallP CalP FinP pw LdM GetM SetM PutM MkM AppM SnM FlP CallR
set_option maxHeartbeats 4000000
variable {L:Lib}
theorem dg_one':dg 1=[1]:=by rw[dg_pos (by omega)];simp [dg_zero]
theorem agg_zeroQ:AV.agg [.bool false,.sl false [],.sl false [[.int .u32 1]]] = .agg (eQ 0):=by
 show _=AV.agg (rQ _ _ _ _ _)
 rw[Rat.zero_num,Rat.zero_den,dg_one',show (0:Int).natAbs=0 from rfl,dg_zero];rfl
theorem divInt_parts {x y:Int} (hy:y≠0):(Rat.divInt x y).num=(if y<0 then -(x/((Nat.gcd x.natAbs y.natAbs:Nat):Int)) else x/((Nat.gcd x.natAbs y.natAbs:Nat):Int))∧(Rat.divInt x y).den=(y/((Nat.gcd x.natAbs y.natAbs:Nat):Int)).natAbs:=by
 have h1:=Rat.num_divInt x y
 have h2:=Rat.den_divInt x y
 rw[if_neg hy]at h2
 have hg:Int.gcd y x=Nat.gcd x.natAbs y.natAbs:=by rw[Int.gcd,Nat.gcd_comm]
 rw[hg]at h1 h2
 have hgp:0<Nat.gcd x.natAbs y.natAbs:=Nat.gcd_pos_of_pos_right _ (by omega)
 have dx:((Nat.gcd x.natAbs y.natAbs:Nat):Int) ∣ x:=Int.ofNat_dvd_left.2 (Nat.gcd_dvd_left _ _)
 have dy:((Nat.gcd x.natAbs y.natAbs:Nat):Int) ∣ y:=Int.ofNat_dvd_left.2 (Nat.gcd_dvd_right _ _)
 generalize Nat.gcd x.natAbs y.natAbs=g at *
 rw[h1,h2]
 obtain ⟨u,rfl⟩:=dx
 obtain ⟨v,rfl⟩:=dy
 have hg0:(g:Int)≠0:=by omega
 refine ⟨?_,?_⟩
 ·rw[Int.mul_ediv_cancel_left _ hg0]
  split
  ·rename_i h
   rw[Int.sign_eq_neg_one_of_neg h,show -1*((g:Int)*u)=g*(-u) by rw[Int.mul_neg];omega,Int.mul_ediv_cancel_left _ hg0]
  ·rw[Int.sign_eq_one_of_pos (by omega),Int.one_mul,Int.mul_ediv_cancel_left _ hg0]
 ·rw[Int.mul_ediv_cancel_left _ hg0,Int.natAbs_mul,Int.natAbs_natCast,Nat.mul_div_cancel_left _ hgp]
theorem ev_reduce (N:RefGLib L) (n1 n2 q1 q2:Bool) (a b:List Nat) (ha:Sm 274877906943 a) (hb:Sm 274877906943 b):Ev L 121 [.agg (rZ q1 n1 a),.agg (rZ q2 n2 b)] (.agg (eQ (Rat.divInt (zv n1 a) (zv n2 b)))):=by
 have t1:=fun q=>ev_r2_Sign N n1 q a (ha.le (by omega))
 have t2:=fun q=>ev_r2_Sign N n2 q b (hb.le (by omega))
 by_cases h1:zv n1 a=0
 ·rw[h1,Rat.zero_divInt,←agg_zeroQ]
  rw[h1,←sgn_zero rfl]at t1
  refine Ev.x N.ref03_reduce rfl rfl ?_
  (repeat' (first|(refine CmpP.go (fun hc => ?_) (fun hc => ?_)<;>first|(exfalso;omega)|(conv=>whnf))|(refine SnR.e1 rfl ?_;conv=>whnf)|(refine AKM.x ?_;conv=>whnf)|(refine CallP.go (t1 _) ?_;conv=>whnf)))
  exact FinP.go rfl (cl_agg3 false [] [1])
 have s1:sgn (zv n1 a)≠0:=by unfold sgn;split<;>(try split)<;>omega
 by_cases h2:zv n2 b=0
 ·rw[h2,Rat.divInt_zero,←agg_zeroQ]
  rw[h2,←sgn_zero rfl]at t2
  generalize sgn (zv n1 a)=sg at *
  refine Ev.x N.ref03_reduce rfl rfl ?_
  (repeat' (first|(refine CmpP.go (fun hc => ?_) (fun hc => ?_)<;>first|(exfalso;omega)|(conv=>whnf))|(refine SnR.e1 rfl ?_;conv=>whnf)|(refine AKM.x ?_;conv=>whnf)|(refine CallP.go (t1 _) ?_;conv=>whnf)|(refine CallP.go (t2 _) ?_;conv=>whnf)))
  exact FinP.go rfl (cl_agg3 false [] [1])
 have s2:sgn (zv n2 b)≠0:=by unfold sgn;split<;>(try split)<;>omega
 obtain ⟨p1,p2⟩:=divInt_parts (x:=zv n1 a) h2
 have hG:=fun q q'=>ev_r2_Gcd N n1 n2 q q' a b (ha.le (by omega)) (hb.le (by omega))
 have hle:Nat.gcd (val a) (val b)≤val b:=Nat.gcd_le_right _ (by have:=zv_abs n2 b;omega)
 have hgp:0<Nat.gcd (val a) (val b):=Nat.gcd_pos_of_pos_right _ (by have:=zv_abs n2 b;omega)
 have sg:Sm 274877906943 (dg (Nat.gcd (val a) (val b))):=hb.low hle
 rw[zv_abs,zv_abs]at p1 p2
 have hgf:decide (((Nat.gcd (val a) (val b):Nat):Int)<0)=false:=by simp
 have sg':Sm 274877906943 (dg (((Nat.gcd (val a) (val b):Nat):Int)).natAbs):=by rw[Int.natAbs_natCast];exact sg
 have zg:zv (decide (((Nat.gcd (val a) (val b):Nat):Int)<0)) (dg (((Nat.gcd (val a) (val b):Nat):Int)).natAbs)=((Nat.gcd (val a) (val b):Nat):Int):=zv_of _
 have hD1:=fun q q'=>ev_r2_Div N n1 _ q q' a _ ha sg' (by rw[zg];omega)
 have hD2:=fun q q'=>ev_r2_Div N n2 _ q q' b _ hb sg' (by rw[zg];omega)
 rw[zg]at hD1 hD2
 have hnb:Sm 274877906943 (dg (zv n1 a/((Nat.gcd (val a) (val b):Nat):Int)).natAbs):=ha.low (by
  have:(zv n1 a/((Nat.gcd (val a) (val b):Nat):Int)).natAbs≤(zv n1 a).natAbs:=Int.natAbs_ediv_le_natAbs _ _
  rw[zv_abs]at this;exact this)
 have hg0:0<((Nat.gcd (val a) (val b):Nat):Int):=by omega
 generalize ((Nat.gcd (val a) (val b):Nat):Int)=g at *
 generalize zv n1 a=x at *
 generalize zv n2 b=y at *
 generalize sgn x=sx at *
 generalize sgn y=sy at *
 have hN:=fun q=>ev_r2_Neg N (decide (x/g<0)) q (dg (x/g).natAbs) (hnb.le (by omega))
 rw[zv_of]at hN
 have hyd:decide (y/g<0)=decide (y<0):=by
  congr 1
  rw[eq_iff_iff,Int.ediv_lt_iff_lt_mul (by omega),Int.zero_mul]
 refine Ev.x N.ref03_reduce rfl rfl ?_
 (repeat' (first|(refine CmpP.go (fun hc => ?_) (fun hc => ?_)<;>first|(exfalso;omega)|(conv=>whnf))|(refine AKM.x ?_;conv=>whnf)|(refine CallP.go (t1 _) ?_;conv=>whnf)|(refine CallP.go (t2 _) ?_;conv=>whnf)|(refine CallP.go (hG _ _) ?_;conv=>whnf)|(refine CallP.go (hD1 _ _) ?_;conv=>whnf)|(refine CallP.go (hD2 _ _) ?_;conv=>whnf)))
 cases hyn:decide (y/g<0)
 ·rw[hyn]at hyd
  rw[if_neg (of_decide_eq_false hyd.symm)]at p1
  (conv=>whnf)
  skip
  refine FinP.go ?_ (cl_eQ _)
  show _=AV.agg (rQ _ _ _ _ _)
  rw[p1,p2]
 ·rw[hyn]at hyd
  rw[if_pos (of_decide_eq_true hyd.symm)]at p1
  (conv=>whnf)
  (repeat' (refine CallP.go (hN _) ?_;conv=>whnf))
  refine FinP.go ?_ (cl_eQ _)
  show _=AV.agg (rQ _ _ _ _ _)
  rw[p1,p2]
theorem divInt_val {z:Int} {d:List Nat}:Rat.divInt z (zv false d)=mkRat z (val d):=by rw[zv_F,Rat.divInt_ofNat]
def PtIs (n:Bool) (m d:List Nat) (n':Bool) (m' d':List Nat) (k:Nat):Prop:=Sm k m'∧Sm k d'∧val d'≠0∧qv n m d=mkRat (zv n' m') (val d')
theorem cl_parts3 (n:Bool) (m d:List Nat):Clean (.tup [.agg (rZ false n m),.agg (rZ false false d)]):=by
 simp only[Clean,CleanL,and_true,true_and]
 exact ⟨cl_dig _,cl_dig _⟩
theorem ev_parts (N:RefGLib L) (n q:Bool) (m d:List Nat) (k:Nat) (hk:1≤k∧k≤274877906943) (hm:Sm k m) (hd:Sm k d) : ∃ n' m' d',Ev L 122 [.agg (rQ false q n m d)] (.tup [.agg (rZ false n' m'),.agg (rZ false false d')])∧PtIs n m d n' m' d' k:=by
 have t1:=fun q=>ev_r1_Trim N d q hd.1 (by have:=hd.2;omega)
 have hl:=dg_len0 (val d)
 by_cases h0:val d=0
 ·refine ⟨false,[],[1],?_,sm_nil _,sm_one hk.1 (by omega),by decide,by unfold qv;rw[h0,Rat.mkRat_zero,zv_nil,Rat.zero_mkRat]⟩
  refine Ev.x N.ref03_parts rfl rfl ?_
  (repeat' (first|(refine CmpP.go (fun hc => ?_) (fun hc => ?_)<;>first|(exfalso;omega)|(conv=>whnf))|(refine LenP.go ?_;conv=>whnf)|(refine SnR.e1 rfl ?_;conv=>whnf)|(refine AKM.x ?_;conv=>whnf)|(refine CallP.go (t1 _) ?_;conv=>whnf)))
  exact FinP.go rfl (cl_parts3 false [] [1])
 ·refine ⟨n,m,dg (val d),?_,hm,hd.nrm,by rw[val_dg];exact h0,by rw[val_dg];rfl⟩
  refine Ev.x N.ref03_parts rfl rfl ?_
  (repeat' (first|(refine CmpP.go (fun hc => ?_) (fun hc => ?_)<;>first|(exfalso;omega)|(conv=>whnf))|(refine LenP.go ?_;conv=>whnf)|(refine AKM.x ?_;conv=>whnf)|(refine CallP.go (t1 _) ?_;conv=>whnf)))
  exact FinP.go rfl (cl_parts3 _ _ _)
theorem ev_r3_Trim (N:RefGLib L) (n q:Bool) (m d:List Nat) (hm:Sm 274877906943 m) (hd:Sm 274877906943 d):Ev L 123 [.agg (rQ false q n m d)] (.agg (eQ (qv n m d))):=by
 obtain ⟨n',m',d',hp,s1,s2,s3,s4⟩:=ev_parts N n q m d 274877906943 (by omega) hm hd
 have hr:=fun q q'=>ev_reduce N n' false q q' m' d' s1 s2
 rw[divInt_val,←s4]at hr
 refine Ev.x N.ref03_Trim rfl rfl ?_
 (repeat' (first|(refine AKM.x ?_;conv=>whnf)|(refine CallP.go (hp) ?_;conv=>whnf)|(refine CallP.go (hr _ _) ?_;conv=>whnf)))
 exact FinP.go rfl (cl_eQ _)
theorem agg_whole' (z:Int):AV.agg [.bool (decide (z<0)),.sl false ((dg z.natAbs).map e32),.sl false [[.int .u32 1]]] = .agg (eQ (z:Rat)):=by
 show _=AV.agg (rQ _ _ _ _ _)
 rw[Rat.num_intCast,Rat.den_intCast,dg_one'];rfl
theorem ev_r3_Of (N:RefGLib L) (z:Int) (hz : -9223372036854775808≤z∧z≤9223372036854775807):Ev L 124 [.int .i64 z] (.agg (eQ (z:Rat))):=by
 have h1:=ev_r2_Of N z hz
 refine Ev.x N.ref03_Of rfl rfl ?_
 (repeat' (first|(refine SnR.e1 rfl ?_;conv=>whnf)|(refine AKM.x ?_;conv=>whnf)|(refine CallP.go (h1) ?_;conv=>whnf)))
 exact FinP.go (agg_whole' z) (cl_eQ _)
theorem sm_of {z:Int} (hz : -9223372036854775808≤z∧z≤9223372036854775808):Sm 2 (dg z.natAbs):=Sm.dg (by omega)
theorem ev_r3_Frac (N:RefGLib L) (x y:Int) (hx : -9223372036854775808≤x∧x≤9223372036854775807) (hy : -9223372036854775808≤y∧y≤9223372036854775807):Ev L 125 [.int .i64 x,.int .i64 y] (.agg (eQ (Rat.divInt x y))):=by
 have h1:=ev_r2_Of N x hx
 have h2:=ev_r2_Of N y hy
 have hr:=fun q q'=>ev_reduce N (decide (x<0)) (decide (y<0)) q q' _ _ ((sm_of (z:=x) (by omega)).le (by omega)) ((sm_of (z:=y) (by omega)).le (by omega))
 rw[zv_of,zv_of]at hr
 refine Ev.x N.ref03_Frac rfl rfl ?_
 (repeat' (first|(refine AKM.x ?_;conv=>whnf)|(refine CallP.go (h1) ?_;conv=>whnf)|(refine CallP.go (h2) ?_;conv=>whnf)|(refine CallP.go (hr _ _) ?_;conv=>whnf)))
 exact FinP.go rfl (cl_eQ _)
theorem sm_zmul' {k l:Nat} {n1 n2:Bool} {a b:List Nat} (ha:Sm k a) (hb:Sm l b):Sm (k+l) (dg (zv n1 a*zv n2 b).natAbs):=ha.mul hb (by rw[Int.natAbs_mul,zv_abs,zv_abs])
theorem sm_zadd' {k:Nat} {x y:Int} (ha:Sm k (dg x.natAbs)) (hb:Sm k (dg y.natAbs)):Sm (k+1) (dg (x+y).natAbs):=ha.add hb (by rw[val_dg,val_dg];omega)
theorem ev_r3_Add (N:RefGLib L) (k:Nat) (hk:1≤k∧k≤68719476736) (n1 n2 q2 q4:Bool) (m1 d1 m2 d2:List Nat) (hm1:Sm k m1) (hd1:Sm k d1) (hm2:Sm k m2) (hd2:Sm k d2) :
  Ev L 126 [.agg (rQ false q2 n1 m1 d1),.agg (rQ false q4 n2 m2 d2)] (.agg (eQ (qv n1 m1 d1+qv n2 m2 d2))):=by
 obtain ⟨a1,a2,a3,hr1,s1,s2,s3,s5⟩:=ev_parts N n1 q2 m1 d1 k (by omega) hm1 hd1
 obtain ⟨b1,b2,b3,hr2,t1,t2,t3,t5⟩:=ev_parts N n2 q4 m2 d2 k (by omega) hm2 hd2
 have l1:=s1.2
 have l2:=s2.2
 have l3:=t1.2
 have l4:=t2.2
 rw[s5,t5,mk_add s3 t3,←zv_F b3,←zv_F a3]
 have hM1:=fun q q'=>ev_r2_Mul N a1 false q q' a2 b3 s1.1 t2.1 (by omega)
 have hM2:=fun q q'=>ev_r2_Mul N b1 false q q' b2 a3 t1.1 s2.1 (by omega)
 have hM3:=fun q q'=>ev_r2_Mul N false false q q' a3 b3 s2.1 t2.1 (by omega)
 have g1:Sm (k+k) (dg (zv a1 a2*zv false b3).natAbs):=sm_zmul' s1 t2
 have g2:Sm (k+k) (dg (zv b1 b2*zv false a3).natAbs):=sm_zmul' t1 s2
 have g3:=sm_zadd' g1 g2
 have g4:Sm (k+k) (dg (zv false a3*zv false b3).natAbs):=sm_zmul' s2 t2
 have hA:=fun q q'=>ev_r2_Add N (decide (zv a1 a2*zv false b3<0)) (decide (zv b1 b2*zv false a3<0)) q q' _ _ (g1.le (by omega)) (g2.le (by omega))
 rw[zv_of,zv_of]at hA
 have hR:=fun q q'=>ev_reduce N (decide (zv a1 a2*zv false b3+zv b1 b2*zv false a3<0)) (decide (zv false a3*zv false b3<0)) q q' _ _ (g3.le (by omega)) (g4.le (by omega))
 rw[zv_of,zv_of,show zv false a3*zv false b3=((val a3*val b3:Nat):Int) by rw[zv_F,zv_F];simp,Rat.divInt_ofNat]at hR
 rw[show zv false a3*zv false b3=((val a3*val b3:Nat):Int) by rw[zv_F,zv_F];simp]at hM3
 refine Ev.x N.ref03_Add rfl rfl ?_
 (repeat' (first|(refine AKM.x ?_;conv=>whnf)|(refine CallP.go (hr1) ?_;conv=>whnf)|(refine CallP.go (hr2) ?_;conv=>whnf)|(refine CallP.go (hM1 _ _) ?_;conv=>whnf)|(refine CallP.go (hM2 _ _) ?_;conv=>whnf)|(refine CallP.go (hA _ _) ?_;conv=>whnf)|(refine CallP.go (hM3 _ _) ?_;conv=>whnf)|(refine CallP.go (hR _ _) ?_;conv=>whnf)))
 exact FinP.go rfl (cl_eQ _)
theorem mk_cmp {a b:Int} {d e:Nat} (hd:d≠0) (he:e≠0):sgn (a*e-b*d)=sgn (mkRat a d-mkRat b e).num:=by
 have h:mkRat a d-mkRat b e=mkRat (a*e-b*d) (d*e):=by
  rw[Rat.sub_eq_add_neg,Rat.neg_mkRat,mk_add hd he,Int.neg_mul,←Int.sub_eq_add_neg]
 rw[h,mk_sgn (Nat.mul_ne_zero hd he)]
theorem ev_r3_Compare (N:RefGLib L) (k:Nat) (hk:1≤k∧k≤68719476736) (n1 n2 q2 q4:Bool) (m1 d1 m2 d2:List Nat) (hm1:Sm k m1) (hd1:Sm k d1) (hm2:Sm k m2) (hd2:Sm k d2) :
  Ev L 127 [.agg (rQ false q2 n1 m1 d1),.agg (rQ false q4 n2 m2 d2)] (.int .i64 (sgn (qv n1 m1 d1-qv n2 m2 d2).num)):=by
 obtain ⟨a1,a2,a3,hr1,s1,s2,s3,s5⟩:=ev_parts N n1 q2 m1 d1 k (by omega) hm1 hd1
 obtain ⟨b1,b2,b3,hr2,t1,t2,t3,t5⟩:=ev_parts N n2 q4 m2 d2 k (by omega) hm2 hd2
 have l1:=s1.2
 have l2:=s2.2
 have l3:=t1.2
 have l4:=t2.2
 rw[s5,t5,←mk_cmp s3 t3,←zv_F b3,←zv_F a3]
 have hM1:=fun q q'=>ev_r2_Mul N a1 false q q' a2 b3 s1.1 t2.1 (by omega)
 have hM2:=fun q q'=>ev_r2_Mul N b1 false q q' b2 a3 t1.1 s2.1 (by omega)
 have g1:Sm (k+k) (dg (zv a1 a2*zv false b3).natAbs):=sm_zmul' s1 t2
 have g2:Sm (k+k) (dg (zv b1 b2*zv false a3).natAbs):=sm_zmul' t1 s2
 have hC:=fun q q'=>ev_r2_Compare N (decide (zv a1 a2*zv false b3<0)) (decide (zv b1 b2*zv false a3<0)) q q' _ _ (g1.le (by omega)) (g2.le (by omega))
 rw[zv_of,zv_of]at hC
 refine Ev.x N.ref03_Compare rfl rfl ?_
 (repeat' (first|(refine AKM.x ?_;conv=>whnf)|(refine CallP.go (hr1) ?_;conv=>whnf)|(refine CallP.go (hr2) ?_;conv=>whnf)|(refine CallP.go (hM1 _ _) ?_;conv=>whnf)|(refine CallP.go (hM2 _ _) ?_;conv=>whnf)|(refine CallP.go (hC _ _) ?_;conv=>whnf)))
 exact FinP.i rfl
end Go.Eng

namespace Go.Eng
def Bt (k:Nat) (x:Rat):Prop:=x.num.natAbs≤2^k∧x.den≤2^k
theorem Bt.le {k l:Nat} {x:Rat} (h:Bt k x) (hl:k≤l):Bt l x:=by
 have:=Nat.pow_le_pow_right (show 0<2 by omega) hl
 exact ⟨Nat.le_trans h.1 this,Nat.le_trans h.2 this⟩
theorem Bt.mk {k:Nat} {z:Int} {d:Nat} (hz:z.natAbs≤2^k) (hd:d≤2^k):Bt k (mkRat z d):=by
 by_cases h0:d=0
 ·subst h0
  rw[Rat.mkRat_zero]
  exact ⟨by simp,by simp;exact Nat.one_le_two_pow⟩
 ·obtain ⟨e1,e2,_⟩:=mk_parts (z:=z) h0
  unfold Bt
  rw[e1,e2]
  exact ⟨Nat.le_trans (Nat.div_le_self _ _) hz,Nat.le_trans (Nat.div_le_self _ _) hd⟩
theorem Bt.add {k l:Nat} {x y:Rat} (hx:Bt k x) (hy:Bt l y):Bt (k+l+1) (x+y):=by
 rw[Rat.add_def']
 refine Bt.mk ?_ ?_
 ·have h1:(x.num*y.den).natAbs≤2^k*2^l:=by rw[Int.natAbs_mul,Int.natAbs_natCast];exact Nat.mul_le_mul hx.1 hy.2
  have h2:(y.num*x.den).natAbs≤2^l*2^k:=by rw[Int.natAbs_mul,Int.natAbs_natCast];exact Nat.mul_le_mul hy.1 hx.2
  rw[Nat.mul_comm (2^l)]at h2
  rw[Nat.pow_succ,Nat.pow_add]
  have h3:=Int.natAbs_add_le (x.num*y.den) (y.num*x.den)
  omega
 ·rw[Nat.pow_succ,Nat.pow_add]
  have:=Nat.mul_le_mul hx.2 hy.2
  omega
theorem Bt.mul {k l:Nat} {x y:Rat} (hx:Bt k x) (hy:Bt l y):Bt (k+l) (x*y):=by
 rw[Rat.mul_def']
 refine Bt.mk ?_ ?_
 ·rw[Int.natAbs_mul,Nat.pow_add];exact Nat.mul_le_mul hx.1 hy.1
 ·rw[Nat.pow_add];exact Nat.mul_le_mul hx.2 hy.2
theorem Bt.zero (k:Nat):Bt k 0:=⟨by simp,by simp;exact Nat.one_le_two_pow⟩
theorem Bt.one (k:Nat):Bt k 1:=⟨by simp;exact Nat.one_le_two_pow,by simp;exact Nat.one_le_two_pow⟩
theorem Bt.dig {k n:Nat} {x:Rat} (h:Bt k x) (hn:k<32*n):Sm n (dg x.num.natAbs)∧Sm n (dg x.den):=by
 have e:2^k<4294967296^n:=by
  rw[show 4294967296=2^32 from rfl,←Nat.pow_mul]
  exact (Nat.pow_lt_pow_iff_right (by omega)).2 hn
 exact ⟨Sm.dg (Nat.lt_of_le_of_lt h.1 e),Sm.dg (Nat.lt_of_le_of_lt h.2 e)⟩
def Bs (k:Nat) (l:List Rat):Prop := ∀ x∈l,Bt k x
theorem Bs.at {k:Nat} {l:List Rat} (h:Bs k l) {i:Nat} {x:Rat} (hx:l[i]? = some x):Bt k x:=h x (zM hx)
theorem Bs.le {k j:Nat} {l:List Rat} (h:Bs k l) (hj:k≤j):Bs j l:=fun x hx=>(h x hx).le hj
theorem Bs.take {k:Nat} {l:List Rat} (h:Bs k l) (n:Nat):Bs k (l.take n):=fun x hx=>h x (List.mem_of_mem_take hx)
def dotQ:List Rat→List Rat→Rat
 | x::xs,y::ys=>x*y+dotQ xs ys
 | _,_=>0
theorem dotQ_nil (l:List Rat):dotQ l []=0:=by cases l<;>rfl
theorem dotQ_snoc : ∀ {a b:List Rat} {x y:Rat},a.length=b.length→dotQ (a++[x]) (b++[y])=dotQ a b+x*y
 | [],[],x,y,_=>by show x*y+0=0+x*y;rw[Rat.add_zero,Rat.zero_add]
 | p::a,q::b,x,y,h=>by
  show p*q+dotQ (a++[x]) (b++[y])=p*q+dotQ a b+x*y
  rw[dotQ_snoc (by simpa using h),Rat.add_assoc]
theorem dotQ_take {a b:List Rat} {i:Nat} {x y:Rat} (hx:a[i]? = some x) (hy:b[i]? = some y):dotQ (a.take (i+1)) (b.take (i+1))=dotQ (a.take i) (b.take i)+x*y:=by
 have h1:=(zS hx).1
 have h2:=(zS hy).1
 rw[List.take_add_one,List.take_add_one,hx,hy,Option.toList_some,Option.toList_some,dotQ_snoc (by rw[List.length_take,List.length_take];omega)]
theorem dotQ_all {a b:List Rat} {n:Nat} (h:a.length=n):dotQ (a.take n) (b.take n)=dotQ a b:=by
 subst h
 rw[List.take_of_length_le (Nat.le_refl _)]
 induction a generalizing b with
 | nil=>cases b<;>rfl
 | cons x a ih=>cases b with
  | nil=>rfl
  | cons y b=>simp only[List.length_cons,List.take_succ_cons,dotQ,ih]
theorem Bs.dot {k l:Nat} : ∀ {a b:List Rat},Bs k a→Bs l b→Bt (a.length*(k+l+1)) (dotQ a b)
 | [],b,_,_=>by cases b<;>exact Bt.zero _
 | x::a,[],_,_=>Bt.zero _
 | x::a,y::b,ha,hb=>by
  have h1:=(ha x (by simp)).mul (hb y (by simp))
  have h2:=Bs.dot (a:=a) (b:=b) (fun z hz=>ha z (by simp [hz])) (fun z hz=>hb z (by simp [hz]))
  refine (h1.add h2).le ?_
  rw[List.length_cons,Nat.succ_mul]
  omega
structure SysQ where
 a:List (List Rat)
 b:List Rat
 c:List Rat
 d:Rat
def SysQ.out (S:SysQ) (now:List Rat) (x:Rat):Rat:=dotQ S.c now+S.d*x
def nextQ (now:List Rat) (x:Rat):List (List Rat)→List Rat→List Rat
 | r::a,b::bs=>(dotQ r now+b*x)::nextQ now x a bs
 | _,_=>[]
def SysQ.next (S:SysQ) (now:List Rat) (x:Rat):List Rat:=nextQ now x S.a S.b
def unitL (n:Nat) (j:Int):List Rat:=(List.range n).map fun i:Nat=>if (i:Int)=j then 1 else 0
theorem unitL_len (n:Nat) (j:Int):(unitL n j).length=n:=by simp [unitL]
end Go.Eng

namespace Go.Eng
open F
attribute [local irreducible] AKM CmpP Req OpP UnP ConvP RdP LdR StR MkR LenP AppR AppN CpyR RowP SnR Bds SlS CallP CalP FinP pw LdM GetM SetM PutM MkM AppM SnM FlP CallR
set_option maxHeartbeats 4000000
variable {L:Lib}
theorem Bt.sm3 {k:Nat} {x:Rat} (h:Bt k x) (hk:k<2199023255552):Sm 68719476736 (dg x.num.natAbs)∧Sm 68719476736 (dg x.den):=h.dig (by omega)
theorem ev_add3 (N:RefGLib L) {x y:Rat} {k l:Nat} (hx:Bt k x) (hy:Bt l y) (hk:k<2199023255552) (hl:l<2199023255552):Ev L 126 [.agg (eQ x),.agg (eQ y)] (.agg (eQ (x+y))):=by
 have:=ev_r3_Add N 68719476736 (by omega) (decide (x.num<0)) (decide (y.num<0)) false false _ _ _ _ (hx.sm3 hk).1 (hx.sm3 hk).2 (hy.sm3 hl).1 (hy.sm3 hl).2
 rw[qv_of,qv_of]at this
 exact this
theorem ev_trim3 (N:RefGLib L) {x:Rat} {k:Nat} (hx:Bt k x) (hk:k<2199023255552):Ev L 123 [.agg (eQ x)] (.agg (eQ x)):=by
 have:=ev_r3_Trim N (decide (x.num<0)) false _ _ ((hx.sm3 hk).1.le (by omega)) ((hx.sm3 hk).2.le (by omega))
 rw[qv_of]at this
 exact this
theorem ev_cmp3 (N:RefGLib L) {x y:Rat} {k l:Nat} (hx:Bt k x) (hy:Bt l y) (hk:k<2199023255552) (hl:l<2199023255552):Ev L 127 [.agg (eQ x),.agg (eQ y)] (.int .i64 (sgn (x-y).num)):=by
 have:=ev_r3_Compare N 68719476736 (by omega) (decide (x.num<0)) (decide (y.num<0)) false false _ _ _ _ (hx.sm3 hk).1 (hx.sm3 hk).2 (hy.sm3 hl).1 (hy.sm3 hl).2
 rw[qv_of,qv_of]at this
 exact this
end Go.Eng

namespace Go.Eng
open Go.ChangeShapes Go.WideShapes Go.ChangeAt Go.RowKit
inductive Ty where
 | int (k:IntKind)
 | bool
 | sl (e:Ty)
 | nil
 | cons (a r:Ty)
def Ty.cells:Ty→Nat
 | .int _=>1 | .bool=>1 | .sl _=>1
 | .nil=>0
 | .cons a r=>a.cells+r.cells
def HasL:Ty→List AV→Prop
 | .int k,cs => ∃ n,cs=[.int k n]∧(Lit.int k n).wf=true
 | .bool,cs => ∃ b,cs=[.bool b]
 | .sl e,cs => ∃ es,cs=[.sl true es]∧es.length≤maxLen ∧ ∀ x∈es,HasL e x
 | .nil,cs=>cs=[]
 | .cons a r,cs => ∃ x y,cs=x++y∧HasL a x∧HasL r y
theorem HasL.len : ∀ {ty:Ty} {cs:List AV},HasL ty cs→cs.length=ty.cells
 | .int _,cs,h=>by obtain ⟨n,rfl,_⟩:=h;rfl
 | .bool,cs,h=>by obtain ⟨n,rfl⟩:=h;rfl
 | .sl _,cs,h=>by obtain ⟨n,rfl,_⟩:=h;rfl
 | .nil,cs,h=>by rw[show cs=[] from h];rfl
 | .cons a r,cs,h=>by obtain ⟨x,y,rfl,h1,h2⟩:=h;simp [Ty.cells,HasL.len h1,HasL.len h2]
def okTy (P:Program):Nat→TypeId→Ty→Bool
 | 0,_,_=>false
 | n+1,t,ty=>match P.underlying t,ty with
  | some (.int k),.int k'=>decide (k=k')
  | some .bool,.bool=>true
  | some (.slice e),.sl ty'=>okTy P n e ty'&&(P.cellsOf e == ty'.cells&&decide (0<ty'.cells))
  | some (.struct fs),ty=>go (okTy P n) fs.toList 0 ty&&P.cellsOf t == ty.cells
  | _,_=>false
where
 go (ok:TypeId→Ty→Bool):List Field→Nat→Ty→Bool
  | [],_,.nil=>true
  | f::fs,off,.cons a r=>(f.offset == off&&(ok f.type a&&P.cellsOf f.type == a.cells))&&go ok fs (off+a.cells) r
  | _,_,_=>false
section
variable {H:Type} {enc:TypeId × Value→H} {P:Program} {w:World} {base:Nat} {spare:Nat→Bool} {held:Bool} {R:Bool→Nat→Prop}
def RdL (w:World) (R:Bool→Nat→Prop) (as:List AV) (cs:List Value):Prop:=as.length=cs.length ∧ ∀ (j:Nat) (a:AV) (c:Value),as[j]? = some a→cs[j]? = some c→Rd w R a c
theorem RdL.one {a:AV} {c:Value} (h:Rd w R a c):RdL w R [a] [c]:=by
 refine ⟨rfl,fun j a' c' h1 h2 => ?_⟩
 cases j with
 | zero=>simp at h1 h2;subst h1 h2;exact h
 | succ j=>simp at h1
theorem RdL.append {as bs:List AV} {cs ds:List Value} (h1:RdL w R as cs) (h2:RdL w R bs ds):RdL w R (as++bs) (cs++ds):=by
 refine ⟨by simp [h1.1,h2.1],fun j a c ha hc => ?_⟩
 by_cases hj:j<as.length
 ·rw[List.getElem?_append_left hj]at ha
  rw[List.getElem?_append_left (by rw[←h1.1];exact hj)]at hc
  exact h1.2 j a c ha hc
 ·rw[List.getElem?_append_right (by omega)]at ha
  rw[List.getElem?_append_right (by rw[←h1.1];omega),←h1.1]at hc
  exact h2.2 _ a c ha hc
theorem add_off (a:Addr) (i:Nat) (h:a.spot=none):a.add i=⟨a.block,a.off+i,none⟩:=by
 obtain ⟨b,o,s⟩:=a
 simp only at h
 subst h
 exact add_none b o i
theorem open_go (hR : ∀ b,b<w.heap.size→R true b) (m:Nat) (ih : ∀ (ty:Ty) (t:TypeId) (cs:List Value) (fuel:Nat) (x:DataW H × List MemPlace),okTy P m t ty=true→DataW.trod enc P w base spare held fuel t cs=some x → ∃ as,HasL ty as∧RdL w R as cs)
  (n:Nat) (cs:List Value) : ∀ (fs:List Field) (off:Nat) (ty:Ty),okTy.go P (okTy P m) fs off ty=true→(∀ f∈fs,∃ y,DataW.trod enc P w base spare held n f.type ((cs.drop f.offset).take (P.cellsOf f.type))=some y)→off+ty.cells=cs.length → ∃ as,HasL ty as∧RdL w R as (cs.drop off)
 | [],off,ty,hok,_,hl=>by
  cases ty<;>simp only[okTy.go,Bool.false_eq_true]at hok
  simp only[Ty.cells]at hl
  exact ⟨[],rfl,by rw[List.drop_of_length_le (by omega)];exact ⟨rfl,fun j a c h=>by simp at h⟩⟩
 | f::fs,off,ty,hok,hf,hl=>by
  cases ty<;>simp only[okTy.go,Bool.false_eq_true,Bool.and_eq_true,beq_iff_eq]at hok
  rename_i a r
  obtain ⟨⟨h1,h2,h3⟩,h4⟩:=hok
  simp only[Ty.cells]at hl
  obtain ⟨y,hy⟩:=hf f List.mem_cons_self
  rw[h1,h3]at hy
  obtain ⟨as1,g1,g2⟩:=ih a f.type _ n y h2 hy
  obtain ⟨as2,g3,g4⟩:=open_go hR m ih n cs fs (off+a.cells) r h4 (fun f' h'=>hf f' (List.mem_cons_of_mem _ h')) (by omega)
  refine ⟨as1++as2,⟨as1,as2,rfl,g1,g3⟩,?_⟩
  have:=g2.append g4
  rwa [show (cs.drop off).take a.cells++cs.drop (off+a.cells)=cs.drop off by rw[←List.drop_drop,List.take_append_drop]]at this
theorem open_any (hR : ∀ b,b<w.heap.size→R true b) : ∀ (m:Nat) (ty:Ty) (t:TypeId) (cs:List Value) (fuel:Nat) (x:DataW H × List MemPlace),okTy P m t ty=true→DataW.trod enc P w base spare held fuel t cs=some x → ∃ as,HasL ty as∧RdL w R as cs
 | 0,_,_,_,_,_,h,_=>by simp [okTy]at h
 | m+1,ty,t,cs,fuel,x,hok,h=>by
  have ih:=open_any hR m
  simp only[okTy]at hok
  split at hok
  ·rename_i k k' hu
   obtain rfl:k=k':=by simpa using hok
   obtain ⟨n,rfl,_,hw⟩:=DataW.trod_int hu h
   exact ⟨[.int k n],⟨n,rfl,hw⟩,RdL.one (.int k n)⟩
  ·rename_i hu
   cases fuel with
   | zero=>simp [DataW.trod]at h
   | succ fuel =>
    unfold DataW.trod at h
    rw[hu]at h
    split at h<;>simp_all
    exact ⟨_,⟨_,rfl⟩,RdL.one (.bool _)⟩
  ·rename_i e ty' hu
   simp only[Bool.and_eq_true,beq_iff_eq,decide_eq_true_eq]at hok
   obtain ⟨h1,h2,h3⟩:=hok
   rcases DataW.trod_slice hu h with ⟨rfl,_⟩|⟨a,len,cap,elems,rest,n,_,rfl,_,hb,hl,hm,hlen,hel,_,_⟩
   ·exact ⟨[.sl true []],⟨[],rfl,by simp,by simp⟩,RdL.one (.sl0 true none 0)⟩
   ·have each : ∀ i,i<len → ∃ as cs',HasL ty' as∧RdL w R as cs'∧cs'.length=ty'.cells ∧ ∀ j,j<ty'.cells→w.cell? ((a.add (i*ty'.cells)).add j)=cs'[j]? := by
     intro i hi
     have:=hel i hi
     rw[h2,zE (by omega),Option.bind_eq_some_iff]at this
     obtain ⟨cs',hc,ht⟩:=this
     obtain ⟨as,g1,g2⟩:=ih ty' e cs' n _ h1 ht
     obtain ⟨_,q1,q2⟩:=World.cells?_some hc
     exact ⟨as,cs',g1,g2,q1,q2⟩
    by_cases h0:len=0
    ·subst h0
     exact ⟨[.sl true []],⟨[],rfl,by simp,by simp⟩,RdL.one (.sl0 true (some a) cap)⟩
    ·have hspot:a.spot=none:=by
      obtain ⟨as,cs',_,_,q1,q2⟩:=each 0 (by omega)
      have:=q2 0 h3
      rw[zE (by omega)]at this
      simpa [Addr.add] using World.cell?_spot this
     have hblk:a.block<w.heap.size:=by
      obtain ⟨as,cs',_,_,q1,q2⟩:=each 0 (by omega)
      have:=q2 0 h3
      rw[zE (by omega)]at this
      simpa [Addr.add] using cell_lt this
     have pick : ∃ f:Nat→List AV × List Value,∀ i,i<len→HasL ty' (f i).1∧RdL w R (f i).1 (f i).2∧(f i).2.length=ty'.cells ∧ ∀ j,j<ty'.cells→w.cell? ((a.add (i*ty'.cells)).add j)=(f i).2[j]? := by
      refine ⟨fun i=>if hi:i<len then (Classical.choose (each i hi),Classical.choose (Classical.choose_spec (each i hi))) else ([],[]),fun i hi => ?_⟩
      simp only[hi,dif_pos]
      exact Classical.choose_spec (Classical.choose_spec (each i hi))
     obtain ⟨f,hf⟩:=pick
     have hget : ∀ i e',((List.range len).map fun i=>(f i).1)[i]? = some e'→i<len∧e'=(f i).1:=by
      intro i e' he
      rw[List.getElem?_map]at he
      by_cases hi:i<len
      ·rw[List.getElem?_range hi]at he
       simp at he
       exact ⟨hi,he.symm⟩
      ·rw[List.getElem?_eq_none (by simpa using hi)]at he
       cases he
     refine ⟨[.sl true ((List.range len).map fun i=>(f i).1)],⟨_,rfl,by simp;omega,fun x hx => ?_⟩,RdL.one ?_⟩
     ·obtain ⟨i,hi,rfl⟩:=List.mem_map.1 hx
      exact (hf i (List.mem_range.1 hi)).1
     ·obtain ⟨ab,ao,as⟩:=a
      simp only at hspot
      subst hspot
      have hlen':((List.range len).map fun i=>(f i).1).length=len:=by simp
      have:=Rd.sl (w:=w) (R:=R) true ((List.range len).map fun i=>(f i).1) ab ao ty'.cells cap (fun i j=>((f i).2[j]?).getD default) (by intro e;have:=congrArg List.length e;simp at this;omega) h3 (hR ab hblk) (by rw[hlen'];exact hl)
       (fun e' he=>by
        obtain ⟨i,hi,rfl⟩:=List.mem_map.1 he
        exact (hf i (List.mem_range.1 hi)).1.len)
       (fun i e' he j c hc=>by
        obtain ⟨hi,rfl⟩:=hget i e' he
        obtain ⟨g1,g2,g3,g4⟩:=hf i hi
        have hj:j<ty'.cells:=by
         have:=(zS hc).1
         rwa [g1.len]at this
        have h5:=g4 j hj
        rw[add_off ⟨ab,ao,none⟩ (i*ty'.cells) rfl,add_off _ _ rfl]at h5
        simp only at h5
        rw[show ao+(i*ty'.cells+j)=ao+i*ty'.cells+j by omega,h5,zE (by omega)]
        rfl)
       (fun i e' he j c hc=>by
        obtain ⟨hi,rfl⟩:=hget i e' he
        obtain ⟨g1,g2,g3,g4⟩:=hf i hi
        have hj:j<ty'.cells:=by
         have:=(zS hc).1
         rwa [g1.len]at this
        have h6:(f i).2[j]? = some ((f i).2[j]'(by omega)):=zE _
        rw[h6]
        exact g2.2 j c _ hc h6)
      rwa [hlen']at this
  ·rename_i fs hu
   simp only[Bool.and_eq_true,beq_iff_eq]at hok
   obtain ⟨h1,h2⟩:=hok
   obtain ⟨xs,n,_,_,hl,hlen,hf⟩:=DataW.trod_struct hu h
   have:=open_go hR m ih n cs fs.toList 0 _ h1 (fun f hf'=>by
    obtain ⟨i,hi,rfl⟩:=List.getElem_of_mem hf'
    have h5:=hf i fs.toList[i] (by simp)
    rw[h5,zE (by simpa [hlen] using hi)]
    exact ⟨_,rfl⟩) (by rw[hl,h2];omega)
   simpa using this
  ·exact absurd hok (by simp)
theorem open_cell {S:Nat→Prop} {ty:Ty} {t:TypeId} {v:Value} {d:DataW H} {ps:List MemPlace} {m:Nat} (hok:okTy P m t ty=true) (hv:v.cells.toList=[v]) (h:DataW.Trod enc P w base spare held t v d ps) :
  ∃ a,HasL ty [a]∧CA w.heap.size S ⟨fun _ _=>none,Own.emp,w⟩ a v:=by
 obtain ⟨fuel,hf⟩:=h
 rw[hv]at hf
 obtain ⟨as,h1,h2⟩:=open_any (R:=safe w.heap.size S ⟨fun _ _=>none,Own.emp,w⟩) (fun b hb=>Or.inr (Or.inr ⟨rfl,hb⟩)) m ty t [v] fuel _ hok hf
 obtain ⟨a,rfl⟩ : ∃ a,as=[a]:=by
  have:=h2.1
  match as,this with
  | [a],_=>exact ⟨a,rfl⟩
 exact ⟨a,h1,.one (.rd (h2.2 0 a v rfl rfl))⟩
end
theorem args_nil {B:Nat} {S:Nat→Prop} {m:M} : ∀ (j:Nat) (c:AV) (v:Value),([]:List AV)[j]? = some c→([]:List Value)[j]? = some v→CA B S m c v:=fun j c v h=>by simp at h
theorem args_cons {B:Nat} {S:Nat→Prop} {m:M} {a:AV} {u:Value} {as:List AV} {us:List Value} (h:CA B S m a u) (hr : ∀ (j:Nat) (c:AV) (v:Value),as[j]? = some c→us[j]? = some v→CA B S m c v) :
  ∀ (j:Nat) (c:AV) (v:Value),(a::as)[j]? = some c→(u::us)[j]? = some v→CA B S m c v
 | 0,c,v,h1,h2=>by simp at h1 h2;subst h1 h2;exact h
 | j+1,c,v,h1,h2=>hr j c v (by simpa using h1) (by simpa using h2)
theorem law_calls {P:Program} {num:Nat→Nat} {L:Lib} (hP:ProgOK P num L) {f:Nat} {vs:List AV} (h:Ev L f vs (.bool true)) {S:Nat→Prop} {w:World} {us:List Value} (hl:vs.length=us.length)
  (ha : ∀ (j:Nat) (c:AV) (v:Value),vs[j]? = some c→us[j]? = some v→CA w.heap.size S ⟨fun _ _=>none,Own.emp,w⟩ c v) :
  Calls P (num f) us.toArray w fun e w'=>e = .returned (.bool true)∧Below w.heap.size w w':=by
 obtain ⟨n,hn⟩:=h
 refine ((calls_ok hP n).pure f vs _ hn S w us hl ha).mono ?_
 rintro e w' ⟨u,rfl,hb,hcv,_⟩
 refine ⟨?_,hb⟩
 cases hcv with
 | ca hca=>cases hca with
  | one hcc=>cases hcc with
   | rd hrd=>cases hrd;rfl
end Go.Eng

namespace Go.Eng
open F
attribute [local irreducible] AKM CmpP Req OpP UnP ConvP RdP LdR StR MkR LenP AppR AppN CpyR RowP SnR Bds SlS CallP CalP FinP pw LdM GetM SetM PutM MkM AppM SnM FlP CallR
set_option maxHeartbeats 1000000
variable {L:Lib}
def InI (n:Int):Prop := -9223372036854775808≤n∧n≤9223372036854775807
structure Wd where
 b:Int
 f:Int
 r:Int
 o:Int
def WV (w:Wd):Prop:=4≤w.b∧w.b≤24∧0≤w.f∧w.f<w.b∧1≤w.r∧w.r≤3∧1≤w.o∧w.o≤2
instance (w : Wd) : Decidable (WV w) := by unfold WV; infer_instance
variable (w:Wd)
def lowS:Int:=if WV w then -pw (w.b-1) else 0
def highS:Int:=if WV w then pw (w.b-1)-1 else 0
def FT (v:Int):Prop:=WV w∧lowS w≤v∧v≤highS w
instance (v : Int) : Decidable (FT w v) := by unfold FT; infer_instance
end Go.Eng

namespace Go.Eng
open F
attribute [local irreducible] AKM CmpP Req OpP UnP ConvP RdP LdR StR MkR LenP AppR AppN CpyR RowP SnR Bds SlS CallP CalP FinP pw LdM GetM SetM PutM MkM AppM SnM FlP CallR
set_option maxHeartbeats 1000000
variable {L:Lib}
structure Nd where
 q:Bool
 ts:List (Int × Int)
structure Nt where
 d:Wd
 c:Wd
 s:Int
 qn:Bool
 nodes:List Nd
 qx:Bool
 next:List Int
 out:Int
variable (n:Nt)
end Go.Eng

namespace Go.Eng
abbrev tI:Ty := .int .i64
end Go.Eng

namespace Go.Eng
theorem list_ofR {α:Type} {enc:α→List AV} {p:α→Prop} : ∀ {es:List (List AV)},(∀ x∈es,∃ y,x=enc y∧p y) → ∃ l:List α,es=l.map enc ∧ ∀ y∈l,p y
 | [],_=>⟨[],rfl,by simp⟩
 | e::es,h=>by
  obtain ⟨y,rfl,hy⟩:=h e List.mem_cons_self
  obtain ⟨l,rfl,hl⟩:=list_ofR (enc:=enc) (p:=p) fun x hx=>h x (List.mem_cons_of_mem _ hx)
  exact ⟨y::l,rfl,by simpa using ⟨hy,hl⟩⟩
theorem has_slR {α:Type} {enc:α→List AV} {p:α→Prop} {e:Ty} {cs:List AV} (he : ∀ x,HasL e x → ∃ y,x=enc y∧p y) (h:HasL (.sl e) cs) : ∃ l:List α,cs=[.sl true (l.map enc)]∧l.length<9223372036854775808 ∧ ∀ y∈l,p y:=by
 obtain ⟨es,rfl,hl,hx⟩:=h
 obtain ⟨l,rfl,hp⟩:=list_ofR (enc:=enc) (p:=p) fun x hm=>he x (hx x hm)
 refine ⟨l,rfl,?_,hp⟩
 have:maxLen=9223372036854775807:=rfl
 simp at hl
 omega
theorem wf_InR {n:Int} (h:(Lit.int .i64 n).wf=true):InI n:=by
 simp only[Lit.wf,Bool.and_eq_true,decide_eq_true_eq]at h
 have h1:IntKind.i64.min = -9223372036854775808:=rfl
 have h2:IntKind.i64.max=9223372036854775807:=rfl
 rw[h1,h2]at h
 unfold InI
 constructor<;>omega
theorem has_iR {cs:List AV} (h:HasL tI cs) : ∃ n,cs=encInt n∧InI n:=by obtain ⟨n,rfl,hw⟩:=h;exact ⟨n,rfl,wf_InR hw⟩
theorem has_intsR {cs:List AV} (h:HasL (.sl tI) cs) : ∃ l:List Int,cs=[.sl true (l.map encInt)]∧l.length<9223372036854775808 ∧ ∀ v∈l,InI v:=has_slR (fun _=>has_iR) h
end Go.Eng

namespace Go.Eng
def colQ (m:List (List Rat)) (j:Nat):List Rat:=m.map fun r=>r.getD j 0
def mulRow (r:List Rat) (m:List (List Rat)) (n:Nat):List Rat:=(List.range n).map fun j=>dotQ r (colQ m j)
def mulQ (a m:List (List Rat)) (n:Nat):List (List Rat):=a.map fun r=>mulRow r m n
def trQ (m:List (List Rat)):Nat→Rat
 | 0=>0
 | i+1=>trQ m i+(m.getD i []).getD i 0
def addD (m:List (List Rat)) (c:Rat) (i:Nat):List (List Rat):=(List.range m.length).map fun r=>if r<i then (m.getD r []).set r ((m.getD r []).getD r 0+c) else m.getD r []
def idQ (n:Nat):List (List Rat):=(List.range n).map fun i:Nat=>unitL n i
def cofOf (p:List (List Rat)) (n k:Nat):Rat:=trQ p n*Rat.divInt (-1) (k:Int)
def flM (a:List (List Rat)) (n:Nat):Nat→List (List Rat)
 | 0=>idQ n
 | k+1=>addD (mulQ a (flM a n k) n) (cofOf (mulQ a (flM a n k) n) n (k+1)) n
def cofQ (a:List (List Rat)) (n k:Nat):Rat:=cofOf (mulQ a (flM a n k) n) n (k+1)
def mvQ (m:List (List Rat)) (b:List Rat):List Rat:=m.map fun r=>dotQ r b
theorem mulRow_len (r:List Rat) (m:List (List Rat)) (n:Nat):(mulRow r m n).length=n:=by simp [mulRow]
theorem mulQ_len (a m:List (List Rat)) (n:Nat):(mulQ a m n).length=a.length:=by simp [mulQ]
theorem addD_len (m:List (List Rat)) (c:Rat) (i:Nat):(addD m c i).length=m.length:=by simp [addD]
structure Sq (n:Nat) (m:List (List Rat)):Prop where
 l:m.length=n
 r : ∀ r∈m,r.length=n
theorem Sq.at {n:Nat} {m:List (List Rat)} (h:Sq n m) {i:Nat} {r:List Rat} (hr:m[i]? = some r):r.length=n:=h.r r (zM hr)
theorem Sq.mul {n:Nat} {a:List (List Rat)} (h:a.length=n) (m:List (List Rat)):Sq n (mulQ a m n):=by
 refine ⟨by rw[mulQ_len,h],fun r hr => ?_⟩
 obtain ⟨x,_,rfl⟩:=List.mem_map.1 hr
 exact mulRow_len _ _ _
theorem addD_at {m:List (List Rat)} {c:Rat} {i r:Nat} {row:List Rat} (h:m[r]? = some row):(addD m c i)[r]? = some (if r<i then row.set r (row.getD r 0+c) else row):=by
 have h1:=(zS h).1
 have e:m.getD r []=row:=by rw[List.getD_eq_getElem?_getD,h];rfl
 simp only[addD,List.getElem?_map,List.getElem?_range h1,Option.map_some,e]
theorem Sq.addD {n:Nat} {m:List (List Rat)} (h:Sq n m) (c:Rat) (i:Nat):Sq n (addD m c i):=by
 refine ⟨by rw[addD_len,h.l],fun r hr => ?_⟩
 obtain ⟨j,hj⟩:=List.getElem?_of_mem hr
 have h1:=(zS hj).1
 rw[addD_len]at h1
 obtain ⟨row,hrow⟩ : ∃ row,m[j]? = some row:=⟨_,zE h1⟩
 rw[addD_at hrow]at hj
 obtain rfl:=Option.some.inj hj
 have:=h.at hrow
 split
 ·rw[List.length_set];exact this
 ·exact this
theorem Sq.id (n:Nat):Sq n (idQ n):=by
 refine ⟨by simp [idQ],fun r hr => ?_⟩
 obtain ⟨i,_,rfl⟩:=List.mem_map.1 hr
 exact unitL_len _ _
theorem Sq.fl {n:Nat} {a:List (List Rat)} (h:a.length=n) : ∀ k,Sq n (flM a n k)
 | 0=>Sq.id n
 | k+1=>(Sq.mul h _).addD _ _
def Ms (k:Nat) (m:List (List Rat)):Prop := ∀ r∈m,Bs k r
theorem Ms.at {k:Nat} {m:List (List Rat)} (h:Ms k m) {i:Nat} {r:List Rat} (hr:m[i]? = some r):Bs k r:=h r (zM hr)
theorem Ms.getD {k:Nat} {m:List (List Rat)} (h:Ms k m) (i j:Nat):Bt k ((m.getD i []).getD j 0):=by
 rw[List.getD_eq_getElem?_getD,List.getD_eq_getElem?_getD]
 cases e:m[i]? with
 | none=>exact Bt.zero k
 | some r =>
  simp only[Option.getD_some]
  cases e2:r[j]? with
  | none=>exact Bt.zero k
  | some x=>exact (h.at e).at e2
theorem Ms.le {k j:Nat} {m:List (List Rat)} (h:Ms k m) (hj:k≤j):Ms j m:=fun r hr=>(h r hr).le hj
theorem Ms.col {k:Nat} {m:List (List Rat)} (h:Ms k m) (j:Nat):Bs k (colQ m j):=by
 intro x hx
 obtain ⟨r,hr,rfl⟩:=List.mem_map.1 hx
 rw[List.getD_eq_getElem?_getD]
 cases e:r[j]? with
 | none=>exact Bt.zero k
 | some x=>exact (h r hr).at e
theorem Ms.mul {n k s:Nat} {a m:List (List Rat)} (ha:Ms k a) (hs:Sq n a) (hm:Ms s m):Ms (n*(k+s+1)) (mulQ a m n):=by
 intro r hr x hx
 obtain ⟨r,h1,rfl⟩:=List.mem_map.1 hr
 obtain ⟨j,_,rfl⟩:=List.mem_map.1 hx
 have:=(ha r h1).dot (hm.col j)
 rw[hs.r r h1]at this
 exact this
theorem Ms.tr {k:Nat} {m:List (List Rat)} (h:Ms k m) : ∀ i,Bt (i*(k+1)) (trQ m i)
 | 0=>Bt.zero _
 | i+1=>by
  refine ((Ms.tr h i).add (h.getD i i)).le ?_
  rw[Nat.succ_mul];omega
theorem Ms.addD {k j:Nat} {m:List (List Rat)} (h:Ms k m) {c:Rat} (hc:Bt j c) (i:Nat):Ms (k+j+1) (addD m c i):=by
 intro r hr
 obtain ⟨q,hq⟩:=List.getElem?_of_mem hr
 have h1:=(zS hq).1
 rw[addD_len]at h1
 obtain ⟨row,hrow⟩ : ∃ row,m[q]? = some row:=⟨_,zE h1⟩
 rw[addD_at hrow]at hq
 obtain rfl:=Option.some.inj hq
 have hb:=h.at hrow
 split
 ·intro x hx
  rcases List.mem_or_eq_of_mem_set hx with hx|rfl
  ·exact (hb x hx).le (by omega)
  ·refine Bt.add ?_ hc
   rw[List.getD_eq_getElem?_getD]
   cases e:row[q]? with
   | none=>exact Bt.zero k
   | some x=>exact hb.at e
 ·exact hb.le (by omega)
theorem Ms.id (n k:Nat):Ms k (idQ n):=by
 intro r hr x hx
 obtain ⟨i,_,rfl⟩:=List.mem_map.1 hr
 simp only[unitL,List.mem_map]at hx
 obtain ⟨a,_,rfl⟩:=hx
 split
 ·exact Bt.one k
 ·exact Bt.zero k
theorem bt_inv {k:Nat} (hk:k≤7):Bt 3 (Rat.divInt (-1) (k:Int)):=by
 rw[Rat.divInt_ofNat]
 refine Bt.mk ?_ ?_
 ·decide
 ·show k≤8;omega
def flK:Nat→Nat
 | 0=>0
 | k+1=>20*flK k+1700
theorem Ms.fl {n:Nat} {a:List (List Rat)} (hs:Sq n a) (ha:Ms 80 a) (hn:n≤4) : ∀ k,k≤4→Ms (flK k) (flM a n k)∧Ms (4*(flK k+81)) (mulQ a (flM a n k) n)∧Bt (16*(flK k+81)+10) (cofQ a n k):=by
 have key : ∀ k,k≤4→Ms (flK k) (flM a n k)→Ms (4*(flK k+81)) (mulQ a (flM a n k) n)∧Bt (16*(flK k+81)+10) (cofQ a n k):=fun k hk h=>by
  have h1:Ms (4*(flK k+81)) (mulQ a (flM a n k) n):=(Ms.mul ha hs h).le (Nat.mul_le_mul hn (by omega))
  refine ⟨h1,?_⟩
  refine ((h1.tr n).mul (bt_inv (k:=k+1) (by omega))).le ?_
  have:=Nat.mul_le_mul_right (4*(flK k+81)+1) hn
  generalize flK k=f at this ⊢
  generalize hX:4*(f+81)+1=X at this ⊢
  generalize n*X=Y at this ⊢
  omega
 intro k
 induction k with
 | zero=>exact fun hk=>⟨Ms.id n _,key 0 hk (Ms.id n _)⟩
 | succ k ih =>
  intro hk
  obtain ⟨h1,h2,h3⟩:=ih (by omega)
  have h4:Ms (flK (k+1)) (flM a n (k+1)):=(h2.addD h3 n).le (by show _≤20*flK k+1700;omega)
  exact ⟨h4,key (k+1) hk h4⟩
end Go.Eng

namespace Go.Eng
abbrev eO:Option Rat→List AV
 | none=>[.bool false,.nil,.nil]
 | some x=>eQ x
def fillO (l:List Rat) (m:Nat):List (Option Rat):=l.map some++List.replicate (m-l.length) none
theorem fillO_nil (m:Nat):fillO [] m=List.replicate m none:=by simp [fillO]
theorem fillO_len {l:List Rat} {m:Nat} (h:l.length≤m):(fillO l m).length=m:=by simp [fillO];omega
theorem fillO_set {l:List Rat} {m:Nat} {x:Rat} (h:l.length<m):(fillO l m).set l.length (some x)=fillO (l++[x]) m:=by
 unfold fillO
 have e:m-l.length=(m-(l++[x]).length)+1:=by simp;omega
 rw[e,List.replicate_succ,List.set_append_right _ _ (by simp)]
 simp
theorem fillO_full {l:List Rat} {m:Nat} (h:l.length=m):(fillO l m).map eO=l.map eQ:=by
 unfold fillO
 rw[h,Nat.sub_self]
 simp [Function.comp_def]
abbrev eS (S:SysQ):List AV:=[.sl false (S.a.map fun r=>[AV.sl false (r.map eQ)]),.sl false (S.b.map eQ),.sl false (S.c.map eQ)]++eQ S.d
theorem cl_eQs (l:List Rat):CleanLL (l.map eQ):=cleanLL_map (fun x=>by simp only[CleanL,Clean,and_true,true_and];exact ⟨cl_dig _,cl_dig _⟩) l
theorem take_snoc' {l:List Rat} {i:Nat} {x:Rat} (h:l[i]? = some x):l.take (i+1)=l.take i++[x]:=by
 rw[List.take_add_one,h];rfl
end Go.Eng

namespace Go.Eng
def resLtC (N:Nat):List ARes→Bool
 | []=>true
 | .tmp t::r=>Nat.blt t N&&resLtC N r
 | .cell t _ _::r=>Nat.blt t N&&resLtC N r
theorem resOf_lo {N:Nat} {s s':St} (ho:s.own=s'.own) (hlo : ∀ j,j<N→tget s'.tm j=tget s.tm j) : ∀ {res:List ARes},resLtC N res=true→res.mapM (resOf s)=res.mapM (resOf s')
 | [],_=>rfl
 | .tmp t::r,h=>by
  simp only[resLtC,Bool.and_eq_true]at h
  have:=resOf_lo ho hlo h.2
  simp only[List.mapM_cons,resOf,hlo t (blt_iff.1 h.1),this]
 | .cell t agg n::r,h=>by
  simp only[resLtC,Bool.and_eq_true]at h
  have:=resOf_lo ho hlo h.2
  simp only[List.mapM_cons,resOf,hlo t (blt_iff.1 h.1),this,ho]
def RetC (N:Nat) (fn:AFn) (tm:Tm) (K:AV→Mem→Prop) (tm':Tm) (M':Mem):Prop:=gh N tm'=tm∧resLX tm' M' fn.res (fun rs=>rsv rs fun v=>K v M')
theorem CalP.walkC {L:Lib} {f:Nat} {fn:AFn} {vs:List AV} {tm:Tm} {M:Mem} {K:AV→Mem→Prop} (N:Nat) (hL:L f=some fn) (hp:Nat.beq vs.length fn.pars=true) (hN:(Nat.ble fn.pars N&&(cLt N fn.body&&resLtC N fn.res))=true)
  (h:AKM L [.code fn.body] (initTm 0 vs++shT N tm) M (RetC N fn tm K)):CalP L f vs tm M K:=by
 intro σ own hs
 simp only[Bool.and_eq_true]at hN
 obtain ⟨n1,n2,n3⟩:=hN
 have n1:=Nat.le_of_ble_eq_true n1
 have hp:vs.length=fn.pars:=Nat.eq_of_beq_eq_true hp
 have hrx:RX σ (initTm 0 vs++shT N tm) M ⟨mapT (st3 σ) (initTm 0 vs++shT N tm),own⟩:=⟨fun j=>Or.inr (by rw[tg_eq];exact tget_mapT (st3_any σ) j _),hs⟩
 obtain ⟨n,c,s',hr,σ',tm',M',hR,hg,hres⟩:=h σ _ hrx
 have hgh:Gh N (mapT (st3 σ) (shT N tm)) (initTm 0 (vs.map (st3 σ))) (mapT (st3 σ) (initTm 0 vs++shT N tm)):=by
  constructor
  ·intro j hj
   rw[initTm_map,tget_mapT (st3_any σ),tget_mapT (st3_any σ)]
   rcases tget_append j (shT N tm) (initTm 0 vs) with ⟨_,e⟩|⟨hn,e⟩
   ·rw[e]
   ·rw[e,tget_shT_lt hj,tget_initTm_hi j 0 vs hn]
  ·intro j hj
   rw[tget_mapT (st3_any σ),tget_mapT (st3_any σ)]
   rcases tget_append j (shT N tm) (initTm 0 vs) with ⟨hn,e⟩|⟨_,e⟩
   ·have:=initTm_any j 0 vs hn
    omega
   ·rw[e]
 obtain ⟨s,r1,r2,r3⟩:=run_gh n (by simp [iLt,n2]) hgh hr
 obtain ⟨rs,i1,i2,i3⟩:=resLX_sound hR hres
 rw[←resOf_lo (s:=s) r2.symm r3.lo n3,i3]at i1
 have key : ∃ r,resVal (rs.map (st2 σ'))=st3 σ' r∧K r M':=by
  match rs,i2,i3 with
  | [],h,_=>exact ⟨.tup [],rfl,h⟩
  | [v],h,e =>
   simp only[List.map_cons,List.map_nil,List.cons.injEq,and_true]at e
   exact ⟨v,by simp only[List.map_cons,List.map_nil,resVal];exact e.symm,h⟩
  | a::b::l,h,_=>exact ⟨.tup (a::b::l),rfl,h⟩
 obtain ⟨r,k1,k2⟩:=key
 refine ⟨r,s.own,σ',M',EvI.intro hL (by simpa using hp) ⟨n,c,s,r1,?_,rfl⟩,?_,?_,k2⟩
 ·rw[i1,Option.map_some,k1]
 ·rw[←r2];exact hR.sat
 ·intro j
  have e1:tg tm j=tg tm' (N+j):=by rw[tg_eq,tg_eq,←hg,tget_gh]
  rcases hR.tm (N+j) with e|e
  ·rw[e1,e];rfl
  ·rw[e1,←e,r3.hi (N+j) (by omega),tget_mapT (st3_any σ),tget_shT,←tg_eq,e1]
end Go.Eng

namespace Go.Eng
theorem mxB_none (σ:Stp) (k:Nat) : ∀ (n i:Nat),mxB σ k i (List.replicate n none)=List.replicate n [.nil]
 | 0,_=>rfl
 | n+1,i=>by
  rw[List.replicate_succ,List.replicate_succ]
  show [AV.nil]::mxB σ k (i+1) (List.replicate n none)=_
  rw[mxB_none σ k n (i+1)]
theorem AKM.mxN {L:Lib} {kk:List It} {tm:Tm} {M:Mem} {Q:Tm→Mem→Prop} (k s n:Nat) (e:mget M k=some (s,.mx (List.replicate n none))) (h:AKM L kk tm ((k,s,.rw 1 (List.replicate n [.nil]))::M) Q):AKM L kk tm M Q:=by
 intro σ st hr
 have hg : ∀ j t c,mref ((k,s,.rw 1 (List.replicate n [.nil]))::M) j t=some c → ∃ c0,mref M j t=some c0∧c0.blk σ j=c.blk σ j:=by
  intro j t c g
  by_cases hj:j=k
  ·subst hj
   cases t with
   | zero =>
    have h1:mget ((j,s,Cel.rw 1 (List.replicate n [.nil]))::M) j=some (s,.rw 1 (List.replicate n [.nil])):=by simp [mget]
    simp only[mref,h1,Option.some.injEq]at g
    subst g
    refine ⟨.mx (List.replicate n none),by simp only[mref,e],?_⟩
    simp only[Cel.blk,mxB_none]
   | succ i =>
    have h1:mget ((j,s,Cel.rw 1 (List.replicate n [.nil]))::M) j=some (s,.rw 1 (List.replicate n [.nil])):=by simp [mget]
    simp only[mref,h1]at g
    cases g
  ·have h1:mget ((k,s,Cel.rw 1 (List.replicate n [.nil]))::M) j=mget M j:=by
    have hb:Nat.beq j k=false:=by
     cases hbb:Nat.beq j k with
     | false=>rfl
     | true=>exact absurd (Nat.eq_of_beq_eq_true hbb) hj
    simp only[mget,hb,cond_false]
   refine ⟨c,?_,rfl⟩
   simp only[mref,h1]at g ⊢
   exact g
 refine h σ st ⟨hr.tm,⟨?_,?_,?_,?_,?_⟩⟩
 ·intro j s' c g
  by_cases hj:j=k
  ·subst hj
   have h1:mget ((j,s,Cel.rw 1 (List.replicate n [.nil]))::M) j=some (s,.rw 1 (List.replicate n [.nil])):=by simp [mget]
   rw[h1]at g
   simp only[Option.some.injEq,Prod.mk.injEq]at g
   obtain ⟨rfl,_⟩:=g
   exact hr.sat.site _ _ _ e
  ·have h1:mget ((k,s,Cel.rw 1 (List.replicate n [.nil]))::M) j=mget M j:=by
    have hb:Nat.beq j k=false:=by
     cases hbb:Nat.beq j k with
     | false=>rfl
     | true=>exact absurd (Nat.eq_of_beq_eq_true hbb) hj
    simp only[mget,hb,cond_false]
   rw[h1]at g
   exact hr.sat.site _ _ _ g
 ·intro j t c g
  obtain ⟨c0,q1,q2⟩:=hg j t c g
  rw[←q2];exact hr.sat.blk _ _ _ q1
 ·intro j t c g
  obtain ⟨c0,q1,_⟩:=hg j t c g
  exact hr.sat.old _ _ _ q1
 ·intro j t j' t' c c' g g' hσ
  obtain ⟨c0,q1,_⟩:=hg j t c g
  obtain ⟨c1,q2,_⟩:=hg j' t' c' g'
  exact hr.sat.inj _ _ _ _ _ _ q1 q2 hσ
 ·intro j t c g hw
  cases t with
  | zero =>
   by_cases hj:j=k
   ·subst hj;exact hr.sat.low _ _ _ (mref_root e) rfl
   ·rw[mref_cons_ne hj]at g;exact hr.sat.low _ _ _ g hw
  | succ t =>
   obtain ⟨c0,q1,_⟩:=hg _ _ _ g
   exact hr.sat.low _ _ _ q1 (mref_row q1)
end Go.Eng

namespace Go.Eng
variable {L:Lib}
end Go.Eng

namespace Go.Eng
variable {L:Lib}
def RetR (fn:AFn) (z:Nat) (es:List (List AV)) (tm:Tm) (M:Mem):Prop:=match fn.res with
 | [.tmp t]=>match tg tm t with
  | .row k 0 z' 0 n=>match mget M k with
   | some (_,.rw z'' es')=>z'=z∧z''=z∧n=es.length∧es'=es∧CleanLL es
   | _=>False
  | _=>False
 | _=>False
theorem EvR.x {f:Nat} {fn:AFn} {vs:List AV} {z:Nat} {es:List (List AV)} (hL:L f=some fn) (hp:Nat.beq vs.length fn.pars=true) (hd:datAL vs=true) (h:AKM L [.code fn.body] (initTm 0 vs) [] (RetR fn z es)):EvR L f vs z es:=by
 obtain ⟨n,c,st',hr,σ,tm,M,hR,hq⟩:=h (fun _ _=>(0,0)) ⟨initTm 0 vs,Own.emp⟩ ⟨fun j=>Or.inr (by rw[tg_eq];exact datAL_tg hd j),⟨(fun _ _ _ e=>by cases e),(fun _ _ _ e=>by simp [mref,mget]at e),(fun _ _ _ e=>by simp [mref,mget]at e),(fun _ _ _ _ _ _ e=>by simp [mref,mget]at e),(fun _ _ _ e=>by simp [mref,mget]at e)⟩⟩
 unfold RetR at hq
 split at hq
 ·rename_i t hres
  split at hq
  ·rename_i k z' m htm
   split at hq
   ·rename_i s z'' es' hM
    obtain ⟨rfl,rfl,rfl,rfl,hcl⟩:=hq
    have hv:tget st'.tm t = .row (σ k 0).1 (σ k 0).2 z'' 0 es'.length:=by
     rcases hR.tm t with e|e
     ·rw[htm]at e;cases e
     ·rw[e,htm];rfl
    have hb:=hR.sat.blk k 0 (.rw z'' es') (by simp only[mref,hM])
    obtain ⟨q,hq⟩:=EvI.intro (r := .row (σ k 0).1 (σ k 0).2 z'' 0 es'.length) (o':=st'.own) hL (beq_iff.1 hp) ⟨n,c,st',hr,by simp [hres,resOf,hv,resTmp,resVal],rfl⟩
    refine ⟨q,?_⟩
    simp only[hq,adoptR,Own.get,hb]
    rw[if_pos (show (Cel.blk σ k (.rw z'' es')).es.length=es'.length∧CleanLL (Cel.blk σ k (.rw z'' es')).es from ⟨rfl,hcl⟩)]
    rfl
   ·exact hq.elim
  ·exact hq.elim
 ·exact hq.elim
theorem CallR.go {α:Type} {enc:α→List AV} {l:List α} {f z:Nat} {vs:List AV} {K:Nat→List (List AV)→Nat→Prop} (n:Nat) (h:EvR L f vs z (l.map enc)) (hn:n=l.length) (hk:K z (l.map enc) n):CallR L f vs K:=⟨z,_,n,h,by simpa using hn,hk⟩
end Go.Eng

namespace Go.Eng
open F
attribute [local irreducible] AKM CmpP Req OpP UnP ConvP RdP LdR StR MkR LenP AppR AppN CpyR RowP SnR Bds SlS CallP CalP FinP pw LdM GetM SetM PutM MkM AppM SnM FlP CallR
set_option maxHeartbeats 8000000
variable {L:Lib}
theorem ev_Mod (N:MakGLib L) (a m:Int) (ha:InI a) (hm:1≤m∧m≤1000000):Ev L 224 [.int .i64 a,.int .i64 m] (.int .i64 (a%m)):=by
 unfold InI at ha
 have h1:=Int.emod_nonneg a (show m≠0 by omega)
 have h2:=Int.emod_lt_of_pos a (show 0<m by omega)
 refine Ev.x N.make_Mod rfl rfl ?_
 (repeat' (first|(refine CmpP.go (fun hc => ?_) (fun hc => ?_)<;>first|(exfalso;omega)|(conv=>whnf))|(refine OpP.add ?_ ?_;omega;conv=>whnf)|(refine OpP.rem ?_ (fun _ _ _ => ?_) (fun _ _ _ _ => ?_);omega;all_goals first|(exfalso;omega)|(conv=>whnf))|(refine AKM.x ?_;conv=>whnf)))
 all_goals exact FinP.i (by omega)
abbrev eM (m:List (List Rat)):List (List AV):=m.map fun r=>[AV.sl false (r.map eQ)]
theorem cl_eM (m:List (List Rat)):CleanLL (eM m):=cleanLL_map (fun r=>by simp only[CleanL,Clean,and_true,true_and];exact cl_eQs r) m
end Go.Eng

namespace Go.Eng
open F
variable {L:Lib}
theorem put_self {o:Own} {s t:Nat} {b:Blk} (h:o.get s t=some b):o.put s ((o s).upd t (some b))=o:=by
 funext s'
 by_cases e:s'=s
 ·subst e
  rw[Own.put_same]
  unfold Own.get at h
  generalize o s'=x at *
  cases x
  simp only[Site.upd]
  congr 1
  funext t'
  split
  ·subst t';exact h.symm
  ·rfl
 ·rw[Own.put_ne _ _ _ _ e]
theorem tape_end (N:MakGLib L) {o:Own} {s t:Nat} {q:Bool} {es:List (List AV)} {a m:Int} (h:o.get s t=some ⟨2,[[.sl q es,.int .i64 a]]⟩) (ha:(es.length:Int)≤a) (c:Nat) :
  evI L (c+64) 225 [.ptr s t 0 0,.int .i64 m] o=some (.int .i64 0,o):=by
 have hL:L.fn 225=some F.make_Tape_Next:=N.make_Tape_Next
 rw[evI_succ]
 simp only[hL]
 simp only[F.make_Tape_Next,F.make_Tape_Next.c,List.length_cons,List.length_nil,if_true]
 simp [run,stepL,stepI,eff,guardA,St.ev,tget,tput,initTm,F.make_Tape_Next.r0,F.make_Tape_Next.r1,F.make_Tape_Next.r2,C.o,C.m,C.k,C.n,St.app,St.dst,Own.ldp,h,Own.hide,part,lenOf,ha,tdrop,Own.drop,ofCells,intBin,resOf,resTmp,resVal]
theorem tape_next (N:MakGLib L) {o:Own} {s t:Nat} {q:Bool} {l:List Int} {a:Nat} {e m:Int} (h:o.get s t=some ⟨2,[[.sl q (l.map encInt),.int .i64 a]]⟩) (ha:l[a]? = some e) (ha2:a<9223372036854775807) (c:Nat)
  (hm:evP L (c+63) 224 [.int .i64 e,.int .i64 m]=some (.int .i64 (e%m))) :
  evI L (c+64) 225 [.ptr s t 0 0,.int .i64 m] o=some (.int .i64 (e%m),o.put s ((o s).upd t (some ⟨2,[[.sl q (l.map encInt),.int .i64 ((a+1:Nat):Int)]]⟩))):=by
 have hL:L.fn 225=some F.make_Tape_Next:=N.make_Tape_Next
 have hal:=(zS ha).1
 have hlt : ¬ (l.length:Int)≤(a:Int):=by omega
 have hw:IntKind.i64.wrap ((a:Int)+1)=(a:Int)+1:=IntWalk.i64_in _ (by omega)
 have hw2:IntKind.i64.wrap (a:Int)=(a:Int):=IntWalk.i64_in _ (by omega)
 have hg:(o.put s ((o s).upd t (some ⟨2,[[.sl q (l.map encInt),.int .i64 ((a:Int)+1)]]⟩))).get s t=some ⟨2,[[.sl q (l.map encInt),.int .i64 ((a:Int)+1)]]⟩:=by
  unfold Own.get;rw[Own.put_same];simp [Site.upd]
 have hmm:(clAt L (c+63)).pure 224 [.int .i64 e,.int .i64 m]=some (.int .i64 (e%m)):=hm
 rw[evI_succ]
 simp only[hL]
 simp only[F.make_Tape_Next,F.make_Tape_Next.c,List.length_cons,List.length_nil,if_true]
 simp [run,stepL,stepI,eff,guardA,St.ev,tget,tput,initTm,F.make_Tape_Next.r0,F.make_Tape_Next.r1,F.make_Tape_Next.r2,F.make_Tape_Next.r3,F.make_Tape_Next.r4,C.o,C.m,C.k,C.n,St.app,St.dst,Own.ldp,Own.stp,h,Own.hide,part,lenOf,hlt,tdrop,Own.drop,ofCells,intBin,resOf,resTmp,resVal,hw,splice,cellsOf,hg,hw2,ha,encInt,snapA,snap,hmm]
theorem CalS.tape (N:MakGLib L) {s key:Nat} {q:Bool} {l:List Int} {a:Nat} {m:Int} {M:Mem} {K:AV→Mem→Prop} (hm:1≤m∧m≤1000000) (hv : ∀ v∈l,InI v) (ha:a<9223372036854775807)
  (e:mget M key=some (s,.bx [.sl q (l.map encInt),.int .i64 a])) (h : ∀ (a':Nat) (z:Int),0≤z→z<m→a'≤a+1→K (.int .i64 z) ((key,s,.bx [.sl q (l.map encInt),.int .i64 a'])::M)):CalS L s 225 key [.int .i64 m] M K:=by
 by_cases hl:a<l.length
 ·have he:l[a]? = some l[a]:=zE hl
  generalize l[a]=x at he
  have hx:=hv x (zM he)
  have h1:=Int.emod_nonneg x (show m≠0 by omega)
  have h2:=Int.emod_lt_of_pos x (show 0<m by omega)
  obtain ⟨c,hc⟩:=ev_Mod N x m hx hm
  have hc2:evP L (c+63) 224 [.int .i64 x,.int .i64 m]=some (.int .i64 (x%m)):=(cl_le (L:=L) (Nat.le_add_right c 63)).1 224 _ _ hc
  refine ⟨_,[.sl q (l.map encInt),.int .i64 ((a+1:Nat):Int)],.i64,x%m,e,rfl,rfl,fun t p hp=>⟨c+64,fun o ho => ?_⟩,h (a+1) (x%m) h1 h2 (Nat.le_refl _)⟩
  have hg:o.get s t=some ⟨2,[[.sl q (l.map encInt),.int .i64 a]]⟩:=by unfold Own.get;rw[ho];exact hp
  have:=tape_next N hg he ha c hc2
  rw[ho]at this
  exact this
 ·refine ⟨_,[.sl q (l.map encInt),.int .i64 a],.i64,0,e,rfl,rfl,fun t p hp=>⟨0+64,fun o ho => ?_⟩,h a 0 (Int.le_refl 0) (by omega) (by omega)⟩
  have hg:o.get s t=some ⟨2,[[.sl q (l.map encInt),.int .i64 a]]⟩:=by unfold Own.get;rw[ho];exact hp
  have h1:=tape_end N hg (m:=m) (by rw[List.length_map];omega) 0
  have h2:=put_self hg
  rw[ho]at h2
  simp only[List.length_cons,List.length_nil]
  rw[show (⟨0+1+1,[[.sl q (l.map encInt),.int .i64 (a:Int)]]⟩:Blk)=⟨2,[[.sl q (l.map encInt),.int .i64 (a:Int)]]⟩ from rfl,h2]
  exact h1
end Go.Eng

namespace Go.Eng
open F
attribute [local irreducible] AKM CmpP Req OpP UnP ConvP RdP LdR StR MkR LenP AppR AppN CpyR RowP SnR Bds SlS CallP CalP FinP pw LdM GetM SetM PutM MkM AppM SnM FlP CallR
set_option maxHeartbeats 4000000
variable {L:Lib}
end Go.Eng
