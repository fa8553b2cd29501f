/-
  Natural numbers (layer 1): division.
-/
import Derived.Test.YtdgodemmncmlaaaGreatB9
import Derived.Test.YtdgodemmncmlaaaGreatB8
import Derived.Test.YtdgodemmncmlaaaGreatB7
import Derived.Test.YtdgodemmncmlaaaGreatB3
import Derived.Test.YtdgodemmncmlaaaGreatB4
import Derived.Test.YtdgodemmncmlaaaGreatB1
set_option linter.unusedSimpArgs false
set_option linter.unusedVariables false
set_option linter.unnecessarySimpa false
namespace Go.Eng
open F
attribute [local irreducible] AKM CmpP Req OpP UnP ConvP RdP LdR StR MkR LenP AppR AppN CpyR RowP SnR Bds SlS CallP CalP FinP pw LdM GetM SetM PutM MkM AppM SnM FlP CallR
set_option maxHeartbeats 4000000
variable {L:Lib}
theorem small_step {V R y d t Q:Nat} (h:Q*y+R=V) (ht:t=R*4294967296+d):(t/y+4294967296*Q)*y+t%y=d+4294967296*V:=by
 have:=Nat.div_add_mod t y
 rw[←h,Nat.add_mul]
 have e:t/y*y=y*(t/y):=Nat.mul_comm _ _
 grind
theorem cl_pair (a b:List Nat):Clean (.tup [.sl false (a.map e32),.sl false (b.map e32)]):=by
 simp only[Clean,CleanL,and_true,true_and]
 exact ⟨cl_dig a,cl_dig b⟩
set_option maxHeartbeats 4000000 in
theorem ev_nat_divide (N:NatGLib L) (X Y:Nat) (q1 q2:Bool) (hY:Y≠0) (lx:(dg X).length≤549755813888) (ly:(dg Y).length≤549755813888):Ev L 74 [.sl q1 ((dg X).map e32),.sl q2 ((dg Y).map e32)] (.tup [.sl false ((dg (X/Y)).map e32),.sl false ((dg (X%Y)).map e32)]):=by
 have hcmp:=fun q q'=>ev_nat_Compare N (dg X) (dg Y) q q' (dig_dg X) (dig_dg Y) (by omega) (by omega)
 rw[val_dg,val_dg]at hcmp
 have d1:=dig_dg X
 have d2:=dig_dg Y
 have v1:=val_dg X
 have v2:=val_dg Y
 have hy1:=dg_len_pos hY
 refine Ev.x N.nat_divide rfl rfl ?_
 by_cases hlt:X<Y
 ·have hn:cmpS X Y = -1:=(cmpS_lt (by omega)).symm
  rw[hn]at hcmp
  (repeat' (first|(refine CmpP.go (fun hc => ?_) (fun hc => ?_)<;>first|(exfalso;omega)|(conv=>whnf))|(refine AKM.x ?_;conv=>whnf)|(refine CallP.go (hcmp _ _) ?_;conv=>whnf)|(refine CallP.go (ev_Clone N (dg X) _ (by omega)) ?_;conv=>whnf)))
  refine FinP.go ?_ (cl_pair _ _)
  rw[Nat.div_eq_of_lt hlt,Nat.mod_eq_of_lt hlt,dg_zero];rfl
 have hge:0≤cmpS X Y:=by unfold cmpS;split<;>(try split)<;>omega
 have hll:=dg_len_mono (show Y≤X by omega)
 generalize cmpS X Y=cm at *
 by_cases h1:(dg Y).length=1
 ·-- one digit
  obtain ⟨y0,hy0⟩ : ∃ y0,dg Y=[y0]:=List.length_eq_one_iff.1 h1
  have hyv:Y=y0:=by rw[←v2,hy0];simp [val]
  subst hyv
  have hyb:Y<4294967296:=d2 Y (by rw[hy0];simp)
  have hyg:(dg Y)[0]? = some Y:=by rw[hy0];rfl
  clear hy0 v2
  generalize dg Y=y at *
  generalize hx:dg X=x at *
  (repeat' (first|(refine CmpP.go (fun hc => ?_) (fun hc => ?_)<;>first|(exfalso;omega)|(conv=>whnf))|(refine OpP.add ?_ ?_;omega;conv=>whnf)|(refine OpP.sub ?_ ?_;omega;conv=>whnf)|(refine LenP.go ?_;conv=>whnf)|(refine AKM.x ?_;conv=>whnf)|(refine CallP.go (hcmp _ _) ?_;conv=>whnf)))
  refine MkR.go (enc:=e32) 0 x.length rfl (by omega) (by omega) ?_
  (conv=>whnf)
  (repeat' (first|(refine CmpP.go (fun hc => ?_) (fun hc => ?_)<;>first|(exfalso;omega)|(conv=>whnf))|(refine OpP.sub ?_ ?_;omega;conv=>whnf)|(refine LenP.go ?_;conv=>whnf)))
  refine AKM.loop3 (fun n _ _=>n) (fun (n:Nat) (o:List Nat) (r:Nat)=>n≤x.length∧o.length=x.length∧Dig o∧r<Y∧val (o.drop n)*Y+r=val (x.drop n)) (fun n o r=>[(8,.int .u64 (r:Int)),(9,.int .i64 ((n:Int)-1))]) (fun n o r=>[(28,28,.rw 1 (o.map e32))]) [] [] x.length (List.replicate x.length 0) 0 (by (conv=>whnf);exact ⟨rfl,rfl,rfl⟩) ⟨by omega,by simp,dig_zeros _,by omega,by rw[List.drop_of_length_le (Nat.le_refl _),List.drop_of_length_le (by simp)];simp [val]⟩ ?_
  intro n o r ⟨p1,p2,p3,p4,p5⟩ ih
  rcases n with _|n
  ·rw[List.drop_zero,List.drop_zero]at p5
   have hq:X/Y=val o∧X%Y=r:=by
    rw[←v1,←p5]
    have e1:(val o*Y+r)/Y=val o:=by
     rw[Nat.mul_comm,Nat.mul_add_div (by omega),Nat.div_eq_of_lt p4,Nat.add_zero]
    have e2:(val o*Y+r)%Y=r:=by
     rw[Nat.mul_comm,Nat.mul_add_mod,Nat.mod_eq_of_lt p4]
    exact ⟨e1,e2⟩
   rw[hq.1,hq.2,←p2]
   clear ih hq p5
   have hl1:=dg_len_val p3
   have hr1:Dig [r]:=dig_one (by omega)
   have hl2:=dg_len_val hr1
   have hv1:val [r]=r:=by simp [val]
   have hl3:[r].length=1:=rfl
   (repeat' (first|(refine CmpP.go (fun hc => ?_) (fun hc => ?_)<;>first|(exfalso;omega)|(conv=>whnf))|(refine ConvP.n32i ?_ ?_;omega;conv=>whnf)|(refine AKM.x ?_;conv=>whnf)|(refine CalP.cutR N (by assumption) (by omega) rfl (by first|rfl|omega|assumption) ?_;conv=>whnf)))
   refine SnR.part (enc:=e32) (fun _=>rfl) (by omega) ?_
   (conv=>whnf)
   refine SnR.part (enc:=e32) (l:=[r]) (fun _=>rfl) (by omega) ?_
   (conv=>whnf)
   refine FinP.go ?_ (cl_pair _ _)
   rw[List.drop_zero,List.drop_zero,take_dg p3,take_dg hr1,hv1]
  ·have e1:((n+1:Nat):Int)-1=n:=by omega
   rw[e1]
   obtain ⟨d,hd⟩ : ∃ d,x[n]? = some d:=⟨_,List.getElem?_eq_getElem (by omega)⟩
   have hdb:=d1.at hd
   have hYb:Y<4294967296:=hyb
   have hR:r*4294967296+d<Y*4294967296:=by omega
   have hq0:(r*4294967296+d)/Y<4294967296:=(Nat.div_lt_iff_lt_mul (by omega)).2 (by omega)
   (repeat' (first|(refine CmpP.go (fun hc => ?_) (fun hc => ?_)<;>first|(exfalso;omega)|(conv=>whnf))|(refine Req.go ?_ ?_;omega;conv=>whnf)|(refine OpP.nshl32 ?_ ?_;omega;conv=>whnf)|(refine OpP.nor ?_ ?_;omega;conv=>whnf)|(refine OpP.nquo ?_ ?_ ?_;omega;omega;conv=>whnf)|(refine ConvP.u64 ?_ ?_;omega;conv=>whnf)|(refine ConvP.n32i ?_ ?_;omega;conv=>whnf)|(refine RdP.at (by assumption) ?_ rfl ?_;omega;conv=>whnf)|(refine AKM.x ?_;conv=>whnf)))
   obtain ⟨t,ht⟩ : ∃ t,t=r*4294967296+d:=⟨_,rfl⟩
   rw[←ht]at hR hq0 ⊢
   have hm:t%Y<Y:=Nat.mod_lt _ (by omega)
   have hst:=small_step p5 ht
   rw[←val_getD_drop hd]at hst
   clear ht
   skip
   refine StR.dig (by omega) ?_
   (conv=>whnf)
   (repeat' (first|(refine OpP.sub ?_ ?_;omega;conv=>whnf)|(refine OpP.nrem ?_ ?_;omega;conv=>whnf)|(refine ConvP.u64 ?_ ?_;omega;conv=>whnf)|(refine RdP.at (by assumption) ?_ rfl ?_;omega;conv=>whnf)))
   generalize t/Y=tq at *
   generalize t%Y=tr at *
   refine AKM.back [] (by (conv=>whnf);exact ⟨rfl,rfl,rfl⟩) (ih n _ _ (by omega) ⟨by omega,by simpa using p2,p3.set _ (by omega),hm,?_⟩)
   rw[val_getD_drop (l:=o.set n tq) (d:=tq) (by rw[List.getElem?_set_self (by omega)]),List.drop_set_of_lt (by omega)]
   exact hst
 ·-- two digits or more
  have hn2:2≤(dg Y).length:=by omega
  obtain ⟨yt,hyt,hyt0⟩:=dg_top hY
  have hytb:=d2.at hyt
  obtain ⟨b1,b2,b3,b4⟩:=lz_top hyt0 hytb
  have hlz:=ev_LZ32 N yt hytb
  generalize hs:32-blen yt=s at *
  have hs31:s≤31:=by omega
  generalize dg Y=y at *
  generalize hx:dg X=x at *
  have e1:((y.length:Int)-1).toNat=y.length-1:=by omega
  rw[←e1]at hyt
  obtain ⟨rv,hrv,v,hV,hvl,hrve⟩:=ev_nat_lift N y q2 s y.length d2 hs31 (by omega) (by omega)
  subst hrve
  (repeat' (first|(refine CmpP.go (fun hc => ?_) (fun hc => ?_)<;>first|(exfalso;omega)|(conv=>whnf))|(refine OpP.add ?_ ?_;omega;conv=>whnf)|(refine OpP.sub ?_ ?_;omega;conv=>whnf)|(refine LenP.go ?_;conv=>whnf)|(refine AKM.x ?_;conv=>whnf)|(refine CallP.go (hcmp _ _) ?_;conv=>whnf)))
  refine MkR.go (enc:=e32) 0 (x.length-y.length+1) rfl (by omega) (by omega) ?_
  (conv=>whnf)
  (repeat' (first|(refine CmpP.go (fun hc => ?_) (fun hc => ?_)<;>first|(exfalso;omega)|(conv=>whnf))|(refine OpP.add ?_ ?_;omega;conv=>whnf)|(refine OpP.sub ?_ ?_;omega;conv=>whnf)|(refine ConvP.u64 ?_ ?_;omega;conv=>whnf)|(refine LenP.go ?_;conv=>whnf)|(refine RdP.at (by assumption) ?_ rfl ?_;omega;conv=>whnf)|(refine CallP.go (hlz) ?_;conv=>whnf)))
  refine CalP.walk 1000 N.nat_lift rfl rfl ?_
  (repeat' (refine AKM.x ?_;conv=>whnf))
  refine MkR.go (enc:=e32) 0 (x.length+1) rfl (by omega) (by omega) ?_
  (conv=>whnf)
  (repeat' (refine LenP.go ?_;conv=>whnf))
  have hps:=pow_s_le (s:=s) (by omega)
  refine AKM.loop3 (fun i _ _=>x.length-i) (fun (i:Nat) (o:List Nat) (lo:Nat)=>i≤x.length∧o.length=x.length+1∧Dig o∧lo<2^s∧val (o.take i)+4294967296^i*lo=val (x.take i)*2^s) (fun i o lo=>[(8,.int .u32 (lo:Int)),(15,.int .i64 i)]) (fun i o lo=>[(71012,71012,.rw 1 (o.map e32))]) [] [] 0 (List.replicate (x.length+1) 0) 0 (by (conv=>whnf);exact ⟨rfl,rfl,rfl⟩) ⟨by omega,by simp,dig_zeros _,Nat.two_pow_pos s,by simp [val]⟩ ?_
  intro i o lo ⟨p1,p2,p3,p4,p5⟩ ih
  by_cases hi:i<x.length
  ·obtain ⟨d,hd⟩ : ∃ d,x[i]? = some d:=⟨_,List.getElem?_eq_getElem hi⟩
   have hdb:=d1.at hd
   obtain ⟨f1,f2,f3,f4⟩:=sh_facts (s:=s) hdb (by omega)
   (repeat' (first|(refine CmpP.go (fun hc => ?_) (fun hc => ?_)<;>first|(exfalso;omega)|(conv=>whnf))|(refine RdP.at (by assumption) ?_ rfl ?_;omega;conv=>whnf)|(refine AKM.x ?_;conv=>whnf)))
   refine OpP.sh4 (by omega) ?_
   (conv=>whnf)
   skip
   refine OpP.or4 s f1 p4 (by omega) ?_
   (conv=>whnf)
   (repeat' (first|(refine Req.go ?_ ?_;omega;conv=>whnf)|fail))
   refine StR.dig (by omega) ?_
   (conv=>whnf)
   (repeat' (refine ConvP.u64 ?_ ?_;omega;conv=>whnf))
   refine OpP.sh8 (by omega) f4 ?_
   (conv=>whnf)
   (repeat' (first|(refine OpP.add ?_ ?_;omega;conv=>whnf)|(refine OpP.nshr32 ?_;conv=>whnf)|(refine ConvP.n32i ?_ ?_;omega;conv=>whnf)))
   rw[←shHi_def]
   refine AKM.back [] (by (conv=>whnf);exact ⟨rfl,rfl,rfl⟩) (ih (i+1) _ _ (by omega) ⟨by omega,by simpa using p2,p3.set _ (by omega),f2,?_⟩)
   rw[val_set_take (by omega),val_take_succ hd,Nat.pow_succ]
   exact lift_step p5
  obtain rfl:i=x.length:=by omega
  clear ih
  (repeat' (first|(refine CmpP.go (fun hc => ?_) (fun hc => ?_)<;>first|(exfalso;omega)|(conv=>whnf))|(refine Req.go ?_ ?_;omega;conv=>whnf)|(refine LenP.go ?_;conv=>whnf)|(refine AKM.x ?_;conv=>whnf)))
  refine StR.dig (by omega) ?_
  (conv=>whnf)
  skip
  have hU:=lift_end2 p3 (by omega) p2 p5
  have hUl:(o.set x.length lo).length=x.length+1:=by simpa using p2
  clear p3 p4 p5 p2
  generalize o.set x.length lo=u at *
  refine ⟨rfl,_,rfl,?_⟩
  (conv=>whnf)
  (repeat' (first|(refine OpP.sub ?_ ?_;omega;conv=>whnf)|(refine LenP.go ?_;conv=>whnf)|(refine CallP.go (hrv) ?_;conv=>whnf)))
  have hyt':y[y.length-1]? = some yt:=by rw[←e1];exact hyt
  obtain ⟨n1,n2⟩:=lift_norm d2 hyt' (by omega) hs31 b3 b4
  have hVv:val v=Y*2^s:=by rw[←v2];exact hV.2.2 (by rw[hvl];exact n1)
  have hUu:val u=X*2^s:=by
   rw[←v1]
   refine hU.2.2 ?_
   have h3:=val_lt d1
   rw[hUl,Nat.pow_succ]
   exact Nat.lt_of_lt_of_le (Nat.mul_lt_mul_of_pos_right h3 (Nat.two_pow_pos s)) (Nat.mul_le_mul_left _ hps)
  have hVD:=hV.1
  have hUD:=hU.1
  have hVlt:=val_lt hVD
  rw[v2,←hVv]at n2
  rw[←hvl]at n2
  clear hV hU hcmp hrv hlz
  have hv2l:2≤v.length:=by omega
  have hvx:v.length≤x.length:=by omega
  have hvL:v.length≤549755813888:=by omega
  have hxL:x.length≤549755813888:=by omega
  have hX:X<4294967296^x.length:=by rw[←v1];exact val_lt d1
  rw[←hvl]
  generalize hm:x.length-v.length+1=m at *
  have hV0:0<val v:=by
   have:=pow_pos' (v.length-1)
   omega
  have hi0:val (u.drop m)<val v:=by
   have h1:=val_split u m (by omega)
   rw[hUu]at h1
   have h2:X*2^s<4294967296^x.length*2147483648:=Nat.lt_of_lt_of_le (Nat.mul_lt_mul_of_pos_right hX (Nat.two_pow_pos s)) (Nat.mul_le_mul_left _ (Nat.pow_le_pow_right (by omega) hs31))
   have h3:4294967296^x.length=4294967296^m*4294967296^(v.length-1):=by rw[←Nat.pow_add];congr 1;omega
   rw[h3,Nat.mul_assoc]at h2
   refine Nat.lt_of_lt_of_le ?_ n2
   refine Nat.lt_of_mul_lt_mul_left (a:=4294967296^m) ?_
   omega
  have e2:(x.length:Int)-v.length=((m:Nat):Int)-1:=by omega
  rw[e2]
  refine AKM.loop3 (fun n _ _=>n) (fun (n:Nat) (o w:List Nat)=>n≤m∧o.length=x.length+1∧Dig o∧w.length=m∧Dig w∧val (o.drop n)<val v∧X*2^s=val (o.take n)+4294967296^n*(val (w.drop n)*val v+val (o.drop n))) (fun n o w=>[(14,.int .i64 ((n:Int)-1))]) (fun n o w=>[(71012,71012,.rw 1 (o.map e32)),(28,28,.rw 1 (w.map e32))]) [] [] m u (List.replicate m 0) (by (conv=>whnf);exact ⟨rfl,rfl,rfl⟩) ⟨by omega,hUl,hUD,by simp,dig_zeros _,hi0,by rw[←hUu,List.drop_of_length_le (show (List.replicate m 0).length≤m by simp),val_nil,Nat.zero_mul,Nat.zero_add];exact val_split u m (by omega)⟩ ?_
  intro n o w ⟨p1,p2,p3,p4,p5,p6,p7⟩ ih
  rcases n with _|j
  ·clear ih
   rw[List.drop_zero]at p6
   rw[List.take_zero,List.drop_zero,List.drop_zero,val_nil,Nat.zero_add,Nat.pow_zero,Nat.one_mul]at p7
   have hdr:val o=val (o.take v.length):=by
    have h1:=val_splitD o v.length
    rcases Nat.eq_zero_or_pos (val (o.drop v.length)) with h2|h2
    ·rw[h2,Nat.mul_zero,Nat.add_zero]at h1;exact h1
    ·have h3:4294967296^v.length*1≤4294967296^v.length*val (o.drop v.length):=Nat.mul_le_mul_left _ h2
     omega
   have hX0:X/Y=val w∧X%Y=val o/2^s:=by
    obtain ⟨z1,z2⟩:=div_scale (X:=X) (Y:=Y) (Nat.two_pow_pos s)
    rw[←z1,←z2,←hVv,p7]
    have e1:(val w*val v+val o)/val v=val w:=by
     rw[Nat.mul_comm,Nat.mul_add_div hV0,Nat.div_eq_of_lt p6,Nat.add_zero]
    have e2:(val w*val v+val o)%val v=val o:=by
     rw[Nat.mul_comm,Nat.mul_add_mod,Nat.mod_eq_of_lt p6]
    rw[e1,e2]
    exact ⟨rfl,rfl⟩
   rw[hX0.1,hX0.2]
   have hl1:=dg_len_val p5
   obtain ⟨ro,hro,o2,k1,k2,k3,k4⟩:=ev_nat_lower N (o.take v.length) true s (p3.take _) hs31 (by rw[List.length_take];omega)
   subst k4
   rw[hdr,←k3]
   have hl2:=dg_len_val k1
   rw[List.length_take]at k2
   clear p7 hX0 hi0
   (repeat' (first|(refine CmpP.go (fun hc => ?_) (fun hc => ?_)<;>first|(exfalso;omega)|(conv=>whnf))|(refine AKM.x ?_;conv=>whnf)|(refine CalP.cutR N (by assumption) (by omega) rfl (by first|rfl|omega|assumption) ?_;conv=>whnf)))
   refine Bds.up v.length rfl (by omega) ?_
   (conv=>whnf)
   refine SnR.part (enc:=e32) (fun _=>rfl) (by omega) ?_
   (conv=>whnf)
   rw[List.drop_zero,Nat.sub_zero]
   (repeat' (first|(refine CallP.go (hro) ?_;conv=>whnf)|(refine CalP.ro (ro_cut N o2 _ k1 (by omega)) ?_;conv=>whnf)))
   refine SnR.part (enc:=e32) (fun _=>rfl) (by omega) ?_
   (conv=>whnf)
   refine FinP.go ?_ (cl_pair _ _)
   rw[List.drop_zero,take_dg p5]
  ·have e3:((j+1:Nat):Int)-1=j:=by omega
   rw[e3]
   have e4:(v.length:Int).toNat=v.length:=by omega
   obtain ⟨A,W,C,hA,hW,rfl⟩:=dv_cut o j (v.length+1) (by omega)
   obtain ⟨g1,g2,g3⟩:=dv_pre hA hW p3 p6 hVlt
   obtain ⟨D1,D2,D3⟩:=dig_win p3
   have hqb:val W/val v<4294967296:=(Nat.div_lt_iff_lt_mul hV0).2 g2
   have hWV:val W=val W/val v*val v+val W%val v:=by rw[Nat.mul_comm];exact (Nat.div_add_mod _ _).symm
   have hWl:val W%val v<val v:=Nat.mod_lt _ hV0
   have hTot:X*2^s=val A+4294967296^j*val W+4294967296^j*4294967296*(val (w.drop (j+1))*val v):=by
    rw[p7,Nat.mul_add,←g3,Nat.pow_succ];omega
   have hTot2:=dv_next hTot hWV
   have hset : ∀ q',q'=val W/val v→val ((w.set j q').drop j)=val W/val v+4294967296*val (w.drop (j+1)):=fun q' h=>by
    rw[val_getD_drop (l:=w.set j q') (d:=q') (by rw[List.getElem?_set_self (by omega)]),List.drop_set_of_lt (by omega),h]
   have hlen : ∀ W':List Nat,W'.length=v.length+1→(A++W'++C).length=x.length+1:=fun W' h=>by
    rw[←p2];simp [h,hW]
   (repeat' (first|(refine CmpP.go (fun hc => ?_) (fun hc => ?_)<;>first|(exfalso;omega)|(conv=>whnf))|(refine OpP.add ?_ ?_;omega;conv=>whnf)|(refine Bds.ss ?_ ?_;omega;conv=>whnf)|(refine AKM.x ?_;conv=>whnf)))
   rw[show ((j:Int)+v.length+1).toNat-(j:Int).toNat=v.length+1 by omega,show 0+(j:Int).toNat=j by omega]
   refine digit_walk N hA hW D2 hVD hv2l hvL hV0 n2 g2 (fun W' o' q' z1 z2 z3 z4 => ?_) (fun W' o' q' z1 z2 z3 z4 => ?_)
   ·(conv=>whnf)
    (repeat' (first|(refine Req.go ?_ ?_;omega;conv=>whnf)|fail))
    refine StR.dig (by omega) ?_
    (conv=>whnf)
    (repeat' (refine OpP.sub ?_ ?_;omega;conv=>whnf))
    obtain ⟨t1,t2⟩:=dv_post (A:=A) (W:=W') (C:=C) (j:=j) hA g1
    refine AKM.back [] (by (conv=>whnf);exact ⟨rfl,rfl,rfl⟩) (ih j (A++W'++C) (w.set j q') (by omega) ⟨by omega,hlen W' z1,(D1.append z2).append D3,by simpa using p4,p5.set _ (by omega),by omega,?_⟩)
    rw[t1,t2,hset q' z4,z3]
    exact hTot2
   ·(conv=>whnf)
    (repeat' (first|(refine Req.go ?_ ?_;omega;conv=>whnf)|fail))
    refine StR.dig (by omega) ?_
    (conv=>whnf)
    (repeat' (refine OpP.sub ?_ ?_;omega;conv=>whnf))
    obtain ⟨t1,t2⟩:=dv_post (A:=A) (W:=W') (C:=C) (j:=j) hA g1
    refine AKM.back [] (by (conv=>whnf);exact ⟨rfl,rfl,rfl⟩) (ih j (A++W'++C) (w.set j q') (by omega) ⟨by omega,hlen W' z1,(D1.append z2).append D3,by simpa using p4,p5.set _ (by omega),by omega,?_⟩)
    rw[t1,t2,hset q' z4,z3]
    exact hTot2
end Go.Eng
namespace Go.Eng
open F
attribute [local irreducible] AKM CmpP Req OpP UnP ConvP RdP LdR StR MkR LenP AppR AppN CpyR RowP SnR Bds SlS CallP CalP FinP pw LdM GetM SetM PutM MkM AppM SnM FlP CallR
set_option maxHeartbeats 4000000
variable {L:Lib}
theorem OpP.shr32 {k':IntKind} {a:Int} {K:AV→Prop} (hk:K (.int .i64 (a/4294967296))):OpP .shr .i64 a k' 32 K:=by
 refine OpP.shr (by omega) ?_
 have:pw 32=4294967296:=by decide +kernel
 rw[this];exact hk
theorem ConvP.i32 {t:Int} {K:Int→Prop} (hk:K (cmD t:Int)):ConvP .u32 t K:=by
 unfold ConvP
 rw[IntKind.wrap_u32,←cmD_eq];exact hk
section
variable {k':IntKind} {a b:Nat} {K:AV→Prop}
theorem OpP.shlm {i:Nat} (hi:i<2) (ha:a<4294967296) (hk:K (.int .u64 ((a*4294967296^i:Nat):Int))):OpP .shl .u64 (a:Int) k' (32*(i:Int)) K:=by
 rcases i with _|_|i
 ·exact OpP.sh8 (s:=0) (by omega) (by omega) hk
 ·exact OpP.sh8 (s:=32) (by omega) (by omega) hk
 ·omega
end
theorem int_mul_bd {x y M N:Int} (hx : -M≤x∧x≤M) (hy : -N≤y∧y≤N) : -(M*N)≤x*y∧x*y≤M*N:=by
 have h1:x.natAbs≤M.natAbs:=by omega
 have h2:y.natAbs≤N.natAbs:=by omega
 have h3:=Nat.mul_le_mul h1 h2
 rw[←Int.natAbs_mul,←Int.natAbs_mul]at h3
 have h4:0≤M*N:=Int.mul_nonneg (by omega) (by omega)
 omega
theorem ev_nat_DivMod (N:NatGLib L) (a b:List Nat) (q1 q2:Bool) (hA:Dig a) (hB:Dig b) (la:a.length≤549755813888) (lb:b.length≤549755813888) (h0:val b≠0) :
  Ev L 75 [.sl q1 (a.map e32),.sl q2 (b.map e32)] (.tup [.sl false ((dg (val a/val b)).map e32),.sl false ((dg (val a%val b)).map e32),.int .i64 0]):=by
 have l1:=dg_len_val hA
 have l2:=dg_len_val hB
 have hp:=dg_len_pos h0
 refine Ev.x N.nat_DivMod rfl rfl ?_
 (repeat' (first|(refine CmpP.go (fun hc => ?_) (fun hc => ?_)<;>first|(exfalso;omega)|(conv=>whnf))|(refine LenP.go ?_;conv=>whnf)|(refine AKM.x ?_;conv=>whnf)|(refine CalP.ro (ro_cut N a _ hA (by omega)) ?_;conv=>whnf)|(refine CalP.ro (ro_cut N b _ hB (by omega)) ?_;conv=>whnf)|(refine CallP.go (ev_nat_divide N _ _ _ _ h0 (by omega) (by omega)) ?_;conv=>whnf)))
 refine FinP.go rfl ?_
 simp only[Clean,CleanL,and_true,true_and]
 exact ⟨cl_dig _,cl_dig _⟩
theorem ev_nat_small (N:NatGLib L) (V:Nat) (q:Bool) (hl:(dg V).length≤2):Ev L 76 [.sl q ((dg V).map e32)] (.int .u64 (V:Int)):=by
 have hV:=dg_len_le.1 hl
 have hD:=dig_dg V
 have hv:=val_dg V
 refine Ev.x N.nat_small rfl rfl ?_
 generalize dg V=l at *
 (repeat' (first|(refine LenP.go ?_;conv=>whnf)|(refine AKM.x ?_;conv=>whnf)))
 refine AKM.loop2 (fun i _=>l.length-i) (fun (i:Nat) (a:Nat)=>i≤l.length∧a=val (l.take i)) (fun i a=>[(3,.int .u64 (a:Int)),(8,.int .i64 i)]) (fun _ _=>[]) [] [] 0 0 (by (conv=>whnf);exact ⟨rfl,rfl,rfl⟩) ⟨by omega,rfl⟩ ?_
 intro i a ⟨p1,p2⟩ ih
 by_cases hi:i<l.length
 ·obtain ⟨d,hd⟩ : ∃ d,l[i]? = some d:=⟨_,List.getElem?_eq_getElem hi⟩
  have hdb:=hD.at hd
  have h1:=val_take_succ hd
  have h2:=val_lt (hD.take i)
  have h3:=val_lt (hD.take (i+1))
  rw[List.length_take,Nat.min_eq_left (by omega)]at h2 h3
  have h4:4294967296^(i+1)≤4294967296^2:=Nat.pow_le_pow_right (by omega) (by omega)
  (repeat' (first|(refine CmpP.go (fun hc => ?_) (fun hc => ?_)<;>first|(exfalso;omega)|(conv=>whnf))|(refine OpP.mul ?_ ?_;omega;conv=>whnf)|(refine ConvP.u64 ?_ ?_;omega;conv=>whnf)|(refine RdP.at (by assumption) ?_ rfl ?_;omega;conv=>whnf)|(refine AKM.x ?_;conv=>whnf)))
  refine OpP.shlm (by omega) hdb ?_
  (conv=>whnf)
  rw[Nat.mul_comm d]
  refine OpP.nor8r (32*i) (by rw[Nat.pow_mul];exact Nat.mul_mod_right _ _) (by rw[Nat.pow_mul,p2];exact h2) (by omega) ?_
  (conv=>whnf)
  (repeat' (refine OpP.add ?_ ?_;omega;conv=>whnf))
  exact AKM.back [] (by (conv=>whnf);exact ⟨rfl,rfl,rfl⟩) (ih (i+1) _ (by omega) ⟨by omega,by rw[h1,p2]⟩)
 ·obtain rfl:i=l.length:=by omega
  clear ih
  (repeat' (first|(refine CmpP.go (fun hc => ?_) (fun hc => ?_)<;>first|(exfalso;omega)|(conv=>whnf))|(refine AKM.x ?_;conv=>whnf)))
  rw[val_take_all (Nat.le_refl _)]at p2
  exact FinP.i (by omega)
theorem CalP.fix {f:Nat} {vs:List AV} {tm:Tm} {M:Mem} {K:AV→Mem→Prop} {v:AV} (h:CalP L f vs tm M (fun r M'=>r=v∧M'=M)) (hk:K v M):CalP L f vs tm M K:=by
 unfold CalP at h ⊢
 intro σ own hs
 obtain ⟨r,own',σ',M',h1,h2,h3,rfl,rfl⟩:=h σ own hs
 exact ⟨_,own',σ',_,h1,h2,h3,hk⟩
theorem ev_nat_leading (N:NatGLib L) (a:List Nat) (q:Bool) (n s:Nat) (hD:Dig a) (hn:3≤n) (hl:a.length≤n) (hn2:n≤549755813888) (hs:s≤31) (hlt:val a*2^s<4294967296^n) :
  Ev L 78 [.sl q (a.map e32),.int .i64 (n:Int),.int .u64 (s:Int)] (.int .i64 ((val a/leadK n s:Nat):Int)):=by
 have b1:=getD_lt hD (n-1)
 have b2:=getD_lt hD (n-2)
 have b3:=getD_lt hD (n-3)
 have hfit:=lead_fits hD hn hl rfl rfl hlt
 have heq:=lead_eq (s:=s) hD hn hl hs rfl rfl rfl
 obtain ⟨f1,f2,f3,f4⟩:=sh_facts (s:=s) b3 (by omega)
 refine Ev.x N.nat_leading rfl rfl ?_
 (repeat' (first|(refine Req.go ?_ ?_;omega;conv=>whnf)|(refine OpP.sub ?_ ?_;omega;conv=>whnf)|(refine AKM.x ?_;conv=>whnf)))
 refine CalP.fix (v := .int .u64 ((a.getD (n-1) 0:Nat):Int)) ?_ ?_
 ·refine CalP.walk 1000 N.nat_leading_1 rfl rfl ?_
  (repeat' (first|(refine CmpP.go (fun hc => ?_) (fun hc => ?_)<;>first|(exfalso;omega)|(conv=>whnf))|(refine ConvP.u64 ?_ ?_;omega;conv=>whnf)|(refine LenP.go ?_;conv=>whnf)|(refine RdP.digi (by assumption) ?_ (fun e he hb => ?_);omega;conv=>whnf)|(refine AKM.x ?_;conv=>whnf)))
  ·refine ⟨rfl,_,rfl,?_,rfl⟩
   rw[show ((n:Int)-1).toNat=n-1 by omega]at he
   rw[getD_is he];rfl
  ·refine ⟨rfl,_,rfl,?_,rfl⟩
   rw[←getD_none (show a.length≤n-1 by omega)];rfl
 (conv=>whnf)
 (repeat' (first|(refine Req.go ?_ ?_;omega;conv=>whnf)|(refine OpP.sub ?_ ?_;omega;conv=>whnf)|(refine OpP.nshl32 ?_ ?_;omega;conv=>whnf)))
 refine CalP.fix (v := .int .u64 ((a.getD (n-2) 0:Nat):Int)) ?_ ?_
 ·refine CalP.walk 1000 N.nat_leading_1 rfl rfl ?_
  (repeat' (first|(refine CmpP.go (fun hc => ?_) (fun hc => ?_)<;>first|(exfalso;omega)|(conv=>whnf))|(refine ConvP.u64 ?_ ?_;omega;conv=>whnf)|(refine LenP.go ?_;conv=>whnf)|(refine RdP.digi (by assumption) ?_ (fun e he hb => ?_);omega;conv=>whnf)|(refine AKM.x ?_;conv=>whnf)))
  ·refine ⟨rfl,_,rfl,?_,rfl⟩
   rw[show ((n:Int)-2).toNat=n-2 by omega]at he
   rw[getD_is he];rfl
  ·refine ⟨rfl,_,rfl,?_,rfl⟩
   rw[←getD_none (show a.length≤n-2 by omega)];rfl
 (conv=>whnf)
 generalize a.getD (n-1) 0=d1 at *
 generalize a.getD (n-2) 0=d2 at *
 (repeat' (refine OpP.nor ?_ ?_;omega;conv=>whnf))
 refine OpP.sh8 (by omega) hfit ?_
 (conv=>whnf)
 generalize hT:(d1*4294967296+d2)*2^s=T at *
 (repeat' (first|(refine Req.go ?_ ?_;omega;conv=>whnf)|(refine OpP.sub ?_ ?_;omega;conv=>whnf)))
 refine CalP.fix (v := .int .u64 ((a.getD (n-3) 0:Nat):Int)) ?_ ?_
 ·refine CalP.walk 1000 N.nat_leading_1 rfl rfl ?_
  (repeat' (first|(refine CmpP.go (fun hc => ?_) (fun hc => ?_)<;>first|(exfalso;omega)|(conv=>whnf))|(refine ConvP.u64 ?_ ?_;omega;conv=>whnf)|(refine LenP.go ?_;conv=>whnf)|(refine RdP.digi (by assumption) ?_ (fun e he hb => ?_);omega;conv=>whnf)|(refine AKM.x ?_;conv=>whnf)))
  ·refine ⟨rfl,_,rfl,?_,rfl⟩
   rw[show ((n:Int)-3).toNat=n-3 by omega]at he
   rw[getD_is he];rfl
  ·refine ⟨rfl,_,rfl,?_,rfl⟩
   rw[←getD_none (show a.length≤n-3 by omega)];rfl
 (conv=>whnf)
 generalize a.getD (n-3) 0=d3 at *
 skip
 refine OpP.sh8 (by omega) f4 ?_
 (conv=>whnf)
 (repeat' (refine OpP.nshr32 ?_;conv=>whnf))
 rw[shHi_def]at f2
 refine OpP.nor8 s (by rw[←hT];exact Nat.mul_mod_left _ _) f2 (by have:=mul_room (k:=d1*4294967296+d2) (show s≤64 by omega) (by omega);omega) ?_
 (conv=>whnf)
 (repeat' (first|(refine OpP.nshr2 ?_;conv=>whnf)|(refine ConvP.i64 ?_ ?_;omega;conv=>whnf)))
 rw[heq]
 exact FinP.i rfl
theorem ev_nat_cofactors (N:NatGLib L) (P Q:Int) (hP:0≤P∧P≤4611686018427387904) (hQ:0≤Q∧Q≤4611686018427387904) : ∃ r,Ev L 79 [.int .i64 P,.int .i64 Q] r ∧ ∃ a b c d:Int,(LSg a b c d∧(-2147483647≤a∧a≤2147483647)∧(-2147483647≤b∧b≤2147483647)∧(-2147483647≤c∧c≤2147483647)∧(-2147483647≤d∧d≤2147483647))∧(b≠0→LGood P Q a b c d)∧r = .tup [.int .i64 a,.int .i64 b,.int .i64 c,.int .i64 d]:=by
 refine Ev.xE N.nat_cofactors rfl rfl ?_
 (repeat' (refine AKM.x ?_;conv=>whnf))
 refine AKM.loop6 (fun _ _ _ _ _ q=>(q+2147483648).toNat) (fun (a b c d p q:Int)=>LInv P Q a b c d p q∧((-2147483647≤a∧a≤2147483647)∧(-2147483647≤b∧b≤2147483647)∧(-2147483647≤c∧c≤2147483647)∧(-2147483647≤d∧d≤2147483647))∧(p≤4611686018427387904∧q≤4611686018427387904)∧LHalf P Q a b c d∧(b≠0→LGood P Q a b c d)) (fun a b c d p q=>[(0,.int .i64 p),(1,.int .i64 q),(4,.int .i64 a),(5,.int .i64 b),(6,.int .i64 c),(7,.int .i64 d)]) (fun _ _ _ _ _ _=>[]) [] [] 1 0 0 1 P Q (by (conv=>whnf);exact ⟨rfl,rfl,rfl⟩) ⟨LInv.start hP.1 hQ.1,by omega,by omega,LHalf.start P Q,fun h=>absurd rfl h⟩ ?_
 intro a b c d p q ⟨p1,⟨⟨p2,p2'⟩,⟨p3,p3'⟩,⟨p4,p4'⟩,⟨p5,p5'⟩⟩,⟨p6,p7⟩,p8,p9⟩ ih
 have g1:=p1.pa
 have g2:=p1.pb
 have g3:=p1.qc
 have g4:=p1.qd
 by_cases hc0:q+c=0
 ·(repeat' (first|(refine CmpP.go (fun hc => ?_) (fun hc => ?_)<;>first|(exfalso;omega)|(conv=>whnf))|(refine OpP.add ?_ ?_;omega;conv=>whnf)|(refine AKM.x ?_;conv=>whnf)))
  refine ⟨.tup [.int .i64 a,.int .i64 b,.int .i64 c,.int .i64 d],?_,a,b,c,d,⟨p1.sg,by omega⟩,p9,rfl⟩
  (conv=>whnf)
  exact FinP.go rfl (by simp [Clean,CleanL])
 by_cases hd0:q+d=0
 ·(repeat' (first|(refine CmpP.go (fun hc => ?_) (fun hc => ?_)<;>first|(exfalso;omega)|(conv=>whnf))|(refine OpP.add ?_ ?_;omega;conv=>whnf)|(refine AKM.x ?_;conv=>whnf)))
  refine ⟨.tup [.int .i64 a,.int .i64 b,.int .i64 c,.int .i64 d],?_,a,b,c,d,⟨p1.sg,by omega⟩,p9,rfl⟩
  (conv=>whnf)
  exact FinP.go rfl (by simp [Clean,CleanL])
 by_cases hff:(p+a)/(q+c)=(p+b)/(q+d)
 ·obtain ⟨s1,s2,s3,s4⟩:=p1.step hc0 hd0 rfl hff
  have s5:=s4 p8
  have s6:=s5.half
  have s7:=s1.qc
  by_cases hfl:2147483647<(p+a)/(q+c)
  ·(repeat' (first|(refine CmpP.go (fun hc => ?_) (fun hc => ?_)<;>first|(exfalso;omega)|(conv=>whnf))|(refine OpP.add ?_ ?_;omega;conv=>whnf)|(refine OpP.quo ?_ ?_ (fun _ => ?_) (fun _ _ => ?_);omega;omega;all_goals first|(exfalso;omega)|(conv=>whnf))|(refine AKM.x ?_;conv=>whnf)))
   refine ⟨.tup [.int .i64 a,.int .i64 b,.int .i64 c,.int .i64 d],?_,a,b,c,d,⟨p1.sg,by omega⟩,p9,rfl⟩
   (conv=>whnf)
   exact FinP.go rfl (by simp [Clean,CleanL])
  ·have t1:=int_mul_bd (x:=(p+a)/(q+c)) (y:=c) (M:=2147483647) (N:=2147483647) (by omega) (by omega)
   have t2:=int_mul_bd (x:=(p+a)/(q+c)) (y:=d) (M:=2147483647) (N:=2147483647) (by omega) (by omega)
   (repeat' (first|(refine CmpP.go (fun hc => ?_) (fun hc => ?_)<;>first|(exfalso;omega)|(conv=>whnf))|(refine OpP.add ?_ ?_;omega;conv=>whnf)|(refine OpP.sub ?_ ?_;omega;conv=>whnf)|(refine OpP.mul ?_ ?_;omega;conv=>whnf)|(refine OpP.quo ?_ ?_ (fun _ => ?_) (fun _ _ => ?_);omega;omega;all_goals first|(exfalso;omega)|(conv=>whnf))|(refine UnP.neg ?_ ?_;omega;conv=>whnf)|(refine AKM.x ?_;conv=>whnf)))
   all_goals first
    | exact AKM.back [] (by (conv=>whnf);exact ⟨rfl,rfl,rfl⟩) (ih _ _ _ _ _ _ (by omega) ⟨s1,by omega,by omega,s6,fun _=>s5⟩)
    |(refine ⟨.tup [.int .i64 a,.int .i64 b,.int .i64 c,.int .i64 d],?_,a,b,c,d,⟨p1.sg,by omega⟩,p9,rfl⟩
      (conv=>whnf)
      exact FinP.go rfl (by simp [Clean,CleanL]))
 ·(repeat' (first|(refine CmpP.go (fun hc => ?_) (fun hc => ?_)<;>first|(exfalso;omega)|(conv=>whnf))|(refine OpP.add ?_ ?_;omega;conv=>whnf)|(refine OpP.quo ?_ ?_ (fun _ => ?_) (fun _ _ => ?_);omega;omega;all_goals first|(exfalso;omega)|(conv=>whnf))|(refine AKM.x ?_;conv=>whnf)))
  refine ⟨.tup [.int .i64 a,.int .i64 b,.int .i64 c,.int .i64 d],?_,a,b,c,d,⟨p1.sg,by omega⟩,p9,rfl⟩
  (conv=>whnf)
  exact FinP.go rfl (by simp [Clean,CleanL])
theorem ev_nat_combine (N:NatGLib L) (x y:List Nat) (q1 q2:Bool) (f g:Int) (hX:Dig x) (hY:Dig y) (hl:y.length≤x.length) (lx:x.length≤549755813888) (hs:CSg f g) (R:Nat) (hR:(R:Int)=f*val x+g*val y) (hR2:R≤val x) :
  Ev L 80 [.sl q1 (x.map e32),.sl q2 (y.map e32),.int .i64 f,.int .i64 g] (.sl false ((dg R).map e32)):=by
 refine Ev.x N.nat_combine rfl rfl ?_
 (repeat' (first|(refine LenP.go ?_;conv=>whnf)|(refine AKM.x ?_;conv=>whnf)))
 refine MkR.go (enc:=e32) 0 x.length rfl rfl (by omega) ?_
 (conv=>whnf)
 (repeat' (refine LenP.go ?_;conv=>whnf))
 refine AKM.loop3 (fun i _ _=>x.length-i) (fun (i:Nat) (o:List Nat) (c:Int)=>i≤x.length∧o.length=x.length∧Dig o ∧ -2147483648≤c∧c≤2147483648∧(val (o.take i):Int)+((4294967296^i:Nat):Int)*c=f*val (x.take i)+g*val (y.take i)) (fun i o c=>[(10,.int .i64 c),(19,.int .i64 i)]) (fun i o c=>[(16,16,.rw 1 (o.map e32))]) [] [] 0 (List.replicate x.length 0) 0 (by (conv=>whnf);exact ⟨rfl,rfl,rfl⟩) ⟨by omega,by simp,dig_zeros _,by omega,by omega,by simp [val]⟩ ?_
 intro i o c ⟨p1,p2,p3,p4,p5,p6⟩ ih
 by_cases hi:i<x.length
 ·obtain ⟨d,hd⟩ : ∃ d,x[i]? = some d:=⟨_,List.getElem?_eq_getElem hi⟩
  have hdb:=hX.at hd
  have h1:=val_take_succ hd
  by_cases hy:i<y.length
  ·obtain ⟨e,he⟩ : ∃ e,y[i]? = some e:=⟨_,List.getElem?_eq_getElem hy⟩
   have heb:=hY.at he
   have h2:=val_take_succ he
   obtain ⟨r1,r2,r3⟩:=hs.rng hdb heb
   have hst:=cm_step (d:=d) (e:=e) p6 rfl
   (repeat' (first|(refine CmpP.go (fun hc => ?_) (fun hc => ?_)<;>first|(exfalso;omega)|(conv=>whnf))|(refine OpP.add ?_ ?_;omega;conv=>whnf)|(refine OpP.mul ?_ ?_;omega;conv=>whnf)|(refine ConvP.i64 ?_ ?_;omega;conv=>whnf)|(refine LenP.go ?_;conv=>whnf)|(refine RdP.at (by assumption) ?_ rfl ?_;omega;conv=>whnf)|(refine AKM.x ?_;conv=>whnf)))
   generalize htt:f * ↑d+c+g * ↑e=t at *
   refine ConvP.i32 ?_
   (conv=>whnf)
   (repeat' (first|(refine Req.go ?_ ?_;omega;conv=>whnf)|fail))
   refine StR.dig (by omega) ?_
   (conv=>whnf)
   refine OpP.shr32 ?_
   (conv=>whnf)
   (repeat' (refine OpP.add ?_ ?_;omega;conv=>whnf))
   refine AKM.back [] (by (conv=>whnf);exact ⟨rfl,rfl,rfl⟩) (ih (i+1) _ _ (by omega) ⟨by omega,by simpa using p2,p3.set _ (cmD_lt t),by omega,by omega,?_⟩)
   rw[val_set_take (by omega),h1,h2,Nat.pow_succ]
   simp only[Int.natCast_add,Int.natCast_mul,cmD_eq]
   exact hst
  ·have h2:=val_take_end (y:=y) (i:=i) (by omega)
   obtain ⟨r1,r2,r3⟩:=hs.rng (e:=0) hdb (by omega)
   have hst:=cm_step (d:=d) (e:=0) p6 rfl
   rw[Int.mul_zero,Int.add_zero]at hst
   have r4 : -9223372030412324865≤f*(d:Int)∧f*(d:Int)≤9223372030412324865:=r1
   (repeat' (first|(refine CmpP.go (fun hc => ?_) (fun hc => ?_)<;>first|(exfalso;omega)|(conv=>whnf))|(refine OpP.add ?_ ?_;omega;conv=>whnf)|(refine OpP.mul ?_ ?_;omega;conv=>whnf)|(refine ConvP.i64 ?_ ?_;omega;conv=>whnf)|(refine LenP.go ?_;conv=>whnf)|(refine RdP.at (by assumption) ?_ rfl ?_;omega;conv=>whnf)|(refine AKM.x ?_;conv=>whnf)))
   generalize htt:f * ↑d+c=t at *
   refine ConvP.i32 ?_
   (conv=>whnf)
   (repeat' (first|(refine Req.go ?_ ?_;omega;conv=>whnf)|fail))
   refine StR.dig (by omega) ?_
   (conv=>whnf)
   refine OpP.shr32 ?_
   (conv=>whnf)
   (repeat' (refine OpP.add ?_ ?_;omega;conv=>whnf))
   refine AKM.back [] (by (conv=>whnf);exact ⟨rfl,rfl,rfl⟩) (ih (i+1) _ _ (by omega) ⟨by omega,by simpa using p2,p3.set _ (cmD_lt t),by omega,by omega,?_⟩)
   rw[val_set_take (by omega),h1,h2,Nat.pow_succ]
   simp only[Int.natCast_add,Int.natCast_mul,cmD_eq]
   rw[Int.mul_zero,Int.add_zero]at hst
   exact hst
 ·obtain rfl:i=x.length:=by omega
  clear ih
  rw[val_take_all (by omega),val_take_all (Nat.le_refl _),val_take_all (by omega)]at p6
  have hov:=val_lt p3
  have hxv:=val_lt hX
  rw[p2]at hov
  have hVR:val o=R:=by
   have:=cm_end hov p6 (by omega) (by omega)
   omega
  have hl1:=dg_len_val p3
  rw[←p2,←hVR]
  (repeat' (first|(refine CmpP.go (fun hc => ?_) (fun hc => ?_)<;>first|(exfalso;omega)|(conv=>whnf))|(refine AKM.x ?_;conv=>whnf)|(refine CalP.cutR N (by assumption) (by omega) rfl (by first|rfl|omega|assumption) ?_;conv=>whnf)))
  refine SnR.part (enc:=e32) (fun _=>rfl) (by omega) ?_
  (conv=>whnf)
  refine FinP.go ?_ (by simp only[Clean,true_and];exact cl_dig _)
  rw[List.drop_zero,take_dg p3]
theorem ev_nat_shorten (N:NatGLib L) (X Y:Nat) (hXY:Y≤X) (hy:3≤(dg Y).length) (lx:(dg X).length≤549755813888) : ∃ r,Ev L 81 [.sl false ((dg X).map e32),.sl false ((dg Y).map e32)] r ∧ ∃ A B:Nat,(B<Y∧B≤A∧A≤X∧Nat.gcd A B=Nat.gcd X Y)∧r = .tup [.sl false ((dg A).map e32),.sl false ((dg B).map e32)]:=by
 have hY0:Y≠0:=fun h=>by rw[h,dg_zero]at hy;simp at hy
 have hX0:X≠0:=by omega
 have hlen:=dg_len_mono hXY
 have hdv:=fun q q'=>ev_nat_divide N X Y q q' hY0 lx (by omega)
 have d1:=dig_dg X
 have d2:=dig_dg Y
 have v1:=val_dg X
 have v2:=val_dg Y
 obtain ⟨xt,hxt,hxt0⟩:=dg_top hX0
 have hxtb:=d1.at hxt
 obtain ⟨b1,b2,b3,b4⟩:=lz_top hxt0 hxtb
 have hlz:=ev_LZ32 N xt hxtb
 generalize hs:32-blen xt=s at *
 have hs31:s≤31:=by omega
 obtain ⟨n1,n2⟩:=lift_norm d1 hxt (by omega) hs31 b3 b4
 have hcb:=fun (f g:Int) (R:Nat) (hs:CSg f g) (h1:(R:Int)=f*val (dg X)+g*val (dg Y)) (h2:R≤val (dg X)) (q q':Bool)=>ev_nat_combine N (dg X) (dg Y) q q' f g d1 d2 (by omega) lx hs R h1 h2
 have n3:val (dg Y)*2^s<4294967296^(dg X).length:=Nat.lt_of_le_of_lt (Nat.mul_le_mul_right _ (by omega)) n1
 have hl1:=fun q=>ev_nat_leading N (dg X) q (dg X).length s d1 (by omega) (by omega) lx hs31 n1
 have hl2:=fun q=>ev_nat_leading N (dg Y) q (dg X).length s d2 (by omega) (by omega) lx hs31 n3
 have hK:=leadK_pos (dg X).length s
 obtain ⟨e1,x1,x2,x3⟩:=lead_part (V:=X) hK
 obtain ⟨e2,y1,y2,y3⟩:=lead_part (V:=Y) hK
 rw[v1]at hl1
 rw[v2]at hl2
 have hq1:=lead_le d1 (n:=(dg X).length) (by omega) (by omega) hs31 n1
 have hq2:=lead_le d2 (n:=(dg X).length) (by omega) (by omega) hs31 n3
 rw[v1]at hq1
 rw[v2]at hq2
 generalize leadK (dg X).length s=K at *
 generalize X/K=P at *
 generalize Y/K=Q at *
 rw[v1,v2]at hcb
 obtain ⟨rc,hrc,a,b,c,d,⟨z1,z2,z3,z4,z5⟩,z6,rfl⟩:=ev_nat_cofactors N (P:Int) (Q:Int) (by omega) (by omega)
 have e1:(((dg X).length:Int)-1).toNat=(dg X).length-1:=by omega
 rw[←e1]at hxt
 refine Ev.xE N.nat_shorten rfl rfl ?_
 by_cases hb:b=0
 ·(repeat' (first|(refine CmpP.go (fun hc => ?_) (fun hc => ?_)<;>first|(exfalso;omega)|(conv=>whnf))|(refine OpP.sub ?_ ?_;omega;conv=>whnf)|(refine ConvP.u64 ?_ ?_;omega;conv=>whnf)|(refine LenP.go ?_;conv=>whnf)|(refine RdP.at (by assumption) ?_ rfl ?_;omega;conv=>whnf)|(refine AKM.x ?_;conv=>whnf)|(refine CallP.go (hlz) ?_;conv=>whnf)|(refine CallP.go (hl1 _) ?_;conv=>whnf)|(refine CallP.go (hl2 _) ?_;conv=>whnf)|(refine CallP.go (hrc) ?_;conv=>whnf)|(refine CallP.go (hdv _ _) ?_;conv=>whnf)))
  refine ⟨_,?_,Y,X%Y,⟨Nat.mod_lt _ (by omega),Nat.le_of_lt (Nat.mod_lt _ (by omega)),hXY,gcd_mod_step X Y⟩,rfl⟩
  (conv=>whnf)
  exact FinP.go rfl (cl_pair _ _)
 ·obtain ⟨g1,g2,g3,g4⟩:=z6 hb (X:Int) (Y:Int) (K:Int) _ _ (by omega) x1 y1 x2 x3 y2 y3
  obtain ⟨A,hA⟩:=Int.eq_ofNat_of_zero_le (show 0≤a*X+b*Y by omega)
  obtain ⟨B,hB⟩:=Int.eq_ofNat_of_zero_le g1
  have s1:CSg a b:=by rcases z1 with ⟨h1,h2,h3,h4⟩|⟨h1,h2,h3,h4⟩<;>unfold CSg<;>omega
  have s2:CSg c d:=by rcases z1 with ⟨h1,h2,h3,h4⟩|⟨h1,h2,h3,h4⟩<;>unfold CSg<;>omega
  (repeat' (first|(refine CmpP.go (fun hc => ?_) (fun hc => ?_)<;>first|(exfalso;omega)|(conv=>whnf))|(refine OpP.sub ?_ ?_;omega;conv=>whnf)|(refine ConvP.u64 ?_ ?_;omega;conv=>whnf)|(refine LenP.go ?_;conv=>whnf)|(refine RdP.at (by assumption) ?_ rfl ?_;omega;conv=>whnf)|(refine AKM.x ?_;conv=>whnf)|(refine CallP.go (hlz) ?_;conv=>whnf)|(refine CallP.go (hl1 _) ?_;conv=>whnf)|(refine CallP.go (hl2 _) ?_;conv=>whnf)|(refine CallP.go (hrc) ?_;conv=>whnf)|(refine CallP.go (hcb a b A s1 hA.symm (by omega) _ _) ?_;conv=>whnf)|(refine CallP.go (hcb c d B s2 hB.symm (by omega) _ _) ?_;conv=>whnf)))
  rw[hA,hB]at g4
  rw[hA,hB]at g2
  refine ⟨_,?_,A,B,⟨by omega,by omega,by omega,by simpa using g4⟩,rfl⟩
  (conv=>whnf)
  exact FinP.go rfl (cl_pair _ _)
theorem gcd_main (N:NatGLib L) (X Y:Nat) (hXY:Y≤X) (lx:(dg X).length≤549755813888) :
 AKM L [It.lp nat_Gcd.l1,It.blk 0,
   It.code
    ((((ACode.ops nat_Gcd.r6 false).dr [23,30,31] []).seq
       (ACode.cond 32 (((ACode.ops nat_Gcd.r7 false).dr [5,6,32,33] []).seq ACode.ret) ACode.skip)).seq
     (((ACode.ops nat_Gcd.r8 false).dr [5,7,32,34,35,36,37,38,39] []).seq
      (((ACode.ops nat_Gcd.r9 false).dr [6,8,40,41,42,43] []).seq
       ((ACode.block 2 nat_Gcd.l2.loop).seq
        (((ACode.ops nat_Gcd.r12 false).dr [9,10,45,50,51,52,53,54,55,56] []).seq ACode.ret)))))]
  [(6,AV.sl false (List.map e32 (dg Y))),(5,AV.sl false (List.map e32 (dg X)))] []
  (RetX nat_Gcd (AV.sl false (List.map e32 (dg (X.gcd Y))))):=by
 refine AKM.loop2 (fun _ y=>y) (fun (x y:Nat)=>y≤x∧(dg x).length≤549755813888∧Nat.gcd x y=Nat.gcd X Y) (fun x y=>[(6,AV.sl false (List.map e32 (dg y))),(5,AV.sl false (List.map e32 (dg x)))]) (fun _ _=>[]) [] [] X Y (by (conv=>whnf);exact ⟨rfl,rfl,rfl⟩) ⟨hXY,lx,rfl⟩ ?_
 intro x y ⟨p1,p2,p3⟩ ih
 rw[←p3]at ih ⊢
 generalize Nat.gcd X Y=G at *
 clear hXY lx
 subst p3
 have hlen:=dg_len_mono p1
 by_cases h3:3≤(dg y).length
 ·obtain ⟨r,hr,A,B,⟨k1,k2,k3,k4⟩,rfl⟩:=ev_nat_shorten N x y p1 h3 p2
  have k5:=dg_len_mono k3
  (repeat' (first|(refine CmpP.go (fun hc => ?_) (fun hc => ?_)<;>first|(exfalso;omega)|(conv=>whnf))|(refine LenP.go ?_;conv=>whnf)|(refine AKM.x ?_;conv=>whnf)|(refine CallP.go (hr) ?_;conv=>whnf)))
  exact AKM.back [] (by (conv=>whnf);exact ⟨rfl,rfl,rfl⟩) (ih A B k1 ⟨k2,by omega,k4⟩)
 ·clear ih
  by_cases h0:y=0
  ·subst h0
   have hl0:(dg 0).length=0:=by rw[dg_zero];rfl
   (repeat' (first|(refine CmpP.go (fun hc => ?_) (fun hc => ?_)<;>first|(exfalso;omega)|(conv=>whnf))|(refine LenP.go ?_;conv=>whnf)|(refine AKM.x ?_;conv=>whnf)))
   rw[Nat.gcd_zero_right]
   exact FinP.go rfl (by simp only[Clean,true_and];exact cl_dig _)
  ·have hp:=dg_len_pos h0
   have hm:=dg_len_mono (Nat.le_of_lt (Nat.mod_lt x (show y>0 by omega)))
   have hd:=fun q q'=>ev_nat_divide N x y q q' h0 p2 (by omega)
   have hs1:=fun q=>ev_nat_small N y q (by omega)
   have hs2:=fun q=>ev_nat_small N (x%y) q (by omega)
   have hb:y<18446744073709551616:=dg_len_le.1 (show (dg y).length≤2 by omega)
   have hml:x%y<y:=Nat.mod_lt _ (by omega)
   rw[←gcd_mod_step x y]
   (repeat' (first|(refine CmpP.go (fun hc => ?_) (fun hc => ?_)<;>first|(exfalso;omega)|(conv=>whnf))|(refine LenP.go ?_;conv=>whnf)|(refine AKM.x ?_;conv=>whnf)|(refine CallP.go (hd _ _) ?_;conv=>whnf)|(refine CallP.go (hs1 _) ?_;conv=>whnf)|(refine CallP.go (hs2 _) ?_;conv=>whnf)))
   refine AKM.loop2 (fun _ q=>q) (fun (p q:Nat)=>p<18446744073709551616∧q<18446744073709551616∧Nat.gcd p q=Nat.gcd y (x%y)) (fun p q=>[(9,.int .u64 (p:Int)),(10,.int .u64 (q:Int))]) (fun _ _=>[]) [] [] y (x%y) (by (conv=>whnf);exact ⟨rfl,rfl,rfl⟩) ⟨hb,by omega,rfl⟩ ?_
   intro p q ⟨g1,g2,g3⟩ ih
   rw[←g3]at ih ⊢
   by_cases hq:q=0
   ·subst hq
    clear ih
    obtain ⟨v1,v2⟩:=dg2 g1
    rw[Nat.gcd_zero_right]
    have hl1:=dg_len_val v2
    have ht:=take_dg v2
    rw[v1]at hl1 ht
    (repeat' (first|(refine CmpP.go (fun hc => ?_) (fun hc => ?_)<;>first|(exfalso;omega)|(conv=>whnf))|(refine OpP.nshr32 ?_;conv=>whnf)|(refine ConvP.n32i ?_ ?_;omega;conv=>whnf)|(refine ConvP.n32 ?_;conv=>whnf)|(refine AKM.x ?_;conv=>whnf)))
    generalize p%4294967296=lo at *
    generalize p/4294967296=hi at *
    refine CalP.cutR N v2 (by simp) rfl rfl ?_
    rw[v1]
    (conv=>whnf)
    skip
    refine SnR.part (enc:=e32) (l:=[lo,hi]) (fun _=>rfl) (by omega) ?_
    (conv=>whnf)
    refine FinP.go ?_ (by simp only[Clean,true_and];exact cl_dig _)
    rw[List.drop_zero,ht]
   ·have hpq:p%q<q:=Nat.mod_lt _ (by omega)
    (repeat' (first|(refine CmpP.go (fun hc => ?_) (fun hc => ?_)<;>first|(exfalso;omega)|(conv=>whnf))|(refine OpP.nrem ?_ ?_;omega;conv=>whnf)|(refine AKM.x ?_;conv=>whnf)))
    exact AKM.back [] (by (conv=>whnf);exact ⟨rfl,rfl,rfl⟩) (ih q (p%q) hpq ⟨g2,by omega,gcd_mod_step p q⟩)
theorem ev_nat_Gcd (N:NatGLib L) (a b:List Nat) (q1 q2:Bool) (hA:Dig a) (hB:Dig b) (la:a.length≤549755813888) (lb:b.length≤549755813888) :
  Ev L 82 [.sl q1 (a.map e32),.sl q2 (b.map e32)] (.sl false ((dg (Nat.gcd (val a) (val b))).map e32)):=by
 have t1:=fun q=>ev_Trim N a q hA (by omega)
 have t2:=fun q=>ev_Trim N b q hB (by omega)
 have l1:=dg_len_val hA
 have l2:=dg_len_val hB
 have hcmp:=fun q q'=>ev_nat_Compare N (dg (val a)) (dg (val b)) q q' (dig_dg _) (dig_dg _) (by omega) (by omega)
 rw[val_dg,val_dg]at hcmp
 generalize val a=X at *
 generalize val b=Y at *
 refine Ev.x N.nat_Gcd rfl rfl ?_
 by_cases hlt:X<Y
 ·have hn:cmpS X Y = -1:=(cmpS_lt (by omega)).symm
  rw[hn]at hcmp
  (repeat' (first|(refine CmpP.go (fun hc => ?_) (fun hc => ?_)<;>first|(exfalso;omega)|(conv=>whnf))|(refine AKM.x ?_;conv=>whnf)|(refine CallP.go (t1 _) ?_;conv=>whnf)|(refine CallP.go (t2 _) ?_;conv=>whnf)|(refine CallP.go (hcmp _ _) ?_;conv=>whnf)))
  rw[Nat.gcd_comm]
  exact AKM.back [] (by (conv=>whnf);exact ⟨rfl,rfl,rfl⟩) (gcd_main N Y X (by omega) (by omega))
 ·have hge:0≤cmpS X Y:=by unfold cmpS;split<;>(try split)<;>omega
  generalize cmpS X Y=cm at *
  (repeat' (first|(refine CmpP.go (fun hc => ?_) (fun hc => ?_)<;>first|(exfalso;omega)|(conv=>whnf))|(refine AKM.x ?_;conv=>whnf)|(refine CallP.go (t1 _) ?_;conv=>whnf)|(refine CallP.go (t2 _) ?_;conv=>whnf)|(refine CallP.go (hcmp _ _) ?_;conv=>whnf)))
  exact AKM.back [] (by (conv=>whnf);exact ⟨rfl,rfl,rfl⟩) (gcd_main N X Y (by omega) (by omega))
end Go.Eng

namespace Go.Eng
def resLtC (N:Nat):List ARes→Bool
 | []=>true
 | .tmp t::r=>Nat.blt t N&&resLtC N r
 | .cell t _ _::r=>Nat.blt t N&&resLtC N r
theorem resOf_lo {N:Nat} {s s':St} (ho:s.own=s'.own) (hlo : ∀ j,j<N→tget s'.tm j=tget s.tm j) : ∀ {res:List ARes},resLtC N res=true→res.mapM (resOf s)=res.mapM (resOf s')
 | [],_=>rfl
 | .tmp t::r,h=>by
  simp only[resLtC,Bool.and_eq_true]at h
  have:=resOf_lo ho hlo h.2
  simp only[List.mapM_cons,resOf,hlo t (blt_iff.1 h.1),this]
 | .cell t agg n::r,h=>by
  simp only[resLtC,Bool.and_eq_true]at h
  have:=resOf_lo ho hlo h.2
  simp only[List.mapM_cons,resOf,hlo t (blt_iff.1 h.1),this,ho]
def RetC (N:Nat) (fn:AFn) (tm:Tm) (K:AV→Mem→Prop) (tm':Tm) (M':Mem):Prop:=gh N tm'=tm∧resLX tm' M' fn.res (fun rs=>rsv rs fun v=>K v M')
theorem CalP.walkC {L:Lib} {f:Nat} {fn:AFn} {vs:List AV} {tm:Tm} {M:Mem} {K:AV→Mem→Prop} (N:Nat) (hL:L f=some fn) (hp:Nat.beq vs.length fn.pars=true) (hN:(Nat.ble fn.pars N&&(cLt N fn.body&&resLtC N fn.res))=true)
  (h:AKM L [.code fn.body] (initTm 0 vs++shT N tm) M (RetC N fn tm K)):CalP L f vs tm M K:=by
 intro σ own hs
 simp only[Bool.and_eq_true]at hN
 obtain ⟨n1,n2,n3⟩:=hN
 have n1:=Nat.le_of_ble_eq_true n1
 have hp:vs.length=fn.pars:=Nat.eq_of_beq_eq_true hp
 have hrx:RX σ (initTm 0 vs++shT N tm) M ⟨mapT (st3 σ) (initTm 0 vs++shT N tm),own⟩:=⟨fun j=>Or.inr (by rw[tg_eq];exact tget_mapT (st3_any σ) j _),hs⟩
 obtain ⟨n,c,s',hr,σ',tm',M',hR,hg,hres⟩:=h σ _ hrx
 have hgh:Gh N (mapT (st3 σ) (shT N tm)) (initTm 0 (vs.map (st3 σ))) (mapT (st3 σ) (initTm 0 vs++shT N tm)):=by
  constructor
  ·intro j hj
   rw[initTm_map,tget_mapT (st3_any σ),tget_mapT (st3_any σ)]
   rcases tget_append j (shT N tm) (initTm 0 vs) with ⟨_,e⟩|⟨hn,e⟩
   ·rw[e]
   ·rw[e,tget_shT_lt hj,tget_initTm_hi j 0 vs hn]
  ·intro j hj
   rw[tget_mapT (st3_any σ),tget_mapT (st3_any σ)]
   rcases tget_append j (shT N tm) (initTm 0 vs) with ⟨hn,e⟩|⟨_,e⟩
   ·have:=initTm_any j 0 vs hn
    omega
   ·rw[e]
 obtain ⟨s,r1,r2,r3⟩:=run_gh n (by simp [iLt,n2]) hgh hr
 obtain ⟨rs,i1,i2,i3⟩:=resLX_sound hR hres
 rw[←resOf_lo (s:=s) r2.symm r3.lo n3,i3]at i1
 have key : ∃ r,resVal (rs.map (st2 σ'))=st3 σ' r∧K r M':=by
  match rs,i2,i3 with
  | [],h,_=>exact ⟨.tup [],rfl,h⟩
  | [v],h,e =>
   simp only[List.map_cons,List.map_nil,List.cons.injEq,and_true]at e
   exact ⟨v,by simp only[List.map_cons,List.map_nil,resVal];exact e.symm,h⟩
  | a::b::l,h,_=>exact ⟨.tup (a::b::l),rfl,h⟩
 obtain ⟨r,k1,k2⟩:=key
 refine ⟨r,s.own,σ',M',EvI.intro hL (by simpa using hp) ⟨n,c,s,r1,?_,rfl⟩,?_,?_,k2⟩
 ·rw[i1,Option.map_some,k1]
 ·rw[←r2];exact hR.sat
 ·intro j
  have e1:tg tm j=tg tm' (N+j):=by rw[tg_eq,tg_eq,←hg,tget_gh]
  rcases hR.tm (N+j) with e|e
  ·rw[e1,e];rfl
  ·rw[e1,←e,r3.hi (N+j) (by omega),tget_mapT (st3_any σ),tget_shT,←tg_eq,e1]
end Go.Eng

namespace Go.Eng
open F
attribute [local irreducible] AKM CmpP Req OpP UnP ConvP RdP LdR StR MkR LenP AppR AppN CpyR RowP SnR Bds SlS CallP CalP FinP pw LdM GetM SetM PutM MkM AppM SnM FlP CallR
set_option maxHeartbeats 4000000
variable {L:Lib}
theorem ConvP.u64neg {k:Nat} {K:Int→Prop} (h:0<k∧k≤9223372036854775808) (hk:K ((18446744073709551616-k:Nat):Int)):ConvP .u64 (-(k:Int)) K:=by
 unfold ConvP
 have e:IntKind.u64.wrap (-(k:Int))=((18446744073709551616-k:Nat):Int):=by
  simp [IntKind.wrap,IntKind.bits,IntKind.signed];omega
 rw[e];exact hk
theorem UnP.neg64 {k:Nat} {K:AV→Prop} (h:0<k∧k≤9223372036854775808) (hk:K (.int .u64 (k:Int))):UnP .neg .u64 ((18446744073709551616-k:Nat):Int) K:=by
 refine UnP.go (v := .int .u64 (IntKind.u64.wrap (0-((18446744073709551616-k:Nat):Int)))) rfl ?_
 have e:IntKind.u64.wrap (0-((18446744073709551616-k:Nat):Int))=(k:Int):=by
  simp [IntKind.wrap,IntKind.bits,IntKind.signed];omega
 rw[e];exact hk
theorem ev_integer_Of (N:RatGLib L) (z:Int) (hz : -9223372036854775808≤z∧z≤9223372036854775807):Ev L 85 [.int .i64 z] (.agg (eZ z)):=by
 have two : ∀ k:Nat,k<18446744073709551616 → ∀ q,Ev L 66 [.sl q [[.int .u32 ((k%4294967296:Nat):Int)],[.int .u32 ((k/4294967296:Nat):Int)]]] (.sl false ((dg k).map e32)):=fun k hk q=>by
  have:=ev_Trim N.toNatGLib [k%4294967296,k/4294967296] q (dg2 hk).2 (by simp)
  rw[val_two hk]at this
  exact this
 refine Ev.x N.integer_Of rfl rfl ?_
 by_cases h0:0≤z
 ·obtain ⟨k,rfl⟩:=Int.eq_ofNat_of_zero_le h0
  have hT:=two k (by omega)
  have z1:=dg_len0 k
  (repeat' (first|(refine CmpP.go (fun hc => ?_) (fun hc => ?_)<;>first|(exfalso;omega)|(conv=>whnf))|(refine OpP.nshr32 ?_;conv=>whnf)|(refine ConvP.u64 ?_ ?_;omega;conv=>whnf)|(refine ConvP.n32i ?_ ?_;omega;conv=>whnf)|(refine ConvP.n32 ?_;conv=>whnf)|(refine SnR.e2 rfl rfl ?_;conv=>whnf)|(refine AKM.x ?_;conv=>whnf)))
  generalize k%4294967296=lo at *
  generalize k/4294967296=hi at *
  (repeat' (refine CallP.go (hT _) ?_;conv=>whnf))
  refine CalP.walkC 1000 N.integer_signed rfl rfl ?_
  (repeat' (refine AKM.x ?_;conv=>whnf))
  all_goals (refine ⟨rfl,?_⟩;(conv=>whnf);skip)
  exact FinP.go (agg_eZ (by omega) (sgn_F (by omega))) (cl_eZ _)
 ·obtain ⟨k,hk⟩:=Int.eq_ofNat_of_zero_le (show 0 ≤ -z by omega)
  obtain rfl:z = -(k:Int):=by omega
  have hT:=two k (by omega)
  have z1:=dg_len0 k
  (repeat' (refine AKM.x ?_;conv=>whnf))
  refine ConvP.u64neg (by omega) ?_
  (conv=>whnf)
  (repeat' (refine CmpP.go (fun hc => ?_) (fun hc => ?_)<;>first|(exfalso;omega)|(conv=>whnf)))
  refine UnP.neg64 (by omega) ?_
  (conv=>whnf)
  (repeat' (first|(refine CmpP.go (fun hc => ?_) (fun hc => ?_)<;>first|(exfalso;omega)|(conv=>whnf))|(refine OpP.nshr32 ?_;conv=>whnf)|(refine ConvP.n32i ?_ ?_;omega;conv=>whnf)|(refine ConvP.n32 ?_;conv=>whnf)|(refine SnR.e2 rfl rfl ?_;conv=>whnf)))
  generalize k%4294967296=lo at *
  generalize k/4294967296=hi at *
  (repeat' (refine CallP.go (hT _) ?_;conv=>whnf))
  refine CalP.walkC 1000 N.integer_signed rfl rfl ?_
  (repeat' (first|(refine CmpP.go (fun hc => ?_) (fun hc => ?_)<;>first|(exfalso;omega)|(conv=>whnf))|(refine LenP.go ?_;conv=>whnf)|(refine AKM.x ?_;conv=>whnf)))
  all_goals (refine ⟨rfl,?_⟩;(conv=>whnf);skip)
  exact FinP.go (agg_eZ (by omega) (sgn_T (by omega))) (cl_eZ _)
theorem ev_integer_Trim (N:RatGLib L) (n q:Bool) (m:List Nat) (hm:Sm 549755813888 m):Ev L 84 [.agg (rZ q n m)] (.agg (eZ (zv n m))):=by
 have hT:=fun q=>ev_Trim N.toNatGLib m q hm.1 (by have:=hm.2;omega)
 have hz:=dg_len0 (val m)
 have ha:=zv_abs n m
 refine Ev.x N.integer_Trim rfl rfl ?_
 cases n
 ·rw[zv_F]at *
  (repeat' (first|(refine AKM.x ?_;conv=>whnf)|(refine CallP.go (hT _) ?_;conv=>whnf)))
  refine CalP.walkC 1000 N.integer_signed rfl rfl ?_
  (repeat' (refine AKM.x ?_;conv=>whnf))
  all_goals (refine ⟨rfl,?_⟩;(conv=>whnf);skip)
  exact FinP.go (agg_eZ ha.symm (sgn_F (by omega))) (cl_eZ _)
 ·rw[zv_T]at *
  (repeat' (first|(refine AKM.x ?_;conv=>whnf)|(refine CallP.go (hT _) ?_;conv=>whnf)))
  refine CalP.walkC 1000 N.integer_signed rfl rfl ?_
  (repeat' (first|(refine CmpP.go (fun hc => ?_) (fun hc => ?_)<;>first|(exfalso;omega)|(conv=>whnf))|(refine LenP.go ?_;conv=>whnf)|(refine AKM.x ?_;conv=>whnf)))
  all_goals (refine ⟨rfl,?_⟩;(conv=>whnf);skip)
  ·exact FinP.go (agg_eZ ha.symm (sgn_T (by omega))) (cl_eZ _)
  ·exact FinP.go (agg_eZ ha.symm (sgn_F (by omega))) (cl_eZ _)
theorem ev_integer_Sign (N:RatGLib L) (n q:Bool) (m:List Nat) (hm:Sm 549755813888 m):Ev L 86 [.agg (rZ q n m)] (.int .i64 (sgn (zv n m))):=by
 have hcmp:=fun q q'=>ev_nat_Compare N.toNatGLib m [] q q' hm.1 dig_nil (by have:=hm.2;omega) (by simp)
 rw[val_nil]at hcmp
 refine Ev.x N.integer_Sign rfl rfl ?_
 by_cases h0:val m=0
 ·have hn:cmpS (val m) (0:Nat)=0:=(cmpS_eq (by omega)).symm
  rw[hn]at hcmp
  (repeat' (first|(refine CmpP.go (fun hc => ?_) (fun hc => ?_)<;>first|(exfalso;omega)|(conv=>whnf))|(refine AKM.x ?_;conv=>whnf)|(refine CallP.go (hcmp _ _) ?_;conv=>whnf)))
  exact FinP.i (sgn_zero (by have:=zv_abs n m;omega))
 ·have hn:cmpS (val m) (0:Nat)=1:=(cmpS_gt (by omega)).symm
  rw[hn]at hcmp
  cases n
  ·(repeat' (first|(refine CmpP.go (fun hc => ?_) (fun hc => ?_)<;>first|(exfalso;omega)|(conv=>whnf))|(refine AKM.x ?_;conv=>whnf)|(refine CallP.go (hcmp _ _) ?_;conv=>whnf)))
   exact FinP.i (sgn_pos (by rw[zv_F];omega))
  ·(repeat' (first|(refine CmpP.go (fun hc => ?_) (fun hc => ?_)<;>first|(exfalso;omega)|(conv=>whnf))|(refine AKM.x ?_;conv=>whnf)|(refine CallP.go (hcmp _ _) ?_;conv=>whnf)))
   exact FinP.i (sgn_neg (by rw[zv_T];omega))
theorem ev_integer_Add (N:RatGLib L) (n1 n2 q1 q2:Bool) (a b:List Nat) (ha:Sm 549755813888 a) (hb:Sm 549755813888 b):Ev L 87 [.agg (rZ q1 n1 a),.agg (rZ q2 n2 b)] (.agg (eZ (zv n1 a+zv n2 b))):=by
 have la:=ha.2
 have lb:=hb.2
 have h1:=fun q q'=>ev_nat_Add N.toNatGLib a b q q' ha.1 hb.1 (by omega) (by omega)
 have h2:=fun q q'=>ev_nat_Sub N.toNatGLib a b q q' ha.1 hb.1 (by omega) (by omega)
 have h3:=fun q q'=>ev_nat_Sub N.toNatGLib b a q q' hb.1 ha.1 (by omega) (by omega)
 have hcmp:=fun q q'=>ev_nat_Compare N.toNatGLib a b q q' ha.1 hb.1 (by omega) (by omega)
 have z1:=dg_len0 (val a+val b)
 have z2:=dg_len0 (val a-val b)
 have z3:=dg_len0 (val b-val a)
 refine Ev.x N.integer_Add rfl rfl ?_
 by_cases hlt:val a<val b
 ·have hn:cmpS (val a) (val b) = -1:=(cmpS_lt (by omega)).symm
  rw[hn]at hcmp
  cases n1<;>cases n2<;>simp only[zv_F,zv_T]
  ·(repeat' (first|(refine AKM.x ?_;conv=>whnf)|(refine CallP.go (h1 _ _) ?_;conv=>whnf)))
   refine CalP.walkC 1000 N.integer_signed rfl rfl ?_
   (repeat' (refine AKM.x ?_;conv=>whnf))
   all_goals (refine ⟨rfl,?_⟩;(conv=>whnf);skip)
   exact FinP.go (agg_eZ (by omega) (sgn_F (by omega))) (cl_eZ _)
  ·(repeat' (first|(refine CmpP.go (fun hc => ?_) (fun hc => ?_)<;>first|(exfalso;omega)|(conv=>whnf))|(refine AKM.x ?_;conv=>whnf)|(refine CallP.go (h3 _ _) ?_;conv=>whnf)|(refine CallP.go (hcmp _ _) ?_;conv=>whnf)))
   refine CalP.walkC 1000 N.integer_signed rfl rfl ?_
   (repeat' (first|(refine CmpP.go (fun hc => ?_) (fun hc => ?_)<;>first|(exfalso;omega)|(conv=>whnf))|(refine LenP.go ?_;conv=>whnf)|(refine AKM.x ?_;conv=>whnf)))
   all_goals (refine ⟨rfl,?_⟩;(conv=>whnf);skip)
   ·exact FinP.go (agg_eZ (by omega) (sgn_T (by omega))) (cl_eZ _)
  ·(repeat' (first|(refine CmpP.go (fun hc => ?_) (fun hc => ?_)<;>first|(exfalso;omega)|(conv=>whnf))|(refine AKM.x ?_;conv=>whnf)|(refine CallP.go (h3 _ _) ?_;conv=>whnf)|(refine CallP.go (hcmp _ _) ?_;conv=>whnf)))
   refine CalP.walkC 1000 N.integer_signed rfl rfl ?_
   (repeat' (refine AKM.x ?_;conv=>whnf))
   all_goals (refine ⟨rfl,?_⟩;(conv=>whnf);skip)
   ·exact FinP.go (agg_eZ (by omega) (sgn_F (by omega))) (cl_eZ _)
  ·(repeat' (first|(refine AKM.x ?_;conv=>whnf)|(refine CallP.go (h1 _ _) ?_;conv=>whnf)))
   refine CalP.walkC 1000 N.integer_signed rfl rfl ?_
   (repeat' (first|(refine CmpP.go (fun hc => ?_) (fun hc => ?_)<;>first|(exfalso;omega)|(conv=>whnf))|(refine LenP.go ?_;conv=>whnf)|(refine AKM.x ?_;conv=>whnf)))
   all_goals (refine ⟨rfl,?_⟩;(conv=>whnf);skip)
   ·exact FinP.go (agg_eZ (by omega) (sgn_T (by omega))) (cl_eZ _)
 ·have hn:cmpS (val a) (val b) ≠ -1:=by unfold cmpS;split<;>(try split)<;>omega
  generalize cmpS (val a) (val b)=cm at *
  cases n1<;>cases n2<;>simp only[zv_F,zv_T]
  ·(repeat' (first|(refine AKM.x ?_;conv=>whnf)|(refine CallP.go (h1 _ _) ?_;conv=>whnf)))
   refine CalP.walkC 1000 N.integer_signed rfl rfl ?_
   (repeat' (refine AKM.x ?_;conv=>whnf))
   all_goals (refine ⟨rfl,?_⟩;(conv=>whnf);skip)
   exact FinP.go (agg_eZ (by omega) (sgn_F (by omega))) (cl_eZ _)
  ·(repeat' (first|(refine CmpP.go (fun hc => ?_) (fun hc => ?_)<;>first|(exfalso;omega)|(conv=>whnf))|(refine AKM.x ?_;conv=>whnf)|(refine CallP.go (h2 _ _) ?_;conv=>whnf)|(refine CallP.go (hcmp _ _) ?_;conv=>whnf)))
   refine CalP.walkC 1000 N.integer_signed rfl rfl ?_
   (repeat' (refine AKM.x ?_;conv=>whnf))
   all_goals (refine ⟨rfl,?_⟩;(conv=>whnf);skip)
   exact FinP.go (agg_eZ (by omega) (sgn_F (by omega))) (cl_eZ _)
  ·(repeat' (first|(refine CmpP.go (fun hc => ?_) (fun hc => ?_)<;>first|(exfalso;omega)|(conv=>whnf))|(refine AKM.x ?_;conv=>whnf)|(refine CallP.go (h2 _ _) ?_;conv=>whnf)|(refine CallP.go (hcmp _ _) ?_;conv=>whnf)))
   refine CalP.walkC 1000 N.integer_signed rfl rfl ?_
   (repeat' (first|(refine CmpP.go (fun hc => ?_) (fun hc => ?_)<;>first|(exfalso;omega)|(conv=>whnf))|(refine LenP.go ?_;conv=>whnf)|(refine AKM.x ?_;conv=>whnf)))
   all_goals (refine ⟨rfl,?_⟩;(conv=>whnf);skip)
   ·exact FinP.go (agg_eZ (by omega) (sgn_T (by omega))) (cl_eZ _)
   ·exact FinP.go (agg_eZ (by omega) (sgn_F (by omega))) (cl_eZ _)
  ·(repeat' (first|(refine AKM.x ?_;conv=>whnf)|(refine CallP.go (h1 _ _) ?_;conv=>whnf)))
   refine CalP.walkC 1000 N.integer_signed rfl rfl ?_
   (repeat' (first|(refine CmpP.go (fun hc => ?_) (fun hc => ?_)<;>first|(exfalso;omega)|(conv=>whnf))|(refine LenP.go ?_;conv=>whnf)|(refine AKM.x ?_;conv=>whnf)))
   all_goals (refine ⟨rfl,?_⟩;(conv=>whnf);skip)
   ·exact FinP.go (agg_eZ (by omega) (sgn_T (by omega))) (cl_eZ _)
   ·exact FinP.go (agg_eZ (by omega) (sgn_F (by omega))) (cl_eZ _)
theorem ev_integer_Mul (N:RatGLib L) (n1 n2 q1 q2:Bool) (a b:List Nat) (ha:Dig a) (hb:Dig b) (hl:a.length+b.length≤1099511627776):Ev L 88 [.agg (rZ q1 n1 a),.agg (rZ q2 n2 b)] (.agg (eZ (zv n1 a*zv n2 b))):=by
 have h1:=fun q q'=>ev_nat_Mul N.toNatGLib a b q q' ha hb hl
 have z1:=dg_len0 (val a*val b)
 have habs:(zv n1 a*zv n2 b).natAbs=val a*val b:=by rw[Int.natAbs_mul,zv_abs,zv_abs]
 refine Ev.x N.integer_Mul rfl rfl ?_
 have e:zv n1 a*zv n2 b=bif n1 == n2 then ((val a*val b:Nat):Int) else -((val a*val b:Nat):Int):=by
  cases n1<;>cases n2<;>simp [zv_F,zv_T,Int.mul_neg,Int.neg_mul]
 rw[e]at habs ⊢
 generalize val a*val b=V at *
 cases n1<;>cases n2<;>simp only[beq_self_eq_true,cond_true,show (false == true)=false from rfl,show (true == false)=false from rfl,cond_false]
 ·(repeat' (first|(refine AKM.x ?_;conv=>whnf)|(refine CallP.go (h1 _ _) ?_;conv=>whnf)))
  refine CalP.walkC 1000 N.integer_signed rfl rfl ?_
  (repeat' (refine AKM.x ?_;conv=>whnf))
  all_goals (refine ⟨rfl,?_⟩;(conv=>whnf);skip)
  exact FinP.go (agg_eZ (by omega) (sgn_F (by omega))) (cl_eZ _)
 ·(repeat' (first|(refine AKM.x ?_;conv=>whnf)|(refine CallP.go (h1 _ _) ?_;conv=>whnf)))
  refine CalP.walkC 1000 N.integer_signed rfl rfl ?_
  (repeat' (first|(refine CmpP.go (fun hc => ?_) (fun hc => ?_)<;>first|(exfalso;omega)|(conv=>whnf))|(refine LenP.go ?_;conv=>whnf)|(refine AKM.x ?_;conv=>whnf)))
  all_goals (refine ⟨rfl,?_⟩;(conv=>whnf);skip)
  ·exact FinP.go (agg_eZ (by omega) (sgn_T (by omega))) (cl_eZ _)
  ·exact FinP.go (agg_eZ (by omega) (sgn_F (by omega))) (cl_eZ _)
 ·(repeat' (first|(refine AKM.x ?_;conv=>whnf)|(refine CallP.go (h1 _ _) ?_;conv=>whnf)))
  refine CalP.walkC 1000 N.integer_signed rfl rfl ?_
  (repeat' (first|(refine CmpP.go (fun hc => ?_) (fun hc => ?_)<;>first|(exfalso;omega)|(conv=>whnf))|(refine LenP.go ?_;conv=>whnf)|(refine AKM.x ?_;conv=>whnf)))
  all_goals (refine ⟨rfl,?_⟩;(conv=>whnf);skip)
  ·exact FinP.go (agg_eZ (by omega) (sgn_T (by omega))) (cl_eZ _)
  ·exact FinP.go (agg_eZ (by omega) (sgn_F (by omega))) (cl_eZ _)
 ·(repeat' (first|(refine AKM.x ?_;conv=>whnf)|(refine CallP.go (h1 _ _) ?_;conv=>whnf)))
  refine CalP.walkC 1000 N.integer_signed rfl rfl ?_
  (repeat' (refine AKM.x ?_;conv=>whnf))
  all_goals (refine ⟨rfl,?_⟩;(conv=>whnf);skip)
  exact FinP.go (agg_eZ (by omega) (sgn_F (by omega))) (cl_eZ _)
end Go.Eng

namespace Go.Eng
open F
attribute [local irreducible] AKM CmpP Req OpP UnP ConvP RdP LdR StR MkR LenP AppR AppN CpyR RowP SnR Bds SlS CallP CalP FinP pw LdM GetM SetM PutM MkM AppM SnM FlP CallR
set_option maxHeartbeats 4000000
variable {L:Lib}
theorem dg_one:dg 1=[1]:=by rw[dg_pos (by omega)];simp [dg_zero]
theorem ev_isOne (N:RatGLib L) (V:Nat) (q:Bool):Ev L 90 [.sl q ((dg V).map e32)] (.bool (decide (V=1))):=by
 have hv:=val_dg V
 have hD:=dig_dg V
 have h1:V=1→dg V=[1]:=fun h=>by rw[h,dg_one]
 generalize dg V=l at *
 refine Ev.x N.rational_isOne rfl rfl ?_
 by_cases hl:l.length=1
 ·obtain ⟨d,rfl⟩:=List.length_eq_one_iff.1 hl
  have e:V=d:=by rw[←hv];simp [val]
  subst e
  have hd:[V][(0:Int).toNat]? = some V:=rfl
  (repeat' (first|(refine CmpP.go (fun hc => ?_) (fun hc => ?_)<;>first|(exfalso;omega)|(conv=>whnf))|(refine LenP.go ?_;conv=>whnf)|(refine RdP.at (by assumption) ?_ rfl ?_;omega;conv=>whnf)|(refine AKM.x ?_;conv=>whnf)))
  ·exact FinP.dt (by omega)
  ·exact FinP.df (by omega)
 ·(repeat' (first|(refine CmpP.go (fun hc => ?_) (fun hc => ?_)<;>first|(exfalso;omega)|(conv=>whnf))|(refine LenP.go ?_;conv=>whnf)|(refine AKM.x ?_;conv=>whnf)))
  exact FinP.df (fun h=>by rw[h1 h]at hl;simp at hl)
theorem ev_lowest (N:RatGLib L) (n q1 q2:Bool) (m d:List Nat) (hm:Sm 549755813888 m) (hd:Sm 549755813888 d) (h0:val d≠0):Ev L 94 [.agg (rQ q1 q2 n m d)] (.agg (eQ (qv n m d))):=by
 have hDM:=fun q q'=>ev_nat_DivMod N.toNatGLib m d q q' hm.1 hd.1 hm.2 hd.2 h0
 have hza:=zv_abs n m
 have sq:Sm 549755813888 (dg (val m/val d)):=hm.low (Nat.div_le_self _ _)
 have sr:Sm 549755813888 (dg (val m%val d)):=hd.low (Nat.le_of_lt (Nat.mod_lt _ (by omega)))
 have hT:=fun q=>ev_integer_Trim N n q _ sq
 have hG:=fun q q'=>ev_nat_Gcd N.toNatGLib d (dg (val m%val d)) q q' hd.1 sr.1 hd.2 sr.2
 rw[val_dg,show Nat.gcd (val d) (val m%val d)=Nat.gcd (val d) (zv n m).natAbs by rw[hza,gcd_mod_step,Nat.gcd_comm]]at hG
 have hgp:=gcd_pos' (zv n m).natAbs h0
 have hgd:=Nat.gcd_le_left (zv n m).natAbs (show 0<val d by omega)
 have hz:=dg_len0 (val m%val d)
 obtain ⟨e1,e2,e3⟩:=mk_parts (z:=zv n m) h0
 unfold qv
 generalize hGG:Nat.gcd (val d) (zv n m).natAbs=g at *
 have h1:=fun q=>ev_isOne N g q
 refine Ev.x N.rational_pair_lowest rfl rfl ?_
 by_cases hr0:val m%val d=0
 ·(repeat' (first|(refine CmpP.go (fun hc => ?_) (fun hc => ?_)<;>first|(exfalso;omega)|(conv=>whnf))|(refine LenP.go ?_;conv=>whnf)|(refine AKM.x ?_;conv=>whnf)|(refine CallP.go (hDM _ _) ?_;conv=>whnf)|(refine CallP.go (hT _) ?_;conv=>whnf)))
  refine CalP.walkC 1000 N.rational_whole rfl rfl ?_
  (repeat' (refine AKM.x ?_;conv=>whnf))
  refine ⟨rfl,?_⟩
  (conv=>whnf)
  (repeat' (refine SnR.e1 rfl ?_;conv=>whnf))
  have hge:g=val d:=by
   rw[←hGG,hza]
   exact Nat.gcd_eq_left (Nat.dvd_of_mod_eq_zero hr0)
  have hv:=val_dg (val m/val d)
  refine FinP.go ?_ ?_
  ·show _=AV.agg (rQ _ _ _ _ _)
   rw[e1,e2,e3,hza,hge,Nat.div_self (by omega),zv_abs,hv,dg_one]
   have hs:decide (zv n (dg (val m/val d))<0)=decide (zv n m<0):=by
    cases n
    ·rw[zv_F,zv_F];simp;omega
    ·rw[zv_T,zv_T,hv]
     congr 1
     rw[eq_iff_iff]
     have h5:=Nat.div_add_mod (val m) (val d)
     rw[hr0,Nat.add_zero]at h5
     constructor
     ·intro h6
      have h7:val m/val d≠0:=by omega
      have:val m≠0:=fun h8=>h7 (by rw[h8,Nat.zero_div])
      omega
     ·intro h6
      have h7:val m/val d≠0:=fun h8=>by rw[h8,Nat.mul_zero]at h5;omega
      omega
   rw[hs]
   rfl
  ·exact cl_eQ _
 ·by_cases hg1:g=1
  ·have hT1:=fun q=>ev_integer_Trim N n q m hm
   have hT2:=fun q=>ev_Trim N.toNatGLib d q hd.1 (by have:=hd.2;omega)
   (repeat' (first|(refine CmpP.go (fun hc => ?_) (fun hc => ?_)<;>first|(exfalso;omega)|(conv=>whnf))|(refine LenP.go ?_;conv=>whnf)|(refine AKM.x ?_;conv=>whnf)|(refine CallP.go (hDM _ _) ?_;conv=>whnf)|(refine CallP.go (hG _ _) ?_;conv=>whnf)|(refine CallP.b (h1 _) (fun hf => ?_) (fun hf => ?_)<;>(conv=>whnf))|(refine CallP.go (hT1 _) ?_;conv=>whnf)|(refine CallP.go (hT2 _) ?_;conv=>whnf)))
   ·refine FinP.go ?_ (cl_agg3 _ _ _)
    show _=AV.agg (rQ _ _ _ _ _)
    rw[e1,e2,e3,hg1,Nat.div_one,Nat.div_one]
   ·exact absurd hg1 hf
  ·have sg:Sm 549755813888 (dg g):=hd.low hgd
   have hD1:=fun q q'=>ev_nat_DivMod N.toNatGLib m (dg g) q q' hm.1 sg.1 hm.2 sg.2 (by rw[val_dg];omega)
   have hD2:=fun q q'=>ev_nat_DivMod N.toNatGLib d (dg g) q q' hd.1 sg.1 hd.2 sg.2 (by rw[val_dg];omega)
   rw[val_dg]at hD1 hD2
   (repeat' (first|(refine CmpP.go (fun hc => ?_) (fun hc => ?_)<;>first|(exfalso;omega)|(conv=>whnf))|(refine LenP.go ?_;conv=>whnf)|(refine AKM.x ?_;conv=>whnf)|(refine CallP.go (hDM _ _) ?_;conv=>whnf)|(refine CallP.go (hG _ _) ?_;conv=>whnf)|(refine CallP.b (h1 _) (fun hf => ?_) (fun hf => ?_)<;>(conv=>whnf))|(refine CallP.go (hD1 _ _) ?_;conv=>whnf)|(refine CallP.go (hD2 _ _) ?_;conv=>whnf)))
   ·exact absurd hf hg1
   ·refine FinP.go ?_ (cl_agg3 _ _ _)
    show _=AV.agg (rQ _ _ _ _ _)
    rw[e1,e2,e3,hza]
    have hs:n=decide (zv n m<0):=by
     have:val m≠0:=fun h=>hr0 (by rw[h,Nat.zero_mod])
     cases n
     ·exact sgn_F (by rw[zv_F];omega)
     ·exact sgn_T (by rw[zv_T];omega)
    rw[←hs]
theorem ev_natural (N:RatGLib L) (m:List Nat):Ev L 91 [.sl false (m.map e32)] (.agg [.bool false,.sl false (m.map e32)]):=by
 refine Ev.x N.rational_natural rfl rfl ?_
 (repeat' (refine AKM.x ?_;conv=>whnf))
 exact FinP.go rfl (cl_agg2 _ _)
def RdIs (n:Bool) (m d:List Nat) (n':Bool) (m' d':List Nat) (w:Bool) (k:Nat):Prop:=Sm k m'∧Sm k d'∧val d'≠0∧(w=true→val d'=1)∧qv n m d=mkRat (zv n' m') (val d')
theorem ev_read (N:RatGLib L) (n:Bool) (m d:List Nat) (k:Nat) (hk:1≤k∧k≤549755813888) (hm:Sm k m) (hd:Sm k d) : ∃ n' m' d' w,Ev L 89 [.agg (rQ false false n m d)] (.agg [.bool n',.sl false (m'.map e32),.sl false (d'.map e32),.bool w])∧RdIs n m d n' m' d' w k:=by
 have hcmp:=fun q q'=>ev_nat_Compare N.toNatGLib d [] q q' hd.1 dig_nil (by have:=hd.2;omega) (by simp)
 rw[val_nil]at hcmp
 by_cases h1:d=[1]
 ·subst h1
  refine ⟨n,m,[1],true,?_,hm,hd,by decide,fun _=>rfl,rfl⟩
  refine Ev.x N.rational_read rfl rfl ?_
  have hd:[1][(0:Int).toNat]? = some 1:=rfl
  have hll:([1]:List Nat).length=1:=rfl
  (repeat' (first|(refine CmpP.go (fun hc => ?_) (fun hc => ?_)<;>first|(exfalso;omega)|(conv=>whnf))|(refine LenP.go ?_;conv=>whnf)|(refine RdP.at (by assumption) ?_ rfl ?_;omega;conv=>whnf)|(refine AKM.x ?_;conv=>whnf)))
  exact FinP.go rfl (cl_agg4 _ _ _ _)
 have hne : ∀ x,d[(0:Int).toNat]? = some x→(d.length:Int)=1→(x:Int)≠1:=fun x hx hl h=>by
  obtain ⟨y,rfl⟩:=List.length_eq_one_iff.1 (show d.length=1 by omega)
  simp at hx
  apply h1
  congr 1
  omega
 by_cases h0:val d=0
 ·refine ⟨false,[],[1],true,?_,sm_nil _,sm_one hk.1 (by omega),by decide,fun _=>rfl,by unfold qv;rw[h0,Rat.mkRat_zero,zv_nil,Rat.zero_mkRat]⟩
  have hn:cmpS (val d) (0:Nat)=0:=(cmpS_eq (by omega)).symm
  rw[hn]at hcmp
  refine Ev.x N.rational_read rfl rfl ?_
  have hD:=hd.1
  (repeat' (first|(refine CmpP.go (fun hc => ?_) (fun hc => ?_)<;>first|(exfalso;omega)|(conv=>whnf))|(refine LenP.go ?_;conv=>whnf)|(refine RdP.digi (by assumption) ?_ (fun e he hb => ?_);omega;conv=>whnf)|(refine SnR.e1 rfl ?_;conv=>whnf)|(refine AKM.x ?_;conv=>whnf)|(refine CallP.go (hcmp _ _) ?_;conv=>whnf)))
  all_goals first
   | exact FinP.go rfl (cl_agg4 _ _ _ _)
   | exact FinP.go rfl (cl_agg4 false true [] [1])
   | exact absurd (by assumption) (hne _ he (by assumption))
 ·refine ⟨n,m,d,false,?_,hm,hd,h0,(fun h=>by cases h),rfl⟩
  have hn:cmpS (val d) (0:Nat)=1:=(cmpS_gt (by omega)).symm
  rw[hn]at hcmp
  have hD:=hd.1
  refine Ev.x N.rational_read rfl rfl ?_
  (repeat' (first|(refine CmpP.go (fun hc => ?_) (fun hc => ?_)<;>first|(exfalso;omega)|(conv=>whnf))|(refine LenP.go ?_;conv=>whnf)|(refine RdP.digi (by assumption) ?_ (fun e he hb => ?_);omega;conv=>whnf)|(refine AKM.x ?_;conv=>whnf)|(refine CallP.go (hcmp _ _) ?_;conv=>whnf)))
  all_goals first
   | exact FinP.go rfl (cl_agg4 _ _ _ _)
   | exact FinP.go rfl (cl_agg4 false true [] [1])
   | exact absurd (by assumption) (hne _ he (by assumption))
theorem ev_rational_Trim (N:RatGLib L) (n q1 q2:Bool) (m d:List Nat) (hm:Sm 549755813888 m) (hd:Sm 549755813888 d):Ev L 95 [.agg (rQ q1 q2 n m d)] (.agg (eQ (qv n m d))):=by
 obtain ⟨n',m',d',w,hr,s1,s2,s3,s4,s5⟩:=ev_read N n m d 549755813888 (by omega) hm hd
 have hl:=fun q1 q2=>ev_lowest N n' q1 q2 m' d' s1 s2 s3
 rw[s5]
 unfold qv at hl
 refine Ev.x N.rational_Trim rfl rfl ?_
 (repeat' (first|(refine FlP.n4 ?_;conv=>whnf)|(refine AKM.x ?_;conv=>whnf)|(refine CallP.go (hr) ?_;conv=>whnf)|(refine CallP.go (hl _ _) ?_;conv=>whnf)))
 exact FinP.go rfl (cl_eQ _)
theorem ev_rational_Sign (N:RatGLib L) (n q1 q2:Bool) (m d:List Nat) (hm:Sm 549755813888 m) (hd:Sm 549755813888 d):Ev L 97 [.agg (rQ q1 q2 n m d)] (.int .i64 (sgn (qv n m d).num)):=by
 obtain ⟨n',m',d',w,hr,s1,s2,s3,s4,s5⟩:=ev_read N n m d 549755813888 (by omega) hm hd
 have hl:=fun q=>ev_integer_Sign N n' q m' s1
 rw[s5,mk_sgn s3]
 refine Ev.x N.rational_Sign rfl rfl ?_
 (repeat' (first|(refine FlP.n4 ?_;conv=>whnf)|(refine AKM.x ?_;conv=>whnf)|(refine CallP.go (hr) ?_;conv=>whnf)|(refine CallP.go (hl _) ?_;conv=>whnf)))
 exact FinP.i rfl
theorem agg_whole (z:Int):AV.agg [.bool (decide (z<0)),.sl false ((dg z.natAbs).map e32),.sl false [[.int .u32 1]]] = .agg (eQ (z:Rat)):=by
 show _=AV.agg (rQ _ _ _ _ _)
 rw[Rat.num_intCast,Rat.den_intCast,dg_one];rfl
theorem ev_rational_Of (N:RatGLib L) (z:Int) (hz : -9223372036854775808≤z∧z≤9223372036854775807):Ev L 96 [.int .i64 z] (.agg (eQ (z:Rat))):=by
 have h1:=ev_integer_Of N z hz
 refine Ev.x N.rational_Of rfl rfl ?_
 (repeat' (first|(refine AKM.x ?_;conv=>whnf)|(refine CallP.go (h1) ?_;conv=>whnf)))
 refine CalP.walkC 1000 N.rational_whole rfl rfl ?_
 (repeat' (refine AKM.x ?_;conv=>whnf))
 refine ⟨rfl,?_⟩
 (conv=>whnf)
 (repeat' (refine SnR.e1 rfl ?_;conv=>whnf))
 exact FinP.go (agg_whole z) (cl_eQ _)
theorem sm_zmul {k l:Nat} {n1 n2:Bool} {a b:List Nat} (ha:Sm k a) (hb:Sm l b):Sm (k+l) (dg (zv n1 a*zv n2 b).natAbs):=ha.mul hb (by rw[Int.natAbs_mul,zv_abs,zv_abs])
theorem sm_zadd {k:Nat} {x y:Int} (ha:Sm k (dg x.natAbs)) (hb:Sm k (dg y.natAbs)):Sm (k+1) (dg (x+y).natAbs):=ha.add hb (by rw[val_dg,val_dg];omega)
theorem ev_rational_Add (N:RatGLib L) (k:Nat) (hk:1≤k∧k≤68719476736) (n1 n2 q1 q2 q3 q4:Bool) (m1 d1 m2 d2:List Nat) (hm1:Sm k m1) (hd1:Sm k d1) (hm2:Sm k m2) (hd2:Sm k d2) :
  Ev L 98 [.agg (rQ q1 q2 n1 m1 d1),.agg (rQ q3 q4 n2 m2 d2)] (.agg (eQ (qv n1 m1 d1+qv n2 m2 d2))):=by
 obtain ⟨a1,a2,a3,w1,hr1,s1,s2,s3,s4,s5⟩:=ev_read N n1 m1 d1 k (by omega) hm1 hd1
 obtain ⟨b1,b2,b3,w2,hr2,t1,t2,t3,t4,t5⟩:=ev_read N n2 m2 d2 k (by omega) hm2 hd2
 rw[s5,t5]
 have hA:=fun q q'=>ev_integer_Add N a1 b1 q q' a2 b2 (s1.le (by omega)) (t1.le (by omega))
 have hsum:Sm (k+1) (dg (zv a1 a2+zv b1 b2).natAbs):=sm_zadd (by rw[zv_abs];exact s1.nrm) (by rw[zv_abs];exact t1.nrm)
 by_cases hw:w1=true∧w2=true
 ·obtain ⟨rfl,rfl⟩:=hw
  rw[s4 rfl,t4 rfl,mk_add_same (by omega),mk_one]
  generalize zv a1 a2+zv b1 b2=z at *
  refine Ev.x N.rational_Add rfl rfl ?_
  (repeat' (first|(refine FlP.n4 ?_;conv=>whnf)|(refine AKM.x ?_;conv=>whnf)|(refine CallP.go (hr1) ?_;conv=>whnf)|(refine CallP.go (hr2) ?_;conv=>whnf)|(refine CallP.go (hA _ _) ?_;conv=>whnf)))
  refine CalP.walkC 1000 N.rational_whole rfl rfl ?_
  (repeat' (refine AKM.x ?_;conv=>whnf))
  refine ⟨rfl,?_⟩
  (conv=>whnf)
  (repeat' (refine SnR.e1 rfl ?_;conv=>whnf))
  exact FinP.go (agg_whole z) (cl_eQ _)
 ·have hcmp:=fun q q'=>ev_nat_Compare N.toNatGLib a3 b3 q q' s2.1 t2.1 (by have:=s2.2;omega) (by have:=t2.2;omega)
  by_cases hde:val a3=val b3
  ·have hn:cmpS (val a3) (val b3)=0:=(cmpS_eq (by omega)).symm
   rw[hn]at hcmp
   rw[←hde,mk_add_same s3]
   generalize zv a1 a2+zv b1 b2=z at *
   have hl:=fun q1 q2=>ev_lowest N (decide (z<0)) q1 q2 (dg z.natAbs) a3 (hsum.le (by omega)) (s2.le (by omega)) s3
   unfold qv at hl
   rw[zv_of]at hl
   refine Ev.x N.rational_Add rfl rfl ?_
   cases w1<;>cases w2
   ·(repeat' (first|(refine CmpP.go (fun hc => ?_) (fun hc => ?_)<;>first|(exfalso;omega)|(conv=>whnf))|(refine FlP.n4 ?_;conv=>whnf)|(refine AKM.x ?_;conv=>whnf)|(refine CallP.go (hr1) ?_;conv=>whnf)|(refine CallP.go (hr2) ?_;conv=>whnf)|(refine CallP.go (hA _ _) ?_;conv=>whnf)|(refine CallP.go (hcmp _ _) ?_;conv=>whnf)|(refine CallP.go (hl _ _) ?_;conv=>whnf)))
    exact FinP.go rfl (cl_eQ _)
   ·(repeat' (first|(refine CmpP.go (fun hc => ?_) (fun hc => ?_)<;>first|(exfalso;omega)|(conv=>whnf))|(refine FlP.n4 ?_;conv=>whnf)|(refine AKM.x ?_;conv=>whnf)|(refine CallP.go (hr1) ?_;conv=>whnf)|(refine CallP.go (hr2) ?_;conv=>whnf)|(refine CallP.go (hA _ _) ?_;conv=>whnf)|(refine CallP.go (hcmp _ _) ?_;conv=>whnf)|(refine CallP.go (hl _ _) ?_;conv=>whnf)))
    exact FinP.go rfl (cl_eQ _)
   ·(repeat' (first|(refine CmpP.go (fun hc => ?_) (fun hc => ?_)<;>first|(exfalso;omega)|(conv=>whnf))|(refine FlP.n4 ?_;conv=>whnf)|(refine AKM.x ?_;conv=>whnf)|(refine CallP.go (hr1) ?_;conv=>whnf)|(refine CallP.go (hr2) ?_;conv=>whnf)|(refine CallP.go (hA _ _) ?_;conv=>whnf)|(refine CallP.go (hcmp _ _) ?_;conv=>whnf)|(refine CallP.go (hl _ _) ?_;conv=>whnf)))
    exact FinP.go rfl (cl_eQ _)
   ·exact absurd ⟨rfl,rfl⟩ hw
  ·have hn:cmpS (val a3) (val b3)≠0:=by unfold cmpS;split<;>(try split)<;>omega
   generalize cmpS (val a3) (val b3)=cm at *
   have hM1:=fun q q'=>ev_integer_Mul N a1 false q q' a2 b3 s1.1 t2.1 (by have:=s1.2;have:=t2.2;omega)
   have hM2:=fun q q'=>ev_integer_Mul N b1 false q q' b2 a3 t1.1 s2.1 (by have:=t1.2;have:=s2.2;omega)
   have hM3:=fun q q'=>ev_nat_Mul N.toNatGLib a3 b3 q q' s2.1 t2.1 (by have:=s2.2;have:=t2.2;omega)
   have hna:=ev_natural N a3
   have hnb:=ev_natural N b3
   have g1:Sm (k+k) (dg (zv a1 a2*zv false b3).natAbs):=sm_zmul s1 t2
   have g2:Sm (k+k) (dg (zv b1 b2*zv false a3).natAbs):=sm_zmul t1 s2
   have g3:=sm_zadd g1 g2
   have g4:Sm (k+k) (dg (val a3*val b3)):=s2.mul t2 rfl
   rw[mk_add s3 t3,←zv_F b3,←zv_F a3]
   have hden:val a3*val b3≠0:=Nat.mul_ne_zero s3 t3
   generalize zv a1 a2*zv false b3=x at *
   generalize zv b1 b2*zv false a3=y at *
   generalize val a3*val b3=D at *
   have hA2:=fun q q'=>ev_integer_Add N (decide (x<0)) (decide (y<0)) q q' (dg x.natAbs) (dg y.natAbs) (g1.le (by omega)) (g2.le (by omega))
   rw[zv_of,zv_of]at hA2
   generalize x+y=z at *
   have hl:=fun q1 q2=>ev_lowest N (decide (z<0)) q1 q2 (dg z.natAbs) (dg D) (g3.le (by omega)) (g4.le (by omega)) (by rw[val_dg];exact hden)
   unfold qv at hl
   rw[zv_of,val_dg]at hl
   refine Ev.x N.rational_Add rfl rfl ?_
   cases w1<;>cases w2
   ·(repeat' (first|(refine CmpP.go (fun hc => ?_) (fun hc => ?_)<;>first|(exfalso;omega)|(conv=>whnf))|(refine FlP.n4 ?_;conv=>whnf)|(refine FlP.n2 ?_;conv=>whnf)|(refine AKM.x ?_;conv=>whnf)|(refine CallP.go (hr1) ?_;conv=>whnf)|(refine CallP.go (hr2) ?_;conv=>whnf)|(refine CallP.go (hcmp _ _) ?_;conv=>whnf)|(refine CallP.go (hna) ?_;conv=>whnf)|(refine CallP.go (hnb) ?_;conv=>whnf)|(refine CallP.go (hM1 _ _) ?_;conv=>whnf)|(refine CallP.go (hM2 _ _) ?_;conv=>whnf)|(refine CallP.go (hA2 _ _) ?_;conv=>whnf)|(refine CallP.go (hM3 _ _) ?_;conv=>whnf)|(refine CallP.go (hl _ _) ?_;conv=>whnf)))
    exact FinP.go rfl (cl_eQ _)
   ·(repeat' (first|(refine CmpP.go (fun hc => ?_) (fun hc => ?_)<;>first|(exfalso;omega)|(conv=>whnf))|(refine FlP.n4 ?_;conv=>whnf)|(refine FlP.n2 ?_;conv=>whnf)|(refine AKM.x ?_;conv=>whnf)|(refine CallP.go (hr1) ?_;conv=>whnf)|(refine CallP.go (hr2) ?_;conv=>whnf)|(refine CallP.go (hcmp _ _) ?_;conv=>whnf)|(refine CallP.go (hna) ?_;conv=>whnf)|(refine CallP.go (hnb) ?_;conv=>whnf)|(refine CallP.go (hM1 _ _) ?_;conv=>whnf)|(refine CallP.go (hM2 _ _) ?_;conv=>whnf)|(refine CallP.go (hA2 _ _) ?_;conv=>whnf)|(refine CallP.go (hM3 _ _) ?_;conv=>whnf)|(refine CallP.go (hl _ _) ?_;conv=>whnf)))
    exact FinP.go rfl (cl_eQ _)
   ·(repeat' (first|(refine CmpP.go (fun hc => ?_) (fun hc => ?_)<;>first|(exfalso;omega)|(conv=>whnf))|(refine FlP.n4 ?_;conv=>whnf)|(refine FlP.n2 ?_;conv=>whnf)|(refine AKM.x ?_;conv=>whnf)|(refine CallP.go (hr1) ?_;conv=>whnf)|(refine CallP.go (hr2) ?_;conv=>whnf)|(refine CallP.go (hcmp _ _) ?_;conv=>whnf)|(refine CallP.go (hna) ?_;conv=>whnf)|(refine CallP.go (hnb) ?_;conv=>whnf)|(refine CallP.go (hM1 _ _) ?_;conv=>whnf)|(refine CallP.go (hM2 _ _) ?_;conv=>whnf)|(refine CallP.go (hA2 _ _) ?_;conv=>whnf)|(refine CallP.go (hM3 _ _) ?_;conv=>whnf)|(refine CallP.go (hl _ _) ?_;conv=>whnf)))
    exact FinP.go rfl (cl_eQ _)
   ·exact absurd ⟨rfl,rfl⟩ hw
theorem ev_rational_Mul (N:RatGLib L) (k:Nat) (hk:1≤k∧k≤68719476736) (n1 n2 q1 q2 q3 q4:Bool) (m1 d1 m2 d2:List Nat) (hm1:Sm k m1) (hd1:Sm k d1) (hm2:Sm k m2) (hd2:Sm k d2) :
  Ev L 99 [.agg (rQ q1 q2 n1 m1 d1),.agg (rQ q3 q4 n2 m2 d2)] (.agg (eQ (qv n1 m1 d1*qv n2 m2 d2))):=by
 obtain ⟨a1,a2,a3,w1,hr1,s1,s2,s3,s4,s5⟩:=ev_read N n1 m1 d1 k (by omega) hm1 hd1
 obtain ⟨b1,b2,b3,w2,hr2,t1,t2,t3,t4,t5⟩:=ev_read N n2 m2 d2 k (by omega) hm2 hd2
 rw[s5,t5,mk_mul]
 have hM1:=fun q q'=>ev_integer_Mul N a1 b1 q q' a2 b2 s1.1 t1.1 (by have:=s1.2;have:=t1.2;omega)
 have hM3:=fun q q'=>ev_nat_Mul N.toNatGLib a3 b3 q q' s2.1 t2.1 (by have:=s2.2;have:=t2.2;omega)
 have g1:Sm (k+k) (dg (zv a1 a2*zv b1 b2).natAbs):=sm_zmul s1 t1
 have g4:Sm (k+k) (dg (val a3*val b3)):=s2.mul t2 rfl
 have hden:val a3*val b3≠0:=Nat.mul_ne_zero s3 t3
 generalize zv a1 a2*zv b1 b2=z at *
 by_cases hw:w1=true∧w2=true
 ·obtain ⟨rfl,rfl⟩:=hw
  rw[s4 rfl,t4 rfl,Nat.one_mul,mk_one]
  refine Ev.x N.rational_Mul rfl rfl ?_
  (repeat' (first|(refine FlP.n4 ?_;conv=>whnf)|(refine AKM.x ?_;conv=>whnf)|(refine CallP.go (hr1) ?_;conv=>whnf)|(refine CallP.go (hr2) ?_;conv=>whnf)|(refine CallP.go (hM1 _ _) ?_;conv=>whnf)))
  refine CalP.walkC 1000 N.rational_whole rfl rfl ?_
  (repeat' (refine AKM.x ?_;conv=>whnf))
  refine ⟨rfl,?_⟩
  (conv=>whnf)
  (repeat' (refine SnR.e1 rfl ?_;conv=>whnf))
  exact FinP.go (agg_whole z) (cl_eQ _)
 ·generalize val a3*val b3=D at *
  have hl:=fun q1 q2=>ev_lowest N (decide (z<0)) q1 q2 (dg z.natAbs) (dg D) (g1.le (by omega)) (g4.le (by omega)) (by rw[val_dg];exact hden)
  unfold qv at hl
  rw[zv_of,val_dg]at hl
  refine Ev.x N.rational_Mul rfl rfl ?_
  cases w1<;>cases w2
  ·(repeat' (first|(refine FlP.n4 ?_;conv=>whnf)|(refine AKM.x ?_;conv=>whnf)|(refine CallP.go (hr1) ?_;conv=>whnf)|(refine CallP.go (hr2) ?_;conv=>whnf)|(refine CallP.go (hM1 _ _) ?_;conv=>whnf)|(refine CallP.go (hM3 _ _) ?_;conv=>whnf)|(refine CallP.go (hl _ _) ?_;conv=>whnf)))
   exact FinP.go rfl (cl_eQ _)
  ·(repeat' (first|(refine FlP.n4 ?_;conv=>whnf)|(refine AKM.x ?_;conv=>whnf)|(refine CallP.go (hr1) ?_;conv=>whnf)|(refine CallP.go (hr2) ?_;conv=>whnf)|(refine CallP.go (hM1 _ _) ?_;conv=>whnf)|(refine CallP.go (hM3 _ _) ?_;conv=>whnf)|(refine CallP.go (hl _ _) ?_;conv=>whnf)))
   exact FinP.go rfl (cl_eQ _)
  ·(repeat' (first|(refine FlP.n4 ?_;conv=>whnf)|(refine AKM.x ?_;conv=>whnf)|(refine CallP.go (hr1) ?_;conv=>whnf)|(refine CallP.go (hr2) ?_;conv=>whnf)|(refine CallP.go (hM1 _ _) ?_;conv=>whnf)|(refine CallP.go (hM3 _ _) ?_;conv=>whnf)|(refine CallP.go (hl _ _) ?_;conv=>whnf)))
   exact FinP.go rfl (cl_eQ _)
  ·exact absurd ⟨rfl,rfl⟩ hw
end Go.Eng

namespace Go.Eng
open F
variable {L:Lib}
theorem Bt.sm {k:Nat} {x:Rat} (h:Bt k x) (hk:k<2199023255552):Sm 68719476736 (dg x.num.natAbs)∧Sm 68719476736 (dg x.den):=h.dig (by omega)
theorem ev_addQ (N:RatGLib L) {x y:Rat} {k l:Nat} (hx:Bt k x) (hy:Bt l y) (hk:k<2199023255552) (hl:l<2199023255552):Ev L 98 [.agg (eQ x),.agg (eQ y)] (.agg (eQ (x+y))):=by
 have:=ev_rational_Add N 68719476736 (by omega) (decide (x.num<0)) (decide (y.num<0)) false false false false _ _ _ _ (hx.sm hk).1 (hx.sm hk).2 (hy.sm hl).1 (hy.sm hl).2
 rw[qv_of,qv_of]at this
 exact this
theorem ev_mulQ (N:RatGLib L) {x y:Rat} {k l:Nat} (hx:Bt k x) (hy:Bt l y) (hk:k<2199023255552) (hl:l<2199023255552):Ev L 99 [.agg (eQ x),.agg (eQ y)] (.agg (eQ (x*y))):=by
 have:=ev_rational_Mul N 68719476736 (by omega) (decide (x.num<0)) (decide (y.num<0)) false false false false _ _ _ _ (hx.sm hk).1 (hx.sm hk).2 (hy.sm hl).1 (hy.sm hl).2
 rw[qv_of,qv_of]at this
 exact this
theorem ev_trimQ (N:RatGLib L) {x:Rat} {k:Nat} (hx:Bt k x) (hk:k<2199023255552):Ev L 95 [.agg (eQ x)] (.agg (eQ x)):=by
 have:=ev_rational_Trim N (decide (x.num<0)) false false _ _ ((hx.sm hk).1.le (by omega)) ((hx.sm hk).2.le (by omega))
 rw[qv_of]at this
 exact this
theorem ev_signQ (N:RatGLib L) {x:Rat} {k:Nat} (hx:Bt k x) (hk:k<2199023255552):Ev L 97 [.agg (eQ x)] (.int .i64 (sgn x.num)):=by
 have:=ev_rational_Sign N (decide (x.num<0)) false false _ _ ((hx.sm hk).1.le (by omega)) ((hx.sm hk).2.le (by omega))
 rw[qv_of]at this
 exact this
theorem sgn_num {x:Rat}:sgn x.num=0↔x=0:=by
 rw[←Rat.num_eq_zero]
 unfold sgn
 split
 ·omega
 ·split<;>omega
end Go.Eng

namespace Go.Eng
open F
attribute [local irreducible] AKM CmpP Req OpP UnP ConvP RdP LdR StR MkR LenP AppR AppN CpyR RowP SnR Bds SlS CallP CalP FinP pw LdM GetM SetM PutM MkM AppM SnM FlP CallR
set_option maxHeartbeats 4000000
variable {L:Lib}
theorem qv_not (n:Bool) (m d:List Nat):qv (!n) m d = -(qv n m d):=by
 unfold qv
 have h:zv (!n) m = -(zv n m):=by cases n<;>simp [zv]
 rw[h,Rat.neg_mkRat]
theorem cl_rQ (n:Bool) (m d:List Nat):Clean (.agg (rQ false false n m d)):=by
 simp only[Clean,CleanL,and_true,true_and]
 exact ⟨cl_dig _,cl_dig _⟩
theorem ev_flip (N:RatHLib L) (n:Bool) (m d:List Nat):Ev L 149 [.agg (rQ false false n m d)] (.agg (rQ false false (!n) m d)):=by
 refine Ev.x N.rational_flip rfl rfl ?_
 cases n
 all_goals
  (repeat' (refine AKM.x ?_;conv=>whnf))
  exact FinP.go rfl (cl_rQ _ _ _)
theorem ev_subQ (N:RatHLib L) {x y:Rat} {k l:Nat} (hx:Bt k x) (hy:Bt l y) (hk:k<2199023255552) (hl:l<2199023255552):Ev L 150 [.agg (eQ x),.agg (eQ y)] (.agg (eQ (x-y))):=by
 have hF:=ev_flip N (decide (y.num<0)) (dg y.num.natAbs) (dg y.den)
 have hA:=fun q3 q4=>ev_rational_Add N.toRatGLib 68719476736 (by omega) (decide (x.num<0)) (!decide (y.num<0)) false false q3 q4 _ _ _ _ (hx.sm hk).1 (hx.sm hk).2 (hy.sm hl).1 (hy.sm hl).2
 rw[qv_not,qv_of,qv_of,←Rat.sub_eq_add_neg]at hA
 refine Ev.x N.rational_Sub rfl rfl ?_
 (repeat' (first|(refine FlP.n3 ?_;conv=>whnf)|(refine AKM.x ?_;conv=>whnf)|(refine CallP.go (hF) ?_;conv=>whnf)|(refine CallP.go (hA _ _) ?_;conv=>whnf)))
 exact FinP.go rfl (cl_eQ _)
theorem mk_sign {x y:Int} (h:y≠0):mkRat (y.sign*x) y.natAbs=Rat.divInt x y:=by
 obtain ⟨d,hd|hd⟩:=Int.eq_nat_or_neg y
 ·subst hd
  rw[Int.sign_eq_one_of_pos (by omega),Int.one_mul,Int.natAbs_natCast,Rat.divInt_ofNat]
 ·subst hd
  rw[Int.sign_eq_neg_one_of_neg (by omega),Int.natAbs_neg,Int.natAbs_natCast,Rat.divInt_neg',Rat.divInt_ofNat,Int.neg_one_mul]
theorem ev_FracQ (N:RatHLib L) (x y:Int) (hx : -9223372036854775808≤x∧x≤9223372036854775807) (hy : -9223372036854775808≤y∧y≤9223372036854775807) (h0:y≠0):Ev L 151 [.int .i64 x,.int .i64 y] (.agg (eQ (Rat.divInt x y))):=by
 have h1:=ev_integer_Of N.toRatGLib x hx
 have h2:=ev_integer_Of N.toRatGLib y hy
 have g1:Sm 2 (dg x.natAbs):=Sm.dg (by omega)
 have g2:Sm 2 (dg y.natAbs):=Sm.dg (by omega)
 have hl:=fun q1 q2=>ev_lowest N.toRatGLib (decide (x<0) != decide (y<0)) q1 q2 (dg x.natAbs) (dg y.natAbs) (g1.le (by omega)) (g2.le (by omega)) (by rw[val_dg];omega)
 unfold qv at hl
 rw[zv_quot h0,val_dg,mk_sign h0]at hl
 refine Ev.x N.rational_Frac rfl rfl ?_
 (repeat' (first|(refine CmpP.go (fun hc => ?_) (fun hc => ?_)<;>first|(exfalso;omega)|(conv=>whnf))|(refine AKM.x ?_;conv=>whnf)|(refine CallP.go (h1) ?_;conv=>whnf)|(refine CallP.go (h2) ?_;conv=>whnf)))
 refine CalP.walkC 1000 N.rational_quotient rfl rfl ?_
 (repeat' (refine AKM.x ?_;conv=>whnf))
 generalize decide (x<0)=p at *
 generalize decide (y<0)=r at *
 cases p<;>cases r
 all_goals
  (conv=>whnf)
  refine ⟨rfl,?_⟩
  (conv=>whnf)
  (repeat' (refine CallP.go (hl _ _) ?_;conv=>whnf))
  exact FinP.go rfl (cl_eQ _)
end Go.Eng

namespace Go.Eng
open F
attribute [local irreducible] AKM CmpP Req OpP UnP ConvP RdP LdR StR MkR LenP AppR AppN CpyR RowP SnR Bds SlS CallP CalP FinP pw LdM GetM SetM PutM MkM AppM SnM FlP CallR
set_option maxHeartbeats 8000000
variable {L:Lib}
def addP (p r:List Rat):List Rat:=(List.range p.length).map fun i=>p.getD i 0+r.getD i 0
theorem addP_len (p r:List Rat):(addP p r).length=p.length:=by simp [addP]
theorem addP_at {p r:List Rat} {i:Nat} (h:i<p.length):(addP p r)[i]? = some (p.getD i 0+r.getD i 0):=by
 simp only[addP,List.getElem?_map,List.getElem?_range h,Option.map_some]
theorem gD_of {l:List Rat} {i:Nat} {x:Rat} (h:l[i]? = some x):l.getD i 0=x:=by rw[List.getD_eq_getElem?_getD,h];rfl
theorem gD_ge {l:List Rat} {i:Nat} (h:l.length≤i):l.getD i 0=0:=by rw[List.getD_eq_getElem?_getD,List.getElem?_eq_none h];rfl
theorem ev_pTrim (N:PolyGLib L) (q:Bool) (l:List Rat) (k:Nat) (hl:Bs k l) (hk:k<2199023255552) (hn:l.length≤1000000):Ev L 170 [.sl q (l.map eQ)] (.sl false ((trimQ l).map eQ)):=by
 refine Ev.x N.poly_Trim rfl rfl ?_
 (repeat' (refine AKM.x ?_;conv=>whnf))
 refine CalP.walk 1000 N.poly_cut rfl rfl ?_
 (repeat' (first|(refine LenP.go ?_;conv=>whnf)|(refine AKM.x ?_;conv=>whnf)))
 refine AKM.loop1 (fun n=>n) (fun (n:Nat)=>n≤l.length∧cutN l l.length=cutN l n) (fun n=>[(3,.int .i64 n)]) (fun _=>[]) [] [] l.length (by (conv=>whnf);exact ⟨rfl,rfl,rfl⟩) ⟨Nat.le_refl _,rfl⟩ ?_
 intro n ⟨p1,p2⟩ ih
 have done : ∀ {n:Nat},cutN l l.length=n→trimQ l=l.take n:=fun h=>by rw[trimQ,h]
 by_cases hz:n=0∨(∃ m x,n=m+1∧l[m]? = some x∧x≠0)
 ·have hcut:cutN l l.length=n:=by
   rw[p2]
   rcases hz with rfl|⟨m,x,rfl,h1,h2⟩
   ·rfl
   ·rw[cutN,if_neg]
    rw[List.getD_eq_getElem?_getD,h1];exact h2
  have htq:=done hcut
  have htl:(l.take n).length=n:=by rw[List.length_take];omega
  clear ih hcut p2 done
  rcases hz with h0|⟨m,x,hnm,h1,h2⟩
  case' inl=>(repeat' (first|(refine CmpP.go (fun hc => ?_) (fun hc => ?_)<;>first|(exfalso;omega)|(conv=>whnf))|(refine AKM.x ?_;conv=>whnf)))
  case' inr =>
   have h1':l[((n:Int)-1).toNat]? = some x:=by rw[show ((n:Int)-1).toNat=m by omega];exact h1
   have hS':=ev_signQ N.toRatGLib (hl.at h1) (by omega)
   have hs:=sgn_num (x:=x)
   generalize sgn x.num=s at *
   have hS : ∀ v,l[((n:Int)-1).toNat]? = some v→Ev L 97 [.agg (eQ v)] (.int .i64 s):=fun v h=>by
    obtain rfl:=Option.some.inj (h1'.symm.trans h)
    exact hS'
   have hs0:s≠0:=fun h=>h2 (hs.1 h)
   (repeat' (first|(refine CmpP.go (fun hc => ?_) (fun hc => ?_)<;>first|(exfalso;omega)|(conv=>whnf))|(refine OpP.sub ?_ ?_;omega;conv=>whnf)|(refine RdP.at (by assumption) ?_ rfl ?_;omega;conv=>whnf)|(refine AKM.x ?_;conv=>whnf)|(refine CallP.go (hS') ?_;conv=>whnf)))
  all_goals
   refine SlS.to (enc:=eQ) (fun _=>rfl) p1 ?_
   (conv=>whnf)
   skip
   refine ⟨rfl,_,rfl,?_⟩
   (conv=>whnf)
   (repeat' (refine LenP.go ?_;conv=>whnf))
   refine MkR.go (enc:=eO) none n rfl (by rw[htl]) (by omega) ?_
   (conv=>whnf)
   skip
   refine AKM.loop1 (fun i=>n-i) (fun (i:Nat)=>i≤n) (fun i=>[(11,.int .i64 i)]) (fun i=>[(170008,170008,.rw 3 ((fillO (l.take i) n).map eO))]) [] [] 0 (by first|exact (by (conv=>whnf);exact ⟨rfl,rfl,rfl⟩)|(rw[List.take_zero,←fillO_nil];exact (by (conv=>whnf);exact ⟨rfl,rfl,rfl⟩))) (by omega) ?_
   intro i g1 ih
   by_cases hi:i<n
   ·all_goals try (exfalso;omega)
    all_goals
     obtain ⟨y,hy⟩ : ∃ y,l[i]? = some y:=⟨_,List.getElem?_eq_getElem (by omega)⟩
     have hy':l[(i:Int).toNat]? = some y:=hy
     have hti:(l.take i).length=i:=by rw[List.length_take];omega
     have hlf:=fillO_len (l:=l.take i) (m:=n) (by omega)
     have hst:=fillO_set (l:=l.take i) (m:=n) (x:=y) (by omega)
     rw[hti,←take_snocQ hy]at hst
     have hT':=ev_trimQ N.toRatGLib (hl.at hy) (by omega)
     have hT : ∀ v,l[(i:Int).toNat]? = some v→Ev L 95 [.agg (eQ v)] (.agg (eQ y)):=fun v h=>by
      obtain rfl:=Option.some.inj (hy'.symm.trans h)
      exact hT'
     (repeat' (first|(refine CmpP.go (fun hc => ?_) (fun hc => ?_)<;>first|(exfalso;omega)|(conv=>whnf))|(refine Req.go ?_ ?_;omega;conv=>whnf)|(refine RdP.at (by assumption) ?_ rfl ?_;omega;conv=>whnf)|(refine AKM.x ?_;conv=>whnf)|(refine CallP.go (hT') ?_;conv=>whnf)))
     refine StR.nat (enc:=eO) (some y) rfl (fun e=>by cases e<;>rfl) (by omega) ?_
     (conv=>whnf)
     (repeat' (refine OpP.add ?_ ?_;omega;conv=>whnf))
     rw[hst]
     exact AKM.back [] (by (conv=>whnf);exact ⟨rfl,rfl,rfl⟩) (ih (i+1) (by omega) (by omega))
   ·obtain rfl:i=n:=by omega
    clear ih
    rw[fillO_full htl,←htq]at *
    rw[←htq]at htl
    (repeat' (first|(refine CmpP.go (fun hc => ?_) (fun hc => ?_)<;>first|(exfalso;omega)|(conv=>whnf))|(refine AKM.x ?_;conv=>whnf)))
    refine SnR.all (enc:=eQ) (fun _=>rfl) rfl htl.symm ?_
    (conv=>whnf)
    exact FinP.go rfl (by simp only[Clean,true_and];exact cl_eQs _)
 ·obtain ⟨m,rfl⟩ : ∃ m,n=m+1:=⟨n-1,by omega⟩
  obtain ⟨x,hx⟩ : ∃ x,l[m]? = some x:=⟨_,List.getElem?_eq_getElem (by omega)⟩
  have hx0:x=0:=by
   rcases Classical.em (x=0) with h|h
   ·exact h
   ·exact (hz (Or.inr ⟨m,x,rfl,hx,h⟩)).elim
  have hx':l[((m+1:Nat)-1:Int).toNat]? = some x:=by rw[show ((m+1:Nat)-1:Int).toNat=m by omega];exact hx
  have hS':=ev_signQ N.toRatGLib (hl.at hx) (by omega)
  have hs:=sgn_num (x:=x)
  generalize sgn x.num=s at *
  have hS : ∀ v,l[((m+1:Nat)-1:Int).toNat]? = some v→Ev L 97 [.agg (eQ v)] (.int .i64 s):=fun v h=>by
   obtain rfl:=Option.some.inj (hx'.symm.trans h)
   exact hS'
  have hs0:=hs.2 hx0
  (repeat' (first|(refine CmpP.go (fun hc => ?_) (fun hc => ?_)<;>first|(exfalso;omega)|(conv=>whnf))|(refine OpP.sub ?_ ?_;omega;conv=>whnf)|(refine RdP.at (by assumption) ?_ rfl ?_;omega;conv=>whnf)|(refine AKM.x ?_;conv=>whnf)|(refine CallP.go (hS') ?_;conv=>whnf)))
  rw[show ((m+1:Nat):Int)-1=(m:Int) by omega]
  exact AKM.back [] (by (conv=>whnf);exact ⟨rfl,rfl,rfl⟩) (ih m (by omega) ⟨by omega,by rw[p2,cutN,if_pos (by rw[List.getD_eq_getElem?_getD,hx];exact hx0)]⟩)
theorem ev_pScale (N:TrGLib L) (q:Bool) (l:List Rat) (d:Rat) (k j:Nat) (hl:Bs k l) (hd:Bt j d) (hk:k+j<2199023255552) (hn:l.length≤1000000):Ev L 190 [.sl q (l.map eQ),.agg (eQ d)] (.sl false ((trimQ (l.map (· * d))).map eQ)):=by
 refine Ev.x N.poly_Scale rfl rfl ?_
 (repeat' (first|(refine LenP.go ?_;conv=>whnf)|(refine AKM.x ?_;conv=>whnf)))
 refine MkR.go (enc:=eO) none l.length rfl rfl (by omega) ?_
 (conv=>whnf)
 skip
 refine AKM.loop1 (fun i=>l.length-i) (fun (i:Nat)=>i≤l.length) (fun i=>[(12,.int .i64 i)]) (fun i=>[(9,9,.rw 3 ((fillO ((l.map (· * d)).take i) l.length).map eO))]) [] [] 0 (by first|exact (by (conv=>whnf);exact ⟨rfl,rfl,rfl⟩)|(rw[List.take_zero,←fillO_nil];exact (by (conv=>whnf);exact ⟨rfl,rfl,rfl⟩))) (by omega) ?_
 intro i g1 ih
 by_cases hi:i<l.length
 ·obtain ⟨x,hx⟩ : ∃ x,l[i]? = some x:=⟨_,List.getElem?_eq_getElem hi⟩
  have hx':l[(i:Int).toNat]? = some x:=hx
  have hM:=ev_mulQ N.toRatGLib (hl.at hx) hd (by omega) (by omega)
  have hy:(l.map (· * d))[i]? = some (x*d):=by rw[List.getElem?_map,hx];rfl
  have hti:((l.map (· * d)).take i).length=i:=by rw[List.length_take,List.length_map];omega
  have hlf:=fillO_len (l:=(l.map (· * d)).take i) (m:=l.length) (by omega)
  have hst:=fillO_set (l:=(l.map (· * d)).take i) (m:=l.length) (x:=x*d) (by omega)
  rw[hti,←take_snocQ hy]at hst
  (repeat' (first|(refine CmpP.go (fun hc => ?_) (fun hc => ?_)<;>first|(exfalso;omega)|(conv=>whnf))|(refine Req.go ?_ ?_;omega;conv=>whnf)|(refine RdP.at (by assumption) ?_ rfl ?_;omega;conv=>whnf)|(refine AKM.x ?_;conv=>whnf)|(refine CallP.go (hM) ?_;conv=>whnf)))
  refine StR.nat (enc:=eO) (some (x*d)) rfl (fun e=>by cases e<;>rfl) (by omega) ?_
  (conv=>whnf)
  (repeat' (refine OpP.add ?_ ?_;omega;conv=>whnf))
  rw[hst]
  exact AKM.back [] (by (conv=>whnf);exact ⟨rfl,rfl,rfl⟩) (ih (i+1) (by omega) (by omega))
 ·obtain rfl:i=l.length:=by omega
  clear ih
  have hmb:Bs (k+j) (l.map (· * d)):=by
   intro y hy
   obtain ⟨x,hx,rfl⟩:=List.mem_map.1 hy
   exact (hl x hx).mul hd
  have hml:(l.map (· * d)).length=l.length:=List.length_map ..
  rw[List.take_of_length_le (Nat.le_of_eq hml),fillO_full hml,←hml]
  generalize l.map (· * d)=p at *
  (repeat' (first|(refine CmpP.go (fun hc => ?_) (fun hc => ?_)<;>first|(exfalso;omega)|(conv=>whnf))|(refine AKM.x ?_;conv=>whnf)))
  refine CalP.walk 1000 N.poly_cut rfl rfl ?_
  (repeat' (refine AKM.x ?_;conv=>whnf))
  refine AKM.loop1 (fun n=>n) (fun (n:Nat)=>n≤p.length∧cutN p p.length=cutN p n) (fun n=>[(3,.int .i64 n)]) (fun _=>[(9,9,.rw 3 (p.map eQ))]) [] [] p.length (by (conv=>whnf);exact ⟨rfl,rfl,rfl⟩) ⟨Nat.le_refl _,rfl⟩ ?_
  intro n ⟨p1,p2⟩ ih
  have done : ∀ {n:Nat},cutN p p.length=n→trimQ p=p.take n:=fun h=>by rw[trimQ,h]
  by_cases hz:n=0∨(∃ m x,n=m+1∧p[m]? = some x∧x≠0)
  ·have hcut:cutN p p.length=n:=by
    rw[p2]
    rcases hz with rfl|⟨m,x,rfl,h1,h2⟩
    ·rfl
    ·rw[cutN,if_neg]
     rw[List.getD_eq_getElem?_getD,h1];exact h2
   have htq:=done hcut
   have htl:(p.take n).length=n:=by rw[List.length_take];omega
   clear ih hcut p2 done
   rcases hz with h0|⟨m,x,hnm,h1,h2⟩
   case' inl=>(repeat' (first|(refine CmpP.go (fun hc => ?_) (fun hc => ?_)<;>first|(exfalso;omega)|(conv=>whnf))|(refine AKM.x ?_;conv=>whnf)))
   case' inr =>
    have h1':p[((n:Int)-1).toNat]? = some x:=by rw[show ((n:Int)-1).toNat=m by omega];exact h1
    have hS':=ev_signQ N.toRatGLib (hmb.at h1) (by omega)
    have hs:=sgn_num (x:=x)
    generalize sgn x.num=s at *
    have hS : ∀ v,p[((n:Int)-1).toNat]? = some v→Ev L 97 [.agg (eQ v)] (.int .i64 s):=fun v h=>by
     obtain rfl:=Option.some.inj (h1'.symm.trans h)
     exact hS'
    have hs0:s≠0:=fun h=>h2 (hs.1 h)
    (repeat' (first|(refine CmpP.go (fun hc => ?_) (fun hc => ?_)<;>first|(exfalso;omega)|(conv=>whnf))|(refine Req.go ?_ ?_;omega;conv=>whnf)|(refine OpP.sub ?_ ?_;omega;conv=>whnf)|(refine LdR.int ?_ (fun _=>rfl) (fun v hv => ?_);omega;conv=>whnf)|(refine AKM.x ?_;conv=>whnf)|(refine CallP.go (hS _ hv) ?_;conv=>whnf)))
   all_goals
    refine Bds.up n (by omega) (by omega) ?_
    (conv=>whnf)
    skip
    refine ⟨rfl,_,rfl,?_⟩
    (conv=>whnf)
    (refine SnR.part (enc:=eQ) (fun _=>rfl) (by omega) ?_;rw[List.drop_zero,Nat.sub_zero,←htq];exact FinP.go rfl (by simp only[Clean,true_and];exact cl_eQs _))
  ·obtain ⟨m,rfl⟩ : ∃ m,n=m+1:=⟨n-1,by omega⟩
   obtain ⟨x,hx⟩ : ∃ x,p[m]? = some x:=⟨_,List.getElem?_eq_getElem (by omega)⟩
   have hx0:x=0:=by
    rcases Classical.em (x=0) with h|h
    ·exact h
    ·exact (hz (Or.inr ⟨m,x,rfl,hx,h⟩)).elim
   have hx':p[((m+1:Nat)-1:Int).toNat]? = some x:=by rw[show ((m+1:Nat)-1:Int).toNat=m by omega];exact hx
   have hS':=ev_signQ N.toRatGLib (hmb.at hx) (by omega)
   have hs:=sgn_num (x:=x)
   generalize sgn x.num=s at *
   have hS : ∀ v,p[((m+1:Nat)-1:Int).toNat]? = some v→Ev L 97 [.agg (eQ v)] (.int .i64 s):=fun v h=>by
    obtain rfl:=Option.some.inj (hx'.symm.trans h)
    exact hS'
   have hs0:=hs.2 hx0
   (repeat' (first|(refine CmpP.go (fun hc => ?_) (fun hc => ?_)<;>first|(exfalso;omega)|(conv=>whnf))|(refine Req.go ?_ ?_;omega;conv=>whnf)|(refine OpP.sub ?_ ?_;omega;conv=>whnf)|(refine LdR.int ?_ (fun _=>rfl) (fun v hv => ?_);omega;conv=>whnf)|(refine AKM.x ?_;conv=>whnf)|(refine CallP.go (hS _ hv) ?_;conv=>whnf)))
   rw[show ((m+1:Nat):Int)-1=(m:Int) by omega]
   exact AKM.back [] (by (conv=>whnf);exact ⟨rfl,rfl,rfl⟩) (ih m (by omega) ⟨by omega,by rw[p2,cutN,if_pos (by rw[List.getD_eq_getElem?_getD,hx];exact hx0)]⟩)
theorem ev_pAdd (N:TrGLib L) (q1 q2:Bool) (p r:List Rat) (k j:Nat) (hp:Bs k p) (hr:Bs j r) (hk:k+j+1<2199023255552) (hn:p.length≤1000000) (hm:r.length≤p.length):Ev L 191 [.sl q1 (p.map eQ),.sl q2 (r.map eQ)] (.sl false ((trimQ (addP p r)).map eQ)):=by
 refine Ev.x N.poly_Add rfl rfl ?_
 (repeat' (first|(refine CmpP.go (fun hc => ?_) (fun hc => ?_)<;>first|(exfalso;omega)|(conv=>whnf))|(refine LenP.go ?_;conv=>whnf)|(refine AKM.x ?_;conv=>whnf)))
 refine MkR.go (enc:=eO) none p.length rfl rfl (by omega) ?_
 (conv=>whnf)
 skip
 have hml:=addP_len p r
 refine AKM.loop1 (fun i=>p.length-i) (fun (i:Nat)=>i≤p.length) (fun i=>[(19,.int .i64 i)]) (fun i=>[(16,16,.rw 3 ((fillO ((addP p r).take i) p.length).map eO))]) [] [] 0 (by first|exact (by (conv=>whnf);exact ⟨rfl,rfl,rfl⟩)|(rw[List.take_zero,←fillO_nil];exact (by (conv=>whnf);exact ⟨rfl,rfl,rfl⟩))) (by omega) ?_
 intro i g1 ih
 by_cases hi:i<p.length
 ·obtain ⟨x,hx⟩ : ∃ x,p[i]? = some x:=⟨_,List.getElem?_eq_getElem hi⟩
  have hx':p[(i:Int).toNat]? = some x:=hx
  have hy:=addP_at (r:=r) hi
  rw[gD_of hx]at hy
  have hti:((addP p r).take i).length=i:=by rw[List.length_take];omega
  have hlf:=fillO_len (l:=(addP p r).take i) (m:=p.length) (by omega)
  have hst:=fillO_set (l:=(addP p r).take i) (m:=p.length) (x:=x+r.getD i 0) (by omega)
  rw[hti,←take_snocQ hy]at hst
  by_cases h2:i<r.length
  ·obtain ⟨y,hy2⟩ : ∃ y,r[i]? = some y:=⟨_,List.getElem?_eq_getElem h2⟩
   have hy2':r[(i:Int).toNat]? = some y:=hy2
   rw[gD_of hy2]at hst
   have hA:=ev_addQ N.toRatGLib (hp.at hx) (hr.at hy2) (by omega) (by omega)
   (repeat' (first|(refine CmpP.go (fun hc => ?_) (fun hc => ?_)<;>first|(exfalso;omega)|(conv=>whnf))|(refine Req.go ?_ ?_;omega;conv=>whnf)|(refine LenP.go ?_;conv=>whnf)|(refine RdP.at (by assumption) ?_ rfl ?_;omega;conv=>whnf)|(refine AKM.x ?_;conv=>whnf)|(refine CallP.go (hA) ?_;conv=>whnf)))
   refine StR.nat (enc:=eO) (some (x+y)) rfl (fun e=>by cases e<;>rfl) (by omega) ?_
   (conv=>whnf)
   (repeat' (refine OpP.add ?_ ?_;omega;conv=>whnf))
   rw[hst]
   exact AKM.back [] (by (conv=>whnf);exact ⟨rfl,rfl,rfl⟩) (ih (i+1) (by omega) (by omega))
  ·rw[gD_ge (l:=r) (by omega),Rat.add_zero]at hst
   have hT:=ev_trimQ N.toRatGLib (hp.at hx) (by omega)
   (repeat' (first|(refine CmpP.go (fun hc => ?_) (fun hc => ?_)<;>first|(exfalso;omega)|(conv=>whnf))|(refine Req.go ?_ ?_;omega;conv=>whnf)|(refine LenP.go ?_;conv=>whnf)|(refine RdP.at (by assumption) ?_ rfl ?_;omega;conv=>whnf)|(refine AKM.x ?_;conv=>whnf)|(refine CallP.go (hT) ?_;conv=>whnf)))
   refine StR.nat (enc:=eO) (some x) rfl (fun e=>by cases e<;>rfl) (by omega) ?_
   (conv=>whnf)
   (repeat' (refine OpP.add ?_ ?_;omega;conv=>whnf))
   rw[hst]
   exact AKM.back [] (by (conv=>whnf);exact ⟨rfl,rfl,rfl⟩) (ih (i+1) (by omega) (by omega))
 ·obtain rfl:i=p.length:=by omega
  clear ih
  have hmb:Bs (k+j+1) (addP p r):=by
   intro z hz
   obtain ⟨i,hi⟩:=List.getElem?_of_mem hz
   have h1:=(List.getElem?_eq_some_iff.1 hi).1
   rw[hml]at h1
   rw[addP_at h1]at hi
   obtain rfl:=Option.some.inj hi
   obtain ⟨x,hx⟩ : ∃ x,p[i]? = some x:=⟨_,List.getElem?_eq_getElem h1⟩
   rw[gD_of hx]
   by_cases h2:i<r.length
   ·obtain ⟨y,hy2⟩ : ∃ y,r[i]? = some y:=⟨_,List.getElem?_eq_getElem h2⟩
    rw[gD_of hy2]
    exact (hp.at hx).add (hr.at hy2)
   ·rw[gD_ge (l:=r) (by omega),Rat.add_zero]
    exact (hp.at hx).le (by omega)
  rw[List.take_of_length_le (Nat.le_of_eq hml),fillO_full hml,←hml]
  generalize addP p r=u at *
  (repeat' (first|(refine CmpP.go (fun hc => ?_) (fun hc => ?_)<;>first|(exfalso;omega)|(conv=>whnf))|(refine AKM.x ?_;conv=>whnf)))
  refine CalP.walk 1000 N.poly_cut rfl rfl ?_
  (repeat' (refine AKM.x ?_;conv=>whnf))
  refine AKM.loop1 (fun n=>n) (fun (n:Nat)=>n≤u.length∧cutN u u.length=cutN u n) (fun n=>[(3,.int .i64 n)]) (fun _=>[(16,16,.rw 3 (u.map eQ))]) [] [] u.length (by (conv=>whnf);exact ⟨rfl,rfl,rfl⟩) ⟨Nat.le_refl _,rfl⟩ ?_
  intro n ⟨p1,p2⟩ ih
  have done : ∀ {n:Nat},cutN u u.length=n→trimQ u=u.take n:=fun h=>by rw[trimQ,h]
  by_cases hz:n=0∨(∃ m x,n=m+1∧u[m]? = some x∧x≠0)
  ·have hcut:cutN u u.length=n:=by
    rw[p2]
    rcases hz with rfl|⟨m,x,rfl,h1,h2⟩
    ·rfl
    ·rw[cutN,if_neg]
     rw[List.getD_eq_getElem?_getD,h1];exact h2
   have htq:=done hcut
   have htl:(u.take n).length=n:=by rw[List.length_take];omega
   clear ih hcut p2 done
   rcases hz with h0|⟨m,x,hnm,h1,h2⟩
   case' inl=>(repeat' (first|(refine CmpP.go (fun hc => ?_) (fun hc => ?_)<;>first|(exfalso;omega)|(conv=>whnf))|(refine AKM.x ?_;conv=>whnf)))
   case' inr =>
    have h1':u[((n:Int)-1).toNat]? = some x:=by rw[show ((n:Int)-1).toNat=m by omega];exact h1
    have hS':=ev_signQ N.toRatGLib (hmb.at h1) (by omega)
    have hs:=sgn_num (x:=x)
    generalize sgn x.num=s at *
    have hS : ∀ v,u[((n:Int)-1).toNat]? = some v→Ev L 97 [.agg (eQ v)] (.int .i64 s):=fun v h=>by
     obtain rfl:=Option.some.inj (h1'.symm.trans h)
     exact hS'
    have hs0:s≠0:=fun h=>h2 (hs.1 h)
    (repeat' (first|(refine CmpP.go (fun hc => ?_) (fun hc => ?_)<;>first|(exfalso;omega)|(conv=>whnf))|(refine Req.go ?_ ?_;omega;conv=>whnf)|(refine OpP.sub ?_ ?_;omega;conv=>whnf)|(refine LdR.int ?_ (fun _=>rfl) (fun v hv => ?_);omega;conv=>whnf)|(refine AKM.x ?_;conv=>whnf)|(refine CallP.go (hS _ hv) ?_;conv=>whnf)))
   all_goals
    refine Bds.up n (by omega) (by omega) ?_
    (conv=>whnf)
    skip
    refine ⟨rfl,_,rfl,?_⟩
    (conv=>whnf)
    (refine SnR.part (enc:=eQ) (fun _=>rfl) (by omega) ?_;rw[List.drop_zero,Nat.sub_zero,←htq];exact FinP.go rfl (by simp only[Clean,true_and];exact cl_eQs _))
  ·obtain ⟨m,rfl⟩ : ∃ m,n=m+1:=⟨n-1,by omega⟩
   obtain ⟨x,hx⟩ : ∃ x,u[m]? = some x:=⟨_,List.getElem?_eq_getElem (by omega)⟩
   have hx0:x=0:=by
    rcases Classical.em (x=0) with h|h
    ·exact h
    ·exact (hz (Or.inr ⟨m,x,rfl,hx,h⟩)).elim
   have hx':u[((m+1:Nat)-1:Int).toNat]? = some x:=by rw[show ((m+1:Nat)-1:Int).toNat=m by omega];exact hx
   have hS':=ev_signQ N.toRatGLib (hmb.at hx) (by omega)
   have hs:=sgn_num (x:=x)
   generalize sgn x.num=s at *
   have hS : ∀ v,u[((m+1:Nat)-1:Int).toNat]? = some v→Ev L 97 [.agg (eQ v)] (.int .i64 s):=fun v h=>by
    obtain rfl:=Option.some.inj (hx'.symm.trans h)
    exact hS'
   have hs0:=hs.2 hx0
   (repeat' (first|(refine CmpP.go (fun hc => ?_) (fun hc => ?_)<;>first|(exfalso;omega)|(conv=>whnf))|(refine Req.go ?_ ?_;omega;conv=>whnf)|(refine OpP.sub ?_ ?_;omega;conv=>whnf)|(refine LdR.int ?_ (fun _=>rfl) (fun v hv => ?_);omega;conv=>whnf)|(refine AKM.x ?_;conv=>whnf)|(refine CallP.go (hS _ hv) ?_;conv=>whnf)))
   rw[show ((m+1:Nat):Int)-1=(m:Int) by omega]
   exact AKM.back [] (by (conv=>whnf);exact ⟨rfl,rfl,rfl⟩) (ih m (by omega) ⟨by omega,by rw[p2,cutN,if_pos (by rw[List.getD_eq_getElem?_getD,hx];exact hx0)]⟩)
end Go.Eng

namespace Go.Eng
open F
attribute [local irreducible] AKM CmpP Req OpP UnP ConvP RdP LdR StR MkR LenP AppR AppN CpyR RowP SnR Bds SlS CallP CalP FinP pw LdM GetM SetM PutM MkM AppM SnM FlP CallR
set_option maxHeartbeats 8000000
variable {L:Lib}
theorem getD_bt {l:List Rat} {k:Nat} (h:Bs k l) (i:Nat):Bt k (l.getD i 0):=by
 rw[List.getD_eq_getElem?_getD]
 cases e:l[i]? with
 | none=>exact Bt.zero k
 | some x=>exact h.at e
theorem ev_r5_At (N:TrGLib L) (q:Bool) (l:List Rat) (i k:Nat) (hl:Bs k l) (hk:k<2199023255552) (hn:l.length≤1000000):Ev L 192 [.sl q (l.map eQ),.int .i64 (i:Int)] (.agg (eQ (l.getD i 0))):=by
 have hO:=ev_r3_Of N.toRefGLib 0 (by omega)
 refine Ev.x N.ref05_At rfl rfl ?_
 by_cases hi:i<l.length
 ·obtain ⟨x,hx⟩ : ∃ x,l[i]? = some x:=⟨_,List.getElem?_eq_getElem hi⟩
  have hx':l[(i:Int).toNat]? = some x:=hx
  have hT:=ev_trim3 N.toRefGLib (hl.at hx) hk
  rw[gD_of hx]
  (repeat' (first|(refine CmpP.go (fun hc => ?_) (fun hc => ?_)<;>first|(exfalso;omega)|(conv=>whnf))|(refine LenP.go ?_;conv=>whnf)|(refine RdP.at (by assumption) ?_ rfl ?_;omega;conv=>whnf)|(refine AKM.x ?_;conv=>whnf)|(refine CallP.go (hT) ?_;conv=>whnf)))
  exact FinP.go rfl (cl_eQ _)
 ·rw[gD_ge (l:=l) (by omega)]
  (repeat' (first|(refine CmpP.go (fun hc => ?_) (fun hc => ?_)<;>first|(exfalso;omega)|(conv=>whnf))|(refine LenP.go ?_;conv=>whnf)|(refine AKM.x ?_;conv=>whnf)|(refine CallP.go (hO) ?_;conv=>whnf)))
  exact FinP.go rfl (cl_eQ _)
end Go.Eng

namespace Go.Eng
open F
attribute [local irreducible] AKM CmpP Req OpP UnP ConvP RdP LdR StR MkR LenP AppR AppN CpyR RowP SnR Bds SlS CallP CalP FinP pw LdM GetM SetM PutM MkM AppM SnM FlP CallR
set_option maxHeartbeats 8000000
variable {L:Lib}
theorem sgn3 (z:Int):sgn z = -1∧z<0∨sgn z=0∧z=0∨sgn z=1∧0<z:=by
 unfold sgn
 split
 ·exact Or.inl ⟨rfl,by omega⟩
 ·split
  ·exact Or.inr (Or.inr ⟨rfl,by omega⟩)
  ·exact Or.inr (Or.inl ⟨rfl,by omega⟩)
theorem cmp_sgn {a b:Nat} {z:Int} (h:z=(a:Int)-b):cmpS a b=sgn z:=by
 unfold cmpS sgn
 subst h
 repeat' split
 all_goals omega
theorem ev_integer_Compare (N:StGLib L) (n1 n2 q1 q2:Bool) (a b:List Nat) (ha:Sm 549755813888 a) (hb:Sm 549755813888 b):Ev L 197 [.agg (rZ q1 n1 a),.agg (rZ q2 n2 b)] (.int .i64 (sgn (zv n1 a-zv n2 b))):=by
 have h1:=fun q=>ev_integer_Sign N.toRatGLib n1 q a ha
 have h2:=fun q=>ev_integer_Sign N.toRatGLib n2 q b hb
 have h3:=fun q q'=>ev_nat_Compare N.toNatGLib a b q q' ha.1 hb.1 (by have:=ha.2;omega) (by have:=hb.2;omega)
 have h4:=fun q q'=>ev_nat_Compare N.toNatGLib b a q q' hb.1 ha.1 (by have:=hb.2;omega) (by have:=ha.2;omega)
 have za:=zv_abs n1 a
 have zb:=zv_abs n2 b
 generalize zv n1 a=x at *
 generalize zv n2 b=y at *
 rcases sgn3 x with ⟨e1,g1⟩|⟨e1,g1⟩|⟨e1,g1⟩<;>rcases sgn3 y with ⟨e2,g2⟩|⟨e2,g2⟩|⟨e2,g2⟩
 all_goals
  rw[e1]at h1
  rw[e2]at h2
  refine Ev.x N.integer_Compare rfl rfl ?_
  (repeat' (first|(refine CmpP.go (fun hc => ?_) (fun hc => ?_)<;>first|(exfalso;omega)|(conv=>whnf))|(refine AKM.x ?_;conv=>whnf)|(refine CallP.go (h1 _) ?_;conv=>whnf)|(refine CallP.go (h2 _) ?_;conv=>whnf)|(refine CallP.go (h3 _ _) ?_;conv=>whnf)|(refine CallP.go (h4 _ _) ?_;conv=>whnf)))
  first
   | exact FinP.i (sgn_neg (by omega))
   | exact FinP.i (sgn_pos (by omega))
   | exact FinP.i (cmp_sgn (by omega))
theorem ev_rational_Compare (N:StGLib L) (k:Nat) (hk:1≤k∧k≤68719476736) (n1 n2:Bool) (m1 d1 m2 d2:List Nat) (hm1:Sm k m1) (hd1:Sm k d1) (hm2:Sm k m2) (hd2:Sm k d2) :
  Ev L 198 [.agg (rQ false false n1 m1 d1),.agg (rQ false false n2 m2 d2)] (.int .i64 (sgn (qv n1 m1 d1-qv n2 m2 d2).num)):=by
 obtain ⟨a1,a2,a3,w1,hr1,s1,s2,s3,s4,s5⟩:=ev_read N.toRatGLib n1 m1 d1 k (by omega) hm1 hd1
 obtain ⟨b1,b2,b3,w2,hr2,t1,t2,t3,t4,t5⟩:=ev_read N.toRatGLib n2 m2 d2 k (by omega) hm2 hd2
 rw[s5,t5,←mk_cmp s3 t3]
 by_cases hw:w1=true∧w2=true
 ·obtain ⟨rfl,rfl⟩:=hw
  have hC:=fun q q'=>ev_integer_Compare N a1 b1 q q' a2 b2 (s1.le (by omega)) (t1.le (by omega))
  rw[s4 rfl,t4 rfl]
  rw[show zv a1 a2*((1:Nat):Int)-zv b1 b2*((1:Nat):Int)=zv a1 a2-zv b1 b2 by omega]
  refine Ev.x N.rational_Compare rfl rfl ?_
  (repeat' (first|(refine FlP.n4 ?_;conv=>whnf)|(refine AKM.x ?_;conv=>whnf)|(refine CallP.go (hr1) ?_;conv=>whnf)|(refine CallP.go (hr2) ?_;conv=>whnf)|(refine CallP.go (hC _ _) ?_;conv=>whnf)))
  exact FinP.i rfl
 ·have hM1:=fun q q'=>ev_integer_Mul N.toRatGLib a1 false q q' a2 b3 s1.1 t2.1 (by have:=s1.2;have:=t2.2;omega)
  have hM2:=fun q q'=>ev_integer_Mul N.toRatGLib b1 false q q' b2 a3 t1.1 s2.1 (by have:=t1.2;have:=s2.2;omega)
  have hna:=ev_natural N.toRatGLib a3
  have hnb:=ev_natural N.toRatGLib b3
  have g1:Sm (k+k) (dg (zv a1 a2*zv false b3).natAbs):=sm_zmul s1 t2
  have g2:Sm (k+k) (dg (zv b1 b2*zv false a3).natAbs):=sm_zmul t1 s2
  have hC:=fun q q'=>ev_integer_Compare N (decide (zv a1 a2*zv false b3<0)) (decide (zv b1 b2*zv false a3<0)) q q' _ _ (g1.le (by omega)) (g2.le (by omega))
  rw[zv_of,zv_of]at hC
  rw[←zv_F b3,←zv_F a3]
  generalize zv a1 a2*zv false b3=x at *
  generalize zv b1 b2*zv false a3=y at *
  refine Ev.x N.rational_Compare rfl rfl ?_
  cases w1<;>cases w2
  ·(repeat' (first|(refine FlP.n4 ?_;conv=>whnf)|(refine FlP.n2 ?_;conv=>whnf)|(refine AKM.x ?_;conv=>whnf)|(refine CallP.go (hr1) ?_;conv=>whnf)|(refine CallP.go (hr2) ?_;conv=>whnf)|(refine CallP.go (hna) ?_;conv=>whnf)|(refine CallP.go (hnb) ?_;conv=>whnf)|(refine CallP.go (hM1 _ _) ?_;conv=>whnf)|(refine CallP.go (hM2 _ _) ?_;conv=>whnf)|(refine CallP.go (hC _ _) ?_;conv=>whnf)))
   exact FinP.i rfl
  ·(repeat' (first|(refine FlP.n4 ?_;conv=>whnf)|(refine FlP.n2 ?_;conv=>whnf)|(refine AKM.x ?_;conv=>whnf)|(refine CallP.go (hr1) ?_;conv=>whnf)|(refine CallP.go (hr2) ?_;conv=>whnf)|(refine CallP.go (hna) ?_;conv=>whnf)|(refine CallP.go (hnb) ?_;conv=>whnf)|(refine CallP.go (hM1 _ _) ?_;conv=>whnf)|(refine CallP.go (hM2 _ _) ?_;conv=>whnf)|(refine CallP.go (hC _ _) ?_;conv=>whnf)))
   exact FinP.i rfl
  ·(repeat' (first|(refine FlP.n4 ?_;conv=>whnf)|(refine FlP.n2 ?_;conv=>whnf)|(refine AKM.x ?_;conv=>whnf)|(refine CallP.go (hr1) ?_;conv=>whnf)|(refine CallP.go (hr2) ?_;conv=>whnf)|(refine CallP.go (hna) ?_;conv=>whnf)|(refine CallP.go (hnb) ?_;conv=>whnf)|(refine CallP.go (hM1 _ _) ?_;conv=>whnf)|(refine CallP.go (hM2 _ _) ?_;conv=>whnf)|(refine CallP.go (hC _ _) ?_;conv=>whnf)))
   exact FinP.i rfl
  ·exact absurd ⟨rfl,rfl⟩ hw
theorem ev_cmpQ (N:StGLib L) {x y:Rat} {k l:Nat} (hx:Bt k x) (hy:Bt l y) (hk:k<2199023255552) (hl:l<2199023255552):Ev L 198 [.agg (eQ x),.agg (eQ y)] (.int .i64 (sgn (x-y).num)):=by
 have:=ev_rational_Compare N 68719476736 (by omega) (decide (x.num<0)) (decide (y.num<0)) _ _ _ _ (hx.sm hk).1 (hx.sm hk).2 (hy.sm hl).1 (hy.sm hl).2
 rw[qv_of,qv_of]at this
 exact this
theorem ev_negQ (N:StGLib L) {x:Rat} {k:Nat} (hx:Bt k x) (hk:k<2199023255552):Ev L 199 [.agg (eQ x)] (.agg (eQ (-x))):=by
 have hF:=ev_flip N.toRatHLib (decide (x.num<0)) (dg x.num.natAbs) (dg x.den)
 have hT:=fun q1 q2=>ev_rational_Trim N.toRatGLib (!decide (x.num<0)) q1 q2 _ _ ((hx.sm hk).1.le (by omega)) ((hx.sm hk).2.le (by omega))
 rw[qv_not,qv_of]at hT
 refine Ev.x N.rational_Neg rfl rfl ?_
 (repeat' (first|(refine FlP.n3 ?_;conv=>whnf)|(refine AKM.x ?_;conv=>whnf)|(refine CallP.go (hF) ?_;conv=>whnf)|(refine CallP.go (hT _ _) ?_;conv=>whnf)))
 exact FinP.go rfl (cl_eQ _)
theorem ev_pDegree (N:StGLib L) (q:Bool) (l:List Rat) (k:Nat) (hl:Bs k l) (hk:k<2199023255552) (hn:l.length≤1000000):Ev L 200 [.sl q (l.map eQ)] (.int .i64 ((cutN l l.length:Int)-1)):=by
 refine Ev.x N.poly_Degree rfl rfl ?_
 (repeat' (refine AKM.x ?_;conv=>whnf))
 refine CalP.walk 1000 N.poly_cut rfl rfl ?_
 (repeat' (first|(refine LenP.go ?_;conv=>whnf)|(refine AKM.x ?_;conv=>whnf)))
 refine AKM.loop1 (fun n=>n) (fun (n:Nat)=>n≤l.length∧cutN l l.length=cutN l n) (fun n=>[(3,.int .i64 n)]) (fun _=>[]) [] [] l.length (by (conv=>whnf);exact ⟨rfl,rfl,rfl⟩) ⟨Nat.le_refl _,rfl⟩ ?_
 intro n ⟨p1,p2⟩ ih
 have done : ∀ {n:Nat},cutN l l.length=n→trimQ l=l.take n:=fun h=>by rw[trimQ,h]
 by_cases hz:n=0∨(∃ m x,n=m+1∧l[m]? = some x∧x≠0)
 ·have hcut:cutN l l.length=n:=by
   rw[p2]
   rcases hz with rfl|⟨m,x,rfl,h1,h2⟩
   ·rfl
   ·rw[cutN,if_neg]
    rw[List.getD_eq_getElem?_getD,h1];exact h2
  have htq:=done hcut
  have htl:(l.take n).length=n:=by rw[List.length_take];omega
  clear ih hcut p2 done
  rcases hz with h0|⟨m,x,hnm,h1,h2⟩
  case' inl=>(repeat' (first|(refine CmpP.go (fun hc => ?_) (fun hc => ?_)<;>first|(exfalso;omega)|(conv=>whnf))|(refine AKM.x ?_;conv=>whnf)))
  case' inr =>
   have h1':l[((n:Int)-1).toNat]? = some x:=by rw[show ((n:Int)-1).toNat=m by omega];exact h1
   have hS':=ev_signQ N.toRatGLib (hl.at h1) (by omega)
   have hs:=sgn_num (x:=x)
   generalize sgn x.num=s at *
   have hS : ∀ v,l[((n:Int)-1).toNat]? = some v→Ev L 97 [.agg (eQ v)] (.int .i64 s):=fun v h=>by
    obtain rfl:=Option.some.inj (h1'.symm.trans h)
    exact hS'
   have hs0:s≠0:=fun h=>h2 (hs.1 h)
   (repeat' (first|(refine CmpP.go (fun hc => ?_) (fun hc => ?_)<;>first|(exfalso;omega)|(conv=>whnf))|(refine OpP.sub ?_ ?_;omega;conv=>whnf)|(refine RdP.at (by assumption) ?_ rfl ?_;omega;conv=>whnf)|(refine AKM.x ?_;conv=>whnf)|(refine CallP.go (hS') ?_;conv=>whnf)))
  all_goals
   refine SlS.to (enc:=eQ) (fun _=>rfl) p1 ?_
   (conv=>whnf)
   skip
   refine ⟨rfl,_,rfl,?_⟩
   (conv=>whnf)
   (repeat' (first|(refine OpP.sub ?_ ?_;omega;conv=>whnf)|(refine LenP.go ?_;conv=>whnf)))
   have hcut':cutN l l.length=n:=by rw[←trimQ_len,htq,htl]
   rw[hcut']
   exact FinP.i (by rw[htl])
 ·obtain ⟨m,rfl⟩ : ∃ m,n=m+1:=⟨n-1,by omega⟩
  obtain ⟨x,hx⟩ : ∃ x,l[m]? = some x:=⟨_,List.getElem?_eq_getElem (by omega)⟩
  have hx0:x=0:=by
   rcases Classical.em (x=0) with h|h
   ·exact h
   ·exact (hz (Or.inr ⟨m,x,rfl,hx,h⟩)).elim
  have hx':l[((m+1:Nat)-1:Int).toNat]? = some x:=by rw[show ((m+1:Nat)-1:Int).toNat=m by omega];exact hx
  have hS':=ev_signQ N.toRatGLib (hl.at hx) (by omega)
  have hs:=sgn_num (x:=x)
  generalize sgn x.num=s at *
  have hS : ∀ v,l[((m+1:Nat)-1:Int).toNat]? = some v→Ev L 97 [.agg (eQ v)] (.int .i64 s):=fun v h=>by
   obtain rfl:=Option.some.inj (hx'.symm.trans h)
   exact hS'
  have hs0:=hs.2 hx0
  (repeat' (first|(refine CmpP.go (fun hc => ?_) (fun hc => ?_)<;>first|(exfalso;omega)|(conv=>whnf))|(refine OpP.sub ?_ ?_;omega;conv=>whnf)|(refine RdP.at (by assumption) ?_ rfl ?_;omega;conv=>whnf)|(refine AKM.x ?_;conv=>whnf)|(refine CallP.go (hS') ?_;conv=>whnf)))
  rw[show ((m+1:Nat):Int)-1=(m:Int) by omega]
  exact AKM.back [] (by (conv=>whnf);exact ⟨rfl,rfl,rfl⟩) (ih m (by omega) ⟨by omega,by rw[p2,cutN,if_pos (by rw[List.getD_eq_getElem?_getD,hx];exact hx0)]⟩)
theorem ev_r5_Degree (N:StGLib L) (q:Bool) (l:List Rat) (k:Nat) (hl:Bs k l) (hk:k<2199023255552) (hn:l.length≤1000000):Ev L 202 [.sl q (l.map eQ)] (.int .i64 ((cutN l l.length:Int)-1)):=by
 have hT:=fun q=>ev_r5_Trim N.toR05GLib q l k hl hk hn
 have hlen:=trimQ_len l
 have hle:=cutN_le l l.length
 rw[←hlen]at hle ⊢
 generalize trimQ l=t at *
 refine Ev.x N.ref05_Degree rfl rfl ?_
 (repeat' (first|(refine OpP.sub ?_ ?_;omega;conv=>whnf)|(refine LenP.go ?_;conv=>whnf)|(refine AKM.x ?_;conv=>whnf)|(refine CallP.go (hT _) ?_;conv=>whnf)))
 exact FinP.i rfl
end Go.Eng

namespace Go.Eng
open F
attribute [local irreducible] AKM CmpP Req OpP UnP ConvP RdP LdR StR MkR LenP AppR AppN CpyR RowP SnR Bds SlS CallP CalP FinP pw LdM GetM SetM PutM MkM AppM SnM FlP CallR
set_option maxHeartbeats 1000000
variable {L:Lib}
def InI (n:Int):Prop := -9223372036854775808≤n∧n≤9223372036854775807
structure Wd where
 b:Int
 f:Int
 r:Int
 o:Int
def WV (w:Wd):Prop:=4≤w.b∧w.b≤24∧0≤w.f∧w.f<w.b∧1≤w.r∧w.r≤3∧1≤w.o∧w.o≤2
instance (w : Wd) : Decidable (WV w) := by unfold WV; infer_instance
variable (w:Wd)
def lowS:Int:=if WV w then -pw (w.b-1) else 0
def highS:Int:=if WV w then pw (w.b-1)-1 else 0
def FT (v:Int):Prop:=WV w∧lowS w≤v∧v≤highS w
instance (v : Int) : Decidable (FT w v) := by unfold FT; infer_instance
end Go.Eng

namespace Go.Eng
open F
attribute [local irreducible] AKM CmpP Req OpP UnP ConvP RdP LdR StR MkR LenP AppR AppN CpyR RowP SnR Bds SlS CallP CalP FinP pw LdM GetM SetM PutM MkM AppM SnM FlP CallR
set_option maxHeartbeats 1000000
variable {L:Lib}
structure Nd where
 q:Bool
 ts:List (Int × Int)
structure Nt where
 d:Wd
 c:Wd
 s:Int
 qn:Bool
 nodes:List Nd
 qx:Bool
 next:List Int
 out:Int
variable (n:Nt)
end Go.Eng

namespace Go.Eng
open F
attribute [local irreducible] AKM CmpP Req OpP UnP ConvP RdP LdR StR MkR LenP AppR AppN CpyR RowP SnR Bds SlS CallP CalP FinP pw LdM GetM SetM PutM MkM AppM SnM FlP CallR
set_option maxHeartbeats 1000000
variable {L:Lib}
def withS (v m:Int):Int:=if m<1 then 0 else v%m
theorem ev_world_Within (W:WorldLib L) (v m:Int) (hv:InI v) (hm:m≤9223372036854775807):Ev L 34 [.int .i64 v,.int .i64 m] (.int .i64 (withS v m)):=by
 unfold InI at hv
 refine Ev.x W.world_Within rfl rfl ?_
 (repeat' (first|(refine CmpP.go (fun hc => ?_) (fun hc => ?_)<;>first|(exfalso;omega)|(conv=>whnf))|(refine OpP.add ?_ ?_;omega;conv=>whnf)|(refine OpP.rem ?_ (fun _ _ _ => ?_) (fun _ _ _ _ => ?_);omega;all_goals first|(exfalso;omega)|(conv=>whnf))|(refine AKM.x ?_;conv=>whnf)))
 all_goals (refine FinP.i ?_;unfold withS;first|rw[if_pos (by omega)]|rw[if_neg (by omega)])
 all_goals omega
def atS (l:List Int) (i:Int):Int:=if 0≤i∧i<l.length then l.getD i.toNat 0 else 0
theorem ev_world_At (W:WorldLib L) (l:List Int) (q:Bool) (i:Int):Ev L 35 [.sl q (l.map encInt),.int .i64 i] (.int .i64 (atS l i)):=by
 refine Ev.x W.world_At rfl rfl ?_
 (repeat' (first|(refine CmpP.go (fun hc => ?_) (fun hc => ?_)<;>first|(exfalso;omega)|(conv=>whnf))|(refine LenP.go ?_;conv=>whnf)|(refine RdP.go ?_ (fun _=>rfl) (fun e he => ?_);omega;conv=>whnf)|(refine AKM.x ?_;conv=>whnf)))
 all_goals (refine FinP.i ?_;unfold atS;first|rw[if_neg (by omega)]|(rw[if_pos (by omega),List.getD_eq_getElem?_getD,he];rfl))
theorem with_range {v m:Int} (h:1≤m):0≤withS v m∧withS v m<m:=by
 unfold withS
 rw[if_neg (by omega)]
 exact ⟨Int.emod_nonneg _ (by omega),Int.emod_lt_of_pos _ (by omega)⟩
end Go.Eng

namespace Go.Eng
open F
attribute [local irreducible] AKM CmpP Req OpP UnP ConvP RdP LdR StR MkR LenP AppR AppN CpyR RowP SnR Bds SlS CallP CalP FinP pw LdM GetM SetM PutM MkM AppM SnM FlP CallR
set_option maxHeartbeats 1000000
variable {L:Lib} (n:Nt)
end Go.Eng

namespace Go.Eng
open F
attribute [local irreducible] AKM CmpP Req OpP UnP ConvP RdP LdR StR MkR LenP AppR AppN CpyR RowP SnR Bds SlS CallP CalP FinP pw LdM GetM SetM PutM MkM AppM SnM FlP CallR
set_option maxHeartbeats 4000000
variable {L:Lib}
theorem ev_Sound (N:SysGLib L) (S:SysQ) (n k:Nat) (h:S.Ok n k) (hn:n≤64):Ev L 130 [.agg (eS S)] (.bool true):=by
 have h1:=h.la
 have h2:=h.lb
 have h3:=h.lc
 refine Ev.x N.network_Sound rfl rfl ?_
 (repeat' (first|(refine CmpP.go (fun hc => ?_) (fun hc => ?_)<;>first|(exfalso;omega)|(conv=>whnf))|(refine LenP.go ?_;conv=>whnf)|(refine AKM.x ?_;conv=>whnf)))
 refine AKM.loop1 (fun i=>S.a.length-i) (fun (i:Nat)=>i≤S.a.length) (fun i=>[(28,.int .i64 i)]) (fun _=>[]) [] [] 0 (by (conv=>whnf);exact ⟨rfl,rfl,rfl⟩) (by omega) ?_
 intro i p1 ih
 by_cases hi:i<S.a.length
 ·obtain ⟨r,hr⟩ : ∃ r,S.a[i]? = some r:=⟨_,List.getElem?_eq_getElem hi⟩
  have hr':S.a[(i:Int).toNat]? = some r:=hr
  have hrl:=h.lr r (List.mem_of_getElem? hr)
  (repeat' (first|(refine CmpP.go (fun hc => ?_) (fun hc => ?_)<;>first|(exfalso;omega)|(conv=>whnf))|(refine OpP.add ?_ ?_;omega;conv=>whnf)|(refine LenP.go ?_;conv=>whnf)|(refine RdP.at (by assumption) ?_ rfl ?_;omega;conv=>whnf)|(refine AKM.x ?_;conv=>whnf)))
  exact AKM.back [] (by (conv=>whnf);exact ⟨rfl,rfl,rfl⟩) (ih (i+1) (by omega) (by omega))
 ·obtain rfl:i=S.a.length:=by omega
  clear ih
  (repeat' (first|(refine CmpP.go (fun hc => ?_) (fun hc => ?_)<;>first|(exfalso;omega)|(conv=>whnf))|(refine AKM.x ?_;conv=>whnf)))
  exact FinP.b rfl
theorem ev_product (N:SysGLib L) (a b:List Rat) (q1 q2:Bool) (k s:Nat) (hl:a.length=b.length) (ha:Bs k a) (hb:Bs s b) (hK:a.length*(k+s+1)+k+s<2199023255552) (hal:a.length≤1099511627776):Ev L 132 [.sl q1 (a.map eQ),.sl q2 (b.map eQ)] (.agg (eQ (dotQ a b))):=by
 have hO:=ev_rational_Of N.toRatGLib 0 (by omega)
 refine Ev.x N.network_product rfl rfl ?_
 (repeat' (first|(refine LenP.go ?_;conv=>whnf)|(refine AKM.x ?_;conv=>whnf)|(refine CallP.go (hO) ?_;conv=>whnf)))
 refine AKM.loop2 (fun i _=>a.length-i) (fun (i:Nat) (acc:Rat)=>i≤a.length∧acc=dotQ (a.take i) (b.take i)) (fun i acc=>[(11,.int .i64 i)]) (fun i acc=>[(5,5,.bx (eQ acc))]) [] [] 0 ((0:Int):Rat) (by (conv=>whnf);exact ⟨rfl,rfl,rfl⟩) ⟨by omega,by simp [dotQ]⟩ ?_
 intro i acc ⟨p1,p2⟩ ih
 by_cases hi:i<a.length
 ·obtain ⟨x,hx⟩ : ∃ x,a[i]? = some x:=⟨_,List.getElem?_eq_getElem hi⟩
  obtain ⟨y,hy⟩ : ∃ y,b[i]? = some y:=⟨_,List.getElem?_eq_getElem (by omega)⟩
  have hx':a[(i:Int).toNat]? = some x:=hx
  have hy':b[(i:Int).toNat]? = some y:=hy
  have bx:=ha.at hx
  have by':=hb.at hy
  have hS1:=ev_signQ N.toRatGLib bx (by omega)
  have hS2:=ev_signQ N.toRatGLib by' (by omega)
  have hM:=ev_mulQ N.toRatGLib bx by' (by omega) (by omega)
  have hacc:Bt (a.length*(k+s+1)) acc:=by
   rw[p2]
   have:=(ha.take i).dot (hb.take i)
   refine this.le (Nat.mul_le_mul_right _ ?_)
   rw[List.length_take];omega
  have hA:=ev_addQ N.toRatGLib hacc (bx.mul by') (by omega) (by omega)
  have hst:=dotQ_take hx hy
  have z1:=sgn_num (x:=x)
  have z2:=sgn_num (x:=y)
  generalize sgn x.num=sx at *
  generalize sgn y.num=sy at *
  by_cases h1:sx=0
  ·have hx0:=z1.1 h1
   (repeat' (first|(refine CmpP.go (fun hc => ?_) (fun hc => ?_)<;>first|(exfalso;omega)|(conv=>whnf))|(refine OpP.add ?_ ?_;omega;conv=>whnf)|(refine RdP.at (by assumption) ?_ rfl ?_;omega;conv=>whnf)|(refine AKM.x ?_;conv=>whnf)|(refine CallP.go (hS1) ?_;conv=>whnf)))
   refine AKM.back [] (by (conv=>whnf);exact ⟨rfl,rfl,rfl⟩) (ih (i+1) acc (by omega) ⟨by omega,?_⟩)
   rw[hst,hx0,Rat.zero_mul,Rat.add_zero];exact p2
  ·by_cases h2:sy=0
   ·have hy0:=z2.1 h2
    (repeat' (first|(refine CmpP.go (fun hc => ?_) (fun hc => ?_)<;>first|(exfalso;omega)|(conv=>whnf))|(refine OpP.add ?_ ?_;omega;conv=>whnf)|(refine RdP.at (by assumption) ?_ rfl ?_;omega;conv=>whnf)|(refine AKM.x ?_;conv=>whnf)|(refine CallP.go (hS1) ?_;conv=>whnf)|(refine CallP.go (hS2) ?_;conv=>whnf)))
    refine AKM.back [] (by (conv=>whnf);exact ⟨rfl,rfl,rfl⟩) (ih (i+1) acc (by omega) ⟨by omega,?_⟩)
    rw[hst,hy0,Rat.mul_zero,Rat.add_zero];exact p2
   ·(repeat' (first|(refine CmpP.go (fun hc => ?_) (fun hc => ?_)<;>first|(exfalso;omega)|(conv=>whnf))|(refine OpP.add ?_ ?_;omega;conv=>whnf)|(refine RdP.at (by assumption) ?_ rfl ?_;omega;conv=>whnf)|(refine AKM.x ?_;conv=>whnf)|(refine CallP.go (hS1) ?_;conv=>whnf)|(refine CallP.go (hS2) ?_;conv=>whnf)|(refine CallP.go (hM) ?_;conv=>whnf)|(refine CallP.go (hA) ?_;conv=>whnf)))
    refine AKM.back [] (by (conv=>whnf);exact ⟨rfl,rfl,rfl⟩) (ih (i+1) (acc+x*y) (by omega) ⟨by omega,?_⟩)
    rw[hst,←p2]
 ·obtain rfl:i=a.length:=by omega
  clear ih
  rw[dotQ_all rfl]at p2
  rw[←p2]
  (repeat' (first|(refine CmpP.go (fun hc => ?_) (fun hc => ?_)<;>first|(exfalso;omega)|(conv=>whnf))|(refine AKM.x ?_;conv=>whnf)))
  exact FinP.go rfl (cl_eQ _)
end Go.Eng

namespace Go.Eng
def sumQ (vals:List Rat):List (Int × Int)→Rat
 | []=>0
 | t::ts=>(t.2:Rat)*vals.getD t.1.toNat 0+sumQ vals ts
def exS (u:Rat) (ex:Int):Nat→List Rat→List (List (Int × Int))→List Rat
 | _,vals,[]=>vals
 | k,vals,ts::r=>exS u ex (k+1) (vals++[sumQ vals ts/u+(if (k:Int)=ex then 1 else 0)]) r
theorem Bs.getD {k:Nat} {l:List Rat} (h:Bs k l) (i:Nat):Bt k (l.getD i 0):=by
 rw[List.getD_eq_getElem?_getD]
 cases e:l[i]? with
 | none=>exact Bt.zero k
 | some x=>exact h.at e
theorem Bs.sum {k j:Nat} {vals:List Rat} (hv:Bs k vals) : ∀ (ts:List (Int × Int)),(∀ t∈ts,Bt j ((t.2:Int):Rat))→Bt (ts.length*(j+k+1)) (sumQ vals ts)
 | [],_=>Bt.zero _
 | t::ts,h=>by
  have h1:=(h t (by simp)).mul (hv.getD t.1.toNat)
  have h2:=Bs.sum hv ts (fun u hu=>h u (by simp [hu]))
  refine (h1.add h2).le ?_
  rw[List.length_cons,Nat.succ_mul];omega
def LinV (C:List (List Rat)) (z vals:List Rat):Prop := ∀ m,m<vals.length→vals.getD m 0=dotQ (C.map fun c=>c.getD m 0) z
theorem dotQ_smul (x:Rat) : ∀ (a z:List Rat),dotQ (a.map fun c=>x*c) z=x*dotQ a z
 | [],z=>by cases z<;>simp [dotQ]
 | p::a,[]=>by simp [dotQ]
 | p::a,q::z=>by
  simp only[List.map_cons,dotQ]
  rw[dotQ_smul x a z];grind
theorem dotQ_mapadd {α:Type} (f g:α→Rat) : ∀ (a:List α) (z:List Rat),dotQ (a.map fun c=>f c+g c) z=dotQ (a.map f) z+dotQ (a.map g) z
 | [],z=>by cases z<;>(simp only[List.map_nil,dotQ];grind)
 | p::a,[]=>by simp only[List.map_cons,dotQ];grind
 | p::a,q::z=>by
  simp only[List.map_cons,dotQ]
  rw[dotQ_mapadd f g a z];grind
theorem dotQ_zero {α:Type} : ∀ (a:List α) (z:List Rat),dotQ (a.map fun _=>(0:Rat)) z=0
 | [],z=>by cases z<;>rfl
 | p::a,[]=>rfl
 | p::a,q::z=>by
  simp only[List.map_cons,dotQ]
  rw[dotQ_zero a z];grind
theorem LinV.sum {C:List (List Rat)} {z vals:List Rat} (h:LinV C z vals) : ∀ (ts:List (Int × Int)),(∀ t∈ts,t.1.toNat<vals.length)→sumQ vals ts=dotQ (C.map fun c=>sumQ c ts) z
 | [],_=>(dotQ_zero C z).symm
 | t::ts,ht=>by
  simp only[sumQ]
  rw[dotQ_mapadd (fun c=>(t.2:Rat)*c.getD t.1.toNat 0) (fun c=>sumQ c ts),←LinV.sum h ts (fun u hu=>ht u (by simp [hu])),h _ (ht t (by simp))]
  have:=dotQ_smul (t.2:Rat) (C.map fun c=>c.getD t.1.toNat 0) z
  rw[List.map_map]at this
  rw[←this];rfl
theorem getD_snoc_lt {l:List Rat} {x:Rat} {m:Nat} (h:m<l.length):(l++[x]).getD m 0=l.getD m 0:=by
 rw[List.getD_eq_getElem?_getD,List.getD_eq_getElem?_getD,List.getElem?_append_left h]
theorem getD_snoc_eq {l:List Rat} {x:Rat} {m:Nat} (h:m=l.length):(l++[x]).getD m 0=x:=by
 subst h
 rw[List.getD_eq_getElem?_getD,List.getElem?_append_right (Nat.le_refl _)];simp
theorem LinV.all {u:Rat} (hu:u≠0) {z:List Rat} : ∀ (l:List (List (Int × Int))) (k:Nat) (C:List (List Rat)) (vals:List Rat),LinV C z vals→(∀ c∈C,c.length=vals.length)→(∀ i ts,l[i]? = some ts → ∀ t∈ts,t.1.toNat<vals.length+i) →
  LinV (C.map fun c=>exS u (-1) k c l) z (exS u (-1) k vals l)
 | [],_,C,vals,h,_,_=>by
  have e:(C.map fun c=>exS u (-1) 0 c [])=C:=by
   simp [exS]
  simpa [exS] using h
 | ts::l,k,C,vals,h,hc,ht=>by
  have hts:=ht 0 ts rfl
  have e0 : ¬ (k:Int) = -1:=by omega
  simp only[exS,if_neg e0,Rat.add_zero]
  have hs:=h.sum ts (fun t h1=>by have:=hts t h1;omega)
  have hstep:LinV (C.map fun c=>c++[sumQ c ts/u]) z (vals++[sumQ vals ts/u]):=by
   intro m hm
   simp only[List.length_append,List.length_cons,List.length_nil]at hm
   rw[List.map_map]
   by_cases hm2:m<vals.length
   ·rw[getD_snoc_lt hm2,h m hm2]
    congr 1
    refine List.map_congr_left fun c hcm => ?_
    simp only[Function.comp]
    rw[getD_snoc_lt (by rw[hc c hcm];exact hm2)]
   ·rw[getD_snoc_eq (by omega)]
    have e1:(C.map ((fun c=>c.getD m 0) ∘ fun c=>c++[sumQ c ts/u]))=C.map fun c=>u⁻¹*sumQ c ts:=by
     refine List.map_congr_left fun c hcm => ?_
     simp only[Function.comp]
     rw[getD_snoc_eq (by rw[hc c hcm];omega),Rat.div_def,Rat.mul_comm]
    rw[e1,hs,Rat.div_def,Rat.mul_comm]
    have:=dotQ_smul u⁻¹ (C.map fun c=>sumQ c ts) z
    rw[List.map_map]at this
    rw[←this];rfl
  have ih:=LinV.all hu l (k+1) (C.map fun c=>c++[sumQ c ts/u]) (vals++[sumQ vals ts/u]) hstep (fun c hcm=>by
   obtain ⟨c0,h0,rfl⟩:=List.mem_map.1 hcm
   simp [hc c0 h0]) (fun i ts2 h2 t h3=>by
   have:=ht (i+1) ts2 h2 t h3
   simp;omega)
  rw[List.map_map]at ih
  exact ih
theorem Bt.ofInt {k:Nat} {z:Int} (h:z.natAbs≤2^k):Bt k ((z:Int):Rat):=⟨by rw[Rat.num_intCast];exact h,by rw[Rat.den_intCast];exact Nat.one_le_two_pow⟩
end Go.Eng

namespace Go.Eng
end Go.Eng

namespace Go.Eng
variable {L:Lib}
def RetR (fn:AFn) (z:Nat) (es:List (List AV)) (tm:Tm) (M:Mem):Prop:=match fn.res with
 | [.tmp t]=>match tg tm t with
  | .row k 0 z' 0 n=>match mget M k with
   | some (_,.rw z'' es')=>z'=z∧z''=z∧n=es.length∧es'=es∧CleanLL es
   | _=>False
  | _=>False
 | _=>False
theorem EvR.x {f:Nat} {fn:AFn} {vs:List AV} {z:Nat} {es:List (List AV)} (hL:L f=some fn) (hp:Nat.beq vs.length fn.pars=true) (hd:datAL vs=true) (h:AKM L [.code fn.body] (initTm 0 vs) [] (RetR fn z es)):EvR L f vs z es:=by
 obtain ⟨n,c,st',hr,σ,tm,M,hR,hq⟩:=h (fun _ _=>(0,0)) ⟨initTm 0 vs,Own.emp⟩ ⟨fun j=>Or.inr (by rw[tg_eq];exact datAL_tg hd j),⟨(fun _ _ _ e=>by cases e),(fun _ _ _ e=>by simp [mref,mget]at e),(fun _ _ _ e=>by simp [mref,mget]at e),(fun _ _ _ _ _ _ e=>by simp [mref,mget]at e)⟩⟩
 unfold RetR at hq
 split at hq
 ·rename_i t hres
  split at hq
  ·rename_i k z' m htm
   split at hq
   ·rename_i s z'' es' hM
    obtain ⟨rfl,rfl,rfl,rfl,hcl⟩:=hq
    have hv:tget st'.tm t = .row (σ k 0).1 (σ k 0).2 z'' 0 es'.length:=by
     rcases hR.tm t with e|e
     ·rw[htm]at e;cases e
     ·rw[e,htm];rfl
    have hb:=hR.sat.blk k 0 (.rw z'' es') (by simp only[mref,hM])
    obtain ⟨q,hq⟩:=EvI.intro (r := .row (σ k 0).1 (σ k 0).2 z'' 0 es'.length) (o':=st'.own) hL (beq_iff.1 hp) ⟨n,c,st',hr,by simp [hres,resOf,hv,resTmp,resVal],rfl⟩
    refine ⟨q,?_⟩
    simp only[hq,adoptR,Own.get,hb]
    rw[if_pos (show (Cel.blk σ k (.rw z'' es')).es.length=es'.length∧CleanLL (Cel.blk σ k (.rw z'' es')).es from ⟨rfl,hcl⟩)]
    rfl
   ·exact hq.elim
  ·exact hq.elim
 ·exact hq.elim
theorem CallR.go {α:Type} {enc:α→List AV} {l:List α} {f z:Nat} {vs:List AV} {K:Nat→List (List AV)→Nat→Prop} (n:Nat) (h:EvR L f vs z (l.map enc)) (hn:n=l.length) (hk:K z (l.map enc) n):CallR L f vs K:=⟨z,_,n,h,by simpa using hn,hk⟩
end Go.Eng



namespace Go.Eng
open F
attribute [local irreducible] AKM CmpP Req OpP UnP ConvP RdP LdR StR MkR LenP AppR AppN CpyR RowP SnR Bds SlS CallP CalP FinP pw LdM GetM SetM PutM MkM AppM SnM FlP CallR
set_option maxHeartbeats 4000000
variable {L:Lib}
theorem unit_set (m p:Nat):(List.replicate m (0:Rat)).set p 1=unitL m p:=by
 refine List.ext_getElem? fun j => ?_
 simp only[unitL,List.getElem?_set,List.getElem?_map,List.getElem?_replicate,List.length_replicate]
 by_cases h:j<m
 ·rw[List.getElem?_range h]
  by_cases e:p=j
  ·subst e;simp [h]
  ·simp [h,e];intro h3;omega
 ·rw[List.getElem?_eq_none (by simpa using h)]
  simp [h]
  intro e;omega
theorem ev_zerosR (N:SysGLib L) (m:Nat) (hm:m≤65536):EvR L 131 [.int .i64 (m:Int)] 3 ((List.replicate m (0:Rat)).map eQ):=by
 have hO:=ev_rational_Of N.toRatGLib 0 (by omega)
 refine EvR.x N.network_zeros rfl rfl ?_
 (repeat' (refine AKM.x ?_;conv=>whnf))
 refine MkR.go (enc:=eO) none m rfl rfl (by omega) ?_
 (conv=>whnf)
 skip
 refine AKM.loop1 (fun i=>m-i) (fun (i:Nat)=>i≤m) (fun i=>[(9,.int .i64 i)]) (fun i=>[(131006,131006,.rw 3 ((fillO (List.replicate i 0) m).map eO))]) [] [] 0 (by first|exact (by (conv=>whnf);exact ⟨rfl,rfl,rfl⟩)|(rw[←fillO_nil];exact (by (conv=>whnf);exact ⟨rfl,rfl,rfl⟩))) (by omega) ?_
 intro i p1 ih
 by_cases hi:i<m
 ·have hl:=fillO_len (l:=List.replicate i (0:Rat)) (m:=m) (by simp;omega)
  have hs:=fillO_set (l:=List.replicate i (0:Rat)) (m:=m) (x:=0) (by simp;omega)
  rw[List.length_replicate]at hs
  (repeat' (first|(refine CmpP.go (fun hc => ?_) (fun hc => ?_)<;>first|(exfalso;omega)|(conv=>whnf))|(refine Req.go ?_ ?_;omega;conv=>whnf)|(refine AKM.x ?_;conv=>whnf)|(refine CallP.go (hO) ?_;conv=>whnf)))
  refine StR.nat (enc:=eO) (some 0) rfl (fun e=>by cases e<;>rfl) (by omega) ?_
  (conv=>whnf)
  (repeat' (refine OpP.add ?_ ?_;omega;conv=>whnf))
  rw[hs]
  rw[show List.replicate i (0:Rat)++[0]=List.replicate (i+1) 0 by rw[List.replicate_succ']]
  exact AKM.back [] (by (conv=>whnf);exact ⟨rfl,rfl,rfl⟩) (ih (i+1) (by omega) (by omega))
 obtain rfl:i=m:=by omega
 clear ih
 rw[fillO_full (by simp)]
 (repeat' (first|(refine CmpP.go (fun hc => ?_) (fun hc => ?_)<;>first|(exfalso;omega)|(conv=>whnf))|(refine AKM.x ?_;conv=>whnf)))
 exact ⟨rfl,rfl,by simp,rfl,cl_eQs _⟩
end Go.Eng
