/-
  Transfer functions of systems: the program.
-/
import Derived.Test.YtdgodemmncmlaaaGreatB10
import Derived.Test.YtdgodemmncmlaaaGreatB8
import Derived.Test.YtdgodemmncmlaaaGreatB3
import Derived.Test.YtdgodemmncmlaaaGreatB7
import Derived.Test.YtdgodemmncmlaaaGreatB4
set_option linter.unusedSimpArgs false
set_option linter.unusedVariables false
set_option linter.unnecessarySimpa false
namespace Go.Eng
open F
attribute [local irreducible] AKM CmpP Req OpP UnP ConvP RdP LdR StR MkR LenP AppR AppN CpyR RowP SnR Bds SlS CallP CalP FinP pw LdM GetM SetM PutM MkM AppM SnM FlP CallR
set_option maxHeartbeats 16000000
variable {L:Lib}
def tfA (S:SysQ) (n:Nat):List Rat:=trimQ (belowQ S.a n n)
def tfB (S:SysQ) (n:Nat):List Rat:=trimQ (addP (aboveQ S n n) (trimQ ((belowQ S.a n n).map (· * S.d))))
def idP (n i:Nat):List (List Rat):=(List.range n).map fun r:Nat=>if r<i then unitL n r else List.replicate n 0
theorem idP_len (n i:Nat):(idP n i).length=n:=by simp [idP]
theorem idP_zero (n:Nat):idP n 0=List.replicate n (List.replicate n 0):=by
 refine List.ext_getElem? fun r => ?_
 simp only[idP,List.getElem?_map,List.getElem?_replicate]
 by_cases h:r<n
 ·rw[List.getElem?_range h,if_pos h];simp
 ·rw[List.getElem?_eq_none (by simp;omega),if_neg h];rfl
theorem idP_full (n:Nat):idP n n=idQ n:=by
 refine List.map_congr_left fun r hr => ?_
 rw[if_pos (List.mem_range.1 hr)]
theorem idP_at {n i:Nat} (h:i<n):(idP n i)[i]? = some (List.replicate n 0):=by
 simp only[idP,List.getElem?_map,List.getElem?_range h,Option.map_some,Nat.lt_irrefl,if_false]
theorem idP_set {n i:Nat} (h:i<n):(idP n i).set i ((List.replicate n 0).set i 1)=idP n (i+1):=by
 refine List.ext_getElem? fun r => ?_
 rw[List.getElem?_set,idP_len,unit_set]
 simp only[idP,List.getElem?_map]
 by_cases hr:r<n
 ·rw[List.getElem?_range hr]
  by_cases e:i=r
  ·subst e;simp [h]
  ·simp only[e,if_false,Option.map_some]
   by_cases h3:r<i
   ·rw[if_pos h3,if_pos (by omega)]
   ·rw[if_neg h3,if_neg (by omega)]
 ·rw[List.getElem?_eq_none (by simp;omega)]
  simp;omega
def cf (l:List Rat) (prev:List (Option Rat)) (i:Nat):List (Option Rat):=(l.take i).map some++prev.drop i
theorem cf_len {l:List Rat} {prev:List (Option Rat)} {i n:Nat} (hl:l.length=n) (hp:prev.length=n) (hi:i≤n):(cf l prev i).length=n:=by
 simp [cf];omega
theorem cf_zero (l:List Rat) (prev:List (Option Rat)):cf l prev 0=prev:=by simp [cf]
theorem cf_full {l:List Rat} {prev:List (Option Rat)} {n:Nat} (hl:l.length=n) (hp:prev.length=n):cf l prev n=l.map some:=by
 rw[cf,List.take_of_length_le (by omega),List.drop_of_length_le (by omega),List.append_nil]
theorem cf_set {l:List Rat} {prev:List (Option Rat)} {i n:Nat} {x:Rat} (hp:prev.length=n) (hx:l[i]? = some x) (hi:i<n):(cf l prev i).set i (some x)=cf l prev (i+1):=by
 have hli:=(List.getElem?_eq_some_iff.1 hx).1
 have htl:((l.take i).map some).length=i:=by rw[List.length_map,List.length_take];omega
 obtain ⟨y,hy⟩ : ∃ y,prev[i]? = some y:=⟨_,List.getElem?_eq_getElem (by omega)⟩
 obtain ⟨hi2,he2⟩:=List.getElem?_eq_some_iff.1 hy
 rw[cf,List.set_append_right _ _ (by omega),htl,Nat.sub_self,List.drop_eq_getElem_cons hi2,List.set_cons_zero,cf,take_snoc' hx,List.map_append]
 simp
theorem map_some_eO (l:List Rat):(l.map some).map eO=l.map eQ:=by simp [Function.comp_def]
def ot (P:List (List Rat)) (n j i:Nat):List (List (Option Rat)):=(List.range P.length).map fun r=>fillO ((P.getD r []).take (if r<i then j+1 else j)) n
theorem ot_len (P:List (List Rat)) (n j i:Nat):(ot P n j i).length=P.length:=by simp [ot]
theorem getD_row {P:List (List Rat)} {i:Nat} {row:List Rat} (h:P[i]? = some row):P.getD i []=row:=by rw[List.getD_eq_getElem?_getD,h];rfl
theorem ot_at {P:List (List Rat)} {n j i r:Nat} {row:List Rat} (h:P[r]? = some row):(ot P n j i)[r]? = some (fillO (row.take (if r<i then j+1 else j)) n):=by
 have h1:=(List.getElem?_eq_some_iff.1 h).1
 simp only[ot,List.getElem?_map,List.getElem?_range h1,Option.map_some,getD_row h]
theorem ot_set {P:List (List Rat)} {n j i:Nat} {row:List Rat} (h:P[i]? = some row):(ot P n j i).set i (fillO (row.take (j+1)) n)=ot P n j (i+1):=by
 refine List.ext_getElem? fun r => ?_
 rw[List.getElem?_set,ot_len]
 cases e:P[r]? with
 | none =>
  have h1:=List.getElem?_eq_none_iff.1 e
  have h2:=(List.getElem?_eq_some_iff.1 h).1
  rw[List.getElem?_eq_none (by rw[ot_len];exact h1),if_neg (by omega),List.getElem?_eq_none (by rw[ot_len];exact h1)]
 | some rw' =>
  rw[ot_at e,ot_at e]
  by_cases hi:i=r
  ·subst hi
   obtain rfl:=Option.some.inj (h.symm.trans e)
   have h2:=(List.getElem?_eq_some_iff.1 h).1
   rw[if_pos rfl,if_pos h2,if_pos (by omega)]
  ·rw[if_neg hi]
   by_cases h3:r<i
   ·rw[if_pos h3,if_pos (by omega)]
   ·rw[if_neg h3,if_neg (by omega)]
theorem ot_next (P:List (List Rat)) (n j:Nat):ot P n j P.length=ot P n (j+1) 0:=by
 refine List.map_congr_left fun r hr => ?_
 rw[if_pos (List.mem_range.1 hr),if_neg (by omega)]
theorem ot_zero (P:List (List Rat)) (n:Nat):ot P n 0 0=List.replicate P.length (fillO [] n):=by
 refine List.ext_getElem? fun r => ?_
 simp only[ot,List.getElem?_map,List.getElem?_replicate]
 by_cases h:r<P.length
 ·rw[List.getElem?_range h,if_pos h];simp
 ·rw[List.getElem?_eq_none (by simp;omega),if_neg h];rfl
theorem ot_full {P:List (List Rat)} {n:Nat} (h : ∀ r∈P,r.length=n):mxR 3 eO (ot P n n 0)=mxR 3 eQ P:=by
 refine List.ext_getElem? fun r => ?_
 simp only[mxR,List.getElem?_map]
 cases e:P[r]? with
 | none=>rw[List.getElem?_eq_none (by rw[ot_len];exact List.getElem?_eq_none_iff.1 e)];rfl
 | some row =>
  have hl:=h row (List.mem_of_getElem? e)
  rw[ot_at e,if_neg (by omega),List.take_of_length_le (by omega)]
  simp only[Option.map_some,fillO_full hl]
theorem ev_Transfer (N:TrGLib L) (S:SysQ) (n:Nat) (h:S.Ok n 80) (hn:n≤4):Ev L 189 [.agg (eS S)] (.tup [.agg [.sl false ((tfB S n).map eQ),.sl false ((tfA S n).map eQ)],.int .i64 0]):=by
 have hSd:=ev_Sound N.toSysGLib S n 80 h (by omega)
 have hO:=ev_rational_Of N.toRatGLib 0 (by omega)
 have hI:=ev_rational_Of N.toRatGLib 1 (by omega)
 have hla:=h.la
 subst hla
 refine Ev.x N.network_Transfer rfl rfl ?_
 (repeat' (first|(refine CmpP.go (fun hc => ?_) (fun hc => ?_)<;>first|(exfalso;omega)|(conv=>whnf))|(refine LenP.go ?_;conv=>whnf)|(refine AKM.x ?_;conv=>whnf)|(refine CallP.go (hSd) ?_;conv=>whnf)|(refine CallP.go (hO) ?_;conv=>whnf)|(refine CallP.go (hI) ?_;conv=>whnf)))
 refine CalP.walkC 1000 N.network_zero rfl rfl ?_
 (repeat' (refine AKM.x ?_;conv=>whnf))
 unfold MkM
 refine ⟨⟨by omega,by omega,by simp only[roomMax];omega,by omega⟩,?_⟩
 rw[Int.toNat_natCast]
 (conv=>whnf)
 have hZ:=ev_zerosR N.toSysGLib S.a.length (by omega)
 refine CallR.go (enc:=eQ) S.a.length hZ (by simp) ?_
 (conv=>whnf)
 refine CallR.go (enc:=eQ) S.a.length hZ (by simp) ?_
 (conv=>whnf)
 (repeat' (refine CallP.go (hO) ?_;conv=>whnf))
 generalize hm:S.a.length=m at *
 refine AKM.loop1 (fun t=>m-t) (fun (t:Nat)=>t≤m) (fun t=>[(16,.int .i64 t)]) (fun t=>[(145006,145006,.mx (List.replicate t (some (3,(List.replicate m (0:Rat)).map eQ))++List.replicate (m-t) none))]) [] [] 0 (by (conv=>whnf);exact ⟨rfl,rfl,rfl⟩) (by omega) ?_
 intro t p4 th
 by_cases ht:t<m
 ·(repeat' (first|(refine CmpP.go (fun hc => ?_) (fun hc => ?_)<;>first|(exfalso;omega)|(conv=>whnf))|(refine AKM.x ?_;conv=>whnf)))
  refine CallR.go (enc:=eQ) m hZ (by simp) ?_
  (conv=>whnf)
  (repeat' (first|(refine Req.go ?_ ?_;omega;conv=>whnf)|fail))
  unfold Req SetM
  refine ⟨by simp,by simp;omega,?_⟩
  (conv=>whnf)
  rw[show 0+((t:Int)).toNat=t by omega,fillM_set _ _ p4 ht]
  (repeat' (refine OpP.add ?_ ?_;omega;conv=>whnf))
  exact AKM.back [] (by (conv=>whnf);exact ⟨rfl,rfl,rfl⟩) (th (t+1) (by omega) (by omega))
 obtain rfl:t=m:=by omega
 clear th
 rw[show List.replicate t (some (3,List.map eQ (List.replicate t 0)))++List.replicate (t-t) none=mxR 3 eQ (idP t 0) by rw[idP_zero];simp [mxR]]
 (repeat' (first|(refine CmpP.go (fun hc => ?_) (fun hc => ?_)<;>first|(exfalso;omega)|(conv=>whnf))|(refine AKM.x ?_;conv=>whnf)))
 refine ⟨rfl,?_⟩
 (conv=>whnf)
 skip
 refine AKM.loop1 (fun i=>t-i) (fun (i:Nat)=>i≤t) (fun i=>[(34,.int .i64 i)]) (fun i=>[(145006,145006,.mx (mxR 3 eQ (idP t i)))]) [] [] 0 (by (conv=>whnf);exact ⟨rfl,rfl,rfl⟩) (by omega) ?_
 intro i p1 ih
 by_cases hi:i<t
 ·have hat:=idP_at hi
  have hst:=idP_set hi
  have hil:=idP_len t i
  generalize idP t i=I0 at *
  (repeat' (first|(refine CmpP.go (fun hc => ?_) (fun hc => ?_)<;>first|(exfalso;omega)|(conv=>whnf))|(refine Req.go ?_ ?_;omega;conv=>whnf)|(refine LdM.nat ?_ (fun r hr => ?_);omega;conv=>whnf)|(refine AKM.x ?_;conv=>whnf)|(refine CallP.go (hI) ?_;conv=>whnf)))
  cases hat.symm.trans hr
  refine Req.go (by rw[List.length_map,List.length_replicate];omega) ?_
  (conv=>whnf)
  (repeat' (refine GetM.ati (by assumption) ?_;conv=>whnf))
  refine StR.nat (enc:=eQ) 1 rfl (fun _=>rfl) (by rw[List.length_replicate];omega) ?_
  (conv=>whnf)
  refine PutM.nat (by rw[List.length_set]) ?_
  rw[hst]
  (conv=>whnf)
  (repeat' (refine OpP.add ?_ ?_;omega;conv=>whnf))
  exact AKM.back [] (by (conv=>whnf);exact ⟨rfl,rfl,rfl⟩) (ih (i+1) (by omega) (by omega))
 obtain rfl:i=t:=by omega
 clear ih
 rw[idP_full]
 rw[show ([[AV.bool (decide (((1:Int):Rat).num<0)),AV.sl false ((dg ((1:Int):Rat).num.natAbs).map e32),AV.sl false ((dg ((1:Int):Rat).den).map e32)]]:List (List AV))=(belowQ S.a i 0).map eQ from rfl,
  show ([[AV.bool (decide (((0:Int):Rat).num<0)),AV.sl false ((dg ((0:Int):Rat).num.natAbs).map e32),AV.sl false ((dg ((0:Int):Rat).den).map e32)]]:List (List AV))=(aboveQ S i 0).map eQ from rfl]
 (repeat' (first|(refine CmpP.go (fun hc => ?_) (fun hc => ?_)<;>first|(exfalso;omega)|(conv=>whnf))|(refine AKM.x ?_;conv=>whnf)))
 have hsq:Sq i S.a:=⟨hm,h.lr⟩
 refine AKM.fgt [145002,145003] ?_
 refine AKM.loop2 (fun k _=>i-k) (fun (k _:Nat)=>k≤i) (fun k _=>[(9,.int .i64 ((k+1:Nat):Int)),(5,.row 27 0 3 0 (k+1)),(6,.row 29 0 3 0 (k+1)),(7,.row 145006 0 1 0 i)]) (fun k t=>[(27,27,.rw 3 ((belowQ S.a i k).map eQ)),(29,29,.rw 3 ((aboveQ S i k).map eQ)),(145006,t,.mx (mxR 3 eQ (flM S.a i k)))]) [] [] 0 145006 (by (conv=>whnf);exact ⟨rfl,rfl,rfl⟩) (by omega) ?_
 intro k t p2 kh
 by_cases hk:k<i
 ·obtain ⟨b1,b2,b3⟩:=Ms.fl hsq h.ba hn k (by omega)
  have hKk:=flK_le k (by omega)
  have hMs:=Sq.fl (a:=S.a) hm k
  have hMl:=hMs.l
  have hfl:flM S.a i (k+1)=addD (mulQ S.a (flM S.a i k) i) (cofQ S.a i k) i:=rfl
  have hcf:cofQ S.a i k=trQ (mulQ S.a (flM S.a i k) i) i*Rat.divInt (-1) ((k+1:Nat):Int):=rfl
  have hab:=aboveQ_succ S i k
  have hbe:=belowQ_succ S.a i k
  have hal:=aboveQ_len S i k
  have hbl:=belowQ_len S.a i k
  have hPs:=Sq.mul hm (flM S.a i k)
  generalize flM S.a i k=Mk at *
  generalize cofQ S.a i k=ck at *
  generalize aboveQ S i k=ab at *
  generalize belowQ S.a i k=be at *
  generalize flK k=fk at *
  (repeat' (first|(refine CmpP.go (fun hc => ?_) (fun hc => ?_)<;>first|(exfalso;omega)|(conv=>whnf))|(refine AKM.x ?_;conv=>whnf)))
  refine MkR.go (enc:=eO) none i rfl rfl (by omega) ?_
  (conv=>whnf)
  skip
  have himl:=mvQ_len Mk S.b
  have himg : ∀ (j:Nat) row,Mk[j]? = some row→(mvQ Mk S.b)[j]? = some (dotQ row S.b):=fun j row hr=>by rw[mvQ,List.getElem?_map,hr];rfl
  have himb:Bs (4*(fk+81)) (mvQ Mk S.b):=by
   intro x hx
   obtain ⟨r,hr,rfl⟩:=List.mem_map.1 hx
   refine ((b1 r hr).dot h.bb).le ?_
   rw[hMs.r r hr]
   exact Nat.mul_le_mul hn (by omega)
  refine AKM.loop1 (fun j=>i-j) (fun (j:Nat)=>j≤i) (fun j=>[(53,.int .i64 j)]) (fun j=>[(51,51,.rw 3 ((fillO ((mvQ Mk S.b).take j) i).map eO))]) [] [] 0 (by first|exact (by (conv=>whnf);exact ⟨rfl,rfl,rfl⟩)|(rw[List.take_zero,←fillO_nil];exact (by (conv=>whnf);exact ⟨rfl,rfl,rfl⟩))) (by omega) ?_
  intro j q1 jh
  by_cases hj:j<i
  ·obtain ⟨row,hrow⟩ : ∃ row,Mk[j]? = some row:=⟨_,List.getElem?_eq_getElem (by omega)⟩
   have hrl:=hMs.at hrow
   have hy:=himg j row hrow
   have hP:=fun q q'=>ev_product N.toSysGLib row S.b q q' fk 80 (by rw[hrl,h.lb]) (b1.at hrow) h.bb (by rw[hrl];have:=Nat.mul_le_mul_right (fk+80+1) hn;omega) (by omega)
   have hlf:=fillO_len (l:=(mvQ Mk S.b).take j) (m:=i) (by rw[List.length_take];omega)
   have hst:=fillO_set (l:=(mvQ Mk S.b).take j) (m:=i) (x:=dotQ row S.b) (by rw[List.length_take];omega)
   rw[List.length_take,Nat.min_eq_left (by omega),←take_snoc' hy]at hst
   (repeat' (first|(refine CmpP.go (fun hc => ?_) (fun hc => ?_)<;>first|(exfalso;omega)|(conv=>whnf))|(refine Req.go ?_ ?_;omega;conv=>whnf)|(refine SnR.all (fun _=>rfl) rfl ?_ ?_;(first|rfl|simp);conv=>whnf)|(refine LdM.nat ?_ (fun r hr => ?_);omega;conv=>whnf)|(refine GetM.ati (by assumption) ?_;conv=>whnf)|(refine AKM.x ?_;conv=>whnf)))
   cases hrow.symm.trans hr
   (repeat' (first|(refine Req.go ?_ ?_;omega;conv=>whnf)|(refine CallP.go (hP _ _) ?_;conv=>whnf)))
   refine StR.nat (enc:=eO) (some (dotQ row S.b)) rfl (fun e=>by cases e<;>rfl) (by omega) ?_
   (conv=>whnf)
   (repeat' (refine OpP.add ?_ ?_;omega;conv=>whnf))
   rw[hst]
   exact AKM.back [] (by (conv=>whnf);exact ⟨rfl,rfl,rfl⟩) (jh (j+1) (by omega) (by omega))
  obtain rfl:j=i:=by omega
  clear jh
  rw[List.take_of_length_le (by omega),fillO_full (by omega)]
  have hP:=fun q q'=>ev_product N.toSysGLib S.c (mvQ Mk S.b) q q' 80 (4*(fk+81)) (by rw[h.lc];omega) h.bc himb (by rw[h.lc];have:=Nat.mul_le_mul_right (80+4*(fk+81)+1) hn;omega) (by rw[h.lc];omega)
  generalize mvQ Mk S.b=img at *
  generalize dotQ S.c img=av at *
  (repeat' (first|(refine CmpP.go (fun hc => ?_) (fun hc => ?_)<;>first|(exfalso;omega)|(conv=>whnf))|(refine AKM.x ?_;conv=>whnf)))
  refine SnR.all (enc:=eQ) (fun _=>rfl) rfl (by omega) ?_
  (conv=>whnf)
  (repeat' (first|(refine RowP.e1 ?_;conv=>whnf)|(refine CallP.go (hP _ _) ?_;conv=>whnf)))
  refine AppR.one (enc:=eQ) av rfl hal.symm rfl (by omega) (by omega) ?_
  rw[←hab,aboveQ_len]
  (conv=>whnf)
  skip
  refine CalP.walk 1000 N.network_times rfl rfl ?_
  (repeat' (first|(refine LenP.go ?_;conv=>whnf)|(refine AKM.x ?_;conv=>whnf)))
  unfold MkM
  refine ⟨⟨by omega,by omega,by simp only[roomMax];omega,by omega⟩,?_⟩
  rw[Int.toNat_natCast]
  (conv=>whnf)
  (repeat' (refine LenP.go ?_;conv=>whnf))
  rw[hm]
  refine MkR.go (enc:=eO) none j rfl rfl (by omega) ?_
  (conv=>whnf)
  (repeat' (refine LenP.go ?_;conv=>whnf))
  rw[hm]
  refine AKM.loop1 (fun u=>j-u) (fun (u:Nat)=>u≤j) (fun u=>[(19,.int .i64 u)]) (fun u=>[(188013,188013,.mx (List.replicate u (some (3,(fillO [] j).map eO))++List.replicate (j-u) none))]) [] [] 0 (by (conv=>whnf);exact ⟨rfl,rfl,rfl⟩) (by omega) ?_
  intro u r1 uh
  by_cases hu:u<j
  ·(repeat' (first|(refine CmpP.go (fun hc => ?_) (fun hc => ?_)<;>first|(exfalso;omega)|(conv=>whnf))|(refine LenP.go ?_;conv=>whnf)|(refine AKM.x ?_;conv=>whnf)))
   rw[hm]
   refine MkR.go (enc:=eO) none j rfl rfl (by omega) ?_
   (conv=>whnf)
   (repeat' (first|(refine Req.go ?_ ?_;omega;conv=>whnf)|fail))
   unfold Req SetM
   refine ⟨by simp,by simp;omega,?_⟩
   (conv=>whnf)
   rw[show 0+((u:Int)).toNat=u by omega,←fillO_nil,fillM_set _ _ r1 hu]
   (repeat' (refine OpP.add ?_ ?_;omega;conv=>whnf))
   exact AKM.back [] (by (conv=>whnf);exact ⟨rfl,rfl,rfl⟩) (uh (u+1) (by omega) (by omega))
  obtain rfl:u=j:=by omega
  clear uh
  have hPat : ∀ (e:Nat) row,S.a[e]? = some row→(mulQ S.a Mk u)[e]? = some (mulRow row Mk u):=fun e row hr=>by rw[mulQ,List.getElem?_map,hr];rfl
  have hPl:=hPs.l
  rw[show List.replicate u (some (3,List.map eO (fillO [] u)))++List.replicate (u-u) none=mxR 3 eO (ot (mulQ S.a Mk u) u 0 0) by rw[ot_zero,hPl];simp [mxR]]
  generalize hPg:mulQ S.a Mk u=P at *
  (repeat' (first|(refine CmpP.go (fun hc => ?_) (fun hc => ?_)<;>first|(exfalso;omega)|(conv=>whnf))|(refine LenP.go ?_;conv=>whnf)|(refine AKM.x ?_;conv=>whnf)))
  rw[hm]
  refine AKM.loop2 (fun c _=>u-c) (fun (c:Nat) (pv:List (Option Rat))=>c≤u∧pv.length=u) (fun c _=>[(31,.int .i64 c)]) (fun c pv=>[(188013,188013,.mx (mxR 3 eO (ot P u c 0))),(188016,188016,.rw 3 (pv.map eO))]) [] [] 0 (List.replicate u none) (by (conv=>whnf);exact ⟨rfl,rfl,rfl⟩) ⟨by omega,by simp⟩ ?_
  intro c pv ⟨r2,r3⟩ ch
  by_cases hc2:c<u
  ·have hcoll:=colQ_len Mk c
   (repeat' (first|(refine CmpP.go (fun hc => ?_) (fun hc => ?_)<;>first|(exfalso;omega)|(conv=>whnf))|(refine LenP.go ?_;conv=>whnf)|(refine AKM.x ?_;conv=>whnf)))
   rw[hm]
   refine AKM.loop1 (fun e=>u-e) (fun (e:Nat)=>e≤u) (fun e=>[(36,.int .i64 e)]) (fun e=>[(188016,188016,.rw 3 ((cf (colQ Mk c) pv e).map eO))]) [] [] 0 (by first|exact (by (conv=>whnf);exact ⟨rfl,rfl,rfl⟩)|(rw[cf_zero];exact (by (conv=>whnf);exact ⟨rfl,rfl,rfl⟩))) (by omega) ?_
   intro e r4 eh
   by_cases he2:e<u
   ·obtain ⟨row,hrow⟩ : ∃ row,Mk[e]? = some row:=⟨_,List.getElem?_eq_getElem (by omega)⟩
    have hrl:=hMs.at hrow
    obtain ⟨x,hx⟩ : ∃ x,row[c]? = some x:=⟨_,List.getElem?_eq_getElem (by omega)⟩
    have hcx:(colQ Mk c)[e]? = some x:=by rw[colQ,List.getElem?_map,hrow,Option.map_some,gD_of hx]
    have hcl:=cf_len (l:=colQ Mk c) (by omega) r3 r4
    have hst:=cf_set r3 hcx he2
    (repeat' (first|(refine CmpP.go (fun hc => ?_) (fun hc => ?_)<;>first|(exfalso;omega)|(conv=>whnf))|(refine Req.go ?_ ?_;omega;conv=>whnf)|(refine LdM.nat ?_ (fun r hr => ?_);omega;conv=>whnf)|(refine AKM.x ?_;conv=>whnf)))
    cases hrow.symm.trans hr
    refine Req.go (by rw[List.length_map];omega) ?_
    (conv=>whnf)
    (repeat' (first|(refine Req.go ?_ ?_;omega;conv=>whnf)|(refine LdR.nat ?_ (fun _=>rfl) (fun v hv => ?_);omega;conv=>whnf)|(refine GetM.ati (by assumption) ?_;conv=>whnf)))
    cases hx.symm.trans hv
    refine StR.nat (enc:=eO) (some x) rfl (fun e=>by cases e<;>rfl) (by omega) ?_
    (conv=>whnf)
    (repeat' (refine OpP.add ?_ ?_;omega;conv=>whnf))
    rw[hst]
    exact AKM.back [] (by (conv=>whnf);exact ⟨rfl,rfl,rfl⟩) (eh (e+1) (by omega) (by omega))
   obtain rfl:e=u:=by omega
   clear eh
   rw[cf_full (by omega) r3,map_some_eO]
   (repeat' (first|(refine CmpP.go (fun hc => ?_) (fun hc => ?_)<;>first|(exfalso;omega)|(conv=>whnf))|(refine LenP.go ?_;conv=>whnf)|(refine AKM.x ?_;conv=>whnf)))
   rw[hm]
   refine AKM.loop1 (fun f=>e-f) (fun (f:Nat)=>f≤e) (fun f=>[(52,.int .i64 f)]) (fun f=>[(188013,188013,.mx (mxR 3 eO (ot P e c f)))]) [] [] 0 (by (conv=>whnf);exact ⟨rfl,rfl,rfl⟩) (by omega) ?_
   intro f r5 fh
   by_cases hf2:f<e
   ·obtain ⟨row,hrow⟩ : ∃ row,S.a[f]? = some row:=⟨_,List.getElem?_eq_getElem (by omega)⟩
    have hrow':S.a[(f:Int).toNat]? = some row:=hrow
    have hrl:=hsq.at hrow
    have hPr:=hPat f row hrow
    have hDt:=fun q q'=>ev_product N.toSysGLib row (colQ Mk c) q q' 80 fk (by omega) (h.ba row (List.mem_of_getElem? hrow)) (b1.col c) (by rw[hrl];have:=Nat.mul_le_mul_right (80+fk+1) hn;omega) (by omega)
    have hoa:=ot_at (n:=e) (j:=c) (i:=f) hPr
    rw[if_neg (by omega)]at hoa
    have hos:=ot_set (n:=e) (j:=c) hPr
    have hol:=ot_len P e c f
    have hmc:(mulRow row Mk e)[c]? = some (dotQ row (colQ Mk c)):=by rw[mulRow,List.getElem?_map,List.getElem?_range hc2];rfl
    have hml:=mulRow_len row Mk e
    have hlf:=fillO_len (l:=(mulRow row Mk e).take c) (m:=e) (by rw[List.length_take];omega)
    have hst:=fillO_set (l:=(mulRow row Mk e).take c) (m:=e) (x:=dotQ row (colQ Mk c)) (by rw[List.length_take];omega)
    rw[List.length_take,Nat.min_eq_left (by omega),←take_snoc' hmc]at hst
    generalize ot P e c f=O at *
    (repeat' (first|(refine CmpP.go (fun hc => ?_) (fun hc => ?_)<;>first|(exfalso;omega)|(conv=>whnf))|(refine Req.go ?_ ?_;omega;conv=>whnf)|(refine RdP.at (by assumption) ?_ rfl ?_;omega;conv=>whnf)|(refine LdM.nat ?_ (fun r hr => ?_);omega;conv=>whnf)|(refine AKM.x ?_;conv=>whnf)))
    cases hoa.symm.trans hr
    refine SnR.all (enc:=eQ) (fun _=>rfl) rfl (by omega) ?_
    (conv=>whnf)
    (repeat' (refine CallP.go (hDt _ _) ?_;conv=>whnf))
    have hlf2:=fillO_len (l:=(mulRow row Mk e).take (c+1)) (m:=e) (by rw[List.length_take];omega)
    refine Req.go (by rw[List.length_map];omega) ?_
    (conv=>whnf)
    (repeat' (refine GetM.ati (by assumption) ?_;conv=>whnf))
    refine StR.nat (enc:=eO) (some (dotQ row (colQ Mk c))) rfl (fun e=>by cases e<;>rfl) (by omega) ?_
    (conv=>whnf)
    rw[hst]
    refine PutM.nat (by omega) ?_
    rw[hos]
    (conv=>whnf)
    (repeat' (refine OpP.add ?_ ?_;omega;conv=>whnf))
    exact AKM.back [] (by (conv=>whnf);exact ⟨rfl,rfl,rfl⟩) (fh (f+1) (by omega) (by omega))
   obtain rfl:f=e:=by omega
   clear fh
   have hnx:=ot_next P f c
   rw[hPl]at hnx
   rw[hnx,←map_some_eO (colQ Mk c)]
   (repeat' (first|(refine CmpP.go (fun hc => ?_) (fun hc => ?_)<;>first|(exfalso;omega)|(conv=>whnf))|(refine OpP.add ?_ ?_;omega;conv=>whnf)|(refine AKM.x ?_;conv=>whnf)))
   exact AKM.back [] (by (conv=>whnf);exact ⟨rfl,rfl,rfl⟩) (ch (c+1) ((colQ Mk c).map some) (by omega) ⟨by omega,by rw[List.length_map];omega⟩)
  obtain rfl:c=u:=by omega
  clear ch
  rw[ot_full hPs.r]
  (repeat' (first|(refine CmpP.go (fun hc => ?_) (fun hc => ?_)<;>first|(exfalso;omega)|(conv=>whnf))|(refine AKM.x ?_;conv=>whnf)))
  refine ⟨rfl,_,rfl,?_⟩
  (conv=>whnf)
  (repeat' (refine CallP.go (hO) ?_;conv=>whnf))
  have htr0:((0:Int):Rat)=trQ P 0:=rfl
  rw[htr0]
  refine AKM.loop1 (fun e=>c-e) (fun (e:Nat)=>e≤c) (fun e=>[(80,.int .i64 e)]) (fun e=>[(12,12,.bx (eQ (trQ P e)))]) [] [] 0 (by (conv=>whnf);exact ⟨rfl,rfl,rfl⟩) (by omega) ?_
  intro e r4 eh
  by_cases he2:e<c
  ·obtain ⟨row,hrow⟩ : ∃ row,P[e]? = some row:=⟨_,List.getElem?_eq_getElem (by omega)⟩
   have hrl:=hPs.at hrow
   obtain ⟨x,hx⟩ : ∃ x,row[e]? = some x:=⟨_,List.getElem?_eq_getElem (by omega)⟩
   have htx:trQ P (e+1)=trQ P e+x:=by rw[trQ,getD_row hrow,gD_of hx]
   have btr:=Ms.tr b2 e
   have hkb:e*(4*(fk+81)+1)≤4*(4*(fk+81)+1):=Nat.mul_le_mul_right _ (by omega)
   have hA:=ev_addQ N.toRatGLib btr ((b2.at hrow).at hx) (by omega) (by omega)
   rw[←htx]at hA
   (repeat' (first|(refine CmpP.go (fun hc => ?_) (fun hc => ?_)<;>first|(exfalso;omega)|(conv=>whnf))|(refine Req.go ?_ ?_;omega;conv=>whnf)|(refine LdM.nat ?_ (fun r hr => ?_);omega;conv=>whnf)|(refine AKM.x ?_;conv=>whnf)))
   cases hrow.symm.trans hr
   refine Req.go (by rw[List.length_map];omega) ?_
   (conv=>whnf)
   (repeat' (first|(refine LdR.nat ?_ (fun _=>rfl) (fun v hv => ?_);omega;conv=>whnf)|(refine GetM.ati (by assumption) ?_;conv=>whnf)))
   cases hx.symm.trans hv
   (repeat' (first|(refine OpP.add ?_ ?_;omega;conv=>whnf)|(refine CallP.go (hA) ?_;conv=>whnf)))
   exact AKM.back [] (by (conv=>whnf);exact ⟨rfl,rfl,rfl⟩) (eh (e+1) (by omega) (by omega))
  obtain rfl:e=c:=by omega
  clear eh
  have btr:=Ms.tr b2 e
  have hkb:e*(4*(fk+81)+1)≤4*(4*(fk+81)+1):=Nat.mul_le_mul_right _ (by omega)
  have hF:=ev_FracQ N.toRatHLib (-1) ((k+1:Nat):Int) (by omega) (by omega) (by omega)
  have hM:=ev_mulQ N.toRatGLib btr (bt_inv (k:=k+1) (by omega)) (by omega) (by omega)
  rw[←hcf]at hM
  (repeat' (first|(refine CmpP.go (fun hc => ?_) (fun hc => ?_)<;>first|(exfalso;omega)|(conv=>whnf))|(refine AKM.x ?_;conv=>whnf)|(refine CallP.go (hF) ?_;conv=>whnf)|(refine CallP.go (hM) ?_;conv=>whnf)))
  have hz0:=addD_zero P ck
  refine AKM.loop1 (fun f=>e-f) (fun (f:Nat)=>f≤e) (fun f=>[(98,.int .i64 f)]) (fun f=>[(188013,188013,.mx (mxR 3 eQ (addD P ck f)))]) [] [] 0 (by first|exact (by (conv=>whnf);exact ⟨rfl,rfl,rfl⟩)|(rw[hz0];exact (by (conv=>whnf);exact ⟨rfl,rfl,rfl⟩))) (by omega) ?_
  intro f r5 fh
  by_cases hf2:f<e
  ·obtain ⟨row,hrow⟩ : ∃ row,P[f]? = some row:=⟨_,List.getElem?_eq_getElem (by omega)⟩
   have hrl:=hPs.at hrow
   obtain ⟨x,hx⟩ : ∃ x,row[f]? = some x:=⟨_,List.getElem?_eq_getElem (by omega)⟩
   have hA:=ev_addQ N.toRatGLib ((b2.at hrow).at hx) b3 (by omega) (by omega)
   have hnx:=addD_next (c:=ck) hrow
   have hsu:=addD_succ (c:=ck) hrow
   rw[gD_of hx]at hsu
   have hdl:=addD_len P ck f
   generalize addD P ck f=D0 at *
   (repeat' (first|(refine CmpP.go (fun hc => ?_) (fun hc => ?_)<;>first|(exfalso;omega)|(conv=>whnf))|(refine Req.go ?_ ?_;omega;conv=>whnf)|(refine LdM.nat ?_ (fun r hr => ?_);omega;conv=>whnf)|(refine AKM.x ?_;conv=>whnf)))
   cases hnx.symm.trans hr
   cases hnx.symm.trans ‹D0[f]? = some r›
   refine Req.go (by rw[List.length_map];omega) ?_
   (conv=>whnf)
   (repeat' (first|(refine LdR.nat ?_ (fun _=>rfl) (fun v hv => ?_);omega;conv=>whnf)|(refine GetM.ati (by assumption) ?_;conv=>whnf)))
   cases hx.symm.trans hv
   (repeat' (refine CallP.go (hA) ?_;conv=>whnf))
   refine Req.go (by rw[List.length_map];omega) ?_
   (conv=>whnf)
   (repeat' (refine GetM.ati (by assumption) ?_;conv=>whnf))
   refine StR.nat (enc:=eQ) (x+ck) rfl (fun _=>rfl) (by omega) ?_
   (conv=>whnf)
   refine PutM.nat (by rw[List.length_set]) ?_
   rw[←hsu]
   (conv=>whnf)
   (repeat' (refine OpP.add ?_ ?_;omega;conv=>whnf))
   exact AKM.back [] (by (conv=>whnf);exact ⟨rfl,rfl,rfl⟩) (fh (f+1) (by omega) (by omega))
  obtain rfl:f=e:=by omega
  clear fh
  rw[←hfl]
  (repeat' (first|(refine CmpP.go (fun hc => ?_) (fun hc => ?_)<;>first|(exfalso;omega)|(conv=>whnf))|(refine RowP.e1 ?_;conv=>whnf)|(refine AKM.x ?_;conv=>whnf)))
  refine AppR.one (enc:=eQ) ck rfl hbl.symm rfl (by omega) (by omega) ?_
  rw[←hbe,belowQ_len]
  (conv=>whnf)
  (repeat' (refine OpP.add ?_ ?_;omega;conv=>whnf))
  exact AKM.back [(145006,188013),(27,120),(29,73)] (by (conv=>whnf);exact ⟨rfl,rfl,rfl⟩) (kh (k+1) 188013 (by omega) (by omega))
 obtain rfl:k=i:=by omega
 clear kh
 have hbeB:Bs 250000000 (belowQ S.a k k):=by
  intro x hx
  simp only[belowQ,List.mem_cons,List.mem_map,List.mem_range]at hx
  rcases hx with rfl|⟨j,hj,rfl⟩
  ·exact Bt.one _
  ·have hKj:=flK_le j (by omega)
   exact (Ms.fl hsq h.ba hn j (by omega)).2.2.le (by omega)
 have habB:Bs 250000000 (aboveQ S k k):=by
  intro x hx
  simp only[aboveQ,List.mem_cons,List.mem_map,List.mem_range]at hx
  rcases hx with rfl|⟨j,hj,rfl⟩
  ·exact Bt.zero _
  ·have hKj:=flK_le j (by omega)
   have himb:Bs (4*(flK j+81)) (mvQ (flM S.a k j) S.b):=by
    intro x hx
    obtain ⟨r,hr,rfl⟩:=List.mem_map.1 hx
    refine (((Ms.fl hsq h.ba hn j (by omega)).1 r hr).dot h.bb).le ?_
    rw[(Sq.fl hm j).r r hr]
    exact Nat.mul_le_mul hn (by omega)
   refine (h.bc.dot himb).le ?_
   rw[h.lc]
   have:=Nat.mul_le_mul_right (80+4*(flK j+81)+1) hn
   generalize hX:80+4*(flK j+81)+1=X at this ⊢
   omega
 have hbl:=belowQ_len S.a k k
 have hal:=aboveQ_len S k k
 have hmB:Bs 250000080 ((belowQ S.a k k).map (· * S.d)):=by
  intro y hy
  obtain ⟨x,hx,rfl⟩:=List.mem_map.1 hy
  exact ((hbeB x hx).mul h.bd).le (by omega)
 have hml:((belowQ S.a k k).map (· * S.d)).length=k+1:=by rw[List.length_map];exact hbl
 have htl:=trimQ_len ((belowQ S.a k k).map (· * S.d))
 have hct:=cutN_le ((belowQ S.a k k).map (· * S.d)) ((belowQ S.a k k).map (· * S.d)).length
 have hSc:=fun q=>ev_pScale N q (belowQ S.a k k) S.d 250000000 80 hbeB h.bd (by omega) (by omega)
 have hAd:=fun q q'=>ev_pAdd N q q' (aboveQ S k k) (trimQ ((belowQ S.a k k).map (· * S.d))) 250000000 250000080 habB hmB.trim (by omega) (by omega) (by omega)
 have hTr:=fun q=>ev_pTrim N.toPolyGLib q (belowQ S.a k k) 250000000 hbeB (by omega) (by omega)
 have hfin:Clean (.tup [.agg [.sl false ((tfB S k).map eQ),.sl false ((tfA S k).map eQ)],.int .i64 0]):=by
  simp only[Clean,CleanL,true_and,and_true]
  exact ⟨cl_eQs _,cl_eQs _⟩
 unfold tfB tfA at *
 generalize trimQ (addP (aboveQ S k k) (trimQ ((belowQ S.a k k).map (· * S.d))))=rB at *
 generalize trimQ ((belowQ S.a k k).map (· * S.d))=sc at *
 generalize trimQ (belowQ S.a k k)=rA at *
 (repeat' (first|(refine CmpP.go (fun hc => ?_) (fun hc => ?_)<;>first|(exfalso;omega)|(conv=>whnf))|(refine AKM.x ?_;conv=>whnf)))
 refine SnR.all (enc:=eQ) (fun _=>rfl) rfl hbl.symm ?_
 (conv=>whnf)
 (repeat' (refine CallP.go (hSc _) ?_;conv=>whnf))
 refine SnR.all (enc:=eQ) (fun _=>rfl) rfl hal.symm ?_
 (conv=>whnf)
 (repeat' (refine CallP.go (hAd _ _) ?_;conv=>whnf))
 refine SnR.all (enc:=eQ) (fun _=>rfl) rfl hbl.symm ?_
 (conv=>whnf)
 (repeat' (refine CallP.go (hTr _) ?_;conv=>whnf))
 exact FinP.go rfl hfin
end Go.Eng
namespace Go.Eng
def hQ (S:SysQ):Nat→Rat
 | 0=>S.d
 | j+1=>dotQ S.c (wQ S j)
theorem cut_zero {l:List Rat} : ∀ {n i:Nat},cutN l n≤i→i<n→l.getD i 0=0
 | 0,i,_,h=>by omega
 | n+1,i,h,hi=>by
  rw[cutN]at h
  split at h
  ·rename_i h0
   by_cases e:i=n
   ·subst e;exact h0
   ·exact cut_zero h (by omega)
  ·omega
theorem trimQ_getD (l:List Rat) (i:Nat):(trimQ l).getD i 0=l.getD i 0:=by
 by_cases h:i<cutN l l.length
 ·have:=cutN_le l l.length
  rw[trimQ,List.getD_eq_getElem?_getD,List.getElem?_take_of_lt h,List.getD_eq_getElem?_getD]
 ·rw[gD_ge (by rw[trimQ_len];omega)]
  by_cases h2:i<l.length
  ·exact (cut_zero (by omega) h2).symm
  ·exact (gD_ge (by omega)).symm
theorem below_getD (a:List (List Rat)) (n i:Nat) (h:i≤n):(belowQ a n n).getD i 0=cfQ a n i:=by
 cases i with
 | zero=>rfl
 | succ i =>
  rw[belowQ,List.getD_cons_succ,List.getD_eq_getElem?_getD,List.getElem?_map,List.getElem?_range (by omega)]
  rfl
theorem addP_getD (p r:List Rat) (h:r.length≤p.length) (i:Nat):(addP p r).getD i 0=p.getD i 0+r.getD i 0:=by
 by_cases hi:i<p.length
 ·exact gD_of (addP_at hi)
 ·rw[gD_ge (by rw[addP_len];omega),gD_ge (by omega),gD_ge (by omega),Rat.add_zero]
theorem smap_getD (l:List Rat) (d:Rat) (i:Nat):(l.map (· * d)).getD i 0=l.getD i 0*d:=by
 rw[List.getD_eq_getElem?_getD,List.getD_eq_getElem?_getD,List.getElem?_map]
 cases l[i]? with
 | none=>simp
 | some x=>rfl
end Go.Eng

namespace Go.Eng
theorem trimQ_last {r:List Rat} (h:trimQ r=r) (hn:r.length≠0):r.getD (r.length-1) 0≠0:=by
 have hl:=trimQ_len r
 rw[h]at hl
 obtain ⟨n,hn'⟩ : ∃ n,r.length=n+1:=⟨r.length-1,by omega⟩
 rw[hn',cutN]at hl
 rw[hn',Nat.add_sub_cancel]
 intro h0
 rw[if_pos h0]at hl
 have:=cutN_le r n
 omega
theorem trimQ_eq {l r:List Rat} (hr:trimQ r=r) (h : ∀ i,l.getD i 0=r.getD i 0):trimQ l=r:=by
 have ht:=trimQ_idem l
 have hg : ∀ i,(trimQ l).getD i 0=r.getD i 0:=fun i=>by rw[trimQ_getD,h]
 generalize trimQ l=t at *
 have hle:t.length=r.length:=by
  by_cases h1:t.length<r.length
  ·exact absurd (by rw[←hg];exact gD_ge (by omega)) (trimQ_last hr (by omega))
  ·by_cases h2:r.length<t.length
   ·exact absurd (by rw[hg];exact gD_ge (by omega)) (trimQ_last ht (by omega))
   ·omega
 refine List.ext_getElem? fun i => ?_
 by_cases hi:i<t.length
 ·have e1:t[i]? = some t[i]:=List.getElem?_eq_getElem hi
  have e2:r[i]? = some (r[i]'(by omega)):=List.getElem?_eq_getElem (by omega)
  have:=hg i
  rw[gD_of e1,gD_of e2]at this
  rw[e1,e2,this]
 ·rw[List.getElem?_eq_none (by omega),List.getElem?_eq_none (by omega)]
def ctlQ (B A:List Rat) (n:Nat):SysQ where
 a:=(List.range n).map fun i=>if i=0 then (List.range n).map fun k => -(A.getD (k+1) 0) else unitL n ((i-1:Nat):Int)
 b:=unitL n 0
 c:=(List.range n).map fun i=>B.getD (i+1) 0-B.getD 0 0*A.getD (i+1) 0
 d:=B.getD 0 0
def obsQ (B A:List Rat) (n:Nat):SysQ where
 a:=(List.range n).map fun i=>colQ (ctlQ B A n).a i
 b:=(ctlQ B A n).c
 c:=(ctlQ B A n).b
 d:=(ctlQ B A n).d
theorem comp1 (p:Rat):flM [[-p]] 1 0=[[1]]∧cofQ [[-p]] 1 0=p:=by
 have g0:flM [[-p]] 1 0=[[1]]:=rfl
 have k0:=cof_inv 1 (by omega) (trQ (mulQ [[-p]] (flM [[-p]] 1 0) 1) 1)
 rw[show trQ (mulQ [[-p]] (flM [[-p]] 1 0) 1) 1*Rat.divInt (-1) ((1:Nat):Int)=cofQ [[-p]] 1 0 from rfl,g0,tr1]at k0
 have e0:cofQ [[-p]] 1 0=p:=by grind
 exact ⟨g0,e0⟩
theorem comp2 (p q:Rat):flM [[-p,-q],[1,0]] 2 0=[[1,0],[0,1]]∧flM [[-p,-q],[1,0]] 2 1=[[0,-q],[1,p]]∧cofQ [[-p,-q],[1,0]] 2 0=p∧cofQ [[-p,-q],[1,0]] 2 1=q:=by
 have g0:flM [[-p,-q],[1,0]] 2 0=[[1,0],[0,1]]:=rfl
 have k0:=cof_inv 1 (by omega) (trQ (mulQ [[-p,-q],[1,0]] (flM [[-p,-q],[1,0]] 2 0) 2) 2)
 rw[show trQ (mulQ [[-p,-q],[1,0]] (flM [[-p,-q],[1,0]] 2 0) 2) 2*Rat.divInt (-1) ((1:Nat):Int)=cofQ [[-p,-q],[1,0]] 2 0 from rfl,g0,tr2]at k0
 have e0:cofQ [[-p,-q],[1,0]] 2 0=p:=by grind
 have g1:flM [[-p,-q],[1,0]] 2 1=[[0,-q],[1,p]]:=by
  have h:flM [[-p,-q],[1,0]] 2 1=addD (mulQ [[-p,-q],[1,0]] (flM [[-p,-q],[1,0]] 2 0) 2) (cofQ [[-p,-q],[1,0]] 2 0) 2:=rfl
  rw[g0,e0,step2]at h
  rw[h]
  clear h
  simp only[List.cons.injEq,and_true]
  refine ⟨⟨?_,?_⟩,⟨?_,?_⟩⟩<;>grind
 have k1:=cof_inv 2 (by omega) (trQ (mulQ [[-p,-q],[1,0]] (flM [[-p,-q],[1,0]] 2 1) 2) 2)
 rw[show trQ (mulQ [[-p,-q],[1,0]] (flM [[-p,-q],[1,0]] 2 1) 2) 2*Rat.divInt (-1) ((2:Nat):Int)=cofQ [[-p,-q],[1,0]] 2 1 from rfl,g1,tr2]at k1
 have e1:cofQ [[-p,-q],[1,0]] 2 1=q:=by grind
 exact ⟨g0,g1,e0,e1⟩
theorem obs2 (p q:Rat):flM [[-p,1],[-q,0]] 2 0=[[1,0],[0,1]]∧flM [[-p,1],[-q,0]] 2 1=[[0,1],[-q,p]]∧cofQ [[-p,1],[-q,0]] 2 0=p∧cofQ [[-p,1],[-q,0]] 2 1=q:=by
 have g0:flM [[-p,1],[-q,0]] 2 0=[[1,0],[0,1]]:=rfl
 have k0:=cof_inv 1 (by omega) (trQ (mulQ [[-p,1],[-q,0]] (flM [[-p,1],[-q,0]] 2 0) 2) 2)
 rw[show trQ (mulQ [[-p,1],[-q,0]] (flM [[-p,1],[-q,0]] 2 0) 2) 2*Rat.divInt (-1) ((1:Nat):Int)=cofQ [[-p,1],[-q,0]] 2 0 from rfl,g0,tr2]at k0
 have e0:cofQ [[-p,1],[-q,0]] 2 0=p:=by grind
 have g1:flM [[-p,1],[-q,0]] 2 1=[[0,1],[-q,p]]:=by
  have h:flM [[-p,1],[-q,0]] 2 1=addD (mulQ [[-p,1],[-q,0]] (flM [[-p,1],[-q,0]] 2 0) 2) (cofQ [[-p,1],[-q,0]] 2 0) 2:=rfl
  rw[g0,e0,step2]at h
  rw[h]
  clear h
  simp only[List.cons.injEq,and_true]
  refine ⟨⟨?_,?_⟩,⟨?_,?_⟩⟩<;>grind
 have k1:=cof_inv 2 (by omega) (trQ (mulQ [[-p,1],[-q,0]] (flM [[-p,1],[-q,0]] 2 1) 2) 2)
 rw[show trQ (mulQ [[-p,1],[-q,0]] (flM [[-p,1],[-q,0]] 2 1) 2) 2*Rat.divInt (-1) ((2:Nat):Int)=cofQ [[-p,1],[-q,0]] 2 1 from rfl,g1,tr2]at k1
 have e1:cofQ [[-p,1],[-q,0]] 2 1=q:=by grind
 exact ⟨g0,g1,e0,e1⟩
theorem comp3 (p q r:Rat):flM [[-p,-q,-r],[1,0,0],[0,1,0]] 3 0=[[1,0,0],[0,1,0],[0,0,1]]∧flM [[-p,-q,-r],[1,0,0],[0,1,0]] 3 1=[[0,-q,-r],[1,p,0],[0,1,p]]∧flM [[-p,-q,-r],[1,0,0],[0,1,0]] 3 2=[[0,-r,0],[0,0,-r],[1,p,q]]∧cofQ [[-p,-q,-r],[1,0,0],[0,1,0]] 3 0=p∧cofQ [[-p,-q,-r],[1,0,0],[0,1,0]] 3 1=q∧cofQ [[-p,-q,-r],[1,0,0],[0,1,0]] 3 2=r:=by
 have g0:flM [[-p,-q,-r],[1,0,0],[0,1,0]] 3 0=[[1,0,0],[0,1,0],[0,0,1]]:=rfl
 have k0:=cof_inv 1 (by omega) (trQ (mulQ [[-p,-q,-r],[1,0,0],[0,1,0]] (flM [[-p,-q,-r],[1,0,0],[0,1,0]] 3 0) 3) 3)
 rw[show trQ (mulQ [[-p,-q,-r],[1,0,0],[0,1,0]] (flM [[-p,-q,-r],[1,0,0],[0,1,0]] 3 0) 3) 3*Rat.divInt (-1) ((1:Nat):Int)=cofQ [[-p,-q,-r],[1,0,0],[0,1,0]] 3 0 from rfl,g0,tr3]at k0
 have e0:cofQ [[-p,-q,-r],[1,0,0],[0,1,0]] 3 0=p:=by grind
 have g1:flM [[-p,-q,-r],[1,0,0],[0,1,0]] 3 1=[[0,-q,-r],[1,p,0],[0,1,p]]:=by
  have h:flM [[-p,-q,-r],[1,0,0],[0,1,0]] 3 1=addD (mulQ [[-p,-q,-r],[1,0,0],[0,1,0]] (flM [[-p,-q,-r],[1,0,0],[0,1,0]] 3 0) 3) (cofQ [[-p,-q,-r],[1,0,0],[0,1,0]] 3 0) 3:=rfl
  rw[g0,e0,step3]at h
  rw[h]
  clear h
  simp only[List.cons.injEq,and_true]
  refine ⟨⟨?_,?_,?_⟩,⟨?_,?_,?_⟩,⟨?_,?_,?_⟩⟩<;>grind
 have k1:=cof_inv 2 (by omega) (trQ (mulQ [[-p,-q,-r],[1,0,0],[0,1,0]] (flM [[-p,-q,-r],[1,0,0],[0,1,0]] 3 1) 3) 3)
 rw[show trQ (mulQ [[-p,-q,-r],[1,0,0],[0,1,0]] (flM [[-p,-q,-r],[1,0,0],[0,1,0]] 3 1) 3) 3*Rat.divInt (-1) ((2:Nat):Int)=cofQ [[-p,-q,-r],[1,0,0],[0,1,0]] 3 1 from rfl,g1,tr3]at k1
 have e1:cofQ [[-p,-q,-r],[1,0,0],[0,1,0]] 3 1=q:=by grind
 have g2:flM [[-p,-q,-r],[1,0,0],[0,1,0]] 3 2=[[0,-r,0],[0,0,-r],[1,p,q]]:=by
  have h:flM [[-p,-q,-r],[1,0,0],[0,1,0]] 3 2=addD (mulQ [[-p,-q,-r],[1,0,0],[0,1,0]] (flM [[-p,-q,-r],[1,0,0],[0,1,0]] 3 1) 3) (cofQ [[-p,-q,-r],[1,0,0],[0,1,0]] 3 1) 3:=rfl
  rw[g1,e1,step3]at h
  rw[h]
  clear h
  simp only[List.cons.injEq,and_true]
  refine ⟨⟨?_,?_,?_⟩,⟨?_,?_,?_⟩,⟨?_,?_,?_⟩⟩<;>grind
 have k2:=cof_inv 3 (by omega) (trQ (mulQ [[-p,-q,-r],[1,0,0],[0,1,0]] (flM [[-p,-q,-r],[1,0,0],[0,1,0]] 3 2) 3) 3)
 rw[show trQ (mulQ [[-p,-q,-r],[1,0,0],[0,1,0]] (flM [[-p,-q,-r],[1,0,0],[0,1,0]] 3 2) 3) 3*Rat.divInt (-1) ((3:Nat):Int)=cofQ [[-p,-q,-r],[1,0,0],[0,1,0]] 3 2 from rfl,g2,tr3]at k2
 have e2:cofQ [[-p,-q,-r],[1,0,0],[0,1,0]] 3 2=r:=by grind
 exact ⟨g0,g1,g2,e0,e1,e2⟩
theorem obs3 (p q r:Rat):flM [[-p,1,0],[-q,0,1],[-r,0,0]] 3 0=[[1,0,0],[0,1,0],[0,0,1]]∧flM [[-p,1,0],[-q,0,1],[-r,0,0]] 3 1=[[0,1,0],[-q,p,1],[-r,0,p]]∧flM [[-p,1,0],[-q,0,1],[-r,0,0]] 3 2=[[0,0,1],[-r,0,p],[0,-r,q]]∧cofQ [[-p,1,0],[-q,0,1],[-r,0,0]] 3 0=p∧cofQ [[-p,1,0],[-q,0,1],[-r,0,0]] 3 1=q∧cofQ [[-p,1,0],[-q,0,1],[-r,0,0]] 3 2=r:=by
 have g0:flM [[-p,1,0],[-q,0,1],[-r,0,0]] 3 0=[[1,0,0],[0,1,0],[0,0,1]]:=rfl
 have k0:=cof_inv 1 (by omega) (trQ (mulQ [[-p,1,0],[-q,0,1],[-r,0,0]] (flM [[-p,1,0],[-q,0,1],[-r,0,0]] 3 0) 3) 3)
 rw[show trQ (mulQ [[-p,1,0],[-q,0,1],[-r,0,0]] (flM [[-p,1,0],[-q,0,1],[-r,0,0]] 3 0) 3) 3*Rat.divInt (-1) ((1:Nat):Int)=cofQ [[-p,1,0],[-q,0,1],[-r,0,0]] 3 0 from rfl,g0,tr3]at k0
 have e0:cofQ [[-p,1,0],[-q,0,1],[-r,0,0]] 3 0=p:=by grind
 have g1:flM [[-p,1,0],[-q,0,1],[-r,0,0]] 3 1=[[0,1,0],[-q,p,1],[-r,0,p]]:=by
  have h:flM [[-p,1,0],[-q,0,1],[-r,0,0]] 3 1=addD (mulQ [[-p,1,0],[-q,0,1],[-r,0,0]] (flM [[-p,1,0],[-q,0,1],[-r,0,0]] 3 0) 3) (cofQ [[-p,1,0],[-q,0,1],[-r,0,0]] 3 0) 3:=rfl
  rw[g0,e0,step3]at h
  rw[h]
  clear h
  simp only[List.cons.injEq,and_true]
  refine ⟨⟨?_,?_,?_⟩,⟨?_,?_,?_⟩,⟨?_,?_,?_⟩⟩<;>grind
 have k1:=cof_inv 2 (by omega) (trQ (mulQ [[-p,1,0],[-q,0,1],[-r,0,0]] (flM [[-p,1,0],[-q,0,1],[-r,0,0]] 3 1) 3) 3)
 rw[show trQ (mulQ [[-p,1,0],[-q,0,1],[-r,0,0]] (flM [[-p,1,0],[-q,0,1],[-r,0,0]] 3 1) 3) 3*Rat.divInt (-1) ((2:Nat):Int)=cofQ [[-p,1,0],[-q,0,1],[-r,0,0]] 3 1 from rfl,g1,tr3]at k1
 have e1:cofQ [[-p,1,0],[-q,0,1],[-r,0,0]] 3 1=q:=by grind
 have g2:flM [[-p,1,0],[-q,0,1],[-r,0,0]] 3 2=[[0,0,1],[-r,0,p],[0,-r,q]]:=by
  have h:flM [[-p,1,0],[-q,0,1],[-r,0,0]] 3 2=addD (mulQ [[-p,1,0],[-q,0,1],[-r,0,0]] (flM [[-p,1,0],[-q,0,1],[-r,0,0]] 3 1) 3) (cofQ [[-p,1,0],[-q,0,1],[-r,0,0]] 3 1) 3:=rfl
  rw[g1,e1,step3]at h
  rw[h]
  clear h
  simp only[List.cons.injEq,and_true]
  refine ⟨⟨?_,?_,?_⟩,⟨?_,?_,?_⟩,⟨?_,?_,?_⟩⟩<;>grind
 have k2:=cof_inv 3 (by omega) (trQ (mulQ [[-p,1,0],[-q,0,1],[-r,0,0]] (flM [[-p,1,0],[-q,0,1],[-r,0,0]] 3 2) 3) 3)
 rw[show trQ (mulQ [[-p,1,0],[-q,0,1],[-r,0,0]] (flM [[-p,1,0],[-q,0,1],[-r,0,0]] 3 2) 3) 3*Rat.divInt (-1) ((3:Nat):Int)=cofQ [[-p,1,0],[-q,0,1],[-r,0,0]] 3 2 from rfl,g2,tr3]at k2
 have e2:cofQ [[-p,1,0],[-q,0,1],[-r,0,0]] 3 2=r:=by grind
 exact ⟨g0,g1,g2,e0,e1,e2⟩
theorem tf_of {S:SysQ} {n:Nat} {B A:List Rat} (hA:trimQ A=A) (hB:trimQ B=B) (lA:A.length≤n+1) (lB:B.length≤n+1) (h0:A.getD 0 0=1) (hd:S.d=B.getD 0 0)
  (h1 : ∀ k,k<n→cofQ S.a n k=A.getD (k+1) 0) (h2 : ∀ k,k<n→dotQ S.c (mvQ (flM S.a n k) S.b)=B.getD (k+1) 0-B.getD 0 0*A.getD (k+1) 0):tfA S n=A∧tfB S n=B:=by
 have hb : ∀ i,(belowQ S.a n n).getD i 0=A.getD i 0:=fun i=>by
  by_cases hi:i≤n
  ·rw[below_getD _ _ _ hi]
   cases i with
   | zero=>exact h0.symm
   | succ i=>exact h1 i (by omega)
  ·rw[gD_ge (by rw[belowQ_len];omega),gD_ge (by omega)]
 have ha : ∀ i,(aboveQ S n n).getD i 0=B.getD i 0-B.getD 0 0*A.getD i 0:=fun i=>by
  cases i with
  | zero =>
   rw[h0]
   show (0:Rat)=_
   grind
  | succ i =>
   by_cases hi:i<n
   ·rw[aboveQ,List.getD_cons_succ,List.getD_eq_getElem?_getD,List.getElem?_map,List.getElem?_range hi]
    exact h2 i hi
   ·rw[gD_ge (by rw[aboveQ_len];omega),gD_ge (l:=B) (i:=i+1) (by omega),gD_ge (l:=A) (by omega)]
    grind
 have hle:(trimQ ((belowQ S.a n n).map (· * S.d))).length≤(aboveQ S n n).length:=by
  rw[trimQ_len,aboveQ_len]
  have:=cutN_le ((belowQ S.a n n).map (· * S.d)) ((belowQ S.a n n).map (· * S.d)).length
  have:=belowQ_len S.a n n
  rw[List.length_map]at *
  omega
 refine ⟨trimQ_eq hA hb,trimQ_eq hB fun i => ?_⟩
 rw[addP_getD _ _ hle,trimQ_getD,smap_getD,ha,hb,hd]
 grind
theorem ctl_tf {B A:List Rat} {n:Nat} (hA:trimQ A=A) (hB:trimQ B=B) (lA:A.length≤n+1) (lB:B.length≤n+1) (h0:A.getD 0 0=1) (hn:n≤3):tfA (ctlQ B A n) n=A∧tfB (ctlQ B A n) n=B:=by
 rcases n with _|_|_|_|n
 ·exact tf_of hA hB lA lB h0 rfl (fun k hk=>absurd hk (by omega)) (fun k hk=>absurd hk (by omega))
 ·obtain ⟨m0,c0⟩:=comp1 (A.getD 1 0)
  refine tf_of hA hB lA lB h0 rfl (fun k hk => ?_) (fun k hk => ?_)
  ·have hk':k=0:=by omega
   subst hk'
   exact c0
  ·have hk':k=0:=by omega
   subst hk'
   show dotQ [B.getD 1 0-B.getD 0 0*A.getD 1 0] (mvQ (flM [[-(A.getD 1 0)]] 1 0) [1])=_
   rw[m0]
   simp only[mvQ,List.map_cons,List.map_nil,dotQ]
   grind
 ·obtain ⟨m0,m1,c0,c1⟩:=comp2 (A.getD 1 0) (A.getD 2 0)
  refine tf_of hA hB lA lB h0 rfl (fun k hk => ?_) (fun k hk => ?_)
  ·have hk':k=0∨k=1:=by omega
   rcases hk' with rfl|rfl
   ·exact c0
   ·exact c1
  ·have hk':k=0∨k=1:=by omega
   rcases hk' with rfl|rfl
   ·show dotQ [B.getD 1 0-B.getD 0 0*A.getD 1 0,B.getD 2 0-B.getD 0 0*A.getD 2 0] (mvQ (flM [[-(A.getD 1 0),-(A.getD 2 0)],[1,0]] 2 0) [1,0])=_
    rw[m0]
    simp only[mvQ,List.map_cons,List.map_nil,dotQ]
    grind
   ·show dotQ [B.getD 1 0-B.getD 0 0*A.getD 1 0,B.getD 2 0-B.getD 0 0*A.getD 2 0] (mvQ (flM [[-(A.getD 1 0),-(A.getD 2 0)],[1,0]] 2 1) [1,0])=_
    rw[m1]
    simp only[mvQ,List.map_cons,List.map_nil,dotQ]
    grind
 ·obtain ⟨m0,m1,m2,c0,c1,c2⟩:=comp3 (A.getD 1 0) (A.getD 2 0) (A.getD 3 0)
  refine tf_of hA hB lA lB h0 rfl (fun k hk => ?_) (fun k hk => ?_)
  ·have hk':k=0∨k=1∨k=2:=by omega
   rcases hk' with rfl|rfl|rfl
   ·exact c0
   ·exact c1
   ·exact c2
  ·have hk':k=0∨k=1∨k=2:=by omega
   rcases hk' with rfl|rfl|rfl
   ·show dotQ [B.getD 1 0-B.getD 0 0*A.getD 1 0,B.getD 2 0-B.getD 0 0*A.getD 2 0,B.getD 3 0-B.getD 0 0*A.getD 3 0] (mvQ (flM [[-(A.getD 1 0),-(A.getD 2 0),-(A.getD 3 0)],[1,0,0],[0,1,0]] 3 0) [1,0,0])=_
    rw[m0]
    simp only[mvQ,List.map_cons,List.map_nil,dotQ]
    grind
   ·show dotQ [B.getD 1 0-B.getD 0 0*A.getD 1 0,B.getD 2 0-B.getD 0 0*A.getD 2 0,B.getD 3 0-B.getD 0 0*A.getD 3 0] (mvQ (flM [[-(A.getD 1 0),-(A.getD 2 0),-(A.getD 3 0)],[1,0,0],[0,1,0]] 3 1) [1,0,0])=_
    rw[m1]
    simp only[mvQ,List.map_cons,List.map_nil,dotQ]
    grind
   ·show dotQ [B.getD 1 0-B.getD 0 0*A.getD 1 0,B.getD 2 0-B.getD 0 0*A.getD 2 0,B.getD 3 0-B.getD 0 0*A.getD 3 0] (mvQ (flM [[-(A.getD 1 0),-(A.getD 2 0),-(A.getD 3 0)],[1,0,0],[0,1,0]] 3 2) [1,0,0])=_
    rw[m2]
    simp only[mvQ,List.map_cons,List.map_nil,dotQ]
    grind
 ·omega
theorem obs_tf {B A:List Rat} {n:Nat} (hA:trimQ A=A) (hB:trimQ B=B) (lA:A.length≤n+1) (lB:B.length≤n+1) (h0:A.getD 0 0=1) (hn:n≤3):tfA (obsQ B A n) n=A∧tfB (obsQ B A n) n=B:=by
 rcases n with _|_|_|_|n
 ·exact tf_of hA hB lA lB h0 rfl (fun k hk=>absurd hk (by omega)) (fun k hk=>absurd hk (by omega))
 ·obtain ⟨m0,c0⟩:=comp1 (A.getD 1 0)
  refine tf_of hA hB lA lB h0 rfl (fun k hk => ?_) (fun k hk => ?_)
  ·have hk':k=0:=by omega
   subst hk'
   exact c0
  ·have hk':k=0:=by omega
   subst hk'
   show dotQ [1] (mvQ (flM [[-(A.getD 1 0)]] 1 0) [B.getD 1 0-B.getD 0 0*A.getD 1 0])=_
   rw[m0]
   simp only[mvQ,List.map_cons,List.map_nil,dotQ]
   grind
 ·obtain ⟨m0,m1,c0,c1⟩:=obs2 (A.getD 1 0) (A.getD 2 0)
  refine tf_of hA hB lA lB h0 rfl (fun k hk => ?_) (fun k hk => ?_)
  ·have hk':k=0∨k=1:=by omega
   rcases hk' with rfl|rfl
   ·exact c0
   ·exact c1
  ·have hk':k=0∨k=1:=by omega
   rcases hk' with rfl|rfl
   ·show dotQ [1,0] (mvQ (flM [[-(A.getD 1 0),1],[-(A.getD 2 0),0]] 2 0) [B.getD 1 0-B.getD 0 0*A.getD 1 0,B.getD 2 0-B.getD 0 0*A.getD 2 0])=_
    rw[m0]
    simp only[mvQ,List.map_cons,List.map_nil,dotQ]
    grind
   ·show dotQ [1,0] (mvQ (flM [[-(A.getD 1 0),1],[-(A.getD 2 0),0]] 2 1) [B.getD 1 0-B.getD 0 0*A.getD 1 0,B.getD 2 0-B.getD 0 0*A.getD 2 0])=_
    rw[m1]
    simp only[mvQ,List.map_cons,List.map_nil,dotQ]
    grind
 ·obtain ⟨m0,m1,m2,c0,c1,c2⟩:=obs3 (A.getD 1 0) (A.getD 2 0) (A.getD 3 0)
  refine tf_of hA hB lA lB h0 rfl (fun k hk => ?_) (fun k hk => ?_)
  ·have hk':k=0∨k=1∨k=2:=by omega
   rcases hk' with rfl|rfl|rfl
   ·exact c0
   ·exact c1
   ·exact c2
  ·have hk':k=0∨k=1∨k=2:=by omega
   rcases hk' with rfl|rfl|rfl
   ·show dotQ [1,0,0] (mvQ (flM [[-(A.getD 1 0),1,0],[-(A.getD 2 0),0,1],[-(A.getD 3 0),0,0]] 3 0) [B.getD 1 0-B.getD 0 0*A.getD 1 0,B.getD 2 0-B.getD 0 0*A.getD 2 0,B.getD 3 0-B.getD 0 0*A.getD 3 0])=_
    rw[m0]
    simp only[mvQ,List.map_cons,List.map_nil,dotQ]
    grind
   ·show dotQ [1,0,0] (mvQ (flM [[-(A.getD 1 0),1,0],[-(A.getD 2 0),0,1],[-(A.getD 3 0),0,0]] 3 1) [B.getD 1 0-B.getD 0 0*A.getD 1 0,B.getD 2 0-B.getD 0 0*A.getD 2 0,B.getD 3 0-B.getD 0 0*A.getD 3 0])=_
    rw[m1]
    simp only[mvQ,List.map_cons,List.map_nil,dotQ]
    grind
   ·show dotQ [1,0,0] (mvQ (flM [[-(A.getD 1 0),1,0],[-(A.getD 2 0),0,1],[-(A.getD 3 0),0,0]] 3 2) [B.getD 1 0-B.getD 0 0*A.getD 1 0,B.getD 2 0-B.getD 0 0*A.getD 2 0,B.getD 3 0-B.getD 0 0*A.getD 3 0])=_
    rw[m2]
    simp only[mvQ,List.map_cons,List.map_nil,dotQ]
    grind
 ·omega
end Go.Eng

namespace Go.Eng
open F
attribute [local irreducible] AKM CmpP Req OpP UnP ConvP RdP LdR StR MkR LenP AppR AppN CpyR RowP SnR Bds SlS CallP CalP FinP pw LdM GetM SetM PutM MkM AppM SnM FlP CallR
set_option maxHeartbeats 1000000
variable {L:Lib} (n:Nt)
def runA:List Int→List Int→Int→List Int→List Int × List Int × Int
 | outs,st,c,[]=>(outs,st,c)
 | outs,st,c,x::xs=>runA (outs++[(compS n (x::st) false n.nodes).1.getD n.out.toNat 0]) (follS n (compS n (x::st) false n.nodes).1) (if (compS n (x::st) false n.nodes).2 then c+1 else c) xs
def rrS (st ins:List Int):List Int × List Int × Int × Int :=
 if netB n then (if ins.length>4096 then ([],[],0,4) else if wrongS n st ins=0 then ((runA n [] st 0 ins).1,(runA n [] st 0 ins).2.1,(runA n [] st 0 ins).2.2,0) else ([],[],0,wrongS n st ins)) else ([],[],0,2)
theorem rrS_inv {st ins:List Int} (h:netB n=false):rrS n st ins=([],[],0,2):=by rw[rrS,h];rfl
theorem rrS_long {st ins:List Int} (h:netB n=true) (h2:ins.length>4096):rrS n st ins=([],[],0,4):=by rw[rrS,if_pos h,if_pos h2]
theorem rrS_wrong {st ins:List Int} (h:netB n=true) (h2 : ¬ ins.length>4096) (h3:wrongS n st ins≠0):rrS n st ins=([],[],0,wrongS n st ins):=by rw[rrS,if_pos h,if_neg h2,if_neg h3]
theorem rrS_ok {st ins:List Int} (h:netB n=true) (h2 : ¬ ins.length>4096) (h3:wrongS n st ins=0):rrS n st ins=((runA n [] st 0 ins).1,(runA n [] st 0 ins).2.1,(runA n [] st 0 ins).2.2,0):=by rw[rrS,if_pos h,if_neg h2,if_pos h3]
theorem ev_network_Run (I:FixedLib L) (J:NetLib L) (R:RunGLib L) (st ins:List Int) (q1 q2:Bool) (hs:st.length<9223372036854775808) (hi:ins.length<9223372036854775808):Ev L 43 [.agg (encN n),.sl q1 (st.map encInt),.sl q2 (ins.map encInt)] (.tup [.sl false ((rrS n st ins).1.map encInt),.sl false ((rrS n st ins).2.1.map encInt),.int .i64 (rrS n st ins).2.2.1,.int .i64 (rrS n st ins).2.2.2]):=by
 refine Ev.x R.network_Run rfl rfl ?_
 (repeat' (first|(refine CmpP.go (fun hc => ?_) (fun hc => ?_)<;>first|(exfalso;omega)|(conv=>whnf))|(refine LenP.go ?_;conv=>whnf)|(refine AKM.x ?_;conv=>whnf)|(refine CallP.B (ev_network_Valid n I J) (fun hf => ?_) (fun hf => ?_)<;>(conv=>whnf))|(refine CallP.go (ev_network_wrong n I J st ins _ _ hs hi) ?_;conv=>whnf)))
 ·rw[rrS_long n hf (by omega)]
  exact FinP.go rfl (by simp [Clean,CleanL,CleanLL])
 ·rw[rrS_wrong n hf (by omega) hc]
  exact FinP.go rfl (by simp [Clean,CleanL,CleanLL])
 ·rw[rrS_ok n hf (by omega) hc]
  have hst:=wrongS_len n hc
  have hv:=(netB_iff n).1 hf
  obtain ⟨g1,g2,g3,g4,g5,g6⟩:=hv
  refine MkR.go (enc:=encInt) 0 st.length rfl rfl (by omega) ?_
  (conv=>whnf)
  refine CpyR.all (enc:=encInt) (by simp) (by simp) (fun _=>rfl) ?_
  (conv=>whnf)
  (repeat' (refine LenP.go ?_;conv=>whnf))
  refine MkR.go (enc:=encInt) 0 0 rfl rfl (by omega) ?_
  (conv=>whnf)
  (repeat' (refine LenP.go ?_;conv=>whnf))
  refine AKM.loop4 (fun i _ _ _=>ins.length-i) (fun (i:Nat) (outs now:List Int) (c:Int)=>i≤ins.length∧outs.length=i∧(now.length:Int)=n.s∧0≤c∧c≤i∧runA n outs now c (ins.drop i)=runA n [] st 0 ins) (fun i outs now c=>[(11,.row 33 0 1 0 now.length),(12,.row 39 0 1 0 outs.length),(13,.int .i64 c),(42,.int .i64 i)]) (fun i outs now c=>[(39,39,.rw 1 (outs.map encInt)),(33,33,.rw 1 (now.map encInt))]) [] [] 0 [] st 0 (by (conv=>whnf);exact ⟨rfl,rfl,rfl⟩) ⟨by omega,rfl,hst,by omega,by omega,rfl⟩ ?_
  intro i outs now c ⟨p1,p2,p3,p4,p5,p6⟩ ih
  (repeat' (first|(refine CmpP.go (fun hc => ?_) (fun hc => ?_)<;>first|(exfalso;omega)|(conv=>whnf))|(refine RdP.nat ?_ (fun _=>rfl) (fun e he => ?_);omega;conv=>whnf)|(refine SnR.all (fun _=>rfl) rfl ?_ ?_;(first|rfl|simp);conv=>whnf)|(refine AKM.x ?_;conv=>whnf)))
  ·have hcl:((compS n (e::now) false n.nodes).1.length:Int)=1+n.s+n.nodes.length:=by rw[comp_len];simp;omega
   rw[drop_cons he,runA]at p6
   (repeat' (first|(refine CallP.go (ev_network_compute n I J now _ _ hf p3) ?_;conv=>whnf)|(refine CallP.go (ev_network_follow n J _ _ hf hcl) ?_;conv=>whnf)))
   refine CpyR.all (enc:=encInt) rfl (by simp [follS];omega) (fun _=>rfl) ?_
   (conv=>whnf)
   (repeat' (first|(refine RdP.go ?_ (fun _=>rfl) (fun e he => ?_);omega;conv=>whnf)|(refine RowP.e1 ?_;conv=>whnf)))
   rename_i x hx
   refine AppR.one (enc:=encInt) e rfl rfl rfl (by omega) (by omega) ?_
   (conv=>whnf)
   skip
   rw[getD_of he]at p6
   cases hov:(compS n (x::now) false n.nodes).2
   all_goals (
    rw[hov]at p6
    (conv=>whnf)
    (repeat' (refine OpP.add ?_ ?_;omega;conv=>whnf))
    refine AKM.back [(39,65)] (by rw[show now.length=(follS n (compS n (x::now) false n.nodes).1).length by simp [follS];omega];exact (by (conv=>whnf);exact ⟨rfl,rfl,rfl⟩)) (ih (i+1) _ _ _ (by omega) ⟨by omega,by simp [p2],by simp [follS];omega,?_,?_,p6⟩)
    all_goals simp;omega)
  ·rw[drop_len (by omega),runA]at p6
   rw[←p6]
   exact FinP.go rfl (by simp [Clean,CleanL,cl_ints])
 ·rw[rrS_inv n hf]
  exact FinP.go rfl (by simp [Clean,CleanL,CleanLL])
end Go.Eng

namespace Go.Eng
open F
attribute [local irreducible] AKM CmpP Req OpP UnP ConvP RdP LdR StR MkR LenP AppR AppN CpyR RowP SnR Bds SlS CallP CalP FinP pw LdM GetM SetM PutM MkM AppM SnM FlP CallR
set_option maxHeartbeats 1000000
variable {L:Lib}
theorem ev_direct_wrong (I:FixedLib L) (D:DirectGLib L) (b a:List Int) (q1 q2:Bool) (d c:Wd) (hd:WV d) (hc:WV c) (l1:1≤b.length∧b.length≤49) (l2:a.length≤8) (hb : ∀ v∈b,FT c v) (ha : ∀ v∈a,FT c v∧FT c (-v)) :
  Ev L 46 [.sl q1 (b.map encInt),.sl q2 (a.map encInt),.agg (encW d),.agg (encW c)] (.int .i64 0):=by
 have hav : ∀ v∈a,-16777216≤v∧v≤16777216:=fun v hv=>by
  obtain ⟨_,e1,e2⟩:=(ha v hv).1
  obtain ⟨h1,h2,h3,h4⟩:=low_high hc
  omega
 refine Ev.x D.direct_wrong rfl rfl ?_
 (repeat' (first|(refine CmpP.go (fun hc => ?_) (fun hc => ?_)<;>first|(exfalso;omega)|(conv=>whnf))|(refine LenP.go ?_;conv=>whnf)|(refine AKM.x ?_;conv=>whnf)|(refine CallP.b (ev_fixed_Valid ⟨_,_,_,_⟩ I) (fun hf => ?_) (fun hf => ?_)<;>(conv=>whnf))))
 all_goals try (exact absurd hd (by assumption))
 all_goals try (exact absurd hc (by assumption))
 refine AKM.loop1 (fun i=>b.length-i) (fun (i:Nat)=>i≤b.length) (fun i=>[(36,.int .i64 i)]) (fun _=>[]) [] [] 0 (by (conv=>whnf);exact ⟨rfl,rfl,rfl⟩) (by omega) ?_
 intro i p1 ih
 (repeat' (first|(refine CmpP.go (fun hc => ?_) (fun hc => ?_)<;>first|(exfalso;omega)|(conv=>whnf))|(refine OpP.add ?_ ?_;omega;conv=>whnf)|(refine LenP.go ?_;conv=>whnf)|(refine RdP.nat ?_ (fun _=>rfl) (fun e he => ?_);omega;conv=>whnf)|(refine AKM.x ?_;conv=>whnf)|(refine CallP.b (ev_fixed_Fits ⟨_,_,_,_⟩ I _) (fun hf => ?_) (fun hf => ?_)<;>(conv=>whnf))))
 ·exact AKM.back [] (by (conv=>whnf);exact ⟨rfl,rfl,rfl⟩) (ih (i+1) (by omega) (by omega))
 ·exact absurd (hb _ (List.mem_of_getElem? he)) hf
 refine AKM.loop1 (fun i=>a.length-i) (fun (i:Nat)=>i≤a.length) (fun i=>[(47,.int .i64 i)]) (fun _=>[]) [] [] 0 (by (conv=>whnf);exact ⟨rfl,rfl,rfl⟩) (by omega) ?_
 intro i p1 ih
 (repeat' (first|(refine CmpP.go (fun hc => ?_) (fun hc => ?_)<;>first|(exfalso;omega)|(conv=>whnf))|(refine RdP.nat ?_ (fun _=>rfl) (fun e he => ?_);omega;conv=>whnf)|(refine AKM.x ?_;conv=>whnf)|(refine CallP.b (ev_fixed_Fits ⟨_,_,_,_⟩ I _) (fun hf => ?_) (fun hf => ?_)<;>(conv=>whnf))))
 ·have hfe:=hav _ (List.mem_of_getElem? he)
  (repeat' (first|(refine OpP.add ?_ ?_;omega;conv=>whnf)|(refine UnP.neg ?_ ?_;omega;conv=>whnf)|(refine CallP.b (ev_fixed_Fits ⟨_,_,_,_⟩ I _) (fun hf => ?_) (fun hf => ?_)<;>(conv=>whnf))))
  ·exact AKM.back [] (by (conv=>whnf);exact ⟨rfl,rfl,rfl⟩) (ih (i+1) (by omega) (by omega))
  ·exact absurd (ha _ (List.mem_of_getElem? he)).2 hf
 ·exact absurd (ha _ (List.mem_of_getElem? he)).1 hf
 ·exact FinP.i rfl
theorem cl_ts (ts:List (Int × Int)):CleanLL (ts.map encT):=cleanLL_map (fun _=>by simp [CleanL,Clean]) ts
def rowD (l:List Int) (sg fr:Int):List (Int × Int):=(List.range l.length).map fun i:Nat=>(fr+i,sg*l.getD i 0)
theorem rowD_len (l:List Int) (sg fr:Int):(rowD l sg fr).length=l.length:=by simp [rowD]
theorem rowD_at {l:List Int} {i:Nat} {v:Int} (sg fr:Int) (h:l[i]? = some v):(rowD l sg fr)[i]? = some (fr+i,sg*v):=by
 have hi:=(List.getElem?_eq_some_iff.1 h).1
 simp only[rowD,List.getElem?_map,List.getElem?_range hi,Option.map_some,List.getD_eq_getElem?_getD,h,Option.getD_some]
theorem ev_direct_row (D:DirectGLib L) (l:List Int) (q:Bool) (sg fr:Int) (hl:l.length≤1000000) (hs:sg=1∨sg = -1) (hf:0≤fr∧fr≤1000000) (hv : ∀ v∈l,-1000000000000≤v∧v≤1000000000000):Ev L 47 [.sl q (l.map encInt),.int .i64 sg,.int .i64 fr] (.sl false ((rowD l sg fr).map encT)):=by
 have hF:=rowD_len l sg fr
 refine Ev.x D.direct_row rfl rfl ?_
 (repeat' (first|(refine LenP.go ?_;conv=>whnf)|(refine AKM.x ?_;conv=>whnf)))
 refine MkR.go (enc:=encT) (0,0) l.length rfl rfl (by omega) ?_
 (conv=>whnf)
 (repeat' (refine LenP.go ?_;conv=>whnf))
 refine AKM.loop2 (fun i _=>l.length-i) (fun (i:Nat) (o:List (Int × Int))=>i≤l.length∧o.length=(rowD l sg fr).length∧o.take i=(rowD l sg fr).take i) (fun i o=>[(7,.row 12 0 2 0 o.length),(15,.int .i64 i)]) (fun i o=>[(12,12,.rw 2 (o.map encT))]) [] [] 0 (List.replicate l.length (0,0)) (by rw[List.length_replicate];exact (by (conv=>whnf);exact ⟨rfl,rfl,rfl⟩)) ⟨by omega,by simp [hF],by simp⟩ ?_
 intro i o ⟨p1,p2,p3⟩ ih
 by_cases hi:i<l.length
 ·obtain ⟨v,hvi⟩ : ∃ v,l[i]? = some v:=⟨_,List.getElem?_eq_getElem hi⟩
  have hvr:=hv v (List.mem_of_getElem? hvi)
  have hmul : -1000000000000≤sg*v∧sg*v≤1000000000000:=by rcases hs with rfl|rfl<;>omega
  obtain ⟨f1,f2⟩:=fill_step p2 p3 (rowD_at sg fr hvi)
  (repeat' (first|(refine CmpP.go (fun hc => ?_) (fun hc => ?_)<;>first|(exfalso;omega)|(conv=>whnf))|(refine Req.go ?_ ?_;omega;conv=>whnf)|(refine OpP.add ?_ ?_;omega;conv=>whnf)|(refine OpP.mul ?_ ?_;omega;conv=>whnf)|(refine RdP.at (by assumption) ?_ rfl ?_;omega;conv=>whnf)|(refine AKM.x ?_;conv=>whnf)))
  refine StR.nat (enc:=encT) (fr+i,sg*v) rfl (fun _=>rfl) (by omega) ?_
  (conv=>whnf)
  (repeat' (refine OpP.add ?_ ?_;omega;conv=>whnf))
  exact AKM.back [] (by rw[List.length_set];exact (by (conv=>whnf);exact ⟨rfl,rfl,rfl⟩)) (ih (i+1) (o.set i (fr+i,sg*v)) (by omega) ⟨by omega,f1,f2⟩)
 ·have ho:=fill_done p2 p3 (by omega)
  (repeat' (first|(refine CmpP.go (fun hc => ?_) (fun hc => ?_)<;>first|(exfalso;omega)|(conv=>whnf))|(refine SnR.all (fun _=>rfl) rfl ?_ ?_;(first|rfl|simp);conv=>whnf)|(refine AKM.x ?_;conv=>whnf)))
  exact FinP.go (by rw[ho]) (by simp [Clean,cl_ts])
def joinD (l:List Nd):List (Int × Int):=l.flatMap fun n=>n.ts
theorem ev_direct_join (D:DirectGLib L) (l:List Nd) (q:Bool) (hl1:(joinD l).length≤1000000) (hl:l.length≤1000000):Ev L 48 [.sl q (l.map encNd)] (.sl false ((joinD l).map encT)):=by
 refine Ev.x D.direct_join rfl rfl ?_
 (repeat' (first|(refine LenP.go ?_;conv=>whnf)|(refine AKM.x ?_;conv=>whnf)))
 refine AKM.loop2 (fun i _=>l.length-i) (fun (i:Nat) (o:List (Int × Int))=>i≤l.length∧o=joinD (l.take i)) (fun i o=>[(3,.row 3 0 2 0 o.length),(8,.int .i64 i)]) (fun i o=>[(3,3,.rw 2 (o.map encT))]) [] [] 0 [] (by (conv=>whnf);exact ⟨rfl,rfl,rfl⟩) ⟨by omega,rfl⟩ ?_
 intro i o ⟨p1,p2⟩ ih
 (repeat' (first|(refine CmpP.go (fun hc => ?_) (fun hc => ?_)<;>first|(exfalso;omega)|(conv=>whnf))|(refine RdP.nat ?_ (fun _=>rfl) (fun e he => ?_);omega;conv=>whnf)|(refine SnR.all (fun _=>rfl) rfl ?_ ?_;(first|rfl|simp);conv=>whnf)|(refine AKM.x ?_;conv=>whnf)))
 ·have hj:joinD (l.take (i+1))=o++e.ts:=by
   rw[List.take_add_one,he,p2];simp [joinD]
  have hle:o.length+e.ts.length≤1000000:=by
   have:joinD l=joinD (l.take (i+1))++joinD (l.drop (i+1)):=by
    unfold joinD
    rw[←List.flatMap_append,List.take_append_drop]
   rw[this,hj]at hl1
   simp at hl1
   omega
  refine AppR.many (enc:=encT) rfl (fun _=>rfl) (by omega) (by omega) ?_
  (conv=>whnf)
  (repeat' (refine OpP.add ?_ ?_;omega;conv=>whnf))
  exact AKM.back [(3,14)] (by (conv=>whnf);exact ⟨rfl,rfl,rfl⟩) (ih (i+1) _ (by omega) ⟨by omega,hj.symm⟩)
 ·rw[List.take_of_length_le (by omega)]at p2
  exact FinP.go (by rw[p2]) (by simp [Clean,cl_ts])
theorem cl_nds : ∀ (l:List Nd),(∀ n∈l,n.q=false)→CleanLL (l.map encNd)
 | [],_=>by simp [CleanLL]
 | n::r,h=>by
  simp only[List.map_cons,CleanLL,CleanL,Clean,and_true]
  exact ⟨⟨h n (by simp),cl_ts _⟩,cl_nds r fun m hm=>h m (List.mem_cons_of_mem _ hm)⟩
theorem encN_clean (n:Nt) (h1:n.qn=false) (h2:n.qx=false) (h3 : ∀ m∈n.nodes,m.q=false):CleanL (encN n):=by
 simp only[CleanL,Clean,true_and,and_true]
 exact ⟨⟨h1,cl_nds _ h3⟩,h2,cl_ints _⟩
theorem netE_clean (n:Nt) (h1:n.qn=false) (h2:n.qx=false) (h3 : ∀ m∈n.nodes,m.q=false):Clean (.tup [.agg (encN n),.int .i64 0]):=by
 have h:=encN_clean n h1 h2 h3
 simp only[Clean,CleanL,and_true,true_and]at h ⊢
 exact h
def delayS (n:Nat) (first source:Int):List Int:=(List.range n).map fun i:Nat=>if i=0 then source else first+i-1
theorem delayS_at {n i:Nat} {first source:Int} (h:i<n):(delayS n first source)[i]? = some (if i=0 then source else first+i-1):=by
 simp only[delayS,List.getElem?_map,List.getElem?_range h,Option.map_some]
theorem FT_rng {c:Wd} (hc:WV c) {v:Int} (h:FT c v) : -1000000000000≤v∧v≤1000000000000:=by
 obtain ⟨_,e1,e2⟩:=h
 obtain ⟨h1,h2,h3,h4⟩:=low_high hc
 omega
def formOneS (b a:List Int) (d c:Wd):Nt :=
 ⟨d,c,((b.length-1+a.length:Nat):Int),false,[⟨false,rowD b 1 0++rowD a (-1) b.length⟩],false,delayS (b.length-1) 1 0++delayS a.length b.length ((b.length+a.length:Nat):Int),((b.length+a.length:Nat):Int)⟩
theorem ev_direct_FormOne (I:FixedLib L) (D:DirectGLib L) (b a:List Int) (q1 q2:Bool) (d c:Wd) (hd:WV d) (hc:WV c) (l1:1≤b.length∧b.length≤49) (l2:a.length≤8) (hb : ∀ v∈b,FT c v) (ha : ∀ v∈a,FT c v∧FT c (-v)) :
  Ev L 50 [.sl q1 (b.map encInt),.sl q2 (a.map encInt),.agg (encW d),.agg (encW c)] (.tup [.agg (encN (formOneS b a d c)),.int .i64 0]):=by
 have hw:=fun q q'=>ev_direct_wrong I D b a q q' d c hd hc l1 l2 hb ha
 have r1:=fun q=>ev_direct_row D b q 1 0 (by omega) (Or.inl rfl) (by omega) (fun v hv=>FT_rng hc (hb v hv))
 have r2:=fun q=>ev_direct_row D a q (-1) ((b.length:Int)-1+1) (by omega) (Or.inr rfl) (by omega) (fun v hv=>FT_rng hc (ha v hv).1)
 have r3:=fun q q' q''=>ev_direct_join D [⟨q,rowD b 1 0⟩,⟨q',rowD a (-1) ((b.length:Int)-1+1)⟩] q'' (by simp [joinD,rowD_len];omega) (by simp)
 generalize hF:delayS (b.length-1) 1 0++delayS a.length b.length ((b.length+a.length:Nat):Int)=F
 have hFl:F.length=b.length-1+a.length:=by rw[←hF];simp [delayS]
 have hF1 : ∀ i:Nat,i<b.length-1→F[i]? = some (if i=0 then (0:Int) else 1+i-1):=fun i hi=>by
  rw[←hF,List.getElem?_append_left (by simp [delayS];omega)]
  exact delayS_at hi
 have hF2 : ∀ i:Nat,i<a.length→F[b.length-1+i]? = some (if i=0 then ((b.length+a.length:Nat):Int) else b.length+i-1):=fun i hi=>by
  rw[←hF,List.getElem?_append_right (by simp [delayS])]
  have:b.length-1+i-(delayS (b.length-1) 1 0).length=i:=by simp [delayS]
  rw[this]
  exact delayS_at hi
 refine Ev.x D.direct_FormOne rfl rfl ?_
 (repeat' (first|(refine CmpP.go (fun hc => ?_) (fun hc => ?_)<;>first|(exfalso;omega)|(conv=>whnf))|(refine OpP.add ?_ ?_;omega;conv=>whnf)|(refine OpP.sub ?_ ?_;omega;conv=>whnf)|(refine LenP.go ?_;conv=>whnf)|(refine AKM.x ?_;conv=>whnf)|(refine CallP.go (hw _ _) ?_;conv=>whnf)))
 refine MkR.go (enc:=encInt) 0 (b.length-1+a.length) rfl (by omega) (by omega) ?_
 (conv=>whnf)
 (repeat' (first|(refine OpP.add ?_ ?_;omega;conv=>whnf)|(refine SnR.e2 rfl rfl ?_;conv=>whnf)|(refine CallP.go (r1 _) ?_;conv=>whnf)|(refine CallP.go (r2 _) ?_;conv=>whnf)|(refine CallP.go (r3 _ _ _) ?_;conv=>whnf)))
 refine Bds.up (b.length-1) (by omega) (by omega) ?_
 (conv=>whnf)
 refine CalP.walk 1000 D.direct_delay rfl rfl ?_
 (repeat' (refine AKM.x ?_;conv=>whnf))
 refine AKM.loop2 (fun i _=>b.length-1-i) (fun (i:Nat) (o:List Int)=>i≤b.length-1∧o.length=F.length∧o.take i=F.take i) (fun i o=>[(9,.int .i64 i)]) (fun i o=>[(34,34,.rw 1 (o.map encInt))]) [] [] 0 (List.replicate (b.length-1+a.length) 0) (by (conv=>whnf);exact ⟨rfl,rfl,rfl⟩) ⟨by omega,by simp [hFl],by simp⟩ ?_
 intro i o ⟨p1,p2,p3⟩ ih
 (repeat' (first|(refine CmpP.go (fun hc => ?_) (fun hc => ?_)<;>first|(exfalso;omega)|(conv=>whnf))|(refine Req.go ?_ ?_;omega;conv=>whnf)|(refine OpP.add ?_ ?_;omega;conv=>whnf)|(refine OpP.sub ?_ ?_;omega;conv=>whnf)|(refine AKM.x ?_;conv=>whnf)))
 ·obtain ⟨f1,f2⟩:=fill_step p2 p3 (hF1 i (by omega))
  refine StR.at i (if i=0 then (0:Int) else 1+i-1) (by omega) (by rw[if_pos (by omega)]) (fun _=>rfl) (by omega) ?_
  (conv=>whnf)
  (repeat' (refine OpP.add ?_ ?_;omega;conv=>whnf))
  exact AKM.back [] (by (conv=>whnf);exact ⟨rfl,rfl,rfl⟩) (ih (i+1) _ (by omega) ⟨by omega,f1,f2⟩)
 ·obtain ⟨f1,f2⟩:=fill_step p2 p3 (hF1 i (by omega))
  refine StR.at i (if i=0 then (0:Int) else 1+i-1) (by omega) (by rw[if_neg (by omega)]) (fun _=>rfl) (by omega) ?_
  (conv=>whnf)
  (repeat' (refine OpP.add ?_ ?_;omega;conv=>whnf))
  exact AKM.back [] (by (conv=>whnf);exact ⟨rfl,rfl,rfl⟩) (ih (i+1) _ (by omega) ⟨by omega,f1,f2⟩)
 obtain rfl:i=b.length-1:=by omega
 refine ⟨rfl,_,rfl,?_⟩
 (conv=>whnf)
 skip
 refine Bds.dn (b.length-1) (by omega) (by omega) ?_
 (conv=>whnf)
 (repeat' (refine OpP.add ?_ ?_;omega;conv=>whnf))
 refine CalP.walk 1000 D.direct_delay rfl rfl ?_
 (repeat' (refine AKM.x ?_;conv=>whnf))
 refine AKM.loop2 (fun i _=>a.length-i) (fun (i:Nat) (o:List Int)=>i≤a.length∧o.length=F.length∧o.take (b.length-1+i)=F.take (b.length-1+i)) (fun i o=>[(9,.int .i64 i)]) (fun i o=>[(34,34,.rw 1 (o.map encInt))]) [] [] 0 o (by (conv=>whnf);exact ⟨rfl,rfl,rfl⟩) ⟨by omega,p2,p3⟩ ?_
 clear p1 p2 p3 ih
 intro i o ⟨p1,p2,p3⟩ ih
 (repeat' (first|(refine CmpP.go (fun hc => ?_) (fun hc => ?_)<;>first|(exfalso;omega)|(conv=>whnf))|(refine Req.go ?_ ?_;omega;conv=>whnf)|(refine OpP.add ?_ ?_;omega;conv=>whnf)|(refine OpP.sub ?_ ?_;omega;conv=>whnf)|(refine AKM.x ?_;conv=>whnf)))
 ·obtain ⟨f1,f2⟩:=fill_step p2 p3 (hF2 i (by omega))
  refine StR.at (b.length-1+i) (if i=0 then ((b.length+a.length:Nat):Int) else b.length+i-1) (by omega) (by rw[if_pos (by omega)];simp only[List.cons.injEq,AV.int.injEq,true_and,and_true];omega) (fun _=>rfl) (by omega) ?_
  (conv=>whnf)
  (repeat' (refine OpP.add ?_ ?_;omega;conv=>whnf))
  exact AKM.back [] (by (conv=>whnf);exact ⟨rfl,rfl,rfl⟩) (ih (i+1) _ (by omega) ⟨by omega,f1,f2⟩)
 ·obtain ⟨f1,f2⟩:=fill_step p2 p3 (hF2 i (by omega))
  refine StR.at (b.length-1+i) (if i=0 then ((b.length+a.length:Nat):Int) else b.length+i-1) (by omega) (by rw[if_neg (by omega)];simp only[List.cons.injEq,AV.int.injEq,true_and,and_true];omega) (fun _=>rfl) (by omega) ?_
  (conv=>whnf)
  (repeat' (refine OpP.add ?_ ?_;omega;conv=>whnf))
  exact AKM.back [] (by (conv=>whnf);exact ⟨rfl,rfl,rfl⟩) (ih (i+1) _ (by omega) ⟨by omega,f1,f2⟩)
 have ho:=fill_done p2 p3 (by omega)
 subst ho
 refine ⟨rfl,_,rfl,?_⟩
 (conv=>whnf)
 (repeat' (refine SnR.e1 rfl ?_;conv=>whnf))
 refine SnR.all (enc:=encInt) (fun _=>rfl) rfl hFl.symm ?_
 (conv=>whnf)
 skip
 have e1:(b.length:Int)-1+1=b.length:=by omega
 have e2:(b.length:Int)-1+a.length=((b.length-1+a.length:Nat):Int):=by omega
 have e3:(b.length:Int)-1+a.length+1=((b.length+a.length:Nat):Int):=by omega
 refine FinP.go ?_ ?_
 ·rw[e1,e3,e2]
  simp only[formOneS,hF,List.map_cons,List.map_nil,joinD,List.flatMap_cons,List.flatMap_nil,List.append_nil]
  rfl
 ·exact netE_clean (formOneS b a d c) rfl rfl (by simp [formOneS])
end Go.Eng

namespace Go.Eng
open F
attribute [local irreducible] AKM CmpP Req OpP UnP ConvP RdP LdR StR MkR LenP AppR AppN CpyR RowP SnR Bds SlS CallP CalP FinP pw LdM GetM SetM PutM MkM AppM SnM FlP CallR
set_option maxHeartbeats 1000000
variable {L:Lib}
def k23:Nt:=formOneS [8] [-4] ⟨8,0,1,1⟩ ⟨8,4,1,1⟩
theorem k23_run:rrS k23 [0] [16,0,0]=([8,2,0],[0],0,0):=by decide +kernel
theorem ev_law23_known (I:FixedLib L) (J:NetLib L) (R:RunGLib L) (D:DirectGLib L):Ev L 54 [] (.bool true):=by
 have h:=fun q q'=>ev_direct_FormOne I D [8] [-4] q q' ⟨8,0,1,1⟩ ⟨8,4,1,1⟩ (by decide +kernel) (by decide +kernel) (by simp) (by simp) (by decide +kernel) (by decide +kernel)
 have h2:=fun q q'=>ev_network_Run k23 I J R [0] [16,0,0] q q' (by simp) (by simp)
 have h3:=fun q q'=>ev_ref21_SameInts I [8,2,0] [8,2,0] q q' (by simp) (by simp)
 rw[k23_run]at h2
 refine Ev.x D.law23_known rfl rfl ?_
 (repeat' (first|(refine SnR.e1 rfl ?_;conv=>whnf)|(refine AKM.x ?_;conv=>whnf)|(refine CallP.go (h _ _) ?_;conv=>whnf)))
 refine SnR.all (enc:=encInt) (l:=[16,0,0]) (fun _=>rfl) rfl rfl ?_
 (conv=>whnf)
 (repeat' (first|(refine CmpP.go (fun hc => ?_) (fun hc => ?_)<;>first|(exfalso;omega)|(conv=>whnf))|(refine CallP.go (h2 _ _) ?_;conv=>whnf)))
 all_goals try (exact absurd rfl hc)
 refine SnR.all (enc:=encInt) (l:=[8,2,0]) (fun _=>rfl) rfl rfl ?_
 (conv=>whnf)
 (repeat' (refine CallP.b (h3 _ _) (fun hf => ?_) (fun hf => ?_)<;>(conv=>whnf)))
 all_goals first|exact FinP.b rfl|(exfalso;exact hf rfl)
end Go.Eng

namespace Go.Eng
open F
attribute [local irreducible] AKM CmpP Req OpP UnP ConvP RdP LdR StR MkR LenP AppR AppN CpyR RowP SnR Bds SlS CallP CalP FinP pw LdM GetM SetM PutM MkM AppM SnM FlP CallR
set_option maxHeartbeats 1000000
variable {L:Lib}
def maxN (b a:List Int):Nat:=max (b.length-1) a.length
def formTwoS (b a:List Int) (d c:Wd):Nt :=
 ⟨d,c,(maxN b a:Int),false,[⟨false,rowD [pw c.f] 1 0++rowD a (-1) 1⟩,⟨false,rowD (b.take 1) 1 (maxN b a+1)++rowD (b.drop 1) 1 1⟩],false,delayS (maxN b a) 1 (maxN b a+1),maxN b a+1+1⟩
theorem ev_direct_FormTwo (I:FixedLib L) (D:DirectGLib L) (b a:List Int) (q1 q2:Bool) (d c:Wd) (hd:WV d) (hc:WV c) (l1:1≤b.length∧b.length≤49) (l2:a.length≤8) (hb : ∀ v∈b,FT c v) (ha : ∀ v∈a,FT c v∧FT c (-v)) :
  Ev L 51 [.sl q1 (b.map encInt),.sl q2 (a.map encInt),.agg (encW d),.agg (encW c)] (.tup [.agg (encN (formTwoS b a d c)),.int .i64 0]):=by
 have hw:=fun q q'=>ev_direct_wrong I D b a q q' d c hd hc l1 l2 hb ha
 have hc':=hc
 unfold WV at hc'
 have hpl:=pw_le (n:=c.f) (m:=23) (by omega)
 have hp23:pw 23=8388608:=by unfold pw;rfl
 have hpp:=pw_pos c.f
 have r1:=fun q=>ev_direct_row D [pw c.f] q 1 0 (by simp) (Or.inl rfl) (by omega) (by simp;omega)
 have r2:=fun q=>ev_direct_row D a q (-1) 1 (by omega) (Or.inr rfl) (by omega) (fun v hv=>FT_rng hc (ha v hv).1)
 have r3:=fun q=>ev_direct_row D (b.take 1) q 1 (maxN b a+1) (by simp;omega) (Or.inl rfl) (by unfold maxN;omega) (fun v hv=>FT_rng hc (hb v (List.mem_of_mem_take hv)))
 have r4:=fun q=>ev_direct_row D (b.drop 1) q 1 1 (by simp;omega) (Or.inl rfl) (by omega) (fun v hv=>FT_rng hc (hb v (List.mem_of_mem_drop hv)))
 have j1:=fun q q' q''=>ev_direct_join D [⟨q,rowD [pw c.f] 1 0⟩,⟨q',rowD a (-1) 1⟩] q'' (by simp [joinD,rowD_len];omega) (by simp)
 have j2:=fun q q' q''=>ev_direct_join D [⟨q,rowD (b.take 1) 1 (maxN b a+1)⟩,⟨q',rowD (b.drop 1) 1 1⟩] q'' (by simp [joinD,rowD_len];omega) (by simp)
 generalize hF:delayS (maxN b a) 1 ((maxN b a:Int)+1)=F
 have hFl:F.length=maxN b a:=by rw[←hF];simp [delayS]
 have hF1 : ∀ i:Nat,i<maxN b a→F[i]? = some (if i=0 then ((maxN b a:Int)+1) else 1+i-1):=fun i hi=>by
  rw[←hF];exact delayS_at hi
 have hmx:(maxN b a:Int)≤1000:=by unfold maxN;omega
 refine Ev.x D.direct_FormTwo rfl rfl ?_
 (repeat' (first|(refine CmpP.go (fun hc => ?_) (fun hc => ?_)<;>first|(exfalso;omega)|(conv=>whnf))|(refine OpP.add ?_ ?_;omega;conv=>whnf)|(refine OpP.sub ?_ ?_;omega;conv=>whnf)|(refine LenP.go ?_;conv=>whnf)|(refine AKM.x ?_;conv=>whnf)|(refine CallP.go (hw _ _) ?_;conv=>whnf)))
 all_goals first|rw[show (a.length:Int)=(maxN b a:Int) by unfold maxN;omega]|rw[show (b.length:Int)-1=(maxN b a:Int) by unfold maxN;omega]
 all_goals (
  generalize hmm:maxN b a=mx at *
  refine MkR.go (enc:=encInt) 0 mx rfl rfl (by omega) ?_
  (conv=>whnf)
  (repeat' (first|(refine OpP.add ?_ ?_;omega;conv=>whnf)|(refine OpP.shl1 ?_ (fun _ _ => ?_);omega;conv=>whnf)|(refine SnR.e1 rfl ?_;conv=>whnf)|(refine SnR.e2 rfl rfl ?_;conv=>whnf)|(refine CallP.go (r1 _) ?_;conv=>whnf)|(refine CallP.go (r2 _) ?_;conv=>whnf)|(refine CallP.go (j1 _ _ _) ?_;conv=>whnf)))
  refine SlS.to (k:=1) (fun _=>rfl) (by omega) ?_
  (conv=>whnf)
  (repeat' (refine CallP.go (r3 _) ?_;conv=>whnf))
  refine SlS.off (k:=1) (fun _=>rfl) (by omega) ?_
  (conv=>whnf)
  (repeat' (first|(refine SnR.e2 rfl rfl ?_;conv=>whnf)|(refine CallP.go (r4 _) ?_;conv=>whnf)|(refine CallP.go (j2 _ _ _) ?_;conv=>whnf)))
  refine CalP.walk 1000 D.direct_delay rfl rfl ?_
  (repeat' (refine AKM.x ?_;conv=>whnf))
  refine AKM.loop2 (fun i _=>mx-i) (fun (i:Nat) (o:List Int)=>i≤mx∧o.length=F.length∧o.take i=F.take i) (fun i o=>[(9,.int .i64 i)]) (fun i o=>[(36,36,.rw 1 (o.map encInt))]) [] [] 0 (List.replicate mx 0) (by (conv=>whnf);exact ⟨rfl,rfl,rfl⟩) ⟨by omega,by simp [hFl],by simp⟩ ?_
  intro i o ⟨p1,p2,p3⟩ ih
  (repeat' (first|(refine CmpP.go (fun hc => ?_) (fun hc => ?_)<;>first|(exfalso;omega)|(conv=>whnf))|(refine Req.go ?_ ?_;omega;conv=>whnf)|(refine OpP.add ?_ ?_;omega;conv=>whnf)|(refine OpP.sub ?_ ?_;omega;conv=>whnf)|(refine AKM.x ?_;conv=>whnf)))
  ·obtain ⟨f1,f2⟩:=fill_step p2 p3 (hF1 i (by omega))
   refine StR.at i (if i=0 then ((mx:Int)+1) else 1+i-1) (by omega) (by rw[if_pos (by omega)]) (fun _=>rfl) (by omega) ?_
   (conv=>whnf)
   (repeat' (refine OpP.add ?_ ?_;omega;conv=>whnf))
   exact AKM.back [] (by (conv=>whnf);exact ⟨rfl,rfl,rfl⟩) (ih (i+1) _ (by omega) ⟨by omega,f1,f2⟩)
  ·obtain ⟨f1,f2⟩:=fill_step p2 p3 (hF1 i (by omega))
   refine StR.at i (if i=0 then ((mx:Int)+1) else 1+i-1) (by omega) (by rw[if_neg (by omega)]) (fun _=>rfl) (by omega) ?_
   (conv=>whnf)
   (repeat' (refine OpP.add ?_ ?_;omega;conv=>whnf))
   exact AKM.back [] (by (conv=>whnf);exact ⟨rfl,rfl,rfl⟩) (ih (i+1) _ (by omega) ⟨by omega,f1,f2⟩)
  have ho:=fill_done p2 p3 (by omega)
  subst ho
  refine ⟨rfl,_,rfl,?_⟩
  (conv=>whnf)
  (repeat' (refine SnR.e2 rfl rfl ?_;conv=>whnf))
  refine SnR.all (enc:=encInt) (fun _=>rfl) rfl hFl.symm ?_
  (conv=>whnf)
  refine FinP.go ?_ ?_
  ·simp only[formTwoS,hF,hmm,List.map_cons,List.map_nil,joinD,List.flatMap_cons,List.flatMap_nil,List.append_nil]
   rfl
  ·exact netE_clean (formTwoS b a d c) rfl rfl (by simp [formTwoS]))
end Go.Eng

namespace Go.Eng
open F
attribute [local irreducible] AKM CmpP Req OpP UnP ConvP RdP LdR StR MkR LenP AppR AppN CpyR RowP SnR Bds SlS CallP CalP FinP pw LdM GetM SetM PutM MkM AppM SnM FlP CallR
set_option maxHeartbeats 1000000
variable {L:Lib}
theorem len_app2 {A B C:List (Int × Int)} (h:A.length≤100) (h2:B.length+C.length≤1000):(A++B).length+C.length≤1000000:=by rw[List.length_append];omega
theorem ev_join2 (D:DirectGLib L) (A B:List (Int × Int)) (q q1 q2:Bool) (h:A.length+B.length≤1000000):Ev L 48 [.sl q [[.sl q1 (A.map encT)],[.sl q2 (B.map encT)]]] (.sl false ((A++B).map encT)):=by
 have:=ev_direct_join D [⟨q1,A⟩,⟨q2,B⟩] q (by simpa [joinD] using h) (by simp)
 simpa [joinD] using this
theorem ev_join1 (D:DirectGLib L) (B:List (Int × Int)) (q q1 q2:Bool) (h:B.length≤1000000):Ev L 48 [.sl q [[.sl q1 []],[.sl q2 (B.map encT)]]] (.sl false (B.map encT)):=by
 have:=ev_direct_join D [⟨q1,[]⟩,⟨q2,B⟩] q (by simpa [joinD] using h) (by simp)
 rw[show joinD [⟨q1,[]⟩,⟨q2,B⟩]=B by simp [joinD]]at this
 exact this
def trS (b a:List Int) (c:Wd) (mx k:Nat):List (Int × Int) :=
 (if k<b.length then rowD ((b.take (k+1)).drop k) 1 0 else [])++(if 1≤k∧k≤a.length then rowD ((a.take k).drop (k-1)) (-1) (mx+1) else [])++(if k<mx then rowD [pw c.f] 1 (k+1) else [])
def trN (b a:List Int) (c:Wd) (mx k:Nat):List Nd:=(List.range k).map fun i=>⟨false,trS b a c mx i⟩
def transS (b a:List Int) (d c:Wd):Nt :=
 ⟨d,c,(maxN b a:Int),false,trN b a c (maxN b a) (maxN b a+1),false,(List.range (maxN b a)).map fun i:Nat=>(maxN b a:Int)+1+(i+1:Nat),maxN b a+1⟩
theorem trN_snoc (b a:List Int) (c:Wd) (mx k:Nat):trN b a c mx (k+1)=trN b a c mx k++[⟨false,trS b a c mx k⟩]:=range_snoc _ _
set_option maxHeartbeats 40000000 in
theorem ev_direct_Transposed (I:FixedLib L) (D:DirectGLib L) (b a:List Int) (q1 q2:Bool) (d c:Wd) (hd:WV d) (hc:WV c) (l1:1≤b.length∧b.length≤49) (l2:a.length≤8) (hb : ∀ v∈b,FT c v) (ha : ∀ v∈a,FT c v∧FT c (-v)) :
  Ev L 52 [.sl q1 (b.map encInt),.sl q2 (a.map encInt),.agg (encW d),.agg (encW c)] (.tup [.agg (encN (transS b a d c)),.int .i64 0]):=by
 have hw:=fun q q'=>ev_direct_wrong I D b a q q' d c hd hc l1 l2 hb ha
 have hc':=hc
 unfold WV at hc'
 have hpl:=pw_le (n:=c.f) (m:=23) (by omega)
 have hp23:pw 23=8388608:=by unfold pw;rfl
 have hpp:=pw_pos c.f
 have hx1:b.length≤maxN b a+1:=by unfold maxN;omega
 have hx2:a.length≤maxN b a:=by unfold maxN;omega
 have hx3 : ∀ k,k≤maxN b a→k<b.length∨(1≤k∧k≤a.length):=by unfold maxN;omega
 have ru:=fun (q:Bool) (k:Nat) (hk:k≤1000)=>ev_direct_row D [pw c.f] q 1 (k+1) (by simp) (Or.inl rfl) (by omega) (by simp;omega)
 have rb:=fun (q:Bool) (i j:Nat)=>ev_direct_row D ((b.take j).drop i) q 1 0 (by simp;omega) (Or.inl rfl) (by omega) (fun v hv=>FT_rng hc (hb v (List.mem_of_mem_take (List.mem_of_mem_drop hv))))
 have hmx:(maxN b a:Int)≤1000:=by unfold maxN;omega
 have ra:=fun (q:Bool) (i j:Nat)=>ev_direct_row D ((a.take j).drop i) q (-1) (maxN b a+1) (by simp;omega) (Or.inr rfl) (by omega) (fun v hv=>FT_rng hc (ha v (List.mem_of_mem_take (List.mem_of_mem_drop hv))).1)
 have hS:transS b a d c=⟨d,c,(maxN b a:Int),false,trN b a c (maxN b a) (maxN b a+1),false,(List.range (maxN b a)).map fun i:Nat=>(maxN b a:Int)+1+(i+1:Nat),maxN b a+1⟩:=rfl
 have hcl:=netE_clean (transS b a d c) rfl rfl (by simp [transS,trN])
 refine Ev.x D.direct_Transposed rfl rfl ?_
 (repeat' (first|(refine CmpP.go (fun hc => ?_) (fun hc => ?_)<;>first|(exfalso;omega)|(conv=>whnf))|(refine OpP.add ?_ ?_;omega;conv=>whnf)|(refine OpP.sub ?_ ?_;omega;conv=>whnf)|(refine LenP.go ?_;conv=>whnf)|(refine AKM.x ?_;conv=>whnf)|(refine CallP.go (hw _ _) ?_;conv=>whnf)))
 all_goals first|rw[show (a.length:Int)=(maxN b a:Int) by unfold maxN;omega]|rw[show (b.length:Int)-1=(maxN b a:Int) by unfold maxN;omega]
 all_goals (
  generalize maxN b a=mx at *
  generalize hF:((List.range mx).map fun i:Nat=>(mx:Int)+1+(i+1:Nat))=F at *
  have hFl:F.length=mx:=by rw[←hF];simp
  have hF1 : ∀ i:Nat,i<mx→F[i]? = some ((mx:Int)+1+(i+1:Nat)):=fun i hi=>by
   rw[←hF,List.getElem?_map,List.getElem?_range hi];rfl
  refine MkR.go (enc:=encInt) 0 mx rfl rfl (by omega) ?_
  (conv=>whnf)
  (repeat' (first|(refine OpP.add ?_ ?_;omega;conv=>whnf)|(refine OpP.shl1 ?_ (fun _ _ => ?_);omega;conv=>whnf)))
  refine AKM.loop4 (fun k _ _ _=>mx+1-k) (fun (k:Nat) (ns:List Nd) (o:List Int) (fl:Bool)=>k≤mx+1∧ns=trN b a c mx k∧fl=decide (k=0)∧o.length=F.length∧o.take (k-1)=F.take (k-1)) (fun k ns o fl=>[(47,.int .i64 k)]) (fun k ns o fl=>bif fl then [(38,38,.rw 1 (o.map encInt))] else [(13,13,.bx [.int .i64 d.b,.int .i64 d.f,.int .i64 d.r,.int .i64 d.o,.int .i64 c.b,.int .i64 c.f,.int .i64 c.r,.int .i64 c.o,.int .i64 mx,.row 1000 0 1 0 ns.length,.row 38 0 1 0 mx,.int .i64 (mx+1)]),(1000,106,.rw 1 (ns.map encNd)),(38,38,.rw 1 (o.map encInt))]) [] [] 0 [] (List.replicate mx 0) true (by (conv=>whnf);exact ⟨rfl,rfl,rfl⟩) ⟨by omega,rfl,rfl,by simp [hFl],by simp⟩ ?_
  intro k ns o fl ⟨p1,p2,p3,p4,p5⟩ ih
  by_cases hk:k≤mx
  ·have hkk:=hx3 k hk
   have hts:trS b a c mx k=(if k<b.length then rowD ((b.take (k+1)).drop k) 1 0 else [])++(if 1≤k∧k≤a.length then rowD ((a.take k).drop (k-1)) (-1) (mx+1) else [])++(if k<mx then rowD [pw c.f] 1 (k+1) else []):=rfl
   have rb1:=fun q=>rb q (k:Int).toNat ((k:Int)+1).toNat
   have ra1:=fun q=>ra q ((k:Int)-1).toNat (k:Int).toNat
   have ru1:=fun q=>ru q k (by omega)
   have e1:((k:Int)+1).toNat=k+1:=by omega
   have e2:(k:Int).toNat=k:=by omega
   have e3:((k:Int)-1).toNat=k-1:=by omega
   have hln:(trN b a c mx k).length=k:=by simp [trN]
   have hl1:=rowD_len (List.drop (k:Int).toNat (List.take ((k:Int)+1).toNat b)) 1 0
   have hl2:=rowD_len (List.drop ((k:Int)-1).toNat (List.take (k:Int).toNat a)) (-1) (mx+1)
   have hl3:=rowD_len [pw c.f] 1 (k+1)
   simp only[List.length_drop,List.length_take,List.length_cons,List.length_nil]at hl1 hl2 hl3
   have hnl:ns.length=k:=by rw[p2];exact hln
   have hE : ∀ X,X=trS b a c mx k→[AV.sl false (X.map encT)]=encNd ⟨false,trS b a c mx k⟩:=fun X h=>by rw[h]
   cases fl
   ·have hk1:1≤k:=by
     rcases k with _|k
     ·simp at p3
     ·omega
    (repeat' (first|(refine CmpP.go (fun hc => ?_) (fun hc => ?_)<;>first|(exfalso;omega)|(conv=>whnf))|(refine Req.go ?_ ?_;omega;conv=>whnf)|(refine OpP.add ?_ ?_;omega;conv=>whnf)|(refine OpP.sub ?_ ?_;omega;conv=>whnf)|(refine LenP.go ?_;conv=>whnf)|(refine SlS.go (fun _=>rfl) (Bds.ss ?_ ?_);omega;conv=>whnf)|(refine SnR.e1 rfl ?_;conv=>whnf)|(refine SnR.e2 rfl rfl ?_;conv=>whnf)|(refine SnR.n2 rfl ?_;conv=>whnf)|(refine AKM.x ?_;conv=>whnf)|(refine CallP.go (rb1 _) ?_;conv=>whnf)|(refine CallP.go (ra1 _) ?_;conv=>whnf)|(refine CallP.go (ru1 _) ?_;conv=>whnf)|(refine CallP.go (ev_join1 D _ _ _ _ (by omega)) ?_;conv=>whnf)|(refine CallP.go (ev_join2 D _ _ _ _ _ (by first|omega|exact len_app2 (by omega) (by omega))) ?_;conv=>whnf)))
    all_goals (
     obtain ⟨f1,f2⟩:=fill_step (i:=k-1) p4 p5 (hF1 (k-1) (by omega))
     refine StR.at (k-1) ((mx:Int)+1+((k-1+1:Nat):Int)) (by omega) (by rw[show k-1+1=k by omega]) (fun _=>rfl) (by omega) ?_
     (conv=>whnf)
     (repeat' (refine RowP.e1 ?_;conv=>whnf))
     refine AppR.one (enc:=encNd) ⟨false,trS b a c mx k⟩ (hE _ ?_) rfl rfl (by omega) (by omega) ?_
     ·rw[hts]
      split<;>split<;>split<;>first|(exfalso;omega)|simp only[List.append_nil,List.nil_append,List.append_assoc,e1,e2,e3]
     ·(conv=>whnf)
      (repeat' (refine OpP.add ?_ ?_;omega;conv=>whnf))
      exact AKM.back [(1000,106)] (by (conv=>whnf);exact ⟨rfl,rfl,rfl⟩) (ih (k+1) _ _ false (by omega) ⟨by omega,by rw[trN_snoc,p2],by simp,f1,by rw[show k+1-1=k-1+1 by omega];exact f2⟩))
   ·have hk0:k=0:=by simpa using p3
    (repeat' (first|(refine CmpP.go (fun hc => ?_) (fun hc => ?_)<;>first|(exfalso;omega)|(conv=>whnf))|(refine OpP.add ?_ ?_;omega;conv=>whnf)|(refine LenP.go ?_;conv=>whnf)|(refine SlS.go (fun _=>rfl) (Bds.ss ?_ ?_);omega;conv=>whnf)|(refine RowP.e1 ?_;conv=>whnf)|(refine SnR.e1 rfl ?_;conv=>whnf)|(refine SnR.e2 rfl rfl ?_;conv=>whnf)|(refine SnR.n2 rfl ?_;conv=>whnf)|(refine AKM.x ?_;conv=>whnf)|(refine CallP.go (rb1 _) ?_;conv=>whnf)|(refine CallP.go (ru1 _) ?_;conv=>whnf)|(refine CallP.go (ev_join1 D _ _ _ _ (by omega)) ?_;conv=>whnf)|(refine CallP.go (ev_join2 D _ _ _ _ _ (by first|omega|exact len_app2 (by omega) (by omega))) ?_;conv=>whnf)))
    all_goals (
     refine AppN.one (enc:=encNd) ⟨false,trS b a c mx k⟩ (hE _ ?_) rfl (by omega) ?_
     ·rw[hts]
      split<;>split<;>split<;>first|(exfalso;omega)|simp only[List.append_nil,List.nil_append,List.append_assoc,e1,e2,e3]
     ·(conv=>whnf)
      (repeat' (refine OpP.add ?_ ?_;omega;conv=>whnf))
      exact AKM.back [(1000,106)] (by (conv=>whnf);exact ⟨rfl,rfl,rfl⟩) (ih (k+1) [⟨false,trS b a c mx k⟩] o false (by omega) ⟨by omega,by rw[trN_snoc,hk0];rfl,by simp,p4,by rw[hk0];rfl⟩))
  ·obtain rfl:k=mx+1:=by omega
   cases fl
   ·(repeat' (first|(refine CmpP.go (fun hc => ?_) (fun hc => ?_)<;>first|(exfalso;omega)|(conv=>whnf))|(refine SnR.all (fun _=>rfl) rfl ?_ ?_;(first|rfl|simp);conv=>whnf)|(refine AKM.x ?_;conv=>whnf)))
    have ho:=fill_done p4 p5 (by omega)
    subst ho
    refine SnR.all (enc:=encInt) (fun _=>rfl) rfl hFl.symm ?_
    (conv=>whnf)
    skip
    refine FinP.go ?_ hcl
    rw[hS,p2]
   ·simp at p3)
end Go.Eng

namespace Go.Eng
theorem trim_le (l:List Rat):(trimQ l).length≤l.length:=by rw[trimQ_len];exact cutN_le _ _
theorem tf_ofU {S:SysQ} {n:Nat} {B A:List Rat} (lA:A.length≤n+1) (lB:B.length≤n+1) (h0:A.getD 0 0=1) (hd:S.d=B.getD 0 0)
  (h1 : ∀ k,k<n→cofQ S.a n k=A.getD (k+1) 0) (h2 : ∀ k,k<n→dotQ S.c (mvQ (flM S.a n k) S.b)=B.getD (k+1) 0-B.getD 0 0*A.getD (k+1) 0):tfA S n=trimQ A∧tfB S n=trimQ B:=by
 have e1:=trim_le A
 have e2:=trim_le B
 refine tf_of (trimQ_idem _) (trimQ_idem _) (by omega) (by omega) (by rw[trimQ_getD];exact h0) (by rw[trimQ_getD];exact hd) (fun k hk=>by rw[trimQ_getD];exact h1 k hk) (fun k hk=>by rw[trimQ_getD,trimQ_getD,trimQ_getD];exact h2 k hk)
theorem ctl_trim (B A:List Rat) (n:Nat):ctlQ (trimQ B) (trimQ A) n=ctlQ B A n:=by simp only[ctlQ,trimQ_getD]
theorem obs_trim (B A:List Rat) (n:Nat):obsQ (trimQ B) (trimQ A) n=obsQ B A n:=by simp only[obsQ,ctl_trim]
theorem ctl_tfU {B A:List Rat} {n:Nat} (lA:A.length≤n+1) (lB:B.length≤n+1) (h0:A.getD 0 0=1) (hn:n≤3):tfA (ctlQ B A n) n=trimQ A∧tfB (ctlQ B A n) n=trimQ B:=by
 have e1:=trim_le A
 have e2:=trim_le B
 rw[←ctl_trim]
 exact ctl_tf (trimQ_idem _) (trimQ_idem _) (by omega) (by omega) (by rw[trimQ_getD];exact h0) hn
theorem obs_tfU {B A:List Rat} {n:Nat} (lA:A.length≤n+1) (lB:B.length≤n+1) (h0:A.getD 0 0=1) (hn:n≤3):tfA (obsQ B A n) n=trimQ A∧tfB (obsQ B A n) n=trimQ B:=by
 have e1:=trim_le A
 have e2:=trim_le B
 rw[←obs_trim]
 exact obs_tf (trimQ_idem _) (trimQ_idem _) (by omega) (by omega) (by rw[trimQ_getD];exact h0) hn
theorem Bs.nil0 (k:Nat):Bs k []:=fun x hx=>by cases hx
theorem Bs.cons0 {k:Nat} {x:Rat} {l:List Rat} (hx:Bt k x) (h:Bs k l):Bs k (x::l):=fun y hy=>by
 rcases List.mem_cons.1 hy with rfl|hy
 ·exact hx
 ·exact h y hy
theorem Bt.neg0 {k:Nat} {x:Rat} (h:Bt k x):Bt k (-x):=⟨by simpa using h.1,by simpa using h.2⟩
def fracs (u:Rat) (l:List Int):List Rat:=l.map fun (v:Int)=>(v:Rat)/u
theorem lin_one10 (a0:Int) (D C:Wd) (u:Rat) (hu:u≠0) (e:((pw C.f:Int):Rat)=u):linQ (formOneS [a0] [] D C)=⟨[],[],[],(a0:Rat)/u⟩:=by
 simp [linQ,formOneS,spreadQ,tsOf,rowD,delayS,List.range_succ,exS,unitL,sumQ,e]
 try grind
theorem lin_two10 (a0:Int) (D C:Wd) (u:Rat) (hu:u≠0) (e:((pw C.f:Int):Rat)=u):linQ (formTwoS [a0] [] D C)=ctlQ (fracs u [a0]) (1::fracs u []) 0:=by
 simp [linQ,formTwoS,maxN,spreadQ,tsOf,rowD,delayS,List.range_succ,exS,unitL,sumQ,e,ctlQ,fracs]
 try grind
theorem lin_tr10 (a0:Int) (D C:Wd) (u:Rat) (hu:u≠0) (e:((pw C.f:Int):Rat)=u):linQ (transS [a0] [] D C)=obsQ (fracs u [a0]) (1::fracs u []) 0:=by
 simp [linQ,transS,trN,trS,maxN,spreadQ,tsOf,rowD,delayS,List.range_succ,exS,unitL,sumQ,e,obsQ,ctlQ,colQ,fracs]
 try grind
theorem one_ok10 (p0:Rat) (hp0:Bt 80 p0):SysQ.Ok ⟨[],[],[],p0⟩ 0 80:=by
 refine ⟨rfl,?_,rfl,rfl,?_,Bs.nil0 _,Bs.nil0 _,hp0⟩
 ·intro r hr
  cases hr
 ·intro r hr
  cases hr
theorem one_tf10 (p0:Rat):tfA ⟨[],[],[],p0⟩ 0=trimQ (1::[])∧tfB ⟨[],[],[],p0⟩ 0=trimQ [p0]:=by
 exact tf_ofU (by simp) (by simp) rfl rfl (fun k hk=>absurd hk (by omega)) (fun k hk=>absurd hk (by omega))
theorem lin_one11 (a0 d1:Int) (D C:Wd) (u:Rat) (hu:u≠0) (e:((pw C.f:Int):Rat)=u):linQ (formOneS [a0] [d1] D C)=⟨[[-((d1:Rat)/u)]],[((a0:Rat)/u)],[-((d1:Rat)/u)],(a0:Rat)/u⟩:=by
 simp [linQ,formOneS,spreadQ,tsOf,rowD,delayS,List.range_succ,exS,unitL,sumQ,e]
 try grind
theorem lin_two11 (a0 d1:Int) (D C:Wd) (u:Rat) (hu:u≠0) (e:((pw C.f:Int):Rat)=u):linQ (formTwoS [a0] [d1] D C)=ctlQ (fracs u [a0]) (1::fracs u [d1]) 1:=by
 simp [linQ,formTwoS,maxN,spreadQ,tsOf,rowD,delayS,List.range_succ,exS,unitL,sumQ,e,ctlQ,fracs]
 try grind
theorem lin_tr11 (a0 d1:Int) (D C:Wd) (u:Rat) (hu:u≠0) (e:((pw C.f:Int):Rat)=u):linQ (transS [a0] [d1] D C)=obsQ (fracs u [a0]) (1::fracs u [d1]) 1:=by
 simp [linQ,transS,trN,trS,maxN,spreadQ,tsOf,rowD,delayS,List.range_succ,exS,unitL,sumQ,e,obsQ,ctlQ,colQ,fracs]
 try grind
theorem one_ok11 (p0 q1:Rat) (hp0:Bt 80 p0) (hq1:Bt 80 q1):SysQ.Ok ⟨[[-q1]],[p0],[-q1],p0⟩ 1 80:=by
 refine ⟨rfl,?_,rfl,rfl,?_,Bs.cons0 (hp0) (Bs.nil0 _),Bs.cons0 (hq1.neg0) (Bs.nil0 _),hp0⟩
 ·intro r hr
  simp only[List.mem_cons,List.not_mem_nil,or_false]at hr
  subst hr
  exact rfl
 ·intro r hr
  simp only[List.mem_cons,List.not_mem_nil,or_false]at hr
  subst hr
  exact Bs.cons0 (hq1.neg0) (Bs.nil0 _)
theorem one_fl11 (q1:Rat):flM [[-q1]] 1 0=[[1]]∧cofQ [[-q1]] 1 0=q1:=by
 have g0:flM [[-q1]] 1 0=[[1]]:=rfl
 have k0:=cof_inv 1 (by omega) (trQ (mulQ [[-q1]] (flM [[-q1]] 1 0) 1) 1)
 rw[show trQ (mulQ [[-q1]] (flM [[-q1]] 1 0) 1) 1*Rat.divInt (-1) ((1:Nat):Int)=cofQ [[-q1]] 1 0 from rfl,g0,tr1]at k0
 have e0:cofQ [[-q1]] 1 0=q1:=by grind
 exact ⟨g0,e0⟩
theorem one_tf11 (p0 q1:Rat):tfA ⟨[[-q1]],[p0],[-q1],p0⟩ 1=trimQ (1::[q1])∧tfB ⟨[[-q1]],[p0],[-q1],p0⟩ 1=trimQ [p0]:=by
 obtain ⟨m0,c0⟩:=one_fl11 q1
 refine tf_ofU (by simp) (by simp) rfl rfl (fun k hk => ?_) (fun k hk => ?_)
 ·have hk':k=0:=by omega
  subst hk'
  exact c0
 ·have hk':k=0:=by omega
  subst hk'
  show dotQ [-q1] (mvQ (flM [[-q1]] 1 0) [p0])=[p0].getD (0+1) 0-p0*(1::[q1]:List Rat).getD (0+1) 0
  rw[m0]
  simp [mvQ,dotQ]
  try grind
theorem lin_one12 (a0 d1 d2:Int) (D C:Wd) (u:Rat) (hu:u≠0) (e:((pw C.f:Int):Rat)=u):linQ (formOneS [a0] [d1,d2] D C)=⟨[[-((d1:Rat)/u),-((d2:Rat)/u)],[1,0]],[((a0:Rat)/u),0],[-((d1:Rat)/u),-((d2:Rat)/u)],(a0:Rat)/u⟩:=by
 simp [linQ,formOneS,spreadQ,tsOf,rowD,delayS,List.range_succ,exS,unitL,sumQ,e]
 try grind
theorem lin_two12 (a0 d1 d2:Int) (D C:Wd) (u:Rat) (hu:u≠0) (e:((pw C.f:Int):Rat)=u):linQ (formTwoS [a0] [d1,d2] D C)=ctlQ (fracs u [a0]) (1::fracs u [d1,d2]) 2:=by
 simp [linQ,formTwoS,maxN,spreadQ,tsOf,rowD,delayS,List.range_succ,exS,unitL,sumQ,e,ctlQ,fracs]
 try grind
theorem lin_tr12 (a0 d1 d2:Int) (D C:Wd) (u:Rat) (hu:u≠0) (e:((pw C.f:Int):Rat)=u):linQ (transS [a0] [d1,d2] D C)=obsQ (fracs u [a0]) (1::fracs u [d1,d2]) 2:=by
 simp [linQ,transS,trN,trS,maxN,spreadQ,tsOf,rowD,delayS,List.range_succ,exS,unitL,sumQ,e,obsQ,ctlQ,colQ,fracs]
 try grind
theorem one_ok12 (p0 q1 q2:Rat) (hp0:Bt 80 p0) (hq1:Bt 80 q1) (hq2:Bt 80 q2):SysQ.Ok ⟨[[-q1,-q2],[1,0]],[p0,0],[-q1,-q2],p0⟩ 2 80:=by
 refine ⟨rfl,?_,rfl,rfl,?_,Bs.cons0 (hp0) (Bs.cons0 (Bt.zero _) (Bs.nil0 _)),Bs.cons0 (hq1.neg0) (Bs.cons0 (hq2.neg0) (Bs.nil0 _)),hp0⟩
 ·intro r hr
  simp only[List.mem_cons,List.not_mem_nil,or_false]at hr
  rcases hr with rfl|rfl
  ·exact rfl
  ·exact rfl
 ·intro r hr
  simp only[List.mem_cons,List.not_mem_nil,or_false]at hr
  rcases hr with rfl|rfl
  ·exact Bs.cons0 (hq1.neg0) (Bs.cons0 (hq2.neg0) (Bs.nil0 _))
  ·exact Bs.cons0 (Bt.one _) (Bs.cons0 (Bt.zero _) (Bs.nil0 _))
theorem one_fl12 (q1 q2:Rat):flM [[-q1,-q2],[1,0]] 2 0=[[1,0],[0,1]]∧flM [[-q1,-q2],[1,0]] 2 1=[[0,-q2],[1,q1]]∧cofQ [[-q1,-q2],[1,0]] 2 0=q1∧cofQ [[-q1,-q2],[1,0]] 2 1=q2:=by
 have g0:flM [[-q1,-q2],[1,0]] 2 0=[[1,0],[0,1]]:=rfl
 have k0:=cof_inv 1 (by omega) (trQ (mulQ [[-q1,-q2],[1,0]] (flM [[-q1,-q2],[1,0]] 2 0) 2) 2)
 rw[show trQ (mulQ [[-q1,-q2],[1,0]] (flM [[-q1,-q2],[1,0]] 2 0) 2) 2*Rat.divInt (-1) ((1:Nat):Int)=cofQ [[-q1,-q2],[1,0]] 2 0 from rfl,g0,tr2]at k0
 have e0:cofQ [[-q1,-q2],[1,0]] 2 0=q1:=by grind
 have g1:flM [[-q1,-q2],[1,0]] 2 1=[[0,-q2],[1,q1]]:=by
  have h:flM [[-q1,-q2],[1,0]] 2 1=addD (mulQ [[-q1,-q2],[1,0]] (flM [[-q1,-q2],[1,0]] 2 0) 2) (cofQ [[-q1,-q2],[1,0]] 2 0) 2:=rfl
  rw[g0,e0,step2]at h
  rw[h]
  clear h
  simp only[List.cons.injEq,and_true]
  refine ⟨⟨?_,?_⟩,⟨?_,?_⟩⟩<;>grind
 have k1:=cof_inv 2 (by omega) (trQ (mulQ [[-q1,-q2],[1,0]] (flM [[-q1,-q2],[1,0]] 2 1) 2) 2)
 rw[show trQ (mulQ [[-q1,-q2],[1,0]] (flM [[-q1,-q2],[1,0]] 2 1) 2) 2*Rat.divInt (-1) ((2:Nat):Int)=cofQ [[-q1,-q2],[1,0]] 2 1 from rfl,g1,tr2]at k1
 have e1:cofQ [[-q1,-q2],[1,0]] 2 1=q2:=by grind
 exact ⟨g0,g1,e0,e1⟩
theorem one_tf12 (p0 q1 q2:Rat):tfA ⟨[[-q1,-q2],[1,0]],[p0,0],[-q1,-q2],p0⟩ 2=trimQ (1::[q1,q2])∧tfB ⟨[[-q1,-q2],[1,0]],[p0,0],[-q1,-q2],p0⟩ 2=trimQ [p0]:=by
 obtain ⟨m0,m1,c0,c1⟩:=one_fl12 q1 q2
 refine tf_ofU (by simp) (by simp) rfl rfl (fun k hk => ?_) (fun k hk => ?_)
 ·have hk':k=0∨k=1:=by omega
  rcases hk' with rfl|rfl
  ·exact c0
  ·exact c1
 ·have hk':k=0∨k=1:=by omega
  rcases hk' with rfl|rfl
  ·show dotQ [-q1,-q2] (mvQ (flM [[-q1,-q2],[1,0]] 2 0) [p0,0])=[p0].getD (0+1) 0-p0*(1::[q1,q2]:List Rat).getD (0+1) 0
   rw[m0]
   simp [mvQ,dotQ]
   try grind
  ·show dotQ [-q1,-q2] (mvQ (flM [[-q1,-q2],[1,0]] 2 1) [p0,0])=[p0].getD (1+1) 0-p0*(1::[q1,q2]:List Rat).getD (1+1) 0
   rw[m1]
   simp [mvQ,dotQ]
   try grind
theorem lin_one20 (a0 a1:Int) (D C:Wd) (u:Rat) (hu:u≠0) (e:((pw C.f:Int):Rat)=u):linQ (formOneS [a0,a1] [] D C)=⟨[[0]],[1],[((a1:Rat)/u)],(a0:Rat)/u⟩:=by
 simp [linQ,formOneS,spreadQ,tsOf,rowD,delayS,List.range_succ,exS,unitL,sumQ,e]
 try grind
theorem lin_two20 (a0 a1:Int) (D C:Wd) (u:Rat) (hu:u≠0) (e:((pw C.f:Int):Rat)=u):linQ (formTwoS [a0,a1] [] D C)=ctlQ (fracs u [a0,a1]) (1::fracs u []) 1:=by
 simp [linQ,formTwoS,maxN,spreadQ,tsOf,rowD,delayS,List.range_succ,exS,unitL,sumQ,e,ctlQ,fracs]
 try grind
theorem lin_tr20 (a0 a1:Int) (D C:Wd) (u:Rat) (hu:u≠0) (e:((pw C.f:Int):Rat)=u):linQ (transS [a0,a1] [] D C)=obsQ (fracs u [a0,a1]) (1::fracs u []) 1:=by
 simp [linQ,transS,trN,trS,maxN,spreadQ,tsOf,rowD,delayS,List.range_succ,exS,unitL,sumQ,e,obsQ,ctlQ,colQ,fracs]
 try grind
theorem one_ok20 (p0 p1:Rat) (hp0:Bt 80 p0) (hp1:Bt 80 p1):SysQ.Ok ⟨[[0]],[1],[p1],p0⟩ 1 80:=by
 refine ⟨rfl,?_,rfl,rfl,?_,Bs.cons0 (Bt.one _) (Bs.nil0 _),Bs.cons0 (hp1) (Bs.nil0 _),hp0⟩
 ·intro r hr
  simp only[List.mem_cons,List.not_mem_nil,or_false]at hr
  subst hr
  exact rfl
 ·intro r hr
  simp only[List.mem_cons,List.not_mem_nil,or_false]at hr
  subst hr
  exact Bs.cons0 (Bt.zero _) (Bs.nil0 _)
theorem one_fl20 (p1:Rat):flM [[0]] 1 0=[[1]]∧cofQ [[0]] 1 0=0:=by
 have g0:flM [[0]] 1 0=[[1]]:=rfl
 have k0:=cof_inv 1 (by omega) (trQ (mulQ [[0]] (flM [[0]] 1 0) 1) 1)
 rw[show trQ (mulQ [[0]] (flM [[0]] 1 0) 1) 1*Rat.divInt (-1) ((1:Nat):Int)=cofQ [[0]] 1 0 from rfl,g0,tr1]at k0
 have e0:cofQ [[0]] 1 0=0:=by grind
 exact ⟨g0,e0⟩
theorem one_tf20 (p0 p1:Rat):tfA ⟨[[0]],[1],[p1],p0⟩ 1=trimQ (1::[])∧tfB ⟨[[0]],[1],[p1],p0⟩ 1=trimQ [p0,p1]:=by
 obtain ⟨m0,c0⟩:=one_fl20 p1
 refine tf_ofU (by simp) (by simp) rfl rfl (fun k hk => ?_) (fun k hk => ?_)
 ·have hk':k=0:=by omega
  subst hk'
  exact c0
 ·have hk':k=0:=by omega
  subst hk'
  show dotQ [p1] (mvQ (flM [[0]] 1 0) [1])=[p0,p1].getD (0+1) 0-p0*(1::[]:List Rat).getD (0+1) 0
  rw[m0]
  simp [mvQ,dotQ]
  try grind
theorem lin_one21 (a0 a1 d1:Int) (D C:Wd) (u:Rat) (hu:u≠0) (e:((pw C.f:Int):Rat)=u):linQ (formOneS [a0,a1] [d1] D C)=⟨[[0,0],[((a1:Rat)/u),-((d1:Rat)/u)]],[1,((a0:Rat)/u)],[((a1:Rat)/u),-((d1:Rat)/u)],(a0:Rat)/u⟩:=by
 simp [linQ,formOneS,spreadQ,tsOf,rowD,delayS,List.range_succ,exS,unitL,sumQ,e]
 try grind
theorem lin_two21 (a0 a1 d1:Int) (D C:Wd) (u:Rat) (hu:u≠0) (e:((pw C.f:Int):Rat)=u):linQ (formTwoS [a0,a1] [d1] D C)=ctlQ (fracs u [a0,a1]) (1::fracs u [d1]) 1:=by
 simp [linQ,formTwoS,maxN,spreadQ,tsOf,rowD,delayS,List.range_succ,exS,unitL,sumQ,e,ctlQ,fracs]
 try grind
theorem lin_tr21 (a0 a1 d1:Int) (D C:Wd) (u:Rat) (hu:u≠0) (e:((pw C.f:Int):Rat)=u):linQ (transS [a0,a1] [d1] D C)=obsQ (fracs u [a0,a1]) (1::fracs u [d1]) 1:=by
 simp [linQ,transS,trN,trS,maxN,spreadQ,tsOf,rowD,delayS,List.range_succ,exS,unitL,sumQ,e,obsQ,ctlQ,colQ,fracs]
 try grind
theorem one_ok21 (p0 p1 q1:Rat) (hp0:Bt 80 p0) (hp1:Bt 80 p1) (hq1:Bt 80 q1):SysQ.Ok ⟨[[0,0],[p1,-q1]],[1,p0],[p1,-q1],p0⟩ 2 80:=by
 refine ⟨rfl,?_,rfl,rfl,?_,Bs.cons0 (Bt.one _) (Bs.cons0 (hp0) (Bs.nil0 _)),Bs.cons0 (hp1) (Bs.cons0 (hq1.neg0) (Bs.nil0 _)),hp0⟩
 ·intro r hr
  simp only[List.mem_cons,List.not_mem_nil,or_false]at hr
  rcases hr with rfl|rfl
  ·exact rfl
  ·exact rfl
 ·intro r hr
  simp only[List.mem_cons,List.not_mem_nil,or_false]at hr
  rcases hr with rfl|rfl
  ·exact Bs.cons0 (Bt.zero _) (Bs.cons0 (Bt.zero _) (Bs.nil0 _))
  ·exact Bs.cons0 (hp1) (Bs.cons0 (hq1.neg0) (Bs.nil0 _))
theorem one_fl21 (p1 q1:Rat):flM [[0,0],[p1,-q1]] 2 0=[[1,0],[0,1]]∧flM [[0,0],[p1,-q1]] 2 1=[[q1,0],[p1,0]]∧cofQ [[0,0],[p1,-q1]] 2 0=q1∧cofQ [[0,0],[p1,-q1]] 2 1=0:=by
 have g0:flM [[0,0],[p1,-q1]] 2 0=[[1,0],[0,1]]:=rfl
 have k0:=cof_inv 1 (by omega) (trQ (mulQ [[0,0],[p1,-q1]] (flM [[0,0],[p1,-q1]] 2 0) 2) 2)
 rw[show trQ (mulQ [[0,0],[p1,-q1]] (flM [[0,0],[p1,-q1]] 2 0) 2) 2*Rat.divInt (-1) ((1:Nat):Int)=cofQ [[0,0],[p1,-q1]] 2 0 from rfl,g0,tr2]at k0
 have e0:cofQ [[0,0],[p1,-q1]] 2 0=q1:=by grind
 have g1:flM [[0,0],[p1,-q1]] 2 1=[[q1,0],[p1,0]]:=by
  have h:flM [[0,0],[p1,-q1]] 2 1=addD (mulQ [[0,0],[p1,-q1]] (flM [[0,0],[p1,-q1]] 2 0) 2) (cofQ [[0,0],[p1,-q1]] 2 0) 2:=rfl
  rw[g0,e0,step2]at h
  rw[h]
  clear h
  simp only[List.cons.injEq,and_true]
  refine ⟨⟨?_,?_⟩,⟨?_,?_⟩⟩<;>grind
 have k1:=cof_inv 2 (by omega) (trQ (mulQ [[0,0],[p1,-q1]] (flM [[0,0],[p1,-q1]] 2 1) 2) 2)
 rw[show trQ (mulQ [[0,0],[p1,-q1]] (flM [[0,0],[p1,-q1]] 2 1) 2) 2*Rat.divInt (-1) ((2:Nat):Int)=cofQ [[0,0],[p1,-q1]] 2 1 from rfl,g1,tr2]at k1
 have e1:cofQ [[0,0],[p1,-q1]] 2 1=0:=by grind
 exact ⟨g0,g1,e0,e1⟩
theorem one_tf21 (p0 p1 q1:Rat):tfA ⟨[[0,0],[p1,-q1]],[1,p0],[p1,-q1],p0⟩ 2=trimQ (1::[q1])∧tfB ⟨[[0,0],[p1,-q1]],[1,p0],[p1,-q1],p0⟩ 2=trimQ [p0,p1]:=by
 obtain ⟨m0,m1,c0,c1⟩:=one_fl21 p1 q1
 refine tf_ofU (by simp) (by simp) rfl rfl (fun k hk => ?_) (fun k hk => ?_)
 ·have hk':k=0∨k=1:=by omega
  rcases hk' with rfl|rfl
  ·exact c0
  ·exact c1
 ·have hk':k=0∨k=1:=by omega
  rcases hk' with rfl|rfl
  ·show dotQ [p1,-q1] (mvQ (flM [[0,0],[p1,-q1]] 2 0) [1,p0])=[p0,p1].getD (0+1) 0-p0*(1::[q1]:List Rat).getD (0+1) 0
   rw[m0]
   simp [mvQ,dotQ]
   try grind
  ·show dotQ [p1,-q1] (mvQ (flM [[0,0],[p1,-q1]] 2 1) [1,p0])=[p0,p1].getD (1+1) 0-p0*(1::[q1]:List Rat).getD (1+1) 0
   rw[m1]
   simp [mvQ,dotQ]
   try grind
theorem lin_one22 (a0 a1 d1 d2:Int) (D C:Wd) (u:Rat) (hu:u≠0) (e:((pw C.f:Int):Rat)=u):linQ (formOneS [a0,a1] [d1,d2] D C)=⟨[[0,0,0],[((a1:Rat)/u),-((d1:Rat)/u),-((d2:Rat)/u)],[0,1,0]],[1,((a0:Rat)/u),0],[((a1:Rat)/u),-((d1:Rat)/u),-((d2:Rat)/u)],(a0:Rat)/u⟩:=by
 simp [linQ,formOneS,spreadQ,tsOf,rowD,delayS,List.range_succ,exS,unitL,sumQ,e]
 try grind
theorem lin_two22 (a0 a1 d1 d2:Int) (D C:Wd) (u:Rat) (hu:u≠0) (e:((pw C.f:Int):Rat)=u):linQ (formTwoS [a0,a1] [d1,d2] D C)=ctlQ (fracs u [a0,a1]) (1::fracs u [d1,d2]) 2:=by
 simp [linQ,formTwoS,maxN,spreadQ,tsOf,rowD,delayS,List.range_succ,exS,unitL,sumQ,e,ctlQ,fracs]
 try grind
theorem lin_tr22 (a0 a1 d1 d2:Int) (D C:Wd) (u:Rat) (hu:u≠0) (e:((pw C.f:Int):Rat)=u):linQ (transS [a0,a1] [d1,d2] D C)=obsQ (fracs u [a0,a1]) (1::fracs u [d1,d2]) 2:=by
 simp [linQ,transS,trN,trS,maxN,spreadQ,tsOf,rowD,delayS,List.range_succ,exS,unitL,sumQ,e,obsQ,ctlQ,colQ,fracs]
 try grind
theorem one_ok22 (p0 p1 q1 q2:Rat) (hp0:Bt 80 p0) (hp1:Bt 80 p1) (hq1:Bt 80 q1) (hq2:Bt 80 q2):SysQ.Ok ⟨[[0,0,0],[p1,-q1,-q2],[0,1,0]],[1,p0,0],[p1,-q1,-q2],p0⟩ 3 80:=by
 refine ⟨rfl,?_,rfl,rfl,?_,Bs.cons0 (Bt.one _) (Bs.cons0 (hp0) (Bs.cons0 (Bt.zero _) (Bs.nil0 _))),Bs.cons0 (hp1) (Bs.cons0 (hq1.neg0) (Bs.cons0 (hq2.neg0) (Bs.nil0 _))),hp0⟩
 ·intro r hr
  simp only[List.mem_cons,List.not_mem_nil,or_false]at hr
  rcases hr with rfl|rfl|rfl
  ·exact rfl
  ·exact rfl
  ·exact rfl
 ·intro r hr
  simp only[List.mem_cons,List.not_mem_nil,or_false]at hr
  rcases hr with rfl|rfl|rfl
  ·exact Bs.cons0 (Bt.zero _) (Bs.cons0 (Bt.zero _) (Bs.cons0 (Bt.zero _) (Bs.nil0 _)))
  ·exact Bs.cons0 (hp1) (Bs.cons0 (hq1.neg0) (Bs.cons0 (hq2.neg0) (Bs.nil0 _)))
  ·exact Bs.cons0 (Bt.zero _) (Bs.cons0 (Bt.one _) (Bs.cons0 (Bt.zero _) (Bs.nil0 _)))
theorem one_fl22 (p1 q1 q2:Rat):flM [[0,0,0],[p1,-q1,-q2],[0,1,0]] 3 0=[[1,0,0],[0,1,0],[0,0,1]]∧flM [[0,0,0],[p1,-q1,-q2],[0,1,0]] 3 1=[[q1,0,0],[p1,0,-q2],[0,1,q1]]∧flM [[0,0,0],[p1,-q1,-q2],[0,1,0]] 3 2=[[q2,0,0],[0,0,0],[p1,0,0]]∧cofQ [[0,0,0],[p1,-q1,-q2],[0,1,0]] 3 0=q1∧cofQ [[0,0,0],[p1,-q1,-q2],[0,1,0]] 3 1=q2∧cofQ [[0,0,0],[p1,-q1,-q2],[0,1,0]] 3 2=0:=by
 have g0:flM [[0,0,0],[p1,-q1,-q2],[0,1,0]] 3 0=[[1,0,0],[0,1,0],[0,0,1]]:=rfl
 have k0:=cof_inv 1 (by omega) (trQ (mulQ [[0,0,0],[p1,-q1,-q2],[0,1,0]] (flM [[0,0,0],[p1,-q1,-q2],[0,1,0]] 3 0) 3) 3)
 rw[show trQ (mulQ [[0,0,0],[p1,-q1,-q2],[0,1,0]] (flM [[0,0,0],[p1,-q1,-q2],[0,1,0]] 3 0) 3) 3*Rat.divInt (-1) ((1:Nat):Int)=cofQ [[0,0,0],[p1,-q1,-q2],[0,1,0]] 3 0 from rfl,g0,tr3]at k0
 have e0:cofQ [[0,0,0],[p1,-q1,-q2],[0,1,0]] 3 0=q1:=by grind
 have g1:flM [[0,0,0],[p1,-q1,-q2],[0,1,0]] 3 1=[[q1,0,0],[p1,0,-q2],[0,1,q1]]:=by
  have h:flM [[0,0,0],[p1,-q1,-q2],[0,1,0]] 3 1=addD (mulQ [[0,0,0],[p1,-q1,-q2],[0,1,0]] (flM [[0,0,0],[p1,-q1,-q2],[0,1,0]] 3 0) 3) (cofQ [[0,0,0],[p1,-q1,-q2],[0,1,0]] 3 0) 3:=rfl
  rw[g0,e0,step3]at h
  rw[h]
  clear h
  simp only[List.cons.injEq,and_true]
  refine ⟨⟨?_,?_,?_⟩,⟨?_,?_,?_⟩,⟨?_,?_,?_⟩⟩<;>grind
 have k1:=cof_inv 2 (by omega) (trQ (mulQ [[0,0,0],[p1,-q1,-q2],[0,1,0]] (flM [[0,0,0],[p1,-q1,-q2],[0,1,0]] 3 1) 3) 3)
 rw[show trQ (mulQ [[0,0,0],[p1,-q1,-q2],[0,1,0]] (flM [[0,0,0],[p1,-q1,-q2],[0,1,0]] 3 1) 3) 3*Rat.divInt (-1) ((2:Nat):Int)=cofQ [[0,0,0],[p1,-q1,-q2],[0,1,0]] 3 1 from rfl,g1,tr3]at k1
 have e1:cofQ [[0,0,0],[p1,-q1,-q2],[0,1,0]] 3 1=q2:=by grind
 have g2:flM [[0,0,0],[p1,-q1,-q2],[0,1,0]] 3 2=[[q2,0,0],[0,0,0],[p1,0,0]]:=by
  have h:flM [[0,0,0],[p1,-q1,-q2],[0,1,0]] 3 2=addD (mulQ [[0,0,0],[p1,-q1,-q2],[0,1,0]] (flM [[0,0,0],[p1,-q1,-q2],[0,1,0]] 3 1) 3) (cofQ [[0,0,0],[p1,-q1,-q2],[0,1,0]] 3 1) 3:=rfl
  rw[g1,e1,step3]at h
  rw[h]
  clear h
  simp only[List.cons.injEq,and_true]
  refine ⟨⟨?_,?_,?_⟩,⟨?_,?_,?_⟩,⟨?_,?_,?_⟩⟩<;>grind
 have k2:=cof_inv 3 (by omega) (trQ (mulQ [[0,0,0],[p1,-q1,-q2],[0,1,0]] (flM [[0,0,0],[p1,-q1,-q2],[0,1,0]] 3 2) 3) 3)
 rw[show trQ (mulQ [[0,0,0],[p1,-q1,-q2],[0,1,0]] (flM [[0,0,0],[p1,-q1,-q2],[0,1,0]] 3 2) 3) 3*Rat.divInt (-1) ((3:Nat):Int)=cofQ [[0,0,0],[p1,-q1,-q2],[0,1,0]] 3 2 from rfl,g2,tr3]at k2
 have e2:cofQ [[0,0,0],[p1,-q1,-q2],[0,1,0]] 3 2=0:=by grind
 exact ⟨g0,g1,g2,e0,e1,e2⟩
theorem one_tf22 (p0 p1 q1 q2:Rat):tfA ⟨[[0,0,0],[p1,-q1,-q2],[0,1,0]],[1,p0,0],[p1,-q1,-q2],p0⟩ 3=trimQ (1::[q1,q2])∧tfB ⟨[[0,0,0],[p1,-q1,-q2],[0,1,0]],[1,p0,0],[p1,-q1,-q2],p0⟩ 3=trimQ [p0,p1]:=by
 obtain ⟨m0,m1,m2,c0,c1,c2⟩:=one_fl22 p1 q1 q2
 refine tf_ofU (by simp) (by simp) rfl rfl (fun k hk => ?_) (fun k hk => ?_)
 ·have hk':k=0∨k=1∨k=2:=by omega
  rcases hk' with rfl|rfl|rfl
  ·exact c0
  ·exact c1
  ·exact c2
 ·have hk':k=0∨k=1∨k=2:=by omega
  rcases hk' with rfl|rfl|rfl
  ·show dotQ [p1,-q1,-q2] (mvQ (flM [[0,0,0],[p1,-q1,-q2],[0,1,0]] 3 0) [1,p0,0])=[p0,p1].getD (0+1) 0-p0*(1::[q1,q2]:List Rat).getD (0+1) 0
   rw[m0]
   simp [mvQ,dotQ]
   try grind
  ·show dotQ [p1,-q1,-q2] (mvQ (flM [[0,0,0],[p1,-q1,-q2],[0,1,0]] 3 1) [1,p0,0])=[p0,p1].getD (1+1) 0-p0*(1::[q1,q2]:List Rat).getD (1+1) 0
   rw[m1]
   simp [mvQ,dotQ]
   try grind
  ·show dotQ [p1,-q1,-q2] (mvQ (flM [[0,0,0],[p1,-q1,-q2],[0,1,0]] 3 2) [1,p0,0])=[p0,p1].getD (2+1) 0-p0*(1::[q1,q2]:List Rat).getD (2+1) 0
   rw[m2]
   simp [mvQ,dotQ]
   try grind
theorem lin_one30 (a0 a1 a2:Int) (D C:Wd) (u:Rat) (hu:u≠0) (e:((pw C.f:Int):Rat)=u):linQ (formOneS [a0,a1,a2] [] D C)=⟨[[0,0],[1,0]],[1,0],[((a1:Rat)/u),((a2:Rat)/u)],(a0:Rat)/u⟩:=by
 simp [linQ,formOneS,spreadQ,tsOf,rowD,delayS,List.range_succ,exS,unitL,sumQ,e]
 try grind
theorem lin_two30 (a0 a1 a2:Int) (D C:Wd) (u:Rat) (hu:u≠0) (e:((pw C.f:Int):Rat)=u):linQ (formTwoS [a0,a1,a2] [] D C)=ctlQ (fracs u [a0,a1,a2]) (1::fracs u []) 2:=by
 simp [linQ,formTwoS,maxN,spreadQ,tsOf,rowD,delayS,List.range_succ,exS,unitL,sumQ,e,ctlQ,fracs]
 try grind
theorem lin_tr30 (a0 a1 a2:Int) (D C:Wd) (u:Rat) (hu:u≠0) (e:((pw C.f:Int):Rat)=u):linQ (transS [a0,a1,a2] [] D C)=obsQ (fracs u [a0,a1,a2]) (1::fracs u []) 2:=by
 simp [linQ,transS,trN,trS,maxN,spreadQ,tsOf,rowD,delayS,List.range_succ,exS,unitL,sumQ,e,obsQ,ctlQ,colQ,fracs]
 try grind
theorem one_ok30 (p0 p1 p2:Rat) (hp0:Bt 80 p0) (hp1:Bt 80 p1) (hp2:Bt 80 p2):SysQ.Ok ⟨[[0,0],[1,0]],[1,0],[p1,p2],p0⟩ 2 80:=by
 refine ⟨rfl,?_,rfl,rfl,?_,Bs.cons0 (Bt.one _) (Bs.cons0 (Bt.zero _) (Bs.nil0 _)),Bs.cons0 (hp1) (Bs.cons0 (hp2) (Bs.nil0 _)),hp0⟩
 ·intro r hr
  simp only[List.mem_cons,List.not_mem_nil,or_false]at hr
  rcases hr with rfl|rfl
  ·exact rfl
  ·exact rfl
 ·intro r hr
  simp only[List.mem_cons,List.not_mem_nil,or_false]at hr
  rcases hr with rfl|rfl
  ·exact Bs.cons0 (Bt.zero _) (Bs.cons0 (Bt.zero _) (Bs.nil0 _))
  ·exact Bs.cons0 (Bt.one _) (Bs.cons0 (Bt.zero _) (Bs.nil0 _))
theorem one_fl30 (p1 p2:Rat):flM [[0,0],[1,0]] 2 0=[[1,0],[0,1]]∧flM [[0,0],[1,0]] 2 1=[[0,0],[1,0]]∧cofQ [[0,0],[1,0]] 2 0=0∧cofQ [[0,0],[1,0]] 2 1=0:=by
 have g0:flM [[0,0],[1,0]] 2 0=[[1,0],[0,1]]:=rfl
 have k0:=cof_inv 1 (by omega) (trQ (mulQ [[0,0],[1,0]] (flM [[0,0],[1,0]] 2 0) 2) 2)
 rw[show trQ (mulQ [[0,0],[1,0]] (flM [[0,0],[1,0]] 2 0) 2) 2*Rat.divInt (-1) ((1:Nat):Int)=cofQ [[0,0],[1,0]] 2 0 from rfl,g0,tr2]at k0
 have e0:cofQ [[0,0],[1,0]] 2 0=0:=by grind
 have g1:flM [[0,0],[1,0]] 2 1=[[0,0],[1,0]]:=by
  have h:flM [[0,0],[1,0]] 2 1=addD (mulQ [[0,0],[1,0]] (flM [[0,0],[1,0]] 2 0) 2) (cofQ [[0,0],[1,0]] 2 0) 2:=rfl
  rw[g0,e0,step2]at h
  rw[h]
  clear h
  simp only[List.cons.injEq,and_true]
  refine ⟨⟨?_,?_⟩,⟨?_,?_⟩⟩<;>grind
 have k1:=cof_inv 2 (by omega) (trQ (mulQ [[0,0],[1,0]] (flM [[0,0],[1,0]] 2 1) 2) 2)
 rw[show trQ (mulQ [[0,0],[1,0]] (flM [[0,0],[1,0]] 2 1) 2) 2*Rat.divInt (-1) ((2:Nat):Int)=cofQ [[0,0],[1,0]] 2 1 from rfl,g1,tr2]at k1
 have e1:cofQ [[0,0],[1,0]] 2 1=0:=by grind
 exact ⟨g0,g1,e0,e1⟩
theorem one_tf30 (p0 p1 p2:Rat):tfA ⟨[[0,0],[1,0]],[1,0],[p1,p2],p0⟩ 2=trimQ (1::[])∧tfB ⟨[[0,0],[1,0]],[1,0],[p1,p2],p0⟩ 2=trimQ [p0,p1,p2]:=by
 obtain ⟨m0,m1,c0,c1⟩:=one_fl30 p1 p2
 refine tf_ofU (by simp) (by simp) rfl rfl (fun k hk => ?_) (fun k hk => ?_)
 ·have hk':k=0∨k=1:=by omega
  rcases hk' with rfl|rfl
  ·exact c0
  ·exact c1
 ·have hk':k=0∨k=1:=by omega
  rcases hk' with rfl|rfl
  ·show dotQ [p1,p2] (mvQ (flM [[0,0],[1,0]] 2 0) [1,0])=[p0,p1,p2].getD (0+1) 0-p0*(1::[]:List Rat).getD (0+1) 0
   rw[m0]
   simp [mvQ,dotQ]
   try grind
  ·show dotQ [p1,p2] (mvQ (flM [[0,0],[1,0]] 2 1) [1,0])=[p0,p1,p2].getD (1+1) 0-p0*(1::[]:List Rat).getD (1+1) 0
   rw[m1]
   simp [mvQ,dotQ]
   try grind
theorem lin_one31 (a0 a1 a2 d1:Int) (D C:Wd) (u:Rat) (hu:u≠0) (e:((pw C.f:Int):Rat)=u):linQ (formOneS [a0,a1,a2] [d1] D C)=⟨[[0,0,0],[1,0,0],[((a1:Rat)/u),((a2:Rat)/u),-((d1:Rat)/u)]],[1,0,((a0:Rat)/u)],[((a1:Rat)/u),((a2:Rat)/u),-((d1:Rat)/u)],(a0:Rat)/u⟩:=by
 simp [linQ,formOneS,spreadQ,tsOf,rowD,delayS,List.range_succ,exS,unitL,sumQ,e]
 try grind
theorem lin_two31 (a0 a1 a2 d1:Int) (D C:Wd) (u:Rat) (hu:u≠0) (e:((pw C.f:Int):Rat)=u):linQ (formTwoS [a0,a1,a2] [d1] D C)=ctlQ (fracs u [a0,a1,a2]) (1::fracs u [d1]) 2:=by
 simp [linQ,formTwoS,maxN,spreadQ,tsOf,rowD,delayS,List.range_succ,exS,unitL,sumQ,e,ctlQ,fracs]
 try grind
theorem lin_tr31 (a0 a1 a2 d1:Int) (D C:Wd) (u:Rat) (hu:u≠0) (e:((pw C.f:Int):Rat)=u):linQ (transS [a0,a1,a2] [d1] D C)=obsQ (fracs u [a0,a1,a2]) (1::fracs u [d1]) 2:=by
 simp [linQ,transS,trN,trS,maxN,spreadQ,tsOf,rowD,delayS,List.range_succ,exS,unitL,sumQ,e,obsQ,ctlQ,colQ,fracs]
 try grind
theorem one_ok31 (p0 p1 p2 q1:Rat) (hp0:Bt 80 p0) (hp1:Bt 80 p1) (hp2:Bt 80 p2) (hq1:Bt 80 q1):SysQ.Ok ⟨[[0,0,0],[1,0,0],[p1,p2,-q1]],[1,0,p0],[p1,p2,-q1],p0⟩ 3 80:=by
 refine ⟨rfl,?_,rfl,rfl,?_,Bs.cons0 (Bt.one _) (Bs.cons0 (Bt.zero _) (Bs.cons0 (hp0) (Bs.nil0 _))),Bs.cons0 (hp1) (Bs.cons0 (hp2) (Bs.cons0 (hq1.neg0) (Bs.nil0 _))),hp0⟩
 ·intro r hr
  simp only[List.mem_cons,List.not_mem_nil,or_false]at hr
  rcases hr with rfl|rfl|rfl
  ·exact rfl
  ·exact rfl
  ·exact rfl
 ·intro r hr
  simp only[List.mem_cons,List.not_mem_nil,or_false]at hr
  rcases hr with rfl|rfl|rfl
  ·exact Bs.cons0 (Bt.zero _) (Bs.cons0 (Bt.zero _) (Bs.cons0 (Bt.zero _) (Bs.nil0 _)))
  ·exact Bs.cons0 (Bt.one _) (Bs.cons0 (Bt.zero _) (Bs.cons0 (Bt.zero _) (Bs.nil0 _)))
  ·exact Bs.cons0 (hp1) (Bs.cons0 (hp2) (Bs.cons0 (hq1.neg0) (Bs.nil0 _)))
theorem one_fl31 (p1 p2 q1:Rat):flM [[0,0,0],[1,0,0],[p1,p2,-q1]] 3 0=[[1,0,0],[0,1,0],[0,0,1]]∧flM [[0,0,0],[1,0,0],[p1,p2,-q1]] 3 1=[[q1,0,0],[1,q1,0],[p1,p2,0]]∧flM [[0,0,0],[1,0,0],[p1,p2,-q1]] 3 2=[[0,0,0],[q1,0,0],[p2,0,0]]∧cofQ [[0,0,0],[1,0,0],[p1,p2,-q1]] 3 0=q1∧cofQ [[0,0,0],[1,0,0],[p1,p2,-q1]] 3 1=0∧cofQ [[0,0,0],[1,0,0],[p1,p2,-q1]] 3 2=0:=by
 have g0:flM [[0,0,0],[1,0,0],[p1,p2,-q1]] 3 0=[[1,0,0],[0,1,0],[0,0,1]]:=rfl
 have k0:=cof_inv 1 (by omega) (trQ (mulQ [[0,0,0],[1,0,0],[p1,p2,-q1]] (flM [[0,0,0],[1,0,0],[p1,p2,-q1]] 3 0) 3) 3)
 rw[show trQ (mulQ [[0,0,0],[1,0,0],[p1,p2,-q1]] (flM [[0,0,0],[1,0,0],[p1,p2,-q1]] 3 0) 3) 3*Rat.divInt (-1) ((1:Nat):Int)=cofQ [[0,0,0],[1,0,0],[p1,p2,-q1]] 3 0 from rfl,g0,tr3]at k0
 have e0:cofQ [[0,0,0],[1,0,0],[p1,p2,-q1]] 3 0=q1:=by grind
 have g1:flM [[0,0,0],[1,0,0],[p1,p2,-q1]] 3 1=[[q1,0,0],[1,q1,0],[p1,p2,0]]:=by
  have h:flM [[0,0,0],[1,0,0],[p1,p2,-q1]] 3 1=addD (mulQ [[0,0,0],[1,0,0],[p1,p2,-q1]] (flM [[0,0,0],[1,0,0],[p1,p2,-q1]] 3 0) 3) (cofQ [[0,0,0],[1,0,0],[p1,p2,-q1]] 3 0) 3:=rfl
  rw[g0,e0,step3]at h
  rw[h]
  clear h
  simp only[List.cons.injEq,and_true]
  refine ⟨⟨?_,?_,?_⟩,⟨?_,?_,?_⟩,⟨?_,?_,?_⟩⟩<;>grind
 have k1:=cof_inv 2 (by omega) (trQ (mulQ [[0,0,0],[1,0,0],[p1,p2,-q1]] (flM [[0,0,0],[1,0,0],[p1,p2,-q1]] 3 1) 3) 3)
 rw[show trQ (mulQ [[0,0,0],[1,0,0],[p1,p2,-q1]] (flM [[0,0,0],[1,0,0],[p1,p2,-q1]] 3 1) 3) 3*Rat.divInt (-1) ((2:Nat):Int)=cofQ [[0,0,0],[1,0,0],[p1,p2,-q1]] 3 1 from rfl,g1,tr3]at k1
 have e1:cofQ [[0,0,0],[1,0,0],[p1,p2,-q1]] 3 1=0:=by grind
 have g2:flM [[0,0,0],[1,0,0],[p1,p2,-q1]] 3 2=[[0,0,0],[q1,0,0],[p2,0,0]]:=by
  have h:flM [[0,0,0],[1,0,0],[p1,p2,-q1]] 3 2=addD (mulQ [[0,0,0],[1,0,0],[p1,p2,-q1]] (flM [[0,0,0],[1,0,0],[p1,p2,-q1]] 3 1) 3) (cofQ [[0,0,0],[1,0,0],[p1,p2,-q1]] 3 1) 3:=rfl
  rw[g1,e1,step3]at h
  rw[h]
  clear h
  simp only[List.cons.injEq,and_true]
  refine ⟨⟨?_,?_,?_⟩,⟨?_,?_,?_⟩,⟨?_,?_,?_⟩⟩<;>grind
 have k2:=cof_inv 3 (by omega) (trQ (mulQ [[0,0,0],[1,0,0],[p1,p2,-q1]] (flM [[0,0,0],[1,0,0],[p1,p2,-q1]] 3 2) 3) 3)
 rw[show trQ (mulQ [[0,0,0],[1,0,0],[p1,p2,-q1]] (flM [[0,0,0],[1,0,0],[p1,p2,-q1]] 3 2) 3) 3*Rat.divInt (-1) ((3:Nat):Int)=cofQ [[0,0,0],[1,0,0],[p1,p2,-q1]] 3 2 from rfl,g2,tr3]at k2
 have e2:cofQ [[0,0,0],[1,0,0],[p1,p2,-q1]] 3 2=0:=by grind
 exact ⟨g0,g1,g2,e0,e1,e2⟩
theorem one_tf31 (p0 p1 p2 q1:Rat):tfA ⟨[[0,0,0],[1,0,0],[p1,p2,-q1]],[1,0,p0],[p1,p2,-q1],p0⟩ 3=trimQ (1::[q1])∧tfB ⟨[[0,0,0],[1,0,0],[p1,p2,-q1]],[1,0,p0],[p1,p2,-q1],p0⟩ 3=trimQ [p0,p1,p2]:=by
 obtain ⟨m0,m1,m2,c0,c1,c2⟩:=one_fl31 p1 p2 q1
 refine tf_ofU (by simp) (by simp) rfl rfl (fun k hk => ?_) (fun k hk => ?_)
 ·have hk':k=0∨k=1∨k=2:=by omega
  rcases hk' with rfl|rfl|rfl
  ·exact c0
  ·exact c1
  ·exact c2
 ·have hk':k=0∨k=1∨k=2:=by omega
  rcases hk' with rfl|rfl|rfl
  ·show dotQ [p1,p2,-q1] (mvQ (flM [[0,0,0],[1,0,0],[p1,p2,-q1]] 3 0) [1,0,p0])=[p0,p1,p2].getD (0+1) 0-p0*(1::[q1]:List Rat).getD (0+1) 0
   rw[m0]
   simp [mvQ,dotQ]
   try grind
  ·show dotQ [p1,p2,-q1] (mvQ (flM [[0,0,0],[1,0,0],[p1,p2,-q1]] 3 1) [1,0,p0])=[p0,p1,p2].getD (1+1) 0-p0*(1::[q1]:List Rat).getD (1+1) 0
   rw[m1]
   simp [mvQ,dotQ]
   try grind
  ·show dotQ [p1,p2,-q1] (mvQ (flM [[0,0,0],[1,0,0],[p1,p2,-q1]] 3 2) [1,0,p0])=[p0,p1,p2].getD (2+1) 0-p0*(1::[q1]:List Rat).getD (2+1) 0
   rw[m2]
   simp [mvQ,dotQ]
   try grind
theorem lin_one32 (a0 a1 a2 d1 d2:Int) (D C:Wd) (u:Rat) (hu:u≠0) (e:((pw C.f:Int):Rat)=u):linQ (formOneS [a0,a1,a2] [d1,d2] D C)=⟨[[0,0,0,0],[1,0,0,0],[((a1:Rat)/u),((a2:Rat)/u),-((d1:Rat)/u),-((d2:Rat)/u)],[0,0,1,0]],[1,0,((a0:Rat)/u),0],[((a1:Rat)/u),((a2:Rat)/u),-((d1:Rat)/u),-((d2:Rat)/u)],(a0:Rat)/u⟩:=by
 simp [linQ,formOneS,spreadQ,tsOf,rowD,delayS,List.range_succ,exS,unitL,sumQ,e]
 try grind
theorem lin_two32 (a0 a1 a2 d1 d2:Int) (D C:Wd) (u:Rat) (hu:u≠0) (e:((pw C.f:Int):Rat)=u):linQ (formTwoS [a0,a1,a2] [d1,d2] D C)=ctlQ (fracs u [a0,a1,a2]) (1::fracs u [d1,d2]) 2:=by
 simp [linQ,formTwoS,maxN,spreadQ,tsOf,rowD,delayS,List.range_succ,exS,unitL,sumQ,e,ctlQ,fracs]
 try grind
theorem lin_tr32 (a0 a1 a2 d1 d2:Int) (D C:Wd) (u:Rat) (hu:u≠0) (e:((pw C.f:Int):Rat)=u):linQ (transS [a0,a1,a2] [d1,d2] D C)=obsQ (fracs u [a0,a1,a2]) (1::fracs u [d1,d2]) 2:=by
 simp [linQ,transS,trN,trS,maxN,spreadQ,tsOf,rowD,delayS,List.range_succ,exS,unitL,sumQ,e,obsQ,ctlQ,colQ,fracs]
 try grind
theorem one_ok32 (p0 p1 p2 q1 q2:Rat) (hp0:Bt 80 p0) (hp1:Bt 80 p1) (hp2:Bt 80 p2) (hq1:Bt 80 q1) (hq2:Bt 80 q2):SysQ.Ok ⟨[[0,0,0,0],[1,0,0,0],[p1,p2,-q1,-q2],[0,0,1,0]],[1,0,p0,0],[p1,p2,-q1,-q2],p0⟩ 4 80:=by
 refine ⟨rfl,?_,rfl,rfl,?_,Bs.cons0 (Bt.one _) (Bs.cons0 (Bt.zero _) (Bs.cons0 (hp0) (Bs.cons0 (Bt.zero _) (Bs.nil0 _)))),Bs.cons0 (hp1) (Bs.cons0 (hp2) (Bs.cons0 (hq1.neg0) (Bs.cons0 (hq2.neg0) (Bs.nil0 _)))),hp0⟩
 ·intro r hr
  simp only[List.mem_cons,List.not_mem_nil,or_false]at hr
  rcases hr with rfl|rfl|rfl|rfl
  ·exact rfl
  ·exact rfl
  ·exact rfl
  ·exact rfl
 ·intro r hr
  simp only[List.mem_cons,List.not_mem_nil,or_false]at hr
  rcases hr with rfl|rfl|rfl|rfl
  ·exact Bs.cons0 (Bt.zero _) (Bs.cons0 (Bt.zero _) (Bs.cons0 (Bt.zero _) (Bs.cons0 (Bt.zero _) (Bs.nil0 _))))
  ·exact Bs.cons0 (Bt.one _) (Bs.cons0 (Bt.zero _) (Bs.cons0 (Bt.zero _) (Bs.cons0 (Bt.zero _) (Bs.nil0 _))))
  ·exact Bs.cons0 (hp1) (Bs.cons0 (hp2) (Bs.cons0 (hq1.neg0) (Bs.cons0 (hq2.neg0) (Bs.nil0 _))))
  ·exact Bs.cons0 (Bt.zero _) (Bs.cons0 (Bt.zero _) (Bs.cons0 (Bt.one _) (Bs.cons0 (Bt.zero _) (Bs.nil0 _))))
theorem one_fl32 (p1 p2 q1 q2:Rat):flM [[0,0,0,0],[1,0,0,0],[p1,p2,-q1,-q2],[0,0,1,0]] 4 0=[[1,0,0,0],[0,1,0,0],[0,0,1,0],[0,0,0,1]]∧flM [[0,0,0,0],[1,0,0,0],[p1,p2,-q1,-q2],[0,0,1,0]] 4 1=[[q1,0,0,0],[1,q1,0,0],[p1,p2,0,-q2],[0,0,1,q1]]∧flM [[0,0,0,0],[1,0,0,0],[p1,p2,-q1,-q2],[0,0,1,0]] 4 2=[[q2,0,0,0],[q1,q2,0,0],[p2,0,0,0],[p1,p2,0,0]]∧flM [[0,0,0,0],[1,0,0,0],[p1,p2,-q1,-q2],[0,0,1,0]] 4 3=[[0,0,0,0],[q2,0,0,0],[0,0,0,0],[p2,0,0,0]]∧cofQ [[0,0,0,0],[1,0,0,0],[p1,p2,-q1,-q2],[0,0,1,0]] 4 0=q1∧cofQ [[0,0,0,0],[1,0,0,0],[p1,p2,-q1,-q2],[0,0,1,0]] 4 1=q2∧cofQ [[0,0,0,0],[1,0,0,0],[p1,p2,-q1,-q2],[0,0,1,0]] 4 2=0∧cofQ [[0,0,0,0],[1,0,0,0],[p1,p2,-q1,-q2],[0,0,1,0]] 4 3=0:=by
 have g0:flM [[0,0,0,0],[1,0,0,0],[p1,p2,-q1,-q2],[0,0,1,0]] 4 0=[[1,0,0,0],[0,1,0,0],[0,0,1,0],[0,0,0,1]]:=rfl
 have k0:=cof_inv 1 (by omega) (trQ (mulQ [[0,0,0,0],[1,0,0,0],[p1,p2,-q1,-q2],[0,0,1,0]] (flM [[0,0,0,0],[1,0,0,0],[p1,p2,-q1,-q2],[0,0,1,0]] 4 0) 4) 4)
 rw[show trQ (mulQ [[0,0,0,0],[1,0,0,0],[p1,p2,-q1,-q2],[0,0,1,0]] (flM [[0,0,0,0],[1,0,0,0],[p1,p2,-q1,-q2],[0,0,1,0]] 4 0) 4) 4*Rat.divInt (-1) ((1:Nat):Int)=cofQ [[0,0,0,0],[1,0,0,0],[p1,p2,-q1,-q2],[0,0,1,0]] 4 0 from rfl,g0,tr4]at k0
 have e0:cofQ [[0,0,0,0],[1,0,0,0],[p1,p2,-q1,-q2],[0,0,1,0]] 4 0=q1:=by grind
 have g1:flM [[0,0,0,0],[1,0,0,0],[p1,p2,-q1,-q2],[0,0,1,0]] 4 1=[[q1,0,0,0],[1,q1,0,0],[p1,p2,0,-q2],[0,0,1,q1]]:=by
  have h:flM [[0,0,0,0],[1,0,0,0],[p1,p2,-q1,-q2],[0,0,1,0]] 4 1=addD (mulQ [[0,0,0,0],[1,0,0,0],[p1,p2,-q1,-q2],[0,0,1,0]] (flM [[0,0,0,0],[1,0,0,0],[p1,p2,-q1,-q2],[0,0,1,0]] 4 0) 4) (cofQ [[0,0,0,0],[1,0,0,0],[p1,p2,-q1,-q2],[0,0,1,0]] 4 0) 4:=rfl
  rw[g0,e0,step4]at h
  rw[h]
  clear h
  simp only[List.cons.injEq,and_true]
  refine ⟨⟨?_,?_,?_,?_⟩,⟨?_,?_,?_,?_⟩,⟨?_,?_,?_,?_⟩,⟨?_,?_,?_,?_⟩⟩<;>grind
 have k1:=cof_inv 2 (by omega) (trQ (mulQ [[0,0,0,0],[1,0,0,0],[p1,p2,-q1,-q2],[0,0,1,0]] (flM [[0,0,0,0],[1,0,0,0],[p1,p2,-q1,-q2],[0,0,1,0]] 4 1) 4) 4)
 rw[show trQ (mulQ [[0,0,0,0],[1,0,0,0],[p1,p2,-q1,-q2],[0,0,1,0]] (flM [[0,0,0,0],[1,0,0,0],[p1,p2,-q1,-q2],[0,0,1,0]] 4 1) 4) 4*Rat.divInt (-1) ((2:Nat):Int)=cofQ [[0,0,0,0],[1,0,0,0],[p1,p2,-q1,-q2],[0,0,1,0]] 4 1 from rfl,g1,tr4]at k1
 have e1:cofQ [[0,0,0,0],[1,0,0,0],[p1,p2,-q1,-q2],[0,0,1,0]] 4 1=q2:=by grind
 have g2:flM [[0,0,0,0],[1,0,0,0],[p1,p2,-q1,-q2],[0,0,1,0]] 4 2=[[q2,0,0,0],[q1,q2,0,0],[p2,0,0,0],[p1,p2,0,0]]:=by
  have h:flM [[0,0,0,0],[1,0,0,0],[p1,p2,-q1,-q2],[0,0,1,0]] 4 2=addD (mulQ [[0,0,0,0],[1,0,0,0],[p1,p2,-q1,-q2],[0,0,1,0]] (flM [[0,0,0,0],[1,0,0,0],[p1,p2,-q1,-q2],[0,0,1,0]] 4 1) 4) (cofQ [[0,0,0,0],[1,0,0,0],[p1,p2,-q1,-q2],[0,0,1,0]] 4 1) 4:=rfl
  rw[g1,e1,step4]at h
  rw[h]
  clear h
  simp only[List.cons.injEq,and_true]
  refine ⟨⟨?_,?_,?_,?_⟩,⟨?_,?_,?_,?_⟩,⟨?_,?_,?_,?_⟩,⟨?_,?_,?_,?_⟩⟩<;>grind
 have k2:=cof_inv 3 (by omega) (trQ (mulQ [[0,0,0,0],[1,0,0,0],[p1,p2,-q1,-q2],[0,0,1,0]] (flM [[0,0,0,0],[1,0,0,0],[p1,p2,-q1,-q2],[0,0,1,0]] 4 2) 4) 4)
 rw[show trQ (mulQ [[0,0,0,0],[1,0,0,0],[p1,p2,-q1,-q2],[0,0,1,0]] (flM [[0,0,0,0],[1,0,0,0],[p1,p2,-q1,-q2],[0,0,1,0]] 4 2) 4) 4*Rat.divInt (-1) ((3:Nat):Int)=cofQ [[0,0,0,0],[1,0,0,0],[p1,p2,-q1,-q2],[0,0,1,0]] 4 2 from rfl,g2,tr4]at k2
 have e2:cofQ [[0,0,0,0],[1,0,0,0],[p1,p2,-q1,-q2],[0,0,1,0]] 4 2=0:=by grind
 have g3:flM [[0,0,0,0],[1,0,0,0],[p1,p2,-q1,-q2],[0,0,1,0]] 4 3=[[0,0,0,0],[q2,0,0,0],[0,0,0,0],[p2,0,0,0]]:=by
  have h:flM [[0,0,0,0],[1,0,0,0],[p1,p2,-q1,-q2],[0,0,1,0]] 4 3=addD (mulQ [[0,0,0,0],[1,0,0,0],[p1,p2,-q1,-q2],[0,0,1,0]] (flM [[0,0,0,0],[1,0,0,0],[p1,p2,-q1,-q2],[0,0,1,0]] 4 2) 4) (cofQ [[0,0,0,0],[1,0,0,0],[p1,p2,-q1,-q2],[0,0,1,0]] 4 2) 4:=rfl
  rw[g2,e2,step4]at h
  rw[h]
  clear h
  simp only[List.cons.injEq,and_true]
  refine ⟨⟨?_,?_,?_,?_⟩,⟨?_,?_,?_,?_⟩,⟨?_,?_,?_,?_⟩,⟨?_,?_,?_,?_⟩⟩<;>grind
 have k3:=cof_inv 4 (by omega) (trQ (mulQ [[0,0,0,0],[1,0,0,0],[p1,p2,-q1,-q2],[0,0,1,0]] (flM [[0,0,0,0],[1,0,0,0],[p1,p2,-q1,-q2],[0,0,1,0]] 4 3) 4) 4)
 rw[show trQ (mulQ [[0,0,0,0],[1,0,0,0],[p1,p2,-q1,-q2],[0,0,1,0]] (flM [[0,0,0,0],[1,0,0,0],[p1,p2,-q1,-q2],[0,0,1,0]] 4 3) 4) 4*Rat.divInt (-1) ((4:Nat):Int)=cofQ [[0,0,0,0],[1,0,0,0],[p1,p2,-q1,-q2],[0,0,1,0]] 4 3 from rfl,g3,tr4]at k3
 have e3:cofQ [[0,0,0,0],[1,0,0,0],[p1,p2,-q1,-q2],[0,0,1,0]] 4 3=0:=by grind
 exact ⟨g0,g1,g2,g3,e0,e1,e2,e3⟩
theorem one_tf32 (p0 p1 p2 q1 q2:Rat):tfA ⟨[[0,0,0,0],[1,0,0,0],[p1,p2,-q1,-q2],[0,0,1,0]],[1,0,p0,0],[p1,p2,-q1,-q2],p0⟩ 4=trimQ (1::[q1,q2])∧tfB ⟨[[0,0,0,0],[1,0,0,0],[p1,p2,-q1,-q2],[0,0,1,0]],[1,0,p0,0],[p1,p2,-q1,-q2],p0⟩ 4=trimQ [p0,p1,p2]:=by
 obtain ⟨m0,m1,m2,m3,c0,c1,c2,c3⟩:=one_fl32 p1 p2 q1 q2
 refine tf_ofU (by simp) (by simp) rfl rfl (fun k hk => ?_) (fun k hk => ?_)
 ·have hk':k=0∨k=1∨k=2∨k=3:=by omega
  rcases hk' with rfl|rfl|rfl|rfl
  ·exact c0
  ·exact c1
  ·exact c2
  ·exact c3
 ·have hk':k=0∨k=1∨k=2∨k=3:=by omega
  rcases hk' with rfl|rfl|rfl|rfl
  ·show dotQ [p1,p2,-q1,-q2] (mvQ (flM [[0,0,0,0],[1,0,0,0],[p1,p2,-q1,-q2],[0,0,1,0]] 4 0) [1,0,p0,0])=[p0,p1,p2].getD (0+1) 0-p0*(1::[q1,q2]:List Rat).getD (0+1) 0
   rw[m0]
   simp [mvQ,dotQ]
   try grind
  ·show dotQ [p1,p2,-q1,-q2] (mvQ (flM [[0,0,0,0],[1,0,0,0],[p1,p2,-q1,-q2],[0,0,1,0]] 4 1) [1,0,p0,0])=[p0,p1,p2].getD (1+1) 0-p0*(1::[q1,q2]:List Rat).getD (1+1) 0
   rw[m1]
   simp [mvQ,dotQ]
   try grind
  ·show dotQ [p1,p2,-q1,-q2] (mvQ (flM [[0,0,0,0],[1,0,0,0],[p1,p2,-q1,-q2],[0,0,1,0]] 4 2) [1,0,p0,0])=[p0,p1,p2].getD (2+1) 0-p0*(1::[q1,q2]:List Rat).getD (2+1) 0
   rw[m2]
   simp [mvQ,dotQ]
   try grind
  ·show dotQ [p1,p2,-q1,-q2] (mvQ (flM [[0,0,0,0],[1,0,0,0],[p1,p2,-q1,-q2],[0,0,1,0]] 4 3) [1,0,p0,0])=[p0,p1,p2].getD (3+1) 0-p0*(1::[q1,q2]:List Rat).getD (3+1) 0
   rw[m3]
   simp [mvQ,dotQ]
   try grind
theorem two_eq (P Q:List Int) (D C:Wd) (u:Rat) (hu:u≠0) (e:((pw C.f:Int):Rat)=u) (hP:1≤P.length∧P.length≤3) (hQ:Q.length≤2):linQ (formTwoS P Q D C)=ctlQ (fracs u P) (1::fracs u Q) (maxN P Q):=by
 rcases P with _|⟨a0,_|⟨a1,_|⟨a2,_|⟨a3,P⟩⟩⟩⟩
 ·simp at hP
 ·rcases Q with _|⟨d1,_|⟨d2,_|⟨d3,Q⟩⟩⟩
  ·exact lin_two10 a0 D C u hu e
  ·exact lin_two11 a0 d1 D C u hu e
  ·exact lin_two12 a0 d1 d2 D C u hu e
  ·simp at hQ
 ·rcases Q with _|⟨d1,_|⟨d2,_|⟨d3,Q⟩⟩⟩
  ·exact lin_two20 a0 a1 D C u hu e
  ·exact lin_two21 a0 a1 d1 D C u hu e
  ·exact lin_two22 a0 a1 d1 d2 D C u hu e
  ·simp at hQ
 ·rcases Q with _|⟨d1,_|⟨d2,_|⟨d3,Q⟩⟩⟩
  ·exact lin_two30 a0 a1 a2 D C u hu e
  ·exact lin_two31 a0 a1 a2 d1 D C u hu e
  ·exact lin_two32 a0 a1 a2 d1 d2 D C u hu e
  ·simp at hQ
 ·simp at hP
theorem tr_eq (P Q:List Int) (D C:Wd) (u:Rat) (hu:u≠0) (e:((pw C.f:Int):Rat)=u) (hP:1≤P.length∧P.length≤3) (hQ:Q.length≤2):linQ (transS P Q D C)=obsQ (fracs u P) (1::fracs u Q) (maxN P Q):=by
 rcases P with _|⟨a0,_|⟨a1,_|⟨a2,_|⟨a3,P⟩⟩⟩⟩
 ·simp at hP
 ·rcases Q with _|⟨d1,_|⟨d2,_|⟨d3,Q⟩⟩⟩
  ·exact lin_tr10 a0 D C u hu e
  ·exact lin_tr11 a0 d1 D C u hu e
  ·exact lin_tr12 a0 d1 d2 D C u hu e
  ·simp at hQ
 ·rcases Q with _|⟨d1,_|⟨d2,_|⟨d3,Q⟩⟩⟩
  ·exact lin_tr20 a0 a1 D C u hu e
  ·exact lin_tr21 a0 a1 d1 D C u hu e
  ·exact lin_tr22 a0 a1 d1 d2 D C u hu e
  ·simp at hQ
 ·rcases Q with _|⟨d1,_|⟨d2,_|⟨d3,Q⟩⟩⟩
  ·exact lin_tr30 a0 a1 a2 D C u hu e
  ·exact lin_tr31 a0 a1 a2 d1 D C u hu e
  ·exact lin_tr32 a0 a1 a2 d1 d2 D C u hu e
  ·simp at hQ
 ·simp at hP
theorem one_good (P Q:List Int) (D C:Wd) (u:Rat) (hu:u≠0) (e:((pw C.f:Int):Rat)=u) (hP:1≤P.length∧P.length≤3) (hQ:Q.length≤2) (bP : ∀ v∈P,Bt 80 ((v:Rat)/u)) (bQ : ∀ v∈Q,Bt 80 ((v:Rat)/u)):(linQ (formOneS P Q D C)).Ok (P.length-1+Q.length) 80∧tfA (linQ (formOneS P Q D C)) (P.length-1+Q.length)=trimQ (1::fracs u Q)∧tfB (linQ (formOneS P Q D C)) (P.length-1+Q.length)=trimQ (fracs u P):=by
 rcases P with _|⟨a0,_|⟨a1,_|⟨a2,_|⟨a3,P⟩⟩⟩⟩
 ·simp at hP
 ·rcases Q with _|⟨d1,_|⟨d2,_|⟨d3,Q⟩⟩⟩
  ·rw[lin_one10 a0 D C u hu e];exact ⟨one_ok10 ((a0:Rat)/u) (bP _ (by simp)),one_tf10 ((a0:Rat)/u)⟩
  ·rw[lin_one11 a0 d1 D C u hu e];exact ⟨one_ok11 ((a0:Rat)/u) ((d1:Rat)/u) (bP _ (by simp)) (bQ _ (by simp)),one_tf11 ((a0:Rat)/u) ((d1:Rat)/u)⟩
  ·rw[lin_one12 a0 d1 d2 D C u hu e];exact ⟨one_ok12 ((a0:Rat)/u) ((d1:Rat)/u) ((d2:Rat)/u) (bP _ (by simp)) (bQ _ (by simp)) (bQ _ (by simp)),one_tf12 ((a0:Rat)/u) ((d1:Rat)/u) ((d2:Rat)/u)⟩
  ·simp at hQ
 ·rcases Q with _|⟨d1,_|⟨d2,_|⟨d3,Q⟩⟩⟩
  ·rw[lin_one20 a0 a1 D C u hu e];exact ⟨one_ok20 ((a0:Rat)/u) ((a1:Rat)/u) (bP _ (by simp)) (bP _ (by simp)),one_tf20 ((a0:Rat)/u) ((a1:Rat)/u)⟩
  ·rw[lin_one21 a0 a1 d1 D C u hu e];exact ⟨one_ok21 ((a0:Rat)/u) ((a1:Rat)/u) ((d1:Rat)/u) (bP _ (by simp)) (bP _ (by simp)) (bQ _ (by simp)),one_tf21 ((a0:Rat)/u) ((a1:Rat)/u) ((d1:Rat)/u)⟩
  ·rw[lin_one22 a0 a1 d1 d2 D C u hu e];exact ⟨one_ok22 ((a0:Rat)/u) ((a1:Rat)/u) ((d1:Rat)/u) ((d2:Rat)/u) (bP _ (by simp)) (bP _ (by simp)) (bQ _ (by simp)) (bQ _ (by simp)),one_tf22 ((a0:Rat)/u) ((a1:Rat)/u) ((d1:Rat)/u) ((d2:Rat)/u)⟩
  ·simp at hQ
 ·rcases Q with _|⟨d1,_|⟨d2,_|⟨d3,Q⟩⟩⟩
  ·rw[lin_one30 a0 a1 a2 D C u hu e];exact ⟨one_ok30 ((a0:Rat)/u) ((a1:Rat)/u) ((a2:Rat)/u) (bP _ (by simp)) (bP _ (by simp)) (bP _ (by simp)),one_tf30 ((a0:Rat)/u) ((a1:Rat)/u) ((a2:Rat)/u)⟩
  ·rw[lin_one31 a0 a1 a2 d1 D C u hu e];exact ⟨one_ok31 ((a0:Rat)/u) ((a1:Rat)/u) ((a2:Rat)/u) ((d1:Rat)/u) (bP _ (by simp)) (bP _ (by simp)) (bP _ (by simp)) (bQ _ (by simp)),one_tf31 ((a0:Rat)/u) ((a1:Rat)/u) ((a2:Rat)/u) ((d1:Rat)/u)⟩
  ·rw[lin_one32 a0 a1 a2 d1 d2 D C u hu e];exact ⟨one_ok32 ((a0:Rat)/u) ((a1:Rat)/u) ((a2:Rat)/u) ((d1:Rat)/u) ((d2:Rat)/u) (bP _ (by simp)) (bP _ (by simp)) (bP _ (by simp)) (bQ _ (by simp)) (bQ _ (by simp)),one_tf32 ((a0:Rat)/u) ((a1:Rat)/u) ((a2:Rat)/u) ((d1:Rat)/u) ((d2:Rat)/u)⟩
  ·simp at hQ
 ·simp at hP
theorem ctl_okK {B A:List Rat} {n k:Nat} (hB:Bs k B) (hA:Bs k A) (hk:3*k+1≤80):(ctlQ B A n).Ok n 80:=by
 have gb : ∀ {l:List Rat} (i:Nat),Bs k l→Bt k (l.getD i 0):=fun {l} i h=>by
  rw[List.getD_eq_getElem?_getD]
  cases e:l[i]? with
  | none=>exact Bt.zero k
  | some x=>exact h.at e
 have hu : ∀ j,Bs 80 (unitL n j):=fun j x hx=>by
  simp only[unitL,List.mem_map]at hx
  obtain ⟨i,_,rfl⟩:=hx
  split
  ·exact Bt.one _
  ·exact Bt.zero _
 refine ⟨by simp [ctlQ],?_,unitL_len _ _,by simp [ctlQ],?_,hu 0,?_,(gb 0 hB).le (by omega)⟩
 ·intro r hr
  simp only[ctlQ,List.mem_map]at hr
  obtain ⟨i,_,rfl⟩:=hr
  split
  ·simp
  ·exact unitL_len _ _
 ·intro r hr
  simp only[ctlQ,List.mem_map]at hr
  obtain ⟨i,_,rfl⟩:=hr
  split
  ·intro x hx
   obtain ⟨j,_,rfl⟩:=List.mem_map.1 hx
   exact (gb _ hA).neg0.le (by omega)
  ·exact hu _
 ·intro x hx
  simp only[ctlQ,List.mem_map]at hx
  obtain ⟨i,_,rfl⟩:=hx
  rw[Rat.sub_eq_add_neg]
  exact ((gb _ hB).add ((gb 0 hB).mul (gb _ hA)).neg0).le (by omega)
theorem obs_okK {B A:List Rat} {n:Nat} (h:(ctlQ B A n).Ok n 80):(obsQ B A n).Ok n 80:=by
 refine ⟨by simp [obsQ],?_,h.lc,h.lb,?_,h.bc,h.bb,h.bd⟩
 ·intro r hr
  simp only[obsQ,List.mem_map]at hr
  obtain ⟨i,_,rfl⟩:=hr
  simp [colQ,ctlQ]
 ·intro r hr
  simp only[obsQ,List.mem_map]at hr
  obtain ⟨i,_,rfl⟩:=hr
  intro x hx
  simp only[colQ,List.mem_map]at hx
  obtain ⟨r,hr,rfl⟩:=hx
  rw[List.getD_eq_getElem?_getD]
  cases e:r[i]? with
  | none=>exact Bt.zero _
  | some x=>exact (h.ba r hr).at e
end Go.Eng

namespace Go.Eng
open F
attribute [local irreducible] AKM CmpP Req OpP UnP ConvP RdP LdR StR MkR LenP AppR AppN CpyR RowP SnR Bds SlS CallP CalP FinP pw LdM GetM SetM PutM MkM AppM SnM FlP CallR
set_option maxHeartbeats 4000000
variable {L:Lib}
def wrongD (b a:List Int) (d c:Wd):Int:=if WV d∧WV c then (if b.length=0∨49<b.length∨8<a.length then 12 else if wordsB c b&&(wordsB c a&&wordsB c (a.map (- ·))) then 0 else 17) else 2
def pmB (c:Wd) (l:List Int):Bool:=l.all fun v=>decide (FT c v)&&decide (FT c (-v))
theorem pmB_eq (c:Wd) : ∀ l:List Int,pmB c l=(wordsB c l&&wordsB c (l.map (- ·)))
 | []=>rfl
 | v::l=>by
  have ih:=pmB_eq c l
  simp only[pmB,wordsB,List.all_cons,List.map_cons]at ih ⊢
  rw[ih]
  cases decide (FT c v)<;>cases decide (FT c (-v))<;>simp
theorem FT_neg_rng {c:Wd} {v:Int} (h:FT c v) : -9223372036854775808 ≤ -v ∧ -v≤9223372036854775807:=by
 obtain ⟨hw,e1,e2⟩:=h
 obtain ⟨h1,h2,h3,h4⟩:=low_high hw
 omega
theorem ev_wrongG (I:FixedLib L) (D:DirectGLib L) (b a:List Int) (q1 q2:Bool) (d c:Wd) (hb:b.length<9223372036854775808) (ha:a.length<9223372036854775808) :
  Ev L 46 [.sl q1 (b.map encInt),.sl q2 (a.map encInt),.agg (encW d),.agg (encW c)] (.int .i64 (wrongD b a d c)):=by
 refine Ev.x D.direct_wrong rfl rfl ?_
 by_cases hv:WV d∧WV c
 ·by_cases hl:b.length=0∨49<b.length∨8<a.length
  ·have hw:wrongD b a d c=12:=by rw[wrongD,if_pos hv,if_pos hl]
   rw[hw]
   (repeat' (first|(refine CmpP.go (fun hc => ?_) (fun hc => ?_)<;>first|(exfalso;omega)|(conv=>whnf))|(refine LenP.go ?_;conv=>whnf)|(refine AKM.x ?_;conv=>whnf)|(refine CallP.b (ev_fixed_Valid ⟨_,_,_,_⟩ I) (fun hf => ?_) (fun hf => ?_)<;>(conv=>whnf))))
   all_goals first|exact FinP.i rfl|(exfalso;omega)|exact absurd hv.1 (by assumption)|exact absurd hv.2 (by assumption)
  ·have hw:wrongD b a d c=if wordsB c b&&pmB c a then 0 else 17:=by rw[wrongD,if_pos hv,if_neg hl,pmB_eq]
   rw[hw]
   (repeat' (first|(refine CmpP.go (fun hc => ?_) (fun hc => ?_)<;>first|(exfalso;omega)|(conv=>whnf))|(refine LenP.go ?_;conv=>whnf)|(refine AKM.x ?_;conv=>whnf)|(refine CallP.b (ev_fixed_Valid ⟨_,_,_,_⟩ I) (fun hf => ?_) (fun hf => ?_)<;>(conv=>whnf))))
   all_goals try exact absurd hv.1 (by assumption)
   all_goals try exact absurd hv.2 (by assumption)
   all_goals try (exfalso;omega)
   refine AKM.loop1 (fun i=>b.length-i) (fun (i:Nat)=>i≤b.length∧wordsB c (b.drop i)=wordsB c b) (fun i=>[(36,.int .i64 i)]) (fun _=>[]) [] [] 0 (by (conv=>whnf);exact ⟨rfl,rfl,rfl⟩) ⟨by omega,rfl⟩ ?_
   intro i ⟨p1,p2⟩ ih
   (repeat' (first|(refine CmpP.go (fun hc => ?_) (fun hc => ?_)<;>first|(exfalso;omega)|(conv=>whnf))|(refine OpP.add ?_ ?_;omega;conv=>whnf)|(refine LenP.go ?_;conv=>whnf)|(refine RdP.nat ?_ (fun _=>rfl) (fun e he => ?_);omega;conv=>whnf)|(refine AKM.x ?_;conv=>whnf)|(refine CallP.b (ev_fixed_Fits ⟨_,_,_,_⟩ I _) (fun hf => ?_) (fun hf => ?_)<;>(conv=>whnf))))
   ·rw[drop_cons he,wordsB,List.all_cons,decide_eq_true hf,Bool.true_and]at p2
    exact AKM.back [] (by (conv=>whnf);exact ⟨rfl,rfl,rfl⟩) (ih (i+1) (by omega) ⟨by omega,p2⟩)
   ·rw[drop_cons he,wordsB,List.all_cons,decide_eq_false hf,Bool.false_and]at p2
    exact FinP.i (by rw[←p2];simp)
   ·rw[drop_len (by omega)]at p2
    rw[←p2,show wordsB c []=true from rfl,Bool.true_and]
    refine AKM.loop1 (fun i=>a.length-i) (fun (i:Nat)=>i≤a.length∧pmB c (a.drop i)=pmB c a) (fun i=>[(47,.int .i64 i)]) (fun _=>[]) [] [] 0 (by (conv=>whnf);exact ⟨rfl,rfl,rfl⟩) ⟨by omega,rfl⟩ ?_
    intro j ⟨r1,r2⟩ ih2
    (repeat' (first|(refine CmpP.go (fun hc => ?_) (fun hc => ?_)<;>first|(exfalso;omega)|(conv=>whnf))|(refine RdP.nat ?_ (fun _=>rfl) (fun e he => ?_);omega;conv=>whnf)|(refine AKM.x ?_;conv=>whnf)|(refine CallP.b (ev_fixed_Fits ⟨_,_,_,_⟩ I _) (fun hf => ?_) (fun hf => ?_)<;>(conv=>whnf))))
    ·have hfe:=FT_neg_rng hf
     have hf0:=hf
     (repeat' (first|(refine OpP.add ?_ ?_;omega;conv=>whnf)|(refine UnP.neg ?_ ?_;omega;conv=>whnf)|(refine CallP.b (ev_fixed_Fits ⟨_,_,_,_⟩ I _) (fun hf => ?_) (fun hf => ?_)<;>(conv=>whnf))))
     ·rw[drop_cons he,pmB,List.all_cons,decide_eq_true hf0,decide_eq_true hf,Bool.true_and,Bool.true_and]at r2
      exact AKM.back [] (by (conv=>whnf);exact ⟨rfl,rfl,rfl⟩) (ih2 (j+1) (by omega) ⟨by omega,r2⟩)
     ·rw[drop_cons he,pmB,List.all_cons,decide_eq_true hf0,decide_eq_false hf,Bool.and_false,Bool.false_and]at r2
      exact FinP.i (by rw[←r2];rfl)
    ·rw[drop_cons he,pmB,List.all_cons,decide_eq_false hf,Bool.false_and,Bool.false_and]at r2
     exact FinP.i (by rw[←r2];rfl)
    ·rw[drop_len (by omega)]at r2
     exact FinP.i (by rw[←r2];rfl)
 ·have hw:wrongD b a d c=2:=by rw[wrongD,if_neg hv]
  rw[hw]
  by_cases hd:WV d
  ·have hcw : ¬ WV c:=fun h=>hv ⟨hd,h⟩
   (repeat' (first|(refine CmpP.go (fun hc => ?_) (fun hc => ?_)<;>first|(exfalso;omega)|(conv=>whnf))|(refine LenP.go ?_;conv=>whnf)|(refine AKM.x ?_;conv=>whnf)|(refine CallP.b (ev_fixed_Valid ⟨_,_,_,_⟩ I) (fun hf => ?_) (fun hf => ?_)<;>(conv=>whnf))))
   all_goals first|exact FinP.i rfl|(exfalso;first|exact absurd hd (by assumption)|exact hcw (by assumption))
  ·(repeat' (first|(refine CmpP.go (fun hc => ?_) (fun hc => ?_)<;>first|(exfalso;omega)|(conv=>whnf))|(refine LenP.go ?_;conv=>whnf)|(refine AKM.x ?_;conv=>whnf)|(refine CallP.b (ev_fixed_Valid ⟨_,_,_,_⟩ I) (fun hf => ?_) (fun hf => ?_)<;>(conv=>whnf))))
   all_goals first|exact FinP.i rfl|exact absurd (by assumption) hd
theorem ev_Value (I:FixedLib L) (N:BldGLib L) (c:Wd) (v:Int) (hc:WV c) (hv:InI v):Ev L 175 [.agg (encW c),.int .i64 v] (.agg (eQ (Rat.divInt v (pw c.f)))):=by
 have hV:=ev_fixed_Valid c I
 rw[decide_eq_true hc]at hV
 have hc':=hc
 unfold WV at hc'
 have h1:=pw_pos c.f
 have h2:=pw_le62 (n:=c.f) (by omega)
 unfold InI at hv
 have hF:=ev_FracQ N.toRatHLib v (pw c.f) hv (by omega) (by omega)
 refine Ev.x N.fixed_Value rfl rfl ?_
 (repeat' (first|(refine OpP.shl1 ?_ (fun _ _ => ?_);omega;conv=>whnf)|(refine AKM.x ?_;conv=>whnf)|(refine CallP.go (hV) ?_;conv=>whnf)|(refine CallP.go (hF) ?_;conv=>whnf)))
 exact FinP.go rfl (cl_eQ _)
end Go.Eng

namespace Go.Eng
open F
attribute [local irreducible] AKM CmpP Req OpP UnP ConvP RdP LdR StR MkR LenP AppR AppN CpyR RowP SnR Bds SlS CallP CalP FinP pw LdM GetM SetM PutM MkM AppM SnM FlP CallR
set_option maxHeartbeats 4000000
variable {L:Lib}
variable (b a:List Int) (d c:Wd)
structure OkD:Prop where
 hd:WV d
 hc:WV c
 l1:1≤b.length∧b.length≤49
 l2:a.length≤8
 wb : ∀ v∈b,FT c v
 wa : ∀ v∈a,FT c v∧FT c (-v)
theorem okD_of (h:wrongD b a d c=0):OkD b a d c:=by
 unfold wrongD at h
 split at h
 ·rename_i h1
  split at h
  ·cases h
  ·split at h
   ·rename_i h2 h3
    simp only[Bool.and_eq_true,wordsB,List.all_eq_true,decide_eq_true_eq]at h3
    exact ⟨h1.1,h1.2,by omega,by omega,h3.1,fun v hv=>⟨h3.2.1 v hv,h3.2.2 (-v) (List.mem_map_of_mem hv)⟩⟩
   ·cases h
 ·cases h
variable {b a d c}
end Go.Eng
