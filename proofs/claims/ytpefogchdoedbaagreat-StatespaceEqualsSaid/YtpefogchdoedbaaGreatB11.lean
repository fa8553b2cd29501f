/-
  Transfer functions of systems: the program.
-/
import Derived.Test.YtpefogchdoedbaaGreatB10
import Derived.Test.YtpefogchdoedbaaGreatB8
import Derived.Test.YtpefogchdoedbaaGreatB9
import Derived.Test.YtpefogchdoedbaaGreatB4
import Derived.Test.YtpefogchdoedbaaGreatB3
import Derived.Test.YtpefogchdoedbaaGreatB5
import Derived.ProofKit
import Derived.OpenShut
import Derived.ChangeOld
import Derived.WalkKit
import Derived.WideShapes
import Derived.ChangeArms
import Derived.Test.YtpefogchdoedbaaGreatB1
set_option linter.unusedSimpArgs false
set_option linter.unusedVariables false
set_option linter.unnecessarySimpa false
namespace Go.Eng
open F
attribute [local irreducible] AA AF AR AD B0 AU AX A8 A6 BN AP BK BV CN BI AZ BG BQ AB A7 AJ pw BH BF B9 B8 CI B7 CB BM B3
set_option maxHeartbeats 16000000
variable {L:Lib}
def CJ (S:B4) (n:Nat):List Rat:=B5 (CX S.a n n)
def DM (S:B4) (n:Nat):List Rat:=B5 (G3 (ES S n n) (B5 ((CX S.a n n).map (· * S.d))))
def JF (n i:Nat):List (List Rat):=(List.range n).map fun r:Nat=>if r<i then EM n r else List.replicate n 0
theorem mL (n i:Nat):(JF n i).length=n:=by simp [JF]
theorem Aco (n:Nat):JF n 0=List.replicate n (List.replicate n 0):=by
 refine List.ext_getElem? fun r => ?_
 simp only[JF,List.getElem?_map,List.getElem?_replicate]
 by_cases h:r<n
 ·rw[List.getElem?_range h,if_pos h];simp
 ·rw[List.getElem?_eq_none (by simp;omega),if_neg h];rfl
theorem Acm (n:Nat):JF n n=EI n:=by
 refine List.map_congr_left fun r hr => ?_
 rw[if_pos (List.mem_range.1 hr)]
theorem Acl {n i:Nat} (h:i<n):(JF n i)[i]? = some (List.replicate n 0):=by
 simp only[JF,List.getElem?_map,List.getElem?_range h,Option.map_some,Nat.lt_irrefl,if_false]
theorem Acn {n i:Nat} (h:i<n):(JF n i).set i ((List.replicate n 0).set i 1)=JF n (i+1):=by
 refine List.ext_getElem? fun r => ?_
 rw[List.getElem?_set,mL,SW]
 simp only[JF,List.getElem?_map]
 by_cases hr:r<n
 ·rw[List.getElem?_range hr]
  by_cases e:i=r
  ·subst e;simp [h]
  ·simp only[e,if_false,Option.map_some]
   by_cases h3:r<i
   ·rw[if_pos h3,if_pos (by omega)]
   ·rw[if_neg h3,if_neg (by omega)]
 ·rw[List.getElem?_eq_none (by simp;omega)]
  simp;omega
def cf (l:List Rat) (prev:List (Option Rat)) (i:Nat):List (Option Rat):=(l.take i).map some++prev.drop i
theorem xF {l:List Rat} {prev:List (Option Rat)} {i n:Nat} (hl:l.length=n) (hp:prev.length=n) (hi:i<=n):(cf l prev i).length=n:=by
 simp [cf];omega
theorem xH (l:List Rat) (prev:List (Option Rat)):cf l prev 0=prev:=by simp [cf]
theorem xD {l:List Rat} {prev:List (Option Rat)} {n:Nat} (hl:l.length=n) (hp:prev.length=n):cf l prev n=l.map some:=by
 rw[cf,List.take_of_length_le (by omega),List.drop_of_length_le (by omega),List.append_nil]
theorem xG {l:List Rat} {prev:List (Option Rat)} {i n:Nat} {x:Rat} (hp:prev.length=n) (hx:l[i]? = some x) (hi:i<n):(cf l prev i).set i (some x)=cf l prev (i+1):=by
 have hli:=(zS hx).1
 have htl:((l.take i).map some).length=i:=by rw[List.length_map,List.length_take];omega
 obtain ⟨y,hy⟩ : ∃ y,prev[i]? = some y:=⟨_,zE (by omega)⟩
 obtain ⟨hi2,he2⟩:=zS hy
 rw[cf,List.set_append_right _ _ (by omega),htl,Nat.sub_self,List.drop_eq_getElem_cons hi2,List.set_cons_zero,cf,OX hx,List.map_append]
 simp
theorem nH (l:List Rat):(l.map some).map eO=l.map eQ:=by simp [Function.comp_def]
def ot (P:List (List Rat)) (n j i:Nat):List (List (Option Rat)):=(List.range P.length).map fun r=>EH ((P.getD r []).take (if r<i then j+1 else j)) n
theorem UT (P:List (List Rat)) (n j i:Nat):(ot P n j i).length=P.length:=by simp [ot]
theorem lZ {P:List (List Rat)} {i:Nat} {row:List Rat} (h:P[i]? = some row):P.getD i []=row:=by rw[List.getD_eq_getElem?_getD,h];rfl
theorem XF {P:List (List Rat)} {n j i r:Nat} {row:List Rat} (h:P[r]? = some row):(ot P n j i)[r]? = some (EH (row.take (if r<i then j+1 else j)) n):=by
 have h1:=(zS h).1
 simp only[ot,List.getElem?_map,List.getElem?_range h1,Option.map_some,lZ h]
theorem AfO {P:List (List Rat)} {n j i:Nat} {row:List Rat} (h:P[i]? = some row):(ot P n j i).set i (EH (row.take (j+1)) n)=ot P n j (i+1):=by
 refine List.ext_getElem? fun r => ?_
 rw[List.getElem?_set,UT]
 cases e:P[r]? with
 | none =>
  have h1:=List.getElem?_eq_none_iff.1 e
  have h2:=(zS h).1
  rw[List.getElem?_eq_none (by rw[UT];exact h1),if_neg (by omega),List.getElem?_eq_none (by rw[UT];exact h1)]
 | some rw' =>
  rw[XF e,XF e]
  by_cases hi:i=r
  ·subst hi
   obtain rfl:=Option.some.inj (h.symm.trans e)
   have h2:=(zS h).1
   rw[if_pos rfl,if_pos h2,if_pos (by omega)]
  ·rw[if_neg hi]
   by_cases h3:r<i
   ·rw[if_pos h3,if_pos (by omega)]
   ·rw[if_neg h3,if_neg (by omega)]
theorem AfN (P:List (List Rat)) (n j:Nat):ot P n j P.length=ot P n (j+1) 0:=by
 refine List.map_congr_left fun r hr => ?_
 rw[if_pos (List.mem_range.1 hr),if_neg (by omega)]
theorem AfP (P:List (List Rat)) (n:Nat):ot P n 0 0=List.replicate P.length (EH [] n):=by
 refine List.ext_getElem? fun r => ?_
 simp only[ot,List.getElem?_map,List.getElem?_replicate]
 by_cases h:r<P.length
 ·rw[List.getElem?_range h,if_pos h];simp
 ·rw[List.getElem?_eq_none (by simp;omega),if_neg h];rfl
theorem AfM {P:List (List Rat)} {n:Nat} (h : ∀ r∈P,r.length=n):B6 3 eO (ot P n n 0)=B6 3 eQ P:=by
 refine List.ext_getElem? fun r => ?_
 simp only[B6,List.getElem?_map]
 cases e:P[r]? with
 | none=>rw[List.getElem?_eq_none (by rw[UT];exact List.getElem?_eq_none_iff.1 e)];rfl
 | some row =>
  have hl:=h row (zM e)
  rw[XF e,if_neg (by omega),List.take_of_length_le (by omega)]
  simp only[Option.map_some,IR hl]
theorem ZU (N:TrGLib L) (S:B4) (n:Nat) (h:S.Ok n 80) (hn:n<=4):Ev L 189 [.agg (eS S)] (.tup [.agg [.sl false ((DM S n).map eQ),.sl false ((CJ S n).map eQ)],.int .i64 0]):=by
 have hSd:=WR N.toSysGLib S n 80 h (by omega)
 have hO:=JE N.toRatGLib 0 (by omega)
 have hI:=JE N.toRatGLib 1 (by omega)
 have hla:=h.la
 subst hla
 refine Ev.x N.J5 rfl rfl ?_
 (repeat' (first|(refine AG (fun hc => ?_) (fun hc => ?_)<;>first|(exfalso;omega)|(conv=>whnf))|(refine AW ?_;conv=>whnf)|(refine AE ?_;conv=>whnf)|(refine AC (hSd) ?_;conv=>whnf)|(refine AC (hO) ?_;conv=>whnf)|(refine AC (hI) ?_;conv=>whnf)))
 refine E7 1000 N.J8 rfl rfl ?_
 (repeat' (refine AE ?_;conv=>whnf))
 unfold CI
 refine ⟨⟨by omega,by omega,by simp only[EJ];omega,by omega⟩,?_⟩
 rw[Int.toNat_natCast]
 (conv=>whnf)
 have hZ:=AbK N.toSysGLib S.a.length (by omega)
 refine NM (enc:=eQ) S.a.length hZ (by simp) ?_
 (conv=>whnf)
 refine NM (enc:=eQ) S.a.length hZ (by simp) ?_
 (conv=>whnf)
 (repeat' (refine AC (hO) ?_;conv=>whnf))
 generalize hm:S.a.length=m at *
 refine CE (fun t=>m-t) (fun (t:Nat)=>t<=m) (fun t=>[(16,.int .i64 t)]) (fun t=>[(145006,145006,.mx (List.replicate t (some (3,(List.replicate m (0:Rat)).map eQ))++List.replicate (m-t) none))]) [] [] 0 (by (conv=>whnf);exact ⟨rfl,rfl,rfl⟩) (by omega) ?_
 intro t p4 th
 by_cases ht:t<m
 ·(repeat' (first|(refine AG (fun hc => ?_) (fun hc => ?_)<;>first|(exfalso;omega)|(conv=>whnf))|(refine AE ?_;conv=>whnf)))
  refine NM (enc:=eQ) m hZ (by simp) ?_
  (conv=>whnf)
  (repeat' (first|(refine A3 ?_ ?_;omega;conv=>whnf)|fail))
  unfold AR B9
  refine ⟨by simp,by simp;omega,?_⟩
  (conv=>whnf)
  rw[show 0+((t:Int)).toNat=t by omega,lO _ _ p4 ht]
  (repeat' (refine A0 ?_ ?_;omega;conv=>whnf))
  exact A4 [] (by (conv=>whnf);exact ⟨rfl,rfl,rfl⟩) (th (t+1) (by omega) (by omega))
 obtain rfl:t=m:=by omega
 clear th
 rw[show List.replicate t (some (3,List.map eQ (List.replicate t 0)))++List.replicate (t-t) none=B6 3 eQ (JF t 0) by rw[Aco];simp [B6]]
 (repeat' (first|(refine AG (fun hc => ?_) (fun hc => ?_)<;>first|(exfalso;omega)|(conv=>whnf))|(refine AE ?_;conv=>whnf)))
 refine ⟨rfl,?_⟩
 (conv=>whnf)
 skip
 refine CE (fun i=>t-i) (fun (i:Nat)=>i<=t) (fun i=>[(34,.int .i64 i)]) (fun i=>[(145006,145006,.mx (B6 3 eQ (JF t i)))]) [] [] 0 (by (conv=>whnf);exact ⟨rfl,rfl,rfl⟩) (by omega) ?_
 intro i p1 ih
 by_cases hi:i<t
 ·have hat:=Acl hi
  have hst:=Acn hi
  have hil:=mL t i
  generalize JF t i=I0 at *
  (repeat' (first|(refine AG (fun hc => ?_) (fun hc => ?_)<;>first|(exfalso;omega)|(conv=>whnf))|(refine A3 ?_ ?_;omega;conv=>whnf)|(refine FY ?_ (fun r hr => ?_);omega;conv=>whnf)|(refine AE ?_;conv=>whnf)|(refine AC (hI) ?_;conv=>whnf)))
  cases hat.symm.trans hr
  refine A3 (by rw[List.length_map,List.length_replicate];omega) ?_
  (conv=>whnf)
  (repeat' (refine GE (by assumption) ?_;conv=>whnf))
  refine E9 (enc:=eQ) 1 rfl (fun _=>rfl) (by rw[List.length_replicate];omega) ?_
  (conv=>whnf)
  refine YN (by rw[List.length_set]) ?_
  rw[hst]
  (conv=>whnf)
  (repeat' (refine A0 ?_ ?_;omega;conv=>whnf))
  exact A4 [] (by (conv=>whnf);exact ⟨rfl,rfl,rfl⟩) (ih (i+1) (by omega) (by omega))
 obtain rfl:i=t:=by omega
 clear ih
 rw[Acm]
 rw[show ([[AV.bool (decide (((1:Int):Rat).num<0)),AV.sl false ((dg ((1:Int):Rat).num.natAbs).map AM),AV.sl false ((dg ((1:Int):Rat).den).map AM)]]:List (List AV))=(CX S.a i 0).map eQ from rfl,
  show ([[AV.bool (decide (((0:Int):Rat).num<0)),AV.sl false ((dg ((0:Int):Rat).num.natAbs).map AM),AV.sl false ((dg ((0:Int):Rat).den).map AM)]]:List (List AV))=(ES S i 0).map eQ from rfl]
 (repeat' (first|(refine AG (fun hc => ?_) (fun hc => ?_)<;>first|(exfalso;omega)|(conv=>whnf))|(refine AE ?_;conv=>whnf)))
 have hsq:Sq i S.a:=⟨hm,h.lr⟩
 refine eA [145002,145003] ?_
 refine HG (fun k _=>i-k) (fun (k _:Nat)=>k<=i) (fun k _=>[(9,.int .i64 ((k+1:Nat):Int)),(5,.row 27 0 3 0 (k+1)),(6,.row 29 0 3 0 (k+1)),(7,.row 145006 0 1 0 i)]) (fun k t=>[(27,27,.rw 3 ((CX S.a i k).map eQ)),(29,29,.rw 3 ((ES S i k).map eQ)),(145006,t,.mx (B6 3 eQ (BX S.a i k)))]) [] [] 0 145006 (by (conv=>whnf);exact ⟨rfl,rfl,rfl⟩) (by omega) ?_
 intro k t p2 kh
 by_cases hk:k<i
 ·obtain ⟨b1,b2,b3⟩:=Ms.fl hsq h.ba hn k (by omega)
  have hKk:=aE k (by omega)
  have hMs:=Sq.fl (a:=S.a) hm k
  have hMl:=hMs.l
  have hfl:BX S.a i (k+1)=addD (CD S.a (BX S.a i k) i) (DF S.a i k) i:=rfl
  have hcf:DF S.a i k=D6 (CD S.a (BX S.a i k) i) i*Rat.divInt (-1) ((k+1:Nat):Int):=rfl
  have hab:=wI S i k
  have hbe:=wW S.a i k
  have hal:=RM S i k
  have hbl:=RO S.a i k
  have hPs:=Sq.mul hm (BX S.a i k)
  generalize BX S.a i k=Mk at *
  generalize DF S.a i k=ck at *
  generalize ES S i k=ab at *
  generalize CX S.a i k=be at *
  generalize FS k=fk at *
  (repeat' (first|(refine AG (fun hc => ?_) (fun hc => ?_)<;>first|(exfalso;omega)|(conv=>whnf))|(refine AE ?_;conv=>whnf)))
  refine EB (enc:=eO) none i rfl rfl (by omega) ?_
  (conv=>whnf)
  skip
  have himl:=QS Mk S.b
  have himg : ∀ (j:Nat) row,Mk[j]? = some row->(BZ Mk S.b)[j]? = some (BC row S.b):=fun j row hr=>by rw[BZ,List.getElem?_map,hr];rfl
  have himb:Bs (4*(fk+81)) (BZ Mk S.b):=by
   intro x hx
   obtain ⟨r,hr,rfl⟩:=List.mem_map.1 hx
   refine ((b1 r hr).dot h.bb).le ?_
   rw[hMs.r r hr]
   exact Nat.mul_le_mul hn (by omega)
  refine CE (fun j=>i-j) (fun (j:Nat)=>j<=i) (fun j=>[(53,.int .i64 j)]) (fun j=>[(51,51,.rw 3 ((EH ((BZ Mk S.b).take j) i).map eO))]) [] [] 0 (by first|exact (by (conv=>whnf);exact ⟨rfl,rfl,rfl⟩)|(rw[List.take_zero,<-IU];exact (by (conv=>whnf);exact ⟨rfl,rfl,rfl⟩))) (by omega) ?_
  intro j q1 jh
  by_cases hj:j<i
  ·obtain ⟨row,hrow⟩ : ∃ row,Mk[j]? = some row:=⟨_,zE (by omega)⟩
   have hrl:=hMs.at hrow
   have hy:=himg j row hrow
   have hP:=fun q q'=>T3 N.toSysGLib row S.b q q' fk 80 (by rw[hrl,h.lb]) (b1.at hrow) h.bb (by rw[hrl];have:=Nat.mul_le_mul_right (fk+80+1) hn;omega) (by omega)
   have hlf:=H0 (l:=(BZ Mk S.b).take j) (m:=i) (by rw[List.length_take];omega)
   have hst:=IV (l:=(BZ Mk S.b).take j) (m:=i) (x:=BC row S.b) (by rw[List.length_take];omega)
   rw[List.length_take,Nat.min_eq_left (by omega),<-OX hy]at hst
   (repeat' (first|(refine AG (fun hc => ?_) (fun hc => ?_)<;>first|(exfalso;omega)|(conv=>whnf))|(refine A3 ?_ ?_;omega;conv=>whnf)|(refine DE (fun _=>rfl) rfl ?_ ?_;(first|rfl|simp);conv=>whnf)|(refine FY ?_ (fun r hr => ?_);omega;conv=>whnf)|(refine GE (by assumption) ?_;conv=>whnf)|(refine AE ?_;conv=>whnf)))
   cases hrow.symm.trans hr
   (repeat' (first|(refine A3 ?_ ?_;omega;conv=>whnf)|(refine AC (hP _ _) ?_;conv=>whnf)))
   refine E9 (enc:=eO) (some (BC row S.b)) rfl (fun e=>by cases e<;>rfl) (by omega) ?_
   (conv=>whnf)
   (repeat' (refine A0 ?_ ?_;omega;conv=>whnf))
   rw[hst]
   exact A4 [] (by (conv=>whnf);exact ⟨rfl,rfl,rfl⟩) (jh (j+1) (by omega) (by omega))
  obtain rfl:j=i:=by omega
  clear jh
  rw[List.take_of_length_le (by omega),IR (by omega)]
  have hP:=fun q q'=>T3 N.toSysGLib S.c (BZ Mk S.b) q q' 80 (4*(fk+81)) (by rw[h.lc];omega) h.bc himb (by rw[h.lc];have:=Nat.mul_le_mul_right (80+4*(fk+81)+1) hn;omega) (by rw[h.lc];omega)
  generalize BZ Mk S.b=img at *
  generalize BC S.c img=av at *
  (repeat' (first|(refine AG (fun hc => ?_) (fun hc => ?_)<;>first|(exfalso;omega)|(conv=>whnf))|(refine AE ?_;conv=>whnf)))
  refine DE (enc:=eQ) (fun _=>rfl) rfl (by omega) ?_
  (conv=>whnf)
  (repeat' (first|(refine EK ?_;conv=>whnf)|(refine AC (hP _ _) ?_;conv=>whnf)))
  refine E2 (enc:=eQ) av rfl hal.symm rfl (by omega) (by omega) ?_
  rw[<-hab,RM]
  (conv=>whnf)
  skip
  refine E6 1000 N.J7 rfl rfl ?_
  (repeat' (first|(refine AW ?_;conv=>whnf)|(refine AE ?_;conv=>whnf)))
  unfold CI
  refine ⟨⟨by omega,by omega,by simp only[EJ];omega,by omega⟩,?_⟩
  rw[Int.toNat_natCast]
  (conv=>whnf)
  (repeat' (refine AW ?_;conv=>whnf))
  rw[hm]
  refine EB (enc:=eO) none j rfl rfl (by omega) ?_
  (conv=>whnf)
  (repeat' (refine AW ?_;conv=>whnf))
  rw[hm]
  refine CE (fun u=>j-u) (fun (u:Nat)=>u<=j) (fun u=>[(19,.int .i64 u)]) (fun u=>[(188013,188013,.mx (List.replicate u (some (3,(EH [] j).map eO))++List.replicate (j-u) none))]) [] [] 0 (by (conv=>whnf);exact ⟨rfl,rfl,rfl⟩) (by omega) ?_
  intro u r1 uh
  by_cases hu:u<j
  ·(repeat' (first|(refine AG (fun hc => ?_) (fun hc => ?_)<;>first|(exfalso;omega)|(conv=>whnf))|(refine AW ?_;conv=>whnf)|(refine AE ?_;conv=>whnf)))
   rw[hm]
   refine EB (enc:=eO) none j rfl rfl (by omega) ?_
   (conv=>whnf)
   (repeat' (first|(refine A3 ?_ ?_;omega;conv=>whnf)|fail))
   unfold AR B9
   refine ⟨by simp,by simp;omega,?_⟩
   (conv=>whnf)
   rw[show 0+((u:Int)).toNat=u by omega,<-IU,lO _ _ r1 hu]
   (repeat' (refine A0 ?_ ?_;omega;conv=>whnf))
   exact A4 [] (by (conv=>whnf);exact ⟨rfl,rfl,rfl⟩) (uh (u+1) (by omega) (by omega))
  obtain rfl:u=j:=by omega
  clear uh
  have hPat : ∀ (e:Nat) row,S.a[e]? = some row->(CD S.a Mk u)[e]? = some (EP row Mk u):=fun e row hr=>by rw[CD,List.getElem?_map,hr];rfl
  have hPl:=hPs.l
  rw[show List.replicate u (some (3,List.map eO (EH [] u)))++List.replicate (u-u) none=B6 3 eO (ot (CD S.a Mk u) u 0 0) by rw[AfP,hPl];simp [B6]]
  generalize hPg:CD S.a Mk u=P at *
  (repeat' (first|(refine AG (fun hc => ?_) (fun hc => ?_)<;>first|(exfalso;omega)|(conv=>whnf))|(refine AW ?_;conv=>whnf)|(refine AE ?_;conv=>whnf)))
  rw[hm]
  refine HG (fun c _=>u-c) (fun (c:Nat) (pv:List (Option Rat))=>c<=u/\pv.length=u) (fun c _=>[(31,.int .i64 c)]) (fun c pv=>[(188013,188013,.mx (B6 3 eO (ot P u c 0))),(188016,188016,.rw 3 (pv.map eO))]) [] [] 0 (List.replicate u none) (by (conv=>whnf);exact ⟨rfl,rfl,rfl⟩) ⟨by omega,by simp⟩ ?_
  intro c pv ⟨r2,r3⟩ ch
  by_cases hc2:c<u
  ·have hcoll:=Y8 Mk c
   (repeat' (first|(refine AG (fun hc => ?_) (fun hc => ?_)<;>first|(exfalso;omega)|(conv=>whnf))|(refine AW ?_;conv=>whnf)|(refine AE ?_;conv=>whnf)))
   rw[hm]
   refine CE (fun e=>u-e) (fun (e:Nat)=>e<=u) (fun e=>[(36,.int .i64 e)]) (fun e=>[(188016,188016,.rw 3 ((cf (DX Mk c) pv e).map eO))]) [] [] 0 (by first|exact (by (conv=>whnf);exact ⟨rfl,rfl,rfl⟩)|(rw[xH];exact (by (conv=>whnf);exact ⟨rfl,rfl,rfl⟩))) (by omega) ?_
   intro e r4 eh
   by_cases he2:e<u
   ·obtain ⟨row,hrow⟩ : ∃ row,Mk[e]? = some row:=⟨_,zE (by omega)⟩
    have hrl:=hMs.at hrow
    obtain ⟨x,hx⟩ : ∃ x,row[c]? = some x:=⟨_,zE (by omega)⟩
    have hcx:(DX Mk c)[e]? = some x:=by rw[DX,List.getElem?_map,hrow,Option.map_some,IW hx]
    have hcl:=xF (l:=DX Mk c) (by omega) r3 r4
    have hst:=xG r3 hcx he2
    (repeat' (first|(refine AG (fun hc => ?_) (fun hc => ?_)<;>first|(exfalso;omega)|(conv=>whnf))|(refine A3 ?_ ?_;omega;conv=>whnf)|(refine FY ?_ (fun r hr => ?_);omega;conv=>whnf)|(refine AE ?_;conv=>whnf)))
    cases hrow.symm.trans hr
    refine A3 (by rw[List.length_map];omega) ?_
    (conv=>whnf)
    (repeat' (first|(refine A3 ?_ ?_;omega;conv=>whnf)|(refine HI ?_ (fun _=>rfl) (fun v hv => ?_);omega;conv=>whnf)|(refine GE (by assumption) ?_;conv=>whnf)))
    cases hx.symm.trans hv
    refine E9 (enc:=eO) (some x) rfl (fun e=>by cases e<;>rfl) (by omega) ?_
    (conv=>whnf)
    (repeat' (refine A0 ?_ ?_;omega;conv=>whnf))
    rw[hst]
    exact A4 [] (by (conv=>whnf);exact ⟨rfl,rfl,rfl⟩) (eh (e+1) (by omega) (by omega))
   obtain rfl:e=u:=by omega
   clear eh
   rw[xD (by omega) r3,nH]
   (repeat' (first|(refine AG (fun hc => ?_) (fun hc => ?_)<;>first|(exfalso;omega)|(conv=>whnf))|(refine AW ?_;conv=>whnf)|(refine AE ?_;conv=>whnf)))
   rw[hm]
   refine CE (fun f=>e-f) (fun (f:Nat)=>f<=e) (fun f=>[(52,.int .i64 f)]) (fun f=>[(188013,188013,.mx (B6 3 eO (ot P e c f)))]) [] [] 0 (by (conv=>whnf);exact ⟨rfl,rfl,rfl⟩) (by omega) ?_
   intro f r5 fh
   by_cases hf2:f<e
   ·obtain ⟨row,hrow⟩ : ∃ row,S.a[f]? = some row:=⟨_,zE (by omega)⟩
    have hrow':S.a[(f:Int).toNat]? = some row:=hrow
    have hrl:=hsq.at hrow
    have hPr:=hPat f row hrow
    have hDt:=fun q q'=>T3 N.toSysGLib row (DX Mk c) q q' 80 fk (by omega) (h.ba row (zM hrow)) (b1.col c) (by rw[hrl];have:=Nat.mul_le_mul_right (80+fk+1) hn;omega) (by omega)
    have hoa:=XF (n:=e) (j:=c) (i:=f) hPr
    rw[if_neg (by omega)]at hoa
    have hos:=AfO (n:=e) (j:=c) hPr
    have hol:=UT P e c f
    have hmc:(EP row Mk e)[c]? = some (BC row (DX Mk c)):=by rw[EP,List.getElem?_map,List.getElem?_range hc2];rfl
    have hml:=QR row Mk e
    have hlf:=H0 (l:=(EP row Mk e).take c) (m:=e) (by rw[List.length_take];omega)
    have hst:=IV (l:=(EP row Mk e).take c) (m:=e) (x:=BC row (DX Mk c)) (by rw[List.length_take];omega)
    rw[List.length_take,Nat.min_eq_left (by omega),<-OX hmc]at hst
    generalize ot P e c f=O at *
    (repeat' (first|(refine AG (fun hc => ?_) (fun hc => ?_)<;>first|(exfalso;omega)|(conv=>whnf))|(refine A3 ?_ ?_;omega;conv=>whnf)|(refine BL (by assumption) ?_ rfl ?_;omega;conv=>whnf)|(refine FY ?_ (fun r hr => ?_);omega;conv=>whnf)|(refine AE ?_;conv=>whnf)))
    cases hoa.symm.trans hr
    refine DE (enc:=eQ) (fun _=>rfl) rfl (by omega) ?_
    (conv=>whnf)
    (repeat' (refine AC (hDt _ _) ?_;conv=>whnf))
    have hlf2:=H0 (l:=(EP row Mk e).take (c+1)) (m:=e) (by rw[List.length_take];omega)
    refine A3 (by rw[List.length_map];omega) ?_
    (conv=>whnf)
    (repeat' (refine GE (by assumption) ?_;conv=>whnf))
    refine E9 (enc:=eO) (some (BC row (DX Mk c))) rfl (fun e=>by cases e<;>rfl) (by omega) ?_
    (conv=>whnf)
    rw[hst]
    refine YN (by omega) ?_
    rw[hos]
    (conv=>whnf)
    (repeat' (refine A0 ?_ ?_;omega;conv=>whnf))
    exact A4 [] (by (conv=>whnf);exact ⟨rfl,rfl,rfl⟩) (fh (f+1) (by omega) (by omega))
   obtain rfl:f=e:=by omega
   clear fh
   have hnx:=AfN P f c
   rw[hPl]at hnx
   rw[hnx,<-nH (DX Mk c)]
   (repeat' (first|(refine AG (fun hc => ?_) (fun hc => ?_)<;>first|(exfalso;omega)|(conv=>whnf))|(refine A0 ?_ ?_;omega;conv=>whnf)|(refine AE ?_;conv=>whnf)))
   exact A4 [] (by (conv=>whnf);exact ⟨rfl,rfl,rfl⟩) (ch (c+1) ((DX Mk c).map some) (by omega) ⟨by omega,by rw[List.length_map];omega⟩)
  obtain rfl:c=u:=by omega
  clear ch
  rw[AfM hPs.r]
  (repeat' (first|(refine AG (fun hc => ?_) (fun hc => ?_)<;>first|(exfalso;omega)|(conv=>whnf))|(refine AE ?_;conv=>whnf)))
  refine ⟨rfl,_,rfl,?_⟩
  (conv=>whnf)
  (repeat' (refine AC (hO) ?_;conv=>whnf))
  have htr0:((0:Int):Rat)=D6 P 0:=rfl
  rw[htr0]
  refine CE (fun e=>c-e) (fun (e:Nat)=>e<=c) (fun e=>[(80,.int .i64 e)]) (fun e=>[(12,12,.bx (eQ (D6 P e)))]) [] [] 0 (by (conv=>whnf);exact ⟨rfl,rfl,rfl⟩) (by omega) ?_
  intro e r4 eh
  by_cases he2:e<c
  ·obtain ⟨row,hrow⟩ : ∃ row,P[e]? = some row:=⟨_,zE (by omega)⟩
   have hrl:=hPs.at hrow
   obtain ⟨x,hx⟩ : ∃ x,row[e]? = some x:=⟨_,zE (by omega)⟩
   have htx:D6 P (e+1)=D6 P e+x:=by rw[D6,lZ hrow,IW hx]
   have btr:=Ms.tr b2 e
   have hkb:e*(4*(fk+81)+1)<=4*(4*(fk+81)+1):=Nat.mul_le_mul_right _ (by omega)
   have hA:=QJ N.toRatGLib btr ((b2.at hrow).at hx) (by omega) (by omega)
   rw[<-htx]at hA
   (repeat' (first|(refine AG (fun hc => ?_) (fun hc => ?_)<;>first|(exfalso;omega)|(conv=>whnf))|(refine A3 ?_ ?_;omega;conv=>whnf)|(refine FY ?_ (fun r hr => ?_);omega;conv=>whnf)|(refine AE ?_;conv=>whnf)))
   cases hrow.symm.trans hr
   refine A3 (by rw[List.length_map];omega) ?_
   (conv=>whnf)
   (repeat' (first|(refine HI ?_ (fun _=>rfl) (fun v hv => ?_);omega;conv=>whnf)|(refine GE (by assumption) ?_;conv=>whnf)))
   cases hx.symm.trans hv
   (repeat' (first|(refine A0 ?_ ?_;omega;conv=>whnf)|(refine AC (hA) ?_;conv=>whnf)))
   exact A4 [] (by (conv=>whnf);exact ⟨rfl,rfl,rfl⟩) (eh (e+1) (by omega) (by omega))
  obtain rfl:e=c:=by omega
  clear eh
  have btr:=Ms.tr b2 e
  have hkb:e*(4*(fk+81)+1)<=4*(4*(fk+81)+1):=Nat.mul_le_mul_right _ (by omega)
  have hF:=AaQ N.toRatHLib (-1) ((k+1:Nat):Int) (by omega) (by omega) (by omega)
  have hM:=PB N.toRatGLib btr (gA (k:=k+1) (by omega)) (by omega) (by omega)
  rw[<-hcf]at hM
  (repeat' (first|(refine AG (fun hc => ?_) (fun hc => ?_)<;>first|(exfalso;omega)|(conv=>whnf))|(refine AE ?_;conv=>whnf)|(refine AC (hF) ?_;conv=>whnf)|(refine AC (hM) ?_;conv=>whnf)))
  have hz0:=wL P ck
  refine CE (fun f=>e-f) (fun (f:Nat)=>f<=e) (fun f=>[(98,.int .i64 f)]) (fun f=>[(188013,188013,.mx (B6 3 eQ (addD P ck f)))]) [] [] 0 (by first|exact (by (conv=>whnf);exact ⟨rfl,rfl,rfl⟩)|(rw[hz0];exact (by (conv=>whnf);exact ⟨rfl,rfl,rfl⟩))) (by omega) ?_
  intro f r5 fh
  by_cases hf2:f<e
  ·obtain ⟨row,hrow⟩ : ∃ row,P[f]? = some row:=⟨_,zE (by omega)⟩
   have hrl:=hPs.at hrow
   obtain ⟨x,hx⟩ : ∃ x,row[f]? = some x:=⟨_,zE (by omega)⟩
   have hA:=QJ N.toRatGLib ((b2.at hrow).at hx) b3 (by omega) (by omega)
   have hnx:=wJ (c:=ck) hrow
   have hsu:=wK (c:=ck) hrow
   rw[IW hx]at hsu
   have hdl:=OC P ck f
   generalize addD P ck f=D0 at *
   (repeat' (first|(refine AG (fun hc => ?_) (fun hc => ?_)<;>first|(exfalso;omega)|(conv=>whnf))|(refine A3 ?_ ?_;omega;conv=>whnf)|(refine FY ?_ (fun r hr => ?_);omega;conv=>whnf)|(refine AE ?_;conv=>whnf)))
   cases hnx.symm.trans hr
   cases hnx.symm.trans ‹D0[f]? = some r›
   refine A3 (by rw[List.length_map];omega) ?_
   (conv=>whnf)
   (repeat' (first|(refine HI ?_ (fun _=>rfl) (fun v hv => ?_);omega;conv=>whnf)|(refine GE (by assumption) ?_;conv=>whnf)))
   cases hx.symm.trans hv
   (repeat' (refine AC (hA) ?_;conv=>whnf))
   refine A3 (by rw[List.length_map];omega) ?_
   (conv=>whnf)
   (repeat' (refine GE (by assumption) ?_;conv=>whnf))
   refine E9 (enc:=eQ) (x+ck) rfl (fun _=>rfl) (by omega) ?_
   (conv=>whnf)
   refine YN (by rw[List.length_set]) ?_
   rw[<-hsu]
   (conv=>whnf)
   (repeat' (refine A0 ?_ ?_;omega;conv=>whnf))
   exact A4 [] (by (conv=>whnf);exact ⟨rfl,rfl,rfl⟩) (fh (f+1) (by omega) (by omega))
  obtain rfl:f=e:=by omega
  clear fh
  rw[<-hfl]
  (repeat' (first|(refine AG (fun hc => ?_) (fun hc => ?_)<;>first|(exfalso;omega)|(conv=>whnf))|(refine EK ?_;conv=>whnf)|(refine AE ?_;conv=>whnf)))
  refine E2 (enc:=eQ) ck rfl hbl.symm rfl (by omega) (by omega) ?_
  rw[<-hbe,RO]
  (conv=>whnf)
  (repeat' (refine A0 ?_ ?_;omega;conv=>whnf))
  exact A4 [(145006,188013),(27,120),(29,73)] (by (conv=>whnf);exact ⟨rfl,rfl,rfl⟩) (kh (k+1) 188013 (by omega) (by omega))
 obtain rfl:k=i:=by omega
 clear kh
 have hbeB:Bs 250000000 (CX S.a k k):=by
  intro x hx
  simp only[CX,List.mem_cons,List.mem_map,List.mem_range]at hx
  rcases hx with rfl|⟨j,hj,rfl⟩
  ·exact Bt.one _
  ·have hKj:=aE j (by omega)
   exact (Ms.fl hsq h.ba hn j (by omega)).2.2.le (by omega)
 have habB:Bs 250000000 (ES S k k):=by
  intro x hx
  simp only[ES,List.mem_cons,List.mem_map,List.mem_range]at hx
  rcases hx with rfl|⟨j,hj,rfl⟩
  ·exact Bt.zero _
  ·have hKj:=aE j (by omega)
   have himb:Bs (4*(FS j+81)) (BZ (BX S.a k j) S.b):=by
    intro x hx
    obtain ⟨r,hr,rfl⟩:=List.mem_map.1 hx
    refine (((Ms.fl hsq h.ba hn j (by omega)).1 r hr).dot h.bb).le ?_
    rw[(Sq.fl hm j).r r hr]
    exact Nat.mul_le_mul hn (by omega)
   refine (h.bc.dot himb).le ?_
   rw[h.lc]
   have:=Nat.mul_le_mul_right (80+4*(FS j+81)+1) hn
   generalize hX:80+4*(FS j+81)+1=X at this ⊢
   omega
 have hbl:=RO S.a k k
 have hal:=RM S k k
 have hmB:Bs 250000080 ((CX S.a k k).map (· * S.d)):=by
  intro y hy
  obtain ⟨x,hx,rfl⟩:=List.mem_map.1 hy
  exact ((hbeB x hx).mul h.bd).le (by omega)
 have hml:((CX S.a k k).map (· * S.d)).length=k+1:=by rw[List.length_map];exact hbl
 have htl:=NK ((CX S.a k k).map (· * S.d))
 have hct:=JC ((CX S.a k k).map (· * S.d)) ((CX S.a k k).map (· * S.d)).length
 have hSc:=fun q=>kO N q (CX S.a k k) S.d 250000000 80 hbeB h.bd (by omega) (by omega)
 have hAd:=fun q q'=>Abg N q q' (ES S k k) (B5 ((CX S.a k k).map (· * S.d))) 250000000 250000080 habB hmB.trim (by omega) (by omega) (by omega)
 have hTr:=fun q=>Abi N.toPolyGLib q (CX S.a k k) 250000000 hbeB (by omega) (by omega)
 have hfin:A9 (.tup [.agg [.sl false ((DM S k).map eQ),.sl false ((CJ S k).map eQ)],.int .i64 0]):=by
  simp only[A9,CY,true_and,and_true]
  exact ⟨FR _,FR _⟩
 unfold DM CJ at *
 generalize B5 (G3 (ES S k k) (B5 ((CX S.a k k).map (· * S.d))))=rB at *
 generalize B5 ((CX S.a k k).map (· * S.d))=sc at *
 generalize B5 (CX S.a k k)=rA at *
 (repeat' (first|(refine AG (fun hc => ?_) (fun hc => ?_)<;>first|(exfalso;omega)|(conv=>whnf))|(refine AE ?_;conv=>whnf)))
 refine DE (enc:=eQ) (fun _=>rfl) rfl hbl.symm ?_
 (conv=>whnf)
 (repeat' (refine AC (hSc _) ?_;conv=>whnf))
 refine DE (enc:=eQ) (fun _=>rfl) rfl hal.symm ?_
 (conv=>whnf)
 (repeat' (refine AC (hAd _ _) ?_;conv=>whnf))
 refine DE (enc:=eQ) (fun _=>rfl) rfl hbl.symm ?_
 (conv=>whnf)
 (repeat' (refine AC (hTr _) ?_;conv=>whnf))
 exact AY rfl hfin
end Go.Eng
namespace Go.Eng
open F
attribute [local irreducible] AA AF AR AD B0 AU AX A8 A6 BN AP BK BV CN BI AZ BG BQ AB A7 AJ pw BH BF B9 B8 CI B7 CB BM B3
set_option maxHeartbeats 4000000
variable {L:Lib}
theorem AaY (N:SysGLib L) (S:B4) (n k:Nat) (h:S.Ok n k) (hn:n<=64):Ev L 136 [.agg (eS S)] (.bool true):=by
 have h1:=h.la
 have h2:=h.lb
 have h3:=h.lc
 refine Ev.x N.LU rfl rfl ?_
 (repeat' (first|(refine AG (fun hc => ?_) (fun hc => ?_)<;>first|(exfalso;omega)|(conv=>whnf))|(refine AW ?_;conv=>whnf)|(refine AE ?_;conv=>whnf)))
 refine CE (fun i=>S.a.length-i) (fun (i:Nat)=>i<=S.a.length) (fun i=>[(4,.int .i64 i)]) (fun _=>[]) [] [] 0 (by (conv=>whnf);exact ⟨rfl,rfl,rfl⟩) (by omega) ?_
 intro i p1 ih
 by_cases hi:i<S.a.length
 ·obtain ⟨r,hr⟩ : ∃ r,S.a[i]? = some r:=⟨_,zE hi⟩
  have hr':S.a[(i:Int).toNat]? = some r:=hr
  have hrl:=h.lr r (zM hr)
  (repeat' (first|(refine AG (fun hc => ?_) (fun hc => ?_)<;>first|(exfalso;omega)|(conv=>whnf))|(refine A0 ?_ ?_;omega;conv=>whnf)|(refine AW ?_;conv=>whnf)|(refine BL (by assumption) ?_ rfl ?_;omega;conv=>whnf)|(refine AE ?_;conv=>whnf)))
  exact A4 [] (by (conv=>whnf);exact ⟨rfl,rfl,rfl⟩) (ih (i+1) (by omega) (by omega))
 ·obtain rfl:i=S.a.length:=by omega
  clear ih
  (repeat' (first|(refine AG (fun hc => ?_) (fun hc => ?_)<;>first|(exfalso;omega)|(conv=>whnf))|(refine AE ?_;conv=>whnf)))
  exact IK rfl
theorem AaR (N:SysGLib L) (a b:List Rat) (q1 q2:Bool) (k s:Nat) (hl:a.length=b.length) (ha:Bs k a) (hb:Bs s b) (hK:a.length*(k+s+1)+k+s<2199023255552) (hal:a.length<=1099511627776):Ev L 137 [.sl q1 (a.map eQ),.sl q2 (b.map eQ)] (.agg (eQ (BC a b))):=by
 have hO:=R4 N.toRefGLib 0 (by omega)
 refine Ev.x N.LS rfl rfl ?_
 (repeat' (first|(refine AE ?_;conv=>whnf)|(refine AC (hO) ?_;conv=>whnf)))
 refine HG (fun i _=>a.length-i) (fun (i:Nat) (acc:Rat)=>i<=a.length/\acc=BC (a.take i) (b.take i)) (fun i acc=>[(6,.int .i64 i)]) (fun i acc=>[(5,5,.bx (eQ acc))]) [] [] 0 ((0:Int):Rat) (by (conv=>whnf);exact ⟨rfl,rfl,rfl⟩) ⟨by omega,by simp [BC]⟩ ?_
 intro i acc ⟨p1,p2⟩ ih
 by_cases hi:i<a.length
 ·obtain ⟨x,hx⟩ : ∃ x,a[i]? = some x:=⟨_,zE hi⟩
  obtain ⟨y,hy⟩ : ∃ y,b[i]? = some y:=⟨_,zE (by omega)⟩
  have hx':a[(i:Int).toNat]? = some x:=hx
  have hy':b[(i:Int).toNat]? = some y:=hy
  have bx:=ha.at hx
  have by':=hb.at hy
  have hM:=TZ N.toRefGLib bx by' (by omega) (by omega)
  have hacc:Bt (a.length*(k+s+1)) acc:=by
   rw[p2]
   have:=(ha.take i).dot (hb.take i)
   refine this.le (Nat.mul_le_mul_right _ ?_)
   rw[List.length_take];omega
  have hA:=ZV N.toRefGLib hacc (bx.mul by') (by omega) (by omega)
  have hst:=ZN hx hy
  (repeat' (first|(refine AG (fun hc => ?_) (fun hc => ?_)<;>first|(exfalso;omega)|(conv=>whnf))|(refine A0 ?_ ?_;omega;conv=>whnf)|(refine AW ?_;conv=>whnf)|(refine BL (by assumption) ?_ rfl ?_;omega;conv=>whnf)|(refine AE ?_;conv=>whnf)|(refine AC (hM) ?_;conv=>whnf)|(refine AC (hA) ?_;conv=>whnf)))
  refine A4 [] (by (conv=>whnf);exact ⟨rfl,rfl,rfl⟩) (ih (i+1) (acc+x*y) (by omega) ⟨by omega,?_⟩)
  rw[hst,<-p2]
 ·obtain rfl:i=a.length:=by omega
  clear ih
  rw[ZK rfl]at p2
  rw[<-p2]
  (repeat' (first|(refine AG (fun hc => ?_) (fun hc => ?_)<;>first|(exfalso;omega)|(conv=>whnf))|(refine AW ?_;conv=>whnf)|(refine AE ?_;conv=>whnf)))
  exact AY rfl (DS _)
end Go.Eng

namespace Go.Eng
theorem S8 {R:List (Option (Nat × List (List AV)))} {i e z:Nat} {es:List (List AV)} {K:Option (Nat × List (List AV))->Prop} (he:e=i) (hi:i<R.length) (h:K (some (z,es))):BH (R.set i (some (z,es))) e K:=by
 subst he
 exact ⟨_,by rw[List.getElem?_set,if_pos rfl,if_pos hi],h⟩
theorem S6 {R:List (Option (Nat × List (List AV)))} {i e z:Nat} {es:List (List AV)} {K:Nat->List (List AV)->Prop} (he:e=i) (hi:i<R.length) (h:K z es):BF (R.set i (some (z,es))) e K:=by
 subst he
 exact ⟨z,es,by rw[List.getElem?_set,if_pos rfl,if_pos hi],h⟩
theorem eT {R:List (Option (Nat × List (List AV)))} {i e z:Nat} {es es':List (List AV)} {K:List (Option (Nat × List (List AV)))->Prop} (he:e=i) (hl:es'.length=es.length) (h:K (R.set i (some (z,es')))):B8 (R.set i (some (z,es))) e z es es' K:=by
 subst he
 exact ⟨hl,by rw[List.set_set];exact h⟩
theorem YP {R:List (Option (Nat × List (List AV)))} {i e z:Nat} {es:List (List AV)} {K:List (Option (Nat × List (List AV)))->Prop} (he:e=i) (hi:i<R.length) (h:K (R.set i (some (z,es)))):B9 R e z es K:=by
 subst he
 exact ⟨hi,h⟩
end Go.Eng

namespace Go.Eng
open F
attribute [local irreducible] AA AF AR AD B0 AU AX A8 A6 BN AP BK BV CN BI AZ BG BQ AB A7 AJ pw BH BF B9 B8 CI B7 CB BM B3
set_option maxHeartbeats 16000000
variable {L:Lib}
def mz (Q:List (List Rat)) (n i:Nat):List (Option (Nat × List (List AV))):=fz none (B6 3 eQ (Q.take i)) n
theorem Adx {Q:List (List Rat)} {n i:Nat} (hi:i<=n):(mz Q n i).length=n:=by
 refine lV ?_
 simp only[B6,List.length_map,List.length_take];omega
theorem Adz (Q:List (List Rat)) (n:Nat):mz Q n 0=List.replicate n none:=by simp [mz,fz]
theorem Ady {Q:List (List Rat)} {n i:Nat} {row:List Rat} (h:Q[i]? = some row) (hi:i<n):(mz Q n i).set i (some (3,row.map eQ))=mz Q n (i+1):=by
 have h1:=(zS h).1
 have hl:(B6 3 eQ (Q.take i)).length=i:=by simp only[B6,List.length_map,List.length_take];omega
 have:=lW (z:=none) (l:=B6 3 eQ (Q.take i)) (m:=n) (x:=some (3,row.map eQ)) (by omega)
 rw[hl]at this
 rw[mz,this,mz,OY h]
 simp [B6]
theorem Adw {Q:List (List Rat)} {n:Nat} (h:Q.length=n):mz Q n n=B6 3 eQ Q:=by
 rw[mz,List.take_of_length_le (by omega)]
 exact lU (by simp [B6,h])
def cz (row:List Rat) (n j:Nat):List Rat:=fz 0 (row.take j) n
theorem iJ {row:List Rat} {n j:Nat} (hj:j<=n):(cz row n j).length=n:=by
 refine lV ?_
 rw[List.length_take];omega
theorem iL (row:List Rat) (n:Nat):cz row n 0=List.replicate n 0:=by simp [cz,fz]
theorem iK {row:List Rat} {n j:Nat} {x:Rat} (h:row[j]? = some x) (hj:j<n):(cz row n j).set j x=cz row n (j+1):=by
 have h1:=(zS h).1
 have hl:(row.take j).length=j:=by rw[List.length_take];omega
 have:=lW (z:=(0:Rat)) (l:=row.take j) (m:=n) (x:=x) (by omega)
 rw[hl]at this
 rw[cz,this,cz,OY h]
theorem iI {row:List Rat} {n:Nat} (h:row.length=n):cz row n n=row:=by
 rw[cz,List.take_of_length_le (by omega)]
 exact lU h
end Go.Eng

namespace Go.Eng
open Go.ChangeShapes Go.WideShapes Go.ChangeAt Go.RowKit
inductive Ty where
 | int (k:IntKind)
 | bool
 | sl (e:Ty)
 | nil
 | cons (a r:Ty)
def Ty.cells:Ty->Nat
 | .int _=>1 | .bool=>1 | .sl _=>1
 | .nil=>0
 | .cons a r=>a.cells+r.cells
def G0:Ty->List AV->Prop
 | .int k,cs => ∃ n,cs=[.int k n]/\(Lit.int k n).wf=true
 | .bool,cs => ∃ b,cs=[.bool b]
 | .sl e,cs => ∃ es,cs=[.sl true es]/\es.length<=maxLen /\ ∀ x∈es,G0 e x
 | .nil,cs=>cs=[]
 | .cons a r,cs => ∃ x y,cs=x++y/\G0 a x/\G0 r y
theorem G0.len : ∀ {ty:Ty} {cs:List AV},G0 ty cs->cs.length=ty.cells
 | .int _,cs,h=>by obtain ⟨n,rfl,_⟩:=h;rfl
 | .bool,cs,h=>by obtain ⟨n,rfl⟩:=h;rfl
 | .sl _,cs,h=>by obtain ⟨n,rfl,_⟩:=h;rfl
 | .nil,cs,h=>by rw[show cs=[] from h];rfl
 | .cons a r,cs,h=>by obtain ⟨x,y,rfl,h1,h2⟩:=h;simp [Ty.cells,G0.len h1,G0.len h2]
def ND (P:Program):Nat->TypeId->Ty->Bool
 | 0,_,_=>false
 | n+1,t,ty=>match P.underlying t,ty with
  | some (.int k),.int k'=>decide (k=k')
  | some .bool,.bool=>true
  | some (.slice e),.sl ty'=>ND P n e ty'&&(P.cellsOf e == ty'.cells&&decide (0<ty'.cells))
  | some (.struct fs),ty=>go (ND P n) fs.toList 0 ty&&P.cellsOf t == ty.cells
  | _,_=>false
where
 go (ok:TypeId->Ty->Bool):List Field->Nat->Ty->Bool
  | [],_,.nil=>true
  | f::fs,off,.cons a r=>(f.offset == off&&(ok f.type a&&P.cellsOf f.type == a.cells))&&go ok fs (off+a.cells) r
  | _,_,_=>false
section
variable {H:Type} {enc:TypeId × Value->H} {P:Program} {w:World} {base:Nat} {spare:Nat->Bool} {held:Bool} {R:Bool->Nat->Prop}
def HJ (w:World) (R:Bool->Nat->Prop) (as:List AV) (cs:List Value):Prop:=as.length=cs.length /\ ∀ (j:Nat) (a:AV) (c:Value),as[j]? = some a->cs[j]? = some c->Rd w R a c
theorem HJ.one {a:AV} {c:Value} (h:Rd w R a c):HJ w R [a] [c]:=by
 refine ⟨rfl,fun j a' c' h1 h2 => ?_⟩
 cases j with
 | zero=>simp at h1 h2;subst h1 h2;exact h
 | succ j=>simp at h1
theorem HJ.append {as bs:List AV} {cs ds:List Value} (h1:HJ w R as cs) (h2:HJ w R bs ds):HJ w R (as++bs) (cs++ds):=by
 refine ⟨by simp [h1.1,h2.1],fun j a c ha hc => ?_⟩
 by_cases hj:j<as.length
 ·rw[List.getElem?_append_left hj]at ha
  rw[List.getElem?_append_left (by rw[<-h1.1];exact hj)]at hc
  exact h1.2 j a c ha hc
 ·rw[List.getElem?_append_right (by omega)]at ha
  rw[List.getElem?_append_right (by rw[<-h1.1];omega),<-h1.1]at hc
  exact h2.2 _ a c ha hc
theorem fP (a:Addr) (i:Nat) (h:a.spot=none):a.add i=⟨a.block,a.off+i,none⟩:=by
 obtain ⟨b,o,s⟩:=a
 simp only at h
 subst h
 exact G4 b o i
theorem oV (hR : ∀ b,b<w.heap.size->R true b) (m:Nat) (ih : ∀ (ty:Ty) (t:TypeId) (cs:List Value) (fuel:Nat) (x:DataW H × List MemPlace),ND P m t ty=true->DataW.trod enc P w base spare held fuel t cs=some x -> ∃ as,G0 ty as/\HJ w R as cs)
  (n:Nat) (cs:List Value) : ∀ (fs:List Field) (off:Nat) (ty:Ty),ND.go P (ND P m) fs off ty=true->(∀ f∈fs,∃ y,DataW.trod enc P w base spare held n f.type ((cs.drop f.offset).take (P.cellsOf f.type))=some y)->off+ty.cells=cs.length -> ∃ as,G0 ty as/\HJ w R as (cs.drop off)
 | [],off,ty,hok,_,hl=>by
  cases ty<;>simp only[ND.go,Bool.false_eq_true]at hok
  simp only[Ty.cells]at hl
  exact ⟨[],rfl,by rw[List.drop_of_length_le (by omega)];exact ⟨rfl,fun j a c h=>by simp at h⟩⟩
 | f::fs,off,ty,hok,hf,hl=>by
  cases ty<;>simp only[ND.go,Bool.false_eq_true,Bool.and_eq_true,beq_iff_eq]at hok
  rename_i a r
  obtain ⟨⟨h1,h2,h3⟩,h4⟩:=hok
  simp only[Ty.cells]at hl
  obtain ⟨y,hy⟩:=hf f List.mem_cons_self
  rw[h1,h3]at hy
  obtain ⟨as1,g1,g2⟩:=ih a f.type _ n y h2 hy
  obtain ⟨as2,g3,g4⟩:=oV hR m ih n cs fs (off+a.cells) r h4 (fun f' h'=>hf f' (List.mem_cons_of_mem _ h')) (by omega)
  refine ⟨as1++as2,⟨as1,as2,rfl,g1,g3⟩,?_⟩
  have:=g2.append g4
  rwa [show (cs.drop off).take a.cells++cs.drop (off+a.cells)=cs.drop off by rw[<-List.drop_drop,List.take_append_drop]]at this
theorem oU (hR : ∀ b,b<w.heap.size->R true b) : ∀ (m:Nat) (ty:Ty) (t:TypeId) (cs:List Value) (fuel:Nat) (x:DataW H × List MemPlace),ND P m t ty=true->DataW.trod enc P w base spare held fuel t cs=some x -> ∃ as,G0 ty as/\HJ w R as cs
 | 0,_,_,_,_,_,h,_=>by simp [ND]at h
 | m+1,ty,t,cs,fuel,x,hok,h=>by
  have ih:=oU hR m
  simp only[ND]at hok
  split at hok
  ·rename_i k k' hu
   obtain rfl:k=k':=by simpa using hok
   obtain ⟨n,rfl,_,hw⟩:=DataW.trod_int hu h
   exact ⟨[.int k n],⟨n,rfl,hw⟩,HJ.one (.int k n)⟩
  ·rename_i hu
   cases fuel with
   | zero=>simp [DataW.trod]at h
   | succ fuel =>
    unfold DataW.trod at h
    rw[hu]at h
    split at h<;>simp_all
    exact ⟨_,⟨_,rfl⟩,HJ.one (.bool _)⟩
  ·rename_i e ty' hu
   simp only[Bool.and_eq_true,beq_iff_eq,decide_eq_true_eq]at hok
   obtain ⟨h1,h2,h3⟩:=hok
   rcases DataW.trod_slice hu h with ⟨rfl,_⟩|⟨a,len,cap,elems,rest,n,_,rfl,_,hb,hl,hm,hlen,hel,_,_⟩
   ·exact ⟨[.sl true []],⟨[],rfl,by simp,by simp⟩,HJ.one (.sl0 true none 0)⟩
   ·have each : ∀ i,i<len -> ∃ as cs',G0 ty' as/\HJ w R as cs'/\cs'.length=ty'.cells /\ ∀ j,j<ty'.cells->w.cell? ((a.add (i*ty'.cells)).add j)=cs'[j]? := by
     intro i hi
     have:=hel i hi
     rw[h2,zE (by omega),Option.bind_eq_some_iff]at this
     obtain ⟨cs',hc,ht⟩:=this
     obtain ⟨as,g1,g2⟩:=ih ty' e cs' n _ h1 ht
     obtain ⟨_,q1,q2⟩:=World.cells?_some hc
     exact ⟨as,cs',g1,g2,q1,q2⟩
    by_cases h0:len=0
    ·subst h0
     exact ⟨[.sl true []],⟨[],rfl,by simp,by simp⟩,HJ.one (.sl0 true (some a) cap)⟩
    ·have hspot:a.spot=none:=by
      obtain ⟨as,cs',_,_,q1,q2⟩:=each 0 (by omega)
      have:=q2 0 h3
      rw[zE (by omega)]at this
      simpa [Addr.add] using World.cell?_spot this
     have hblk:a.block<w.heap.size:=by
      obtain ⟨as,cs',_,_,q1,q2⟩:=each 0 (by omega)
      have:=q2 0 h3
      rw[zE (by omega)]at this
      simpa [Addr.add] using RP this
     have pick : ∃ f:Nat->List AV × List Value,∀ i,i<len->G0 ty' (f i).1/\HJ w R (f i).1 (f i).2/\(f i).2.length=ty'.cells /\ ∀ j,j<ty'.cells->w.cell? ((a.add (i*ty'.cells)).add j)=(f i).2[j]? := by
      refine ⟨fun i=>if hi:i<len then (Classical.choose (each i hi),Classical.choose (Classical.choose_spec (each i hi))) else ([],[]),fun i hi => ?_⟩
      simp only[hi,dif_pos]
      exact Classical.choose_spec (Classical.choose_spec (each i hi))
     obtain ⟨f,hf⟩:=pick
     have hget : ∀ i e',((List.range len).map fun i=>(f i).1)[i]? = some e'->i<len/\e'=(f i).1:=by
      intro i e' he
      rw[List.getElem?_map]at he
      by_cases hi:i<len
      ·rw[List.getElem?_range hi]at he
       simp at he
       exact ⟨hi,he.symm⟩
      ·rw[List.getElem?_eq_none (by simpa using hi)]at he
       cases he
     refine ⟨[.sl true ((List.range len).map fun i=>(f i).1)],⟨_,rfl,by simp;omega,fun x hx => ?_⟩,HJ.one ?_⟩
     ·obtain ⟨i,hi,rfl⟩:=List.mem_map.1 hx
      exact (hf i (List.mem_range.1 hi)).1
     ·obtain ⟨ab,ao,as⟩:=a
      simp only at hspot
      subst hspot
      have hlen':((List.range len).map fun i=>(f i).1).length=len:=by simp
      have:=Rd.sl (w:=w) (R:=R) true ((List.range len).map fun i=>(f i).1) ab ao ty'.cells cap (fun i j=>((f i).2[j]?).getD default) (by intro e;have:=congrArg List.length e;simp at this;omega) h3 (hR ab hblk) (by rw[hlen'];exact hl)
       (fun e' he=>by
        obtain ⟨i,hi,rfl⟩:=List.mem_map.1 he
        exact (hf i (List.mem_range.1 hi)).1.len)
       (fun i e' he j c hc=>by
        obtain ⟨hi,rfl⟩:=hget i e' he
        obtain ⟨g1,g2,g3,g4⟩:=hf i hi
        have hj:j<ty'.cells:=by
         have:=(zS hc).1
         rwa [g1.len]at this
        have h5:=g4 j hj
        rw[fP ⟨ab,ao,none⟩ (i*ty'.cells) rfl,fP _ _ rfl]at h5
        simp only at h5
        rw[show ao+(i*ty'.cells+j)=ao+i*ty'.cells+j by omega,h5,zE (by omega)]
        rfl)
       (fun i e' he j c hc=>by
        obtain ⟨hi,rfl⟩:=hget i e' he
        obtain ⟨g1,g2,g3,g4⟩:=hf i hi
        have hj:j<ty'.cells:=by
         have:=(zS hc).1
         rwa [g1.len]at this
        have h6:(f i).2[j]? = some ((f i).2[j]'(by omega)):=zE _
        rw[h6]
        exact g2.2 j c _ hc h6)
      rwa [hlen']at this
  ·rename_i fs hu
   simp only[Bool.and_eq_true,beq_iff_eq]at hok
   obtain ⟨h1,h2⟩:=hok
   obtain ⟨xs,n,_,_,hl,hlen,hf⟩:=DataW.trod_struct hu h
   have:=oV hR m ih n cs fs.toList 0 _ h1 (fun f hf'=>by
    obtain ⟨i,hi,rfl⟩:=List.getElem_of_mem hf'
    have h5:=hf i fs.toList[i] (by simp)
    rw[h5,zE (by simpa [hlen] using hi)]
    exact ⟨_,rfl⟩) (by rw[hl,h2];omega)
   simpa using this
  ·exact absurd hok (by simp)
theorem SJ {S:Nat->Prop} {ty:Ty} {t:TypeId} {v:Value} {d:DataW H} {ps:List MemPlace} {m:Nat} (hok:ND P m t ty=true) (hv:v.cells.toList=[v]) (h:DataW.Trod enc P w base spare held t v d ps) :
  ∃ a,G0 ty [a]/\CA w.heap.size S ⟨fun _ _=>none,AH.emp,w⟩ a v:=by
 obtain ⟨fuel,hf⟩:=h
 rw[hv]at hf
 obtain ⟨as,h1,h2⟩:=oU (R:=safe w.heap.size S ⟨fun _ _=>none,AH.emp,w⟩) (fun b hb=>Or.inr (Or.inr ⟨rfl,hb⟩)) m ty t [v] fuel _ hok hf
 obtain ⟨a,rfl⟩ : ∃ a,as=[a]:=by
  have:=h2.1
  match as,this with
  | [a],_=>exact ⟨a,rfl⟩
 exact ⟨a,h1,.one (.rd (h2.2 0 a v rfl rfl))⟩
end
theorem wU {B:Nat} {S:Nat->Prop} {m:M} : ∀ (j:Nat) (c:AV) (v:Value),([]:List AV)[j]? = some c->([]:List Value)[j]? = some v->CA B S m c v:=fun j c v h=>by simp at h
theorem RN {B:Nat} {S:Nat->Prop} {m:M} {a:AV} {u:Value} {as:List AV} {us:List Value} (h:CA B S m a u) (hr : ∀ (j:Nat) (c:AV) (v:Value),as[j]? = some c->us[j]? = some v->CA B S m c v) :
  ∀ (j:Nat) (c:AV) (v:Value),(a::as)[j]? = some c->(u::us)[j]? = some v->CA B S m c v
 | 0,c,v,h1,h2=>by simp at h1 h2;subst h1 h2;exact h
 | j+1,c,v,h1,h2=>hr j c v (by simpa using h1) (by simpa using h2)
theorem Ac2 {P:Program} {num:Nat->Nat} {L:Lib} (hP:ProgOK P num L) {f:Nat} {vs:List AV} (h:Ev L f vs (.bool true)) {S:Nat->Prop} {w:World} {us:List Value} (hl:vs.length=us.length)
  (ha : ∀ (j:Nat) (c:AV) (v:Value),vs[j]? = some c->us[j]? = some v->CA w.heap.size S ⟨fun _ _=>none,AH.emp,w⟩ c v) :
  Calls P (num f) us.toArray w fun e w'=>e = .returned (.bool true)/\Below w.heap.size w w':=by
 obtain ⟨n,hn⟩:=h
 refine ((xC hP n).pure f vs _ hn S w us hl ha).mono ?_
 rintro e w' ⟨u,rfl,hb,hcv,_⟩
 refine ⟨?_,hb⟩
 cases hcv with
 | ca hca=>cases hca with
  | one hcc=>cases hcc with
   | rd hrd=>cases hrd;rfl
end Go.Eng

namespace Go.Eng
abbrev tI:Ty := .int .i64
end Go.Eng

namespace Go.Eng
theorem nE {α:Type} {enc:α->List AV} {p:α->Prop} : ∀ {es:List (List AV)},(∀ x∈es,∃ y,x=enc y/\p y) -> ∃ l:List α,es=l.map enc /\ ∀ y∈l,p y
 | [],_=>⟨[],rfl,by simp⟩
 | e::es,h=>by
  obtain ⟨y,rfl,hy⟩:=h e List.mem_cons_self
  obtain ⟨l,rfl,hl⟩:=nE (enc:=enc) (p:=p) fun x hx=>h x (List.mem_cons_of_mem _ hx)
  exact ⟨y::l,rfl,by simpa using ⟨hy,hl⟩⟩
theorem Ace {α:Type} {enc:α->List AV} {p:α->Prop} {e:Ty} {cs:List AV} (he : ∀ x,G0 e x -> ∃ y,x=enc y/\p y) (h:G0 (.sl e) cs) : ∃ l:List α,cs=[.sl true (l.map enc)]/\l.length<9223372036854775808 /\ ∀ y∈l,p y:=by
 obtain ⟨es,rfl,hl,hx⟩:=h
 obtain ⟨l,rfl,hp⟩:=nE (enc:=enc) (p:=p) fun x hm=>he x (hx x hm)
 refine ⟨l,rfl,?_,hp⟩
 have:maxLen=9223372036854775807:=rfl
 simp at hl
 omega
theorem Ag4 {n:Int} (h:(Lit.int .i64 n).wf=true):G1 n:=by
 simp only[Lit.wf,Bool.and_eq_true,decide_eq_true_eq]at h
 have h1:IntKind.i64.min = -9223372036854775808:=rfl
 have h2:IntKind.i64.max=9223372036854775807:=rfl
 rw[h1,h2]at h
 unfold G1
 constructor<;>omega
theorem aR {cs:List AV} (h:G0 tI cs) : ∃ n,cs=NZ n/\G1 n:=by obtain ⟨n,rfl,hw⟩:=h;exact ⟨n,rfl,Ag4 hw⟩
theorem aS {cs:List AV} (h:G0 (.sl tI) cs) : ∃ l:List Int,cs=[.sl true (l.map NZ)]/\l.length<9223372036854775808 /\ ∀ v∈l,G1 v:=Ace (fun _=>aR) h
end Go.Eng



namespace Go.Eng
open F
attribute [local irreducible] AA AF AR AD B0 AU AX A8 A6 BN AP BK BV CN BI AZ BG BQ AB A7 AJ pw BH BF B9 B8 CI B7 CB BM B3
set_option maxHeartbeats 8000000
variable {L:Lib}
abbrev eM (m:List (List Rat)):List (List AV):=m.map fun r=>[AV.sl false (r.map eQ)]
theorem xO (m:List (List Rat)):FG (eM m):=TL (fun r=>by simp only[CY,A9,and_true,true_and];exact FR r) m
end Go.Eng

namespace Go.Eng
variable {L:Lib}
theorem sQ {kk:List It} {tm:Tm} {M:Mem} {Q:Tm->Mem->Prop} {k s:Nat} {rows:List (Option (Nat × List (List AV)))} {w:List Nat} (rows':List (Option (Nat × List (List AV)))) (e:mget M k=some (s,.vw w rows)) (hl:rows'.length=w.length)
  (hw : ∀ (i t:Nat),w[i]? = some t -> ∃ r,rows[t]? = some r/\rows'[i]? = some r) (hi : ∀ (i i' t:Nat),w[i]? = some t->w[i']? = some t->i=i') (hct:I6 k tm=false) (hcm:HW k M=false)
  (h:AA L kk tm ((k,s,.mx rows')::M) Q):AA L kk tm M Q:=by
 intro σ st hr
 obtain ⟨σ',hr'⟩:=hr.unview e hl hw hi hct hcm
 exact h σ' st hr'
theorem sP {kk:List It} {tm:Tm} {M:Mem} {Q:Tm->Mem->Prop} {k s i j:Nat} {rows:List (Option (Nat × List (List AV)))} {a b:Option (Nat × List (List AV))} (e:mget M k=some (s,.vw (((List.range rows.length).set i j).set j i) rows)) (ha:rows[i]? = some a) (hb:rows[j]? = some b) (hct:I6 k tm=false) (hcm:HW k M=false)
  (h:AA L kk tm ((k,s,.mx ((rows.set i b).set j a))::M) Q):AA L kk tm M Q:=by
 have hi:=(zS ha).1
 have hj:=(zS hb).1
 have hwi : ∀ p,p<rows.length->(((List.range rows.length).set i j).set j i)[p]? = some (if p=j then i else if p=i then j else p):=fun p hp=>by
  rw[List.getElem?_set,List.getElem?_set,List.length_set,List.length_range]
  by_cases h1:j=p
  ·subst h1;simp [hp]
  ·rw[if_neg h1,if_neg (Ne.symm h1)]
   by_cases h2:i=p
   ·subst h2;simp [hp]
   ·rw[if_neg h2,if_neg (Ne.symm h2),List.getElem?_range hp]
 have hwl : ∀ p t,(((List.range rows.length).set i j).set j i)[p]? = some t->p<rows.length:=fun p t hp=>by
  have:=(zS hp).1
  simpa using this
 refine sQ ((rows.set i b).set j a) e (by simp) (fun p t hp => ?_) (fun p p' t hp hp' => ?_) hct hcm h
 ·have hpl:=hwl p t hp
  rw[hwi p hpl]at hp
  obtain rfl:=Option.some.inj hp
  rw[List.getElem?_set,List.getElem?_set,List.length_set]
  by_cases h1:p=j
  ·subst h1
   exact ⟨a,by rw[if_pos rfl];exact ha,by rw[if_pos rfl,if_pos hpl]⟩
  ·rw[if_neg h1,if_neg (Ne.symm h1)]
   by_cases h2:p=i
   ·subst h2
    exact ⟨b,by rw[if_pos rfl];exact hb,by rw[if_pos rfl,if_pos hpl]⟩
   ·rw[if_neg h2,if_neg (Ne.symm h2)]
    exact ⟨_,zE hpl,zE hpl⟩
 ·have hpl:=hwl p t hp
  have hpl':=hwl p' t hp'
  rw[hwi p hpl]at hp
  rw[hwi p' hpl']at hp'
  have:=Option.some.inj (hp.trans hp'.symm)
  split at this<;>split at this<;>(try split at this)<;>(try split at this)<;>omega
end Go.Eng



namespace Go.Eng
open F
attribute [local irreducible] AA AF AR AD B0 AU AX A8 A6 BN AP BK BV CN BI AZ BG BQ AB A7 AJ pw BH BF B9 B8 CI B7 CB BM B3
set_option maxHeartbeats 16000000
variable {L:Lib}
abbrev GF (q:Bool) (m:List (List Rat)):List (List AV):=m.map fun r=>[AV.sl q (r.map eQ)]
theorem WD (m:List (List Rat)) (e:Int):A9 (.tup [.sl false (eM m),.int .i64 e]):=by
 simp only[A9,CY,and_true,true_and]
 exact xO m
end Go.Eng

namespace Go.Eng
open F
attribute [local irreducible] AA AF AR AD B0 AU AX A8 A6 BN AP BK BV CN BI AZ BG BQ AB A7 AJ pw BH BF B9 B8 CI B7 CB BM B3
set_option maxHeartbeats 16000000
variable {L:Lib}
theorem aL {l:List Rat} {i:Nat} (h:i<l.length):l[i]? = some (l.getD i 0):=by
 rw[List.getD_eq_getElem?_getD,zE h];rfl
end Go.Eng

namespace Go.Eng
variable {L:Lib}
def MS:AL->Bool
 | .ret=>false
 | .dr c _ _=>MS c
 | .scope c=>MS c
 | .seq a b=>MS a&&MS b
 | .cond _ a b=>MS a&&MS b
 | .block _ c=>MS c
 | .loop c=>MS c
 | _=>true
def NA:It->Bool
 | .code c=>MS c
 | .lp c=>MS c
 | _=>true
theorem T8 {id:Nat} {kk:List It} : ∀ {l l':List It},DP id l=some l'->DP id (l++kk)=some (l'++kk)
 | [],_,h=>by cases h
 | .blk i::l,l',h=>by
  simp only[List.cons_append,DP]at h ⊢
  split at h
  ·rename_i e;rw[if_pos e];cases h;rfl
  ·rename_i e;rw[if_neg e];exact T8 h
 | .code c::l,l',h=>by
  simp only[List.cons_append,DP]at h ⊢
  exact T8 h
 | .drp a b::l,l',h=>by
  simp only[List.cons_append,DP]at h ⊢
  exact T8 h
 | .lp c::l,l',h=>by
  simp only[List.cons_append,DP]at h ⊢
  exact T8 h
theorem T7 {id:Nat} {p:It->Bool} : ∀ {l l':List It},DP id l=some l'->l.all p=true->l'.all p=true
 | [],_,h,_=>by cases h
 | .blk i::l,l',h,ha=>by
  simp only[DP]at h
  simp only[List.all_cons,Bool.and_eq_true]at ha
  split at h
  ·cases h;exact ha.2
  ·exact T7 h ha.2
 | .code c::l,l',h,ha=>by
  simp only[DP]at h
  simp only[List.all_cons,Bool.and_eq_true]at ha
  exact T7 h ha.2
 | .drp a b::l,l',h,ha=>by
  simp only[DP]at h
  simp only[List.all_cons,Bool.and_eq_true]at ha
  exact T7 h ha.2
 | .lp c::l,l',h,ha=>by
  simp only[DP]at h
  simp only[List.all_cons,Bool.and_eq_true]at ha
  exact T7 h ha.2
theorem I1 {C:Cl} {kk:List It} {m:Nat} {BD BW:St} (hk:run C m kk BD=some BW) : ∀ (n:Nat) (l:List It) (st:St),l.all NA=true->run C n l st=some BD->run C (n+m) (l++kk) st=some BW
 | 0,_,_,_,h=>by cases h
 | n+1,[],st,_,h=>by
  simp only[run,Option.some.injEq]at h
  subst h
  exact MW (C:=C) (C':=C) ⟨fun _ _ _ h=>h,fun _ _ _ _ h=>h,rfl⟩ (by omega) hk
 | n+1,.blk i::l,st,ha,h=>by
  simp only[List.all_cons,Bool.and_eq_true]at ha
  rw[show n+1+m=n+m+1 by omega]
  simp only[List.cons_append,run]at h ⊢
  exact I1 hk n l st ha.2 h
 | n+1,.drp ts ss::l,st,ha,h=>by
  simp only[List.all_cons,Bool.and_eq_true]at ha
  rw[show n+1+m=n+m+1 by omega]
  simp only[List.cons_append,run]at h ⊢
  exact I1 hk n l _ ha.2 h
 | n+1,.lp c::l,st,ha,h=>by
  rw[show n+1+m=n+m+1 by omega]
  simp only[List.cons_append,run]at h ⊢
  exact I1 hk n (.code c :: .lp c::l) st (by simp only[List.all_cons,NA,Bool.and_eq_true]at ha ⊢;exact ⟨ha.1,ha.1,ha.2⟩) h
 | n+1,.code c::l,st,ha,h=>by
  simp only[List.all_cons,NA,Bool.and_eq_true]at ha
  obtain ⟨h1,h2⟩:=ha
  rw[show n+1+m=n+m+1 by omega]
  cases c with
  | ret=>cases h1
  | skip =>
   simp only[List.cons_append,run]at h ⊢
   exact I1 hk n l st h2 h
  | ops o d =>
   simp only[List.cons_append,run]at h ⊢
   cases hs:DC C o st with
   | none=>rw[hs]at h;cases h
   | some s'=>rw[hs]at h;exact I1 hk n l s' h2 h
  | dr c ts ss =>
   simp only[List.cons_append,run]at h ⊢
   exact I1 hk n (.code c :: .drp ts ss::l) st (by simp only[List.all_cons,NA,Bool.and_eq_true];exact ⟨h1,trivial,h2⟩) h
  | scope c =>
   simp only[List.cons_append,run]at h ⊢
   exact I1 hk n (.code c::l) st (by simp only[List.all_cons,NA,Bool.and_eq_true];exact ⟨h1,h2⟩) h
  | seq a b =>
   simp only[MS,Bool.and_eq_true]at h1
   simp only[List.cons_append,run]at h ⊢
   exact I1 hk n (.code a :: .code b::l) st (by simp only[List.all_cons,NA,Bool.and_eq_true];exact ⟨h1.1,h1.2,h2⟩) h
  | cond x a b =>
   simp only[MS,Bool.and_eq_true]at h1
   simp only[List.cons_append,run]at h ⊢
   split at h
   ·exact I1 hk n (.code a::l) st (by simp only[List.all_cons,NA,Bool.and_eq_true];exact ⟨h1.1,h2⟩) h
   ·exact I1 hk n (.code b::l) st (by simp only[List.all_cons,NA,Bool.and_eq_true];exact ⟨h1.2,h2⟩) h
   ·cases h
  | block i c =>
   simp only[List.cons_append,run]at h ⊢
   exact I1 hk n (.code c :: .blk i::l) st (by simp only[List.all_cons,NA,Bool.and_eq_true];exact ⟨h1,trivial,h2⟩) h
  | loop c =>
   simp only[List.cons_append,run]at h ⊢
   exact I1 hk n (.code c :: .lp c::l) st (by simp only[List.all_cons,NA,Bool.and_eq_true];exact ⟨h1,h1,h2⟩) h
  | exit i =>
   simp only[List.cons_append,run]at h ⊢
   cases he:DP i l with
   | none=>rw[he]at h;cases h
   | some l' =>
    rw[he]at h
    rw[T8 he]
    exact I1 hk n l' st (T7 he h2) h
theorem YE {l kk:List It} {tm:Tm} {M:Mem} {Q:Tm->Mem->Prop} (hn:l.all NA=true) (h:AA L l tm M (fun tm M=>AA L kk tm M Q)):AA L (l++kk) tm M Q:=by
 intro σ st hr
 obtain ⟨n,c,BD,h1,σ1,tm1,M1,hr1,h2⟩:=h σ st hr
 obtain ⟨m,c2,BW,h3,h4⟩:=h2 σ1 BD hr1
 obtain ⟨c3,g1,g2⟩ : ∃ c3,(C5 L c).le (C5 L c3)/\(C5 L c2).le (C5 L c3):=⟨max c c2,FE (Nat.le_max_left _ _),FE (Nat.le_max_right _ _)⟩
 exact ⟨n+m,c3,BW,I1 (MW g2 (Nat.le_refl _) h3) n l st hn (MW g1 (Nat.le_refl _) h1),h4⟩
end Go.Eng

namespace Go.Eng
open F
attribute [local irreducible] AA AF AR AD B0 AU AX A8 A6 BN AP BK BV CN BI AZ BG BQ AB A7 AJ pw BH BF B9 B8 CI B7 CB BM B3
set_option maxHeartbeats 16000000
variable {L:Lib}
theorem yS:dg 1=[1]:=by rw[IP (by decide)];simp [ET]
theorem Ag2 {N i k:Nat} (hk:k<N) : ∀ t,t∈(List.range N).set i k->t<N:=fun t ht=>by
 rcases List.mem_or_eq_of_mem_set ht with h|h
 ·exact List.mem_range.1 h
 ·omega
theorem UN {z:Nat} {m:List (List Rat)} {i:Nat} {r:List Rat} (h:m[i]? = some r):(B6 z eQ m)[i]? = some (some (z,r.map eQ)):=by
 rw[B6,List.getElem?_map,h];rfl
theorem Adv {z:Nat} {m:List (List Rat)} {i j:Nat} {a b:List Rat}:((B6 z eQ m).set i (some (z,b.map eQ))).set j (some (z,a.map eQ))=B6 z eQ ((m.set i b).set j a):=by
 simp only[B6,List.map_set]
theorem uD {R:List (Option (Nat × List (List AV)))} {e z:Nat} {es:List (List AV)} {K:Nat->List (List AV)->Prop} (h:R[e]? = some (some (z,es))) (hk:K z es):BF R e K:=by
 unfold BF
 exact ⟨z,es,h,hk⟩
theorem qF {α:Type} {l:List α} {i:Nat} {x:α} (h:l[i]? = some x):l.set i x=l:=by
 obtain ⟨h1,rfl⟩:=zS h
 exact List.set_getElem_self h1
end Go.Eng

namespace Go.Eng
open F
attribute [local irreducible] AA AF AR AD B0 AU AX A8 A6 BN AP BK BV CN BI AZ BG BQ AB A7 AJ pw BH BF B9 B8 CI B7 CB BM B3
set_option maxHeartbeats 16000000
variable {L:Lib}
end Go.Eng

namespace Go.Eng
open F
attribute [local irreducible] AA AF AR AD B0 AU AX A8 A6 BN AP BK BV CN BI AZ BG BQ AB A7 AJ pw BH BF B9 B8 CI B7 CB BM B3
set_option maxHeartbeats 16000000
variable {L:Lib}
theorem Ac0 {a b:List (List Rat)} {n w k:Nat} (haw : ∀ r∈a,r.length=n) (hbw : ∀ r∈b,r.length=w) (hab:Ms k a) (hbb:Ms k b):(∀ r∈GV a b,r.length=n+w)/\Ms k (GV a b):=by
 constructor
 ·intro r hr
  obtain ⟨i,hi⟩:=List.getElem?_of_mem hr
  have hil:=(zS hi).1
  simp only[GV,List.length_zipWith]at hil
  obtain ⟨x,hx⟩ : ∃ x,a[i]? = some x:=⟨_,zE (by omega)⟩
  obtain ⟨y,hy⟩ : ∃ y,b[i]? = some y:=⟨_,zE (by omega)⟩
  obtain rfl:=Option.some.inj ((bE hx hy).symm.trans hi)
  rw[List.length_append,haw x (zM hx),hbw y (zM hy)]
 ·intro r hr
  obtain ⟨i,hi⟩:=List.getElem?_of_mem hr
  have hil:=(zS hi).1
  simp only[GV,List.length_zipWith]at hil
  obtain ⟨x,hx⟩ : ∃ x,a[i]? = some x:=⟨_,zE (by omega)⟩
  obtain ⟨y,hy⟩ : ∃ y,b[i]? = some y:=⟨_,zE (by omega)⟩
  obtain rfl:=Option.some.inj ((bE hx hy).symm.trans hi)
  intro z hz
  rcases List.mem_append.1 hz with hz|hz
  ·exact hab.at hx z hz
  ·exact hbb.at hy z hz
end Go.Eng

namespace Go.Eng
open F
attribute [local irreducible] AA AF AR AD B0 AU AX A8 A6 BN AP BK BV CN BI AZ BG BQ AB A7 AJ pw BH BF B9 B8 CI B7 CB BM B3
set_option maxHeartbeats 16000000
variable {L:Lib}
theorem Z7 (N:R09GLib L) (q q':Bool) (a:List (List Rat)) (n w:Nat) (hn:a.length=n) (hw : ∀ r∈a,r.length=w) (h1:1<=n/\n<=52) (h2:1<=w/\w<=52):Ev L 239 [.sl q (GF q' a)] (.bool true):=by
 obtain ⟨r0,hr0⟩ : ∃ r,a[0]? = some r:=⟨_,zE (by omega)⟩
 have hr0':a[(0:Int).toNat]? = some r0:=hr0
 have hl0:=hw r0 (zM hr0)
 refine Ev.x N.LO rfl rfl ?_
 (repeat' (first|(refine AG (fun hc => ?_) (fun hc => ?_)<;>first|(exfalso;omega)|(conv=>whnf))|(refine AW ?_;conv=>whnf)|(refine BL (by assumption) ?_ rfl ?_;omega;conv=>whnf)|(refine AE ?_;conv=>whnf)))
 refine CE (fun i=>n-i) (fun (i:Nat)=>i<=n) (fun i=>[(29,.int .i64 i)]) (fun _=>[]) [] [] 0 (by (conv=>whnf);exact ⟨rfl,rfl,rfl⟩) (by omega) ?_
 intro i p1 ih
 by_cases hi:i<n
 ·obtain ⟨r,hr⟩ : ∃ r,a[i]? = some r:=⟨_,zE (by omega)⟩
  have hr':a[(i:Int).toNat]? = some r:=hr
  have hl:=hw r (zM hr)
  (repeat' (first|(refine AG (fun hc => ?_) (fun hc => ?_)<;>first|(exfalso;omega)|(conv=>whnf))|(refine A0 ?_ ?_;omega;conv=>whnf)|(refine AW ?_;conv=>whnf)|(refine BL (by assumption) ?_ rfl ?_;omega;conv=>whnf)|(refine AE ?_;conv=>whnf)))
  exact A4 [] (by (conv=>whnf);exact ⟨rfl,rfl,rfl⟩) (ih (i+1) (by omega) (by omega))
 ·obtain rfl:i=n:=by omega
  clear ih
  (repeat' (first|(refine AG (fun hc => ?_) (fun hc => ?_)<;>first|(exfalso;omega)|(conv=>whnf))|(refine AE ?_;conv=>whnf)))
  exact IK rfl
theorem Abx (N:R09GLib L) (n:Nat) (hn:1<=n/\n<=52):Ev L 240 [.int .i64 n] (.tup [.sl false (eM (EI n)),.int .i64 0]):=by
 have hO:=R4 N.toRefGLib 0 (by omega)
 have hI:=R4 N.toRefGLib 1 (by omega)
 have hat : ∀ i,i<n->(EI n)[i]? = some (EM n i):=fun i hi=>by simp [EI,hi]
 have htl:(EI n).length=n:=by simp [EI]
 generalize hT:EI n=T at *
 refine Ev.x N.LM rfl rfl ?_
 (repeat' (first|(refine AG (fun hc => ?_) (fun hc => ?_)<;>first|(exfalso;omega)|(conv=>whnf))|(refine AE ?_;conv=>whnf)))
 refine VI 4 4 rfl ?_
 refine CE (fun i=>n-i) (fun (i:Nat)=>i<=n) (fun i=>[(5,.int .i64 i),(4,.row 4 0 1 0 i)]) (fun i=>[(4,4,.mx (B6 3 eQ (T.take i)))]) [] [] 0 (by (conv=>whnf);exact ⟨rfl,rfl,rfl⟩) (by omega) ?_
 intro i p1 ih
 have htk:(T.take i).length=i:=by rw[List.length_take];omega
 by_cases hi:i<n
 ·have hts:=OY (hat i hi)
  generalize T.take i=R0 at *
  (repeat' (first|(refine AG (fun hc => ?_) (fun hc => ?_)<;>first|(exfalso;omega)|(conv=>whnf))|(refine AE ?_;conv=>whnf)))
  refine EB (enc:=eO) none n rfl (by omega) (by omega) ?_
  (conv=>whnf)
  skip
  refine CE (fun j=>n-j) (fun (j:Nat)=>j<=n) (fun j=>[(23,.int .i64 j)]) (fun j=>[(20,20,.rw 3 ((EH (List.replicate j 0) n).map eO))]) [] [] 0 (by first|exact (by (conv=>whnf);exact ⟨rfl,rfl,rfl⟩)|(rw[List.replicate_zero,<-IU];exact (by (conv=>whnf);exact ⟨rfl,rfl,rfl⟩))) (by omega) ?_
  intro j r2 jh
  have htj:(List.replicate j (0:Rat)).length=j:=by simp
  have hlf:=H0 (l:=List.replicate j (0:Rat)) (m:=n) (by omega)
  by_cases hj:j<n
  ·have hs:=IV (l:=List.replicate j (0:Rat)) (m:=n) (x:=((0:Int):Rat)) (by omega)
   rw[htj,show List.replicate j (0:Rat)++[((0:Int):Rat)]=List.replicate (j+1) 0 from List.replicate_succ'.symm]at hs
   generalize EH (List.replicate j (0:Rat)) n=W at *
   (repeat' (first|(refine AG (fun hc => ?_) (fun hc => ?_)<;>first|(exfalso;omega)|(conv=>whnf))|(refine A3 ?_ ?_;omega;conv=>whnf)|(refine AE ?_;conv=>whnf)|(refine AC (hO) ?_;conv=>whnf)))
   refine E9 (enc:=eO) (some ((0:Int):Rat)) rfl (fun e=>by cases e<;>rfl) (by omega) ?_
   (conv=>whnf)
   rw[hs]
   (repeat' (refine A0 ?_ ?_;omega;conv=>whnf))
   exact A4 [] (by (conv=>whnf);exact ⟨rfl,rfl,rfl⟩) (jh (j+1) (by omega) (by omega))
  obtain rfl:j=n:=by omega
  clear jh
  rw[IR (by omega)]
  (repeat' (first|(refine AG (fun hc => ?_) (fun hc => ?_)<;>first|(exfalso;omega)|(conv=>whnf))|(refine A3 ?_ ?_;omega;conv=>whnf)|(refine AE ?_;conv=>whnf)|(refine AC (hI) ?_;conv=>whnf)))
  refine E9 (enc:=eQ) ((1:Int):Rat) rfl (fun _=>rfl) (by omega) ?_
  rw[show (List.replicate j (0:Rat)).set i ((1:Int):Rat)=EM j i from SW j i]
  (conv=>whnf)
  skip
  have hul:=PV j i
  generalize EM j i=u at *
  refine A3 (by rw[List.length_map];omega) ?_
  refine RE (r:=u) (en:=eQ) htk.symm (by omega) (by omega) ?_
  rw[<-hts,show (T.take (i+1)).length=i+1 by rw[List.length_take];omega]
  (conv=>whnf)
  (repeat' (refine A0 ?_ ?_;omega;conv=>whnf))
  exact A4 [(4,38)] (by (conv=>whnf);exact ⟨rfl,rfl,rfl⟩) (ih (i+1) (by omega) (by omega))
 ·obtain rfl:i=n:=by omega
  clear ih
  rw[List.take_of_length_le (by omega)]
  (repeat' (first|(refine AG (fun hc => ?_) (fun hc => ?_)<;>first|(exfalso;omega)|(conv=>whnf))|(refine AE ?_;conv=>whnf)))
  refine RL (fun _=>rfl) rfl htl.symm ?_
  (conv=>whnf)
  exact AY rfl (WD T 0)
theorem kW (N:R09GLib L) (q1 q2 q3 q4:Bool) (a b:List (List Rat)) (p n w k l:Nat) (hal:a.length=p) (haw : ∀ r∈a,r.length=n) (hbl:b.length=n) (hbw : ∀ r∈b,r.length=w) (hp:1<=p/\p<=52) (hn:1<=n/\n<=52) (hw:1<=w/\w<=52) (hab:Ms k a) (hbb:Ms l b) (hB:n*(k+l+1)<2199023255552) :
  Ev L 241 [.sl q1 (GF q2 a),.sl q3 (GF q4 b)] (.tup [.sl false (eM (CD a b w)),.int .i64 0]):=by
 have hVa:=Z7 N q1 q2 a p n hal haw hp hn
 have hVb:=Z7 N q3 q4 b n w hbl hbw hn hw
 have hO:=R4 N.toRefGLib 0 (by omega)
 obtain ⟨r0,hr0⟩ : ∃ r,a[0]? = some r:=⟨_,zE (by omega)⟩
 have hr0':a[(0:Int).toNat]? = some r0:=hr0
 have hl0:=haw r0 (zM hr0)
 obtain ⟨s0,hs0⟩ : ∃ r,b[0]? = some r:=⟨_,zE (by omega)⟩
 have hs0':b[(0:Int).toNat]? = some s0:=hs0
 have hl1:=hbw s0 (zM hs0)
 have hat : ∀ (i:Nat) (r:List Rat),a[i]? = some r->(CD a b w)[i]? = some (EP r b w):=fun i r hr=>by rw[CD,List.getElem?_map,hr];rfl
 have htl:(CD a b w).length=p:=by rw[bX];exact hal
 generalize hT:CD a b w=T at *
 refine Ev.x N.LN rfl rfl ?_
 (repeat' (first|(refine AG (fun hc => ?_) (fun hc => ?_)<;>first|(exfalso;omega)|(conv=>whnf))|(refine AW ?_;conv=>whnf)|(refine BL (by assumption) ?_ rfl ?_;omega;conv=>whnf)|(refine AE ?_;conv=>whnf)|(refine AC (hVa) ?_;conv=>whnf)|(refine AC (hVb) ?_;conv=>whnf)))
 refine VI 6 6 rfl ?_
 refine CE (fun i=>p-i) (fun (i:Nat)=>i<=p) (fun i=>[(31,.int .i64 i),(6,.row 6 0 1 0 i)]) (fun i=>[(6,6,.mx (B6 3 eQ (T.take i)))]) [] [] 0 (by (conv=>whnf);exact ⟨rfl,rfl,rfl⟩) (by omega) ?_
 intro i p1 ih
 have htk:(T.take i).length=i:=by rw[List.length_take];omega
 by_cases hi:i<p
 ·obtain ⟨r,hr⟩ : ∃ r,a[i]? = some r:=⟨_,zE (by omega)⟩
  have hr':a[(i:Int).toNat]? = some r:=hr
  have hrl:=haw r (zM hr)
  have hrb:=hab.at hr
  have hts:=OY (hat i r hr)
  have hmat : ∀ j,j<w->(EP r b w)[j]? = some (BC r (DX b j)):=fun j hj=>by simp [EP,hj]
  have hml:=QR r b w
  generalize T.take i=R0 at *
  generalize EP r b w=M at *
  (repeat' (first|(refine AG (fun hc => ?_) (fun hc => ?_)<;>first|(exfalso;omega)|(conv=>whnf))|(refine AW ?_;conv=>whnf)|(refine BL (by assumption) ?_ rfl ?_;omega;conv=>whnf)|(refine AE ?_;conv=>whnf)))
  refine CE (fun j=>w-j) (fun (j:Nat)=>j<=w) (fun j=>[(38,.int .i64 j),(8,.row 8 0 3 0 j)]) (fun j=>[(8,8,.rw 3 ((M.take j).map eQ))]) [] [] 0 (by (conv=>whnf);exact ⟨rfl,rfl,rfl⟩) (by omega) ?_
  intro j p2 jh
  have htj:(M.take j).length=j:=by rw[List.length_take];omega
  by_cases hj:j<w
  ·have hms:=OY (hmat j hj)
   have hcl:=Y8 b j
   have hcb:Bs l (DX b j):=fun x hx=>by
    obtain ⟨s,hs,rfl⟩:=List.mem_map.1 hx
    obtain ⟨e,he1⟩:=List.getElem?_of_mem hs
    exact (hbb.at he1).at (aL (by rw[hbw s hs];exact hj))
   have hce : ∀ (t:Nat) (s:List Rat) (x:Rat),b[t]? = some s->s[j]? = some x->(DX b j)[t]? = some x:=fun t s x h1 h2=>by
    rw[DX,List.getElem?_map,h1,Option.map_some,List.getD_eq_getElem?_getD,h2];rfl
   generalize DX b j=C at *
   generalize M.take j=M0 at *
   (repeat' (first|(refine AG (fun hc => ?_) (fun hc => ?_)<;>first|(exfalso;omega)|(conv=>whnf))|(refine AW ?_;conv=>whnf)|(refine AE ?_;conv=>whnf)|(refine AC (hO) ?_;conv=>whnf)))
   refine CE (fun t=>n-t) (fun (t:Nat)=>t<=n) (fun t=>[(44,.int .i64 t)]) (fun t=>[(10,10,.bx (eQ (BC (r.take t) (C.take t))))]) [] [] 0 (by first|exact (by (conv=>whnf);exact ⟨rfl,rfl,rfl⟩)|(rw[List.take_zero,List.take_zero];exact (by (conv=>whnf);exact ⟨rfl,rfl,rfl⟩))) (by omega) ?_
   intro t p3 th
   by_cases ht:t<n
   ·obtain ⟨s,hs⟩ : ∃ s,b[t]? = some s:=⟨_,zE (by omega)⟩
    have hs':b[(t:Int).toNat]? = some s:=hs
    have hsl:=hbw s (zM hs)
    obtain ⟨x,hx⟩ : ∃ x,r[t]? = some x:=⟨_,zE (by omega)⟩
    obtain ⟨y,hy⟩ : ∃ y,s[j]? = some y:=⟨_,zE (by omega)⟩
    have hx':r[(t:Int).toNat]? = some x:=hx
    have hy':s[(j:Int).toNat]? = some y:=hy
    have hyb:=(hbb.at hs).at hy
    have hdb:=(hrb.take t).dot (hcb.take t)
    rw[List.length_take,Nat.min_eq_left (by omega)]at hdb
    have hkl:k+l+1<=n*(k+l+1):=Nat.le_mul_of_pos_left _ (by omega)
    have htn:t*(k+l+1)<=n*(k+l+1):=Nat.mul_le_mul_right _ (by omega)
    have hMu:=TZ N.toRefGLib (hrb.at hx) hyb (by omega) (by omega)
    have hAd:=ZV N.toRefGLib hdb ((hrb.at hx).mul hyb) (by omega) (by omega)
    rw[<-ZN hx (hce t s y hs hy)]at hAd
    generalize BC (r.take t) (C.take t)=d0 at *
    generalize hd1:BC (r.take (t+1)) (C.take (t+1))=d1 at hAd
    generalize x*y=xy at *
    (repeat' (first|(refine AG (fun hc => ?_) (fun hc => ?_)<;>first|(exfalso;omega)|(conv=>whnf))|(refine A0 ?_ ?_;omega;conv=>whnf)|(refine BL (by assumption) ?_ rfl ?_;omega;conv=>whnf)|(refine AE ?_;conv=>whnf)|(refine AC (hMu) ?_;conv=>whnf)|(refine AC (hAd) ?_;conv=>whnf)))
    subst hd1
    exact A4 [] (by (conv=>whnf);exact ⟨rfl,rfl,rfl⟩) (th (t+1) (by omega) (by omega))
   ·obtain rfl:t=n:=by omega
    clear th
    rw[ZK hrl]
    (repeat' (first|(refine AG (fun hc => ?_) (fun hc => ?_)<;>first|(exfalso;omega)|(conv=>whnf))|(refine EK ?_;conv=>whnf)|(refine AE ?_;conv=>whnf)))
    refine E2 (enc:=eQ) (BC r C) rfl htj.symm rfl (by omega) (by omega) ?_
    rw[<-hms,show (M.take (j+1)).length=j+1 by rw[List.length_take];omega]
    (conv=>whnf)
    (repeat' (refine A0 ?_ ?_;omega;conv=>whnf))
    exact A4 [(8,68)] (by (conv=>whnf);exact ⟨rfl,rfl,rfl⟩) (jh (j+1) (by omega) (by omega))
  ·obtain rfl:j=w:=by omega
   clear jh
   rw[List.take_of_length_le (by omega)]
   (repeat' (first|(refine AG (fun hc => ?_) (fun hc => ?_)<;>first|(exfalso;omega)|(conv=>whnf))|(refine AE ?_;conv=>whnf)))
   refine A3 (by rw[List.length_map,hml]) ?_
   refine RE (r:=M) (en:=eQ) htk.symm (by omega) (by omega) ?_
   rw[<-hts,show (T.take (i+1)).length=i+1 by rw[List.length_take];omega]
   (conv=>whnf)
   (repeat' (refine A0 ?_ ?_;omega;conv=>whnf))
   exact A4 [(6,73)] (by (conv=>whnf);exact ⟨rfl,rfl,rfl⟩) (ih (i+1) (by omega) (by omega))
 ·obtain rfl:i=p:=by omega
  clear ih
  rw[List.take_of_length_le (by omega)]
  (repeat' (first|(refine AG (fun hc => ?_) (fun hc => ?_)<;>first|(exfalso;omega)|(conv=>whnf))|(refine AE ?_;conv=>whnf)))
  refine RL (fun _=>rfl) rfl htl.symm ?_
  (conv=>whnf)
  exact AY rfl (WD T 0)
end Go.Eng

namespace Go.Eng
open F
attribute [local irreducible] AA AF AR AD B0 AU AX A8 A6 BN AP BK BV CN BI AZ BG BQ AB A7 AJ pw BH BF B9 B8 CI B7 CB BM B3
set_option maxHeartbeats 16000000
variable {L:Lib}
theorem Abf (N:InvGLib L) {x y:Rat} {k l:Nat} (hx:Bt k x) (hy:Bt l y) (hk:k<2199023255552) (hl:l<2199023255552) (h0:y≠0):Ev L 276 [.agg (eQ x),.agg (eQ y)] (.agg (eQ (x/y))):=by
 have hD:=Aa1 N.toRefHLib hx hy hk hl h0
 refine Ev.x N.LI rfl rfl ?_
 (repeat' (first|(refine AG (fun hc => ?_) (fun hc => ?_)<;>first|(exfalso;omega)|(conv=>whnf))|(refine AE ?_;conv=>whnf)|(refine AC (hD) ?_;conv=>whnf)))
 exact AY rfl (DS _)
theorem uG {R:List (Option (Nat × List (List AV)))} {e:Nat} {r:Option (Nat × List (List AV))} {K:Option (Nat × List (List AV))->Prop} (h:R[e]? = some r) (hk:K r):BH R e K:=by
 unfold BH
 exact ⟨r,h,hk⟩
theorem bN {α:Type} {a b:List α} {j:Nat} {x:α} (hl:a.length=b.length) (hx:b[j]? = some x):(a.take j++b.drop j)[j]? = some x:=by
 have h1:=(zS hx).1
 have ht:(a.take j).length=j:=by rw[List.length_take];omega
 rw[List.getElem?_append_right (by omega),ht,Nat.sub_self,List.getElem?_drop]
 exact hx
theorem bO {α:Type} {a b:List α} {j:Nat} {y:α} (hl:a.length=b.length) (hy:a[j]? = some y):(a.take j++b.drop j).set j y=a.take (j+1)++b.drop (j+1):=by
 have h1:=(zS hy).1
 have ht:(a.take j).length=j:=by rw[List.length_take];omega
 rw[List.set_append_right _ _ (by omega),ht,Nat.sub_self,List.drop_eq_getElem_cons (by omega),List.set_cons_zero,List.take_add_one,hy,List.append_assoc]
 rfl
def FW (k0:Nat):Nat->Nat
 | 0=>k0
 | c+1=>4*FW k0 c+1
theorem pL (k0:Nat) {c:Nat} : ∀ d,FW k0 c<=FW k0 (c+d)
 | 0=>Nat.le_refl _
 | d+1=>by
  have:=pL k0 (c:=c) d
  show FW k0 c<=4*FW k0 (c+d)+1
  omega
theorem pM (N:InvGLib L) (q1 q2 q3 q4:Bool) (a b T:List (List Rat)) (n K:Nat) (hn:1<=n/\n<=10) (hK:K<=10000000000) {m:List (List Rat)} {k c:Nat} {d:Rat} {t:List Rat} (hR:FD T n m k c) (hM:Ms K m) (hkn:k<n) (hcn:c<n) (ht:m[k]? = some t) (hp:t.getD c 0≠0) {kk:List It} {Q:Tm->Mem->Prop}
  (hfin : ∀ m2:List (List Rat),FD T n m2 (k+1) (c+1)->Ms (4*K+1) m2->AA L (.lp FX.l1 :: .blk 0::kk) ([(8,.int .i64 ((c+1:Nat):Int)),(6,.int .i64 ((k+1:Nat):Int)),(7,.ptr 901007 0 0 0),(5,.ptr 901005 0 0 0),(0,.row 277003 0 1 0 n),(0+1,.int .i64 n)]++[(1000+38,.int .i64 n),(1000+37,.sl q1 (GF q2 a)),(1000+36,.row 277003 0 1 0 n),(1000+20,.bool false),(1000+19,.int .i64 n),(1000+18,.int .i64 n),(1000+6,.row 277003 0 1 0 n),(1000+0,.sl q1 (GF q2 a)),(1000+(0+1),.sl q3 (GF q4 b))]) [(277003,277003,.mx (B6 3 eQ m2)),(901007,901007,.bx (eQ d)),(901005,901005,.bx [.bool false,.nil,.nil])] Q) :
  AA L (.lp FX.l3 :: .blk 4 :: .code ((((AL.ops FX.r19 false).dr [10,82,83,84,102] []).seq (AL.block 6 FX.l4.loop)).seq ((AL.ops FX.r30 false).dr [103,104,105,155,156] [])) :: .blk 1 :: .code ((AL.ops FX.r4 false).dr [9,25,26,48] []) :: .lp FX.l1 :: .blk 0::kk)
   ([(83,.int .i64 ((0:Nat):Int)),(82,.int .i64 ((n+n:Nat):Int)),(10,.ptr 901010 0 0 0),(8,.int .i64 c),(6,.int .i64 k),(7,.ptr 901007 0 0 0),(5,.ptr 901005 0 0 0),(0,.row 277003 0 1 0 n),(0+1,.int .i64 n)]++[(1000+38,.int .i64 n),(1000+37,.sl q1 (GF q2 a)),(1000+36,.row 277003 0 1 0 n),(1000+20,.bool false),(1000+19,.int .i64 n),(1000+18,.int .i64 n),(1000+6,.row 277003 0 1 0 n),(1000+0,.sl q1 (GF q2 a)),(1000+(0+1),.sl q3 (GF q4 b))])
   [(277003,277003,.mx (B6 3 eQ m)),(901007,901007,.bx (eQ d)),(901010,901010,.bx (eQ (t.getD c 0))),(901005,901005,.bx [.bool false,.nil,.nil])] Q:=by
 have hml:=hR.len
 have htl:=hR.wid t (zM ht)
 have htb:=hM.at ht
 have hpb:=Bs.getD htb c
 have hS0:=MK.start hR ht hp (fun q r hq=>hM.at hq)
 have hRi:=UN (z:=3) ht
 have hRn:(B6 3 eQ m).length=n:=by simp only[B6,List.length_map];omega
 have hRf:(B6 3 eQ m).set k (some (3,(t.map (· / t.getD c 0)).map eQ))=B6 3 eQ (m.set k (t.map (· / t.getD c 0))):=by simp only[B6,List.map_set]
 have hdl:(t.map (· / t.getD c 0)).length=n+n:=by rw[List.length_map];exact htl
 have hda : ∀ (j:Nat) (x:Rat),t[j]? = some x->(t.map (· / t.getD c 0))[j]? = some (x/t.getD c 0):=fun j x hx=>by rw[List.getElem?_map,hx];rfl
 generalize t.map (· / t.getD c 0)=u at *
 generalize t.getD c 0=p at *
 refine YE (l:=[_,_]) rfl ?_
 generalize B6 3 eQ m=R0 at *
 have hR00:R0.set k (some (3,t.map eQ))=R0:=qF hRi
 refine CE (fun j=>n+n-j) (fun (j:Nat)=>j<=n+n) (fun j=>[(83,.int .i64 j)]) (fun j=>[(277003,277003,.mx (R0.set k (some (3,(u.take j++t.drop j).map eQ))))]) [] [] 0 (by first|exact (by (conv=>whnf);exact ⟨rfl,rfl,rfl⟩)|(rw[List.take_zero,List.drop_zero,List.nil_append,hR00];exact (by (conv=>whnf);exact ⟨rfl,rfl,rfl⟩))) (by omega) ?_
 intro j j1 jh
 have hcl:(u.take j++t.drop j).length=n+n:=by rw[List.length_append,List.length_take,List.length_drop];omega
 by_cases hj:j<n+n
 ·obtain ⟨x,hx⟩ : ∃ x,t[j]? = some x:=⟨_,zE (by omega)⟩
  have hma:=bN (a:=u) (by omega) hx
  have hms:=bO (a:=u) (b:=t) (by omega) (hda j x hx)
  have hO:=Abf N (htb.at hx) hpb (by omega) (by omega) hp
  generalize u.take j++t.drop j=cm at *
  (repeat' (first|(refine AG (fun hc => ?_) (fun hc => ?_)<;>first|(exfalso;omega)|(conv=>whnf))|(refine A3 ?_ ?_;omega;conv=>whnf)|(refine AE ?_;conv=>whnf)))
  refine S8 (by omega) (by omega) ?_
  (conv=>whnf)
  (repeat' (first|(refine A3 ?_ ?_;omega;conv=>whnf)|fail))
  refine S8 (by omega) (by omega) ?_
  (conv=>whnf)
  skip
  refine A3 (by rw[List.length_map];omega) ?_
  (conv=>whnf)
  skip
  refine S6 (by omega) (by omega) ?_
  (conv=>whnf)
  (repeat' (refine HI ?_ (fun _=>rfl) (fun v hv => ?_);omega;conv=>whnf))
  cases hma.symm.trans hv
  (repeat' (refine AC (hO) ?_;conv=>whnf))
  refine A3 (by rw[List.length_map];omega) ?_
  (conv=>whnf)
  skip
  refine S6 (by omega) (by omega) ?_
  (conv=>whnf)
  refine E9 (enc:=eQ) (x/p) rfl (fun _=>rfl) (by omega) ?_
  rw[hms]
  (conv=>whnf)
  refine eT (by omega) (by rw[List.length_map,List.length_map,<-hms,List.length_set]) ?_
  (conv=>whnf)
  (repeat' (refine A0 ?_ ?_;omega;conv=>whnf))
  exact A4 [] (by (conv=>whnf);exact ⟨rfl,rfl,rfl⟩) (jh (j+1) (by omega) (by omega))
 ·have ej:j=n+n:=by omega
  clear jh
  rw[ej,List.take_of_length_le (by omega),List.drop_of_length_le (by omega),List.append_nil,hRf]
  clear hcl hj j1 ej j hRf hRi hRn hR00 hda hdl
  have hm2:=hS0.red.len
  generalize m.set k u=m2 at *
  (repeat' (first|(refine AG (fun hc => ?_) (fun hc => ?_)<;>first|(exfalso;omega)|(conv=>whnf))|(refine AE ?_;conv=>whnf)))
  refine YE (l:=[_,_]) rfl ?_
  clear ht hM htb hR hml hpb htl t hp
  have hul:=hS0.red.wid u (zM hS0.ht)
  have hub:=hS0.bt
  refine HG (fun _ i=>n-i) (fun (m:List (List Rat)) (i:Nat)=>MK T n K k c u m i/\i<=n) (fun _ i=>[(104,.int .i64 i)]) (fun m _=>[(277003,277003,.mx (B6 3 eQ m))]) [] [] m2 0 (by (conv=>whnf);exact ⟨rfl,rfl,rfl⟩) ⟨hS0,by omega⟩ ?_
  clear hS0 hm2
  intro m i ⟨hS,i1⟩ ih
  have hml:=hS.red.len
  by_cases hi:i<n
  ·obtain ⟨rq,hq0⟩ : ∃ r,m[i]? = some r:=⟨_,zE (by omega)⟩
   have hql:=hS.red.wid rq (zM hq0)
   have hqb:Bs (2*K) rq:=by
    by_cases e:i=k
    ·have h1:=hS.ht
     rw[<-e]at h1
     cases h1.symm.trans hq0
     exact hub
    ·exact fun y hy=>(hS.hi i rq (Nat.le_refl _) e hq0 y hy).le (by omega)
   have hqc0:rq[c]? = some (rq.getD c 0):=aL (by omega)
   have hfb:=hqb.at hqc0
   obtain ⟨sg,hSg,hz⟩:=kZ N.toRefHLib hfb (by omega)
   by_cases hik:i=k
   ·have hst:=hS.same (fun h=>absurd hik h)
    generalize rq.getD c 0=f at *
    (repeat' (first|(refine AG (fun hc => ?_) (fun hc => ?_)<;>first|(exfalso;omega)|(conv=>whnf))|(refine A3 ?_ ?_;omega;conv=>whnf)|(refine FY ?_ (fun r hr => ?_);omega;conv=>whnf)|(refine AE ?_;conv=>whnf)))
    cases hq0.symm.trans hr
    refine A3 (by rw[List.length_map];omega) ?_
    (conv=>whnf)
    (repeat' (first|(refine AG (fun hc => ?_) (fun hc => ?_)<;>first|(exfalso;omega)|(conv=>whnf))|(refine A0 ?_ ?_;omega;conv=>whnf)|(refine HI ?_ (fun _=>rfl) (fun v hv => ?_);omega;conv=>whnf)|(refine GE (by assumption) ?_;conv=>whnf)))
    exact A4 [] (by (conv=>whnf);exact ⟨rfl,rfl,rfl⟩) (ih m (i+1) (by omega) ⟨hst,by omega⟩)
   ·by_cases hsg:sg=0
    ·have hf0:=hz.1 hsg
     have hst:=hS.same (fun _ r h=>by cases hq0.symm.trans h;exact hf0)
     generalize rq.getD c 0=f at *
     (repeat' (first|(refine AG (fun hc => ?_) (fun hc => ?_)<;>first|(exfalso;omega)|(conv=>whnf))|(refine A3 ?_ ?_;omega;conv=>whnf)|(refine FY ?_ (fun r hr => ?_);omega;conv=>whnf)|(refine AE ?_;conv=>whnf)))
     cases hq0.symm.trans hr
     refine A3 (by rw[List.length_map];omega) ?_
     (conv=>whnf)
     (repeat' (first|(refine AG (fun hc => ?_) (fun hc => ?_)<;>first|(exfalso;omega)|(conv=>whnf))|(refine HI ?_ (fun _=>rfl) (fun v hv => ?_);omega;conv=>whnf)|(refine GE (by assumption) ?_;conv=>whnf)))
     cases hqc0.symm.trans hv
     (repeat' (first|(refine AG (fun hc => ?_) (fun hc => ?_)<;>first|(exfalso;omega)|(conv=>whnf))|(refine A0 ?_ ?_;omega;conv=>whnf)|(refine AC (hSg) ?_;conv=>whnf)))
     exact A4 [] (by (conv=>whnf);exact ⟨rfl,rfl,rfl⟩) (ih m (i+1) (by omega) ⟨hst,by omega⟩)
    ·have hst:=hS.step hq0 hik
     have hRi:=UN (z:=3) hq0
     have hRk:=UN (z:=3) hS.ht
     have hRn:(B6 3 eQ m).length=n:=by simp only[B6,List.length_map];omega
     have hRf:(B6 3 eQ m).set i (some (3,(cmb (rq.getD c 0) rq u).map eQ))=B6 3 eQ (m.set i (cmb (rq.getD c 0) rq u)):=by simp only[B6,List.map_set]
     have hcl:(cmb (rq.getD c 0) rq u).length=n+n:=by rw[Y7 (by omega)];exact hql
     have hca : ∀ (j:Nat) (x y:Rat),rq[j]? = some x->u[j]? = some y->(cmb (rq.getD c 0) rq u)[j]? = some (x-rq.getD c 0*y):=fun j x y h1 h2=>gS h1 h2
     generalize cmb (rq.getD c 0) rq u=cb at *
     generalize rq.getD c 0=f at *
     (repeat' (first|(refine AG (fun hc => ?_) (fun hc => ?_)<;>first|(exfalso;omega)|(conv=>whnf))|(refine A3 ?_ ?_;omega;conv=>whnf)|(refine FY ?_ (fun r hr => ?_);omega;conv=>whnf)|(refine AE ?_;conv=>whnf)))
     cases hq0.symm.trans hr
     refine A3 (by rw[List.length_map];omega) ?_
     (conv=>whnf)
     (repeat' (first|(refine AG (fun hc => ?_) (fun hc => ?_)<;>first|(exfalso;omega)|(conv=>whnf))|(refine HI ?_ (fun _=>rfl) (fun v hv => ?_);omega;conv=>whnf)|(refine GE (by assumption) ?_;conv=>whnf)))
     cases hqc0.symm.trans hv
     (repeat' (first|(refine AG (fun hc => ?_) (fun hc => ?_)<;>first|(exfalso;omega)|(conv=>whnf))|(refine A3 ?_ ?_;omega;conv=>whnf)|(refine FY ?_ (fun r hr => ?_);omega;conv=>whnf)|(refine AC (hSg) ?_;conv=>whnf)))
     cases hq0.symm.trans hr
     rw[show (rq.map eQ).length=n+n by rw[List.length_map];exact hql]
     generalize B6 3 eQ m=R1 at *
     have hR00:R1.set i (some (3,rq.map eQ))=R1:=qF hRi
     refine CE (fun j=>n+n-j) (fun (j:Nat)=>j<=n+n) (fun j=>[(127,.int .i64 j)]) (fun j=>[(277003,277003,.mx (R1.set i (some (3,(cb.take j++rq.drop j).map eQ))))]) [] [] 0 (by first|exact (by (conv=>whnf);exact ⟨rfl,rfl,rfl⟩)|(rw[List.take_zero,List.drop_zero,List.nil_append,hR00];exact (by (conv=>whnf);exact ⟨rfl,rfl,rfl⟩))) (by omega) ?_
     intro j j1 jh
     have hcml:(cb.take j++rq.drop j).length=n+n:=by rw[List.length_append,List.length_take,List.length_drop];omega
     by_cases hj:j<n+n
     ·obtain ⟨x,hx⟩ : ∃ x,rq[j]? = some x:=⟨_,zE (by omega)⟩
      obtain ⟨y,hy⟩ : ∃ y,u[j]? = some y:=⟨_,zE (by omega)⟩
      have hma:=bN (a:=cb) (by omega) hx
      have hms:=bO (a:=cb) (b:=rq) (by omega) (hca j x y hx hy)
      have hMu:=TZ N.toRefGLib hfb (hub.at hy) (by omega) (by omega)
      have hSu:=AbG N.toRefHLib (hqb.at hx) (hfb.mul (hub.at hy)) (by omega) (by omega)
      generalize cb.take j++rq.drop j=cm at *
      have hRk2:(R1.set i (some (3,cm.map eQ)))[k]? = some (some (3,u.map eQ)):=by rw[List.getElem?_set,if_neg hik];exact hRk
      (repeat' (first|(refine AG (fun hc => ?_) (fun hc => ?_)<;>first|(exfalso;omega)|(conv=>whnf))|(refine A3 ?_ ?_;omega;conv=>whnf)|(refine AE ?_;conv=>whnf)))
      refine S8 (by omega) (by omega) ?_
      (conv=>whnf)
      (repeat' (first|(refine A3 ?_ ?_;omega;conv=>whnf)|fail))
      refine S8 (by omega) (by omega) ?_
      (conv=>whnf)
      skip
      refine A3 (by rw[List.length_map];omega) ?_
      (conv=>whnf)
      skip
      refine S6 (by omega) (by omega) ?_
      (conv=>whnf)
      (repeat' (first|(refine A3 ?_ ?_;omega;conv=>whnf)|(refine HI ?_ (fun _=>rfl) (fun v hv => ?_);omega;conv=>whnf)))
      cases hma.symm.trans hv
      skip
      refine uG (r:=some (3,u.map eQ)) (by rw[show 0+((k:Nat):Int).toNat=k by omega];exact hRk2) ?_
      (conv=>whnf)
      skip
      refine A3 (by rw[List.length_map];omega) ?_
      (conv=>whnf)
      skip
      refine uD (by rw[show 0+((k:Nat):Int).toNat=k by omega];exact hRk2) ?_
      (conv=>whnf)
      (repeat' (refine HI ?_ (fun _=>rfl) (fun v hv => ?_);omega;conv=>whnf))
      cases hy.symm.trans hv
      (repeat' (first|(refine AC (hMu) ?_;conv=>whnf)|(refine AC (hSu) ?_;conv=>whnf)))
      refine A3 (by rw[List.length_map];omega) ?_
      (conv=>whnf)
      skip
      refine S6 (by omega) (by omega) ?_
      (conv=>whnf)
      refine E9 (enc:=eQ) (x-f*y) rfl (fun _=>rfl) (by omega) ?_
      rw[hms]
      (conv=>whnf)
      refine eT (by omega) (by rw[List.length_map,List.length_map,<-hms,List.length_set]) ?_
      (conv=>whnf)
      (repeat' (refine A0 ?_ ?_;omega;conv=>whnf))
      exact A4 [] (by (conv=>whnf);exact ⟨rfl,rfl,rfl⟩) (jh (j+1) (by omega) (by omega))
     ·have ej:j=n+n:=by omega
      clear jh
      rw[ej,List.take_of_length_le (by omega),List.drop_of_length_le (by omega),List.append_nil,hRf]
      (repeat' (first|(refine AG (fun hc => ?_) (fun hc => ?_)<;>first|(exfalso;omega)|(conv=>whnf))|(refine A0 ?_ ?_;omega;conv=>whnf)|(refine AE ?_;conv=>whnf)))
      exact A4 [] (by (conv=>whnf);exact ⟨rfl,rfl,rfl⟩) (ih (m.set i cb) (i+1) (by omega) ⟨hst,by omega⟩)
  ·have ei:i=n:=by omega
   rw[ei]at hS
   obtain ⟨g1,g2⟩:=hS.fin hcn
   clear ih
   (repeat' (first|(refine AG (fun hc => ?_) (fun hc => ?_)<;>first|(exfalso;omega)|(conv=>whnf))|(refine A0 ?_ ?_;omega;conv=>whnf)|(refine AE ?_;conv=>whnf)))
   exact A4 [] (by (conv=>whnf);exact ⟨rfl,rfl,rfl⟩) (hfin m g1 (fun r hr=>by
    obtain ⟨q,hq⟩:=List.getElem?_of_mem hr
    exact g2 q r hq))
theorem Af4 (N:InvGLib L) (q1 q2 q3 q4:Bool) (a b T:List (List Rat)) (n k0:Nat) (hn:1<=n/\n<=10) (hB:10*FW k0 n<=100000000000) {m0:List (List Rat)} (hR0:FD T n m0 0 0) (hM0:Ms k0 m0) {kk:List It} {Q:Tm->Mem->Prop}
  (hfin : ∀ (m:List (List Rat)) (k c:Nat) (d:Rat),FD T n m k c->(k<n\/k=n/\c=n)->Ms (FW k0 n) m->Bt 100000000000 d->AA L kk ([(8,.int .i64 c),(6,.int .i64 k),(7,.ptr 901007 0 0 0),(5,.ptr 901005 0 0 0),(0,.row 277003 0 1 0 n),(0+1,.int .i64 n)]++[(1000+38,.int .i64 n),(1000+37,.sl q1 (GF q2 a)),(1000+36,.row 277003 0 1 0 n),(1000+20,.bool false),(1000+19,.int .i64 n),(1000+18,.int .i64 n),(1000+6,.row 277003 0 1 0 n),(1000+0,.sl q1 (GF q2 a)),(1000+(0+1),.sl q3 (GF q4 b))]) [(277003,277003,.mx (B6 3 eQ m)),(901007,901007,.bx (eQ d)),(901005,901005,.bx [.bool false,.nil,.nil])] Q) :
  AA L (.lp FX.l1 :: .blk 0::kk) ([(8,.int .i64 ((0:Nat):Int)),(6,.int .i64 ((0:Nat):Int)),(7,.ptr 901007 0 0 0),(5,.ptr 901005 0 0 0),(0,.row 277003 0 1 0 n),(0+1,.int .i64 n)]++[(1000+38,.int .i64 n),(1000+37,.sl q1 (GF q2 a)),(1000+36,.row 277003 0 1 0 n),(1000+20,.bool false),(1000+19,.int .i64 n),(1000+18,.int .i64 n),(1000+6,.row 277003 0 1 0 n),(1000+0,.sl q1 (GF q2 a)),(1000+(0+1),.sl q3 (GF q4 b))]) [(277003,277003,.mx (B6 3 eQ m0)),(901007,901007,.bx (eQ ((1:Int):Rat))),(901005,901005,.bx [.bool false,.nil,.nil])] Q:=by
 refine YE (l:=[_,_]) rfl ?_
 refine VH (fun _ c _ _=>n-c) (fun (m:List (List Rat)) (c k:Nat) (d:Rat)=>FD T n m k c/\Ms (FW k0 c) m/\Bt (c*FW k0 n) d) (fun _ c k _=>[(8,.int .i64 c),(6,.int .i64 k)]) (fun m _ _ d=>[(277003,277003,.mx (B6 3 eQ m)),(901007,901007,.bx (eQ d))]) [24] [] m0 0 0 ((1:Int):Rat) (by (conv=>whnf);exact ⟨rfl,rfl,rfl⟩) ⟨hR0,hM0,Bt.one _⟩ ?_
 intro m c k d ⟨hR,hM,hd⟩ eh
 have hml:=hR.len
 have hkc:=hR.le
 have hcn':=hR.cn
 have hKc:=pL k0 (c:=c) (n-c)
 rw[show c+(n-c)=n by omega]at hKc
 have hcX:c*FW k0 n<=10*FW k0 n:=Nat.mul_le_mul_right _ (by omega)
 by_cases hcn:c<n/\k<n
 ·(repeat' (first|(refine AG (fun hc => ?_) (fun hc => ?_)<;>first|(exfalso;omega)|(conv=>whnf))|(refine AE ?_;conv=>whnf)))
  refine CE (fun i=>n-i) (fun (i:Nat)=>k<=i/\i<=n) (fun i=>[(9,.int .i64 i)]) (fun _=>[]) [] [] k (by (conv=>whnf);exact ⟨rfl,rfl,rfl⟩) ⟨Nat.le_refl _,by omega⟩ ?_
  intro i ⟨i1,i2⟩ ih
  by_cases hi:i<n
  ·obtain ⟨rp,hr0⟩ : ∃ r,m[i]? = some r:=⟨_,zE (by omega)⟩
   have hrl:=hR.wid rp (zM hr0)
   have hrc0:rp[c]? = some (rp.getD c 0):=aL (by omega)
   obtain ⟨sg,hSg,hz⟩:=kZ N.toRefHLib (hM.at hr0 _ (zM hrc0)) (by omega)
   generalize hrcv:rp.getD c 0=rc at *
   by_cases hsg:sg=0
   ·(repeat' (first|(refine AG (fun hc => ?_) (fun hc => ?_)<;>first|(exfalso;omega)|(conv=>whnf))|(refine A3 ?_ ?_;omega;conv=>whnf)|(refine FY ?_ (fun r hr => ?_);omega;conv=>whnf)|(refine AE ?_;conv=>whnf)))
    cases hr0.symm.trans hr
    refine A3 (by rw[List.length_map];omega) ?_
    (conv=>whnf)
    (repeat' (first|(refine HI ?_ (fun _=>rfl) (fun v hv => ?_);omega;conv=>whnf)|(refine GE (by assumption) ?_;conv=>whnf)))
    cases hrc0.symm.trans hv
    (repeat' (first|(refine AG (fun hc => ?_) (fun hc => ?_)<;>first|(exfalso;omega)|(conv=>whnf))|(refine A0 ?_ ?_;omega;conv=>whnf)|(refine AC (hSg) ?_;conv=>whnf)))
    exact A4 [] (by (conv=>whnf);exact ⟨rfl,rfl,rfl⟩) (ih (i+1) (by omega) ⟨by omega,by omega⟩)
   ·clear ih
    have hnz:rc≠0:=fun e=>hsg (hz.2 e)
    obtain ⟨t,ht0⟩ : ∃ t,m[k]? = some t:=⟨_,zE (by omega)⟩
    have hKc2:=hM.at hr0 _ (zM hrc0)
    by_cases hik:i=k
    ·have hMu:=TZ N.toRefGLib hd hKc2 (by omega) (by omega)
     have hdB:Bt ((c+1)*FW k0 n) (d*rc):=(hd.mul hKc2).le (by rw[Nat.succ_mul];omega)
     subst hik
     (repeat' (first|(refine AG (fun hc => ?_) (fun hc => ?_)<;>first|(exfalso;omega)|(conv=>whnf))|(refine A3 ?_ ?_;omega;conv=>whnf)|(refine FY ?_ (fun r hr => ?_);omega;conv=>whnf)|(refine AE ?_;conv=>whnf)))
     cases hr0.symm.trans hr
     refine A3 (by rw[List.length_map];omega) ?_
     (conv=>whnf)
     (repeat' (first|(refine HI ?_ (fun _=>rfl) (fun v hv => ?_);omega;conv=>whnf)|(refine GE (by assumption) ?_;conv=>whnf)))
     cases hrc0.symm.trans hv
     (repeat' (first|(refine AG (fun hc => ?_) (fun hc => ?_)<;>first|(exfalso;omega)|(conv=>whnf))|(refine A3 ?_ ?_;omega;conv=>whnf)|(refine FY ?_ (fun r hr => ?_);omega;conv=>whnf)|(refine AC (hSg) ?_;conv=>whnf)))
     cases hr0.symm.trans hr
     refine A3 (by rw[List.length_map];omega) ?_
     (conv=>whnf)
     (repeat' (first|(refine HI ?_ (fun _=>rfl) (fun v hv => ?_);omega;conv=>whnf)|(refine GE (by assumption) ?_;conv=>whnf)))
     cases hrc0.symm.trans hv
     (repeat' (first|(refine A3 ?_ ?_;omega;conv=>whnf)|(refine FY ?_ (fun r hr => ?_);omega;conv=>whnf)|(refine AC (hMu) ?_;conv=>whnf)))
     cases hr0.symm.trans hr
     rw[show (rp.map eQ).length=n+n by rw[List.length_map];exact hrl]
     subst hrcv
     exact A4 [] (by (conv=>whnf);exact ⟨rfl,rfl,rfl⟩) (pM N q1 q2 q3 q4 a b T n (FW k0 c) hn (by omega) hR hM hcn.2 hcn.1 hr0 hnz fun m2 g1 g2=>A4 [] (by (conv=>whnf);exact ⟨rfl,rfl,rfl⟩) (eh m2 (c+1) (i+1) _ (by omega) ⟨g1,g2,hdB⟩))
    ·have hNg:=Z2 N.toRefHLib hd (by omega)
     have hMu:=TZ N.toRefGLib (Bt.negL hd) hKc2 (by omega) (by omega)
     have hdB:Bt ((c+1)*FW k0 n) (-d*rc):=((Bt.negL hd).mul hKc2).le (by rw[Nat.succ_mul];omega)
     refine sR 24 ?_
     (conv=>whnf)
     (repeat' (first|(refine AG (fun hc => ?_) (fun hc => ?_)<;>first|(exfalso;omega)|(conv=>whnf))|(refine A3 ?_ ?_;omega;conv=>whnf)|(refine FY ?_ (fun r hr => ?_);omega;conv=>whnf)))
     cases hr0.symm.trans hr
     refine A3 (by rw[List.length_map];omega) ?_
     (conv=>whnf)
     (repeat' (first|(refine HI ?_ (fun _=>rfl) (fun v hv => ?_);omega;conv=>whnf)|(refine GE (by assumption) ?_;conv=>whnf)))
     cases hrc0.symm.trans hv
     (repeat' (first|(refine AG (fun hc => ?_) (fun hc => ?_)<;>first|(exfalso;omega)|(conv=>whnf))|(refine A3 ?_ ?_;omega;conv=>whnf)|(refine FY ?_ (fun r hr => ?_);omega;conv=>whnf)|(refine GE (by assumption) ?_;conv=>whnf)|(refine AC (hSg) ?_;conv=>whnf)))
     refine A3 ⟨rfl,by simp only[B6,List.length_map];omega⟩ ?_
     (conv=>whnf)
     (repeat' (first|(refine A3 ?_ ?_;omega;conv=>whnf)|(refine GE (by assumption) ?_;conv=>whnf)))
     rw[show 0+((i:Nat):Int).toNat=i by omega,show 0+((k:Nat):Int).toNat=k by omega]
     refine A3 ⟨rfl,by simp only[B6,List.length_map,List.length_set,List.length_range];omega,Ag2 (by simp only[B6,List.length_map];omega)⟩ ?_
     (conv=>whnf)
     refine sP (k:=277003) (i:=i) (j:=k) rfl (UN hr0) (UN ht0) rfl rfl ?_
     rw[Adv]
     have hR2:=hR.swap hr0 ht0 i1
     have hM2:Ms (FW k0 c) ((m.set i t).set k rp):=fun x hx=>by
      rcases List.mem_or_eq_of_mem_set hx with h|rfl
      ·rcases List.mem_or_eq_of_mem_set h with h|rfl
       ·exact hM x h
       ·exact hM.at ht0
      ·exact hM.at hr0
     have hk2:((m.set i t).set k rp)[k]? = some rp:=by rw[List.getElem?_set,if_pos rfl,if_pos (by rw[List.length_set];omega)]
     have hml2:=hR2.len
     generalize (m.set i t).set k rp=m1 at *
     (repeat' (first|(refine A3 ?_ ?_;omega;conv=>whnf)|(refine FY ?_ (fun r hr => ?_);omega;conv=>whnf)|(refine AE ?_;conv=>whnf)|(refine AC (hNg) ?_;conv=>whnf)))
     cases hk2.symm.trans hr
     refine A3 (by rw[List.length_map];omega) ?_
     (conv=>whnf)
     (repeat' (first|(refine HI ?_ (fun _=>rfl) (fun v hv => ?_);omega;conv=>whnf)|(refine GE (by assumption) ?_;conv=>whnf)))
     cases hrc0.symm.trans hv
     (repeat' (first|(refine A3 ?_ ?_;omega;conv=>whnf)|(refine FY ?_ (fun r hr => ?_);omega;conv=>whnf)|(refine AC (hMu) ?_;conv=>whnf)))
     cases hk2.symm.trans hr
     rw[show (rp.map eQ).length=n+n by rw[List.length_map];exact hrl]
     subst hrcv
     exact A4 [] (by (conv=>whnf);exact ⟨rfl,rfl,rfl⟩) (pM N q1 q2 q3 q4 a b T n (FW k0 c) hn (by omega) hR2 hM2 hcn.2 hcn.1 hk2 hnz fun m2 g1 g2=>A4 [] (by (conv=>whnf);exact ⟨rfl,rfl,rfl⟩) (eh m2 (c+1) (k+1) _ (by omega) ⟨g1,g2,hdB⟩))
  ·have ei:i=n:=by omega
   clear ih
   (repeat' (first|(refine AG (fun hc => ?_) (fun hc => ?_)<;>first|(exfalso;omega)|(conv=>whnf))|(refine A0 ?_ ?_;omega;conv=>whnf)|(refine AE ?_;conv=>whnf)))
   exact A4 [] (by (conv=>whnf);exact ⟨rfl,rfl,rfl⟩) (eh m (c+1) k d (by omega) ⟨hR.skip hcn.1,hM.le (show FW k0 c<=4*FW k0 c+1 by omega),hd.le (Nat.mul_le_mul_right _ (by omega))⟩)
 ·clear eh
  have hlast:k<n\/k=n/\c=n:=by omega
  (repeat' (first|(refine AG (fun hc => ?_) (fun hc => ?_)<;>first|(exfalso;omega)|(conv=>whnf))|(refine AE ?_;conv=>whnf)))
  exact A4 [] (by (conv=>whnf);exact ⟨rfl,rfl,rfl⟩) (hfin m k c d hR hlast (hM.le hKc) (hd.le (by omega)))
theorem AaZ (N:InvGLib L) (q1 q2 q3 q4:Bool) (a b:List (List Rat)) (n k:Nat) (hT:Sq n a) (hbid:b=EI n) (hn:1<=n/\n<=10) (hab:Ms k a) (hk:k<=1000) (hB:10*FW k n<=100000000000) :
  ∃ v,Ev L 278 [.sl q1 (GF q2 a),.sl q3 (GF q4 b)] v/\(v = .tup [.sl false [],.int .i64 11] \/ ∃ U:List (List Rat),v = .tup [.sl false (eM U),.int .i64 0]/\U.length=n/\(∀ r∈U,r.length=n) /\ ∀ v:List Rat,v.length=n->BZ U (BZ a v)=v):=by
 have hal:=hT.l
 have haw : ∀ r∈a,r.length=n:=hT.r
 have hbl:b.length=n:=by rw[hbid];simp [EI]
 have hbw : ∀ r∈b,r.length=n:=by
  rw[hbid];intro r hr
  obtain ⟨i,_,rfl⟩:=List.mem_map.1 hr
  exact PV _ _
 have hbb:Ms k b:=by rw[hbid];exact Ms.id n k
 have hR0:FD a n (GV a b) 0 0:=by rw[hbid];exact FD.start hT
 have hjl:(GV a b).length=n:=by simp [GV,hal,hbl]
 obtain ⟨hjw,hjb⟩:=Ac0 haw hbw hab hbb
 have hI:=R4 N.toRefGLib 1 (by omega)
 refine Ev.xE N.LP rfl rfl ?_
 (repeat' (refine AE ?_;conv=>whnf))
 refine E6 1000 N.LQ rfl rfl ?_
 (repeat' (first|(refine AW ?_;conv=>whnf)|(refine AE ?_;conv=>whnf)))
 refine VI 277003 277003 rfl ?_
 refine CE (fun i=>n-i) (fun (i:Nat)=>i<=n) (fun i=>[(11,.int .i64 i),(3,.row 277003 0 1 0 i)]) (fun i=>[(277003,277003,.mx (B6 3 eQ (a.take i)))]) [] [] 0 (by (conv=>whnf);exact ⟨rfl,rfl,rfl⟩) (by omega) ?_
 intro i p1 ih
 have htk:(a.take i).length=i:=by rw[List.length_take];omega
 by_cases hi:i<n
 ·obtain ⟨r,hr⟩ : ∃ r,a[i]? = some r:=⟨_,zE (by omega)⟩
  have hr':a[(i:Int).toNat]? = some r:=hr
  have hrl:=haw r (zM hr)
  have hrb:=hab.at hr
  have hts:=OY hr
  generalize a.take i=R0 at *
  (repeat' (first|(refine AG (fun hc => ?_) (fun hc => ?_)<;>first|(exfalso;omega)|(conv=>whnf))|(refine AW ?_;conv=>whnf)|(refine BL (by assumption) ?_ rfl ?_;omega;conv=>whnf)|(refine AE ?_;conv=>whnf)))
  refine CE (fun j=>n-j) (fun (j:Nat)=>j<=n) (fun j=>[(17,.int .i64 j),(6,.row 277006 0 3 0 j)]) (fun j=>[(277006,277006,.rw 3 ((r.take j).map eQ))]) [] [] 0 (by (conv=>whnf);exact ⟨rfl,rfl,rfl⟩) (by omega) ?_
  intro j p2 jh
  have htj:(r.take j).length=j:=by rw[List.length_take];omega
  by_cases hj:j<n
  ·obtain ⟨x,hx⟩ : ∃ x,r[j]? = some x:=⟨_,zE (by omega)⟩
   have hx':r[(j:Int).toNat]? = some x:=hx
   have hms:=OY hx
   have hT:=WS N.toRefGLib (hrb.at hx) (by omega)
   generalize r.take j=M0 at *
   (repeat' (first|(refine AG (fun hc => ?_) (fun hc => ?_)<;>first|(exfalso;omega)|(conv=>whnf))|(refine BL (by assumption) ?_ rfl ?_;omega;conv=>whnf)|(refine EK ?_;conv=>whnf)|(refine AE ?_;conv=>whnf)|(refine AC (hT) ?_;conv=>whnf)))
   refine E2 (enc:=eQ) x rfl htj.symm rfl (by omega) (by omega) ?_
   (conv=>whnf)
   (repeat' (refine A0 ?_ ?_;omega;conv=>whnf))
   rw[<-hms,show (r.take (j+1)).length=j+1 by rw[List.length_take];omega]
   exact A4 [(277006,277025)] (by (conv=>whnf);exact ⟨rfl,rfl,rfl⟩) (jh (j+1) (by omega) (by omega))
  ·obtain rfl:j=n:=by omega
   clear jh
   rw[List.take_of_length_le (by omega)]
   (repeat' (first|(refine AG (fun hc => ?_) (fun hc => ?_)<;>first|(exfalso;omega)|(conv=>whnf))|(refine AE ?_;conv=>whnf)))
   refine A3 (by rw[List.length_map,hrl]) ?_
   refine RE (r:=r) (en:=eQ) htk.symm (by omega) (by omega) ?_
   rw[<-hts,show (a.take (i+1)).length=i+1 by rw[List.length_take];omega]
   (conv=>whnf)
   (repeat' (refine A0 ?_ ?_;omega;conv=>whnf))
   exact A4 [(277003,277030)] (by (conv=>whnf);exact ⟨rfl,rfl,rfl⟩) (ih (i+1) (by omega) (by omega))
 ·obtain rfl:i=n:=by omega
  clear ih
  rw[List.take_of_length_le (by omega)]
  (repeat' (first|(refine AG (fun hc => ?_) (fun hc => ?_)<;>first|(exfalso;omega)|(conv=>whnf))|(refine AE ?_;conv=>whnf)))
  refine ⟨rfl,_,rfl,?_⟩
  (conv=>whnf)
  skip
  refine CE (fun j=>i-j) (fun (j:Nat)=>j<=i) (fun j=>[(19,.int .i64 j)]) (fun j=>[(277003,277003,.mx (B6 3 eQ ((GV a b).take j++a.drop j)))]) [] [] 0 (by first|exact (by (conv=>whnf);exact ⟨rfl,rfl,rfl⟩)|(rw[List.take_zero,List.drop_zero,List.nil_append];exact (by (conv=>whnf);exact ⟨rfl,rfl,rfl⟩))) (by omega) ?_
  intro j p2 jh
  have hml:((GV a b).take j++a.drop j).length=i:=by rw[List.length_append,List.length_take,List.length_drop];omega
  by_cases hj:j<i
  ·obtain ⟨r,hr0⟩ : ∃ r,a[j]? = some r:=⟨_,zE (by omega)⟩
   obtain ⟨s,hs0⟩ : ∃ s,b[j]? = some s:=⟨_,zE (by omega)⟩
   have hs0':b[(j:Int).toNat]? = some s:=hs0
   have hrl:=haw r (zM hr0)
   have hsl:=hbw s (zM hs0)
   have hRj:=bN (a:=GV a b) (by omega) hr0
   have hRs:=bO (a:=GV a b) (b:=a) (by omega) (bE hr0 hs0)
   generalize (GV a b).take j++a.drop j=R0 at *
   (repeat' (first|(refine AG (fun hc => ?_) (fun hc => ?_)<;>first|(exfalso;omega)|(conv=>whnf))|(refine A3 ?_ ?_;omega;conv=>whnf)|(refine BL (by assumption) ?_ rfl ?_;omega;conv=>whnf)|(refine FY ?_ (fun r hr => ?_);omega;conv=>whnf)|(refine GE (by assumption) ?_;conv=>whnf)|(refine AE ?_;conv=>whnf)))
   cases hRj.symm.trans hr
   refine YF (enc:=eQ) (by rw[List.length_map]) (fun _=>rfl) (by omega) (by omega) ?_
   intro s' v
   (conv=>whnf)
   (repeat' (first|(refine A3 ?_ ?_;omega;conv=>whnf)|fail))
   refine A3 ⟨rfl,by rw[List.length_map]⟩ ?_
   refine YP (i:=j) (by omega) (by rw[List.length_set];simp only[B6,List.length_map];omega) ?_
   rw[show 0+((j:Int)).toNat=j by omega,List.set_set,show (B6 3 eQ R0).set j (some (3,(r++s).map eQ))=B6 3 eQ (R0.set j (r++s)) by simp only[B6,List.map_set],hRs]
   (conv=>whnf)
   (repeat' (refine A0 ?_ ?_;omega;conv=>whnf))
   exact A4 [] (by (conv=>whnf);exact ⟨rfl,rfl,rfl⟩) (jh (j+1) (by omega) (by omega))
  ·have ej:j=i:=by omega
   clear jh
   rw[ej,List.take_of_length_le (by omega),List.drop_of_length_le (by omega),List.append_nil]
   (repeat' (first|(refine AG (fun hc => ?_) (fun hc => ?_)<;>first|(exfalso;omega)|(conv=>whnf))|(refine AW ?_;conv=>whnf)|(refine AE ?_;conv=>whnf)))
   rw[hal]
   refine E7 1000 N.FX rfl rfl ?_
   (repeat' (first|(refine AE ?_;conv=>whnf)|(refine AC (hI) ?_;conv=>whnf)))
   refine A4 [] (by (conv=>whnf);exact ⟨rfl,rfl,rfl⟩) (Af4 N q1 q2 q3 q4 a b a i k hn hB hR0 hjb (fun m k2 c2 d h1 h2 h3 h4 => ?_))
   by_cases hk2:k2<i
   ·(repeat' (refine AE ?_;conv=>whnf))
    refine ⟨rfl,?_⟩
    (conv=>whnf)
    (repeat' (first|(refine AG (fun hc => ?_) (fun hc => ?_)<;>first|(exfalso;omega)|(conv=>whnf))|(refine AW ?_;conv=>whnf)))
    exact ⟨_,AY rfl (by simp only[A9,CY,FG,true_and,and_true]),Or.inl rfl⟩
   ·have hkn:k2=i/\c2=i:=by omega
    obtain ⟨rfl,rfl⟩:=hkn
    (repeat' (refine AE ?_;conv=>whnf))
    refine ⟨rfl,?_⟩
    (conv=>whnf)
    (repeat' (first|(refine AG (fun hc => ?_) (fun hc => ?_)<;>first|(exfalso;omega)|(conv=>whnf))|(refine AW ?_;conv=>whnf)))
    refine VI 10 10 rfl ?_
    have hml2:=h1.len
    have hUw : ∀ r∈m.map (·.drop c2),r.length=c2:=fun r hr=>by
     obtain ⟨s,hs,rfl⟩:=List.mem_map.1 hr
     rw[List.length_drop,h1.wid s hs];omega
    have hUv : ∀ v:List Rat,v.length=c2->BZ (m.map (·.drop c2)) (BZ a v)=v:=fun v hv=>h1.inv hv hal
    have hUl:(m.map (·.drop c2)).length=c2:=by rw[List.length_map];exact hml2
    have hUat : ∀ (q:Nat) (r:List Rat),m[q]? = some r->(m.map (·.drop c2))[q]? = some (r.drop c2):=fun q r hq=>by rw[List.getElem?_map,hq];rfl
    generalize m.map (·.drop c2)=U at *
    refine CE (fun i=>c2-i) (fun (i:Nat)=>i<=c2) (fun i=>[(48,.int .i64 i),(10,.row 10 0 1 0 i)]) (fun i=>[(10,10,.mx (B6 3 eQ (U.take i)))]) [] [] 0 (by (conv=>whnf);exact ⟨rfl,rfl,rfl⟩) (by omega) ?_
    intro i i1 ih
    have htk2:(U.take i).length=i:=by rw[List.length_take];omega
    by_cases hi2:i<c2
    ·obtain ⟨rp,hr0⟩ : ∃ r,m[i]? = some r:=⟨_,zE (by omega)⟩
     have hrl:=h1.wid rp (zM hr0)
     have hrb:=h3.at hr0
     have hut:=OY (hUat i rp hr0)
     have hdl:(rp.drop c2).length=c2:=by rw[List.length_drop];omega
     have hda : ∀ (j:Nat),(rp.drop c2)[j]? = rp[c2+j]? := fun j=>by rw[List.getElem?_drop]
     generalize U.take i=R0 at *
     (repeat' (first|(refine AG (fun hc => ?_) (fun hc => ?_)<;>first|(exfalso;omega)|(conv=>whnf))|(refine A3 ?_ ?_;omega;conv=>whnf)|(refine AW ?_;conv=>whnf)|(refine FY ?_ (fun r hr => ?_);omega;conv=>whnf)|(refine AE ?_;conv=>whnf)))
     cases hr0.symm.trans hr
     refine tV c2 (by omega) (by rw[List.length_map];omega) ?_
     rw[List.length_map,show rp.length=c2+c2 from hrl]
     (conv=>whnf)
     skip
     refine CE (fun j=>c2-j) (fun (j:Nat)=>j<=c2) (fun j=>[(59,.int .i64 j),(12,.row 12 0 3 0 j)]) (fun j=>[(12,12,.rw 3 (((rp.drop c2).take j).map eQ))]) [] [] 0 (by (conv=>whnf);exact ⟨rfl,rfl,rfl⟩) (by omega) ?_
     intro j j1 jh
     have htj:((rp.drop c2).take j).length=j:=by rw[List.length_take];omega
     by_cases hj:j<c2
     ·obtain ⟨x,hx⟩ : ∃ x,(rp.drop c2)[j]? = some x:=⟨_,zE (by omega)⟩
      have hx':=hx
      rw[hda]at hx'
      have hms:=OY hx
      have hT3:=WS N.toRefGLib (hrb.at hx') (by omega)
      generalize (rp.drop c2).take j=M0 at *
      (repeat' (first|(refine AG (fun hc => ?_) (fun hc => ?_)<;>first|(exfalso;omega)|(conv=>whnf))|(refine A3 ?_ ?_;omega;conv=>whnf)|(refine GE (by assumption) ?_;conv=>whnf)|(refine AE ?_;conv=>whnf)))
      refine VN (enc:=eQ) (e:=x) (l:=rp) (by rw[show 0+c2+((j:Nat):Int).toNat=c2+j by omega];exact hx') rfl ?_
      (conv=>whnf)
      (repeat' (first|(refine EK ?_;conv=>whnf)|(refine AC (hT3) ?_;conv=>whnf)))
      refine E2 (enc:=eQ) x rfl htj.symm rfl (by omega) (by omega) ?_
      (conv=>whnf)
      (repeat' (refine A0 ?_ ?_;omega;conv=>whnf))
      rw[<-hms,show ((rp.drop c2).take (j+1)).length=j+1 by rw[List.length_take];omega]
      exact A4 [(12,67)] (by (conv=>whnf);exact ⟨rfl,rfl,rfl⟩) (jh (j+1) (by omega) (by omega))
     ·have ej:j=c2:=by omega
      clear jh
      rw[ej,List.take_of_length_le (by omega)]
      (repeat' (first|(refine AG (fun hc => ?_) (fun hc => ?_)<;>first|(exfalso;omega)|(conv=>whnf))|(refine AE ?_;conv=>whnf)))
      refine A3 (by rw[List.length_map,hdl]) ?_
      refine RE (r:=rp.drop c2) (en:=eQ) htk2.symm (by omega) (by omega) ?_
      rw[<-hut,show (U.take (i+1)).length=i+1 by rw[List.length_take];omega]
      (conv=>whnf)
      (repeat' (refine A0 ?_ ?_;omega;conv=>whnf))
      exact A4 [(10,72)] (by (conv=>whnf);exact ⟨rfl,rfl,rfl⟩) (ih (i+1) (by omega) (by omega))
    ·have ei:i=c2:=by omega
     clear ih
     rw[ei,List.take_of_length_le (by omega)]
     (repeat' (first|(refine AG (fun hc => ?_) (fun hc => ?_)<;>first|(exfalso;omega)|(conv=>whnf))|(refine AE ?_;conv=>whnf)))
     refine ⟨.tup [.sl false (eM U),.int .i64 0],?_,Or.inr ⟨U,rfl,hUl,hUw,hUv⟩⟩
     (conv=>whnf)
     refine RL (fun _=>rfl) rfl hUl.symm ?_
     (conv=>whnf)
     exact AY rfl (WD U 0)
theorem AaS (N:InvGLib L) (q1 q2:Bool) (a:List (List Rat)) (n k:Nat) (hT:Sq n a) (hn:1<=n/\n<=10) (hab:Ms k a) (hk:k<=1000) (hB:10*FW k n<=100000000000) :
  ∃ v,Ev L 279 [.sl q1 (GF q2 a)] v/\(v = .tup [.sl false [],.int .i64 11] \/ ∃ U:List (List Rat),v = .tup [.sl false (eM U),.int .i64 0]/\U.length=n/\(∀ r∈U,r.length=n) /\ ∀ v:List Rat,v.length=n->BZ U (BZ a v)=v):=by
 have hV:=Z7 N.toR09GLib q1 q2 a n n hT.l hT.r (by omega) (by omega)
 have hI:Ev L 240 [.int .i64 (a.length:Nat)] (.tup [.sl false (eM (EI n)),.int .i64 0]):=by
  rw[hT.l];exact Abx N.toR09GLib n (by omega)
 obtain ⟨v,h1,h2⟩:=AaZ N q1 q2 false false a (EI n) n k hT rfl hn hab hk hB
 have hal:=hT.l
 obtain ⟨r0,hr0⟩ : ∃ r,a[0]? = some r:=⟨_,zE (by omega)⟩
 have hr0':a[(0:Int).toNat]? = some r0:=hr0
 have hl0:=hT.r r0 (zM hr0)
 refine ⟨v,?_,h2⟩
 rcases h2 with rfl|⟨U,rfl,_⟩
 ·refine Ev.x N.IA rfl rfl ?_
  (repeat' (first|(refine AG (fun hc => ?_) (fun hc => ?_)<;>first|(exfalso;omega)|(conv=>whnf))|(refine AW ?_;conv=>whnf)|(refine BL (by assumption) ?_ rfl ?_;omega;conv=>whnf)|(refine AE ?_;conv=>whnf)|(refine AC (hV) ?_;conv=>whnf)|(refine AC (hI) ?_;conv=>whnf)|(refine AC (h1) ?_;conv=>whnf)))
  exact AY rfl (by simp only[A9,CY,FG,true_and,and_true])
 ·refine Ev.x N.IA rfl rfl ?_
  (repeat' (first|(refine AG (fun hc => ?_) (fun hc => ?_)<;>first|(exfalso;omega)|(conv=>whnf))|(refine AW ?_;conv=>whnf)|(refine BL (by assumption) ?_ rfl ?_;omega;conv=>whnf)|(refine AE ?_;conv=>whnf)|(refine AC (hV) ?_;conv=>whnf)|(refine AC (hI) ?_;conv=>whnf)|(refine AC (h1) ?_;conv=>whnf)))
  exact AY rfl (WD U 0)
end Go.Eng

namespace Go.Eng
theorem NW (k:Nat) (hk:k≠0) (t:Rat):((k:Nat):Rat)*(t*Rat.divInt (-1) (k:Int)) = -t:=by
 have h:Rat.divInt (-1) (k:Int)=(-1)/((k:Nat):Rat):=by
  rw[Rat.divInt_ofNat,Rat.mkRat_eq_div];rfl
 have h0:((k:Nat):Rat)≠0:=by exact_mod_cast hk
 rw[h]
 grind
theorem UF {α:Type} {l:List α} (h:l.length=1) : ∃ a,l=[a]:=by
 rcases l with _|⟨a,_|⟨b,l⟩⟩<;>simp at h
 exact ⟨a,rfl⟩
theorem SB {α:Type} {l:List α} (h:l.length=2) : ∃ a b,l=[a,b]:=by
 obtain ⟨a,r,rfl⟩ : ∃ a r,l=a::r:=by
  cases l with
  | nil=>simp at h
  | cons a r=>exact ⟨a,r,rfl⟩
 obtain ⟨b,rfl⟩:=UF (l:=r) (by simpa using h)
 exact ⟨_,_,rfl⟩
theorem UG {α:Type} {l:List α} (h:l.length=3) : ∃ a b c,l=[a,b,c]:=by
 obtain ⟨a,r,rfl⟩ : ∃ a r,l=a::r:=by
  cases l with
  | nil=>simp at h
  | cons a r=>exact ⟨a,r,rfl⟩
 obtain ⟨b,c,rfl⟩:=SB (l:=r) (by simpa using h)
 exact ⟨_,_,_,rfl⟩
theorem UH {α:Type} {l:List α} (h:l.length=4) : ∃ a b c d,l=[a,b,c,d]:=by
 obtain ⟨a,r,rfl⟩ : ∃ a r,l=a::r:=by
  cases l with
  | nil=>simp at h
  | cons a r=>exact ⟨a,r,rfl⟩
 obtain ⟨b,c,d,rfl⟩:=UG (l:=r) (by simpa using h)
 exact ⟨_,_,_,_,rfl⟩
theorem AgD (x00 m00 c:Rat):addD (CD [[x00]] [[m00]] 1) c 1=[[(x00*m00+0)+c]]:=rfl
theorem tr1 (x00 m00:Rat):D6 (CD [[x00]] [[m00]] 1) 1=0+(x00*m00+0):=rfl
theorem id1:EI 1=[[1]]:=rfl
set_option maxHeartbeats 40000000 in
theorem xJ (x00:Rat):BX [[x00]] 1 1=List.replicate 1 (List.replicate 1 0):=by
 have h0:BX [[x00]] 1 0=EI 1:=rfl
 rw[id1]at h0
 have h1:BX [[x00]] 1 1=addD (CD [[x00]] (BX [[x00]] 1 0) 1) (DF [[x00]] 1 0) 1:=rfl
 have k0:=NW 1 (by omega) (D6 (CD [[x00]] (BX [[x00]] 1 0) 1) 1)
 rw[show D6 (CD [[x00]] (BX [[x00]] 1 0) 1) 1*Rat.divInt (-1) ((1:Nat):Int)=DF [[x00]] 1 0 from rfl,h0,tr1]at k0
 generalize DF [[x00]] 1 0=c0 at *
 rw[h0,AgD]at h1
 clear h0
 rw[h1]
 clear h1
 simp only[List.replicate,List.cons.injEq,and_true]
 grind
theorem rG (x00 x01 x10 x11 m00 m01 m10 m11 c:Rat):addD (CD [[x00,x01],[x10,x11]] [[m00,m01],[m10,m11]] 2) c 2=[[(x00*m00+(x01*m10+0))+c,x00*m01+(x01*m11+0)],[x10*m00+(x11*m10+0),(x10*m01+(x11*m11+0))+c]]:=rfl
theorem rX (x00 x01 x10 x11 m00 m01 m10 m11:Rat):D6 (CD [[x00,x01],[x10,x11]] [[m00,m01],[m10,m11]] 2) 2=(0+(x00*m00+(x01*m10+0)))+(x10*m01+(x11*m11+0)):=rfl
theorem id2:EI 2=[[1,0],[0,1]]:=rfl
set_option maxHeartbeats 40000000 in
theorem xK (x00 x01 x10 x11:Rat):BX [[x00,x01],[x10,x11]] 2 2=List.replicate 2 (List.replicate 2 0):=by
 have h0:BX [[x00,x01],[x10,x11]] 2 0=EI 2:=rfl
 rw[id2]at h0
 have h1:BX [[x00,x01],[x10,x11]] 2 1=addD (CD [[x00,x01],[x10,x11]] (BX [[x00,x01],[x10,x11]] 2 0) 2) (DF [[x00,x01],[x10,x11]] 2 0) 2:=rfl
 have k0:=NW 1 (by omega) (D6 (CD [[x00,x01],[x10,x11]] (BX [[x00,x01],[x10,x11]] 2 0) 2) 2)
 rw[show D6 (CD [[x00,x01],[x10,x11]] (BX [[x00,x01],[x10,x11]] 2 0) 2) 2*Rat.divInt (-1) ((1:Nat):Int)=DF [[x00,x01],[x10,x11]] 2 0 from rfl,h0,rX]at k0
 generalize DF [[x00,x01],[x10,x11]] 2 0=c0 at *
 rw[h0,rG]at h1
 have h2:BX [[x00,x01],[x10,x11]] 2 2=addD (CD [[x00,x01],[x10,x11]] (BX [[x00,x01],[x10,x11]] 2 1) 2) (DF [[x00,x01],[x10,x11]] 2 1) 2:=rfl
 have k1:=NW 2 (by omega) (D6 (CD [[x00,x01],[x10,x11]] (BX [[x00,x01],[x10,x11]] 2 1) 2) 2)
 rw[show D6 (CD [[x00,x01],[x10,x11]] (BX [[x00,x01],[x10,x11]] 2 1) 2) 2*Rat.divInt (-1) ((2:Nat):Int)=DF [[x00,x01],[x10,x11]] 2 1 from rfl,h1,rX]at k1
 generalize DF [[x00,x01],[x10,x11]] 2 1=c1 at *
 rw[h1,rG]at h2
 clear h0 h1
 rw[h2]
 clear h2
 simp only[List.replicate,List.cons.injEq,and_true]
 refine ⟨⟨?_,?_⟩,⟨?_,?_⟩⟩<;>grind
theorem dP (x00 x01 x02 x10 x11 x12 x20 x21 x22 m00 m01 m02 m10 m11 m12 m20 m21 m22 c:Rat):addD (CD [[x00,x01,x02],[x10,x11,x12],[x20,x21,x22]] [[m00,m01,m02],[m10,m11,m12],[m20,m21,m22]] 3) c 3=[[(x00*m00+(x01*m10+(x02*m20+0)))+c,x00*m01+(x01*m11+(x02*m21+0)),x00*m02+(x01*m12+(x02*m22+0))],[x10*m00+(x11*m10+(x12*m20+0)),(x10*m01+(x11*m11+(x12*m21+0)))+c,x10*m02+(x11*m12+(x12*m22+0))],[x20*m00+(x21*m10+(x22*m20+0)),x20*m01+(x21*m11+(x22*m21+0)),(x20*m02+(x21*m12+(x22*m22+0)))+c]]:=rfl
theorem dV (x00 x01 x02 x10 x11 x12 x20 x21 x22 m00 m01 m02 m10 m11 m12 m20 m21 m22:Rat):D6 (CD [[x00,x01,x02],[x10,x11,x12],[x20,x21,x22]] [[m00,m01,m02],[m10,m11,m12],[m20,m21,m22]] 3) 3=((0+(x00*m00+(x01*m10+(x02*m20+0))))+(x10*m01+(x11*m11+(x12*m21+0))))+(x20*m02+(x21*m12+(x22*m22+0))):=rfl
theorem id3:EI 3=[[1,0,0],[0,1,0],[0,0,1]]:=rfl
set_option maxHeartbeats 40000000 in
theorem xL (x00 x01 x02 x10 x11 x12 x20 x21 x22:Rat):BX [[x00,x01,x02],[x10,x11,x12],[x20,x21,x22]] 3 3=List.replicate 3 (List.replicate 3 0):=by
 have h0:BX [[x00,x01,x02],[x10,x11,x12],[x20,x21,x22]] 3 0=EI 3:=rfl
 rw[id3]at h0
 have h1:BX [[x00,x01,x02],[x10,x11,x12],[x20,x21,x22]] 3 1=addD (CD [[x00,x01,x02],[x10,x11,x12],[x20,x21,x22]] (BX [[x00,x01,x02],[x10,x11,x12],[x20,x21,x22]] 3 0) 3) (DF [[x00,x01,x02],[x10,x11,x12],[x20,x21,x22]] 3 0) 3:=rfl
 have k0:=NW 1 (by omega) (D6 (CD [[x00,x01,x02],[x10,x11,x12],[x20,x21,x22]] (BX [[x00,x01,x02],[x10,x11,x12],[x20,x21,x22]] 3 0) 3) 3)
 rw[show D6 (CD [[x00,x01,x02],[x10,x11,x12],[x20,x21,x22]] (BX [[x00,x01,x02],[x10,x11,x12],[x20,x21,x22]] 3 0) 3) 3*Rat.divInt (-1) ((1:Nat):Int)=DF [[x00,x01,x02],[x10,x11,x12],[x20,x21,x22]] 3 0 from rfl,h0,dV]at k0
 generalize DF [[x00,x01,x02],[x10,x11,x12],[x20,x21,x22]] 3 0=c0 at *
 rw[h0,dP]at h1
 have h2:BX [[x00,x01,x02],[x10,x11,x12],[x20,x21,x22]] 3 2=addD (CD [[x00,x01,x02],[x10,x11,x12],[x20,x21,x22]] (BX [[x00,x01,x02],[x10,x11,x12],[x20,x21,x22]] 3 1) 3) (DF [[x00,x01,x02],[x10,x11,x12],[x20,x21,x22]] 3 1) 3:=rfl
 have k1:=NW 2 (by omega) (D6 (CD [[x00,x01,x02],[x10,x11,x12],[x20,x21,x22]] (BX [[x00,x01,x02],[x10,x11,x12],[x20,x21,x22]] 3 1) 3) 3)
 rw[show D6 (CD [[x00,x01,x02],[x10,x11,x12],[x20,x21,x22]] (BX [[x00,x01,x02],[x10,x11,x12],[x20,x21,x22]] 3 1) 3) 3*Rat.divInt (-1) ((2:Nat):Int)=DF [[x00,x01,x02],[x10,x11,x12],[x20,x21,x22]] 3 1 from rfl,h1,dV]at k1
 generalize DF [[x00,x01,x02],[x10,x11,x12],[x20,x21,x22]] 3 1=c1 at *
 rw[h1,dP]at h2
 have h3:BX [[x00,x01,x02],[x10,x11,x12],[x20,x21,x22]] 3 3=addD (CD [[x00,x01,x02],[x10,x11,x12],[x20,x21,x22]] (BX [[x00,x01,x02],[x10,x11,x12],[x20,x21,x22]] 3 2) 3) (DF [[x00,x01,x02],[x10,x11,x12],[x20,x21,x22]] 3 2) 3:=rfl
 have k2:=NW 3 (by omega) (D6 (CD [[x00,x01,x02],[x10,x11,x12],[x20,x21,x22]] (BX [[x00,x01,x02],[x10,x11,x12],[x20,x21,x22]] 3 2) 3) 3)
 rw[show D6 (CD [[x00,x01,x02],[x10,x11,x12],[x20,x21,x22]] (BX [[x00,x01,x02],[x10,x11,x12],[x20,x21,x22]] 3 2) 3) 3*Rat.divInt (-1) ((3:Nat):Int)=DF [[x00,x01,x02],[x10,x11,x12],[x20,x21,x22]] 3 2 from rfl,h2,dV]at k2
 generalize DF [[x00,x01,x02],[x10,x11,x12],[x20,x21,x22]] 3 2=c2 at *
 rw[h2,dP]at h3
 clear h0 h1 h2
 rw[h3]
 clear h3
 simp only[List.replicate,List.cons.injEq,and_true]
 refine ⟨⟨?_,?_,?_⟩,⟨?_,?_,?_⟩,⟨?_,?_,?_⟩⟩<;>grind
theorem X3 (x00 x01 x02 x03 x10 x11 x12 x13 x20 x21 x22 x23 x30 x31 x32 x33 m00 m01 m02 m03 m10 m11 m12 m13 m20 m21 m22 m23 m30 m31 m32 m33 c:Rat):addD (CD [[x00,x01,x02,x03],[x10,x11,x12,x13],[x20,x21,x22,x23],[x30,x31,x32,x33]] [[m00,m01,m02,m03],[m10,m11,m12,m13],[m20,m21,m22,m23],[m30,m31,m32,m33]] 4) c 4=[[(x00*m00+(x01*m10+(x02*m20+(x03*m30+0))))+c,x00*m01+(x01*m11+(x02*m21+(x03*m31+0))),x00*m02+(x01*m12+(x02*m22+(x03*m32+0))),x00*m03+(x01*m13+(x02*m23+(x03*m33+0)))],[x10*m00+(x11*m10+(x12*m20+(x13*m30+0))),(x10*m01+(x11*m11+(x12*m21+(x13*m31+0))))+c,x10*m02+(x11*m12+(x12*m22+(x13*m32+0))),x10*m03+(x11*m13+(x12*m23+(x13*m33+0)))],[x20*m00+(x21*m10+(x22*m20+(x23*m30+0))),x20*m01+(x21*m11+(x22*m21+(x23*m31+0))),(x20*m02+(x21*m12+(x22*m22+(x23*m32+0))))+c,x20*m03+(x21*m13+(x22*m23+(x23*m33+0)))],[x30*m00+(x31*m10+(x32*m20+(x33*m30+0))),x30*m01+(x31*m11+(x32*m21+(x33*m31+0))),x30*m02+(x31*m12+(x32*m22+(x33*m32+0))),(x30*m03+(x31*m13+(x32*m23+(x33*m33+0))))+c]]:=rfl
theorem X7 (x00 x01 x02 x03 x10 x11 x12 x13 x20 x21 x22 x23 x30 x31 x32 x33 m00 m01 m02 m03 m10 m11 m12 m13 m20 m21 m22 m23 m30 m31 m32 m33:Rat):D6 (CD [[x00,x01,x02,x03],[x10,x11,x12,x13],[x20,x21,x22,x23],[x30,x31,x32,x33]] [[m00,m01,m02,m03],[m10,m11,m12,m13],[m20,m21,m22,m23],[m30,m31,m32,m33]] 4) 4=(((0+(x00*m00+(x01*m10+(x02*m20+(x03*m30+0)))))+(x10*m01+(x11*m11+(x12*m21+(x13*m31+0)))))+(x20*m02+(x21*m12+(x22*m22+(x23*m32+0)))))+(x30*m03+(x31*m13+(x32*m23+(x33*m33+0)))):=rfl
theorem id4:EI 4=[[1,0,0,0],[0,1,0,0],[0,0,1,0],[0,0,0,1]]:=rfl
set_option maxHeartbeats 40000000 in
theorem xM (x00 x01 x02 x03 x10 x11 x12 x13 x20 x21 x22 x23 x30 x31 x32 x33:Rat):BX [[x00,x01,x02,x03],[x10,x11,x12,x13],[x20,x21,x22,x23],[x30,x31,x32,x33]] 4 4=List.replicate 4 (List.replicate 4 0):=by
 have h0:BX [[x00,x01,x02,x03],[x10,x11,x12,x13],[x20,x21,x22,x23],[x30,x31,x32,x33]] 4 0=EI 4:=rfl
 rw[id4]at h0
 have h1:BX [[x00,x01,x02,x03],[x10,x11,x12,x13],[x20,x21,x22,x23],[x30,x31,x32,x33]] 4 1=addD (CD [[x00,x01,x02,x03],[x10,x11,x12,x13],[x20,x21,x22,x23],[x30,x31,x32,x33]] (BX [[x00,x01,x02,x03],[x10,x11,x12,x13],[x20,x21,x22,x23],[x30,x31,x32,x33]] 4 0) 4) (DF [[x00,x01,x02,x03],[x10,x11,x12,x13],[x20,x21,x22,x23],[x30,x31,x32,x33]] 4 0) 4:=rfl
 have k0:=NW 1 (by omega) (D6 (CD [[x00,x01,x02,x03],[x10,x11,x12,x13],[x20,x21,x22,x23],[x30,x31,x32,x33]] (BX [[x00,x01,x02,x03],[x10,x11,x12,x13],[x20,x21,x22,x23],[x30,x31,x32,x33]] 4 0) 4) 4)
 rw[show D6 (CD [[x00,x01,x02,x03],[x10,x11,x12,x13],[x20,x21,x22,x23],[x30,x31,x32,x33]] (BX [[x00,x01,x02,x03],[x10,x11,x12,x13],[x20,x21,x22,x23],[x30,x31,x32,x33]] 4 0) 4) 4*Rat.divInt (-1) ((1:Nat):Int)=DF [[x00,x01,x02,x03],[x10,x11,x12,x13],[x20,x21,x22,x23],[x30,x31,x32,x33]] 4 0 from rfl,h0,X7]at k0
 generalize DF [[x00,x01,x02,x03],[x10,x11,x12,x13],[x20,x21,x22,x23],[x30,x31,x32,x33]] 4 0=c0 at *
 rw[h0,X3]at h1
 have h2:BX [[x00,x01,x02,x03],[x10,x11,x12,x13],[x20,x21,x22,x23],[x30,x31,x32,x33]] 4 2=addD (CD [[x00,x01,x02,x03],[x10,x11,x12,x13],[x20,x21,x22,x23],[x30,x31,x32,x33]] (BX [[x00,x01,x02,x03],[x10,x11,x12,x13],[x20,x21,x22,x23],[x30,x31,x32,x33]] 4 1) 4) (DF [[x00,x01,x02,x03],[x10,x11,x12,x13],[x20,x21,x22,x23],[x30,x31,x32,x33]] 4 1) 4:=rfl
 have k1:=NW 2 (by omega) (D6 (CD [[x00,x01,x02,x03],[x10,x11,x12,x13],[x20,x21,x22,x23],[x30,x31,x32,x33]] (BX [[x00,x01,x02,x03],[x10,x11,x12,x13],[x20,x21,x22,x23],[x30,x31,x32,x33]] 4 1) 4) 4)
 rw[show D6 (CD [[x00,x01,x02,x03],[x10,x11,x12,x13],[x20,x21,x22,x23],[x30,x31,x32,x33]] (BX [[x00,x01,x02,x03],[x10,x11,x12,x13],[x20,x21,x22,x23],[x30,x31,x32,x33]] 4 1) 4) 4*Rat.divInt (-1) ((2:Nat):Int)=DF [[x00,x01,x02,x03],[x10,x11,x12,x13],[x20,x21,x22,x23],[x30,x31,x32,x33]] 4 1 from rfl,h1,X7]at k1
 generalize DF [[x00,x01,x02,x03],[x10,x11,x12,x13],[x20,x21,x22,x23],[x30,x31,x32,x33]] 4 1=c1 at *
 rw[h1,X3]at h2
 have h3:BX [[x00,x01,x02,x03],[x10,x11,x12,x13],[x20,x21,x22,x23],[x30,x31,x32,x33]] 4 3=addD (CD [[x00,x01,x02,x03],[x10,x11,x12,x13],[x20,x21,x22,x23],[x30,x31,x32,x33]] (BX [[x00,x01,x02,x03],[x10,x11,x12,x13],[x20,x21,x22,x23],[x30,x31,x32,x33]] 4 2) 4) (DF [[x00,x01,x02,x03],[x10,x11,x12,x13],[x20,x21,x22,x23],[x30,x31,x32,x33]] 4 2) 4:=rfl
 have k2:=NW 3 (by omega) (D6 (CD [[x00,x01,x02,x03],[x10,x11,x12,x13],[x20,x21,x22,x23],[x30,x31,x32,x33]] (BX [[x00,x01,x02,x03],[x10,x11,x12,x13],[x20,x21,x22,x23],[x30,x31,x32,x33]] 4 2) 4) 4)
 rw[show D6 (CD [[x00,x01,x02,x03],[x10,x11,x12,x13],[x20,x21,x22,x23],[x30,x31,x32,x33]] (BX [[x00,x01,x02,x03],[x10,x11,x12,x13],[x20,x21,x22,x23],[x30,x31,x32,x33]] 4 2) 4) 4*Rat.divInt (-1) ((3:Nat):Int)=DF [[x00,x01,x02,x03],[x10,x11,x12,x13],[x20,x21,x22,x23],[x30,x31,x32,x33]] 4 2 from rfl,h2,X7]at k2
 generalize DF [[x00,x01,x02,x03],[x10,x11,x12,x13],[x20,x21,x22,x23],[x30,x31,x32,x33]] 4 2=c2 at *
 rw[h2,X3]at h3
 have h4:BX [[x00,x01,x02,x03],[x10,x11,x12,x13],[x20,x21,x22,x23],[x30,x31,x32,x33]] 4 4=addD (CD [[x00,x01,x02,x03],[x10,x11,x12,x13],[x20,x21,x22,x23],[x30,x31,x32,x33]] (BX [[x00,x01,x02,x03],[x10,x11,x12,x13],[x20,x21,x22,x23],[x30,x31,x32,x33]] 4 3) 4) (DF [[x00,x01,x02,x03],[x10,x11,x12,x13],[x20,x21,x22,x23],[x30,x31,x32,x33]] 4 3) 4:=rfl
 have k3:=NW 4 (by omega) (D6 (CD [[x00,x01,x02,x03],[x10,x11,x12,x13],[x20,x21,x22,x23],[x30,x31,x32,x33]] (BX [[x00,x01,x02,x03],[x10,x11,x12,x13],[x20,x21,x22,x23],[x30,x31,x32,x33]] 4 3) 4) 4)
 rw[show D6 (CD [[x00,x01,x02,x03],[x10,x11,x12,x13],[x20,x21,x22,x23],[x30,x31,x32,x33]] (BX [[x00,x01,x02,x03],[x10,x11,x12,x13],[x20,x21,x22,x23],[x30,x31,x32,x33]] 4 3) 4) 4*Rat.divInt (-1) ((4:Nat):Int)=DF [[x00,x01,x02,x03],[x10,x11,x12,x13],[x20,x21,x22,x23],[x30,x31,x32,x33]] 4 3 from rfl,h3,X7]at k3
 generalize DF [[x00,x01,x02,x03],[x10,x11,x12,x13],[x20,x21,x22,x23],[x30,x31,x32,x33]] 4 3=c3 at *
 rw[h3,X3]at h4
 clear h0 h1 h2 h3
 rw[h4]
 clear h4
 simp only[List.replicate,List.cons.injEq,and_true]
 refine ⟨⟨?_,?_,?_,?_⟩,⟨?_,?_,?_,?_⟩,⟨?_,?_,?_,?_⟩,⟨?_,?_,?_,?_⟩⟩<;>grind
theorem gG {n:Nat} {a:List (List Rat)} (hs:Sq n a) (hn:n<=4):BX a n n=List.replicate n (List.replicate n 0):=by
 obtain ⟨hl,hr⟩:=hs
 rcases n with _|_|_|_|_|n
 ·rfl
 ·obtain ⟨r0,rfl⟩:=UF hl
  obtain ⟨x00,rfl⟩:=UF (hr r0 (by simp))
  exact xJ x00
 ·obtain ⟨r0,r1,rfl⟩:=SB hl
  obtain ⟨x00,x01,rfl⟩:=SB (hr r0 (by simp))
  obtain ⟨x10,x11,rfl⟩:=SB (hr r1 (by simp))
  exact xK x00 x01 x10 x11
 ·obtain ⟨r0,r1,r2,rfl⟩:=UG hl
  obtain ⟨x00,x01,x02,rfl⟩:=UG (hr r0 (by simp))
  obtain ⟨x10,x11,x12,rfl⟩:=UG (hr r1 (by simp))
  obtain ⟨x20,x21,x22,rfl⟩:=UG (hr r2 (by simp))
  exact xL x00 x01 x02 x10 x11 x12 x20 x21 x22
 ·obtain ⟨r0,r1,r2,r3,rfl⟩:=UH hl
  obtain ⟨x00,x01,x02,x03,rfl⟩:=UH (hr r0 (by simp))
  obtain ⟨x10,x11,x12,x13,rfl⟩:=UH (hr r1 (by simp))
  obtain ⟨x20,x21,x22,x23,rfl⟩:=UH (hr r2 (by simp))
  obtain ⟨x30,x31,x32,x33,rfl⟩:=UH (hr r3 (by simp))
  exact xM x00 x01 x02 x03 x10 x11 x12 x13 x20 x21 x22 x23 x30 x31 x32 x33
 ·omega
end Go.Eng
