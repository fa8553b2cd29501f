/-
  Products of matrices (layer 9).
-/
import Derived.Test.YtoibhhbngpdcaaaB12
import Derived.Test.YtoibhhbngpdcaaaB1
import Derived.Test.YtoibhhbngpdcaaaB4
import Derived.Test.YtoibhhbngpdcaaaB10
set_option linter.unusedSimpArgs false
set_option linter.unusedVariables false
set_option linter.unnecessarySimpa false
namespace Go.Eng
open F
attribute [local irreducible] AKM CmpP Req OpP UnP ConvP RdP LdR StR MkR LenP AppR AppN CpyR RowP SnR Bds SlS CallP CalP FinP pw LdM GetM SetM PutM MkM AppM SnM FlP CallR
set_option maxHeartbeats 16000000
variable {L:Lib}
def opM (l:List Rat):Option (Nat × List (List AV)):=if l=[] then none else some (3,l.map eQ)
theorem opM_nil:opM []=none:=if_pos rfl
theorem opM_of {l:List Rat} (h:0<l.length):opM l=some (3,l.map eQ):=if_neg (fun e=>by rw[e]at h;cases h)
theorem dot_scl2 {s t:Rat} (hs:s≠0) (ht:t≠0) (r c:List Rat):dotQ (r.map (· * s)) (c.map (· * t))/(s*t)=dotQ r c:=by
 rw[dotQ_smr,dotQ_comm,dotQ_smr,dotQ_comm]
 have h1:=Rat.mul_inv_cancel s hs
 have h2:=Rat.mul_inv_cancel t ht
 rw[Rat.div_def,Rat.inv_mul_rev]
 grind
theorem tma_whole (N:MatGLib L) (q1 q2 q3 q4:Bool) (b:List (List Rat)) (a:List (List Rat)) (n WW k:Nat) (hal:a.length=n) (haw : ∀ r∈a,r.length=WW) (hn:1≤n∧n≤52) (hW:WW≤104) (hk:1≤k) (hab:Ms k a) (hKB:3^WW*k≤1000000000000) {kk:List It} {Q:Tm→Mem→Prop}
  (hfin:AKM L kk ([(5,.row 231019 0 3 0 n),(4,.row 231016 0 1 0 n)]++[(1000+33,.sl q1 (eMq q2 a)),(1000+31,.bool false),(1000+0,.sl q1 (eMq q2 a)),(1000+(0+1),.sl q3 (eMq q4 b))]) ([(231016,231016,.mx (mxR 3 eQ (whole a))),(231019,231019,.rw 3 ((a.map scQ).map eQ))]++[]) Q) :
  AKM L (.lp linear_wholeRows.l1 :: .blk 0::kk) ([(22,.int .i64 0),(21,.int .i64 n),(20,.sl q1 (eMq q2 a)),(5,.row 231019 0 3 0 n),(4,.row 231016 0 1 0 n)]++[(1000+33,.sl q1 (eMq q2 a)),(1000+31,.bool false),(1000+0,.sl q1 (eMq q2 a)),(1000+(0+1),.sl q3 (eMq q4 b))]) ([(231016,231016,.mx (List.replicate n none)),(231019,231019,.rw 3 ((List.replicate n none).map eO))]++[]) Q:=by
 have hI:=ev_rational_Of N.toRatGLib 1 (by omega)
 refine AKM.cut (l:=[_,_]) rfl ?_
 refine AKM.loop1 (fun i=>n-i) (fun (i:Nat)=>i≤n) (fun i=>[(22,.int .i64 i)]) (fun i=>[(231016,231016,.mx (mz (whole a) n i)),(231019,231019,.rw 3 ((fillO ((a.map scQ).take i) n).map eO))]) [] [] 0 (by first|exact (by (conv=>whnf);exact ⟨rfl,rfl,rfl⟩)|(rw[←mz_zero (whole a),List.take_zero,←fillO_nil];exact (by (conv=>whnf);exact ⟨rfl,rfl,rfl⟩))) (by omega) ?_
 intro i p1 ih
 have hzl:=mz_len (Q:=whole a) p1
 by_cases hi:i<n
 ·obtain ⟨r,hr⟩ : ∃ r,a[i]? = some r:=⟨_,List.getElem?_eq_getElem (by omega)⟩
  have hr':a[(i:Int).toNat]? = some r:=hr
  have hrl:=haw r (List.mem_of_getElem? hr)
  have hrb:=hab.at hr
  have hst:=mz_set (Q:=whole a) (i:=i) (n:=n) (row:=r.map (· * scQ r)) (by simp [whole,hr]) hi
  have hsca:(a.map scQ)[i]? = some (scQ r):=by simp [hr]
  generalize mz (whole a) n i=R0 at *
  have hsb : ∀ j,Bt (3^WW*k) (scQ (r.take j)):=fun j=>(scQ_bt hk (hrb.take j)).le (by
   have:3^(r.take j).length≤3^WW:=Nat.pow_le_pow_right (by omega) (by rw[List.length_take];omega)
   have:=Nat.mul_le_mul_right k this
   omega)
  have hkK:k≤3^WW*k:=Nat.le_mul_of_pos_left k (Nat.pow_pos (by omega))
  have hscr:=hsb WW
  rw[List.take_of_length_le (by omega)]at hscr
  generalize 3^WW*k=K at *
  (repeat' (first|(refine CmpP.go (fun hc => ?_) (fun hc => ?_)<;>first|(exfalso;omega)|(conv=>whnf))|(refine LenP.go ?_;conv=>whnf)|(refine RdP.at (by assumption) ?_ rfl ?_;omega;conv=>whnf)|(refine AKM.x ?_;conv=>whnf)|(refine CallP.go (hI) ?_;conv=>whnf)))
  try cases hr.symm.trans hv
  refine AKM.loop2 (fun j _=>WW-j) (fun (j:Nat) (s:Rat)=>j≤WW∧s=scQ (r.take j)) (fun j _=>[(30,.int .i64 j)]) (fun _ s=>[(231008,231008,.bx (eQ s))]) [] [] 0 ((1:Int):Rat) (by (conv=>whnf);exact ⟨rfl,rfl,rfl⟩) ⟨by omega,by rw[List.take_zero];rfl⟩ ?_
  intro j s ⟨p2,p3⟩ jh
  by_cases hj:j<WW
  ·obtain ⟨x,hx⟩ : ∃ x,r[j]? = some x:=⟨_,List.getElem?_eq_getElem (by omega)⟩
   have hx':r[(j:Int).toNat]? = some x:=hx
   have hsj:Bt K s:=by rw[p3];exact hsb j
   have bx:=hrb.at hx
   have hM1:=ev_mulQ N.toRatGLib hsj bx (by omega) (by omega)
   have hM2:=ev_mulDen N.toRatGLib true hsj (hsj.mul bx).2 (by omega) (by omega)
   have hnx:scQ (r.take (j+1))=s*(((s*x).den:Nat):Rat):=by rw[take_snoc' hx,scQ_snoc,←p3];rfl
   (repeat' (first|(refine CmpP.go (fun hc => ?_) (fun hc => ?_)<;>first|(exfalso;omega)|(conv=>whnf))|(refine OpP.add ?_ ?_;omega;conv=>whnf)|(refine RdP.at (by assumption) ?_ rfl ?_;omega;conv=>whnf)|(refine SnR.e1 rfl ?_;conv=>whnf)|(refine AKM.x ?_;conv=>whnf)|(refine CallP.go (hM1) ?_;conv=>whnf)|(refine CallP.go (hM2) ?_;conv=>whnf)))
   exact AKM.back [] (by (conv=>whnf);exact ⟨rfl,rfl,rfl⟩) (jh (j+1) _ (by omega) ⟨by omega,hnx.symm⟩)
  have ej:j=WW:=by omega
  clear jh
  rw[List.take_of_length_le (by omega)]at p3
  subst p3
  (repeat' (first|(refine CmpP.go (fun hc => ?_) (fun hc => ?_)<;>first|(exfalso;omega)|(conv=>whnf))|(refine LenP.go ?_;conv=>whnf)|(refine AKM.x ?_;conv=>whnf)))
  rw[hrl]
  refine MkR.go (enc:=eO) none WW rfl (by omega) (by omega) ?_
  (conv=>whnf)
  (repeat' (first|(refine Req.go ?_ ?_;omega;conv=>whnf)|fail))
  refine Req.go (by simp) ?_
  refine SetM.fz (i:=i) (by omega) (by omega) ?_
  (conv=>whnf)
  (repeat' (refine LenP.go ?_;conv=>whnf))
  refine AKM.loop1 (fun j=>WW-j) (fun (j:Nat)=>j≤WW) (fun j=>[(53,.int .i64 j)]) (fun j=>[(231016,231016,.mx (R0.set i (some (3,(fillO ((r.map (· * scQ r)).take j) WW).map eO))))]) [] [] 0 (by first|exact (by (conv=>whnf);exact ⟨rfl,rfl,rfl⟩)|(rw[List.take_zero,←fillO_nil];exact (by (conv=>whnf);exact ⟨rfl,rfl,rfl⟩))) (by omega) ?_
  intro j r2 jh
  have htj:((r.map (· * scQ r)).take j).length=j:=by rw[List.length_take,List.length_map];omega
  have hlf:=fillO_len (l:=(r.map (· * scQ r)).take j) (m:=WW) (by omega)
  by_cases hj:j<WW
  ·obtain ⟨x,hx⟩ : ∃ x,r[j]? = some x:=⟨_,List.getElem?_eq_getElem (by omega)⟩
   have hx':r[(j:Int).toNat]? = some x:=hx
   have bx:=hrb.at hx
   have hM1:=ev_mulQ N.toRatGLib bx hscr (by omega) (by omega)
   have hs:=fillO_set (l:=(r.map (· * scQ r)).take j) (m:=WW) (x:=x*scQ r) (by omega)
   rw[htj,←take_snoc' (show (r.map (· * scQ r))[j]? = some (x*scQ r) by rw[List.getElem?_map,hx];rfl)]at hs
   generalize fillO ((r.map (· * scQ r)).take j) WW=W0 at *
   (repeat' (first|(refine CmpP.go (fun hc => ?_) (fun hc => ?_)<;>first|(exfalso;omega)|(conv=>whnf))|(refine Req.go ?_ ?_;omega;conv=>whnf)|(refine RdP.at (by assumption) ?_ rfl ?_;omega;conv=>whnf)|(refine AKM.x ?_;conv=>whnf)))
   refine LdM.st (by omega) (by omega) ?_
   (conv=>whnf)
   (repeat' (refine CallP.go (hM1) ?_;conv=>whnf))
   refine Req.go (by rw[List.length_map];omega) ?_
   (conv=>whnf)
   skip
   refine GetM.st (by omega) (by omega) ?_
   (conv=>whnf)
   refine StR.nat (enc:=eO) (some (x*scQ r)) rfl (fun e=>by cases e<;>rfl) (by omega) ?_
   (conv=>whnf)
   rw[hs]
   refine PutM.st (by omega) (by rw[List.length_map,List.length_map,←hs,List.length_set]) ?_
   (conv=>whnf)
   (repeat' (refine OpP.add ?_ ?_;omega;conv=>whnf))
   exact AKM.back [] (by (conv=>whnf);exact ⟨rfl,rfl,rfl⟩) (jh (j+1) (by omega) (by omega))
  have ej:j=WW:=by omega
  clear jh
  rw[List.take_of_length_le (by rw[List.length_map];omega),fillO_full (by rw[List.length_map];exact hrl),hst]
  have hti:((a.map scQ).take i).length=i:=by rw[List.length_take,List.length_map];omega
  have hfi:=fillO_len (l:=(a.map scQ).take i) (m:=n) (by omega)
  have hfs:=fillO_set (l:=(a.map scQ).take i) (m:=n) (x:=scQ r) (by omega)
  rw[hti,←take_snoc' hsca]at hfs
  generalize fillO ((a.map scQ).take i) n=W1 at *
  (repeat' (first|(refine CmpP.go (fun hc => ?_) (fun hc => ?_)<;>first|(exfalso;omega)|(conv=>whnf))|(refine Req.go ?_ ?_;omega;conv=>whnf)|(refine AKM.x ?_;conv=>whnf)))
  refine StR.nat (enc:=eO) (some (scQ r)) rfl (fun e=>by cases e<;>rfl) (by omega) ?_
  (conv=>whnf)
  rw[hfs]
  (repeat' (refine OpP.add ?_ ?_;omega;conv=>whnf))
  exact AKM.back [] (by (conv=>whnf);exact ⟨rfl,rfl,rfl⟩) (ih (i+1) (by omega) (by omega))
 have ei:i=n:=by omega
 clear ih
 rw[ei,mz_full (by simp [whole,hal]),List.take_of_length_le (by rw[List.length_map];omega),fillO_full (by rw[List.length_map];exact hal)]
 (repeat' (first|(refine CmpP.go (fun hc => ?_) (fun hc => ?_)<;>first|(exfalso;omega)|(conv=>whnf))|(refine AKM.x ?_;conv=>whnf)))
 exact AKM.back [] (by (conv=>whnf);exact ⟨rfl,rfl,rfl⟩) hfin
theorem tmb_whole (N:MatGLib L) (q1 q2 q3 q4:Bool) (a0 b:List (List Rat)) (ss:List Rat) (p:Nat) (a:List (List Rat)) (n WW k:Nat) (hal:a.length=n) (haw : ∀ r∈a,r.length=WW) (hn:1≤n∧n≤52) (hW:WW≤104) (hk:1≤k) (hab:Ms k a) (hKB:3^WW*k≤1000000000000) {kk:List It} {Q:Tm→Mem→Prop}
  (hfin:AKM L kk ([(5,.row 1231019 0 3 0 n),(4,.row 1231016 0 1 0 n)]++[(1000+39,.sl false (eM a)),(1000+38,.sl q3 (eMq q4 b)),(1000+7,.row 231019 0 3 0 p),(1000+6,.row 231016 0 1 0 p),(1000+(0+1),.sl q3 (eMq q4 b))]) ([(1231016,231016,.mx (mxR 3 eQ (whole a))),(1231019,231019,.rw 3 ((a.map scQ).map eQ))]++[(231016,231016,.mx (mxR 3 eQ a0)),(231019,231019,.rw 3 (ss.map eQ))]) Q) :
  AKM L (.lp linear_wholeRows.l1 :: .blk 0::kk) ([(22,.int .i64 0),(21,.int .i64 n),(20,.sl false (eM a)),(5,.row 1231019 0 3 0 n),(4,.row 1231016 0 1 0 n)]++[(1000+39,.sl false (eM a)),(1000+38,.sl q3 (eMq q4 b)),(1000+7,.row 231019 0 3 0 p),(1000+6,.row 231016 0 1 0 p),(1000+(0+1),.sl q3 (eMq q4 b))]) ([(1231016,231016,.mx (List.replicate n none)),(1231019,231019,.rw 3 ((List.replicate n none).map eO))]++[(231016,231016,.mx (mxR 3 eQ a0)),(231019,231019,.rw 3 (ss.map eQ))]) Q:=by
 have hI:=ev_rational_Of N.toRatGLib 1 (by omega)
 refine AKM.cut (l:=[_,_]) rfl ?_
 refine AKM.loop1 (fun i=>n-i) (fun (i:Nat)=>i≤n) (fun i=>[(22,.int .i64 i)]) (fun i=>[(1231016,231016,.mx (mz (whole a) n i)),(1231019,231019,.rw 3 ((fillO ((a.map scQ).take i) n).map eO))]) [] [] 0 (by first|exact (by (conv=>whnf);exact ⟨rfl,rfl,rfl⟩)|(rw[←mz_zero (whole a),List.take_zero,←fillO_nil];exact (by (conv=>whnf);exact ⟨rfl,rfl,rfl⟩))) (by omega) ?_
 intro i p1 ih
 have hzl:=mz_len (Q:=whole a) p1
 by_cases hi:i<n
 ·obtain ⟨r,hr⟩ : ∃ r,a[i]? = some r:=⟨_,List.getElem?_eq_getElem (by omega)⟩
  have hr':a[(i:Int).toNat]? = some r:=hr
  have hrl:=haw r (List.mem_of_getElem? hr)
  have hrb:=hab.at hr
  have hst:=mz_set (Q:=whole a) (i:=i) (n:=n) (row:=r.map (· * scQ r)) (by simp [whole,hr]) hi
  have hsca:(a.map scQ)[i]? = some (scQ r):=by simp [hr]
  generalize mz (whole a) n i=R0 at *
  have hsb : ∀ j,Bt (3^WW*k) (scQ (r.take j)):=fun j=>(scQ_bt hk (hrb.take j)).le (by
   have:3^(r.take j).length≤3^WW:=Nat.pow_le_pow_right (by omega) (by rw[List.length_take];omega)
   have:=Nat.mul_le_mul_right k this
   omega)
  have hkK:k≤3^WW*k:=Nat.le_mul_of_pos_left k (Nat.pow_pos (by omega))
  have hscr:=hsb WW
  rw[List.take_of_length_le (by omega)]at hscr
  generalize 3^WW*k=K at *
  (repeat' (first|(refine CmpP.go (fun hc => ?_) (fun hc => ?_)<;>first|(exfalso;omega)|(conv=>whnf))|(refine LenP.go ?_;conv=>whnf)|(refine RdP.at (by assumption) ?_ rfl ?_;omega;conv=>whnf)|(refine AKM.x ?_;conv=>whnf)|(refine CallP.go (hI) ?_;conv=>whnf)))
  try cases hr.symm.trans hv
  refine AKM.loop2 (fun j _=>WW-j) (fun (j:Nat) (s:Rat)=>j≤WW∧s=scQ (r.take j)) (fun j _=>[(30,.int .i64 j)]) (fun _ s=>[(231008,231008,.bx (eQ s))]) [] [] 0 ((1:Int):Rat) (by (conv=>whnf);exact ⟨rfl,rfl,rfl⟩) ⟨by omega,by rw[List.take_zero];rfl⟩ ?_
  intro j s ⟨p2,p3⟩ jh
  by_cases hj:j<WW
  ·obtain ⟨x,hx⟩ : ∃ x,r[j]? = some x:=⟨_,List.getElem?_eq_getElem (by omega)⟩
   have hx':r[(j:Int).toNat]? = some x:=hx
   have hsj:Bt K s:=by rw[p3];exact hsb j
   have bx:=hrb.at hx
   have hM1:=ev_mulQ N.toRatGLib hsj bx (by omega) (by omega)
   have hM2:=ev_mulDen N.toRatGLib true hsj (hsj.mul bx).2 (by omega) (by omega)
   have hnx:scQ (r.take (j+1))=s*(((s*x).den:Nat):Rat):=by rw[take_snoc' hx,scQ_snoc,←p3];rfl
   (repeat' (first|(refine CmpP.go (fun hc => ?_) (fun hc => ?_)<;>first|(exfalso;omega)|(conv=>whnf))|(refine OpP.add ?_ ?_;omega;conv=>whnf)|(refine RdP.at (by assumption) ?_ rfl ?_;omega;conv=>whnf)|(refine SnR.e1 rfl ?_;conv=>whnf)|(refine AKM.x ?_;conv=>whnf)|(refine CallP.go (hM1) ?_;conv=>whnf)|(refine CallP.go (hM2) ?_;conv=>whnf)))
   exact AKM.back [] (by (conv=>whnf);exact ⟨rfl,rfl,rfl⟩) (jh (j+1) _ (by omega) ⟨by omega,hnx.symm⟩)
  have ej:j=WW:=by omega
  clear jh
  rw[List.take_of_length_le (by omega)]at p3
  subst p3
  (repeat' (first|(refine CmpP.go (fun hc => ?_) (fun hc => ?_)<;>first|(exfalso;omega)|(conv=>whnf))|(refine LenP.go ?_;conv=>whnf)|(refine AKM.x ?_;conv=>whnf)))
  rw[hrl]
  refine MkR.go (enc:=eO) none WW rfl (by omega) (by omega) ?_
  (conv=>whnf)
  (repeat' (first|(refine Req.go ?_ ?_;omega;conv=>whnf)|fail))
  refine Req.go (by simp) ?_
  refine SetM.fz (i:=i) (by omega) (by omega) ?_
  (conv=>whnf)
  (repeat' (refine LenP.go ?_;conv=>whnf))
  refine AKM.loop1 (fun j=>WW-j) (fun (j:Nat)=>j≤WW) (fun j=>[(53,.int .i64 j)]) (fun j=>[(1231016,231016,.mx (R0.set i (some (3,(fillO ((r.map (· * scQ r)).take j) WW).map eO))))]) [] [] 0 (by first|exact (by (conv=>whnf);exact ⟨rfl,rfl,rfl⟩)|(rw[List.take_zero,←fillO_nil];exact (by (conv=>whnf);exact ⟨rfl,rfl,rfl⟩))) (by omega) ?_
  intro j r2 jh
  have htj:((r.map (· * scQ r)).take j).length=j:=by rw[List.length_take,List.length_map];omega
  have hlf:=fillO_len (l:=(r.map (· * scQ r)).take j) (m:=WW) (by omega)
  by_cases hj:j<WW
  ·obtain ⟨x,hx⟩ : ∃ x,r[j]? = some x:=⟨_,List.getElem?_eq_getElem (by omega)⟩
   have hx':r[(j:Int).toNat]? = some x:=hx
   have bx:=hrb.at hx
   have hM1:=ev_mulQ N.toRatGLib bx hscr (by omega) (by omega)
   have hs:=fillO_set (l:=(r.map (· * scQ r)).take j) (m:=WW) (x:=x*scQ r) (by omega)
   rw[htj,←take_snoc' (show (r.map (· * scQ r))[j]? = some (x*scQ r) by rw[List.getElem?_map,hx];rfl)]at hs
   generalize fillO ((r.map (· * scQ r)).take j) WW=W0 at *
   (repeat' (first|(refine CmpP.go (fun hc => ?_) (fun hc => ?_)<;>first|(exfalso;omega)|(conv=>whnf))|(refine Req.go ?_ ?_;omega;conv=>whnf)|(refine RdP.at (by assumption) ?_ rfl ?_;omega;conv=>whnf)|(refine AKM.x ?_;conv=>whnf)))
   refine LdM.st (by omega) (by omega) ?_
   (conv=>whnf)
   (repeat' (refine CallP.go (hM1) ?_;conv=>whnf))
   refine Req.go (by rw[List.length_map];omega) ?_
   (conv=>whnf)
   skip
   refine GetM.st (by omega) (by omega) ?_
   (conv=>whnf)
   refine StR.nat (enc:=eO) (some (x*scQ r)) rfl (fun e=>by cases e<;>rfl) (by omega) ?_
   (conv=>whnf)
   rw[hs]
   refine PutM.st (by omega) (by rw[List.length_map,List.length_map,←hs,List.length_set]) ?_
   (conv=>whnf)
   (repeat' (refine OpP.add ?_ ?_;omega;conv=>whnf))
   exact AKM.back [] (by (conv=>whnf);exact ⟨rfl,rfl,rfl⟩) (jh (j+1) (by omega) (by omega))
  have ej:j=WW:=by omega
  clear jh
  rw[List.take_of_length_le (by rw[List.length_map];omega),fillO_full (by rw[List.length_map];exact hrl),hst]
  have hti:((a.map scQ).take i).length=i:=by rw[List.length_take,List.length_map];omega
  have hfi:=fillO_len (l:=(a.map scQ).take i) (m:=n) (by omega)
  have hfs:=fillO_set (l:=(a.map scQ).take i) (m:=n) (x:=scQ r) (by omega)
  rw[hti,←take_snoc' hsca]at hfs
  generalize fillO ((a.map scQ).take i) n=W1 at *
  (repeat' (first|(refine CmpP.go (fun hc => ?_) (fun hc => ?_)<;>first|(exfalso;omega)|(conv=>whnf))|(refine Req.go ?_ ?_;omega;conv=>whnf)|(refine AKM.x ?_;conv=>whnf)))
  refine StR.nat (enc:=eO) (some (scQ r)) rfl (fun e=>by cases e<;>rfl) (by omega) ?_
  (conv=>whnf)
  rw[hfs]
  (repeat' (refine OpP.add ?_ ?_;omega;conv=>whnf))
  exact AKM.back [] (by (conv=>whnf);exact ⟨rfl,rfl,rfl⟩) (ih (i+1) (by omega) (by omega))
 have ei:i=n:=by omega
 clear ih
 rw[ei,mz_full (by simp [whole,hal]),List.take_of_length_le (by rw[List.length_map];omega),fillO_full (by rw[List.length_map];exact hal)]
 (repeat' (first|(refine CmpP.go (fun hc => ?_) (fun hc => ?_)<;>first|(exfalso;omega)|(conv=>whnf))|(refine AKM.x ?_;conv=>whnf)))
 exact AKM.back [] (by (conv=>whnf);exact ⟨rfl,rfl,rfl⟩) hfin
theorem ev_lTimes (N:MatHLib L) (q1 q2 q3 q4:Bool) (a b:List (List Rat)) (p n w k l:Nat) (hal:a.length=p) (haw : ∀ r∈a,r.length=n) (hbl:b.length=n) (hbw : ∀ r∈b,r.length=w) (hp:1≤p∧p≤52) (hn:1≤n∧n≤52) (hw:1≤w∧w≤52) (hk:1≤k) (hl:1≤l) (hab:Ms k a) (hbb:Ms l b) (hB:n*(3^n*k+3^n*l+1)+3^n*k+3^n*l≤1000000000000) :
  Ev L 248 [.sl q1 (eMq q2 a),.sl q3 (eMq q4 b)] (.tup [.sl false (eM (mulQ a b w)),.int .i64 0]):=by
 have hVa:=ev_lValid N.toMatGLib q1 q2 a p n hal haw hp hn
 have hVb:=ev_lValid N.toMatGLib q3 q4 b n w hbl hbw hn hw
 have hO:=ev_rational_Of N.toRatGLib 0 (by omega)
 have hT:=ev_ltransposed N q3 q4 b n w l hbl hbw hn hw hbb (by
  have:l≤3^n*l:=Nat.le_mul_of_pos_left l (Nat.pow_pos (by omega))
  omega)
 obtain ⟨r0,hr0⟩ : ∃ r,a[0]? = some r:=⟨_,List.getElem?_eq_getElem (by omega)⟩
 have hr0':a[(0:Int).toNat]? = some r0:=hr0
 have hl0:=haw r0 (List.mem_of_getElem? hr0)
 refine Ev.x N.linear_Times rfl rfl ?_
 (repeat' (first|(refine CmpP.go (fun hc => ?_) (fun hc => ?_)<;>first|(exfalso;omega)|(conv=>whnf))|(refine LenP.go ?_;conv=>whnf)|(refine RdP.at (by assumption) ?_ rfl ?_;omega;conv=>whnf)|(refine AKM.x ?_;conv=>whnf)|(refine CallP.go (hVa) ?_;conv=>whnf)|(refine CallP.go (hVb) ?_;conv=>whnf)))
 refine CalP.walk 1000 N.linear_wholeRows rfl rfl ?_
 (repeat' (first|(refine LenP.go ?_;conv=>whnf)|(refine AKM.x ?_;conv=>whnf)))
 unfold MkM
 refine ⟨⟨by omega,by omega,by simp only[roomMax];omega,by omega⟩,?_⟩
 rw[Int.toNat_natCast]
 (conv=>whnf)
 (repeat' (refine LenP.go ?_;conv=>whnf))
 rw[hal]
 refine MkR.go (enc:=eO) none p rfl (by omega) (by omega) ?_
 (conv=>whnf)
 (repeat' (refine LenP.go ?_;conv=>whnf))
 rw[hal]
 refine AKM.back [] (by (conv=>whnf);exact ⟨rfl,rfl,rfl⟩) (tma_whole N.toMatGLib q1 q2 q3 q4 b a p n k hal haw hp (by omega) hk hab (by omega) ?_)
 (repeat' (refine AKM.x ?_;conv=>whnf))
 refine ⟨rfl,_,rfl,?_⟩
 (conv=>whnf)
 (repeat' (refine CallP.go (hT) ?_;conv=>whnf))
 have htl:=trW_len b w
 have htw:=trW_w (w:=w) hbl
 have htb:Ms l (trW b w):=fun r hr=>by
  obtain ⟨j,hj,rfl⟩:=List.mem_map.1 hr
  intro x hx
  obtain ⟨s,hs,rfl⟩:=List.mem_map.1 hx
  obtain ⟨e,he1⟩:=List.getElem?_of_mem hs
  exact (hbb.at he1).at (getD_someH (by rw[hbw s hs];exact List.mem_range.1 hj))
 have htat : ∀ j,j<w→(trW b w)[j]? = some (colQ b j):=fun j hj=>trW_at hj
 have hQ:mulQ a b w=a.map fun r=>(trW b w).map fun c=>dotQ r c:=by
  refine List.map_congr_left fun r _ => ?_
  rw[mulRow,trW,List.map_map];rfl
 rw[hQ]
 have hcl : ∀ j,(colQ b j).length=n:=fun j=>by rw[colQ_len];exact hbl
 generalize trW b w=T at *
 clear hQ hT hVa hVb hbb hbw hbl
 refine CalP.walk 1000 N.linear_wholeRows rfl rfl ?_
 (repeat' (first|(refine LenP.go ?_;conv=>whnf)|(refine AKM.x ?_;conv=>whnf)))
 unfold MkM
 refine ⟨⟨by omega,by omega,by simp only[roomMax];omega,by omega⟩,?_⟩
 rw[Int.toNat_natCast]
 (conv=>whnf)
 (repeat' (refine LenP.go ?_;conv=>whnf))
 rw[htl]
 refine MkR.go (enc:=eO) none w rfl (by omega) (by omega) ?_
 (conv=>whnf)
 (repeat' (refine LenP.go ?_;conv=>whnf))
 rw[htl]
 refine AKM.back [] (by (conv=>whnf);exact ⟨rfl,rfl,rfl⟩) (tmb_whole N.toMatGLib q1 q2 q3 q4 (whole a) b (a.map scQ) p T w n l htl htw hw (by omega) hl htb (by omega) ?_)
 (repeat' (refine AKM.x ?_;conv=>whnf))
 refine ⟨rfl,_,rfl,?_⟩
 (conv=>whnf)
 skip
 have hbA:=whole_ms hk haw hab
 have hbT:=whole_ms hl htw htb
 have hwA:=whole_len haw
 have hwT:=whole_len htw
 have hwl:(whole a).length=p:=by rw[whole,List.length_map];exact hal
 have hwtl:(whole T).length=w:=by rw[whole,List.length_map];exact htl
 have hkA : ∀ r∈a,Bt (3^n*k) (scQ r):=fun r hr=>(scQ_bt hk (hab r hr)).le (by rw[haw r hr];omega)
 have hkT : ∀ r∈T,Bt (3^n*l) (scQ r):=fun r hr=>(scQ_bt hl (htb r hr)).le (by rw[htw r hr];omega)
 have hatA : ∀ (i:Nat) (r:List Rat),a[i]? = some r→(whole a)[i]? = some (r.map (· * scQ r)):=fun i r hr=>by rw[whole,List.getElem?_map,hr];rfl
 have hatT : ∀ (i:Nat) (r:List Rat),T[i]? = some r→(whole T)[i]? = some (r.map (· * scQ r)):=fun i r hr=>by rw[whole,List.getElem?_map,hr];rfl
 have hscA : ∀ (i:Nat) (r:List Rat),a[i]? = some r→(a.map scQ)[i]? = some (scQ r):=fun i r hr=>by rw[List.getElem?_map,hr];rfl
 have hscT : ∀ (i:Nat) (r:List Rat),T[i]? = some r→(T.map scQ)[i]? = some (scQ r):=fun i r hr=>by rw[List.getElem?_map,hr];rfl
 have hatR : ∀ (i:Nat) (r:List Rat),a[i]? = some r→(a.map fun r=>T.map fun c=>dotQ r c)[i]? = some (T.map fun c=>dotQ r c):=fun i r hr=>by rw[List.getElem?_map,hr];rfl
 have hRl:(a.map fun r=>T.map fun c=>dotQ r c).length=p:=by rw[List.length_map];exact hal
 have hsal:(a.map scQ).length=p:=by rw[List.length_map];exact hal
 have hstl:(T.map scQ).length=w:=by rw[List.length_map];exact htl
 generalize whole a=A at *
 generalize whole T=B at *
 generalize a.map scQ=sa at *
 generalize T.map scQ=st at *
 generalize (a.map fun r=>T.map fun c=>dotQ r c)=R at *
 generalize 3^n*k=KA at *
 generalize 3^n*l=KT at *
 unfold MkM
 refine ⟨⟨by omega,by omega,by simp only[roomMax];omega,by omega⟩,?_⟩
 rw[Int.toNat_natCast]
 (conv=>whnf)
 skip
 refine AKM.loop1 (fun i=>p-i) (fun (i:Nat)=>i≤p) (fun i=>[(48,.int .i64 i)]) (fun i=>[(45,45,.mx (mz R p i))]) [] [] 0 (by first|exact (by (conv=>whnf);exact ⟨rfl,rfl,rfl⟩)|(rw[←mz_zero R];exact (by (conv=>whnf);exact ⟨rfl,rfl,rfl⟩))) (by omega) ?_
 intro i p1 ih
 have hzl:=mz_len (Q:=R) p1
 by_cases hi:i<p
 ·obtain ⟨rr,hr0⟩ : ∃ r,a[i]? = some r:=⟨_,List.getElem?_eq_getElem (by omega)⟩
  have hrl:=haw rr (List.mem_of_getElem? hr0)
  have hra:=hatA i rr hr0
  have hrb:=hbA.at hra
  have hrs:=hkA rr (List.mem_of_getElem? hr0)
  have hsa:=hscA i rr hr0
  have hst:=mz_set (hatR i rr hr0) hi
  have hnone:=mz_none hRl hi
  have hne:=scQ_ne rr
  have hdot:=fun (c:List Rat) (s:Rat) (hs:s≠0)=>dot_scl2 hne hs rr c
  have hul:(rr.map (· * scQ rr)).length=n:=by rw[List.length_map];exact hrl
  have hMat : ∀ (j:Nat) (c:List Rat),T[j]? = some c→(T.map fun c=>dotQ rr c)[j]? = some (dotQ rr c):=fun j c hc=>by rw[List.getElem?_map,hc];rfl
  have hMl:(T.map fun c=>dotQ rr c).length=w:=by rw[List.length_map];exact htl
  generalize mz R p i=R0 at *
  generalize (T.map fun c=>dotQ rr c)=M at *
  generalize rr.map (· * scQ rr)=u at *
  generalize scQ rr=su at *
  (repeat' (first|(refine CmpP.go (fun hc => ?_) (fun hc => ?_)<;>first|(exfalso;omega)|(conv=>whnf))|(refine Req.go ?_ ?_;omega;conv=>whnf)|(refine LdM.nat ?_ (fun r hr => ?_);omega;conv=>whnf)|(refine AKM.x ?_;conv=>whnf)))
  cases hra.symm.trans hr
  rw[show 0+((i:Nat):Int).toNat=i by omega,show (List.map eQ u).length=n by rw[List.length_map];exact hul]
  refine AKM.loop1 (fun j=>w-j) (fun (j:Nat)=>j≤w) (fun j=>[(55,.int .i64 j)]) (fun j=>[(45,45,.mx (R0.set i (opM (M.take j))))]) [] [] 0 (by first|exact (by (conv=>whnf);exact ⟨rfl,rfl,rfl⟩)|(rw[List.take_zero,opM_nil,set_same hnone];exact (by (conv=>whnf);exact ⟨rfl,rfl,rfl⟩))) (by omega) ?_
  intro j p2 jh
  have htk:(M.take j).length=j:=by rw[List.length_take];omega
  by_cases hj:j<w
  ·obtain ⟨c,hc0⟩ : ∃ c,T[j]? = some c:=⟨_,List.getElem?_eq_getElem (by omega)⟩
   have hclen:=htw c (List.mem_of_getElem? hc0)
   have hcB:=hatT j c hc0
   have hcb:=hbT.at hcB
   have hcs:=hkT c (List.mem_of_getElem? hc0)
   have hstc:=hscT j c hc0
   have hne2:=scQ_ne c
   have hdc:=hdot c (scQ c) hne2
   have hts:=take_snocA (hMat j c hc0)
   have hvl:(c.map (· * scQ c)).length=n:=by rw[List.length_map];exact hclen
   generalize c.map (· * scQ c)=v0 at *
   generalize scQ c=sv at *
   generalize dotQ rr c=dd at *
   have htk1:(M.take (j+1)).length=j+1:=by rw[List.length_take];omega
   generalize hM0:M.take j=M0 at *
   (repeat' (first|(refine CmpP.go (fun hc => ?_) (fun hc => ?_)<;>first|(exfalso;omega)|(conv=>whnf))|(refine Req.go ?_ ?_;omega;conv=>whnf)|(refine LdM.nat ?_ (fun r hr => ?_);omega;conv=>whnf)|(refine AKM.x ?_;conv=>whnf)|(refine CallP.go (hO) ?_;conv=>whnf)))
   cases hcB.symm.trans hr
   rw[show 0+((j:Nat):Int).toNat=j by omega,show (List.map eQ v0).length=n by rw[List.length_map];exact hvl]
   have hRi:=mxR_at (z:=3) hra
   have hRj:=mxR_at (z:=3) hcB
   have hkk:KA+KT+1≤n*(KA+KT+1):=Nat.le_mul_of_pos_left _ (by omega)
   refine AKM.loop1 (fun t=>n-t) (fun (t:Nat)=>t≤n) (fun t=>[(63,.int .i64 t)]) (fun t=>[(15,15,.bx (eQ (dotQ (u.take t) (v0.take t))))]) [] [] 0 (by first|exact (by (conv=>whnf);exact ⟨rfl,rfl,rfl⟩)|(rw[List.take_zero,List.take_zero];exact (by (conv=>whnf);exact ⟨rfl,rfl,rfl⟩))) (by omega) ?_
   intro t p3 th
   by_cases ht:t<n
   ·obtain ⟨x,hx⟩ : ∃ x,u[t]? = some x:=⟨_,List.getElem?_eq_getElem (by omega)⟩
    obtain ⟨y,hy⟩ : ∃ x,v0[t]? = some x:=⟨_,List.getElem?_eq_getElem (by omega)⟩
    have hdb2:=(hrb.take t).dot (hcb.take t)
    rw[List.length_take,Nat.min_eq_left (by omega)]at hdb2
    have htn:t*(KA+KT+1)≤n*(KA+KT+1):=Nat.mul_le_mul_right _ (by omega)
    have hMu:=ev_mulQ N.toRatGLib (hrb.at hx) (hcb.at hy) (by omega) (by omega)
    have hAd:=ev_addQ N.toRatGLib hdb2 ((hrb.at hx).mul (hcb.at hy)) (by omega) (by omega)
    rw[←dotQ_take hx hy]at hAd
    generalize dotQ (u.take t) (v0.take t)=d0 at *
    generalize hd1:dotQ (u.take (t+1)) (v0.take (t+1))=d1 at hAd
    generalize x*y=xy at *
    (repeat' (first|(refine CmpP.go (fun hc => ?_) (fun hc => ?_)<;>first|(exfalso;omega)|(conv=>whnf))|(refine Req.go ?_ ?_;omega;conv=>whnf)|(refine AKM.x ?_;conv=>whnf)))
    refine GetM.at' hRi ?_
    (conv=>whnf)
    (repeat' (first|(refine Req.go ?_ ?_;omega;conv=>whnf)|(refine LdR.nat ?_ (fun _=>rfl) (fun v hv => ?_);omega;conv=>whnf)))
    cases hx.symm.trans hv
    skip
    refine GetM.at' hRj ?_
    (conv=>whnf)
    (repeat' (refine LdR.nat ?_ (fun _=>rfl) (fun v hv => ?_);omega;conv=>whnf))
    cases hy.symm.trans hv
    (repeat' (first|(refine OpP.add ?_ ?_;omega;conv=>whnf)|(refine CallP.go (hMu) ?_;conv=>whnf)|(refine CallP.go (hAd) ?_;conv=>whnf)))
    subst hd1
    exact AKM.back [] (by (conv=>whnf);exact ⟨rfl,rfl,rfl⟩) (th (t+1) (by omega) (by omega))
   ·have et:t=n:=by omega
    clear th
    have hdt:=(hrb.dot hcb)
    rw[hul]at hdt
    rw[et,dotQ_all hul]
    have hm0:su*sv≠0:=fun e=>by
     rcases Rat.mul_eq_zero.1 e with e|e
     ·exact hne e
     ·exact hne2 e
    have hMu:=ev_mulQ N.toRatGLib hrs hcs (by omega) (by omega)
    have hDi:=ev_divQ N.toRatGLib hdt (hrs.mul hcs) (by omega) (by omega) hm0
    rw[hdc]at hDi
    (repeat' (first|(refine CmpP.go (fun hc => ?_) (fun hc => ?_)<;>first|(exfalso;omega)|(conv=>whnf))|(refine Req.go ?_ ?_;omega;conv=>whnf)|(refine LdR.nat ?_ (fun _=>rfl) (fun v hv => ?_);omega;conv=>whnf)|(refine AKM.x ?_;conv=>whnf)))
    rename_i vA hvA
    cases hsa.symm.trans hvA
    cases hstc.symm.trans hv
    (repeat' (first|(refine Req.go ?_ ?_;omega;conv=>whnf)|(refine CallP.go (hMu) ?_;conv=>whnf)|(refine CallP.go (hDi) ?_;conv=>whnf)))
    by_cases hj0:j=0
    ·subst hj0
     rw[List.take_zero]at hM0
     subst hM0
     rw[opM_nil,set_same hnone]
     refine LdM.got9 (r:=none) (by rw[Nat.zero_add,Int.toNat_natCast];exact hnone) ?_
     (conv=>whnf)
     (repeat' (refine RowP.e1 ?_;conv=>whnf))
     refine AppN.one (enc:=eQ) dd rfl rfl (by omega) ?_
     (conv=>whnf)
     (repeat' (first|(refine Req.go ?_ ?_;omega;conv=>whnf)|fail))
     refine Req.go rfl ?_
     refine SetM.fz (i:=i) (by omega) (by omega) ?_
     (conv=>whnf)
     (repeat' (refine OpP.add ?_ ?_;omega;conv=>whnf))
     have hq:(some (3,[dd].map eQ):Option (Nat × List (List AV)))=opM (M.take (0+1)):=by rw[hts];exact (opM_of (by simp)).symm
     rw[hq]
     exact AKM.back [] (by (conv=>whnf);exact ⟨rfl,rfl,rfl⟩) (jh (0+1) (by omega) (by omega))
    ·rw[opM_of (by omega)]
     refine LdM.st (by omega) (by omega) ?_
     (conv=>whnf)
     (repeat' (refine RowP.e1 ?_;conv=>whnf))
     refine GetM.st (by omega) (by omega) ?_
     (conv=>whnf)
     refine AppR.one (enc:=eQ) dd rfl (by rw[List.length_map]) rfl (by omega) (by omega) ?_
     intro s' v
     rw[←hts,htk1]
     (conv=>whnf)
     (repeat' (first|(refine Req.go ?_ ?_;omega;conv=>whnf)|fail))
     refine Req.go ⟨rfl,by rw[List.length_map];omega⟩ ?_
     refine SetM.fz (i:=i) (by omega) (by rw[List.length_set,List.length_set];omega) ?_
     rw[show 0+((i:Int)).toNat=i by omega,List.set_set,List.set_set,←opM_of (by omega)]
     (conv=>whnf)
     (repeat' (refine OpP.add ?_ ?_;omega;conv=>whnf))
     exact AKM.back [] (by (conv=>whnf);exact ⟨rfl,rfl,rfl⟩) (jh (j+1) (by omega) (by omega))
  ·have ej:j=w:=by omega
   clear jh
   rw[ej,List.take_of_length_le (by omega),opM_of (by omega),hst]
   (repeat' (first|(refine CmpP.go (fun hc => ?_) (fun hc => ?_)<;>first|(exfalso;omega)|(conv=>whnf))|(refine OpP.add ?_ ?_;omega;conv=>whnf)|(refine AKM.x ?_;conv=>whnf)))
   exact AKM.back [] (by (conv=>whnf);exact ⟨rfl,rfl,rfl⟩) (ih (i+1) (by omega) (by omega))
 ·have ei:i=p:=by omega
  clear ih
  rw[ei,mz_full hRl]
  (repeat' (first|(refine CmpP.go (fun hc => ?_) (fun hc => ?_)<;>first|(exfalso;omega)|(conv=>whnf))|(refine AKM.x ?_;conv=>whnf)))
  refine SnM.all (fun _=>rfl) rfl (by omega) ?_
  (conv=>whnf)
  exact FinP.go rfl (cl_matT R 0)
end Go.Eng
namespace Go.Eng
open F
attribute [local irreducible] AKM CmpP Req OpP UnP ConvP RdP LdR StR MkR LenP AppR AppN CpyR RowP SnR Bds SlS CallP CalP FinP pw LdM GetM SetM PutM MkM AppM SnM FlP CallR
set_option maxHeartbeats 16000000
variable {L:Lib}
theorem elm_isrank {m0 m a:List (List Rat)} {K w n c:Nat} {P:List Nat} {odd:Bool} {l:Rat} (hE:Elm m0 K w w m P c odd l) (hs:Scl m0 a) (hal:a.length=n) (hend:w≤c∨n≤P.length):IsRank a w P.length:=by
 have hc:=hE.cc
 have h1:=hE.ech.pl
 have h2:=hE.len
 have h3:=hs.1
 refine ⟨m,P,?_,fun X=>(hE.ker X).trans (hs.ker X),rfl⟩
 rcases hend with h|h
 ·obtain rfl:c=w:=by omega
  exact hE.ech
 ·exact hE.ech.wide (by omega) hc
theorem rnk_whole (N:MatGLib L) (q q':Bool) (a:List (List Rat)) (n WW k:Nat) (hal:a.length=n) (haw : ∀ r∈a,r.length=WW) (hn:1≤n∧n≤52) (hW:WW≤104) (hk:1≤k) (hab:Ms k a) (hKB:3^WW*k≤1000000000000) {kk:List It} {Q:Tm→Mem→Prop}
  (hfin:AKM L kk ([(5,.row 231019 0 3 0 n),(4,.row 231016 0 1 0 n)]++[(1000+13,.sl q (eMq q' a)),(1000+11,.bool false),(1000+0,.sl q (eMq q' a))]) ([(231016,231016,.mx (mxR 3 eQ (whole a))),(231019,231019,.rw 3 ((a.map scQ).map eQ))]++[]) Q) :
  AKM L (.lp linear_wholeRows.l1 :: .blk 0::kk) ([(22,.int .i64 0),(21,.int .i64 n),(20,.sl q (eMq q' a)),(5,.row 231019 0 3 0 n),(4,.row 231016 0 1 0 n)]++[(1000+13,.sl q (eMq q' a)),(1000+11,.bool false),(1000+0,.sl q (eMq q' a))]) ([(231016,231016,.mx (List.replicate n none)),(231019,231019,.rw 3 ((List.replicate n none).map eO))]++[]) Q:=by
 have hI:=ev_rational_Of N.toRatGLib 1 (by omega)
 refine AKM.cut (l:=[_,_]) rfl ?_
 refine AKM.loop1 (fun i=>n-i) (fun (i:Nat)=>i≤n) (fun i=>[(22,.int .i64 i)]) (fun i=>[(231016,231016,.mx (mz (whole a) n i)),(231019,231019,.rw 3 ((fillO ((a.map scQ).take i) n).map eO))]) [] [] 0 (by first|exact (by (conv=>whnf);exact ⟨rfl,rfl,rfl⟩)|(rw[←mz_zero (whole a),List.take_zero,←fillO_nil];exact (by (conv=>whnf);exact ⟨rfl,rfl,rfl⟩))) (by omega) ?_
 intro i p1 ih
 have hzl:=mz_len (Q:=whole a) p1
 by_cases hi:i<n
 ·obtain ⟨r,hr⟩ : ∃ r,a[i]? = some r:=⟨_,List.getElem?_eq_getElem (by omega)⟩
  have hr':a[(i:Int).toNat]? = some r:=hr
  have hrl:=haw r (List.mem_of_getElem? hr)
  have hrb:=hab.at hr
  have hst:=mz_set (Q:=whole a) (i:=i) (n:=n) (row:=r.map (· * scQ r)) (by simp [whole,hr]) hi
  have hsca:(a.map scQ)[i]? = some (scQ r):=by simp [hr]
  generalize mz (whole a) n i=R0 at *
  have hsb : ∀ j,Bt (3^WW*k) (scQ (r.take j)):=fun j=>(scQ_bt hk (hrb.take j)).le (by
   have:3^(r.take j).length≤3^WW:=Nat.pow_le_pow_right (by omega) (by rw[List.length_take];omega)
   have:=Nat.mul_le_mul_right k this
   omega)
  have hkK:k≤3^WW*k:=Nat.le_mul_of_pos_left k (Nat.pow_pos (by omega))
  have hscr:=hsb WW
  rw[List.take_of_length_le (by omega)]at hscr
  generalize 3^WW*k=K at *
  (repeat' (first|(refine CmpP.go (fun hc => ?_) (fun hc => ?_)<;>first|(exfalso;omega)|(conv=>whnf))|(refine LenP.go ?_;conv=>whnf)|(refine RdP.at (by assumption) ?_ rfl ?_;omega;conv=>whnf)|(refine AKM.x ?_;conv=>whnf)|(refine CallP.go (hI) ?_;conv=>whnf)))
  try cases hr.symm.trans hv
  refine AKM.loop2 (fun j _=>WW-j) (fun (j:Nat) (s:Rat)=>j≤WW∧s=scQ (r.take j)) (fun j _=>[(30,.int .i64 j)]) (fun _ s=>[(231008,231008,.bx (eQ s))]) [] [] 0 ((1:Int):Rat) (by (conv=>whnf);exact ⟨rfl,rfl,rfl⟩) ⟨by omega,by rw[List.take_zero];rfl⟩ ?_
  intro j s ⟨p2,p3⟩ jh
  by_cases hj:j<WW
  ·obtain ⟨x,hx⟩ : ∃ x,r[j]? = some x:=⟨_,List.getElem?_eq_getElem (by omega)⟩
   have hx':r[(j:Int).toNat]? = some x:=hx
   have hsj:Bt K s:=by rw[p3];exact hsb j
   have bx:=hrb.at hx
   have hM1:=ev_mulQ N.toRatGLib hsj bx (by omega) (by omega)
   have hM2:=ev_mulDen N.toRatGLib true hsj (hsj.mul bx).2 (by omega) (by omega)
   have hnx:scQ (r.take (j+1))=s*(((s*x).den:Nat):Rat):=by rw[take_snoc' hx,scQ_snoc,←p3];rfl
   (repeat' (first|(refine CmpP.go (fun hc => ?_) (fun hc => ?_)<;>first|(exfalso;omega)|(conv=>whnf))|(refine OpP.add ?_ ?_;omega;conv=>whnf)|(refine RdP.at (by assumption) ?_ rfl ?_;omega;conv=>whnf)|(refine SnR.e1 rfl ?_;conv=>whnf)|(refine AKM.x ?_;conv=>whnf)|(refine CallP.go (hM1) ?_;conv=>whnf)|(refine CallP.go (hM2) ?_;conv=>whnf)))
   exact AKM.back [] (by (conv=>whnf);exact ⟨rfl,rfl,rfl⟩) (jh (j+1) _ (by omega) ⟨by omega,hnx.symm⟩)
  have ej:j=WW:=by omega
  clear jh
  rw[List.take_of_length_le (by omega)]at p3
  subst p3
  (repeat' (first|(refine CmpP.go (fun hc => ?_) (fun hc => ?_)<;>first|(exfalso;omega)|(conv=>whnf))|(refine LenP.go ?_;conv=>whnf)|(refine AKM.x ?_;conv=>whnf)))
  rw[hrl]
  refine MkR.go (enc:=eO) none WW rfl (by omega) (by omega) ?_
  (conv=>whnf)
  (repeat' (first|(refine Req.go ?_ ?_;omega;conv=>whnf)|fail))
  refine Req.go (by simp) ?_
  refine SetM.fz (i:=i) (by omega) (by omega) ?_
  (conv=>whnf)
  (repeat' (refine LenP.go ?_;conv=>whnf))
  refine AKM.loop1 (fun j=>WW-j) (fun (j:Nat)=>j≤WW) (fun j=>[(53,.int .i64 j)]) (fun j=>[(231016,231016,.mx (R0.set i (some (3,(fillO ((r.map (· * scQ r)).take j) WW).map eO))))]) [] [] 0 (by first|exact (by (conv=>whnf);exact ⟨rfl,rfl,rfl⟩)|(rw[List.take_zero,←fillO_nil];exact (by (conv=>whnf);exact ⟨rfl,rfl,rfl⟩))) (by omega) ?_
  intro j r2 jh
  have htj:((r.map (· * scQ r)).take j).length=j:=by rw[List.length_take,List.length_map];omega
  have hlf:=fillO_len (l:=(r.map (· * scQ r)).take j) (m:=WW) (by omega)
  by_cases hj:j<WW
  ·obtain ⟨x,hx⟩ : ∃ x,r[j]? = some x:=⟨_,List.getElem?_eq_getElem (by omega)⟩
   have hx':r[(j:Int).toNat]? = some x:=hx
   have bx:=hrb.at hx
   have hM1:=ev_mulQ N.toRatGLib bx hscr (by omega) (by omega)
   have hs:=fillO_set (l:=(r.map (· * scQ r)).take j) (m:=WW) (x:=x*scQ r) (by omega)
   rw[htj,←take_snoc' (show (r.map (· * scQ r))[j]? = some (x*scQ r) by rw[List.getElem?_map,hx];rfl)]at hs
   generalize fillO ((r.map (· * scQ r)).take j) WW=W0 at *
   (repeat' (first|(refine CmpP.go (fun hc => ?_) (fun hc => ?_)<;>first|(exfalso;omega)|(conv=>whnf))|(refine Req.go ?_ ?_;omega;conv=>whnf)|(refine RdP.at (by assumption) ?_ rfl ?_;omega;conv=>whnf)|(refine AKM.x ?_;conv=>whnf)))
   refine LdM.st (by omega) (by omega) ?_
   (conv=>whnf)
   (repeat' (refine CallP.go (hM1) ?_;conv=>whnf))
   refine Req.go (by rw[List.length_map];omega) ?_
   (conv=>whnf)
   skip
   refine GetM.st (by omega) (by omega) ?_
   (conv=>whnf)
   refine StR.nat (enc:=eO) (some (x*scQ r)) rfl (fun e=>by cases e<;>rfl) (by omega) ?_
   (conv=>whnf)
   rw[hs]
   refine PutM.st (by omega) (by rw[List.length_map,List.length_map,←hs,List.length_set]) ?_
   (conv=>whnf)
   (repeat' (refine OpP.add ?_ ?_;omega;conv=>whnf))
   exact AKM.back [] (by (conv=>whnf);exact ⟨rfl,rfl,rfl⟩) (jh (j+1) (by omega) (by omega))
  have ej:j=WW:=by omega
  clear jh
  rw[List.take_of_length_le (by rw[List.length_map];omega),fillO_full (by rw[List.length_map];exact hrl),hst]
  have hti:((a.map scQ).take i).length=i:=by rw[List.length_take,List.length_map];omega
  have hfi:=fillO_len (l:=(a.map scQ).take i) (m:=n) (by omega)
  have hfs:=fillO_set (l:=(a.map scQ).take i) (m:=n) (x:=scQ r) (by omega)
  rw[hti,←take_snoc' hsca]at hfs
  generalize fillO ((a.map scQ).take i) n=W1 at *
  (repeat' (first|(refine CmpP.go (fun hc => ?_) (fun hc => ?_)<;>first|(exfalso;omega)|(conv=>whnf))|(refine Req.go ?_ ?_;omega;conv=>whnf)|(refine AKM.x ?_;conv=>whnf)))
  refine StR.nat (enc:=eO) (some (scQ r)) rfl (fun e=>by cases e<;>rfl) (by omega) ?_
  (conv=>whnf)
  rw[hfs]
  (repeat' (refine OpP.add ?_ ?_;omega;conv=>whnf))
  exact AKM.back [] (by (conv=>whnf);exact ⟨rfl,rfl,rfl⟩) (ih (i+1) (by omega) (by omega))
 have ei:i=n:=by omega
 clear ih
 rw[ei,mz_full (by simp [whole,hal]),List.take_of_length_le (by rw[List.length_map];omega),fillO_full (by rw[List.length_map];exact hal)]
 (repeat' (first|(refine CmpP.go (fun hc => ?_) (fun hc => ?_)<;>first|(exfalso;omega)|(conv=>whnf))|(refine AKM.x ?_;conv=>whnf)))
 exact AKM.back [] (by (conv=>whnf);exact ⟨rfl,rfl,rfl⟩) hfin
theorem rnk_sweep (N:MatGLib L) (q q':Bool) (a:List (List Rat)) (r0:List Rat) {m0 m1:List (List Rat)} {n cw WW K0 c:Nat} {P:List Nat} {o:Bool} {l:Rat} {rp:List Rat} (sc:List Rat) (hm0l:m0.length=n) (hn:1≤n∧n≤52) (hW:cw≤WW) (hW2:WW≤104) (hK0:1≤K0) (hB:6^n*K0≤1000000000000) (hP:P.length<n) (hcn:c<cw) (hS:Swp m0 K0 WW cw P c o l rp m1 (P.length+1)) {kk:List It} {Q:Tm→Mem→Prop}
  (hfin : ∀ m2,Swp m0 K0 WW cw P c o l rp m2 n→AKM L kk ([(9,.bool o),(8,.int .i64 c),(7,.int .i64 (P.length:Nat)),(10,.ptr 233010 0 0 0),(5,.ptr 233005 0 0 0),(0,.row 231016 0 1 0 n),(0+1,.int .i64 cw)]++[(1000+22,.int .i64 cw),(1000+21,.sl q' (r0.map eQ)),(1000+20,.dptr [.sl q' (r0.map eQ)]),(1000+19,.sl q (eMq q' a)),(1000+18,.row 231016 0 1 0 n),(1000+4,.row 231016 0 1 0 n),(1000+0,.sl q (eMq q' a))]) ([(231016,231016,.mx (mxR 3 eQ m2)),(233010,233010,.bx (eQ l)),(233005,233005,.bx [.bool false,.nil,.nil])]++[(231019,231019,.rw 3 (sc.map eQ))]) Q) :
  AKM L (.lp linear_eliminate.l4 :: .blk 6::kk) ([(12,.int .i64 ((P.length+1:Nat):Int)),(9,.bool o),(8,.int .i64 c),(7,.int .i64 (P.length:Nat)),(10,.ptr 233010 0 0 0),(5,.ptr 233005 0 0 0),(0,.row 231016 0 1 0 n),(0+1,.int .i64 cw)]++[(1000+22,.int .i64 cw),(1000+21,.sl q' (r0.map eQ)),(1000+20,.dptr [.sl q' (r0.map eQ)]),(1000+19,.sl q (eMq q' a)),(1000+18,.row 231016 0 1 0 n),(1000+4,.row 231016 0 1 0 n),(1000+0,.sl q (eMq q' a))]) ([(231016,231016,.mx (mxR 3 eQ m1)),(233010,233010,.bx (eQ l)),(233005,233005,.bx [.bool false,.nil,.nil])]++[(231019,231019,.rw 3 (sc.map eQ))]) Q:=by
 refine AKM.cut (l:=[_,_]) rfl ?_
 refine AKM.loop2 (fun _ i=>n-i) (fun (m:List (List Rat)) (i:Nat)=>Swp m0 K0 WW cw P c o l rp m i∧P.length+1≤i∧i≤n) (fun _ i=>[(12,.int .i64 i)]) (fun m _=>[(231016,231016,.mx (mxR 3 eQ m))]) [] [] m1 (P.length+1) (by (conv=>whnf);exact ⟨rfl,rfl,rfl⟩) ⟨hS,by omega,by omega⟩ ?_
 clear hS
 intro m2 i ⟨hS,j1,j2⟩ sh
 have hml2:=hS.len
 rw[hm0l]at hml2
 by_cases hj:i<n
 ·obtain ⟨rq,hq0⟩ : ∃ r,m2[i]? = some r:=⟨_,List.getElem?_eq_getElem (by omega)⟩
  have ht0':=hS.ht
  have hrql:=hS.ech.lr rq (List.mem_of_getElem? hq0)
  have htl:=hS.ech.lr rp (List.mem_of_getElem? ht0')
  (repeat' (first|(refine CmpP.go (fun hc => ?_) (fun hc => ?_)<;>first|(exfalso;omega)|(conv=>whnf))|(refine Req.go ?_ ?_;omega;conv=>whnf)|(refine LdM.nat ?_ (fun r hr => ?_);omega;conv=>whnf)|(refine AKM.x ?_;conv=>whnf)))
  rename_i rA hrA
  cases hq0.symm.trans hrA
  cases ht0'.symm.trans hr
  rw[show 0+((i:Nat):Int).toNat=i by omega,show 0+((P.length:Nat):Int).toNat=P.length by omega,show (List.map eQ rq).length=WW by rw[List.length_map];exact hrql,show (List.map eQ rp).length=WW by rw[List.length_map];exact htl]
  have hqc0:rq[c]? = some (rq.getD c 0):=getD_someH (by omega)
  refine CalP.walk 1000 N.linear_sweep rfl rfl ?_
  have hpc0:rp[c]? = some (rp.getD c 0):=getD_someH (by omega)
  have hst2:=hS.step (by omega) hq0
  have hcl:(comb (rp.getD c 0) (rq.getD c 0) l rq rp).length=WW:=by rw[comb_len (by omega)];exact hrql
  have hcg:=fun j=>comb_getD (p:=rp.getD c 0) (f:=rq.getD c 0) (l:=l) (r:=rq) (t:=rp) (by omega) j
  have hz1:=fun j (h:j<c)=>hS.ech.zr i rq (by omega) hq0 j h
  have hz2:=fun j (h:j<c)=>hS.ech.zr P.length rp (Nat.le_refl _) ht0' j h
  have hbq:=hS.hi i rq (Nat.le_refl i) hq0
  have hbp:=hS.bt
  have hbl:=hS.bl
  have hl0:=hS.l0
  have hbpc:=hbp.at hpc0
  have hbqc:=hbq.at hqc0
  generalize hpv:rp.getD c 0=pv at *
  generalize hfv:rq.getD c 0=fv at *
  generalize hcb:comb pv fv l rq rp=cb at *
  have hmix0:cb.take c++rq.drop c=rq:=mix_start (by omega) fun j hj=>⟨by rw[hcg,hz1 j hj,hz2 j hj,Rat.zero_mul,Rat.zero_mul,Rat.sub_eq_add_neg,Rat.neg_zero,Rat.add_zero,Rat.div_def,Rat.zero_mul],hz1 j hj⟩
  have hRi:=mxR_at (z:=3) hq0
  have hRp:=mxR_at (z:=3) ht0'
  have hRn:(mxR 3 eQ m2).length=n:=by simp only[mxR,List.length_map];omega
  have hRf:(mxR 3 eQ m2).set i (some (3,cb.map eQ))=mxR 3 eQ (m2.set i cb):=by simp only[mxR,List.map_set]
  generalize mxR 3 eQ m2=R2 at *
  have hR0:R2.set i (some (3,rq.map eQ))=R2:=set_same hRi
  (repeat' (first|(refine Req.go ?_ ?_;omega;conv=>whnf)|(refine AKM.x ?_;conv=>whnf)))
  refine GetM.at' hRp ?_
  (conv=>whnf)
  (repeat' (first|(refine Req.go ?_ ?_;omega;conv=>whnf)|(refine LdR.nat ?_ (fun _=>rfl) (fun v hv => ?_);omega;conv=>whnf)))
  cases hpc0.symm.trans hv
  skip
  refine GetM.at' hRi ?_
  (conv=>whnf)
  (repeat' (refine LdR.nat ?_ (fun _=>rfl) (fun v hv => ?_);omega;conv=>whnf))
  cases hqc0.symm.trans hv
  skip
  have hp7:=Nat.le_trans (pow6 hK0 P.length) (pow6le hB (show P.length+1≤n by omega))
  generalize 6^P.length*K0=BB at *
  refine AKM.loop1 (fun j=>WW-j) (fun (j:Nat)=>c≤j∧j≤WW) (fun j=>[(10,.int .i64 j)]) (fun j=>[(231016,231016,.mx (R2.set i (some (3,(cb.take j++rq.drop j).map eQ))))]) [] [] c (by first|exact (by (conv=>whnf);exact ⟨rfl,rfl,rfl⟩)|(rw[hmix0,hR0];exact (by (conv=>whnf);exact ⟨rfl,rfl,rfl⟩))) ⟨by omega,by omega⟩ ?_
  intro j ⟨k1,k2⟩ jh
  have hml:(cb.take j++rq.drop j).length=WW:=by rw[List.length_append,List.length_take,List.length_drop];omega
  by_cases hjn:j<WW
  ·obtain ⟨x,hx⟩ : ∃ x,rq[j]? = some x:=⟨_,List.getElem?_eq_getElem (by omega)⟩
   obtain ⟨y,hy⟩ : ∃ y,rp[j]? = some y:=⟨_,List.getElem?_eq_getElem (by omega)⟩
   have hcj:cb[j]? = some ((x*pv-y*fv)/l):=by rw[←hcb];exact comb_at hx hy
   have hma:=mix_at (a:=cb) (by omega) hx
   have hms:=mix_set (b:=rq) (by omega) hcj
   have bx:=hbq.at hx
   have by':=hbp.at hy
   have hM1:=ev_mulQ N.toRatGLib bx hbpc (by omega) (by omega)
   have hM2:=ev_mulQ N.toRatGLib by' hbqc (by omega) (by omega)
   have hSu:=ev_subQ N.toRatHLib (bx.mul hbpc) (by'.mul hbqc) (by omega) (by omega)
   have hDi:=ev_divQ N.toRatGLib ((bx.mul hbpc).subL (by'.mul hbqc)) hbl (by omega) (by omega) hl0
   have hRp2:(R2.set i (some (3,(cb.take j++rq.drop j).map eQ)))[P.length]? = some (some (3,rp.map eQ)):=by rw[List.getElem?_set,if_neg (by omega)];exact hRp
   generalize cb.take j++rq.drop j=cm at *
   (repeat' (first|(refine CmpP.go (fun hc => ?_) (fun hc => ?_)<;>first|(exfalso;omega)|(conv=>whnf))|(refine Req.go ?_ ?_;omega;conv=>whnf)|(refine AKM.x ?_;conv=>whnf)))
   refine GetM.st rfl (by omega) ?_
   (conv=>whnf)
   (repeat' (refine LdR.nat ?_ (fun _=>rfl) (fun v hv => ?_);omega;conv=>whnf))
   cases hma.symm.trans hv
   (repeat' (first|(refine Req.go ?_ ?_;omega;conv=>whnf)|(refine CallP.go (hM1) ?_;conv=>whnf)))
   refine GetM.at' hRp2 ?_
   (conv=>whnf)
   (repeat' (refine LdR.nat ?_ (fun _=>rfl) (fun v hv => ?_);omega;conv=>whnf))
   cases hy.symm.trans hv
   (repeat' (first|(refine CallP.go (hM2) ?_;conv=>whnf)|(refine CallP.go (hSu) ?_;conv=>whnf)))
   (repeat' (first|(refine Req.go ?_ ?_;omega;conv=>whnf)|(refine CallP.go (hDi) ?_;conv=>whnf)))
   refine GetM.st rfl (by omega) ?_
   (conv=>whnf)
   refine StR.nat (enc:=eQ) ((x*pv-y*fv)/l) rfl (fun _=>rfl) (by omega) ?_
   rw[hms]
   (conv=>whnf)
   refine PutM.st rfl (by rw[List.length_map,List.length_map,←hms,List.length_set]) ?_
   (conv=>whnf)
   (repeat' (refine OpP.add ?_ ?_;omega;conv=>whnf))
   exact AKM.back [] (by (conv=>whnf);exact ⟨rfl,rfl,rfl⟩) (jh (j+1) (by omega) ⟨by omega,by omega⟩)
  ·have ej:j=WW:=by omega
   clear jh
   rw[List.take_of_length_le (by omega),List.drop_of_length_le (by omega),List.append_nil,hRf]
   (repeat' (first|(refine CmpP.go (fun hc => ?_) (fun hc => ?_)<;>first|(exfalso;omega)|(conv=>whnf))|(refine AKM.x ?_;conv=>whnf)))
   refine ⟨rfl,_,rfl,?_⟩
   (conv=>whnf)
   (repeat' (refine OpP.add ?_ ?_;omega;conv=>whnf))
   exact AKM.back [] (by (conv=>whnf);exact ⟨rfl,rfl,rfl⟩) (sh (m2.set i cb) (i+1) (by omega) ⟨hst2,by omega,by omega⟩)
 ·have ei:i=n:=by omega
  clear sh
  rw[ei]at hS
  (repeat' (first|(refine CmpP.go (fun hc => ?_) (fun hc => ?_)<;>first|(exfalso;omega)|(conv=>whnf))|(refine AKM.x ?_;conv=>whnf)))
  exact AKM.back [] (by (conv=>whnf);exact ⟨rfl,rfl,rfl⟩) (hfin m2 hS)
theorem ev_Rank (N:MatHLib L) (q q':Bool) (a:List (List Rat)) (n w k:Nat) (hal:a.length=n) (haw : ∀ r∈a,r.length=w) (hn:1≤n∧n≤52) (hw:1≤w∧w≤52) (hk:1≤k) (hab:Ms k a) (hB:6^n*(3^w*k)≤1000000000000) :
  ∃ r:Nat,Ev L 249 [.sl q (eMq q' a)] (.tup [.int .i64 r,.int .i64 0])∧IsRank a w r∧r≤n∧r≤w:=by
 suffices h : ∃ v,Ev L 249 [.sl q (eMq q' a)] v ∧ ∃ r:Nat,v = .tup [.int .i64 r,.int .i64 0]∧IsRank a w r∧r≤n∧r≤w by
  obtain ⟨v,h1,m,rfl,h2⟩:=h
  exact ⟨m,h1,h2⟩
 have hV:=ev_lValid N.toMatGLib q q' a n w hal haw hn hw
 obtain ⟨r0,hr0⟩ : ∃ r,a[0]? = some r:=⟨_,List.getElem?_eq_getElem (by omega)⟩
 have hr0':a[(0:Int).toNat]? = some r0:=hr0
 have hl0:=haw r0 (List.mem_of_getElem? hr0)
 have hI:=ev_rational_Of N.toRatGLib 1 (by omega)
 have hKB:3^w*k≤1000000000000:=by simpa using pow6le hB (Nat.zero_le n)
 have N0:=N.toMatGLib
 refine Ev.xE N.linear_Rank rfl rfl ?_
 (repeat' (first|(refine AKM.x ?_;conv=>whnf)|(refine CallP.go (hV) ?_;conv=>whnf)))
 have hW:w≤104:=by omega
 have N:MatGLib L:=N0
 refine CalP.walk 1000 N.linear_wholeRows rfl rfl ?_
 (repeat' (first|(refine LenP.go ?_;conv=>whnf)|(refine AKM.x ?_;conv=>whnf)))
 unfold MkM
 refine ⟨⟨by omega,by omega,by simp only[roomMax];omega,by omega⟩,?_⟩
 rw[Int.toNat_natCast]
 (conv=>whnf)
 (repeat' (refine LenP.go ?_;conv=>whnf))
 rw[hal]
 refine MkR.go (enc:=eO) none n rfl (by omega) (by omega) ?_
 (conv=>whnf)
 (repeat' (refine LenP.go ?_;conv=>whnf))
 rw[hal]
 refine AKM.back [] (by (conv=>whnf);exact ⟨rfl,rfl,rfl⟩) (rnk_whole N q q' a n w k hal haw hn hW hk hab hKB ?_)
 (repeat' (refine AKM.x ?_;conv=>whnf))
 refine ⟨rfl,_,rfl,?_⟩
 (conv=>whnf)
 (repeat' (first|(refine LenP.go ?_;conv=>whnf)|(refine RdP.at (by assumption) ?_ rfl ?_;omega;conv=>whnf)))
 rw[hl0]
 have hm0l:(whole a).length=n:=by simp [whole,hal]
 have hm0w:=whole_len haw
 have hm0b:=whole_ms hk haw hab
 have hm0s:=whole_scl a
 have hK0:1≤3^w*k:=Nat.mul_pos (Nat.pow_pos (by omega)) hk
 clear hKB
 generalize whole a=m0 at *
 generalize 3^w*k=K0 at *
 have hW2:=hW
 have hW:=Nat.le_refl w
 refine CalP.walkC 1000 N.linear_eliminate rfl rfl ?_
 (repeat' (first|(refine AKM.x ?_;conv=>whnf)|(refine CallP.go (hI) ?_;conv=>whnf)))
 refine AKM.loop5 (fun _ P _ _ _=>n-P.length) (fun (m:List (List Rat)) (P:List Nat) (c:Nat) (odd:Bool) (l:Rat)=>Elm m0 K0 w w m P c odd l) (fun _ P c odd _=>[(7,.int .i64 (P.length:Nat)),(8,.int .i64 c),(9,.bool odd)]) (fun m _ _ _ l=>[(231016,231016,.mx (mxR 3 eQ m)),(233010,233010,.bx (eQ l))]) [] [] m0 [] 0 false ((1:Int):Rat) (by (conv=>whnf);exact ⟨rfl,rfl,rfl⟩) (Elm.start hm0w hm0b) ?_
 intro m P c odd l hE eh
 have hml:=hE.len
 have hPl:=hE.ech.pl
 rw[hm0l]at hml
 by_cases hP:P.length<n
 ·have hp6:=pow6le hB (show P.length≤n by omega)
  (repeat' (first|(refine CmpP.go (fun hc => ?_) (fun hc => ?_)<;>first|(exfalso;omega)|(conv=>whnf))|(refine AKM.x ?_;conv=>whnf)))
  refine AKM.meet3 (l:=[_,_]) (fun (m1:List (List Rat)) (c:Nat) (o:Bool)=>Elm m0 K0 w w m1 P c o l∧(c<w → ∃ rp,m1[P.length]? = some rp∧rp.getD c 0≠0)) (fun _ c o=>[(8,.int .i64 c),(9,.bool o)]) (fun m1 _ _=>[(231016,231016,.mx (mxR 3 eQ m1))]) [17] rfl ?_ ?_
  ·clear hE hml hPl
   intro m1 c odd1 ⟨hE,hpv⟩
   have hml:=hE.len
   have hPl:=hE.ech.pl
   have hcc:=hE.cc
   rw[hm0l]at hml
   by_cases hcn:c<w
   ·obtain ⟨rp,hp0,hpn⟩:=hpv hcn
    clear hpv
    have hS:=hE.swp hcn hp0 hpn
    (repeat' (first|(refine CmpP.go (fun hc => ?_) (fun hc => ?_)<;>first|(exfalso;omega)|(conv=>whnf))|(refine OpP.add ?_ ?_;omega;conv=>whnf)|(refine AKM.x ?_;conv=>whnf)))
    refine AKM.back [] (by (conv=>whnf);exact ⟨rfl,rfl,rfl⟩) (rnk_sweep N q q' a r0 (a.map scQ) hm0l hn hW hW2 hK0 hB hP hcn hS fun m2 hS => ?_)
    have ht0':=hS.ht
    have hrpl:=hS.ech.lr rp (List.mem_of_getElem? ht0')
    have hpc0:rp[c]? = some (rp.getD c 0):=getD_someH (by omega)
    have hml2:=hS.len
    have hfin:=hS.done hK0 (by omega)
    have hPl2:(P++[c]).length=P.length+1:=by simp
    generalize rp.getD c 0=pv at hpc0 hfin
    clear hS hE hpn hp0
    (repeat' (first|(refine Req.go ?_ ?_;omega;conv=>whnf)|(refine LdM.nat ?_ (fun r hr => ?_);omega;conv=>whnf)|(refine AKM.x ?_;conv=>whnf)))
    cases ht0'.symm.trans hr
    refine Req.go (by rw[List.length_map];omega) ?_
    (conv=>whnf)
    (repeat' (first|(refine OpP.add ?_ ?_;omega;conv=>whnf)|(refine LdR.nat ?_ (fun _=>rfl) (fun v hv => ?_);omega;conv=>whnf)|(refine GetM.ati (by assumption) ?_;conv=>whnf)))
    cases hpc0.symm.trans hv
    skip
    rw[show ((P.length:Nat):Int)+1=((P++[c]).length:Nat) by rw[hPl2];omega]
    exact AKM.back [] (by (conv=>whnf);exact ⟨rfl,rfl,rfl⟩) (eh m2 (P++[c]) (c+1) _ pv (by rw[hPl2];omega) hfin)
   ·clear eh hpv
    (repeat' (first|(refine CmpP.go (fun hc => ?_) (fun hc => ?_)<;>first|(exfalso;omega)|(conv=>whnf))|(refine AKM.x ?_;conv=>whnf)))
    refine ⟨rfl,?_⟩
    (conv=>whnf)
    skip
    have hend:w≤c∨n≤P.length:=Or.inl (by omega)
    have hrk:=elm_isrank hE hm0s hal hend
    have hPn:P.length≤n:=by have:=hE.ech.pl;omega
    have hPw:P.length≤w:=by have:=hE.ech.le;have:=hE.cc;omega
    skip
    refine ⟨.tup [.int .i64 P.length,.int .i64 0],?_,P.length,rfl,hrk,hPn,hPw⟩
    (conv=>whnf)
    exact FinP.go rfl (by simp [Clean,CleanL])
  ·clear eh
   intro hmeet
   refine AKM.loop1 (fun c=>w-c) (fun (c:Nat)=>Elm m0 K0 w w m P c odd l) (fun c=>[(8,.int .i64 c)]) (fun _=>[]) [17] [] c (by (conv=>whnf);exact ⟨rfl,rfl,rfl⟩) hE ?_
   clear hE
   intro c hE ch
   have hcc:=hE.cc
   by_cases hcn:c<w
   ·(repeat' (first|(refine CmpP.go (fun hc => ?_) (fun hc => ?_)<;>first|(exfalso;omega)|(conv=>whnf))|(refine AKM.x ?_;conv=>whnf)))
    refine AKM.loop1 (fun i=>n-i) (fun (i:Nat)=>P.length≤i∧i≤n ∧ ∀ (q:Nat) (r:List Rat),P.length≤q→q<i→m[q]? = some r→r.getD c 0=0) (fun i=>[(11,.int .i64 i)]) (fun _=>[]) [] [] P.length (by (conv=>whnf);exact ⟨rfl,rfl,rfl⟩) ⟨Nat.le_refl _,by omega,fun q r h1 h2=>absurd h1 (by omega)⟩ ?_
    intro i ⟨i1,i2,i3⟩ ih
    by_cases hi:i<n
    ·obtain ⟨rp,hr0⟩ : ∃ r,m[i]? = some r:=⟨_,List.getElem?_eq_getElem (by omega)⟩
     have hrl:=hE.ech.lr rp (List.mem_of_getElem? hr0)
     have hrc0:rp[c]? = some (rp.getD c 0):=getD_someH (by omega)
     have hSg:=ev_signQ N.toRatGLib (hE.ms.at hr0 _ (List.mem_of_getElem? hrc0)) (by omega)
     have hz:=sgn_num (x:=rp.getD c 0)
     generalize hrcv:rp.getD c 0=rc at *
     generalize sgn rc.num=sg at *
     by_cases hsg:sg=0
     ·(repeat' (first|(refine CmpP.go (fun hc => ?_) (fun hc => ?_)<;>first|(exfalso;omega)|(conv=>whnf))|(refine Req.go ?_ ?_;omega;conv=>whnf)|(refine LdM.nat ?_ (fun r hr => ?_);omega;conv=>whnf)|(refine AKM.x ?_;conv=>whnf)))
      cases hr0.symm.trans hr
      refine Req.go (by rw[List.length_map];omega) ?_
      (conv=>whnf)
      (repeat' (first|(refine LdR.nat ?_ (fun _=>rfl) (fun v hv => ?_);omega;conv=>whnf)|(refine GetM.ati (by assumption) ?_;conv=>whnf)))
      cases hrc0.symm.trans hv
      (repeat' (first|(refine CmpP.go (fun hc => ?_) (fun hc => ?_)<;>first|(exfalso;omega)|(conv=>whnf))|(refine OpP.add ?_ ?_;omega;conv=>whnf)|(refine CallP.go (hSg) ?_;conv=>whnf)))
      refine AKM.back [] (by (conv=>whnf);exact ⟨rfl,rfl,rfl⟩) (ih (i+1) (by omega) ⟨by omega,by omega,fun q x h1 h2 hx => ?_⟩)
      by_cases e:q=i
      ·subst e
       cases hr0.symm.trans hx
       rw[hrcv];exact hz.1 hsg
      ·exact i3 q x h1 (by omega) hx
     ·clear ih ch
      have hnz:rc≠0:=fun e=>hsg (hz.2 e)
      (repeat' (first|(refine CmpP.go (fun hc => ?_) (fun hc => ?_)<;>first|(exfalso;omega)|(conv=>whnf))|(refine Req.go ?_ ?_;omega;conv=>whnf)|(refine LdM.nat ?_ (fun r hr => ?_);omega;conv=>whnf)|(refine AKM.x ?_;conv=>whnf)))
      cases hr0.symm.trans hr
      refine Req.go (by rw[List.length_map];omega) ?_
      (conv=>whnf)
      (repeat' (first|(refine LdR.nat ?_ (fun _=>rfl) (fun v hv => ?_);omega;conv=>whnf)|(refine GetM.ati (by assumption) ?_;conv=>whnf)))
      cases hrc0.symm.trans hv
      (repeat' (first|(refine CmpP.go (fun hc => ?_) (fun hc => ?_)<;>first|(exfalso;omega)|(conv=>whnf))|(refine Req.go ?_ ?_;omega;conv=>whnf)|(refine LdM.nat ?_ (fun r hr => ?_);omega;conv=>whnf)|(refine GetM.ati (by assumption) ?_;conv=>whnf)|(refine CallP.go (hSg) ?_;conv=>whnf)))
      ·obtain ⟨t,ht0⟩ : ∃ t,m[P.length]? = some t:=⟨_,List.getElem?_eq_getElem (by omega)⟩
       refine Req.go ⟨rfl,by simp only[mxR,List.length_map];omega⟩ ?_
       (conv=>whnf)
       (repeat' (first|(refine Req.go ?_ ?_;omega;conv=>whnf)|(refine GetM.ati (by assumption) ?_;conv=>whnf)))
       rw[show 0+((i:Nat):Int).toNat=i by omega,show 0+((P.length:Nat):Int).toNat=P.length by omega]
       refine Req.go ⟨rfl,by simp only[mxR,List.length_map,List.length_set,List.length_range];omega,vw_lt (by simp only[mxR,List.length_map];omega)⟩ ?_
       (conv=>whnf)
       skip
       have hE2:=hE.swap hr0 ht0 i1 (Nat.le_refl _) (by omega)
       have hS2:c<w → ∃ rp',((m.set i t).set P.length rp)[P.length]? = some rp'∧rp'.getD c 0≠0:=fun _=>⟨rp,by rw[List.getElem?_set,if_pos rfl,if_pos (by rw[List.length_set];omega)],by rw[hrcv];exact hnz⟩
       generalize hob:(!odd)=ob at *
       cases ob
       all_goals
        (conv=>whnf)
        skip
        refine Held.go ?_
        refine AKM.swap (k:=231016) (i:=i) (j:=P.length) rfl (mxR_at hr0) (mxR_at ht0) rfl rfl ?_
        rw[mxR_swap]
        exact AKM.back [] (by (conv=>whnf);exact ⟨rfl,rfl,rfl⟩) (hmeet _ c _ ⟨hE2,hS2⟩)
      ·have ei:i=P.length:=by omega
       exact Held.go (AKM.back [] (by (conv=>whnf);exact ⟨rfl,rfl,rfl⟩) (hmeet m c odd ⟨hE,fun _=>⟨rp,by rw[←ei];exact hr0,by rw[hrcv];exact hnz⟩⟩))
    ·have ei:i=n:=by omega
     clear ih
     (repeat' (first|(refine CmpP.go (fun hc => ?_) (fun hc => ?_)<;>first|(exfalso;omega)|(conv=>whnf))|(refine OpP.add ?_ ?_;omega;conv=>whnf)|(refine AKM.x ?_;conv=>whnf)))
     exact AKM.back [] (by (conv=>whnf);exact ⟨rfl,rfl,rfl⟩) (ch (c+1) (by omega) (hE.skip hcn fun q x h1 hx=>i3 q x h1 (by have:=(List.getElem?_eq_some_iff.1 hx).1;omega) hx))
   ·clear ch
    (repeat' (first|(refine CmpP.go (fun hc => ?_) (fun hc => ?_)<;>first|(exfalso;omega)|(conv=>whnf))|(refine AKM.x ?_;conv=>whnf)))
    exact Held.go (AKM.back [] (by (conv=>whnf);exact ⟨rfl,rfl,rfl⟩) (hmeet m c odd ⟨hE,fun h=>absurd h hcn⟩))
 ·clear eh
  (repeat' (first|(refine CmpP.go (fun hc => ?_) (fun hc => ?_)<;>first|(exfalso;omega)|(conv=>whnf))|(refine AKM.x ?_;conv=>whnf)))
  refine ⟨rfl,?_⟩
  (conv=>whnf)
  skip
  have hend:w≤c∨n≤P.length:=Or.inr (by omega)
  have hrk:=elm_isrank hE hm0s hal hend
  have hPn:P.length≤n:=by have:=hE.ech.pl;omega
  have hPw:P.length≤w:=by have:=hE.ech.le;have:=hE.cc;omega
  skip
  refine ⟨.tup [.int .i64 P.length,.int .i64 0],?_,P.length,rfl,hrk,hPn,hPw⟩
  (conv=>whnf)
  exact FinP.go rfl (by simp [Clean,CleanL])
end Go.Eng



namespace Go.Eng
open F
attribute [local irreducible] AKM CmpP Req OpP UnP ConvP RdP LdR StR MkR LenP AppR AppN CpyR RowP SnR Bds SlS CallP CalP FinP pw LdM GetM SetM PutM MkM AppM SnM FlP CallR
set_option maxHeartbeats 16000000
variable {L:Lib}
theorem mul_ms {a b:List (List Rat)} {n w k l:Nat} (haw : ∀ r∈a,r.length=n) (hbw : ∀ r∈b,r.length=w) (ha:Ms k a) (hb:Ms l b):Ms (n*(k+l+1)) (mulQ a b w):=fun r hr=>by
 obtain ⟨s,hs,rfl⟩:=List.mem_map.1 hr
 intro x hx
 obtain ⟨j,hj,rfl⟩:=List.mem_map.1 hx
 have h1:=(ha s hs).dot (b:=colQ b j) (l:=l) (fun y hy=>by
  obtain ⟨t,ht,rfl⟩:=List.mem_map.1 hy
  obtain ⟨e,he1⟩:=List.getElem?_of_mem ht
  exact (hb.at he1).at (getD_someH (by rw[hbw t ht];exact List.mem_range.1 hj)))
 rwa [haw s hs]at h1
theorem mul_sz (a b:List (List Rat)) (w:Nat) : ∀ r∈mulQ a b w,r.length=w:=fun r hr=>by
 obtain ⟨x,_,rfl⟩:=List.mem_map.1 hr
 exact mulRow_len _ _ _
end Go.Eng

namespace Go.Eng
open F
attribute [local irreducible] AKM CmpP Req OpP UnP ConvP RdP LdR StR MkR LenP AppR AppN CpyR RowP SnR Bds SlS CallP CalP FinP pw LdM GetM SetM PutM MkM AppM SnM FlP CallR
set_option maxHeartbeats 16000000
variable {L:Lib}
theorem tr_ms {a:List (List Rat)} {w k:Nat} (haw : ∀ r∈a,r.length=w) (ha:Ms k a):Ms k (trW a w):=fun r hr=>by
 obtain ⟨j,hj,rfl⟩:=List.mem_map.1 hr
 intro x hx
 obtain ⟨s,hs,rfl⟩:=List.mem_map.1 hx
 obtain ⟨e,he1⟩:=List.getElem?_of_mem hs
 exact (ha.at he1).at (getD_someH (by rw[haw s hs];exact List.mem_range.1 hj))
theorem bd_det20 {n:Nat} (h:1≤n∧n≤4):6^n*(3^n*20)≤1000000000000∧n*(3^n*2+3^n*2+1)+3^n*2+3^n*2≤1000000000000:=by
 rcases four_of h with rfl|rfl|rfl|rfl<;>decide
theorem ev_law09_LinearProducts (N:LawPLib L) (l m:List Int) (z:Int) (hz:0≤z∧z≤255) (q1 q2:Bool) (ll:l.length<9223372036854775808) (lm:m.length<9223372036854775808) (vl : ∀ v∈l,InI v) (vm : ∀ v∈m,InI v) :
  Ev L 251 [.sl q1 (l.map encInt),.sl q2 (m.map encInt),.int .u8 z] (.bool true):=by
 have hA:=ev_awake9 N.toLawHLib
 obtain ⟨n,hn,hzn⟩ : ∃ n:Nat,(1≤n∧n≤4)∧1+z%4=n:=⟨(1+z%4).toNat,by omega,by omega⟩
 obtain ⟨a,hal,haw,hab,hMa⟩:=ev_Matrix N.toMakGLib q1 l ll vl n n (by omega) (by omega)
 obtain ⟨b,hbl,hbw,hbb,hMb⟩:=ev_Matrix N.toMakGLib q2 m lm vm n n (by omega) (by omega)
 have hn52:1≤n∧n≤52:=by omega
 obtain ⟨hB20,hBt⟩:=bd_det20 hn
 have hB2:=bd_det hn
 obtain ⟨D,hD,hDM,hDT⟩:=det_ex hn
 have hTi:=ev_lTimes N.toMatHLib false false false false a b n n n 2 2 hal haw hbl hbw hn52 hn52 hn52 (by omega) (by omega) hab hbb hBt
 have hTr:=ev_Transpose N.toMatHLib false false a n n 2 hal haw hn52 hn52 hab (by omega)
 have hcl:(mulQ a b n).length=n:=by rw[mulQ_len];exact hal
 have hcw:=mul_sz a b n
 have hcb:Ms 20 (mulQ a b n):=fun r hr=>(mul_ms haw hbw hab hbb r hr).le (by omega)
 have htl:=trW_len a n
 have htw:=trW_w (w:=n) hal
 have htb:=tr_ms haw hab
 obtain ⟨u,hu,hub,hun,huD⟩:=ev_Determinant N.toMatGLib false false a n 2 hal haw hn52 (by omega) hab hB2
 obtain ⟨v,hv1,hvb,_,hvD⟩:=ev_Determinant N.toMatGLib false false b n 2 hbl hbw hn52 (by omega) hbb hB2
 obtain ⟨w,hw1,hwb,_,hwD⟩:=ev_Determinant N.toMatGLib false false (mulQ a b n) n 20 hcl hcw hn52 (by omega) hcb hB20
 obtain ⟨x,hx1,hxb,_,hxD⟩:=ev_Determinant N.toMatGLib false false (trW a n) n 2 htl htw hn52 (by omega) htb hB2
 obtain ⟨y,hy1,hyr,hyn,_⟩:=ev_Rank N.toMatHLib false false a n n 2 hal haw hn52 hn52 (by omega) hab hB2
 obtain ⟨y2,hy2,hyr2,_⟩:=ev_Rank N.toMatHLib false false (trW a n) n n 2 htl htw hn52 hn52 (by omega) htb hB2
 obtain rfl:y2=y:=rank_tr ⟨hal,haw⟩ hyr hyr2
 have hyk:=(rank_ns2 ⟨hal,haw⟩ hyr).trans hun.symm
 obtain rfl:w=u*v:=by
  have h1:=hwD 1 D hD
  have h2:=hvD 1 D hD
  have h3:=huD (D b) _ (hDM b ⟨hbl,hbw⟩)
  simp only[Rat.one_mul]at h1 h2
  rw[←h1,h3,h2,Rat.mul_comm]
 obtain rfl:x=u:=by
  have h1:=hxD 1 D hD
  have h2:=huD 1 D hD
  rw[Rat.one_mul]at h1 h2
  rw[←h1,←h2,hDT a ⟨hal,haw⟩]
 obtain ⟨sg,hSg,hsz⟩:=ev_sign3 N.toRefHLib hub (by omega)
 have hMu:=ev_mul3 N.toRefGLib hub hvb (by omega) (by omega)
 have hS1:=ev_r3_Same N.toRefHLib hwb (by omega)
 have hS2:=ev_r3_Same N.toRefHLib hub (by omega)
 clear hD hDM hDT huD hvD hwD hxD hyr hyr2
 generalize mulQ a b n=c at *
 generalize trW a n=t at *
 generalize x*v=xv at *
 refine Ev.x N.law09_LinearProducts rfl rfl ?_
 (repeat' (first|(refine OpP.add ?_ ?_;omega;conv=>whnf)|(refine OpP.rem ?_ (fun _ _ _ => ?_) (fun _ _ _ _ => ?_);omega;all_goals first|(exfalso;omega)|(conv=>whnf))|(refine ConvP.i64 ?_ ?_;omega;conv=>whnf)|(refine AKM.x ?_;conv=>whnf)))
 rw[hzn]
 by_cases hyn2:y2=n
 ·have hs0:sg≠0:=fun e=>hyk.1 hyn2 (hsz.1 e)
  (repeat' (first|(refine CmpP.go (fun hc => ?_) (fun hc => ?_)<;>first|(exfalso;omega)|(conv=>whnf))|(refine CallP.go (hMa) ?_;conv=>whnf)|(refine CallP.go (hMb) ?_;conv=>whnf)|(refine CallP.go (hTi) ?_;conv=>whnf)|(refine CallP.go (hTr) ?_;conv=>whnf)|(refine CallP.go (hu) ?_;conv=>whnf)|(refine CallP.go (hv1) ?_;conv=>whnf)|(refine CallP.go (hw1) ?_;conv=>whnf)|(refine CallP.go (hx1) ?_;conv=>whnf)|(refine CallP.go (hy1) ?_;conv=>whnf)|(refine CallP.go (hy2) ?_;conv=>whnf)|(refine CallP.go (hA) ?_;conv=>whnf)|(refine CallP.go (hMu) ?_;conv=>whnf)|(refine CallP.go (hS1) ?_;conv=>whnf)|(refine CallP.go (hS2) ?_;conv=>whnf)|(refine CallP.go (hSg) ?_;conv=>whnf)))
  exact FinP.b rfl
 ·have hs0:sg=0:=hsz.2 (Classical.byContradiction fun e=>hyn2 (hyk.2 e))
  (repeat' (first|(refine CmpP.go (fun hc => ?_) (fun hc => ?_)<;>first|(exfalso;omega)|(conv=>whnf))|(refine CallP.go (hMa) ?_;conv=>whnf)|(refine CallP.go (hMb) ?_;conv=>whnf)|(refine CallP.go (hTi) ?_;conv=>whnf)|(refine CallP.go (hTr) ?_;conv=>whnf)|(refine CallP.go (hu) ?_;conv=>whnf)|(refine CallP.go (hv1) ?_;conv=>whnf)|(refine CallP.go (hw1) ?_;conv=>whnf)|(refine CallP.go (hx1) ?_;conv=>whnf)|(refine CallP.go (hy1) ?_;conv=>whnf)|(refine CallP.go (hy2) ?_;conv=>whnf)|(refine CallP.go (hA) ?_;conv=>whnf)|(refine CallP.go (hMu) ?_;conv=>whnf)|(refine CallP.go (hS1) ?_;conv=>whnf)|(refine CallP.go (hS2) ?_;conv=>whnf)|(refine CallP.go (hSg) ?_;conv=>whnf)))
  exact FinP.b rfl
end Go.Eng

namespace Go.Eng
theorem wf_u8 {n:Int} (h:(Lit.int .u8 n).wf=true):0≤n∧n≤255:=by
 simp only[Lit.wf,Bool.and_eq_true,decide_eq_true_eq]at h
 have h1:IntKind.u8.min=0:=rfl
 have h2:IntKind.u8.max=255:=rfl
 rw[h1,h2]at h
 exact h
theorem has_u8 {cs:List AV} (h:HasL (.int .u8) cs) : ∃ n,cs=[.int .u8 n]∧0≤n∧n≤255:=by obtain ⟨n,rfl,hw⟩:=h;exact ⟨n,rfl,wf_u8 hw⟩
end Go.Eng
