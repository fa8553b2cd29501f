/-
  Linear systems with several right sides (layer 9).
-/
import Derived.Test.YtoibhhbngpdcaaaB11
import Derived.Test.YtoibhhbngpdcaaaB4
import Derived.Test.YtoibhhbngpdcaaaB10
import Derived.Test.YtoibhhbngpdcaaaB9
set_option linter.unusedSimpArgs false
set_option linter.unusedVariables false
set_option linter.unnecessarySimpa false
namespace Go.Eng
open F
attribute [local irreducible] AKM CmpP Req OpP UnP ConvP RdP LdR StR MkR LenP AppR AppN CpyR RowP SnR Bds SlS CallP CalP FinP pw LdM GetM SetM PutM MkM AppM SnM FlP CallR
set_option maxHeartbeats 16000000
variable {L:Lib}
def encJ:Option (List Rat)→List AV
 | none=>[.nil]
 | some r=>[.sl false (r.map eQ)]
def ofColsW (y:Nat→List Rat) (n w:Nat):List (List Rat):=(List.range n).map fun i:Nat=>(List.range w).map fun c=>(y c).getD i 0
theorem fz_full_map {n:Nat} {l:List (List Rat)} (h:l.length=n):(fz none (l.map some) n).map encJ=eM l:=by
 rw[fz_full (by simpa using h),List.map_map]
 rfl
theorem sol_diag {m0 m:List (List Rat)} {K n W c:Nat} {P:List Nat} {odd:Bool} {l:Rat} (hE:Elm m0 K W n m P c odd l) (hP:P.length=n) (hml:m.length=n):Tri (atQ m) n:=by
 have hc:c=n:=by have:=hE.ech.le;have:=hE.cc;omega
 subst hc
 exact hE.ech.tri fun i hi=>by
  obtain ⟨q,hq⟩ : ∃ q,P[i]? = some q:=⟨_,List.getElem?_eq_getElem (by omega)⟩
  rw[hq,hE.ech.diag hP i q hq]
theorem sol_facts {m0 m a b:List (List Rat)} {K n w c:Nat} {P:List Nat} {odd:Bool} {l:Rat} (hE:Elm m0 K (n+w) n m P c odd l) (hs:Scl m0 (join2 a b)) (hl:a.length=b.length) (haw : ∀ r∈a,r.length=n) (hbw : ∀ r∈b,r.length=w) (hP:P.length=n) (hml:m.length=n) :
  ∀ c',c'<w → ∀ (i:Nat) (r s:List Rat),a[i]? = some r→b[i]? = some s→dotQ r ((bsQ (n+c') l m 0).map (· / l))=s.getD c' 0:=by
 intro c' hc' i r s hr hs'
 have ht:=sol_diag hE hP hml
 have hlen:=hE.ech.lr
 refine col_sol (fun X=>(hE.ker X).trans (hs.ker X)) hl haw hbw hc' (by rw[List.length_map,bsQ_len];exact hml) hlen (fun x hx => ?_) hr hs'
 have h1:=bs_sol (c:=n+c') (l:=l) (fun r hr=>by rw[hlen r hr];omega) hml ht x hx
 have hyl:((bsQ (n+c') l m 0).map (· * l⁻¹)).length=n:=by rw[List.length_map,bsQ_len];exact hml
 rw[show ((bsQ (n+c') l m 0).map (· / l))=(bsQ (n+c') l m 0).map (· * l⁻¹) from List.map_congr_left fun z _=>Rat.div_def z l,dotQ_comm,←dotQ_all hyl,List.take_take,Nat.min_self,dotQ_all hyl,dotQ_smr,dotQ_comm,h1,Rat.mul_assoc,Rat.mul_inv_cancel _ hE.l0,Rat.mul_one]
theorem sol_whole (N:MatGLib L) (q q1 q2 q3:Bool) (a0 b0:List (List Rat)) (a:List (List Rat)) (n WW k:Nat) (hal:a.length=n) (haw : ∀ r∈a,r.length=WW) (hn:1≤n∧n≤52) (hW:WW≤104) (hk:1≤k) (hab:Ms k a) (hKB:3^WW*k≤1000000000000) {kk:List It} {Q:Tm→Mem→Prop}
  (hfin:AKM L kk ([(5,.row 231019 0 3 0 n),(4,.row 231016 0 1 0 n)]++[(1000+43,.row 22 0 1 0 n),(1000+26,.bool false),(1000+25,.int .i64 n),(1000+24,.int .i64 n),(1000+7,.row 22 0 1 0 n),(1000+6,.int .i64 n),(1000+0,.sl q (eMq q1 a0)),(1000+(0+1),.sl q2 (eMq q3 b0))]) ([(231016,231016,.mx (mxR 3 eQ (whole a))),(231019,231019,.rw 3 ((a.map scQ).map eQ))]++[(22,22,.rw 1 (eM a))]) Q) :
  AKM L (.lp linear_wholeRows.l1 :: .blk 0::kk) ([(22,.int .i64 0),(21,.int .i64 n),(20,.row 22 0 1 0 n),(5,.row 231019 0 3 0 n),(4,.row 231016 0 1 0 n)]++[(1000+43,.row 22 0 1 0 n),(1000+26,.bool false),(1000+25,.int .i64 n),(1000+24,.int .i64 n),(1000+7,.row 22 0 1 0 n),(1000+6,.int .i64 n),(1000+0,.sl q (eMq q1 a0)),(1000+(0+1),.sl q2 (eMq q3 b0))]) ([(231016,231016,.mx (List.replicate n none)),(231019,231019,.rw 3 ((List.replicate n none).map eO))]++[(22,22,.rw 1 (eM a))]) Q:=by
 have hI:=ev_rational_Of N.toRatGLib 1 (by omega)
 refine AKM.cut (l:=[_,_]) rfl ?_
 refine AKM.loop1 (fun i=>n-i) (fun (i:Nat)=>i≤n) (fun i=>[(22,.int .i64 i)]) (fun i=>[(231016,231016,.mx (mz (whole a) n i)),(231019,231019,.rw 3 ((fillO ((a.map scQ).take i) n).map eO))]) [] [] 0 (by first|exact (by (conv=>whnf);exact ⟨rfl,rfl,rfl⟩)|(rw[←mz_zero (whole a),List.take_zero,←fillO_nil];exact (by (conv=>whnf);exact ⟨rfl,rfl,rfl⟩))) (by omega) ?_
 intro i p1 ih
 have hzl:=mz_len (Q:=whole a) p1
 by_cases hi:i<n
 ·obtain ⟨r,hr⟩ : ∃ r,a[i]? = some r:=⟨_,List.getElem?_eq_getElem (by omega)⟩
  have hr':a[(i:Int).toNat]? = some r:=hr
  have hrl:=haw r (List.mem_of_getElem? hr)
  have hrb:=hab.at hr
  have hst:=mz_set (Q:=whole a) (i:=i) (n:=n) (row:=r.map (· * scQ r)) (by simp [whole,hr]) hi
  have hsca:(a.map scQ)[i]? = some (scQ r):=by simp [hr]
  generalize mz (whole a) n i=R0 at *
  have hsb : ∀ j,Bt (3^WW*k) (scQ (r.take j)):=fun j=>(scQ_bt hk (hrb.take j)).le (by
   have:3^(r.take j).length≤3^WW:=Nat.pow_le_pow_right (by omega) (by rw[List.length_take];omega)
   have:=Nat.mul_le_mul_right k this
   omega)
  have hkK:k≤3^WW*k:=Nat.le_mul_of_pos_left k (Nat.pow_pos (by omega))
  have hscr:=hsb WW
  rw[List.take_of_length_le (by omega)]at hscr
  generalize 3^WW*k=K at *
  (repeat' (first|(refine CmpP.go (fun hc => ?_) (fun hc => ?_)<;>first|(exfalso;omega)|(conv=>whnf))|(refine Req.go ?_ ?_;omega;conv=>whnf)|(refine LenP.go ?_;conv=>whnf)|(refine LdR.nat ?_ (fun _=>rfl) (fun v hv => ?_);omega;conv=>whnf)|(refine AKM.x ?_;conv=>whnf)|(refine CallP.go (hI) ?_;conv=>whnf)))
  try cases hr.symm.trans hv
  refine AKM.loop2 (fun j _=>WW-j) (fun (j:Nat) (s:Rat)=>j≤WW∧s=scQ (r.take j)) (fun j _=>[(30,.int .i64 j)]) (fun _ s=>[(231008,231008,.bx (eQ s))]) [] [] 0 ((1:Int):Rat) (by (conv=>whnf);exact ⟨rfl,rfl,rfl⟩) ⟨by omega,by rw[List.take_zero];rfl⟩ ?_
  intro j s ⟨p2,p3⟩ jh
  by_cases hj:j<WW
  ·obtain ⟨x,hx⟩ : ∃ x,r[j]? = some x:=⟨_,List.getElem?_eq_getElem (by omega)⟩
   have hx':r[(j:Int).toNat]? = some x:=hx
   have hsj:Bt K s:=by rw[p3];exact hsb j
   have bx:=hrb.at hx
   have hM1:=ev_mulQ N.toRatGLib hsj bx (by omega) (by omega)
   have hM2:=ev_mulDen N.toRatGLib true hsj (hsj.mul bx).2 (by omega) (by omega)
   have hnx:scQ (r.take (j+1))=s*(((s*x).den:Nat):Rat):=by rw[take_snoc' hx,scQ_snoc,←p3];rfl
   (repeat' (first|(refine CmpP.go (fun hc => ?_) (fun hc => ?_)<;>first|(exfalso;omega)|(conv=>whnf))|(refine OpP.add ?_ ?_;omega;conv=>whnf)|(refine RdP.at (by assumption) ?_ rfl ?_;omega;conv=>whnf)|(refine SnR.e1 rfl ?_;conv=>whnf)|(refine AKM.x ?_;conv=>whnf)|(refine CallP.go (hM1) ?_;conv=>whnf)|(refine CallP.go (hM2) ?_;conv=>whnf)))
   exact AKM.back [] (by (conv=>whnf);exact ⟨rfl,rfl,rfl⟩) (jh (j+1) _ (by omega) ⟨by omega,hnx.symm⟩)
  have ej:j=WW:=by omega
  clear jh
  rw[List.take_of_length_le (by omega)]at p3
  subst p3
  (repeat' (first|(refine CmpP.go (fun hc => ?_) (fun hc => ?_)<;>first|(exfalso;omega)|(conv=>whnf))|(refine LenP.go ?_;conv=>whnf)|(refine AKM.x ?_;conv=>whnf)))
  rw[hrl]
  refine MkR.go (enc:=eO) none WW rfl (by omega) (by omega) ?_
  (conv=>whnf)
  (repeat' (first|(refine Req.go ?_ ?_;omega;conv=>whnf)|fail))
  refine Req.go (by simp) ?_
  refine SetM.fz (i:=i) (by omega) (by omega) ?_
  (conv=>whnf)
  (repeat' (refine LenP.go ?_;conv=>whnf))
  refine AKM.loop1 (fun j=>WW-j) (fun (j:Nat)=>j≤WW) (fun j=>[(53,.int .i64 j)]) (fun j=>[(231016,231016,.mx (R0.set i (some (3,(fillO ((r.map (· * scQ r)).take j) WW).map eO))))]) [] [] 0 (by first|exact (by (conv=>whnf);exact ⟨rfl,rfl,rfl⟩)|(rw[List.take_zero,←fillO_nil];exact (by (conv=>whnf);exact ⟨rfl,rfl,rfl⟩))) (by omega) ?_
  intro j r2 jh
  have htj:((r.map (· * scQ r)).take j).length=j:=by rw[List.length_take,List.length_map];omega
  have hlf:=fillO_len (l:=(r.map (· * scQ r)).take j) (m:=WW) (by omega)
  by_cases hj:j<WW
  ·obtain ⟨x,hx⟩ : ∃ x,r[j]? = some x:=⟨_,List.getElem?_eq_getElem (by omega)⟩
   have hx':r[(j:Int).toNat]? = some x:=hx
   have bx:=hrb.at hx
   have hM1:=ev_mulQ N.toRatGLib bx hscr (by omega) (by omega)
   have hs:=fillO_set (l:=(r.map (· * scQ r)).take j) (m:=WW) (x:=x*scQ r) (by omega)
   rw[htj,←take_snoc' (show (r.map (· * scQ r))[j]? = some (x*scQ r) by rw[List.getElem?_map,hx];rfl)]at hs
   generalize fillO ((r.map (· * scQ r)).take j) WW=W0 at *
   (repeat' (first|(refine CmpP.go (fun hc => ?_) (fun hc => ?_)<;>first|(exfalso;omega)|(conv=>whnf))|(refine Req.go ?_ ?_;omega;conv=>whnf)|(refine RdP.at (by assumption) ?_ rfl ?_;omega;conv=>whnf)|(refine AKM.x ?_;conv=>whnf)))
   refine LdM.st (by omega) (by omega) ?_
   (conv=>whnf)
   (repeat' (refine CallP.go (hM1) ?_;conv=>whnf))
   refine Req.go (by rw[List.length_map];omega) ?_
   (conv=>whnf)
   skip
   refine GetM.st (by omega) (by omega) ?_
   (conv=>whnf)
   refine StR.nat (enc:=eO) (some (x*scQ r)) rfl (fun e=>by cases e<;>rfl) (by omega) ?_
   (conv=>whnf)
   rw[hs]
   refine PutM.st (by omega) (by rw[List.length_map,List.length_map,←hs,List.length_set]) ?_
   (conv=>whnf)
   (repeat' (refine OpP.add ?_ ?_;omega;conv=>whnf))
   exact AKM.back [] (by (conv=>whnf);exact ⟨rfl,rfl,rfl⟩) (jh (j+1) (by omega) (by omega))
  have ej:j=WW:=by omega
  clear jh
  rw[List.take_of_length_le (by rw[List.length_map];omega),fillO_full (by rw[List.length_map];exact hrl),hst]
  have hti:((a.map scQ).take i).length=i:=by rw[List.length_take,List.length_map];omega
  have hfi:=fillO_len (l:=(a.map scQ).take i) (m:=n) (by omega)
  have hfs:=fillO_set (l:=(a.map scQ).take i) (m:=n) (x:=scQ r) (by omega)
  rw[hti,←take_snoc' hsca]at hfs
  generalize fillO ((a.map scQ).take i) n=W1 at *
  (repeat' (first|(refine CmpP.go (fun hc => ?_) (fun hc => ?_)<;>first|(exfalso;omega)|(conv=>whnf))|(refine Req.go ?_ ?_;omega;conv=>whnf)|(refine AKM.x ?_;conv=>whnf)))
  refine StR.nat (enc:=eO) (some (scQ r)) rfl (fun e=>by cases e<;>rfl) (by omega) ?_
  (conv=>whnf)
  rw[hfs]
  (repeat' (refine OpP.add ?_ ?_;omega;conv=>whnf))
  exact AKM.back [] (by (conv=>whnf);exact ⟨rfl,rfl,rfl⟩) (ih (i+1) (by omega) (by omega))
 have ei:i=n:=by omega
 clear ih
 rw[ei,mz_full (by simp [whole,hal]),List.take_of_length_le (by rw[List.length_map];omega),fillO_full (by rw[List.length_map];exact hal)]
 (repeat' (first|(refine CmpP.go (fun hc => ?_) (fun hc => ?_)<;>first|(exfalso;omega)|(conv=>whnf))|(refine AKM.x ?_;conv=>whnf)))
 exact AKM.back [] (by (conv=>whnf);exact ⟨rfl,rfl,rfl⟩) hfin
theorem sol_sweep (N:MatGLib L) (q2 q3:Bool) (b0 jm:List (List Rat)) {m0 m1:List (List Rat)} {n cw WW K0 c:Nat} {P:List Nat} {o:Bool} {l:Rat} {rp:List Rat} (sc:List Rat) (hm0l:m0.length=n) (hn:1≤n∧n≤52) (hW:cw≤WW) (hW2:WW≤104) (hK0:1≤K0) (hB:6^n*K0≤1000000000000) (hP:P.length<n) (hcn:c<cw) (hS:Swp m0 K0 WW cw P c o l rp m1 (P.length+1)) {kk:List It} {Q:Tm→Mem→Prop}
  (hfin : ∀ m2,Swp m0 K0 WW cw P c o l rp m2 n→AKM L kk ([(9,.bool o),(8,.int .i64 c),(7,.int .i64 (P.length:Nat)),(10,.ptr 233010 0 0 0),(5,.ptr 233005 0 0 0),(0,.row 231016 0 1 0 n),(0+1,.int .i64 cw)]++[(1000+49,.int .i64 n),(1000+48,.row 231016 0 1 0 n),(1000+9,.row 231016 0 1 0 n),(1000+6,.int .i64 n),(1000+(0+1),.sl q2 (eMq q3 b0))]) ([(231016,231016,.mx (mxR 3 eQ m2)),(233010,233010,.bx (eQ l)),(233005,233005,.bx [.bool false,.nil,.nil])]++[(22,22,.rw 1 (eM jm)),(231019,231019,.rw 3 (sc.map eQ))]) Q) :
  AKM L (.lp linear_eliminate.l4 :: .blk 6::kk) ([(12,.int .i64 ((P.length+1:Nat):Int)),(9,.bool o),(8,.int .i64 c),(7,.int .i64 (P.length:Nat)),(10,.ptr 233010 0 0 0),(5,.ptr 233005 0 0 0),(0,.row 231016 0 1 0 n),(0+1,.int .i64 cw)]++[(1000+49,.int .i64 n),(1000+48,.row 231016 0 1 0 n),(1000+9,.row 231016 0 1 0 n),(1000+6,.int .i64 n),(1000+(0+1),.sl q2 (eMq q3 b0))]) ([(231016,231016,.mx (mxR 3 eQ m1)),(233010,233010,.bx (eQ l)),(233005,233005,.bx [.bool false,.nil,.nil])]++[(22,22,.rw 1 (eM jm)),(231019,231019,.rw 3 (sc.map eQ))]) Q:=by
 refine AKM.cut (l:=[_,_]) rfl ?_
 refine AKM.loop2 (fun _ i=>n-i) (fun (m:List (List Rat)) (i:Nat)=>Swp m0 K0 WW cw P c o l rp m i∧P.length+1≤i∧i≤n) (fun _ i=>[(12,.int .i64 i)]) (fun m _=>[(231016,231016,.mx (mxR 3 eQ m))]) [] [] m1 (P.length+1) (by (conv=>whnf);exact ⟨rfl,rfl,rfl⟩) ⟨hS,by omega,by omega⟩ ?_
 clear hS
 intro m2 i ⟨hS,j1,j2⟩ sh
 have hml2:=hS.len
 rw[hm0l]at hml2
 by_cases hj:i<n
 ·obtain ⟨rq,hq0⟩ : ∃ r,m2[i]? = some r:=⟨_,List.getElem?_eq_getElem (by omega)⟩
  have ht0':=hS.ht
  have hrql:=hS.ech.lr rq (List.mem_of_getElem? hq0)
  have htl:=hS.ech.lr rp (List.mem_of_getElem? ht0')
  (repeat' (first|(refine CmpP.go (fun hc => ?_) (fun hc => ?_)<;>first|(exfalso;omega)|(conv=>whnf))|(refine Req.go ?_ ?_;omega;conv=>whnf)|(refine LdM.nat ?_ (fun r hr => ?_);omega;conv=>whnf)|(refine AKM.x ?_;conv=>whnf)))
  rename_i rA hrA
  cases hq0.symm.trans hrA
  cases ht0'.symm.trans hr
  rw[show 0+((i:Nat):Int).toNat=i by omega,show 0+((P.length:Nat):Int).toNat=P.length by omega,show (List.map eQ rq).length=WW by rw[List.length_map];exact hrql,show (List.map eQ rp).length=WW by rw[List.length_map];exact htl]
  have hqc0:rq[c]? = some (rq.getD c 0):=getD_someH (by omega)
  refine CalP.walk 1000 N.linear_sweep rfl rfl ?_
  have hpc0:rp[c]? = some (rp.getD c 0):=getD_someH (by omega)
  have hst2:=hS.step (by omega) hq0
  have hcl:(comb (rp.getD c 0) (rq.getD c 0) l rq rp).length=WW:=by rw[comb_len (by omega)];exact hrql
  have hcg:=fun j=>comb_getD (p:=rp.getD c 0) (f:=rq.getD c 0) (l:=l) (r:=rq) (t:=rp) (by omega) j
  have hz1:=fun j (h:j<c)=>hS.ech.zr i rq (by omega) hq0 j h
  have hz2:=fun j (h:j<c)=>hS.ech.zr P.length rp (Nat.le_refl _) ht0' j h
  have hbq:=hS.hi i rq (Nat.le_refl i) hq0
  have hbp:=hS.bt
  have hbl:=hS.bl
  have hl0:=hS.l0
  have hbpc:=hbp.at hpc0
  have hbqc:=hbq.at hqc0
  generalize hpv:rp.getD c 0=pv at *
  generalize hfv:rq.getD c 0=fv at *
  generalize hcb:comb pv fv l rq rp=cb at *
  have hmix0:cb.take c++rq.drop c=rq:=mix_start (by omega) fun j hj=>⟨by rw[hcg,hz1 j hj,hz2 j hj,Rat.zero_mul,Rat.zero_mul,Rat.sub_eq_add_neg,Rat.neg_zero,Rat.add_zero,Rat.div_def,Rat.zero_mul],hz1 j hj⟩
  have hRi:=mxR_at (z:=3) hq0
  have hRp:=mxR_at (z:=3) ht0'
  have hRn:(mxR 3 eQ m2).length=n:=by simp only[mxR,List.length_map];omega
  have hRf:(mxR 3 eQ m2).set i (some (3,cb.map eQ))=mxR 3 eQ (m2.set i cb):=by simp only[mxR,List.map_set]
  generalize mxR 3 eQ m2=R2 at *
  have hR0:R2.set i (some (3,rq.map eQ))=R2:=set_same hRi
  (repeat' (first|(refine Req.go ?_ ?_;omega;conv=>whnf)|(refine AKM.x ?_;conv=>whnf)))
  refine GetM.at' hRp ?_
  (conv=>whnf)
  (repeat' (first|(refine Req.go ?_ ?_;omega;conv=>whnf)|(refine LdR.nat ?_ (fun _=>rfl) (fun v hv => ?_);omega;conv=>whnf)))
  cases hpc0.symm.trans hv
  skip
  refine GetM.at' hRi ?_
  (conv=>whnf)
  (repeat' (refine LdR.nat ?_ (fun _=>rfl) (fun v hv => ?_);omega;conv=>whnf))
  cases hqc0.symm.trans hv
  skip
  have hp7:=Nat.le_trans (pow6 hK0 P.length) (pow6le hB (show P.length+1≤n by omega))
  generalize 6^P.length*K0=BB at *
  refine AKM.loop1 (fun j=>WW-j) (fun (j:Nat)=>c≤j∧j≤WW) (fun j=>[(10,.int .i64 j)]) (fun j=>[(231016,231016,.mx (R2.set i (some (3,(cb.take j++rq.drop j).map eQ))))]) [] [] c (by first|exact (by (conv=>whnf);exact ⟨rfl,rfl,rfl⟩)|(rw[hmix0,hR0];exact (by (conv=>whnf);exact ⟨rfl,rfl,rfl⟩))) ⟨by omega,by omega⟩ ?_
  intro j ⟨k1,k2⟩ jh
  have hml:(cb.take j++rq.drop j).length=WW:=by rw[List.length_append,List.length_take,List.length_drop];omega
  by_cases hjn:j<WW
  ·obtain ⟨x,hx⟩ : ∃ x,rq[j]? = some x:=⟨_,List.getElem?_eq_getElem (by omega)⟩
   obtain ⟨y,hy⟩ : ∃ y,rp[j]? = some y:=⟨_,List.getElem?_eq_getElem (by omega)⟩
   have hcj:cb[j]? = some ((x*pv-y*fv)/l):=by rw[←hcb];exact comb_at hx hy
   have hma:=mix_at (a:=cb) (by omega) hx
   have hms:=mix_set (b:=rq) (by omega) hcj
   have bx:=hbq.at hx
   have by':=hbp.at hy
   have hM1:=ev_mulQ N.toRatGLib bx hbpc (by omega) (by omega)
   have hM2:=ev_mulQ N.toRatGLib by' hbqc (by omega) (by omega)
   have hSu:=ev_subQ N.toRatHLib (bx.mul hbpc) (by'.mul hbqc) (by omega) (by omega)
   have hDi:=ev_divQ N.toRatGLib ((bx.mul hbpc).subL (by'.mul hbqc)) hbl (by omega) (by omega) hl0
   have hRp2:(R2.set i (some (3,(cb.take j++rq.drop j).map eQ)))[P.length]? = some (some (3,rp.map eQ)):=by rw[List.getElem?_set,if_neg (by omega)];exact hRp
   generalize cb.take j++rq.drop j=cm at *
   (repeat' (first|(refine CmpP.go (fun hc => ?_) (fun hc => ?_)<;>first|(exfalso;omega)|(conv=>whnf))|(refine Req.go ?_ ?_;omega;conv=>whnf)|(refine AKM.x ?_;conv=>whnf)))
   refine GetM.st rfl (by omega) ?_
   (conv=>whnf)
   (repeat' (refine LdR.nat ?_ (fun _=>rfl) (fun v hv => ?_);omega;conv=>whnf))
   cases hma.symm.trans hv
   (repeat' (first|(refine Req.go ?_ ?_;omega;conv=>whnf)|(refine CallP.go (hM1) ?_;conv=>whnf)))
   refine GetM.at' hRp2 ?_
   (conv=>whnf)
   (repeat' (refine LdR.nat ?_ (fun _=>rfl) (fun v hv => ?_);omega;conv=>whnf))
   cases hy.symm.trans hv
   (repeat' (first|(refine CallP.go (hM2) ?_;conv=>whnf)|(refine CallP.go (hSu) ?_;conv=>whnf)))
   (repeat' (first|(refine Req.go ?_ ?_;omega;conv=>whnf)|(refine CallP.go (hDi) ?_;conv=>whnf)))
   refine GetM.st rfl (by omega) ?_
   (conv=>whnf)
   refine StR.nat (enc:=eQ) ((x*pv-y*fv)/l) rfl (fun _=>rfl) (by omega) ?_
   rw[hms]
   (conv=>whnf)
   refine PutM.st rfl (by rw[List.length_map,List.length_map,←hms,List.length_set]) ?_
   (conv=>whnf)
   (repeat' (refine OpP.add ?_ ?_;omega;conv=>whnf))
   exact AKM.back [] (by (conv=>whnf);exact ⟨rfl,rfl,rfl⟩) (jh (j+1) (by omega) ⟨by omega,by omega⟩)
  ·have ej:j=WW:=by omega
   clear jh
   rw[List.take_of_length_le (by omega),List.drop_of_length_le (by omega),List.append_nil,hRf]
   (repeat' (first|(refine CmpP.go (fun hc => ?_) (fun hc => ?_)<;>first|(exfalso;omega)|(conv=>whnf))|(refine AKM.x ?_;conv=>whnf)))
   refine ⟨rfl,_,rfl,?_⟩
   (conv=>whnf)
   (repeat' (refine OpP.add ?_ ?_;omega;conv=>whnf))
   exact AKM.back [] (by (conv=>whnf);exact ⟨rfl,rfl,rfl⟩) (sh (m2.set i cb) (i+1) (by omega) ⟨hst2,by omega,by omega⟩)
 ·have ei:i=n:=by omega
  clear sh
  rw[ei]at hS
  (repeat' (first|(refine CmpP.go (fun hc => ?_) (fun hc => ?_)<;>first|(exfalso;omega)|(conv=>whnf))|(refine AKM.x ?_;conv=>whnf)))
  exact AKM.back [] (by (conv=>whnf);exact ⟨rfl,rfl,rfl⟩) (hfin m2 hS)
theorem ev_solve (N:MatGLib L) (q q1 q2 q3:Bool) (a b:List (List Rat)) (n w k:Nat) (hal:a.length=n) (haw : ∀ r∈a,r.length=n) (hbl:b.length=n) (hbw : ∀ r∈b,r.length=w) (hn:1≤n∧n≤52) (hw:1≤w∧w≤52) (hk:1≤k) (hab:Ms k a) (hbb:Ms k b)
  (hB:6^n*(3^(n+w)*k)≤1000000000000) (hC:clB (6^n*(3^(n+w)*k)) n n≤1000000000000) {B0:Nat} (hB0:clB (6^n*(3^(n+w)*k)) n n+6^n*(3^(n+w)*k)≤B0) :
  ∃ v,Ev L 235 [.sl q (eMq q1 a),.sl q2 (eMq q3 b)] v∧((¬ NS n a∧v = .tup [.sl false [],.int .i64 11])∨(NS n a ∧ ∃ y:Nat→List Rat,v = .tup [.sl false (eM (ofColsW y n w)),.int .i64 0] ∧
   ∀ c,c<w→(y c).length=n∧Bs B0 (y c) ∧ ∀ (i:Nat) (r s:List Rat),a[i]? = some r→b[i]? = some s→dotQ r (y c)=s.getD c 0)):=by
 have hI:=ev_rational_Of N.toRatGLib 1 (by omega)
 have hjl:(join2 a b).length=n:=by simp [join2,hal,hbl]
 have hjw : ∀ r∈join2 a b,r.length=n+w:=fun r hr=>by
  obtain ⟨i,hi⟩:=List.getElem?_of_mem hr
  have hil:=(List.getElem?_eq_some_iff.1 hi).1
  obtain ⟨x,hx⟩ : ∃ x,a[i]? = some x:=⟨_,List.getElem?_eq_getElem (by omega)⟩
  obtain ⟨y,hy⟩ : ∃ y,b[i]? = some y:=⟨_,List.getElem?_eq_getElem (by omega)⟩
  obtain rfl:=Option.some.inj ((join_at hx hy).symm.trans hi)
  rw[List.length_append,haw x (List.mem_of_getElem? hx),hbw y (List.mem_of_getElem? hy)]
 have hjb:Ms k (join2 a b):=fun r hr=>by
  obtain ⟨i,hi⟩:=List.getElem?_of_mem hr
  have hil:=(List.getElem?_eq_some_iff.1 hi).1
  obtain ⟨x,hx⟩ : ∃ x,a[i]? = some x:=⟨_,List.getElem?_eq_getElem (by omega)⟩
  obtain ⟨y,hy⟩ : ∃ y,b[i]? = some y:=⟨_,List.getElem?_eq_getElem (by omega)⟩
  obtain rfl:=Option.some.inj ((join_at hx hy).symm.trans hi)
  intro z hz
  rcases List.mem_append.1 hz with hz|hz
  ·exact hab.at hx z hz
  ·exact hbb.at hy z hz
 refine Ev.xE N.linear_solve rfl rfl ?_
 (repeat' (first|(refine LenP.go ?_;conv=>whnf)|(refine AKM.x ?_;conv=>whnf)))
 unfold MkM
 refine ⟨⟨by omega,by omega,by simp only[roomMax];omega,by omega⟩,?_⟩
 rw[Int.toNat_natCast,hal]
 (conv=>whnf)
 skip
 refine AKM.mxN 22 22 n rfl ?_
 refine AKM.loop1 (fun i=>n-i) (fun (i:Nat)=>i≤n) (fun i=>[(25,.int .i64 i)]) (fun i=>[(22,22,.rw 1 ((fz none (((join2 a b).take i).map some) n).map encJ))]) [] [] 0 (by first|exact (by (conv=>whnf);exact ⟨rfl,rfl,rfl⟩)|(rw[List.take_zero,List.map_nil,show fz (none:Option (List Rat)) [] n=List.replicate n none by simp [fz],List.map_replicate];exact (by (conv=>whnf);exact ⟨rfl,rfl,rfl⟩))) (by omega) ?_
 intro i p1 ih
 by_cases hi:i<n
 ·obtain ⟨r,hr0⟩ : ∃ r,a[i]? = some r:=⟨_,List.getElem?_eq_getElem (by omega)⟩
  obtain ⟨s,hs0⟩ : ∃ s,b[i]? = some s:=⟨_,List.getElem?_eq_getElem (by omega)⟩
  have hr':a[(i:Int).toNat]? = some r:=hr0
  have hs':b[(i:Int).toNat]? = some s:=hs0
  have hrl:=haw r (List.mem_of_getElem? hr0)
  have hsl:=hbw s (List.mem_of_getElem? hs0)
  have hCc:=ev_Concat N true q1 q3 r s (by omega) (by omega) (by omega)
  have hti:(((join2 a b).take i).map some).length=i:=by rw[List.length_map,List.length_take];omega
  have hfl:=fz_len (z:=(none:Option (List Rat))) (l:=((join2 a b).take i).map some) (m:=n) (by omega)
  have hfs:=fz_set (z:=(none:Option (List Rat))) (x:=some (r++s)) (l:=((join2 a b).take i).map some) (m:=n) (by omega)
  have hta:(join2 a b).take (i+1)=(join2 a b).take i++[r++s]:=by rw[List.take_add_one,join_at hr0 hs0];rfl
  rw[hti,show ((join2 a b).take i).map some++[some (r++s)]=((join2 a b).take (i+1)).map some by rw[hta,List.map_append];rfl]at hfs
  generalize fz (none:Option (List Rat)) (((join2 a b).take i).map some) n=J at *
  (repeat' (first|(refine CmpP.go (fun hc => ?_) (fun hc => ?_)<;>first|(exfalso;omega)|(conv=>whnf))|(refine Req.go ?_ ?_;omega;conv=>whnf)|(refine RdP.at (by assumption) ?_ rfl ?_;omega;conv=>whnf)|(refine SnR.e2 rfl rfl ?_;conv=>whnf)|(refine AKM.x ?_;conv=>whnf)|(refine CallP.go (hCc) ?_;conv=>whnf)))
  refine StR.nat (enc:=encJ) (some (r++s)) rfl (fun e=>by cases e<;>rfl) (by omega) ?_
  (conv=>whnf)
  rw[hfs]
  (repeat' (refine OpP.add ?_ ?_;omega;conv=>whnf))
  exact AKM.back [] (by (conv=>whnf);exact ⟨rfl,rfl,rfl⟩) (ih (i+1) (by omega) (by omega))
 have ei:i=n:=by omega
 clear ih
 rw[ei,List.take_of_length_le (by omega),fz_full_map hjl]
 (repeat' (first|(refine CmpP.go (fun hc => ?_) (fun hc => ?_)<;>first|(exfalso;omega)|(conv=>whnf))|(refine AKM.x ?_;conv=>whnf)))
 have hKB:3^(n+w)*k≤1000000000000:=by simpa using pow6le hB (Nat.zero_le n)
 refine CalP.walk 1000 N.linear_wholeRows rfl rfl ?_
 (repeat' (refine AKM.x ?_;conv=>whnf))
 unfold MkM
 refine ⟨⟨by omega,by omega,by simp only[roomMax];omega,by omega⟩,?_⟩
 rw[Int.toNat_natCast]
 (conv=>whnf)
 skip
 refine MkR.go (enc:=eO) none n rfl (by omega) (by omega) ?_
 (conv=>whnf)
 skip
 refine AKM.back [] (by (conv=>whnf);exact ⟨rfl,rfl,rfl⟩) (sol_whole N q q1 q2 q3 a b (join2 a b) n (n+w) k hjl hjw hn (by omega) hk hjb hKB ?_)
 (repeat' (refine AKM.x ?_;conv=>whnf))
 refine ⟨rfl,_,rfl,?_⟩
 (conv=>whnf)
 skip
 have hW2:n+w≤104:=by omega
 have hW:n≤n+w:=by omega
 have hm0l:(whole (join2 a b)).length=n:=by simp only[whole,List.length_map];exact hjl
 have hm0w:=whole_len hjw
 have hm0b:=whole_ms hk hjw hjb
 have hm0s:=whole_scl (join2 a b)
 have hjj:a.length=b.length:=by omega
 have hK0:1≤3^(n+w)*k:=Nat.mul_pos (Nat.pow_pos (by omega)) hk
 clear hjb hjw hab hbb hKB ei hi p1 i
 generalize whole (join2 a b)=m0 at hm0l hm0w hm0b hm0s ⊢
 generalize 3^(n+w)*k=K0 at hB hC hB0 hm0b hK0
 refine CalP.walkC 1000 N.linear_eliminate rfl rfl ?_
 (repeat' (first|(refine AKM.x ?_;conv=>whnf)|(refine CallP.go (hI) ?_;conv=>whnf)))
 refine AKM.loop5 (fun _ P _ _ _=>n-P.length) (fun (m:List (List Rat)) (P:List Nat) (c:Nat) (odd:Bool) (l:Rat)=>Elm m0 K0 (n+w) n m P c odd l) (fun _ P c odd _=>[(7,.int .i64 (P.length:Nat)),(8,.int .i64 c),(9,.bool odd)]) (fun m _ _ _ l=>[(231016,231016,.mx (mxR 3 eQ m)),(233010,233010,.bx (eQ l))]) [] [] m0 [] 0 false ((1:Int):Rat) (by (conv=>whnf);exact ⟨rfl,rfl,rfl⟩) (Elm.start hm0w hm0b) ?_
 intro m P c odd l hE eh
 have hml:=hE.len
 have hPl:=hE.ech.pl
 rw[hm0l]at hml
 by_cases hP:P.length<n
 ·have hp6:=pow6le hB (show P.length≤n by omega)
  (repeat' (first|(refine CmpP.go (fun hc => ?_) (fun hc => ?_)<;>first|(exfalso;omega)|(conv=>whnf))|(refine AKM.x ?_;conv=>whnf)))
  refine AKM.meet3 (l:=[_,_]) (fun (m1:List (List Rat)) (c:Nat) (o:Bool)=>Elm m0 K0 (n+w) n m1 P c o l∧(c<n → ∃ rp,m1[P.length]? = some rp∧rp.getD c 0≠0)) (fun _ c o=>[(8,.int .i64 c),(9,.bool o)]) (fun m1 _ _=>[(231016,231016,.mx (mxR 3 eQ m1))]) [17] rfl ?_ ?_
  ·clear hE hml hPl
   intro m1 c odd1 ⟨hE,hpv⟩
   have hml:=hE.len
   have hPl:=hE.ech.pl
   have hcc:=hE.cc
   rw[hm0l]at hml
   by_cases hcn:c<n
   ·obtain ⟨rp,hp0,hpn⟩:=hpv hcn
    clear hpv
    have hS:=hE.swp hcn hp0 hpn
    (repeat' (first|(refine CmpP.go (fun hc => ?_) (fun hc => ?_)<;>first|(exfalso;omega)|(conv=>whnf))|(refine OpP.add ?_ ?_;omega;conv=>whnf)|(refine AKM.x ?_;conv=>whnf)))
    refine AKM.back [] (by (conv=>whnf);exact ⟨rfl,rfl,rfl⟩) (sol_sweep N q2 q3 b (join2 a b) ((join2 a b).map scQ) hm0l hn hW hW2 hK0 hB hP hcn hS fun m2 hS => ?_)
    have ht0':=hS.ht
    have hrpl:=hS.ech.lr rp (List.mem_of_getElem? ht0')
    have hpc0:rp[c]? = some (rp.getD c 0):=getD_someH (by omega)
    have hml2:=hS.len
    have hfin:=hS.done hK0 (by omega)
    have hPl2:(P++[c]).length=P.length+1:=by simp
    generalize rp.getD c 0=pv at hpc0 hfin
    clear hS hE hpn hp0
    (repeat' (first|(refine Req.go ?_ ?_;omega;conv=>whnf)|(refine LdM.nat ?_ (fun r hr => ?_);omega;conv=>whnf)|(refine AKM.x ?_;conv=>whnf)))
    cases ht0'.symm.trans hr
    refine Req.go (by rw[List.length_map];omega) ?_
    (conv=>whnf)
    (repeat' (first|(refine OpP.add ?_ ?_;omega;conv=>whnf)|(refine LdR.nat ?_ (fun _=>rfl) (fun v hv => ?_);omega;conv=>whnf)|(refine GetM.ati (by assumption) ?_;conv=>whnf)))
    cases hpc0.symm.trans hv
    skip
    rw[show ((P.length:Nat):Int)+1=((P++[c]).length:Nat) by rw[hPl2];omega]
    exact AKM.back [] (by (conv=>whnf);exact ⟨rfl,rfl,rfl⟩) (eh m2 (P++[c]) (c+1) _ pv (by rw[hPl2];omega) hfin)
   ·clear eh hpv
    (repeat' (first|(refine CmpP.go (fun hc => ?_) (fun hc => ?_)<;>first|(exfalso;omega)|(conv=>whnf))|(refine AKM.x ?_;conv=>whnf)))
    refine ⟨rfl,?_⟩
    (conv=>whnf)
    (repeat' (refine CmpP.go (fun hc => ?_) (fun hc => ?_)<;>first|(exfalso;omega)|(conv=>whnf)))
    have hend:n≤c∨n≤P.length:=Or.inl (by omega)
    have hrk:=elm_rank (w:=w) hE hm0s hjj haw hal hend
    skip
    refine ⟨.tup [.sl false [],.int .i64 11],?_,Or.inl ⟨fun h=>absurd (hrk.2 h) (by omega),rfl⟩⟩
    (conv=>whnf)
    exact FinP.go rfl (cl_matT [] 11)
  ·clear eh
   intro hmeet
   refine AKM.loop1 (fun c=>n-c) (fun (c:Nat)=>Elm m0 K0 (n+w) n m P c odd l) (fun c=>[(8,.int .i64 c)]) (fun _=>[]) [17] [] c (by (conv=>whnf);exact ⟨rfl,rfl,rfl⟩) hE ?_
   clear hE
   intro c hE ch
   have hcc:=hE.cc
   by_cases hcn:c<n
   ·(repeat' (first|(refine CmpP.go (fun hc => ?_) (fun hc => ?_)<;>first|(exfalso;omega)|(conv=>whnf))|(refine AKM.x ?_;conv=>whnf)))
    refine AKM.loop1 (fun i=>n-i) (fun (i:Nat)=>P.length≤i∧i≤n ∧ ∀ (q:Nat) (r:List Rat),P.length≤q→q<i→m[q]? = some r→r.getD c 0=0) (fun i=>[(11,.int .i64 i)]) (fun _=>[]) [] [] P.length (by (conv=>whnf);exact ⟨rfl,rfl,rfl⟩) ⟨Nat.le_refl _,by omega,fun q r h1 h2=>absurd h1 (by omega)⟩ ?_
    intro i ⟨i1,i2,i3⟩ ih
    by_cases hi:i<n
    ·obtain ⟨rp,hr0⟩ : ∃ r,m[i]? = some r:=⟨_,List.getElem?_eq_getElem (by omega)⟩
     have hrl:=hE.ech.lr rp (List.mem_of_getElem? hr0)
     have hrc0:rp[c]? = some (rp.getD c 0):=getD_someH (by omega)
     have hSg:=ev_signQ N.toRatGLib (hE.ms.at hr0 _ (List.mem_of_getElem? hrc0)) (by omega)
     have hz:=sgn_num (x:=rp.getD c 0)
     generalize hrcv:rp.getD c 0=rc at *
     generalize sgn rc.num=sg at *
     by_cases hsg:sg=0
     ·(repeat' (first|(refine CmpP.go (fun hc => ?_) (fun hc => ?_)<;>first|(exfalso;omega)|(conv=>whnf))|(refine Req.go ?_ ?_;omega;conv=>whnf)|(refine LdM.nat ?_ (fun r hr => ?_);omega;conv=>whnf)|(refine AKM.x ?_;conv=>whnf)))
      cases hr0.symm.trans hr
      refine Req.go (by rw[List.length_map];omega) ?_
      (conv=>whnf)
      (repeat' (first|(refine LdR.nat ?_ (fun _=>rfl) (fun v hv => ?_);omega;conv=>whnf)|(refine GetM.ati (by assumption) ?_;conv=>whnf)))
      cases hrc0.symm.trans hv
      (repeat' (first|(refine CmpP.go (fun hc => ?_) (fun hc => ?_)<;>first|(exfalso;omega)|(conv=>whnf))|(refine OpP.add ?_ ?_;omega;conv=>whnf)|(refine CallP.go (hSg) ?_;conv=>whnf)))
      refine AKM.back [] (by (conv=>whnf);exact ⟨rfl,rfl,rfl⟩) (ih (i+1) (by omega) ⟨by omega,by omega,fun q x h1 h2 hx => ?_⟩)
      by_cases e:q=i
      ·subst e
       cases hr0.symm.trans hx
       rw[hrcv];exact hz.1 hsg
      ·exact i3 q x h1 (by omega) hx
     ·clear ih ch
      have hnz:rc≠0:=fun e=>hsg (hz.2 e)
      (repeat' (first|(refine CmpP.go (fun hc => ?_) (fun hc => ?_)<;>first|(exfalso;omega)|(conv=>whnf))|(refine Req.go ?_ ?_;omega;conv=>whnf)|(refine LdM.nat ?_ (fun r hr => ?_);omega;conv=>whnf)|(refine AKM.x ?_;conv=>whnf)))
      cases hr0.symm.trans hr
      refine Req.go (by rw[List.length_map];omega) ?_
      (conv=>whnf)
      (repeat' (first|(refine LdR.nat ?_ (fun _=>rfl) (fun v hv => ?_);omega;conv=>whnf)|(refine GetM.ati (by assumption) ?_;conv=>whnf)))
      cases hrc0.symm.trans hv
      (repeat' (first|(refine CmpP.go (fun hc => ?_) (fun hc => ?_)<;>first|(exfalso;omega)|(conv=>whnf))|(refine Req.go ?_ ?_;omega;conv=>whnf)|(refine LdM.nat ?_ (fun r hr => ?_);omega;conv=>whnf)|(refine GetM.ati (by assumption) ?_;conv=>whnf)|(refine CallP.go (hSg) ?_;conv=>whnf)))
      ·obtain ⟨t,ht0⟩ : ∃ t,m[P.length]? = some t:=⟨_,List.getElem?_eq_getElem (by omega)⟩
       refine Req.go ⟨rfl,by simp only[mxR,List.length_map];omega⟩ ?_
       (conv=>whnf)
       (repeat' (first|(refine Req.go ?_ ?_;omega;conv=>whnf)|(refine GetM.ati (by assumption) ?_;conv=>whnf)))
       rw[show 0+((i:Nat):Int).toNat=i by omega,show 0+((P.length:Nat):Int).toNat=P.length by omega]
       refine Req.go ⟨rfl,by simp only[mxR,List.length_map,List.length_set,List.length_range];omega,vw_lt (by simp only[mxR,List.length_map];omega)⟩ ?_
       (conv=>whnf)
       skip
       have hE2:=hE.swap hr0 ht0 i1 (Nat.le_refl _) (by omega)
       have hS2:c<n → ∃ rp',((m.set i t).set P.length rp)[P.length]? = some rp'∧rp'.getD c 0≠0:=fun _=>⟨rp,by rw[List.getElem?_set,if_pos rfl,if_pos (by rw[List.length_set];omega)],by rw[hrcv];exact hnz⟩
       generalize hob:(!odd)=ob at *
       cases ob
       all_goals
        (conv=>whnf)
        skip
        refine Held.go ?_
        refine AKM.swap (k:=231016) (i:=i) (j:=P.length) rfl (mxR_at hr0) (mxR_at ht0) rfl rfl ?_
        rw[mxR_swap]
        exact AKM.back [] (by (conv=>whnf);exact ⟨rfl,rfl,rfl⟩) (hmeet _ c _ ⟨hE2,hS2⟩)
      ·have ei:i=P.length:=by omega
       exact Held.go (AKM.back [] (by (conv=>whnf);exact ⟨rfl,rfl,rfl⟩) (hmeet m c odd ⟨hE,fun _=>⟨rp,by rw[←ei];exact hr0,by rw[hrcv];exact hnz⟩⟩))
    ·have ei:i=n:=by omega
     clear ih
     (repeat' (first|(refine CmpP.go (fun hc => ?_) (fun hc => ?_)<;>first|(exfalso;omega)|(conv=>whnf))|(refine OpP.add ?_ ?_;omega;conv=>whnf)|(refine AKM.x ?_;conv=>whnf)))
     exact AKM.back [] (by (conv=>whnf);exact ⟨rfl,rfl,rfl⟩) (ch (c+1) (by omega) (hE.skip hcn fun q x h1 hx=>i3 q x h1 (by have:=(List.getElem?_eq_some_iff.1 hx).1;omega) hx))
   ·clear ch
    (repeat' (first|(refine CmpP.go (fun hc => ?_) (fun hc => ?_)<;>first|(exfalso;omega)|(conv=>whnf))|(refine AKM.x ?_;conv=>whnf)))
    exact Held.go (AKM.back [] (by (conv=>whnf);exact ⟨rfl,rfl,rfl⟩) (hmeet m c odd ⟨hE,fun h=>absurd h hcn⟩))
 ·clear eh
  (repeat' (first|(refine CmpP.go (fun hc => ?_) (fun hc => ?_)<;>first|(exfalso;omega)|(conv=>whnf))|(refine AKM.x ?_;conv=>whnf)))
  refine ⟨rfl,?_⟩
  (conv=>whnf)
  (repeat' (refine CmpP.go (fun hc => ?_) (fun hc => ?_)<;>first|(exfalso;omega)|(conv=>whnf)))
  have hend:n≤c∨n≤P.length:=Or.inr (by omega)
  have hrk:=elm_rank (w:=w) hE hm0s hjj haw hal hend
  have hPn:P.length=n:=by have:=hE.ech.le;have:=hE.ech.pl;omega
  have hns:=hrk.1 hPn
  have hfac:=sol_facts hE hm0s hjj haw hbw hPn hml
  have htri:=sol_diag hE hPn hml
  have hmw:=hE.ech.lr
  have hms:=hE.ms
  have hbl0:=hE.bl
  have hl0:=hE.l0
  rw[hPn]at hms hbl0
  clear hE hrk hPl hm0b hm0w hm0s
  have hdg : ∀ (e:Nat) (r:List Rat),m[e]? = some r→r.getD e 0≠0:=fun e r hr=>by
   rw[←atQ_eq hr]
   exact (htri e (by have:=(List.getElem?_eq_some_iff.1 hr).1;omega)).1
  skip
  unfold MkM
  refine ⟨⟨by omega,by omega,by simp only[roomMax];omega,by omega⟩,?_⟩
  rw[Int.toNat_natCast]
  (conv=>whnf)
  skip
  refine AKM.loop1 (fun u=>n-u) (fun (u:Nat)=>u≤n) (fun u=>[(61,.int .i64 u)]) (fun u=>[(58,58,.mx (List.replicate u (some (3,(fillO [] w).map eO))++List.replicate (n-u) none))]) [] [] 0 (by (conv=>whnf);exact ⟨rfl,rfl,rfl⟩) (by omega) ?_
  intro u r1 uh
  by_cases hu:u<n
  ·obtain ⟨s,hs0⟩ : ∃ s,b[u]? = some s:=⟨_,List.getElem?_eq_getElem (by omega)⟩
   have hs':b[(u:Int).toNat]? = some s:=hs0
   have hsl:=hbw s (List.mem_of_getElem? hs0)
   (repeat' (first|(refine CmpP.go (fun hc => ?_) (fun hc => ?_)<;>first|(exfalso;omega)|(conv=>whnf))|(refine LenP.go ?_;conv=>whnf)|(refine RdP.at (by assumption) ?_ rfl ?_;omega;conv=>whnf)|(refine AKM.x ?_;conv=>whnf)))
   rw[hsl]
   refine MkR.go (enc:=eO) none w rfl rfl (by omega) ?_
   (conv=>whnf)
   (repeat' (first|(refine Req.go ?_ ?_;omega;conv=>whnf)|fail))
   unfold Req SetM
   refine ⟨by simp,by simp;omega,?_⟩
   (conv=>whnf)
   rw[show 0+((u:Int)).toNat=u by omega,←fillO_nil,fillM_set _ _ r1 hu]
   (repeat' (refine OpP.add ?_ ?_;omega;conv=>whnf))
   exact AKM.back [] (by (conv=>whnf);exact ⟨rfl,rfl,rfl⟩) (uh (u+1) (by omega) (by omega))
  have eu:u=n:=by omega
  subst eu
  clear uh
  obtain ⟨y,hy⟩ : ∃ y:Nat→List Rat,y=fun c'=>(bsQ (u+c') l m 0).map (· / l):=⟨_,rfl⟩
  have hyl : ∀ c',(y c').length=u:=fun c'=>by rw[hy,List.length_map,bsQ_len];exact hml
  have hRl:(ofColsW y u w).length=u:=by simp [ofColsW]
  have hRat : ∀ e,e<u→(ofColsW y u w)[e]? = some ((List.range w).map fun c'=>(y c').getD e 0):=fun e he=>by simp [ofColsW,he]
  have hRw : ∀ r∈ofColsW y u w,r.length=w:=fun r hr=>by
   obtain ⟨i,_,rfl⟩:=List.mem_map.1 hr
   simp
  rw[show List.replicate u (some (3,List.map eO (fillO [] w)))++List.replicate (u-u) none=mxR 3 eO (ot (ofColsW y u w) w 0 0) by rw[ot_zero,hRl];simp [mxR]]
  obtain ⟨s0,hs0⟩ : ∃ s,b[0]? = some s:=⟨_,List.getElem?_eq_getElem (by omega)⟩
  have hs0':b[(0:Int).toNat]? = some s0:=hs0
  have hs0l:=hbw s0 (List.mem_of_getElem? hs0)
  generalize hRg:ofColsW y u w=R at hRl hRat hRw ⊢
  (repeat' (first|(refine CmpP.go (fun hc => ?_) (fun hc => ?_)<;>first|(exfalso;omega)|(conv=>whnf))|(refine LenP.go ?_;conv=>whnf)|(refine RdP.at (by assumption) ?_ rfl ?_;omega;conv=>whnf)|(refine AKM.x ?_;conv=>whnf)))
  rw[hs0l]
  refine AKM.loop1 (fun c=>w-c) (fun (c:Nat)=>c≤w) (fun c=>[(78,.int .i64 c)]) (fun c=>[(58,58,.mx (mxR 3 eO (ot R w c 0)))]) [] [] 0 (by (conv=>whnf);exact ⟨rfl,rfl,rfl⟩) (by omega) ?_
  intro c' r2 ch
  by_cases hc2:c'<w
  ·have hCol:=ev_column N true true m u (u+w) (u+c') (6^u*K0) l hml hmw (by omega) (by omega) (by omega) (by omega) hdg hms hbl0 (by omega)
   have hbs:=bsQ_bs (c:=u+c') (n:=u) hbl0 m 0 (by omega) hms
   have hxl:=bsQ_len (u+c') l m 0
   have hyc : ∀ (e:Nat) (x:Rat),(bsQ (u+c') l m 0)[e]? = some x→(y c').getD e 0=x/l:=fun e x hx=>by
    rw[hy,List.getD_eq_getElem?_getD,List.getElem?_map,hx];rfl
   rw[hml]at hbs hxl
   rw[Int.natCast_add]at hCol
   generalize bsQ (u+c') l m 0=xs at hCol hbs hxl hyc
   (repeat' (first|(refine CmpP.go (fun hc => ?_) (fun hc => ?_)<;>first|(exfalso;omega)|(conv=>whnf))|(refine OpP.add ?_ ?_;omega;conv=>whnf)|(refine AKM.x ?_;conv=>whnf)))
   refine SnM.all (fun _=>rfl) rfl (by omega) ?_
   (conv=>whnf)
   (repeat' (first|(refine LenP.go ?_;conv=>whnf)|(refine CallP.go (hCol) ?_;conv=>whnf)))
   refine AKM.loop1 (fun f=>u-f) (fun (f:Nat)=>f≤u) (fun f=>[(88,.int .i64 f)]) (fun f=>[(58,58,.mx (mxR 3 eO (ot R w c' f)))]) [] [] 0 (by (conv=>whnf);exact ⟨rfl,rfl,rfl⟩) (by omega) ?_
   intro f r5 fh
   by_cases hf2:f<u
   ·obtain ⟨x,hx⟩ : ∃ x,xs[f]? = some x:=⟨_,List.getElem?_eq_getElem (by omega)⟩
    have hx':xs[(f:Int).toNat]? = some x:=hx
    have bx:=hbs.at hx
    have hD:=ev_divQ N.toRatGLib bx hbl0 (by omega) (by omega) hl0
    have hPr:=hRat f hf2
    have hmc:((List.range w).map fun c'=>(y c').getD f 0)[c']? = some (x/l):=by rw[List.getElem?_map,List.getElem?_range hc2,Option.map_some,hyc f x hx]
    have hmlw:((List.range w).map fun c'=>(y c').getD f 0).length=w:=by simp
    generalize ((List.range w).map fun c'=>(y c').getD f 0)=row at hPr hmc hmlw
    have hoa:=ot_at (n:=w) (j:=c') (i:=f) hPr
    rw[if_neg (by omega)]at hoa
    have hos:=ot_set (n:=w) (j:=c') hPr
    have hol:=ot_len R w c' f
    have hlf:=fillO_len (l:=row.take c') (m:=w) (by rw[List.length_take];omega)
    have hst:=fillO_set (l:=row.take c') (m:=w) (x:=x/l) (by rw[List.length_take];omega)
    rw[List.length_take,Nat.min_eq_left (by omega),←take_snoc' hmc]at hst
    generalize ot R w c' f=O at *
    (repeat' (first|(refine CmpP.go (fun hc => ?_) (fun hc => ?_)<;>first|(exfalso;omega)|(conv=>whnf))|(refine Req.go ?_ ?_;omega;conv=>whnf)|(refine RdP.at (by assumption) ?_ rfl ?_;omega;conv=>whnf)|(refine LdM.nat ?_ (fun r hr => ?_);omega;conv=>whnf)|(refine AKM.x ?_;conv=>whnf)|(refine CallP.go (hD) ?_;conv=>whnf)))
    cases hoa.symm.trans hr
    skip
    have hlf2:=fillO_len (l:=row.take (c'+1)) (m:=w) (by rw[List.length_take];omega)
    refine Req.go (by rw[List.length_map];omega) ?_
    (conv=>whnf)
    (repeat' (refine GetM.ati (by assumption) ?_;conv=>whnf))
    refine StR.nat (enc:=eO) (some (x/l)) rfl (fun e=>by cases e<;>rfl) (by omega) ?_
    (conv=>whnf)
    rw[hst]
    refine PutM.nat (by omega) ?_
    rw[hos]
    (conv=>whnf)
    (repeat' (refine OpP.add ?_ ?_;omega;conv=>whnf))
    exact AKM.back [] (by (conv=>whnf);exact ⟨rfl,rfl,rfl⟩) (fh (f+1) (by omega) (by omega))
   have ef:f=u:=by omega
   clear fh
   have hnx:=ot_next R w c'
   rw[hRl]at hnx
   rw[ef,hnx]
   (repeat' (first|(refine CmpP.go (fun hc => ?_) (fun hc => ?_)<;>first|(exfalso;omega)|(conv=>whnf))|(refine OpP.add ?_ ?_;omega;conv=>whnf)|(refine AKM.x ?_;conv=>whnf)))
   exact AKM.back [] (by (conv=>whnf);exact ⟨rfl,rfl,rfl⟩) (ch (c'+1) (by omega) (by omega))
  have ec:c'=w:=by omega
  clear ch
  rw[ec,ot_full hRw]
  (repeat' (first|(refine CmpP.go (fun hc => ?_) (fun hc => ?_)<;>first|(exfalso;omega)|(conv=>whnf))|(refine AKM.x ?_;conv=>whnf)))
  refine ⟨.tup [.sl false (eM R),.int .i64 0],?_,Or.inr ⟨hns,y,by rw[←hRg],fun c2 hc2=>⟨hyl c2,?_,fun i r s h1 h2=>by rw[hy];exact hfac c2 hc2 i r s h1 h2⟩⟩⟩
  ·(conv=>whnf)
   refine SnM.all (fun _=>rfl) rfl (by omega) ?_
   (conv=>whnf)
   exact FinP.go rfl (cl_matT R 0)
  ·rw[hy]
   intro z hz
   obtain ⟨x,hx,rfl⟩:=List.mem_map.1 hz
   have hbs:=bsQ_bs (c:=u+c2) (n:=u) hbl0 m 0 (by omega) hms
   rw[hml]at hbs
   exact ((hbs x hx).divL hbl0).le (by omega)
end Go.Eng
namespace Go.Eng
open F
attribute [local irreducible] AKM CmpP Req OpP UnP ConvP RdP LdR StR MkR LenP AppR AppN CpyR RowP SnR Bds SlS CallP CalP FinP pw LdM GetM SetM PutM MkM AppM SnM FlP CallR
set_option maxHeartbeats 16000000
variable {L:Lib}
theorem one_at {x:Rat} {b:List Rat} {i:Nat} (h:b[i]? = some x):(b.map fun x=>[x])[i]? = some [x]:=by rw[List.getElem?_map,h];rfl
theorem cl_lt (y:List Rat) (e:Int):Clean (.tup [.sl false (y.map eQ),.int .i64 e]):=by
 simp only[Clean,CleanL,and_true,true_and]
 exact cl_eQs y
def oneR (x:Rat):Option (Nat × List (List AV)):=some (3,[eQ x])
theorem ev_Solve (N:MatGLib L) (q q1 q2:Bool) (a:List (List Rat)) (b:List Rat) (n k:Nat) (hal:a.length=n) (haw : ∀ r∈a,r.length=n) (hbl:b.length=n) (hn:1≤n∧n≤52) (hk:1≤k) (hab:Ms k a) (hbb:Bs k b)
  (hB:6^n*(3^(n+1)*k)≤1000000000000) (hC:clB (6^n*(3^(n+1)*k)) n n≤1000000000000) {B0:Nat} (hB0:clB (6^n*(3^(n+1)*k)) n n+6^n*(3^(n+1)*k)≤B0) :
  ∃ v,Ev L 237 [.sl q (eMq q1 a),.sl q2 (b.map eQ)] v∧((¬ NS n a∧v = .tup [.sl false [],.int .i64 11])∨(NS n a ∧ ∃ y:List Rat,v = .tup [.sl false (y.map eQ),.int .i64 0] ∧
   y.length=n∧Bs B0 y ∧ ∀ (i:Nat) (r:List Rat) (s:Rat),a[i]? = some r→b[i]? = some s→dotQ r y=s)):=by
 have hV:=ev_lValid N q q1 a n n hal haw hn hn
 obtain ⟨r0,hr0⟩ : ∃ r,a[0]? = some r:=⟨_,List.getElem?_eq_getElem (by omega)⟩
 have hr0':a[(0:Int).toNat]? = some r0:=hr0
 have hl0:=haw r0 (List.mem_of_getElem? hr0)
 obtain ⟨v,hS,hor⟩:=ev_solve N q q1 true true a (b.map fun x=>[x]) n 1 k hal haw (by rw[List.length_map];exact hbl) (fun r hr=>by obtain ⟨x,_,rfl⟩:=List.mem_map.1 hr;rfl) hn (by omega) hk hab (fun r hr=>by
  obtain ⟨x,hx,rfl⟩:=List.mem_map.1 hr
  intro z hz
  obtain rfl:=List.mem_singleton.1 hz
  exact hbb z hx) hB hC hB0
 refine Ev.xE N.linear_Solve rfl rfl ?_
 (repeat' (first|(refine CmpP.go (fun hc => ?_) (fun hc => ?_)<;>first|(exfalso;omega)|(conv=>whnf))|(refine LenP.go ?_;conv=>whnf)|(refine RdP.at (by assumption) ?_ rfl ?_;omega;conv=>whnf)|(refine AKM.x ?_;conv=>whnf)|(refine CallP.go (hV) ?_;conv=>whnf)))
 unfold MkM
 refine ⟨⟨by omega,by omega,by simp only[roomMax];omega,by omega⟩,?_⟩
 rw[Int.toNat_natCast,hbl]
 (conv=>whnf)
 (repeat' (refine LenP.go ?_;conv=>whnf))
 refine AKM.loop1 (fun i=>n-i) (fun (i:Nat)=>i≤n) (fun i=>[(35,.int .i64 i)]) (fun i=>[(32,32,.mx (fz none ((b.take i).map oneR) n))]) [] [] 0 (by first|exact (by (conv=>whnf);exact ⟨rfl,rfl,rfl⟩)|(rw[List.take_zero,List.map_nil,show fz (none:Option (Nat × List (List AV))) [] n=List.replicate n none by simp [fz]];exact (by (conv=>whnf);exact ⟨rfl,rfl,rfl⟩))) (by omega) ?_
 intro i p1 ih
 have hfl:=fz_len (z:=(none:Option (Nat × List (List AV)))) (l:=(b.take i).map oneR) (m:=n) (by rw[List.length_map,List.length_take];omega)
 by_cases hi:i<n
 ·obtain ⟨x,hx⟩ : ∃ x,b[i]? = some x:=⟨_,List.getElem?_eq_getElem (by omega)⟩
  have hx':b[(i:Int).toNat]? = some x:=hx
  have hfs:=fz_set (z:=(none:Option (Nat × List (List AV)))) (x:=oneR x) (l:=(b.take i).map oneR) (m:=n) (by rw[List.length_map,List.length_take];omega)
  rw[List.length_map,List.length_take,Nat.min_eq_left (by omega),show (b.take i).map oneR++[oneR x]=(b.take (i+1)).map oneR by rw[List.take_add_one,hx,List.map_append];rfl]at hfs
  generalize fz (none:Option (Nat × List (List AV))) ((b.take i).map oneR) n=J at *
  have hfs2:J.set i (some (3,[[AV.bool (decide (x.num<0)),AV.sl false ((dg x.num.natAbs).map e32),AV.sl false ((dg x.den).map e32)]]))=fz none ((b.take (i+1)).map oneR) n:=hfs
  (repeat' (first|(refine CmpP.go (fun hc => ?_) (fun hc => ?_)<;>first|(exfalso;omega)|(conv=>whnf))|(refine Req.go ?_ ?_;omega;conv=>whnf)|(refine RdP.at (by assumption) ?_ rfl ?_;omega;conv=>whnf)|(refine AKM.x ?_;conv=>whnf)))
  unfold Req SetM
  refine ⟨by simp,by omega,?_⟩
  (conv=>whnf)
  rw[show 0+((i:Int)).toNat=i by omega,hfs2]
  (repeat' (refine OpP.add ?_ ?_;omega;conv=>whnf))
  exact AKM.back [] (by (conv=>whnf);exact ⟨rfl,rfl,rfl⟩) (ih (i+1) (by omega) (by omega))
 have ei:i=n:=by omega
 clear ih hfl
 rw[ei,List.take_of_length_le (by omega),fz_full (by rw[List.length_map];exact hbl),show b.map oneR=mxR 3 eQ (b.map fun x=>[x]) by rw[mxR,List.map_map];rfl]
 (repeat' (first|(refine CmpP.go (fun hc => ?_) (fun hc => ?_)<;>first|(exfalso;omega)|(conv=>whnf))|(refine SnM.all (fun _=>rfl) rfl ?_ ?_;(first|rfl|simp);conv=>whnf)|(refine AKM.x ?_;conv=>whnf)))
 ·exact hbl.symm
 (conv=>whnf)
 rcases hor with ⟨hns,rfl⟩|⟨hns,y,rfl,hy⟩
 ·(repeat' (first|(refine CmpP.go (fun hc => ?_) (fun hc => ?_)<;>first|(exfalso;omega)|(conv=>whnf))|(refine CallP.go (hS) ?_;conv=>whnf)))
  refine ⟨.tup [.sl false [],.int .i64 11],?_,Or.inl ⟨hns,rfl⟩⟩
  (conv=>whnf)
  exact FinP.go rfl (cl_matT [] 11)
 ·obtain ⟨hyl,hyb,hys⟩:=hy 0 (by omega)
  have hRat : ∀ e,e<n→(ofColsW y n 1)[e]? = some [(y 0).getD e 0]:=fun e he=>by simp [ofColsW,he]
  have hRl:(ofColsW y n 1).length=n:=by simp [ofColsW]
  generalize ofColsW y n 1=R at *
  (repeat' (first|(refine CmpP.go (fun hc => ?_) (fun hc => ?_)<;>first|(exfalso;omega)|(conv=>whnf))|(refine LenP.go ?_;conv=>whnf)|(refine CallP.go (hS) ?_;conv=>whnf)))
  rw[hRl]
  refine MkR.go (enc:=eO) none n rfl rfl (by omega) ?_
  (conv=>whnf)
  (repeat' (refine LenP.go ?_;conv=>whnf))
  refine AKM.loop1 (fun e=>n-e) (fun (e:Nat)=>e≤n) (fun e=>[(60,.int .i64 e)]) (fun e=>[(57,57,.rw 3 ((fillO ((y 0).take e) n).map eO))]) [] [] 0 (by first|exact (by (conv=>whnf);exact ⟨rfl,rfl,rfl⟩)|(rw[List.take_zero,←fillO_nil];exact (by (conv=>whnf);exact ⟨rfl,rfl,rfl⟩))) (by omega) ?_
  intro e p2 eh
  have hlf:=fillO_len (l:=(y 0).take e) (m:=n) (by rw[List.length_take];omega)
  by_cases he2:e<n
  ·obtain ⟨x,hx⟩ : ∃ x,(y 0)[e]? = some x:=⟨_,List.getElem?_eq_getElem (by omega)⟩
   have hst:=fillO_set (l:=(y 0).take e) (m:=n) (x:=x) (by rw[List.length_take];omega)
   rw[List.length_take,Nat.min_eq_left (by omega),←take_snoc' hx]at hst
   have hRe:=hRat e he2
   rw[show (y 0).getD e 0=x by rw[List.getD_eq_getElem?_getD,hx];rfl]at hRe
   have hRe':R[(e:Int).toNat]? = some [x]:=hRe
   have hx0:[x][(0:Int).toNat]? = some x:=rfl
   generalize fillO ((y 0).take e) n=F0 at *
   (repeat' (first|(refine CmpP.go (fun hc => ?_) (fun hc => ?_)<;>first|(exfalso;omega)|(conv=>whnf))|(refine Req.go ?_ ?_;omega;conv=>whnf)|(refine RdP.at (by assumption) ?_ rfl ?_;omega;conv=>whnf)|(refine AKM.x ?_;conv=>whnf)))
   refine StR.nat (enc:=eO) (some x) rfl (fun e=>by cases e<;>rfl) (by omega) ?_
   (conv=>whnf)
   rw[hst]
   (repeat' (refine OpP.add ?_ ?_;omega;conv=>whnf))
   exact AKM.back [] (by (conv=>whnf);exact ⟨rfl,rfl,rfl⟩) (eh (e+1) (by omega) (by omega))
  have ee:e=n:=by omega
  clear eh
  rw[ee,List.take_of_length_le (by omega),fillO_full hyl]
  (repeat' (first|(refine CmpP.go (fun hc => ?_) (fun hc => ?_)<;>first|(exfalso;omega)|(conv=>whnf))|(refine AKM.x ?_;conv=>whnf)))
  refine ⟨.tup [.sl false ((y 0).map eQ),.int .i64 0],?_,Or.inr ⟨hns,y 0,rfl,hyl,hyb,fun i r s h1 h2 => ?_⟩⟩
  ·(conv=>whnf)
   refine SnR.all (enc:=eQ) (fun _=>rfl) rfl hyl.symm ?_
   (conv=>whnf)
   exact FinP.go rfl (cl_lt (y 0) 0)
  ·exact hys i r [s] h1 (one_at h2)
theorem ev_Inverse (N:MatGLib L) (q q1:Bool) (a:List (List Rat)) (n k:Nat) (hal:a.length=n) (haw : ∀ r∈a,r.length=n) (hn:1≤n∧n≤52) (hk:1≤k) (hab:Ms k a)
  (hB:6^n*(3^(n+n)*k)≤1000000000000) (hC:clB (6^n*(3^(n+n)*k)) n n≤1000000000000) {B0:Nat} (hB0:clB (6^n*(3^(n+n)*k)) n n+6^n*(3^(n+n)*k)≤B0) :
  ∃ v,Ev L 238 [.sl q (eMq q1 a)] v∧((¬ NS n a∧v = .tup [.sl false [],.int .i64 11])∨(NS n a ∧ ∃ w:List (List Rat),v = .tup [.sl false (eM w),.int .i64 0] ∧
   w.length=n∧(∀ r∈w,r.length=n)∧Ms B0 w∧mulQ a w n=idQ n∧mulQ w a n=idQ n)):=by
 have hV:=ev_lValid N q q1 a n n hal haw hn hn
 have hI:=ev_lIdentity N n hn
 obtain ⟨r0,hr0⟩ : ∃ r,a[0]? = some r:=⟨_,List.getElem?_eq_getElem (by omega)⟩
 have hr0':a[(0:Int).toNat]? = some r0:=hr0
 have hl0:=haw r0 (List.mem_of_getElem? hr0)
 have hidl:(idQ n).length=n:=by simp [idQ]
 have hidw : ∀ r∈idQ n,r.length=n:=(Sq.id n).r
 have hidb:Ms k (idQ n):=fun r hr=>by
  obtain ⟨i,_,rfl⟩:=List.mem_map.1 hr
  intro z hz
  obtain ⟨j,_,rfl⟩:=List.mem_map.1 hz
  by_cases e:((j:Nat):Int)=(i:Int)
  ·rw[if_pos e];exact (Bt.one 0).le (Nat.zero_le k)
  ·first|(rw[if_neg e];exact Bt.zero _)|(rw[if_neg (Ne.symm e)];exact Bt.zero _)
 obtain ⟨v,hS,hor⟩:=ev_solve N q q1 false false a (idQ n) n n k hal haw hidl hidw hn hn hk hab hidb hB hC hB0
 refine ⟨v,?_,?_⟩
 ·have hcl:Clean v:=by
   rcases hor with ⟨_,rfl⟩|⟨_,y,rfl,_⟩
   ·exact cl_matT [] 11
   ·exact cl_matT _ 0
  refine Ev.x N.linear_Inverse rfl rfl ?_
  rcases hor with ⟨_,rfl⟩|⟨_,y,rfl,_⟩
  ·(repeat' (first|(refine CmpP.go (fun hc => ?_) (fun hc => ?_)<;>first|(exfalso;omega)|(conv=>whnf))|(refine LenP.go ?_;conv=>whnf)|(refine RdP.at (by assumption) ?_ rfl ?_;omega;conv=>whnf)|(refine AKM.x ?_;conv=>whnf)|(refine CallP.go (hV) ?_;conv=>whnf)))
   rw[hal]
   (repeat' (first|(refine CallP.go (hI) ?_;conv=>whnf)|(refine CallP.go (hS) ?_;conv=>whnf)))
   exact FinP.go rfl hcl
  ·(repeat' (first|(refine CmpP.go (fun hc => ?_) (fun hc => ?_)<;>first|(exfalso;omega)|(conv=>whnf))|(refine LenP.go ?_;conv=>whnf)|(refine RdP.at (by assumption) ?_ rfl ?_;omega;conv=>whnf)|(refine AKM.x ?_;conv=>whnf)|(refine CallP.go (hV) ?_;conv=>whnf)))
   rw[hal]
   (repeat' (first|(refine CallP.go (hI) ?_;conv=>whnf)|(refine CallP.go (hS) ?_;conv=>whnf)))
   exact FinP.go rfl hcl
 ·rcases hor with ⟨hns,rfl⟩|⟨hns,y,rfl,hy⟩
  ·exact Or.inl ⟨hns,rfl⟩
  ·have hsol:mulQ a (ofCols y n) n=idQ n:=inv_right hal (fun c hc=>(hy c hc).1) fun c i r hc hr=>by
    obtain ⟨s,hs⟩ : ∃ s,(idQ n)[i]? = some s:=⟨_,List.getElem?_eq_getElem (by have:=(List.getElem?_eq_some_iff.1 hr).1;omega)⟩
    rw[(hy c hc).2.2 i r s hr hs]
    have hin:i<n:=by have:=(List.getElem?_eq_some_iff.1 hr).1;omega
    obtain rfl:unitL n i=s:=by simpa [idQ,hin] using hs
    rw[unit_getD,if_pos hc]
   have hcl:(ofCols y n).length=n:=by simp [ofCols]
   have hcr : ∀ r∈ofCols y n,r.length=n:=fun r hr=>by
    obtain ⟨i,_,rfl⟩:=List.mem_map.1 hr
    simp
   refine Or.inr ⟨hns,ofCols y n,rfl,hcl,hcr,fun r hr z hz => ?_,hsol,inv_left ⟨hal,haw⟩ ⟨hcl,hcr⟩ hns hsol⟩
   obtain ⟨i,hi,rfl⟩:=List.mem_map.1 hr
   obtain ⟨c,hc,rfl⟩:=List.mem_map.1 hz
   have:=(hy c (List.mem_range.1 hc)).2.1
   have hl:=(hy c (List.mem_range.1 hc)).1
   exact this.at (getD_someH (by rw[hl];exact List.mem_range.1 hi))
end Go.Eng

namespace Go.Eng
open F
attribute [local irreducible] AKM CmpP Req OpP UnP ConvP RdP LdR StR MkR LenP AppR AppN CpyR RowP SnR Bds SlS CallP CalP FinP pw LdM GetM SetM PutM MkM AppM SnM FlP CallR
set_option maxHeartbeats 16000000
variable {L:Lib}
end Go.Eng

namespace Go.Eng
open F
attribute [local irreducible] AKM CmpP Req OpP UnP ConvP RdP LdR StR MkR LenP AppR AppN CpyR RowP SnR Bds SlS CallP CalP FinP pw LdM GetM SetM PutM MkM AppM SnM FlP CallR
set_option maxHeartbeats 16000000
variable {L:Lib}
def D2 (m:List (List Rat)):Rat:=atQ m 0 0*atQ m 1 1-atQ m 0 1*atQ m 1 0
theorem two_of {α:Type} {l:List α} (h:l.length=2) : ∃ a b,l=[a,b]:=by
 match l,h with
 | [a,b],_=>exact ⟨a,b,rfl⟩
theorem mat2_of {m:List (List Rat)} (h:m.length=2) (hw : ∀ r∈m,r.length=2) : ∃ p q r s,m=[[p,q],[r,s]]:=by
 obtain ⟨a,b,rfl⟩:=two_of h
 obtain ⟨p,q,rfl⟩:=two_of (hw a (by simp))
 obtain ⟨r,s,rfl⟩:=two_of (hw b (by simp))
 exact ⟨p,q,r,s,rfl⟩
theorem lt2 {α:Type} {a b x:α} {i:Nat} (h:[a,b][i]? = some x):(i=0∧x=a)∨(i=1∧x=b):=by
 match i,h with
 | 0,h=>exact Or.inl ⟨rfl,(Option.some.inj h).symm⟩
 | 1,h=>exact Or.inr ⟨rfl,(Option.some.inj h).symm⟩
 | i+2,h=>simp at h
theorem det2F:DetF 2 2 1 D2:=by
 refine ⟨fun m i k a b hl hw hi hk hn => ?_,fun m i k r t p f l hl hw hi hk hn h0 => ?_,fun m i r s hl hw hi => ?_,fun m hl hw ht => ?_⟩
 ·obtain ⟨p,q,r,s,rfl⟩:=mat2_of hl hw
  rcases lt2 hi with ⟨rfl,rfl⟩|⟨rfl,rfl⟩<;>rcases lt2 hk with ⟨rfl,rfl⟩|⟨rfl,rfl⟩<;>first|exact absurd rfl hn|(simp [D2,atQ];grind)
 ·obtain ⟨p',q,r',s,rfl⟩:=mat2_of hl hw
  rcases lt2 hi with ⟨rfl,rfl⟩|⟨rfl,rfl⟩<;>rcases lt2 hk with ⟨rfl,rfl⟩|⟨rfl,rfl⟩<;>first|exact absurd rfl hn|(simp [D2,atQ,comb,Rat.div_def];grind)
 ·obtain ⟨p,q,r',s',rfl⟩:=mat2_of hl hw
  rcases lt2 hi with ⟨rfl,rfl⟩|⟨rfl,rfl⟩<;>(simp [D2,atQ];grind)
 ·obtain ⟨p,q,r,s,rfl⟩:=mat2_of hl hw
  have h1:=(ht 1 (by omega)).2 0 (by omega)
  simp only[atQ,List.getD_cons_succ,List.getD_cons_zero]at h1
  subst h1
  simp [D2,atQ,pdQ,List.range_succ];grind
theorem bt_small {z:Int} (h:z.natAbs≤8):Bt 3 (z:Rat):=Bt.ofInt h
theorem ms_small (m:List (List Int)) (h : ∀ r∈m,∀ z∈r,z.natAbs≤8):Ms 3 (m.map fun r=>r.map fun (z:Int)=>(z:Rat)):=fun r hr x hx=>by
 obtain ⟨r',hr',rfl⟩:=List.mem_map.1 hr
 obtain ⟨z,hz,rfl⟩:=List.mem_map.1 hx
 exact bt_small (h r' hr' z hz)
def mA:List (List Rat):=[[((1:Int):Rat),((2:Int):Rat)],[((3:Int):Rat),((4:Int):Rat)]]
def mB:List (List Rat):=[[((2:Int):Rat),((0:Int):Rat)],[((0:Int):Rat),((4:Int):Rat)]]
def mC:List (List Rat):=[[((1:Int):Rat),((1:Int):Rat)],[((1:Int):Rat),((1:Int):Rat)]]
theorem det_mA (N:MatGLib L) (q q':Bool):Ev L 236 [.sl q (eMq q' mA)] (.tup [.agg (eQ ((-2:Int):Rat)),.int .i64 0]):=by
 obtain ⟨d,h1,_,_,h2⟩:=ev_Determinant N q q' mA 2 3 rfl (by decide) (by omega) (by omega) (ms_small [[1,2],[3,4]] (by decide)) (by decide)
 have h3:=h2 1 D2 det2F
 rw[Rat.one_mul,show D2 mA=((-2:Int):Rat) by simp [D2,mA,atQ];grind]at h3
 rwa [←h3]at h1
theorem ns_mB:NS 2 mB:=by
 intro X hX hk j
 obtain ⟨x,y,rfl⟩:=two_of hX
 have h1:=hk [((2:Int):Rat),((0:Int):Rat)] (by simp [mB])
 have h2:=hk [((0:Int):Rat),((4:Int):Rat)] (by simp [mB])
 simp only[dotQ]at h1 h2
 match j with
 | 0=>simp;grind
 | 1=>simp;grind
 | j+2=>simp
theorem ns_mC : ¬ NS 2 mC:=by
 intro h
 have:=h [1,-1] rfl (fun r hr=>by
  simp only[mC,List.mem_cons,List.not_mem_nil,or_false,or_self]at hr
  subst hr
  simp only[dotQ];grind) 0
 exact absurd this (by decide)
theorem solve_mB (N:MatGLib L) (q q1 q2:Bool):Ev L 237 [.sl q (eMq q1 mB),.sl q2 ([((1:Int):Rat),((1:Int):Rat)].map eQ)] (.tup [.sl false ([Rat.divInt 1 2,Rat.divInt 1 4].map eQ),.int .i64 0]):=by
 obtain ⟨v,h1,h2⟩:=ev_Solve N q q1 q2 mB [((1:Int):Rat),((1:Int):Rat)] 2 3 rfl (by decide) rfl (by omega) (by omega) (ms_small [[2,0],[0,4]] (by decide)) (fun x hx=>by
  simp only[List.mem_cons,List.not_mem_nil,or_false,or_self]at hx
  subst hx
  exact bt_small (by decide)) (by decide) (by decide) (Nat.le_refl _)
 rcases h2 with ⟨h2,_⟩|⟨_,y,rfl,hyl,_,hy⟩
 ·exact absurd ns_mB h2
 ·obtain ⟨x,z,rfl⟩:=two_of hyl
  have e1:=hy 0 _ _ rfl rfl
  have e2:=hy 1 _ _ rfl rfl
  simp only[dotQ]at e1 e2
  have e3:x=Rat.divInt 1 2:=by
   rw[Rat.divInt_eq_div];grind
  have e4:z=Rat.divInt 1 4:=by
   rw[Rat.divInt_eq_div];grind
  rw[e3,e4]at h1
  exact h1
theorem inv_mC (N:MatGLib L) (q q1:Bool):Ev L 238 [.sl q (eMq q1 mC)] (.tup [.sl false [],.int .i64 11]):=by
 obtain ⟨v,h1,h2⟩:=ev_Inverse N q q1 mC 2 3 rfl (by decide) (by omega) (by omega) (ms_small [[1,1],[1,1]] (by decide)) (by decide) (by decide) (Nat.le_refl _)
 rcases h2 with ⟨_,rfl⟩|⟨h2,_⟩
 ·exact h1
 ·exact absurd h2 ns_mC
theorem ev_awake9 (N:LawHLib L):Ev L 243 [] (.bool true):=by
 have hO:=fun (z:Int) (h : -9223372036854775808≤z∧z≤9223372036854775807)=>ev_r3_Of N.toRefGLib z h
 have hD:=fun q q'=>det_mA N.toMatGLib q q'
 have hS:=fun q q1 q2=>solve_mB N.toMatGLib q q1 q2
 have hI:=fun q q1=>inv_mC N.toMatGLib q q1
 have hSm:=ev_r3_Same N.toRefHLib (bt_small (z := -2) (by decide)) (by omega)
 have hF1:=ev_r3_Frac N.toRefGLib 1 2 (by omega) (by omega)
 have hF2:=ev_r3_Frac N.toRefGLib 1 4 (by omega) (by omega)
 have hSl:=fun q1 q2=>ev_SameList N.toRefHLib q1 q2 [Rat.divInt 1 2,Rat.divInt 1 4] 3 (fun x hx=>by
  simp only[List.mem_cons,List.not_mem_nil,or_false]at hx
  rcases hx with rfl|rfl
  ·exact ⟨by decide +kernel,by decide +kernel⟩
  ·exact ⟨by decide +kernel,by decide +kernel⟩) (by omega) (by simp)
 refine Ev.x N.law09_awake rfl rfl ?_
 (repeat' (first|(refine AKM.x ?_;conv=>whnf)|(refine CallP.go (hO 1 (by omega)) ?_;conv=>whnf)|(refine CallP.go (hO 2 (by omega)) ?_;conv=>whnf)|(refine CallP.go (hO 3 (by omega)) ?_;conv=>whnf)|(refine CallP.go (hO 4 (by omega)) ?_;conv=>whnf)))
 refine Req.go rfl ?_
 (conv=>whnf)
 (repeat' (first|(refine SnR.e2 rfl rfl ?_;conv=>whnf)|(refine CallP.go (hD _ _) ?_;conv=>whnf)|(refine CallP.go (hO 1 (by omega)) ?_;conv=>whnf)|(refine CallP.go (hO 2 (by omega)) ?_;conv=>whnf)|(refine CallP.go (hO 0 (by omega)) ?_;conv=>whnf)|(refine CallP.go (hO 4 (by omega)) ?_;conv=>whnf)))
 refine Req.go rfl ?_
 (conv=>whnf)
 (repeat' (first|(refine SnR.e2 rfl rfl ?_;conv=>whnf)|(refine CallP.go (hS _ _ _) ?_;conv=>whnf)|(refine CallP.go (hO 1 (by omega)) ?_;conv=>whnf)))
 refine Req.go rfl ?_
 (conv=>whnf)
 (repeat' (first|(refine CmpP.go (fun hc => ?_) (fun hc => ?_)<;>first|(exfalso;omega)|(conv=>whnf))|(refine SnR.e2 rfl rfl ?_;conv=>whnf)|(refine CallP.go (hI _ _) ?_;conv=>whnf)|(refine CallP.go (hSm) ?_;conv=>whnf)|(refine CallP.go (hF1) ?_;conv=>whnf)|(refine CallP.go (hF2) ?_;conv=>whnf)|(refine CallP.go (hSl _ _) ?_;conv=>whnf)|(refine CallP.go (hO (-2) (by omega)) ?_;conv=>whnf)))
 exact FinP.b rfl
end Go.Eng

namespace Go.Eng
open F
attribute [local irreducible] AKM CmpP Req OpP UnP ConvP RdP LdR StR MkR LenP AppR AppN CpyR RowP SnR Bds SlS CallP CalP FinP pw LdM GetM SetM PutM MkM AppM SnM FlP CallR
set_option maxHeartbeats 16000000
variable {L:Lib}
theorem four_of {n:Nat} (h:1≤n∧n≤4):n=1∨n=2∨n=3∨n=4:=by omega
theorem bd_det {n:Nat} (h:1≤n∧n≤4):6^n*(3^n*2)≤1000000000000:=by
 rcases four_of h with rfl|rfl|rfl|rfl<;>decide
end Go.Eng

namespace Go.Eng
theorem dotQ_setX (v:Rat) : ∀ (r X:List Rat) (p:Nat),p<X.length→dotQ r (X.set p v)=dotQ r X+r.getD p 0*(v-X.getD p 0)
 | [],X,p,_=>by
  show (0:Rat)=0+0*_
  grind
 | r::rs,[],p,h=>by simp at h
 | r::rs,x::X,0,_=>by
  simp only[List.set_cons_zero,dotQ,List.getD_cons_zero];grind
 | r::rs,x::X,p+1,h=>by
  have:=dotQ_setX v rs X p (by simpa using h)
  simp only[List.set_cons_succ,dotQ,List.getD_cons_succ,this];grind
theorem dotQ_disj {r X:List Rat} (h : ∀ j,r.getD j 0=0∨X.getD j 0=0):dotQ r X=0:=by
 rw[dotQ_sum r X r.length (Nat.le_refl _)]
 exact sumF_zero _ fun j _=>by
  rcases h j with h|h
  ·rw[h,Rat.zero_mul]
  ·rw[h,Rat.mul_zero]
theorem getD_setX (X:List Rat) (p j:Nat) (v:Rat):(X.set p v).getD j 0=if p=j∧p<X.length then v else X.getD j 0:=by
 rw[List.getD_eq_getElem?_getD,List.getElem?_set]
 by_cases e:p=j
 ·subst e
  by_cases h:p<X.length
  ·rw[if_pos rfl,if_pos h,if_pos ⟨rfl,h⟩];rfl
  ·rw[if_pos rfl,if_neg h,if_neg (fun x=>h x.2),List.getD_eq_getElem?_getD,List.getElem?_eq_none (by omega)]
 ·rw[if_neg e,if_neg (fun x=>e x.1),List.getD_eq_getElem?_getD]
theorem Ech.free {m:List (List Rat)} {W c:Nat} {P:List Nat} (h:Ech m W W P) (hc:c<W) (hP:c ∉ P) :
  ∃ X:List Rat,X.length=W∧Ker m X∧X.getD c 0=1∧(∀ j,c<j→X.getD j 0=0) ∧ ∀ j,j ∉ P→j≠c→X.getD j 0=0:=by
 have step : ∀ d,d≤P.length → ∃ X:List Rat,X.length=W∧(∀ (i:Nat) (r:List Rat),P.length-d≤i→m[i]? = some r→dotQ r X=0)∧X.getD c 0=1∧(∀ j,c<j→X.getD j 0=0) ∧ ∀ j,j ∉ P→j≠c→X.getD j 0=0:=by
  intro d
  induction d with
  | zero =>
   intro _
   refine ⟨unitL W c,by simp [unitL],fun i r hi hr => ?_,by rw[unit_getD,if_pos hc,if_pos rfl],fun j hj => ?_,fun j _ hj => ?_⟩
   ·refine dotQ_disj fun j => ?_
    by_cases hj:j<W
    ·exact Or.inl (h.zr i r (by omega) hr j hj)
    ·exact Or.inr (by rw[unit_getD,if_neg hj])
   ·rw[unit_getD,if_neg (show ¬ j=c by omega)];split<;>rfl
   ·rw[unit_getD,if_neg hj];split<;>rfl
  | succ d ih =>
   intro hd
   obtain ⟨X,h1,h2,h3,h4,h5⟩:=ih (by omega)
   obtain ⟨p,hp⟩ : ∃ p,P[P.length-(d+1)]? = some p:=⟨_,List.getElem?_eq_getElem (by omega)⟩
   obtain ⟨t,ht⟩ : ∃ t,m[P.length-(d+1)]? = some t:=⟨_,List.getElem?_eq_getElem (by have:=h.pl;omega)⟩
   obtain ⟨hn,hz⟩:=h.nz _ p t hp ht
   have hpW:=h.pb p (List.mem_of_getElem? hp)
   have hpc:p≠c:=fun e=>hP (e ▸ List.mem_of_getElem? hp)
   by_cases hlt:c<p
   ·refine ⟨X,h1,fun i r hi hr => ?_,h3,h4,h5⟩
    by_cases e:i=P.length-(d+1)
    ·subst e
     obtain rfl:=Option.some.inj (ht.symm.trans hr)
     refine dotQ_disj fun j => ?_
     by_cases hj:j<p
     ·exact Or.inl (hz j hj)
     ·exact Or.inr (h4 j (by omega))
    ·exact h2 i r (by omega) hr
   ·refine ⟨X.set p (X.getD p 0-dotQ t X/t.getD p 0),by simpa using h1,fun i r hi hr => ?_,?_,fun j hj => ?_,fun j hj hjc => ?_⟩
    ·rw[dotQ_setX _ r X p (by omega)]
     by_cases e:i=P.length-(d+1)
     ·subst e
      obtain rfl:=Option.some.inj (ht.symm.trans hr)
      have:=Rat.div_mul_cancel hn (a:=dotQ t X)
      grind
     ·have hr0:r.getD p 0=0:=by
       by_cases hiP:i<P.length
       ·obtain ⟨q,hq⟩ : ∃ q,P[i]? = some q:=⟨_,List.getElem?_eq_getElem hiP⟩
        exact (h.nz i q r hq hr).2 p (h.inc _ i p q (by omega) hp hq)
       ·exact h.zr i r (by omega) hr p hpW
      rw[hr0,Rat.zero_mul,Rat.add_zero]
      exact h2 i r (by omega) hr
    ·rw[getD_setX,if_neg (fun x:p=c∧p<X.length=>hpc x.1)];exact h3
    ·rw[getD_setX,if_neg (fun x:p=j∧p<X.length=>by omega)];exact h4 j hj
    ·rw[getD_setX,if_neg (fun x:p=j∧p<X.length=>hj (x.1 ▸ List.mem_of_getElem? hp))];exact h5 j hj hjc
 obtain ⟨X,h1,h2,h3,h4,h5⟩:=step P.length (Nat.le_refl _)
 refine ⟨X,h1,fun r hr => ?_,h3,h4,h5⟩
 obtain ⟨i,hi⟩:=List.getElem?_of_mem hr
 exact h2 i r (by omega) hi
theorem Ech.bound {m:List (List Rat)} {W c:Nat} {P:List Nat} (h:Ech m W W P) (hP:c∈P) {X:List Rat} (hk:Ker m X) (hx : ∀ j,c<j→X.getD j 0=0):X.getD c 0=0:=by
 obtain ⟨i,hi⟩:=List.getElem?_of_mem hP
 have hil:=(List.getElem?_eq_some_iff.1 hi).1
 obtain ⟨r,hr⟩ : ∃ r,m[i]? = some r:=⟨_,List.getElem?_eq_getElem (by have:=h.pl;omega)⟩
 obtain ⟨hn,hz⟩:=h.nz i c r hi hr
 have hcW:=h.pb c hP
 have hrl:=h.lr r (List.mem_of_getElem? hr)
 have h1:=hk r (List.mem_of_getElem? hr)
 rw[dotQ_sum r X W (by omega),sumF_one W hcW fun j _ hne=>by
  rcases Nat.lt_or_ge j c with hj|hj
  ·rw[hz j hj,Rat.zero_mul]
  ·rw[hx j (by omega),Rat.mul_zero]]at h1
 rcases Rat.mul_eq_zero.1 h1 with h2|h2
 ·exact absurd h2 hn
 ·exact h2
theorem sub_len : ∀ {P Q:List Nat},P.Pairwise (· < ·)→Q.Pairwise (· < ·)→(∀ p∈P,p∈Q)→P.length≤Q.length
 | [],_,_,_,_=>Nat.zero_le _
 | p::P,[],_,_,h=>by have:=h p List.mem_cons_self;cases this
 | p::P,q::Q,hp,hq,h=>by
  rw[List.pairwise_cons]at hp hq
  by_cases e:p=q
  ·subst e
   have:=sub_len hp.2 hq.2 fun x hx=>by
    rcases List.mem_cons.1 (h x (List.mem_cons_of_mem _ hx)) with rfl|h2
    ·exact absurd (hp.1 x hx) (Nat.lt_irrefl x)
    ·exact h2
   simpa using this
  ·have hpQ:p∈Q:=by
    rcases List.mem_cons.1 (h p List.mem_cons_self) with h2|h2
    ·exact absurd h2 e
    ·exact h2
   have hqp:=hq.1 p hpQ
   have:=sub_len (P:=p::P) (List.pairwise_cons.2 hp) hq.2 fun x hx=>by
    rcases List.mem_cons.1 (h x hx) with rfl|h2
    ·rcases List.mem_cons.1 hx with e2|hx
     ·exact absurd e2.symm e
     ·have:=hp.1 x hx;omega
    ·exact h2
   simp only[List.length_cons]at this ⊢
   omega
theorem Ech.pw {m:List (List Rat)} {W c:Nat} {P:List Nat} (h:Ech m W c P):P.Pairwise (· < ·):=by
 rw[List.pairwise_iff_getElem]
 intro i j hi hj hij
 exact h.inc i j _ _ hij (List.getElem?_eq_getElem hi) (List.getElem?_eq_getElem hj)
def IsRank (a:List (List Rat)) (W r:Nat):Prop := ∃ m P,Ech m W W P∧(∀ X,Ker m X↔Ker a X)∧P.length=r
theorem rank_le {a b:List (List Rat)} {W r s:Nat} (ha:IsRank a W r) (hb:IsRank b W s) (h : ∀ X:List Rat,X.length=W→Ker b X→Ker a X):r≤s:=by
 obtain ⟨m,P,e1,k1,rfl⟩:=ha
 obtain ⟨m',Q,e2,k2,rfl⟩:=hb
 refine sub_len e1.pw e2.pw fun p hp=>Classical.byContradiction fun hq => ?_
 obtain ⟨X,x1,x2,x3,x4,_⟩:=e2.free (e1.pb p hp) hq
 have:=e1.bound hp ((k1 X).2 (h X x1 ((k2 X).1 x2))) x4
 rw[x3]at this
 exact absurd this (by decide)
theorem bt_any (x:Rat):Bt (x.num.natAbs+x.den) x :=
 ⟨Nat.le_trans (Nat.le_of_lt Nat.lt_two_pow_self) (Nat.pow_le_pow_right (by omega) (by omega)),Nat.le_trans (Nat.le_of_lt Nat.lt_two_pow_self) (Nat.pow_le_pow_right (by omega) (by omega))⟩
theorem bs_any : ∀ l:List Rat,∃ K,Bs K l
 | []=>⟨0,fun x hx=>by cases hx⟩
 | x::l=>by
  obtain ⟨K,hK⟩:=bs_any l
  refine ⟨K+(x.num.natAbs+x.den),fun y hy => ?_⟩
  rcases List.mem_cons.1 hy with rfl|hy
  ·exact (bt_any y).le (by omega)
  ·exact (hK y hy).le (by omega)
theorem ms_any : ∀ m:List (List Rat),∃ K,Ms K m
 | []=>⟨0,fun x hx=>by cases hx⟩
 | r::m=>by
  obtain ⟨K,hK⟩:=ms_any m
  obtain ⟨J,hJ⟩:=bs_any r
  refine ⟨K+J,fun y hy => ?_⟩
  rcases List.mem_cons.1 hy with rfl|hy
  ·exact hJ.le (by omega)
  ·exact (hK y hy).le (by omega)
theorem Swp.all {m0:List (List Rat)} {K W cols c:Nat} {P:List Nat} {odd:Bool} {l:Rat} {t:List Rat} : ∀ (d i:Nat) (m:List (List Rat)),P.length<i→i+d=m0.length→Swp m0 K W cols P c odd l t m i → ∃ m',Swp m0 K W cols P c odd l t m' m0.length
 | 0,i,m,_,hd,h=>by
  obtain rfl:i=m0.length:=by omega
  exact ⟨m,h⟩
 | d+1,i,m,hi,hd,h=>by
  obtain ⟨r,hr⟩ : ∃ r,m[i]? = some r:=⟨_,List.getElem?_eq_getElem (by have:=h.len;omega)⟩
  exact Swp.all d (i+1) _ (by omega) (by omega) (h.step hi hr)
theorem Elm.all {m0:List (List Rat)} {K W:Nat} (hK:1≤K) : ∀ (d c:Nat) (m:List (List Rat)) (P:List Nat) (odd:Bool) (l:Rat),c+d=W→Elm m0 K W W m P c odd l → ∃ m' P' odd' l',Elm m0 K W W m' P' W odd' l'
 | 0,c,m,P,odd,l,hd,h=>by
  obtain rfl:c=W:=by omega
  exact ⟨m,P,odd,l,h⟩
 | d+1,c,m,P,odd,l,hd,h=>by
  have piv : ∀ (m:List (List Rat)) (odd:Bool) (t:List Rat),Elm m0 K W W m P c odd l→m[P.length]? = some t→t.getD c 0≠0 → ∃ m' P' odd' l',Elm m0 K W W m' P' W odd' l':=by
   intro m odd t h ht hn
   have hpl:=(List.getElem?_eq_some_iff.1 ht).1
   have hlen:=h.len
   obtain ⟨m',hs⟩:=Swp.all (m0.length-(P.length+1)) (P.length+1) m (by omega) (by omega) (h.swp (by omega) ht hn)
   exact Elm.all hK d (c+1) _ _ _ _ (by omega) (hs.done hK hs.len.symm)
  by_cases hz : ∀ (i:Nat) (r:List Rat),P.length≤i→m[i]? = some r→r.getD c 0=0
  ·exact Elm.all hK d (c+1) m P odd l (by omega) (h.skip (by omega) hz)
  ·obtain ⟨i,r,hi,hr,hne⟩ : ∃ (i:Nat) (r:List Rat),P.length≤i∧m[i]? = some r∧r.getD c 0≠0:=Classical.byContradiction fun hno=>hz fun i r hi hr=>Classical.byContradiction fun hne=>hno ⟨i,r,hi,hr,hne⟩
   have hil:=(List.getElem?_eq_some_iff.1 hr).1
   by_cases e:i=P.length
   ·subst e
    exact piv m odd r h hr hne
   ·obtain ⟨t,ht⟩ : ∃ t,m[P.length]? = some t:=⟨_,List.getElem?_eq_getElem (by omega)⟩
    exact piv _ (!odd) r (h.swap hr ht hi (Nat.le_refl _) e) (by rw[List.getElem?_set,if_pos rfl,if_pos (by rw[List.length_set];omega)]) hne
theorem rank_ex {a:List (List Rat)} {W:Nat} (h : ∀ r∈a,r.length=W) : ∃ r,r≤a.length∧IsRank a W r:=by
 obtain ⟨K,hK⟩:=ms_any a
 obtain ⟨m,P,o,l,hE⟩:=Elm.all (m0:=a) (K:=K+1) (W:=W) (by omega) W 0 a [] false 1 (by omega) (Elm.start h fun r hr=>(hK r hr).le (by omega))
 exact ⟨P.length,by have:=hE.ech.pl;have:=hE.len;omega,m,P,hE.ech,hE.ker,rfl⟩
end Go.Eng

namespace Go.Eng
def trW (a:List (List Rat)) (w:Nat):List (List Rat):=(List.range w).map (colQ a)
theorem trW_len (a:List (List Rat)) (w:Nat):(trW a w).length=w:=by simp [trW]
theorem trW_at {a:List (List Rat)} {w i:Nat} (h:i<w):(trW a w)[i]? = some (colQ a i):=by
 simp only[trW,List.getElem?_map,List.getElem?_range h,Option.map_some]
theorem trW_w {a:List (List Rat)} {w n:Nat} (h:a.length=n) : ∀ r∈trW a w,r.length=n:=fun r hr=>by
 obtain ⟨i,_,rfl⟩:=List.mem_map.1 hr
 rw[colQ_len];exact h
theorem trW_trW {a:List (List Rat)} {n w:Nat} (hl:a.length=n) (hw : ∀ r∈a,r.length=w):trW (trW a w) n=a:=by
 refine List.ext_getElem? fun i => ?_
 by_cases hi:i<n
 ·obtain ⟨r,hr⟩ : ∃ r,a[i]? = some r:=⟨_,List.getElem?_eq_getElem (by omega)⟩
  have hrl:=hw r (List.mem_of_getElem? hr)
  rw[trW_at hi,hr]
  congr 1
  refine List.ext_getElem? fun j => ?_
  by_cases hj:j<w
  ·rw[colQ,List.getElem?_map,trW_at hj,Option.map_some,colQ,List.getD_eq_getElem?_getD,List.getElem?_map,hr,Option.map_some,Option.getD_some,List.getD_eq_getElem?_getD,List.getElem?_eq_getElem (by omega)];rfl
  ·rw[List.getElem?_eq_none (by rw[colQ_len,trW_len];omega),List.getElem?_eq_none (by omega)]
 ·rw[List.getElem?_eq_none (by rw[trW_len];omega),List.getElem?_eq_none (by omega)]
theorem mulRow_at' {u:List Rat} {m:List (List Rat)} {n j:Nat} (h:j<n):(mulRow u m n).getD j 0=dotQ u (colQ m j):=by rw[mulRow,getD_map_range,if_pos h]
theorem rank_tr_le {a:List (List Rat)} {n r s:Nat} (ha:Sq n a) (hr:IsRank a n r) (hs:IsRank (trW a n) n s):s≤r:=by
 obtain ⟨m,P,e,k,rfl⟩:=hr
 obtain ⟨q,hq,hb⟩:=rank_ex (a:=P.map (colQ a)) (W:=n) (fun r hr=>by
  obtain ⟨p,_,rfl⟩:=List.mem_map.1 hr
  rw[colQ_len];exact ha.l)
 rw[List.length_map]at hq
 refine Nat.le_trans (rank_le hs hb fun Y hY hk t ht => ?_) hq
 obtain ⟨c,hc,rfl⟩:=List.mem_map.1 ht
 have hc:=List.mem_range.1 hc
 by_cases hP:c∈P
 ·exact hk _ (List.mem_map.2 ⟨c,hP,rfl⟩)
 ·obtain ⟨X,x1,x2,x3,_,x5⟩:=e.free hc hP
  have hX:=(k X).1 x2
  have h1:=dotQ_assoc (n:=n) (v:=X) a Y ha.r
  have h2:dotQ Y (mvQ a X)=0:=dotQ_disj fun j=>Or.inr (by
   rw[List.getD_eq_getElem?_getD,mvQ,List.getElem?_map]
   cases hj:a[j]? with
   | none=>rfl
   | some r=>exact hX r (List.mem_of_getElem? hj))
  rw[h2,dotQ_sum _ X n (by rw[mulRow_len];omega),sumF_one n hc fun j hj hne=>by
   by_cases hjP:j∈P
   ·rw[mulRow_at' hj,dotQ_comm,hk _ (List.mem_map.2 ⟨j,hjP,rfl⟩),Rat.zero_mul]
   ·rw[x5 j hjP hne,Rat.mul_zero],x3,Rat.mul_one,mulRow_at' hc]at h1
  rw[dotQ_comm];exact h1
theorem rank_tr {a:List (List Rat)} {n r s:Nat} (ha:Sq n a) (hr:IsRank a n r) (hs:IsRank (trW a n) n s):s=r:=by
 refine Nat.le_antisymm (rank_tr_le ha hr hs) ?_
 have ht:Sq n (trW a n):=⟨trW_len a n,trW_w ha.l⟩
 exact rank_tr_le ht hs (by rw[trW_trW ha.l ha.r];exact hr)
theorem rank_ns2 {a:List (List Rat)} {n r:Nat} (ha:Sq n a) (hr:IsRank a n r):r=n↔NS n a:=by
 obtain ⟨m,P,e,k,rfl⟩:=hr
 have hj:join2 a (List.replicate a.length [])=a:=by
  have : ∀ a:List (List Rat),join2 a (List.replicate a.length [])=a:=by
   intro a
   induction a with
   | nil=>rfl
   | cons r a ih =>
    simp only[join2]at ih
    simp [join2,List.replicate_succ,ih]
  exact this a
 exact rank_ns (w:=0) (b:=List.replicate a.length []) e (fun X=>by rw[hj];exact k X) (by simp) ha.r
theorem mulRow_comb {p f l:Rat} {r t:List Rat} {B:List (List Rat)} {n:Nat} (h:r.length=t.length):mulRow (comb p f l r t) B n=comb p f l (mulRow r B n) (mulRow t B n):=by
 refine List.ext_getElem? fun j => ?_
 by_cases hj:j<n
 ·rw[comb_at (x:=dotQ r (colQ B j)) (y:=dotQ t (colQ B j)) (by simp [mulRow,hj]) (by simp [mulRow,hj]),mulRow,List.getElem?_map,List.getElem?_range hj,Option.map_some,comb_dot p f l r t _ h,Rat.mul_comm p,Rat.mul_comm f]
 ·rw[List.getElem?_eq_none (by rw[mulRow_len];omega),List.getElem?_eq_none (by rw[comb_len (by rw[mulRow_len,mulRow_len]),mulRow_len];omega)]
theorem mulRow_smr (s:Rat) (r:List Rat) (B:List (List Rat)) (n:Nat):mulRow (r.map (· * s)) B n=(mulRow r B n).map (· * s):=by
 simp only[mulRow,List.map_map]
 exact List.map_congr_left fun j _=>dotQ_smr s r _
theorem DetF.mulR {n:Nat} {u:Rat} {D:List (List Rat)→Rat} (hD:DetF n n u D) (B:List (List Rat)) (ht : ∀ m:List (List Rat),m.length=n→(∀ r∈m,r.length=n)→Tri (atQ m) n→D (mulQ m B n)=pdQ m (List.range n)*D B):DetF n n (D B) fun A=>D (mulQ A B n):=by
 have hl : ∀ m:List (List Rat),m.length=n→(mulQ m B n).length=n:=fun m h=>by rw[mulQ_len];exact h
 have hw : ∀ m:List (List Rat),∀ r∈mulQ m B n,r.length=n:=fun m r hr=>by
  obtain ⟨x,_,rfl⟩:=List.mem_map.1 hr
  exact mulRow_len _ _ _
 have ha : ∀ (m:List (List Rat)) (i:Nat) (r:List Rat),m[i]? = some r→(mulQ m B n)[i]? = some (mulRow r B n):=fun m i r h=>by rw[mulQ,List.getElem?_map,h];rfl
 have hs : ∀ (m:List (List Rat)) (i:Nat) (r:List Rat),mulQ (m.set i r) B n=(mulQ m B n).set i (mulRow r B n):=fun m i r=>by rw[mulQ,List.map_set];rfl
 refine ⟨fun m i k a b h1 h2 h3 h4 h5 => ?_,fun m i k r t p f l h1 h2 h3 h4 h5 h6 => ?_,fun m i r s h1 h2 h3 => ?_,ht⟩
 ·show D (mulQ ((m.set i b).set k a) B n)=_
  rw[hs,hs]
  exact hD.sw _ i k _ _ (hl m h1) (hw m) (ha m i a h3) (ha m k b h4) h5
 ·show D (mulQ (m.set i (comb p f l r t)) B n)=_
  rw[hs,mulRow_comb (by rw[h2 r (List.mem_of_getElem? h3),h2 t (List.mem_of_getElem? h4)])]
  exact hD.ad _ i k _ _ p f l (hl m h1) (hw m) (ha m i r h3) (ha m k t h4) h5 h6
 ·show D (mulQ (m.set i (r.map (· * s))) B n)=_
  rw[hs,mulRow_smr]
  exact hD.sc _ i _ s (hl m h1) (hw m) (ha m i r h3)
def sd1 (y0:Rat):Rat:=y0
def DD1 (m:List (List Rat)):Rat:=sd1 (atQ m 0 0)
theorem DD1_eq (y0:Rat):DD1 [[y0]]=sd1 y0:=rfl
theorem of1 {α:Type} {l:List α} (h:l.length=1) : ∃ x0,l=[x0]:=by
 match l,h with
 | [x0],_=>exact ⟨x0,rfl⟩
theorem mat1 {m:List (List Rat)} (h:m.length=1) (hw : ∀ r∈m,r.length=1) : ∃ y0,m=[[y0]]:=by
 obtain ⟨r0,rfl⟩:=of1 h
 obtain ⟨y0,rfl⟩:=of1 (hw r0 (by simp))
 exact ⟨y0,rfl⟩
theorem at1 {α:Type} {x0 x:α} {i:Nat} (h:[x0][i]? = some x):(i=0∧x=x0):=by
 match i,h with
 | 0,h=>exact ⟨rfl,(Option.some.inj h).symm⟩
 | i+1,h=>simp at h
theorem sd1_sc0 (y0 S:Rat):sd1 (y0*S)=sd1 y0*S:=by simp only[sd1]<;>grind
theorem sd1_tr (y0:Rat):sd1 y0=y0:=by simp only[sd1]<;>grind
theorem sd1_t (y0:Rat):sd1 y0=sd1 y0:=by simp only[sd1]<;>grind
theorem sd1_m (y0 z00:Rat):sd1 (y0*z00+0)=y0*sd1 z00:=by simp only[sd1]<;>grind
theorem DD1F:DetF 1 1 1 DD1:=by
 refine ⟨fun m i_ k_ a_ b_ hl hw hi hk hn => ?_,fun m i_ k_ r_ t_ p_ f_ l_ hl hw hi hk hn h0 => ?_,fun m i_ r_ s_ hl hw hi => ?_,fun m hl hw ht => ?_⟩
 ·obtain ⟨y0,rfl⟩:=mat1 hl hw
  obtain ⟨rfl,rfl⟩:=at1 hi
  obtain ⟨rfl,rfl⟩:=at1 hk
  ·exact absurd rfl hn
 ·obtain ⟨y0,rfl⟩:=mat1 hl hw
  obtain ⟨rfl,rfl⟩:=at1 hi
  obtain ⟨rfl,rfl⟩:=at1 hk
  ·exact absurd rfl hn
 ·obtain ⟨y0,rfl⟩:=mat1 hl hw
  obtain ⟨rfl,rfl⟩:=at1 hi
  ·exact sd1_sc0 _ _
 ·obtain ⟨y0,rfl⟩:=mat1 hl hw
  refine (sd1_tr _).trans ?_
  show y0=(y0*1)*1
  grind
theorem DD1M (B:List (List Rat)) (hB:Sq 1 B):DetF 1 1 (DD1 B) fun A=>DD1 (mulQ A B 1):=by
 refine DD1F.mulR B fun m hl hw ht => ?_
 obtain ⟨y0,rfl⟩:=mat1 hl hw
 obtain ⟨z00,rfl⟩:=mat1 hB.l hB.r
 refine (sd1_m _ _).trans ?_
 show _=(y0*1)*_
 rw[DD1_eq]
 grind
theorem DD1T (A:List (List Rat)) (hA:Sq 1 A):DD1 (trW A 1)=DD1 A:=by
 obtain ⟨y0,rfl⟩:=mat1 hA.l hA.r
 exact sd1_t _
def sd2 (y0 y1 y2 y3:Rat):Rat:=y0*y3-y1*y2
def DD2 (m:List (List Rat)):Rat:=sd2 (atQ m 0 0) (atQ m 0 1) (atQ m 1 0) (atQ m 1 1)
theorem DD2_eq (y0 y1 y2 y3:Rat):DD2 [[y0,y1],[y2,y3]]=sd2 y0 y1 y2 y3:=rfl
theorem of2 {α:Type} {l:List α} (h:l.length=2) : ∃ x0 x1,l=[x0,x1]:=by
 match l,h with
 | [x0,x1],_=>exact ⟨x0,x1,rfl⟩
theorem mat2 {m:List (List Rat)} (h:m.length=2) (hw : ∀ r∈m,r.length=2) : ∃ y0 y1 y2 y3,m=[[y0,y1],[y2,y3]]:=by
 obtain ⟨r0,r1,rfl⟩:=of2 h
 obtain ⟨y0,y1,rfl⟩:=of2 (hw r0 (by simp))
 obtain ⟨y2,y3,rfl⟩:=of2 (hw r1 (by simp))
 exact ⟨y0,y1,y2,y3,rfl⟩
theorem at2 {α:Type} {x0 x1 x:α} {i:Nat} (h:[x0,x1][i]? = some x):(i=0∧x=x0)∨(i=1∧x=x1):=by
 match i,h with
 | 0,h=>exact Or.inl ⟨rfl,(Option.some.inj h).symm⟩
 | 1,h=>exact Or.inr (⟨rfl,(Option.some.inj h).symm⟩)
 | i+2,h=>simp at h
theorem sd2_sw01 (y0 y1 y2 y3:Rat):sd2 y2 y3 y0 y1 = -sd2 y0 y1 y2 y3:=by simp only[sd2]<;>grind
theorem sd2_ad01 (y0 y1 y2 y3 P F Q:Rat):sd2 ((y0*P-y2*F)/Q) ((y1*P-y3*F)/Q) y2 y3=sd2 y0 y1 y2 y3*(P/Q):=by simp only[sd2,Rat.div_def]<;>grind
theorem sd2_sc0 (y0 y1 y2 y3 S:Rat):sd2 (y0*S) (y1*S) y2 y3=sd2 y0 y1 y2 y3*S:=by simp only[sd2]<;>grind
theorem sd2_ad10 (y0 y1 y2 y3 P F Q:Rat):sd2 y0 y1 ((y2*P-y0*F)/Q) ((y3*P-y1*F)/Q)=sd2 y0 y1 y2 y3*(P/Q):=by simp only[sd2,Rat.div_def]<;>grind
theorem sd2_sc1 (y0 y1 y2 y3 S:Rat):sd2 y0 y1 (y2*S) (y3*S)=sd2 y0 y1 y2 y3*S:=by simp only[sd2]<;>grind
theorem sd2_tr (y0 y1 y3:Rat):sd2 y0 y1 0 y3=y0*y3:=by simp only[sd2]<;>grind
theorem sd2_t (y0 y1 y2 y3:Rat):sd2 y0 y2 y1 y3=sd2 y0 y1 y2 y3:=by simp only[sd2]<;>grind
theorem sd2_m (y0 y1 y3 z00 z01 z10 z11:Rat):sd2 (y0*z00+(y1*z10+0)) (y0*z01+(y1*z11+0)) (0*z00+(y3*z10+0)) (0*z01+(y3*z11+0))=y0*y3*sd2 z00 z01 z10 z11:=by simp only[sd2]<;>grind
theorem DD2F:DetF 2 2 1 DD2:=by
 refine ⟨fun m i_ k_ a_ b_ hl hw hi hk hn => ?_,fun m i_ k_ r_ t_ p_ f_ l_ hl hw hi hk hn h0 => ?_,fun m i_ r_ s_ hl hw hi => ?_,fun m hl hw ht => ?_⟩
 ·obtain ⟨y0,y1,y2,y3,rfl⟩:=mat2 hl hw
  rcases at2 hi with ⟨rfl,rfl⟩|⟨rfl,rfl⟩<;>rcases at2 hk with ⟨rfl,rfl⟩|⟨rfl,rfl⟩
  ·exact absurd rfl hn
  ·exact sd2_sw01 _ _ _ _
  ·exact sd2_sw01 _ _ _ _
  ·exact absurd rfl hn
 ·obtain ⟨y0,y1,y2,y3,rfl⟩:=mat2 hl hw
  rcases at2 hi with ⟨rfl,rfl⟩|⟨rfl,rfl⟩<;>rcases at2 hk with ⟨rfl,rfl⟩|⟨rfl,rfl⟩
  ·exact absurd rfl hn
  ·exact sd2_ad01 _ _ _ _ _ _ _
  ·exact sd2_ad10 _ _ _ _ _ _ _
  ·exact absurd rfl hn
 ·obtain ⟨y0,y1,y2,y3,rfl⟩:=mat2 hl hw
  rcases at2 hi with ⟨rfl,rfl⟩|⟨rfl,rfl⟩
  ·exact sd2_sc0 _ _ _ _ _
  ·exact sd2_sc1 _ _ _ _ _
 ·obtain ⟨y0,y1,y2,y3,rfl⟩:=mat2 hl hw
  obtain rfl:y2=0:=(ht 1 (by omega)).2 0 (by omega)
  refine (sd2_tr _ _ _).trans ?_
  show y0*y3=(y0*(y3*1))*1
  grind
theorem DD2M (B:List (List Rat)) (hB:Sq 2 B):DetF 2 2 (DD2 B) fun A=>DD2 (mulQ A B 2):=by
 refine DD2F.mulR B fun m hl hw ht => ?_
 obtain ⟨y0,y1,y2,y3,rfl⟩:=mat2 hl hw
 obtain ⟨z00,z01,z10,z11,rfl⟩:=mat2 hB.l hB.r
 obtain rfl:y2=0:=(ht 1 (by omega)).2 0 (by omega)
 refine (sd2_m _ _ _ _ _ _ _).trans ?_
 show _=(y0*(y3*1))*_
 rw[DD2_eq]
 grind
theorem DD2T (A:List (List Rat)) (hA:Sq 2 A):DD2 (trW A 2)=DD2 A:=by
 obtain ⟨y0,y1,y2,y3,rfl⟩:=mat2 hA.l hA.r
 exact sd2_t _ _ _ _
def sd3 (y0 y1 y2 y3 y4 y5 y6 y7 y8:Rat):Rat:=y0*(y4*y8-y5*y7)-y1*(y3*y8-y5*y6)+y2*(y3*y7-y4*y6)
def DD3 (m:List (List Rat)):Rat:=sd3 (atQ m 0 0) (atQ m 0 1) (atQ m 0 2) (atQ m 1 0) (atQ m 1 1) (atQ m 1 2) (atQ m 2 0) (atQ m 2 1) (atQ m 2 2)
theorem DD3_eq (y0 y1 y2 y3 y4 y5 y6 y7 y8:Rat):DD3 [[y0,y1,y2],[y3,y4,y5],[y6,y7,y8]]=sd3 y0 y1 y2 y3 y4 y5 y6 y7 y8:=rfl
theorem of3 {α:Type} {l:List α} (h:l.length=3) : ∃ x0 x1 x2,l=[x0,x1,x2]:=by
 match l,h with
 | [x0,x1,x2],_=>exact ⟨x0,x1,x2,rfl⟩
theorem mat3 {m:List (List Rat)} (h:m.length=3) (hw : ∀ r∈m,r.length=3) : ∃ y0 y1 y2 y3 y4 y5 y6 y7 y8,m=[[y0,y1,y2],[y3,y4,y5],[y6,y7,y8]]:=by
 obtain ⟨r0,r1,r2,rfl⟩:=of3 h
 obtain ⟨y0,y1,y2,rfl⟩:=of3 (hw r0 (by simp))
 obtain ⟨y3,y4,y5,rfl⟩:=of3 (hw r1 (by simp))
 obtain ⟨y6,y7,y8,rfl⟩:=of3 (hw r2 (by simp))
 exact ⟨y0,y1,y2,y3,y4,y5,y6,y7,y8,rfl⟩
theorem at3 {α:Type} {x0 x1 x2 x:α} {i:Nat} (h:[x0,x1,x2][i]? = some x):(i=0∧x=x0)∨(i=1∧x=x1)∨(i=2∧x=x2):=by
 match i,h with
 | 0,h=>exact Or.inl ⟨rfl,(Option.some.inj h).symm⟩
 | 1,h=>exact Or.inr (Or.inl ⟨rfl,(Option.some.inj h).symm⟩)
 | 2,h=>exact Or.inr (Or.inr (⟨rfl,(Option.some.inj h).symm⟩))
 | i+3,h=>simp at h
theorem sd3_sw01 (y0 y1 y2 y3 y4 y5 y6 y7 y8:Rat):sd3 y3 y4 y5 y0 y1 y2 y6 y7 y8 = -sd3 y0 y1 y2 y3 y4 y5 y6 y7 y8:=by simp only[sd3]<;>grind
theorem sd3_sw02 (y0 y1 y2 y3 y4 y5 y6 y7 y8:Rat):sd3 y6 y7 y8 y3 y4 y5 y0 y1 y2 = -sd3 y0 y1 y2 y3 y4 y5 y6 y7 y8:=by simp only[sd3]<;>grind
theorem sd3_sw12 (y0 y1 y2 y3 y4 y5 y6 y7 y8:Rat):sd3 y0 y1 y2 y6 y7 y8 y3 y4 y5 = -sd3 y0 y1 y2 y3 y4 y5 y6 y7 y8:=by simp only[sd3]<;>grind
theorem sd3_ad01 (y0 y1 y2 y3 y4 y5 y6 y7 y8 P F Q:Rat):sd3 ((y0*P-y3*F)/Q) ((y1*P-y4*F)/Q) ((y2*P-y5*F)/Q) y3 y4 y5 y6 y7 y8=sd3 y0 y1 y2 y3 y4 y5 y6 y7 y8*(P/Q):=by simp only[sd3,Rat.div_def]<;>grind
theorem sd3_ad02 (y0 y1 y2 y3 y4 y5 y6 y7 y8 P F Q:Rat):sd3 ((y0*P-y6*F)/Q) ((y1*P-y7*F)/Q) ((y2*P-y8*F)/Q) y3 y4 y5 y6 y7 y8=sd3 y0 y1 y2 y3 y4 y5 y6 y7 y8*(P/Q):=by simp only[sd3,Rat.div_def]<;>grind
theorem sd3_sc0 (y0 y1 y2 y3 y4 y5 y6 y7 y8 S:Rat):sd3 (y0*S) (y1*S) (y2*S) y3 y4 y5 y6 y7 y8=sd3 y0 y1 y2 y3 y4 y5 y6 y7 y8*S:=by simp only[sd3]<;>grind
theorem sd3_ad10 (y0 y1 y2 y3 y4 y5 y6 y7 y8 P F Q:Rat):sd3 y0 y1 y2 ((y3*P-y0*F)/Q) ((y4*P-y1*F)/Q) ((y5*P-y2*F)/Q) y6 y7 y8=sd3 y0 y1 y2 y3 y4 y5 y6 y7 y8*(P/Q):=by simp only[sd3,Rat.div_def]<;>grind
theorem sd3_ad12 (y0 y1 y2 y3 y4 y5 y6 y7 y8 P F Q:Rat):sd3 y0 y1 y2 ((y3*P-y6*F)/Q) ((y4*P-y7*F)/Q) ((y5*P-y8*F)/Q) y6 y7 y8=sd3 y0 y1 y2 y3 y4 y5 y6 y7 y8*(P/Q):=by simp only[sd3,Rat.div_def]<;>grind
theorem sd3_sc1 (y0 y1 y2 y3 y4 y5 y6 y7 y8 S:Rat):sd3 y0 y1 y2 (y3*S) (y4*S) (y5*S) y6 y7 y8=sd3 y0 y1 y2 y3 y4 y5 y6 y7 y8*S:=by simp only[sd3]<;>grind
theorem sd3_ad20 (y0 y1 y2 y3 y4 y5 y6 y7 y8 P F Q:Rat):sd3 y0 y1 y2 y3 y4 y5 ((y6*P-y0*F)/Q) ((y7*P-y1*F)/Q) ((y8*P-y2*F)/Q)=sd3 y0 y1 y2 y3 y4 y5 y6 y7 y8*(P/Q):=by simp only[sd3,Rat.div_def]<;>grind
theorem sd3_ad21 (y0 y1 y2 y3 y4 y5 y6 y7 y8 P F Q:Rat):sd3 y0 y1 y2 y3 y4 y5 ((y6*P-y3*F)/Q) ((y7*P-y4*F)/Q) ((y8*P-y5*F)/Q)=sd3 y0 y1 y2 y3 y4 y5 y6 y7 y8*(P/Q):=by simp only[sd3,Rat.div_def]<;>grind
theorem sd3_sc2 (y0 y1 y2 y3 y4 y5 y6 y7 y8 S:Rat):sd3 y0 y1 y2 y3 y4 y5 (y6*S) (y7*S) (y8*S)=sd3 y0 y1 y2 y3 y4 y5 y6 y7 y8*S:=by simp only[sd3]<;>grind
theorem sd3_tr (y0 y1 y2 y4 y5 y8:Rat):sd3 y0 y1 y2 0 y4 y5 0 0 y8=y0*y4*y8:=by simp only[sd3]<;>grind
theorem sd3_t (y0 y1 y2 y3 y4 y5 y6 y7 y8:Rat):sd3 y0 y3 y6 y1 y4 y7 y2 y5 y8=sd3 y0 y1 y2 y3 y4 y5 y6 y7 y8:=by simp only[sd3]<;>grind
theorem sd3_m (y0 y1 y2 y4 y5 y8 z00 z01 z02 z10 z11 z12 z20 z21 z22:Rat):sd3 (y0*z00+(y1*z10+(y2*z20+0))) (y0*z01+(y1*z11+(y2*z21+0))) (y0*z02+(y1*z12+(y2*z22+0))) (0*z00+(y4*z10+(y5*z20+0))) (0*z01+(y4*z11+(y5*z21+0))) (0*z02+(y4*z12+(y5*z22+0))) (0*z00+(0*z10+(y8*z20+0))) (0*z01+(0*z11+(y8*z21+0))) (0*z02+(0*z12+(y8*z22+0)))=y0*y4*y8*sd3 z00 z01 z02 z10 z11 z12 z20 z21 z22:=by simp only[sd3]<;>grind
theorem DD3F:DetF 3 3 1 DD3:=by
 refine ⟨fun m i_ k_ a_ b_ hl hw hi hk hn => ?_,fun m i_ k_ r_ t_ p_ f_ l_ hl hw hi hk hn h0 => ?_,fun m i_ r_ s_ hl hw hi => ?_,fun m hl hw ht => ?_⟩
 ·obtain ⟨y0,y1,y2,y3,y4,y5,y6,y7,y8,rfl⟩:=mat3 hl hw
  rcases at3 hi with ⟨rfl,rfl⟩|⟨rfl,rfl⟩|⟨rfl,rfl⟩<;>rcases at3 hk with ⟨rfl,rfl⟩|⟨rfl,rfl⟩|⟨rfl,rfl⟩
  ·exact absurd rfl hn
  ·exact sd3_sw01 _ _ _ _ _ _ _ _ _
  ·exact sd3_sw02 _ _ _ _ _ _ _ _ _
  ·exact sd3_sw01 _ _ _ _ _ _ _ _ _
  ·exact absurd rfl hn
  ·exact sd3_sw12 _ _ _ _ _ _ _ _ _
  ·exact sd3_sw02 _ _ _ _ _ _ _ _ _
  ·exact sd3_sw12 _ _ _ _ _ _ _ _ _
  ·exact absurd rfl hn
 ·obtain ⟨y0,y1,y2,y3,y4,y5,y6,y7,y8,rfl⟩:=mat3 hl hw
  rcases at3 hi with ⟨rfl,rfl⟩|⟨rfl,rfl⟩|⟨rfl,rfl⟩<;>rcases at3 hk with ⟨rfl,rfl⟩|⟨rfl,rfl⟩|⟨rfl,rfl⟩
  ·exact absurd rfl hn
  ·exact sd3_ad01 _ _ _ _ _ _ _ _ _ _ _ _
  ·exact sd3_ad02 _ _ _ _ _ _ _ _ _ _ _ _
  ·exact sd3_ad10 _ _ _ _ _ _ _ _ _ _ _ _
  ·exact absurd rfl hn
  ·exact sd3_ad12 _ _ _ _ _ _ _ _ _ _ _ _
  ·exact sd3_ad20 _ _ _ _ _ _ _ _ _ _ _ _
  ·exact sd3_ad21 _ _ _ _ _ _ _ _ _ _ _ _
  ·exact absurd rfl hn
 ·obtain ⟨y0,y1,y2,y3,y4,y5,y6,y7,y8,rfl⟩:=mat3 hl hw
  rcases at3 hi with ⟨rfl,rfl⟩|⟨rfl,rfl⟩|⟨rfl,rfl⟩
  ·exact sd3_sc0 _ _ _ _ _ _ _ _ _ _
  ·exact sd3_sc1 _ _ _ _ _ _ _ _ _ _
  ·exact sd3_sc2 _ _ _ _ _ _ _ _ _ _
 ·obtain ⟨y0,y1,y2,y3,y4,y5,y6,y7,y8,rfl⟩:=mat3 hl hw
  obtain rfl:y3=0:=(ht 1 (by omega)).2 0 (by omega)
  obtain rfl:y6=0:=(ht 2 (by omega)).2 0 (by omega)
  obtain rfl:y7=0:=(ht 2 (by omega)).2 1 (by omega)
  refine (sd3_tr _ _ _ _ _ _).trans ?_
  show y0*y4*y8=(y0*(y4*(y8*1)))*1
  grind
theorem DD3M (B:List (List Rat)) (hB:Sq 3 B):DetF 3 3 (DD3 B) fun A=>DD3 (mulQ A B 3):=by
 refine DD3F.mulR B fun m hl hw ht => ?_
 obtain ⟨y0,y1,y2,y3,y4,y5,y6,y7,y8,rfl⟩:=mat3 hl hw
 obtain ⟨z00,z01,z02,z10,z11,z12,z20,z21,z22,rfl⟩:=mat3 hB.l hB.r
 obtain rfl:y3=0:=(ht 1 (by omega)).2 0 (by omega)
 obtain rfl:y6=0:=(ht 2 (by omega)).2 0 (by omega)
 obtain rfl:y7=0:=(ht 2 (by omega)).2 1 (by omega)
 refine (sd3_m _ _ _ _ _ _ _ _ _ _ _ _ _ _ _).trans ?_
 show _=(y0*(y4*(y8*1)))*_
 rw[DD3_eq]
 grind
theorem DD3T (A:List (List Rat)) (hA:Sq 3 A):DD3 (trW A 3)=DD3 A:=by
 obtain ⟨y0,y1,y2,y3,y4,y5,y6,y7,y8,rfl⟩:=mat3 hA.l hA.r
 exact sd3_t _ _ _ _ _ _ _ _ _
def sd4 (y0 y1 y2 y3 y4 y5 y6 y7 y8 y9 y10 y11 y12 y13 y14 y15:Rat):Rat:=(y0*y5-y4*y1)*(y10*y15-y14*y11)-(y0*y6-y4*y2)*(y9*y15-y13*y11)+(y0*y7-y4*y3)*(y9*y14-y13*y10)+(y1*y6-y5*y2)*(y8*y15-y12*y11)-(y1*y7-y5*y3)*(y8*y14-y12*y10)+(y2*y7-y6*y3)*(y8*y13-y12*y9)
def DD4 (m:List (List Rat)):Rat:=sd4 (atQ m 0 0) (atQ m 0 1) (atQ m 0 2) (atQ m 0 3) (atQ m 1 0) (atQ m 1 1) (atQ m 1 2) (atQ m 1 3) (atQ m 2 0) (atQ m 2 1) (atQ m 2 2) (atQ m 2 3) (atQ m 3 0) (atQ m 3 1) (atQ m 3 2) (atQ m 3 3)
theorem DD4_eq (y0 y1 y2 y3 y4 y5 y6 y7 y8 y9 y10 y11 y12 y13 y14 y15:Rat):DD4 [[y0,y1,y2,y3],[y4,y5,y6,y7],[y8,y9,y10,y11],[y12,y13,y14,y15]]=sd4 y0 y1 y2 y3 y4 y5 y6 y7 y8 y9 y10 y11 y12 y13 y14 y15:=rfl
theorem of4 {α:Type} {l:List α} (h:l.length=4) : ∃ x0 x1 x2 x3,l=[x0,x1,x2,x3]:=by
 match l,h with
 | [x0,x1,x2,x3],_=>exact ⟨x0,x1,x2,x3,rfl⟩
theorem mat4 {m:List (List Rat)} (h:m.length=4) (hw : ∀ r∈m,r.length=4) : ∃ y0 y1 y2 y3 y4 y5 y6 y7 y8 y9 y10 y11 y12 y13 y14 y15,m=[[y0,y1,y2,y3],[y4,y5,y6,y7],[y8,y9,y10,y11],[y12,y13,y14,y15]]:=by
 obtain ⟨r0,r1,r2,r3,rfl⟩:=of4 h
 obtain ⟨y0,y1,y2,y3,rfl⟩:=of4 (hw r0 (by simp))
 obtain ⟨y4,y5,y6,y7,rfl⟩:=of4 (hw r1 (by simp))
 obtain ⟨y8,y9,y10,y11,rfl⟩:=of4 (hw r2 (by simp))
 obtain ⟨y12,y13,y14,y15,rfl⟩:=of4 (hw r3 (by simp))
 exact ⟨y0,y1,y2,y3,y4,y5,y6,y7,y8,y9,y10,y11,y12,y13,y14,y15,rfl⟩
theorem at4 {α:Type} {x0 x1 x2 x3 x:α} {i:Nat} (h:[x0,x1,x2,x3][i]? = some x):(i=0∧x=x0)∨(i=1∧x=x1)∨(i=2∧x=x2)∨(i=3∧x=x3):=by
 match i,h with
 | 0,h=>exact Or.inl ⟨rfl,(Option.some.inj h).symm⟩
 | 1,h=>exact Or.inr (Or.inl ⟨rfl,(Option.some.inj h).symm⟩)
 | 2,h=>exact Or.inr (Or.inr (Or.inl ⟨rfl,(Option.some.inj h).symm⟩))
 | 3,h=>exact Or.inr (Or.inr (Or.inr (⟨rfl,(Option.some.inj h).symm⟩)))
 | i+4,h=>simp at h
theorem sd4_sw01 (y0 y1 y2 y3 y4 y5 y6 y7 y8 y9 y10 y11 y12 y13 y14 y15:Rat):sd4 y4 y5 y6 y7 y0 y1 y2 y3 y8 y9 y10 y11 y12 y13 y14 y15 = -sd4 y0 y1 y2 y3 y4 y5 y6 y7 y8 y9 y10 y11 y12 y13 y14 y15:=by simp only[sd4]<;>grind
theorem sd4_sw02 (y0 y1 y2 y3 y4 y5 y6 y7 y8 y9 y10 y11 y12 y13 y14 y15:Rat):sd4 y8 y9 y10 y11 y4 y5 y6 y7 y0 y1 y2 y3 y12 y13 y14 y15 = -sd4 y0 y1 y2 y3 y4 y5 y6 y7 y8 y9 y10 y11 y12 y13 y14 y15:=by simp only[sd4]<;>grind
theorem sd4_sw03 (y0 y1 y2 y3 y4 y5 y6 y7 y8 y9 y10 y11 y12 y13 y14 y15:Rat):sd4 y12 y13 y14 y15 y4 y5 y6 y7 y8 y9 y10 y11 y0 y1 y2 y3 = -sd4 y0 y1 y2 y3 y4 y5 y6 y7 y8 y9 y10 y11 y12 y13 y14 y15:=by simp only[sd4]<;>grind
theorem sd4_sw12 (y0 y1 y2 y3 y4 y5 y6 y7 y8 y9 y10 y11 y12 y13 y14 y15:Rat):sd4 y0 y1 y2 y3 y8 y9 y10 y11 y4 y5 y6 y7 y12 y13 y14 y15 = -sd4 y0 y1 y2 y3 y4 y5 y6 y7 y8 y9 y10 y11 y12 y13 y14 y15:=by simp only[sd4]<;>grind
theorem sd4_sw13 (y0 y1 y2 y3 y4 y5 y6 y7 y8 y9 y10 y11 y12 y13 y14 y15:Rat):sd4 y0 y1 y2 y3 y12 y13 y14 y15 y8 y9 y10 y11 y4 y5 y6 y7 = -sd4 y0 y1 y2 y3 y4 y5 y6 y7 y8 y9 y10 y11 y12 y13 y14 y15:=by simp only[sd4]<;>grind
theorem sd4_sw23 (y0 y1 y2 y3 y4 y5 y6 y7 y8 y9 y10 y11 y12 y13 y14 y15:Rat):sd4 y0 y1 y2 y3 y4 y5 y6 y7 y12 y13 y14 y15 y8 y9 y10 y11 = -sd4 y0 y1 y2 y3 y4 y5 y6 y7 y8 y9 y10 y11 y12 y13 y14 y15:=by simp only[sd4]<;>grind
theorem sd4_ad01 (y0 y1 y2 y3 y4 y5 y6 y7 y8 y9 y10 y11 y12 y13 y14 y15 P F Q:Rat):sd4 ((y0*P-y4*F)/Q) ((y1*P-y5*F)/Q) ((y2*P-y6*F)/Q) ((y3*P-y7*F)/Q) y4 y5 y6 y7 y8 y9 y10 y11 y12 y13 y14 y15=sd4 y0 y1 y2 y3 y4 y5 y6 y7 y8 y9 y10 y11 y12 y13 y14 y15*(P/Q):=by simp only[sd4,Rat.div_def]<;>grind
theorem sd4_ad02 (y0 y1 y2 y3 y4 y5 y6 y7 y8 y9 y10 y11 y12 y13 y14 y15 P F Q:Rat):sd4 ((y0*P-y8*F)/Q) ((y1*P-y9*F)/Q) ((y2*P-y10*F)/Q) ((y3*P-y11*F)/Q) y4 y5 y6 y7 y8 y9 y10 y11 y12 y13 y14 y15=sd4 y0 y1 y2 y3 y4 y5 y6 y7 y8 y9 y10 y11 y12 y13 y14 y15*(P/Q):=by simp only[sd4,Rat.div_def]<;>grind
theorem sd4_ad03 (y0 y1 y2 y3 y4 y5 y6 y7 y8 y9 y10 y11 y12 y13 y14 y15 P F Q:Rat):sd4 ((y0*P-y12*F)/Q) ((y1*P-y13*F)/Q) ((y2*P-y14*F)/Q) ((y3*P-y15*F)/Q) y4 y5 y6 y7 y8 y9 y10 y11 y12 y13 y14 y15=sd4 y0 y1 y2 y3 y4 y5 y6 y7 y8 y9 y10 y11 y12 y13 y14 y15*(P/Q):=by simp only[sd4,Rat.div_def]<;>grind
theorem sd4_sc0 (y0 y1 y2 y3 y4 y5 y6 y7 y8 y9 y10 y11 y12 y13 y14 y15 S:Rat):sd4 (y0*S) (y1*S) (y2*S) (y3*S) y4 y5 y6 y7 y8 y9 y10 y11 y12 y13 y14 y15=sd4 y0 y1 y2 y3 y4 y5 y6 y7 y8 y9 y10 y11 y12 y13 y14 y15*S:=by simp only[sd4]<;>grind
theorem sd4_ad10 (y0 y1 y2 y3 y4 y5 y6 y7 y8 y9 y10 y11 y12 y13 y14 y15 P F Q:Rat):sd4 y0 y1 y2 y3 ((y4*P-y0*F)/Q) ((y5*P-y1*F)/Q) ((y6*P-y2*F)/Q) ((y7*P-y3*F)/Q) y8 y9 y10 y11 y12 y13 y14 y15=sd4 y0 y1 y2 y3 y4 y5 y6 y7 y8 y9 y10 y11 y12 y13 y14 y15*(P/Q):=by simp only[sd4,Rat.div_def]<;>grind
theorem sd4_ad12 (y0 y1 y2 y3 y4 y5 y6 y7 y8 y9 y10 y11 y12 y13 y14 y15 P F Q:Rat):sd4 y0 y1 y2 y3 ((y4*P-y8*F)/Q) ((y5*P-y9*F)/Q) ((y6*P-y10*F)/Q) ((y7*P-y11*F)/Q) y8 y9 y10 y11 y12 y13 y14 y15=sd4 y0 y1 y2 y3 y4 y5 y6 y7 y8 y9 y10 y11 y12 y13 y14 y15*(P/Q):=by simp only[sd4,Rat.div_def]<;>grind
theorem sd4_ad13 (y0 y1 y2 y3 y4 y5 y6 y7 y8 y9 y10 y11 y12 y13 y14 y15 P F Q:Rat):sd4 y0 y1 y2 y3 ((y4*P-y12*F)/Q) ((y5*P-y13*F)/Q) ((y6*P-y14*F)/Q) ((y7*P-y15*F)/Q) y8 y9 y10 y11 y12 y13 y14 y15=sd4 y0 y1 y2 y3 y4 y5 y6 y7 y8 y9 y10 y11 y12 y13 y14 y15*(P/Q):=by simp only[sd4,Rat.div_def]<;>grind
theorem sd4_sc1 (y0 y1 y2 y3 y4 y5 y6 y7 y8 y9 y10 y11 y12 y13 y14 y15 S:Rat):sd4 y0 y1 y2 y3 (y4*S) (y5*S) (y6*S) (y7*S) y8 y9 y10 y11 y12 y13 y14 y15=sd4 y0 y1 y2 y3 y4 y5 y6 y7 y8 y9 y10 y11 y12 y13 y14 y15*S:=by simp only[sd4]<;>grind
theorem sd4_ad20 (y0 y1 y2 y3 y4 y5 y6 y7 y8 y9 y10 y11 y12 y13 y14 y15 P F Q:Rat):sd4 y0 y1 y2 y3 y4 y5 y6 y7 ((y8*P-y0*F)/Q) ((y9*P-y1*F)/Q) ((y10*P-y2*F)/Q) ((y11*P-y3*F)/Q) y12 y13 y14 y15=sd4 y0 y1 y2 y3 y4 y5 y6 y7 y8 y9 y10 y11 y12 y13 y14 y15*(P/Q):=by simp only[sd4,Rat.div_def]<;>grind
theorem sd4_ad21 (y0 y1 y2 y3 y4 y5 y6 y7 y8 y9 y10 y11 y12 y13 y14 y15 P F Q:Rat):sd4 y0 y1 y2 y3 y4 y5 y6 y7 ((y8*P-y4*F)/Q) ((y9*P-y5*F)/Q) ((y10*P-y6*F)/Q) ((y11*P-y7*F)/Q) y12 y13 y14 y15=sd4 y0 y1 y2 y3 y4 y5 y6 y7 y8 y9 y10 y11 y12 y13 y14 y15*(P/Q):=by simp only[sd4,Rat.div_def]<;>grind
theorem sd4_ad23 (y0 y1 y2 y3 y4 y5 y6 y7 y8 y9 y10 y11 y12 y13 y14 y15 P F Q:Rat):sd4 y0 y1 y2 y3 y4 y5 y6 y7 ((y8*P-y12*F)/Q) ((y9*P-y13*F)/Q) ((y10*P-y14*F)/Q) ((y11*P-y15*F)/Q) y12 y13 y14 y15=sd4 y0 y1 y2 y3 y4 y5 y6 y7 y8 y9 y10 y11 y12 y13 y14 y15*(P/Q):=by simp only[sd4,Rat.div_def]<;>grind
theorem sd4_sc2 (y0 y1 y2 y3 y4 y5 y6 y7 y8 y9 y10 y11 y12 y13 y14 y15 S:Rat):sd4 y0 y1 y2 y3 y4 y5 y6 y7 (y8*S) (y9*S) (y10*S) (y11*S) y12 y13 y14 y15=sd4 y0 y1 y2 y3 y4 y5 y6 y7 y8 y9 y10 y11 y12 y13 y14 y15*S:=by simp only[sd4]<;>grind
theorem sd4_ad30 (y0 y1 y2 y3 y4 y5 y6 y7 y8 y9 y10 y11 y12 y13 y14 y15 P F Q:Rat):sd4 y0 y1 y2 y3 y4 y5 y6 y7 y8 y9 y10 y11 ((y12*P-y0*F)/Q) ((y13*P-y1*F)/Q) ((y14*P-y2*F)/Q) ((y15*P-y3*F)/Q)=sd4 y0 y1 y2 y3 y4 y5 y6 y7 y8 y9 y10 y11 y12 y13 y14 y15*(P/Q):=by simp only[sd4,Rat.div_def]<;>grind
theorem sd4_ad31 (y0 y1 y2 y3 y4 y5 y6 y7 y8 y9 y10 y11 y12 y13 y14 y15 P F Q:Rat):sd4 y0 y1 y2 y3 y4 y5 y6 y7 y8 y9 y10 y11 ((y12*P-y4*F)/Q) ((y13*P-y5*F)/Q) ((y14*P-y6*F)/Q) ((y15*P-y7*F)/Q)=sd4 y0 y1 y2 y3 y4 y5 y6 y7 y8 y9 y10 y11 y12 y13 y14 y15*(P/Q):=by simp only[sd4,Rat.div_def]<;>grind
theorem sd4_ad32 (y0 y1 y2 y3 y4 y5 y6 y7 y8 y9 y10 y11 y12 y13 y14 y15 P F Q:Rat):sd4 y0 y1 y2 y3 y4 y5 y6 y7 y8 y9 y10 y11 ((y12*P-y8*F)/Q) ((y13*P-y9*F)/Q) ((y14*P-y10*F)/Q) ((y15*P-y11*F)/Q)=sd4 y0 y1 y2 y3 y4 y5 y6 y7 y8 y9 y10 y11 y12 y13 y14 y15*(P/Q):=by simp only[sd4,Rat.div_def]<;>grind
theorem sd4_sc3 (y0 y1 y2 y3 y4 y5 y6 y7 y8 y9 y10 y11 y12 y13 y14 y15 S:Rat):sd4 y0 y1 y2 y3 y4 y5 y6 y7 y8 y9 y10 y11 (y12*S) (y13*S) (y14*S) (y15*S)=sd4 y0 y1 y2 y3 y4 y5 y6 y7 y8 y9 y10 y11 y12 y13 y14 y15*S:=by simp only[sd4]<;>grind
theorem sd4_tr (y0 y1 y2 y3 y5 y6 y7 y10 y11 y15:Rat):sd4 y0 y1 y2 y3 0 y5 y6 y7 0 0 y10 y11 0 0 0 y15=y0*y5*y10*y15:=by simp only[sd4]<;>grind
theorem sd4_t (y0 y1 y2 y3 y4 y5 y6 y7 y8 y9 y10 y11 y12 y13 y14 y15:Rat):sd4 y0 y4 y8 y12 y1 y5 y9 y13 y2 y6 y10 y14 y3 y7 y11 y15=sd4 y0 y1 y2 y3 y4 y5 y6 y7 y8 y9 y10 y11 y12 y13 y14 y15:=by simp only[sd4]<;>grind
theorem sd4_m (y0 y1 y2 y3 y5 y6 y7 y10 y11 y15 z00 z01 z02 z03 z10 z11 z12 z13 z20 z21 z22 z23 z30 z31 z32 z33:Rat):sd4 (y0*z00+(y1*z10+(y2*z20+(y3*z30+0)))) (y0*z01+(y1*z11+(y2*z21+(y3*z31+0)))) (y0*z02+(y1*z12+(y2*z22+(y3*z32+0)))) (y0*z03+(y1*z13+(y2*z23+(y3*z33+0)))) (0*z00+(y5*z10+(y6*z20+(y7*z30+0)))) (0*z01+(y5*z11+(y6*z21+(y7*z31+0)))) (0*z02+(y5*z12+(y6*z22+(y7*z32+0)))) (0*z03+(y5*z13+(y6*z23+(y7*z33+0)))) (0*z00+(0*z10+(y10*z20+(y11*z30+0)))) (0*z01+(0*z11+(y10*z21+(y11*z31+0)))) (0*z02+(0*z12+(y10*z22+(y11*z32+0)))) (0*z03+(0*z13+(y10*z23+(y11*z33+0)))) (0*z00+(0*z10+(0*z20+(y15*z30+0)))) (0*z01+(0*z11+(0*z21+(y15*z31+0)))) (0*z02+(0*z12+(0*z22+(y15*z32+0)))) (0*z03+(0*z13+(0*z23+(y15*z33+0))))=y0*y5*y10*y15*sd4 z00 z01 z02 z03 z10 z11 z12 z13 z20 z21 z22 z23 z30 z31 z32 z33:=by simp only[sd4]<;>grind
theorem DD4F:DetF 4 4 1 DD4:=by
 refine ⟨fun m i_ k_ a_ b_ hl hw hi hk hn => ?_,fun m i_ k_ r_ t_ p_ f_ l_ hl hw hi hk hn h0 => ?_,fun m i_ r_ s_ hl hw hi => ?_,fun m hl hw ht => ?_⟩
 ·obtain ⟨y0,y1,y2,y3,y4,y5,y6,y7,y8,y9,y10,y11,y12,y13,y14,y15,rfl⟩:=mat4 hl hw
  rcases at4 hi with ⟨rfl,rfl⟩|⟨rfl,rfl⟩|⟨rfl,rfl⟩|⟨rfl,rfl⟩<;>rcases at4 hk with ⟨rfl,rfl⟩|⟨rfl,rfl⟩|⟨rfl,rfl⟩|⟨rfl,rfl⟩
  ·exact absurd rfl hn
  ·exact sd4_sw01 _ _ _ _ _ _ _ _ _ _ _ _ _ _ _ _
  ·exact sd4_sw02 _ _ _ _ _ _ _ _ _ _ _ _ _ _ _ _
  ·exact sd4_sw03 _ _ _ _ _ _ _ _ _ _ _ _ _ _ _ _
  ·exact sd4_sw01 _ _ _ _ _ _ _ _ _ _ _ _ _ _ _ _
  ·exact absurd rfl hn
  ·exact sd4_sw12 _ _ _ _ _ _ _ _ _ _ _ _ _ _ _ _
  ·exact sd4_sw13 _ _ _ _ _ _ _ _ _ _ _ _ _ _ _ _
  ·exact sd4_sw02 _ _ _ _ _ _ _ _ _ _ _ _ _ _ _ _
  ·exact sd4_sw12 _ _ _ _ _ _ _ _ _ _ _ _ _ _ _ _
  ·exact absurd rfl hn
  ·exact sd4_sw23 _ _ _ _ _ _ _ _ _ _ _ _ _ _ _ _
  ·exact sd4_sw03 _ _ _ _ _ _ _ _ _ _ _ _ _ _ _ _
  ·exact sd4_sw13 _ _ _ _ _ _ _ _ _ _ _ _ _ _ _ _
  ·exact sd4_sw23 _ _ _ _ _ _ _ _ _ _ _ _ _ _ _ _
  ·exact absurd rfl hn
 ·obtain ⟨y0,y1,y2,y3,y4,y5,y6,y7,y8,y9,y10,y11,y12,y13,y14,y15,rfl⟩:=mat4 hl hw
  rcases at4 hi with ⟨rfl,rfl⟩|⟨rfl,rfl⟩|⟨rfl,rfl⟩|⟨rfl,rfl⟩<;>rcases at4 hk with ⟨rfl,rfl⟩|⟨rfl,rfl⟩|⟨rfl,rfl⟩|⟨rfl,rfl⟩
  ·exact absurd rfl hn
  ·exact sd4_ad01 _ _ _ _ _ _ _ _ _ _ _ _ _ _ _ _ _ _ _
  ·exact sd4_ad02 _ _ _ _ _ _ _ _ _ _ _ _ _ _ _ _ _ _ _
  ·exact sd4_ad03 _ _ _ _ _ _ _ _ _ _ _ _ _ _ _ _ _ _ _
  ·exact sd4_ad10 _ _ _ _ _ _ _ _ _ _ _ _ _ _ _ _ _ _ _
  ·exact absurd rfl hn
  ·exact sd4_ad12 _ _ _ _ _ _ _ _ _ _ _ _ _ _ _ _ _ _ _
  ·exact sd4_ad13 _ _ _ _ _ _ _ _ _ _ _ _ _ _ _ _ _ _ _
  ·exact sd4_ad20 _ _ _ _ _ _ _ _ _ _ _ _ _ _ _ _ _ _ _
  ·exact sd4_ad21 _ _ _ _ _ _ _ _ _ _ _ _ _ _ _ _ _ _ _
  ·exact absurd rfl hn
  ·exact sd4_ad23 _ _ _ _ _ _ _ _ _ _ _ _ _ _ _ _ _ _ _
  ·exact sd4_ad30 _ _ _ _ _ _ _ _ _ _ _ _ _ _ _ _ _ _ _
  ·exact sd4_ad31 _ _ _ _ _ _ _ _ _ _ _ _ _ _ _ _ _ _ _
  ·exact sd4_ad32 _ _ _ _ _ _ _ _ _ _ _ _ _ _ _ _ _ _ _
  ·exact absurd rfl hn
 ·obtain ⟨y0,y1,y2,y3,y4,y5,y6,y7,y8,y9,y10,y11,y12,y13,y14,y15,rfl⟩:=mat4 hl hw
  rcases at4 hi with ⟨rfl,rfl⟩|⟨rfl,rfl⟩|⟨rfl,rfl⟩|⟨rfl,rfl⟩
  ·exact sd4_sc0 _ _ _ _ _ _ _ _ _ _ _ _ _ _ _ _ _
  ·exact sd4_sc1 _ _ _ _ _ _ _ _ _ _ _ _ _ _ _ _ _
  ·exact sd4_sc2 _ _ _ _ _ _ _ _ _ _ _ _ _ _ _ _ _
  ·exact sd4_sc3 _ _ _ _ _ _ _ _ _ _ _ _ _ _ _ _ _
 ·obtain ⟨y0,y1,y2,y3,y4,y5,y6,y7,y8,y9,y10,y11,y12,y13,y14,y15,rfl⟩:=mat4 hl hw
  obtain rfl:y4=0:=(ht 1 (by omega)).2 0 (by omega)
  obtain rfl:y8=0:=(ht 2 (by omega)).2 0 (by omega)
  obtain rfl:y9=0:=(ht 2 (by omega)).2 1 (by omega)
  obtain rfl:y12=0:=(ht 3 (by omega)).2 0 (by omega)
  obtain rfl:y13=0:=(ht 3 (by omega)).2 1 (by omega)
  obtain rfl:y14=0:=(ht 3 (by omega)).2 2 (by omega)
  refine (sd4_tr _ _ _ _ _ _ _ _ _ _).trans ?_
  show y0*y5*y10*y15=(y0*(y5*(y10*(y15*1))))*1
  grind
theorem DD4M (B:List (List Rat)) (hB:Sq 4 B):DetF 4 4 (DD4 B) fun A=>DD4 (mulQ A B 4):=by
 refine DD4F.mulR B fun m hl hw ht => ?_
 obtain ⟨y0,y1,y2,y3,y4,y5,y6,y7,y8,y9,y10,y11,y12,y13,y14,y15,rfl⟩:=mat4 hl hw
 obtain ⟨z00,z01,z02,z03,z10,z11,z12,z13,z20,z21,z22,z23,z30,z31,z32,z33,rfl⟩:=mat4 hB.l hB.r
 obtain rfl:y4=0:=(ht 1 (by omega)).2 0 (by omega)
 obtain rfl:y8=0:=(ht 2 (by omega)).2 0 (by omega)
 obtain rfl:y9=0:=(ht 2 (by omega)).2 1 (by omega)
 obtain rfl:y12=0:=(ht 3 (by omega)).2 0 (by omega)
 obtain rfl:y13=0:=(ht 3 (by omega)).2 1 (by omega)
 obtain rfl:y14=0:=(ht 3 (by omega)).2 2 (by omega)
 refine (sd4_m _ _ _ _ _ _ _ _ _ _ _ _ _ _ _ _ _ _ _ _ _ _ _ _ _ _).trans ?_
 show _=(y0*(y5*(y10*(y15*1))))*_
 rw[DD4_eq]
 grind
theorem DD4T (A:List (List Rat)) (hA:Sq 4 A):DD4 (trW A 4)=DD4 A:=by
 obtain ⟨y0,y1,y2,y3,y4,y5,y6,y7,y8,y9,y10,y11,y12,y13,y14,y15,rfl⟩:=mat4 hA.l hA.r
 exact sd4_t _ _ _ _ _ _ _ _ _ _ _ _ _ _ _ _
theorem det_ex {n:Nat} (h:1≤n∧n≤4) : ∃ D:List (List Rat)→Rat,DetF n n 1 D∧(∀ B,Sq n B→DetF n n (D B) fun A=>D (mulQ A B n)) ∧ ∀ A,Sq n A→D (trW A n)=D A:=by
 have:n=1∨n=2∨n=3∨n=4:=by omega
 rcases this with rfl|rfl|rfl|rfl
 ·exact ⟨DD1,DD1F,DD1M,DD1T⟩
 ·exact ⟨DD2,DD2F,DD2M,DD2T⟩
 ·exact ⟨DD3,DD3F,DD3M,DD3T⟩
 ·exact ⟨DD4,DD4F,DD4M,DD4T⟩
end Go.Eng

namespace Go.Eng
open F
attribute [local irreducible] AKM CmpP Req OpP UnP ConvP RdP LdR StR MkR LenP AppR AppN CpyR RowP SnR Bds SlS CallP CalP FinP pw LdM GetM SetM PutM MkM AppM SnM FlP CallR
set_option maxHeartbeats 16000000
variable {L:Lib}
theorem LdM.got9 {R:List (Option (Nat × List (List AV)))} {e:Nat} {r:Option (Nat × List (List AV))} {K:Option (Nat × List (List AV))→Prop} (h:R[e]? = some r) (hk:K r):LdM R e K:=by
 unfold LdM
 exact ⟨r,h,hk⟩
theorem mz_none {T:List (List Rat)} {n i:Nat} (hl:T.length=n) (hi:i<n):(mz T n i)[i]? = some none:=by
 have hl2:(mxR 3 eQ (T.take i)).length=i:=by simp only[mxR,List.length_map,List.length_take];omega
 have:=fz_at (z:=(none:Option (Nat × List (List AV)))) (l:=mxR 3 eQ (T.take i)) (m:=n) (by omega)
 rw[hl2]at this
 exact this
theorem ev_ltransposed (N:MatHLib L) (q q':Bool) (a:List (List Rat)) (n w k:Nat) (hal:a.length=n) (har : ∀ r∈a,r.length=w) (hn:1≤n∧n≤52) (hw:1≤w∧w≤52) (hab:Ms k a) (hk:k<2199023255552):Ev L 246 [.sl q (eMq q' a)] (.sl false (eM (trW a w))):=by
 have hat : ∀ i,i<w→(trW a w)[i]? = some (colQ a i):=fun i h=>trW_at h
 have htl:=trW_len a w
 have hcol : ∀ i,(colQ a i).length=n:=fun i=>by simp [colQ,hal]
 have hx : ∀ i j,i<w→j<n → ∃ r x,a[j]? = some r∧r[i]? = some x∧(colQ a i)[j]? = some x∧r.length=w∧Bt k x:=fun i j h1 h2=>by
  obtain ⟨r,hr⟩ : ∃ r,a[j]? = some r:=⟨_,List.getElem?_eq_getElem (by omega)⟩
  have hrl:=har r (List.mem_of_getElem? hr)
  obtain ⟨x,hx⟩ : ∃ x,r[i]? = some x:=⟨_,List.getElem?_eq_getElem (by omega)⟩
  exact ⟨r,x,hr,hx,by rw[colQ,List.getElem?_map,hr,Option.map_some,List.getD_eq_getElem?_getD,hx];rfl,hrl,(hab.at hr).at hx⟩
 obtain ⟨r0,hr0⟩ : ∃ r,a[0]? = some r:=⟨_,List.getElem?_eq_getElem (by omega)⟩
 have hr0':a[(0:Int).toNat]? = some r0:=hr0
 have hl0:=har r0 (List.mem_of_getElem? hr0)
 generalize hT:trW a w=T at *
 refine Ev.x N.linear_transposed rfl rfl ?_
 (repeat' (first|(refine LenP.go ?_;conv=>whnf)|(refine RdP.at (by assumption) ?_ rfl ?_;omega;conv=>whnf)|(refine AKM.x ?_;conv=>whnf)))
 unfold MkM
 refine ⟨⟨by omega,by omega,by simp only[roomMax];omega,by omega⟩,?_⟩
 rw[Int.toNat_natCast,hl0]
 (conv=>whnf)
 skip
 refine AKM.loop1 (fun i=>w-i) (fun (i:Nat)=>i≤w) (fun i=>[(13,.int .i64 i)]) (fun i=>[(10,10,.mx (mz T w i))]) [] [] 0 (by first|exact (by (conv=>whnf);exact ⟨rfl,rfl,rfl⟩)|(rw[←mz_zero T];exact (by (conv=>whnf);exact ⟨rfl,rfl,rfl⟩))) (by omega) ?_
 intro i p1 ih
 have hzl:=mz_len (Q:=T) p1
 by_cases hi:i<w
 ·have hst:=mz_set (hat i hi) hi
  have hci:=hcol i
  have hnone:=mz_none htl hi
  obtain ⟨r,x,e1,e2,e3,hrl,hxb⟩:=hx i 0 hi (by omega)
  have e1':a[(0:Int).toNat]? = some r:=e1
  have e2':r[(i:Int).toNat]? = some x:=e2
  have hTr:=ev_trimQ N.toRatGLib hxb hk
  have hc1:(colQ a i).take 1=[x]:=by rw[List.take_add_one,e3];rfl
  generalize mz T w i=R0 at *
  (repeat' (first|(refine CmpP.go (fun hc => ?_) (fun hc => ?_)<;>first|(exfalso;omega)|(conv=>whnf))|(refine LenP.go ?_;conv=>whnf)|(refine AKM.x ?_;conv=>whnf)))
  refine AKM.lp ?_
  (repeat' (first|(refine CmpP.go (fun hc => ?_) (fun hc => ?_)<;>first|(exfalso;omega)|(conv=>whnf))|(refine Req.go ?_ ?_;omega;conv=>whnf)|(refine AKM.x ?_;conv=>whnf)))
  refine LdM.got9 (r:=none) (by rw[Nat.zero_add,Int.toNat_natCast];exact hnone) ?_
  (conv=>whnf)
  (repeat' (first|(refine RdP.at (by assumption) ?_ rfl ?_;omega;conv=>whnf)|(refine RowP.e1 ?_;conv=>whnf)|(refine CallP.go (hTr) ?_;conv=>whnf)))
  refine AppN.one (enc:=eQ) x rfl rfl (by omega) ?_
  (conv=>whnf)
  (repeat' (first|(refine Req.go ?_ ?_;omega;conv=>whnf)|fail))
  refine Req.go rfl ?_
  refine SetM.fz (i:=i) (by omega) (by omega) ?_
  (conv=>whnf)
  (repeat' (refine OpP.add ?_ ?_;omega;conv=>whnf))
  refine AKM.loop1 (fun j=>n-j) (fun (j:Nat)=>1≤j∧j≤n) (fun j=>[(18,.int .i64 j)]) (fun j=>[(10,10,.mx (R0.set i (some (3,((colQ a i).take j).map eQ))))]) [] [] 1 (by first|exact (by (conv=>whnf);exact ⟨rfl,rfl,rfl⟩)|(rw[hc1];exact (by (conv=>whnf);exact ⟨rfl,rfl,rfl⟩))) (by omega) ?_
  intro j ⟨r1,r2⟩ jh
  have htj:((colQ a i).take j).length=j:=by rw[List.length_take];omega
  by_cases hj:j<n
  ·obtain ⟨r,x,e1,e2,e3,hrl,hxb⟩:=hx i j hi hj
   have e1':a[(j:Int).toNat]? = some r:=e1
   have e2':r[(i:Int).toNat]? = some x:=e2
   have hTr:=ev_trimQ N.toRatGLib hxb hk
   have hs:=take_snocA e3
   have htj1:((colQ a i).take (j+1)).length=j+1:=by rw[List.length_take];omega
   generalize (colQ a i).take j=W at *
   (repeat' (first|(refine CmpP.go (fun hc => ?_) (fun hc => ?_)<;>first|(exfalso;omega)|(conv=>whnf))|(refine Req.go ?_ ?_;omega;conv=>whnf)|(refine AKM.x ?_;conv=>whnf)))
   refine LdM.st (by omega) (by omega) ?_
   (conv=>whnf)
   (repeat' (first|(refine RdP.at (by assumption) ?_ rfl ?_;omega;conv=>whnf)|(refine RowP.e1 ?_;conv=>whnf)|(refine CallP.go (hTr) ?_;conv=>whnf)))
   refine GetM.st (by omega) (by omega) ?_
   (conv=>whnf)
   refine AppR.one (enc:=eQ) x rfl (by rw[List.length_map]) rfl (by omega) (by omega) ?_
   intro s' v
   rw[←hs,htj1]
   (conv=>whnf)
   (repeat' (first|(refine Req.go ?_ ?_;omega;conv=>whnf)|fail))
   refine Req.go ⟨rfl,by rw[List.length_map];omega⟩ ?_
   refine SetM.fz (i:=i) (by omega) (by rw[List.length_set,List.length_set];omega) ?_
   rw[show 0+((i:Int)).toNat=i by omega,List.set_set,List.set_set]
   (conv=>whnf)
   (repeat' (refine OpP.add ?_ ?_;omega;conv=>whnf))
   exact AKM.back [] (by (conv=>whnf);exact ⟨rfl,rfl,rfl⟩) (jh (j+1) (by omega) (by omega))
  have ej:j=n:=by omega
  clear jh
  rw[ej,List.take_of_length_le (by omega),hst]
  (repeat' (first|(refine CmpP.go (fun hc => ?_) (fun hc => ?_)<;>first|(exfalso;omega)|(conv=>whnf))|(refine OpP.add ?_ ?_;omega;conv=>whnf)|(refine AKM.x ?_;conv=>whnf)))
  exact AKM.back [] (by (conv=>whnf);exact ⟨rfl,rfl,rfl⟩) (ih (i+1) (by omega) (by omega))
 have ei:i=w:=by omega
 clear ih
 rw[ei,mz_full (by omega)]
 (repeat' (first|(refine CmpP.go (fun hc => ?_) (fun hc => ?_)<;>first|(exfalso;omega)|(conv=>whnf))|(refine AKM.x ?_;conv=>whnf)))
 refine SnM.all (fun _=>rfl) rfl (by omega) ?_
 (conv=>whnf)
 exact FinP.go rfl (cl_mat T)
theorem ev_Transpose (N:MatHLib L) (q q':Bool) (a:List (List Rat)) (n w k:Nat) (hal:a.length=n) (har : ∀ r∈a,r.length=w) (hn:1≤n∧n≤52) (hw:1≤w∧w≤52) (hab:Ms k a) (hk:k<2199023255552):Ev L 247 [.sl q (eMq q' a)] (.tup [.sl false (eM (trW a w)),.int .i64 0]):=by
 have hV:=ev_lValid N.toMatGLib q q' a n w hal har hn hw
 have hT:=ev_ltransposed N q q' a n w k hal har hn hw hab hk
 refine Ev.x N.linear_Transpose rfl rfl ?_
 (repeat' (first|(refine AKM.x ?_;conv=>whnf)|(refine CallP.go (hV) ?_;conv=>whnf)|(refine CallP.go (hT) ?_;conv=>whnf)))
 exact FinP.go rfl (cl_matT (trW a w) 0)
end Go.Eng
