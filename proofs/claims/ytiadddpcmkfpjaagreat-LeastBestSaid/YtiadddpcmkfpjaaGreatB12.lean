/-
  Back substitution (layer 9).
-/
import Derived.Test.YtiadddpcmkfpjaaGreatB11
import Derived.Test.YtiadddpcmkfpjaaGreatB10
import Derived.Test.YtiadddpcmkfpjaaGreatB4
import Derived.Test.YtiadddpcmkfpjaaGreatB1
set_option linter.unusedSimpArgs false
set_option linter.unusedVariables false
set_option linter.unnecessarySimpa false
namespace Go.Eng
open F
attribute [local irreducible] AKM CmpP Req OpP UnP ConvP RdP LdR StR MkR LenP AppR AppN CpyR RowP SnR Bds SlS CallP CalP FinP pw LdM GetM SetM PutM MkM AppM SnM FlP CallR
set_option maxHeartbeats 16000000
variable {L:Lib}
def cw (n:Nat) (v:List Rat):List (Option Rat):=List.replicate (n-v.length) none++v.map some
theorem cw_len {n:Nat} {v:List Rat} (h:v.length≤n):(cw n v).length=n:=by simp [cw];omega
theorem cw_nil (n:Nat):cw n []=List.replicate n none:=by simp [cw]
theorem cw_at {n s:Nat} {v:List Rat} {x:Rat} (h:v[s]? = some x):(cw n v)[n-v.length+s]? = some (some x):=by
 rw[cw,List.getElem?_append_right (by simp),List.length_replicate,Nat.add_sub_cancel_left,List.getElem?_map,h];rfl
theorem cw_set {n:Nat} {v:List Rat} {x:Rat} (h:v.length<n):(cw n v).set (n-(v.length+1)) (some x)=cw n (x::v):=by
 obtain ⟨k,hk⟩ : ∃ k,n-v.length=k+1:=⟨n-v.length-1,by omega⟩
 have e:n-(v.length+1)=k:=by omega
 simp only[cw,hk,List.length_cons,e]
 rw[List.replicate_succ',List.append_assoc,List.set_append_right _ _ (by simp),List.length_replicate,Nat.sub_self]
 rfl
theorem cw_full {n:Nat} {v:List Rat} (h:v.length=n):(cw n v).map eO=v.map eQ:=by
 simp [cw,h,Function.comp_def]
theorem getD_someH {l:List Rat} {i:Nat} (h:i<l.length):l[i]? = some (l.getD i 0):=by
 rw[List.getD_eq_getElem?_getD,zE h];rfl
theorem ev_column (N:MatGLib L) (q q':Bool) (m:List (List Rat)) (n W c S:Nat) (l:Rat) (hm:m.length=n) (hW : ∀ r∈m,r.length=W) (hn:1≤n∧n≤1000) (hnW:n≤W) (hc:c<W) (hW2:W≤100000)
  (hd : ∀ (k:Nat) (r:List Rat),m[k]? = some r→r.getD k 0≠0) (hms:Ms S m) (hl:Bt S l) (hB:clB S n n<2199023255552):Ev L 234 [.sl q (eMq q' m),.int .i64 c,.agg (eQ l)] (.sl false ((bsQ c l m 0).map eQ)):=by
 have hS:S<2199023255552:=by
  have:=clB_le S n (show 1≤n by omega)
  rw[clB]at this
  omega
 refine Ev.x N.linear_column rfl rfl ?_
 (repeat' (first|(refine LenP.go ?_;conv=>whnf)|(refine AKM.x ?_;conv=>whnf)))
 refine MkR.go (enc:=eO) none n rfl (by omega) (by omega) ?_
 (conv=>whnf)
 (repeat' (first|(refine OpP.sub ?_ ?_;omega;conv=>whnf)|(refine LenP.go ?_;conv=>whnf)))
 rw[hm]
 refine AKM.loop1 (fun k=>k) (fun (k:Nat)=>k≤n) (fun k=>[(8,.int .i64 ((k:Int)-1))]) (fun k=>[(13,13,.rw 3 ((cw n (bsQ c l (m.drop k) k)).map eO))]) [] [] n (by first|exact (by (conv=>whnf);exact ⟨rfl,rfl,rfl⟩)|(rw[List.drop_of_length_le (by omega),bsQ,cw_nil];exact (by (conv=>whnf);exact ⟨rfl,rfl,rfl⟩))) (by omega) ?_
 intro k p1 kh
 rcases k with _|k
 ·clear kh
  rw[List.drop_zero,cw_full (by rw[bsQ_len];exact hm)]
  (repeat' (first|(refine CmpP.go (fun hc => ?_) (fun hc => ?_)<;>first|(exfalso;omega)|(conv=>whnf))|(refine AKM.x ?_;conv=>whnf)))
  refine SnR.all (enc:=eQ) (fun _=>rfl) rfl (by rw[bsQ_len];omega) ?_
  (conv=>whnf)
  exact FinP.go rfl (by simp only[Clean,true_and];exact cl_eQs _)
 ·obtain ⟨r,hr⟩ : ∃ r,m[k]? = some r:=⟨_,zE (by omega)⟩
  have hr':m[(k:Int).toNat]? = some r:=hr
  have hrl:=hW r (zM hr)
  have e1:((k+1:Nat):Int)-1=k:=by omega
  have hv:bsQ c l (m.drop k) k=(r.getD c 0*l-dotQ (r.drop (k+1)) (bsQ c l (m.drop (k+1)) (k+1)))/r.getD k 0::bsQ c l (m.drop (k+1)) (k+1):=by
   obtain ⟨h1,h2⟩:=zS hr
   rw[List.drop_eq_getElem_cons h1,bsQ,h2]
  have hvl:(bsQ c l (m.drop (k+1)) (k+1)).length=n-(k+1):=by rw[bsQ_len,List.length_drop,hm]
  have hvb:Bs (clB S n (n-(k+1))) (bsQ c l (m.drop (k+1)) (k+1)):=by
   have:=bsQ_bs (c:=c) (n:=n) hl (m.drop (k+1)) (k+1) (by rw[List.length_drop];omega) (fun r hr=>hms r (List.mem_of_mem_drop hr))
   rwa [List.length_drop,hm]at this
  have hB2:clB S n (n-(k+1)+1)≤clB S n n:=clB_le S n (by omega)
  rw[clB]at hB2
  have hrb:=hms.at hr
  have hrc:r[(c:Int).toNat]? = some (r.getD c 0):=getD_someH (by omega)
  have hrk:r[(k:Int).toNat]? = some (r.getD k 0):=getD_someH (by omega)
  have hrk0:=hd k r hr
  have bc:=hrb.at hrc
  have bk:=hrb.at hrk
  have hM:=ev_mulQ N.toRatGLib bc hl hS hS
  generalize hrcv:r.getD c 0=rc at *
  generalize hrkv:r.getD k 0=rk at *
  generalize bsQ c l (m.drop (k+1)) (k+1)=v at *
  generalize clB S n (n-(k+1))=X at *
  rw[e1]
  (repeat' (first|(refine CmpP.go (fun hc => ?_) (fun hc => ?_)<;>first|(exfalso;omega)|(conv=>whnf))|(refine OpP.add ?_ ?_;omega;conv=>whnf)|(refine RdP.at (by assumption) ?_ rfl ?_;omega;conv=>whnf)|(refine AKM.x ?_;conv=>whnf)|(refine CallP.go (hM) ?_;conv=>whnf)))
  refine AKM.loop2 (fun s _=>n-s) (fun (s:Nat) (acc:Rat)=>k+1+s≤n∧acc=rc*l-dotQ ((r.drop (k+1)).take s) (v.take s)) (fun s _=>[(10,.int .i64 ((k+1+s:Nat):Int))]) (fun _ acc=>[(9,9,.bx (eQ acc))]) [] [] 0 (rc*l) (by (conv=>whnf);exact ⟨rfl,rfl,rfl⟩) ⟨by omega,by simp only[List.take_zero,dotQ];grind⟩ ?_
  intro s acc ⟨p2,p3⟩ sh
  have hab:Bt (2*S+(n-(k+1))*(S+X+1)+1) acc:=by
   rw[p3]
   have h1:=dot_bt (k:=S) (l:=X) (a:=(r.drop (k+1)).take s) (b:=v.take s) (n:=n-(k+1)) (fun x hx=>hrb x (List.mem_of_mem_drop (List.mem_of_mem_take hx))) (hvb.take s) (by rw[List.length_take];omega)
   exact ((bc.mul hl).subL h1).le (by omega)
  have hmul:=Nat.mul_le_mul_right (S+X+1) (show n-(k+1)+1≤n by omega)
  rw[Nat.add_mul,Nat.one_mul]at hmul
  have hX:X<2199023255552:=by
   have:=Nat.le_mul_of_pos_left (S+X+1) (show 0<n by omega)
   omega
  by_cases hs:k+1+s<n
  ·obtain ⟨x,hx⟩ : ∃ x,v[s]? = some x:=⟨_,zE (by omega)⟩
   obtain ⟨y,hy⟩ : ∃ y,r[k+1+s]? = some y:=⟨_,zE (by omega)⟩
   have hy':r[((k+1+s:Nat):Int).toNat]? = some y:=hy
   have hyd:(r.drop (k+1))[s]? = some y:=by rw[List.getElem?_drop];exact hy
   have hca:=cw_at (n:=n) hx
   rw[hvl,show n-(n-(k+1))+s=k+1+s by omega]at hca
   have hcl:=cw_len (n:=n) (v:=v) (by omega)
   have by':=hrb.at hy
   have bx:=hvb.at hx
   have hM2:=ev_mulQ N.toRatGLib by' bx hS hX
   have hSu:=ev_subQ N.toRatHLib hab (by'.mul bx) (by omega) (by
    have:=Nat.le_mul_of_pos_left (S+X+1) (show 0<n-(k+1) by omega)
    omega)
   have hdt:=dotQ_take hyd hx
   generalize cw n v=C at *
   (repeat' (first|(refine CmpP.go (fun hc => ?_) (fun hc => ?_)<;>first|(exfalso;omega)|(conv=>whnf))|(refine Req.go ?_ ?_;omega;conv=>whnf)|(refine LenP.go ?_;conv=>whnf)|(refine RdP.at (by assumption) ?_ rfl ?_;omega;conv=>whnf)|(refine AKM.x ?_;conv=>whnf)))
   refine LdR.at (enc:=eO) (e:=some x) (by rw[Nat.zero_add];exact hca) rfl ?_
   (conv=>whnf)
   (repeat' (first|(refine OpP.add ?_ ?_;omega;conv=>whnf)|(refine CallP.go (hM2) ?_;conv=>whnf)|(refine CallP.go (hSu) ?_;conv=>whnf)))
   refine AKM.back [] (by (conv=>whnf);exact ⟨rfl,rfl,rfl⟩) (sh (s+1) (acc-y*x) (by omega) ⟨by omega,?_⟩)
   rw[hdt,p3];grind
  ·obtain rfl:s=n-(k+1):=by omega
   clear sh
   have hdt:acc=rc*l-dotQ (r.drop (k+1)) v:=by
    rw[p3,dotQ_comm,dotQ_all hvl,dotQ_comm]
   have hD:=ev_divQ N.toRatGLib hab bk (by omega) hS hrk0
   have hcs:=cw_set (n:=n) (v:=v) (x:=acc/rk) (by omega)
   rw[hvl,show n-(n-(k+1)+1)=k by omega]at hcs
   have hcl:=cw_len (n:=n) (v:=v) (by omega)
   rw[←hdt]at hv
   rw[←hv]at hcs
   generalize cw n v=C at *
   (repeat' (first|(refine CmpP.go (fun hc => ?_) (fun hc => ?_)<;>first|(exfalso;omega)|(conv=>whnf))|(refine Req.go ?_ ?_;omega;conv=>whnf)|(refine LenP.go ?_;conv=>whnf)|(refine RdP.at (by assumption) ?_ rfl ?_;omega;conv=>whnf)|(refine AKM.x ?_;conv=>whnf)|(refine CallP.go (hD) ?_;conv=>whnf)))
   refine StR.nat (enc:=eO) (some (acc/rk)) rfl (fun e=>by cases e<;>rfl) (by omega) ?_
   (conv=>whnf)
   rw[hcs]
   (repeat' (refine OpP.sub ?_ ?_;omega;conv=>whnf))
   exact AKM.back [] (by (conv=>whnf);exact ⟨rfl,rfl,rfl⟩) (kh k (by omega) (by omega))
end Go.Eng
namespace Go.Eng
variable {L:Lib}
def noRet:ACode→Bool
 | .ret=>false
 | .dr c _ _=>noRet c
 | .scope c=>noRet c
 | .seq a b=>noRet a&&noRet b
 | .cond _ a b=>noRet a&&noRet b
 | .block _ c=>noRet c
 | .loop c=>noRet c
 | _=>true
def noRetI:It→Bool
 | .code c=>noRet c
 | .lp c=>noRet c
 | _=>true
theorem exitA_app {id:Nat} {kk:List It} : ∀ {l l':List It},exitA id l=some l'→exitA id (l++kk)=some (l'++kk)
 | [],_,h=>by cases h
 | .blk i::l,l',h=>by
  simp only[List.cons_append,exitA]at h ⊢
  split at h
  ·rename_i e;rw[if_pos e];cases h;rfl
  ·rename_i e;rw[if_neg e];exact exitA_app h
 | .code c::l,l',h=>by
  simp only[List.cons_append,exitA]at h ⊢
  exact exitA_app h
 | .drp a b::l,l',h=>by
  simp only[List.cons_append,exitA]at h ⊢
  exact exitA_app h
 | .lp c::l,l',h=>by
  simp only[List.cons_append,exitA]at h ⊢
  exact exitA_app h
theorem exitA_all {id:Nat} {p:It→Bool} : ∀ {l l':List It},exitA id l=some l'→l.all p=true→l'.all p=true
 | [],_,h,_=>by cases h
 | .blk i::l,l',h,ha=>by
  simp only[exitA]at h
  simp only[List.all_cons,Bool.and_eq_true]at ha
  split at h
  ·cases h;exact ha.2
  ·exact exitA_all h ha.2
 | .code c::l,l',h,ha=>by
  simp only[exitA]at h
  simp only[List.all_cons,Bool.and_eq_true]at ha
  exact exitA_all h ha.2
 | .drp a b::l,l',h,ha=>by
  simp only[exitA]at h
  simp only[List.all_cons,Bool.and_eq_true]at ha
  exact exitA_all h ha.2
 | .lp c::l,l',h,ha=>by
  simp only[exitA]at h
  simp only[List.all_cons,Bool.and_eq_true]at ha
  exact exitA_all h ha.2
theorem run_app {C:Cl} {kk:List It} {m:Nat} {st1 st2:St} (hk:run C m kk st1=some st2) : ∀ (n:Nat) (l:List It) (st:St),l.all noRetI=true→run C n l st=some st1→run C (n+m) (l++kk) st=some st2
 | 0,_,_,_,h=>by cases h
 | n+1,[],st,_,h=>by
  simp only[run,Option.some.injEq]at h
  subst h
  exact run_mono (C:=C) (C':=C) ⟨fun _ _ _ h=>h,fun _ _ _ _ h=>h,rfl⟩ (by omega) hk
 | n+1,.blk i::l,st,ha,h=>by
  simp only[List.all_cons,Bool.and_eq_true]at ha
  rw[show n+1+m=n+m+1 by omega]
  simp only[List.cons_append,run]at h ⊢
  exact run_app hk n l st ha.2 h
 | n+1,.drp ts ss::l,st,ha,h=>by
  simp only[List.all_cons,Bool.and_eq_true]at ha
  rw[show n+1+m=n+m+1 by omega]
  simp only[List.cons_append,run]at h ⊢
  exact run_app hk n l _ ha.2 h
 | n+1,.lp c::l,st,ha,h=>by
  rw[show n+1+m=n+m+1 by omega]
  simp only[List.cons_append,run]at h ⊢
  exact run_app hk n (.code c :: .lp c::l) st (by simp only[List.all_cons,noRetI,Bool.and_eq_true]at ha ⊢;exact ⟨ha.1,ha.1,ha.2⟩) h
 | n+1,.code c::l,st,ha,h=>by
  simp only[List.all_cons,noRetI,Bool.and_eq_true]at ha
  obtain ⟨h1,h2⟩:=ha
  rw[show n+1+m=n+m+1 by omega]
  cases c with
  | ret=>cases h1
  | skip =>
   simp only[List.cons_append,run]at h ⊢
   exact run_app hk n l st h2 h
  | ops o d =>
   simp only[List.cons_append,run]at h ⊢
   cases hs:stepL C o st with
   | none=>rw[hs]at h;cases h
   | some s'=>rw[hs]at h;exact run_app hk n l s' h2 h
  | dr c ts ss =>
   simp only[List.cons_append,run]at h ⊢
   exact run_app hk n (.code c :: .drp ts ss::l) st (by simp only[List.all_cons,noRetI,Bool.and_eq_true];exact ⟨h1,trivial,h2⟩) h
  | scope c =>
   simp only[List.cons_append,run]at h ⊢
   exact run_app hk n (.code c::l) st (by simp only[List.all_cons,noRetI,Bool.and_eq_true];exact ⟨h1,h2⟩) h
  | seq a b =>
   simp only[noRet,Bool.and_eq_true]at h1
   simp only[List.cons_append,run]at h ⊢
   exact run_app hk n (.code a :: .code b::l) st (by simp only[List.all_cons,noRetI,Bool.and_eq_true];exact ⟨h1.1,h1.2,h2⟩) h
  | cond x a b =>
   simp only[noRet,Bool.and_eq_true]at h1
   simp only[List.cons_append,run]at h ⊢
   split at h
   ·exact run_app hk n (.code a::l) st (by simp only[List.all_cons,noRetI,Bool.and_eq_true];exact ⟨h1.1,h2⟩) h
   ·exact run_app hk n (.code b::l) st (by simp only[List.all_cons,noRetI,Bool.and_eq_true];exact ⟨h1.2,h2⟩) h
   ·cases h
  | block i c =>
   simp only[List.cons_append,run]at h ⊢
   exact run_app hk n (.code c :: .blk i::l) st (by simp only[List.all_cons,noRetI,Bool.and_eq_true];exact ⟨h1,trivial,h2⟩) h
  | loop c =>
   simp only[List.cons_append,run]at h ⊢
   exact run_app hk n (.code c :: .lp c::l) st (by simp only[List.all_cons,noRetI,Bool.and_eq_true];exact ⟨h1,h1,h2⟩) h
  | exit i =>
   simp only[List.cons_append,run]at h ⊢
   cases he:exitA i l with
   | none=>rw[he]at h;cases h
   | some l' =>
    rw[he]at h
    rw[exitA_app he]
    exact run_app hk n l' st (exitA_all he h2) h
theorem AKM.cut {l kk:List It} {tm:Tm} {M:Mem} {Q:Tm→Mem→Prop} (hn:l.all noRetI=true) (h:AKM L l tm M (fun tm M=>AKM L kk tm M Q)):AKM L (l++kk) tm M Q:=by
 intro σ st hr
 obtain ⟨n,c,st1,h1,σ1,tm1,M1,hr1,h2⟩:=h σ st hr
 obtain ⟨m,c2,st2,h3,h4⟩:=h2 σ1 st1 hr1
 obtain ⟨c3,g1,g2⟩ : ∃ c3,(clAt L c).le (clAt L c3)∧(clAt L c2).le (clAt L c3):=⟨max c c2,cl_le (Nat.le_max_left _ _),cl_le (Nat.le_max_right _ _)⟩
 exact ⟨n+m,c3,st2,run_app (run_mono g2 (Nat.le_refl _) h3) n l st hn (run_mono g1 (Nat.le_refl _) h1),h4⟩
structure Held (p:Prop):Prop where
 go ::
 out:p
theorem AKM.meet3 {α β γ:Type} {l kk:List It} {tm:Tm} {M:Mem} {Q:Tm→Mem→Prop} (P:α→β→γ→Prop) (vs:α→β→γ→Tm) (Ms:α→β→γ→Mem) (ts:List Nat) (hn:l.all noRetI=true)
  (hr : ∀ a b c,P a b c→AKM L kk (vs a b c++tdel ts tm) (Ms a b c++M) Q)
  (h:(∀ a b c,P a b c→AKM L kk (vs a b c++tdel ts tm) (Ms a b c++M) Q)→AKM L l tm M (fun tm M=>Held (AKM L kk tm M Q))):AKM L (l++kk) tm M Q:=by
 refine AKM.cut hn ?_
 intro σ st hs
 obtain ⟨n,c,st1,h1,σ1,tm1,M1,hr1,h2⟩:=h hr σ st hs
 exact ⟨n,c,st1,h1,σ1,tm1,M1,hr1,h2.out⟩
end Go.Eng

namespace Go.Eng
open F
attribute [local irreducible] AKM CmpP Req OpP UnP ConvP RdP LdR StR MkR LenP AppR AppN CpyR RowP SnR Bds SlS CallP CalP FinP pw LdM GetM SetM PutM MkM AppM SnM FlP CallR
set_option maxHeartbeats 16000000
variable {L:Lib}
theorem dg_oneH:dg 1=[1]:=by rw[dg_pos (by decide)];simp [dg_zero]
theorem ev_mulDen (N:RatGLib L) {s:Rat} {a l d:Nat} (q:Bool) (hs:Bt a s) (hd:d≤2^l) (ha:a<2199023255552) (hl:l<2199023255552):Ev L 99 [.agg (eQ s),.agg [.bool false,.sl false ((dg d).map e32),.sl q [[.int .u32 1]]]] (.agg (eQ (s*((d:Nat):Rat)))):=by
 have hd2:Bt l ((d:Nat):Rat):=⟨by simpa using hd,by simpa using Nat.one_le_two_pow⟩
 have e:=qv_of ((d:Nat):Rat)
 have h1:=(hd2.sm hl).1
 have h2:=(hd2.sm hl).2
 rw[Rat.num_natCast,Rat.den_natCast,Int.natAbs_natCast,show decide ((d:Int)<0)=false by simp,dg_oneH]at e
 rw[Rat.num_natCast,Int.natAbs_natCast]at h1
 rw[Rat.den_natCast,dg_oneH]at h2
 have h:=ev_rational_Mul N 68719476736 (by omega) (decide (s.num<0)) false false false false q _ _ (dg d) [1] (hs.sm ha).1 (hs.sm ha).2 h1 h2
 rw[qv_of,e]at h
 exact h
theorem vw_lt {N i k:Nat} (hk:k<N) : ∀ t,t∈(List.range N).set i k→t<N:=fun t ht=>by
 rcases List.mem_or_eq_of_mem_set ht with h|h
 ·exact List.mem_range.1 h
 ·omega
theorem mxR_at {z:Nat} {m:List (List Rat)} {i:Nat} {r:List Rat} (h:m[i]? = some r):(mxR z eQ m)[i]? = some (some (z,r.map eQ)):=by
 rw[mxR,List.getElem?_map,h];rfl
theorem mxR_swap {z:Nat} {m:List (List Rat)} {i j:Nat} {a b:List Rat}:((mxR z eQ m).set i (some (z,b.map eQ))).set j (some (z,a.map eQ))=mxR z eQ ((m.set i b).set j a):=by
 simp only[mxR,List.map_set]
theorem GetM.at' {R:List (Option (Nat × List (List AV)))} {e z:Nat} {es:List (List AV)} {K:Nat→List (List AV)→Prop} (h:R[e]? = some (some (z,es))) (hk:K z es):GetM R e K:=by
 unfold GetM
 exact ⟨z,es,h,hk⟩
theorem set_same {α:Type} {l:List α} {i:Nat} {x:α} (h:l[i]? = some x):l.set i x=l:=by
 obtain ⟨h1,rfl⟩:=zS h
 exact List.set_getElem_self h1
theorem mix_start {a b:List Rat} {c:Nat} (hl:a.length=b.length) (h : ∀ j,j<c→a.getD j 0=0∧b.getD j 0=0):a.take c++b.drop c=b:=by
 have e:a.take c=b.take c:=by
  refine List.ext_getElem? fun j => ?_
  rw[List.getElem?_take,List.getElem?_take]
  by_cases hj:j<c
  ·rw[if_pos hj,if_pos hj]
   obtain ⟨h1,h2⟩:=h j hj
   rw[List.getD_eq_getElem?_getD]at h1 h2
   by_cases hl2:j<a.length
   ·rw[zE hl2,zE (by omega)]at *
    simp only[Option.getD_some]at h1 h2
    rw[h1,h2]
   ·rw[List.getElem?_eq_none (by omega),List.getElem?_eq_none (by omega)]
  ·rw[if_neg hj,if_neg hj]
 rw[e,List.take_append_drop]
theorem mix_at {a b:List Rat} {j:Nat} {x:Rat} (hl:a.length=b.length) (hx:b[j]? = some x):(a.take j++b.drop j)[j]? = some x:=by
 have h1:=(zS hx).1
 have ht:(a.take j).length=j:=by rw[List.length_take];omega
 rw[List.getElem?_append_right (by omega),ht,Nat.sub_self,List.getElem?_drop]
 exact hx
theorem mix_set {a b:List Rat} {j:Nat} {y:Rat} (hl:a.length=b.length) (hy:a[j]? = some y):(a.take j++b.drop j).set j y=a.take (j+1)++b.drop (j+1):=by
 have h1:=(zS hy).1
 have ht:(a.take j).length=j:=by rw[List.length_take];omega
 rw[List.set_append_right _ _ (by omega),ht,Nat.sub_self,List.drop_eq_getElem_cons (by omega),List.set_cons_zero,take_snoc' hy,List.append_assoc]
 rfl
theorem elm_rank {m0 m a b:List (List Rat)} {K n w c:Nat} {P:List Nat} {odd:Bool} {l:Rat} (hE:Elm m0 K (n+w) n m P c odd l) (hs:Scl m0 (join2 a b)) (hl:a.length=b.length) (ha : ∀ r∈a,r.length=n) (hal:a.length=n) (hend:n≤c∨n≤P.length):P.length=n↔NS n a:=by
 have hech:Ech m (n+w) n P:=by
  have hc:=hE.cc
  rcases hend with h|h
  ·obtain rfl:c=n:=by omega
   exact hE.ech
  ·have h1:=hE.ech.pl
   have h2:=hE.len
   have h3:=hs.1
   simp only[join2,List.length_zipWith]at h3
   exact hE.ech.wide (by omega) hc
 exact rank_ns hech (fun X=>(hE.ker X).trans (hs.ker X)) hl ha
end Go.Eng

namespace Go.Eng
open F
attribute [local irreducible] AKM CmpP Req OpP UnP ConvP RdP LdR StR MkR LenP AppR AppN CpyR RowP SnR Bds SlS CallP CalP FinP pw LdM GetM SetM PutM MkM AppM SnM FlP CallR
set_option maxHeartbeats 16000000
variable {L:Lib}
theorem qv_abs (x:Rat):qv false (dg x.num.natAbs) (dg x.den)=absQ x:=by
 unfold absQ
 split
 ·rename_i h
  have:=qv_of (-x)
  rw[Rat.neg_num,Int.natAbs_neg,Rat.neg_den,show decide (-x.num<0)=false from decide_eq_false (by omega)]at this
  exact this
 ·rename_i h
  have:=qv_of x
  rw[show decide (x.num<0)=false from decide_eq_false h]at this
  exact this
theorem ev_Abs (N:PolELib L) {x:Rat} {k:Nat} (hx:Bt k x) (hk:k<2199023255552):Ev L 256 [.agg (eQ x)] (.agg (eQ (absQ x))):=by
 have hs:=hx.sm hk
 have hT:=ev_rational_Trim N.toRatGLib false false false (dg x.num.natAbs) (dg x.den) (hs.1.le (by omega)) (hs.2.le (by omega))
 rw[qv_abs]at hT
 refine Ev.x N.rational_Abs rfl rfl ?_
 (repeat' (first|(refine AKM.x ?_;conv=>whnf)|(refine CallP.go (hT) ?_;conv=>whnf)))
 exact FinP.go rfl (cl_eQ _)
theorem eQ_int (z:Int):eQ (z:Rat)=[.bool (decide (z<0)),.sl false ((dg z.natAbs).map e32),.sl false [[.int .u32 1]]]:=by
 simp only[eQ,rQ,Rat.num_intCast,Rat.den_intCast,dg_oneH]
 rfl
theorem ev_parts5 (N:PolELib L) {x:Rat} {k:Nat} (hx:Bt k x) (hk:k<2199023255552):Ev L 257 [.agg (eQ x)] (.tup [.agg (eQ ((x.num:Int):Rat)),.agg (eQ (((x.den:Nat):Int):Rat))]):=by
 rw[eQ_int,eQ_int,show decide (((x.den:Nat):Int)<0)=false by simp,Int.natAbs_natCast]
 refine Ev.x N.poly_parts rfl rfl ?_
 (repeat' (first|(refine SnR.e1 rfl ?_;conv=>whnf)|(refine AKM.x ?_;conv=>whnf)))
 exact FinP.go rfl (by
  simp only[Clean,CleanL,CleanLL,and_true,true_and]
  exact ⟨cl_dig _,cl_dig _⟩)
theorem ev_common (N:PolELib L) {a b:Rat} {k l:Nat} (ha:Bt k a) (hb:Bt l b) (hk:k+l<1000000000000):Ev L 258 [.agg (eQ a),.agg (eQ b)] (.agg (eQ (comQ a b))):=by
 have hS:=ev_signQ N.toRatGLib ha (by omega)
 have hs:=sgn_num (x:=a)
 generalize sgn a.num=s at *
 refine Ev.x N.poly_common rfl rfl ?_
 by_cases h0:a=0
 ·have hA:=ev_Abs N hb (by omega)
  have hs0:=hs.2 h0
  unfold comQ
  rw[if_pos h0]
  (repeat' (first|(refine CmpP.go (fun hc => ?_) (fun hc => ?_)<;>first|(exfalso;omega)|(conv=>whnf))|(refine AKM.x ?_;conv=>whnf)|(refine CallP.go (hS) ?_;conv=>whnf)|(refine CallP.go (hA) ?_;conv=>whnf)))
  exact FinP.go rfl (cl_eQ _)
 ·have hs0:s≠0:=fun e=>h0 (hs.1 e)
  unfold comQ
  rw[if_neg h0]
  by_cases hb0:b=0
  ·have hD:=ev_rational_Div0 N.toRatGLib 68719476736 (by omega) (decide (a.num<0)) (decide (b.num<0)) false false false false _ _ _ _ (ha.sm (by omega)).1 (ha.sm (by omega)).2 (hb.sm (by omega)).1 (hb.sm (by omega)).2 (by rw[qv_of];exact hb0)
   rw[if_pos hb0]
   (repeat' (first|(refine CmpP.go (fun hc => ?_) (fun hc => ?_)<;>first|(exfalso;omega)|(conv=>whnf))|(refine AKM.x ?_;conv=>whnf)|(refine CallP.go (hS) ?_;conv=>whnf)|(refine CallP.go (hD) ?_;conv=>whnf)))
   exact FinP.go rfl (cl_eQ _)
  ·have hD:=ev_divQ N.toRatGLib ha hb (by omega) (by omega) hb0
   have hne:=div_neQ h0 hb0
   have hdb:=ha.divL hb
   have hP:=ev_parts5 N hdb (by omega)
   have hn0:=num_ne hne
   have hD2:=ev_divQ N.toRatGLib ha hdb.numL (by omega) (by omega) hn0
   have hA:=ev_Abs N (ha.divL hdb.numL) (by omega)
   rw[if_neg hb0]
   generalize a/b=c at *
   generalize ((c.num:Int):Rat)=nn at *
   generalize (((c.den:Nat):Int):Rat)=dd at *
   generalize a/nn=e at *
   (repeat' (first|(refine CmpP.go (fun hc => ?_) (fun hc => ?_)<;>first|(exfalso;omega)|(conv=>whnf))|(refine AKM.x ?_;conv=>whnf)|(refine CallP.go (hS) ?_;conv=>whnf)|(refine CallP.go (hD) ?_;conv=>whnf)|(refine CallP.go (hP) ?_;conv=>whnf)|(refine CallP.go (hD2) ?_;conv=>whnf)|(refine CallP.go (hA) ?_;conv=>whnf)))
   exact FinP.go rfl (cl_eQ _)
theorem ev_split (N:PolELib L) (q:Bool) (p:List Rat) (k:Nat) (hp:trimQ p=p) (hl:p.length≤12) (hb:Bs k p) (hk:k≤10000000):Ev L 259 [.sl q (p.map eQ)] (.tup [.agg (eQ (meaQ p)),.sl false ((p.map (· / meaQ p)).map eQ)]):=by
 have hO:=ev_rational_Of N.toRatGLib 0 (by omega)
 have hmb : ∀ i,Bt (4096*k) (meaQ (p.take i)):=fun i=>by
  by_cases hi:i≤12
  ·refine (meaQ_bt hb i).le (Nat.mul_le_mul_right k ?_)
   have:2^i≤2^12:=Nat.pow_le_pow_right (by omega) hi
   omega
  ·rw[List.take_of_length_le (by omega)]
   have:=meaQ_bt hb p.length
   rw[List.take_of_length_le (Nat.le_refl _)]at this
   refine this.le (Nat.mul_le_mul_right k ?_)
   have:2^p.length≤2^12:=Nat.pow_le_pow_right (by omega) hl
   omega
 have hmn:=meaQ_trim hp
 have hcut:p.length=0 ∨ ∃ m x,p.length=m+1∧p[m]? = some x∧x≠0:=by
  rcases Nat.eq_zero_or_pos p.length with h|h
  ·exact Or.inl h
  ·have h1:=trimQ_last hp (by omega)
   obtain ⟨m,hm⟩ : ∃ m,p.length=m+1:=⟨p.length-1,by omega⟩
   obtain ⟨x,hx⟩ : ∃ x,p[m]? = some x:=⟨_,zE (by omega)⟩
   rw[hm,Nat.add_sub_cancel,List.getD_eq_getElem?_getD,hx]at h1
   exact Or.inr ⟨m,x,hm,hx,h1⟩
 have hml:(p.map (· / meaQ p)).length=p.length:=List.length_map ..
 have hmat : ∀ (i:Nat) (x:Rat),p[i]? = some x→(p.map (· / meaQ p))[i]? = some (x/meaQ p):=fun i x hx=>by rw[List.getElem?_map,hx];rfl
 have hmp : ∀ (x:Rat),x∈p→meaQ p≠0:=fun x hx=>by
  rcases hmn with h|h
  ·rw[h]at hx;cases hx
  ·exact h
 have hMb:=hmb p.length
 rw[List.take_length]at hMb
 refine Ev.x N.poly_split rfl rfl ?_
 (repeat' (refine AKM.x ?_;conv=>whnf))
 refine CalP.walk 1000 N.poly_cut rfl rfl ?_
 (repeat' (first|(refine LenP.go ?_;conv=>whnf)|(refine AKM.x ?_;conv=>whnf)))
 refine AKM.lp ?_
 rcases hcut with h0|⟨m,z,hm,hz,hz0⟩
 case' inl =>
  (repeat' (first|(refine CmpP.go (fun hc => ?_) (fun hc => ?_)<;>first|(exfalso;omega)|(conv=>whnf))|(refine AKM.x ?_;conv=>whnf)))
  clear h0 hc
 case' inr =>
  have hz':p[((p.length:Int)-1).toNat]? = some z:=by rw[show ((p.length:Int)-1).toNat=m by omega];exact hz
  have hS:=ev_signQ N.toRatGLib (hb.at hz) (by omega)
  have hs:=sgn_num (x:=z)
  generalize sgn z.num=s at *
  have hs0:s≠0:=fun e=>hz0 (hs.1 e)
  (repeat' (first|(refine CmpP.go (fun hc => ?_) (fun hc => ?_)<;>first|(exfalso;omega)|(conv=>whnf))|(refine OpP.sub ?_ ?_;omega;conv=>whnf)|(refine RdP.at (by assumption) ?_ rfl ?_;omega;conv=>whnf)|(refine AKM.x ?_;conv=>whnf)|(refine CallP.go (hS) ?_;conv=>whnf)))
 all_goals
  refine SlS.to (enc:=eQ) (fun _=>rfl) (Nat.le_refl _) ?_
  rw[List.take_length]
  (conv=>whnf)
  refine ⟨rfl,_,rfl,?_⟩
  (conv=>whnf)
  (repeat' (first|(refine LenP.go ?_;conv=>whnf)|(refine CallP.go (hO) ?_;conv=>whnf)))
  refine AKM.loop1 (fun i=>p.length-i) (fun (i:Nat)=>i≤p.length) (fun i=>[(15,.int .i64 i)]) (fun i=>[(4,4,.bx (eQ (meaQ (p.take i))))]) [] [] 0 (by first|exact (by (conv=>whnf);exact ⟨rfl,rfl,rfl⟩)|(rw[List.take_zero];exact (by (conv=>whnf);exact ⟨rfl,rfl,rfl⟩))) (by omega) ?_
  intro i p1 ih
  by_cases hi:i<p.length
  ·obtain ⟨x,hx⟩ : ∃ x,p[i]? = some x:=⟨_,zE hi⟩
   have hx':p[(i:Int).toNat]? = some x:=hx
   have hC:=ev_common N (hmb i) (hb.at hx) (by omega)
   rw[←meaQ_take hx]at hC
   generalize meaQ (p.take i)=m0 at *
   generalize hm1:meaQ (p.take (i+1))=m1 at hC
   (repeat' (first|(refine CmpP.go (fun hc => ?_) (fun hc => ?_)<;>first|(exfalso;omega)|(conv=>whnf))|(refine OpP.add ?_ ?_;omega;conv=>whnf)|(refine RdP.at (by assumption) ?_ rfl ?_;omega;conv=>whnf)|(refine AKM.x ?_;conv=>whnf)|(refine CallP.go (hC) ?_;conv=>whnf)))
   subst hm1
   exact AKM.back [] (by (conv=>whnf);exact ⟨rfl,rfl,rfl⟩) (ih (i+1) (by omega) (by omega))
  have ei:i=p.length:=by omega
  clear ih
  rw[ei,List.take_length]
  generalize hMM:meaQ p=M at *
  (repeat' (first|(refine CmpP.go (fun hc => ?_) (fun hc => ?_)<;>first|(exfalso;omega)|(conv=>whnf))|(refine LenP.go ?_;conv=>whnf)|(refine AKM.x ?_;conv=>whnf)))
  refine MkR.go (enc:=eO) none p.length rfl rfl (by omega) ?_
  (conv=>whnf)
  (repeat' (refine LenP.go ?_;conv=>whnf))
  refine AKM.loop1 (fun i=>p.length-i) (fun (i:Nat)=>i≤p.length) (fun i=>[(28,.int .i64 i)]) (fun i=>[(25,25,.rw 3 ((fillO ((p.map (· / M)).take i) p.length).map eO))]) [] [] 0 (by first|exact (by (conv=>whnf);exact ⟨rfl,rfl,rfl⟩)|(rw[List.take_zero,←fillO_nil];exact (by (conv=>whnf);exact ⟨rfl,rfl,rfl⟩))) (by omega) ?_
  intro e e1 eh
  have hlf:=fillO_len (l:=(p.map (· / M)).take e) (m:=p.length) (by rw[List.length_take];omega)
  by_cases he2:e<p.length
  ·obtain ⟨x,hx⟩ : ∃ x,p[e]? = some x:=⟨_,zE he2⟩
   have hx':p[(e:Int).toNat]? = some x:=hx
   have hD:=ev_divQ N.toRatGLib (hb.at hx) hMb (by omega) (by omega) (hmp x (zM hx))
   have hst:=fillO_set (l:=(p.map (· / M)).take e) (m:=p.length) (x:=x/M) (by rw[List.length_take];omega)
   rw[List.length_take,Nat.min_eq_left (by omega),←take_snoc' (hmat e x hx)]at hst
   generalize fillO ((p.map (· / M)).take e) p.length=F0 at *
   (repeat' (first|(refine CmpP.go (fun hc => ?_) (fun hc => ?_)<;>first|(exfalso;omega)|(conv=>whnf))|(refine Req.go ?_ ?_;omega;conv=>whnf)|(refine RdP.at (by assumption) ?_ rfl ?_;omega;conv=>whnf)|(refine AKM.x ?_;conv=>whnf)|(refine CallP.go (hD) ?_;conv=>whnf)))
   refine StR.nat (enc:=eO) (some (x/M)) rfl (fun e=>by cases e<;>rfl) (by omega) ?_
   (conv=>whnf)
   rw[hst]
   (repeat' (refine OpP.add ?_ ?_;omega;conv=>whnf))
   exact AKM.back [] (by (conv=>whnf);exact ⟨rfl,rfl,rfl⟩) (eh (e+1) (by omega) (by omega))
  have ee:e=p.length:=by omega
  clear eh
  rw[ee,List.take_of_length_le (by omega),fillO_full hml]
  (repeat' (first|(refine CmpP.go (fun hc => ?_) (fun hc => ?_)<;>first|(exfalso;omega)|(conv=>whnf))|(refine SnR.all (fun _=>rfl) rfl ?_ ?_;(first|rfl|simp);conv=>whnf)|(refine AKM.x ?_;conv=>whnf)))
  exact FinP.go rfl (by
   simp only[Clean,CleanL,and_true,true_and]
   exact ⟨⟨cl_dig _,cl_dig _⟩,cl_eQs _⟩)
theorem ev_pEval (N:PolELib L) (q:Bool) (p:List Rat) (x:Rat) (k j:Nat) (hp:trimQ p=p) (hl:p.length≤12) (hb:Bs k p) (hx:Bt j x) (hk:k≤10000000) (hj:j≤10000000):Ev L 260 [.sl q (p.map eQ),.agg (eQ x)] (.agg (eQ (evQ p x))):=by
 have hSp:=ev_split N q p k hp hl hb hk
 have hTr:=ev_trimQ N.toRatGLib hx (by omega)
 have hPa:=ev_parts5 N hx (by omega)
 have hO:=ev_rational_Of N.toRatGLib 0 (by omega)
 have hI:=ev_rational_Of N.toRatGLib 1 (by omega)
 have hev:=mea_ev hp x
 have hMb:=meaQ_bt hb p.length
 rw[List.take_length]at hMb
 have hMb2:Bt (4096*k) (meaQ p):=hMb.le (Nat.mul_le_mul_right k (by
  have:2^p.length≤2^12:=Nat.pow_le_pow_right (by omega) hl
  omega))
 have hwb:Bs (4097*k) (p.map (· / meaQ p)):=fun y hy=>by
  obtain ⟨z,hz,rfl⟩:=List.mem_map.1 hy
  exact ((hb z hz).divL hMb2).le (by omega)
 have hwl:(p.map (· / meaQ p)).length=p.length:=List.length_map ..
 have hdn:((((x.den:Nat):Int):Rat))≠0:=fun e=>by
  have:((((x.den:Nat):Int):Rat))=((0:Int):Rat):=e
  have:=Rat.intCast_inj.1 this
  have:=x.den_pos
  omega
 have hnum:((x.num:Int):Rat)=x*(((x.den:Nat):Int):Rat):=by rw[Rat.intCast_natCast];exact (mul_denQ x).symm
 have hnb:=hx.numL
 have hdb:=hx.denL
 generalize p.map (· / meaQ p)=w at *
 generalize meaQ p=M at *
 generalize ((x.num:Int):Rat)=nn at *
 generalize (((x.den:Nat):Int):Rat)=dd at *
 rw[←hev]
 generalize hn:w.length=n at *
 refine Ev.x N.poly_Eval rfl rfl ?_
 (repeat' (first|(refine LenP.go ?_;conv=>whnf)|(refine AKM.x ?_;conv=>whnf)|(refine CallP.go (hSp) ?_;conv=>whnf)|(refine CallP.go (hTr) ?_;conv=>whnf)|(refine CallP.go (hPa) ?_;conv=>whnf)|(refine CallP.go (hO) ?_;conv=>whnf)|(refine CallP.go (hI) ?_;conv=>whnf)))
 refine AKM.loop3 (fun i _ _=>n-i) (fun (i:Nat) (s pw:Rat)=>i≤n∧pw≠0∧s=pw*evQ (w.drop (n-i)) x∧Bt (i*j) pw∧Bt (i*(13*j+4097*k+1)) s) (fun i _ _=>[(31,.int .i64 i)]) (fun _ s pw=>[(9,9,.bx (eQ s)),(10,10,.bx (eQ pw))]) [] [] 0 ((0:Int):Rat) ((1:Int):Rat) (by (conv=>whnf);exact ⟨rfl,rfl,rfl⟩) ⟨by omega,by decide,by rw[Nat.sub_zero,List.drop_of_length_le (by omega)];exact (Rat.mul_zero _).symm,by rw[Nat.zero_mul];exact Bt.one 0,by rw[Nat.zero_mul];exact Bt.zero 0⟩ ?_
 intro i s pw ⟨p1,p2,p3,p4,p5⟩ ih
 by_cases hi:i<n
 ·obtain ⟨c,hc0⟩ : ∃ c,w[n-1-i]? = some c:=⟨_,zE (by omega)⟩
  have hc0':w[((w.length:Int)-1-i).toNat]? = some c:=by rw[show ((w.length:Int)-1-i).toNat=n-1-i by omega];exact hc0
  have hcb:=hwb.at hc0
  have hdr:=evQ_drop x hc0
  rw[show n-1-i+1=n-i by omega,show n-1-i=n-(i+1) by omega]at hdr
  have hij:i*j≤11*j:=Nat.mul_le_mul_right j (by omega)
  obtain ⟨KK,hKK⟩ : ∃ KK,KK=13*j+4097*k+1:=⟨_,rfl⟩
  rw[←hKK]at p5 ih
  have hbig:i*KK≤11*KK:=Nat.mul_le_mul_right _ (by omega)
  by_cases h0:i=0
  ·have hs0:s=0:=by
    rw[p3,h0,Nat.sub_zero,List.drop_of_length_le (by omega)]
    exact Rat.mul_zero _
   have hM1:=ev_mulQ N.toRatGLib p5 hnb (by omega) (by omega)
   have hM2:=ev_mulQ N.toRatGLib hcb p4 (by omega) (by omega)
   have hAd:=ev_addQ N.toRatGLib (p5.mul hnb) (hcb.mul p4) (by omega) (by omega)
   have hnew:s*nn+c*pw=pw*evQ (w.drop (n-(i+1))) x:=by
    rw[hdr,h0,Nat.sub_zero,List.drop_of_length_le (show w.length≤n by omega),hs0,evQ];grind
   have hsz:Bt ((i+1)*KK) (s*nn+c*pw):=((p5.mul hnb).add (hcb.mul p4)).le (by rw[Nat.add_mul,Nat.one_mul];omega)
   generalize s*nn=sn at *
   generalize c*pw=cp at *
   generalize sn+cp=s2 at *
   (repeat' (first|(refine CmpP.go (fun hc => ?_) (fun hc => ?_)<;>first|(exfalso;omega)|(conv=>whnf))|(refine OpP.add ?_ ?_;omega;conv=>whnf)|(refine OpP.sub ?_ ?_;omega;conv=>whnf)|(refine LenP.go ?_;conv=>whnf)|(refine RdP.at (by assumption) ?_ rfl ?_;omega;conv=>whnf)|(refine AKM.x ?_;conv=>whnf)|(refine CallP.go (hM1) ?_;conv=>whnf)|(refine CallP.go (hM2) ?_;conv=>whnf)|(refine CallP.go (hAd) ?_;conv=>whnf)))
   exact AKM.back [] (by (conv=>whnf);exact ⟨rfl,rfl,rfl⟩) (ih (i+1) s2 pw (by omega) ⟨by omega,p2,hnew,p4.le (by rw[Nat.add_mul,Nat.one_mul];omega),hsz⟩)
  ·have hM0:=ev_mulQ N.toRatGLib p4 hdb (by omega) (by omega)
   have hpd:pw*dd≠0:=fun e=>by
    rcases Rat.mul_eq_zero.1 e with e|e
    ·exact p2 e
    ·exact hdn e
   have p6:Bt ((i+1)*j) (pw*dd):=(p4.mul hdb).le (by rw[Nat.add_mul,Nat.one_mul];omega)
   have hij2:(i+1)*j=i*j+j:=by rw[Nat.add_mul,Nat.one_mul]
   have hnew:s*nn+c*(pw*dd)=pw*dd*evQ (w.drop (n-(i+1))) x:=by
    rw[hdr,p3,hnum];grind
   generalize pw*dd=pd at *
   have hM1:=ev_mulQ N.toRatGLib p5 hnb (by omega) (by omega)
   have hM2:=ev_mulQ N.toRatGLib hcb p6 (by omega) (by omega)
   have hAd:=ev_addQ N.toRatGLib (p5.mul hnb) (hcb.mul p6) (by omega) (by omega)
   have hsz:Bt ((i+1)*KK) (s*nn+c*pd):=((p5.mul hnb).add (hcb.mul p6)).le (by rw[Nat.add_mul i 1 KK,Nat.one_mul];omega)
   generalize s*nn=sn at *
   generalize c*pd=cp at *
   generalize sn+cp=s2 at *
   (repeat' (first|(refine CmpP.go (fun hc => ?_) (fun hc => ?_)<;>first|(exfalso;omega)|(conv=>whnf))|(refine OpP.add ?_ ?_;omega;conv=>whnf)|(refine OpP.sub ?_ ?_;omega;conv=>whnf)|(refine LenP.go ?_;conv=>whnf)|(refine RdP.at (by assumption) ?_ rfl ?_;omega;conv=>whnf)|(refine AKM.x ?_;conv=>whnf)|(refine CallP.go (hM0) ?_;conv=>whnf)|(refine CallP.go (hM1) ?_;conv=>whnf)|(refine CallP.go (hM2) ?_;conv=>whnf)|(refine CallP.go (hAd) ?_;conv=>whnf)))
   exact AKM.back [] (by (conv=>whnf);exact ⟨rfl,rfl,rfl⟩) (ih (i+1) s2 pd (by omega) ⟨by omega,hpd,hnew,p6,hsz⟩)
 ·have ei:i=n:=by omega
  clear ih
  have hval:s/pw=evQ w x:=by
   rw[p3,ei,Nat.sub_self,List.drop_zero]
   have:=Rat.mul_inv_cancel pw p2
   rw[Rat.div_def];grind
  have hij:i*j≤12*j:=Nat.mul_le_mul_right j (by omega)
  have hbig:i*(13*j+4097*k+1)≤12*(13*j+4097*k+1):=Nat.mul_le_mul_right _ (by omega)
  have hD:=ev_divQ N.toRatGLib p5 p4 (by omega) (by omega) p2
  have hM:=ev_mulQ N.toRatGLib hMb2 (p5.divL p4) (by omega) (by omega)
  rw[hval]at hD hM
  generalize evQ w x=val at *
  generalize M*val=mv at *
  (repeat' (first|(refine CmpP.go (fun hc => ?_) (fun hc => ?_)<;>first|(exfalso;omega)|(conv=>whnf))|(refine AKM.x ?_;conv=>whnf)|(refine CallP.go (hD) ?_;conv=>whnf)|(refine CallP.go (hM) ?_;conv=>whnf)))
  exact FinP.go rfl (cl_eQ _)
end Go.Eng

namespace Go.Eng
open F
attribute [local irreducible] AKM CmpP Req OpP UnP ConvP RdP LdR StR MkR LenP AppR AppN CpyR RowP SnR Bds SlS CallP CalP FinP pw LdM GetM SetM PutM MkM AppM SnM FlP CallR
set_option maxHeartbeats 16000000
variable {L:Lib}
theorem cl_dt (x:Rat):Clean (.tup [.agg (eQ x),.int .i64 0]):=by
 simp only[Clean,CleanL,and_true,true_and]
 exact ⟨cl_dig _,cl_dig _⟩
end Go.Eng

namespace Go.Eng
open F
attribute [local irreducible] AKM CmpP Req OpP UnP ConvP RdP LdR StR MkR LenP AppR AppN CpyR RowP SnR Bds SlS CallP CalP FinP pw LdM GetM SetM PutM MkM AppM SnM FlP CallR
set_option maxHeartbeats 16000000
variable {L:Lib}
structure GridV (B:Nat) (g:List Pt):Prop where
 len:1≤g.length∧g.length≤12
 lt:(g.map (·.x)).Pairwise (· < ·)
 pos : ∀ p∈g,0<p.w
 bx : ∀ p∈g,Bt B p.x
 by' : ∀ p∈g,Bt B p.y
 bw : ∀ p∈g,Bt B p.w
theorem GridV.at' {B:Nat} {g:List Pt} (h:GridV B g) {i:Nat} {p:Pt} (hp:g[i]? = some p):Bt B p.x∧Bt B p.y∧Bt B p.w∧0<p.w :=
 have hm:=zM hp
 ⟨h.bx p hm,h.by' p hm,h.bw p hm,h.pos p hm⟩
theorem sgnQ_pos {x:Rat} (h:0<x):0<sgn x.num:=by
 have h1:0<x.num:=by
  have h2:=Rat.num_nonneg.2 (Rat.le_of_lt h)
  have h3:x.num≠0:=fun e=>by
   rw[Rat.num_eq_zero.1 e]at h
   exact absurd h (Rat.lt_irrefl)
  omega
 unfold sgn
 split<;>(try split)<;>omega
theorem sgnQ_lt {x y:Rat} (h:x<y):sgn (x-y).num<0:=by
 have h2:(x-y).num<0:=by
  rcases Int.lt_or_le (x-y).num 0 with h1|h1
  ·exact h1
  ·have:=Rat.num_nonneg.1 h1
   grind
 unfold sgn
 split<;>(try split)<;>omega
theorem ev_gValid (N:LsqGLib L) (q:Bool) (g:List Pt) (B:Nat) (hg:GridV B g) (hB:B≤1000000):Ev L 261 [.sl q (g.map eP)] (.bool true):=by
 have hlen:=hg.len
 refine Ev.x N.leastsq_Valid rfl rfl ?_
 (repeat' (first|(refine CmpP.go (fun hc => ?_) (fun hc => ?_)<;>first|(exfalso;omega)|(conv=>whnf))|(refine LenP.go ?_;conv=>whnf)|(refine AKM.x ?_;conv=>whnf)))
 refine AKM.loop1 (fun i=>g.length-i) (fun (i:Nat)=>i≤g.length) (fun i=>[(15,.int .i64 i)]) (fun _=>[]) [] [] 0 (by (conv=>whnf);exact ⟨rfl,rfl,rfl⟩) (by omega) ?_
 intro i p1 ih
 by_cases hi:i<g.length
 ·obtain ⟨p,hp⟩ : ∃ p,g[i]? = some p:=⟨_,zE hi⟩
  have hp':g[(i:Int).toNat]? = some p:=hp
  obtain ⟨b1,b2,b3,b4⟩:=hg.at' hp
  have hS:=ev_signQ N.toRatGLib b3 (by omega)
  have hs:=sgnQ_pos b4
  generalize sgn p.w.num=s at *
  by_cases h0:i=0
  ·(repeat' (first|(refine CmpP.go (fun hc => ?_) (fun hc => ?_)<;>first|(exfalso;omega)|(conv=>whnf))|(refine OpP.add ?_ ?_;omega;conv=>whnf)|(refine RdP.at (by assumption) ?_ rfl ?_;omega;conv=>whnf)|(refine AKM.x ?_;conv=>whnf)|(refine CallP.go (hS) ?_;conv=>whnf)))
   exact AKM.back [] (by (conv=>whnf);exact ⟨rfl,rfl,rfl⟩) (ih (i+1) (by omega) (by omega))
  ·obtain ⟨p0,hp0⟩ : ∃ p,g[i-1]? = some p:=⟨_,zE (by omega)⟩
   have hp0':g[((i:Int)-1).toNat]? = some p0:=by rw[show ((i:Int)-1).toNat=i-1 by omega];exact hp0
   have hlt:p0.x<p.x:=by
    have:=hg.lt
    rw[List.pairwise_map,List.pairwise_iff_getElem]at this
    have h:=this (i-1) i (by omega) (by omega) (by omega)
    rw[zE (by omega)]at hp hp0
    rw[Option.some.inj hp,Option.some.inj hp0]at h
    exact h
   have hC:=ev_cmpQ N.toStGLib (hg.at' hp0).1 b1 (by omega) (by omega)
   have hc:=sgnQ_lt hlt
   generalize sgn (p0.x-p.x).num=c at *
   (repeat' (first|(refine CmpP.go (fun hc => ?_) (fun hc => ?_)<;>first|(exfalso;omega)|(conv=>whnf))|(refine OpP.add ?_ ?_;omega;conv=>whnf)|(refine OpP.sub ?_ ?_;omega;conv=>whnf)|(refine RdP.at (by assumption) ?_ rfl ?_;omega;conv=>whnf)|(refine AKM.x ?_;conv=>whnf)|(refine CallP.go (hS) ?_;conv=>whnf)|(refine CallP.go (hC) ?_;conv=>whnf)))
   exact AKM.back [] (by (conv=>whnf);exact ⟨rfl,rfl,rfl⟩) (ih (i+1) (by omega) (by omega))
 ·have ei:i=g.length:=by omega
  clear ih
  (repeat' (first|(refine CmpP.go (fun hc => ?_) (fun hc => ?_)<;>first|(exfalso;omega)|(conv=>whnf))|(refine AKM.x ?_;conv=>whnf)))
  exact FinP.b rfl
theorem ev_gError (N:LsqGLib L) (q q2:Bool) (g:List Pt) (p:List Rat) (B k:Nat) (hg:GridV B g) (hB:B≤1000000) (hp:trimQ p=p) (hl:p.length≤12) (hb:Bs k p) (hk:k≤10000000):Ev L 262 [.sl q (g.map eP),.sl q2 (p.map eQ)] (.tup [.agg (eQ (errP g p)),.int .i64 0]):=by
 have hlen:=hg.len
 have hV:=ev_gValid N q g B hg hB
 have hO:=ev_rational_Of N.toRatGLib 0 (by omega)
 obtain ⟨E,hE⟩ : ∃ E,E=12*(k+B+1):=⟨_,rfl⟩
 have hev : ∀ x,Bt B x→Bt E (evQ p x):=fun x hx=>(evQ_bt hx hb).le (by rw[hE];exact Nat.mul_le_mul_right _ hl)
 have hsb : ∀ i,Bt (12*(2*E+3*B+3)) (errP (g.take i) p):=fun i=>by
  refine (sumP_bt (k:=2*E+3*B+2) fun r hr => ?_).le (Nat.mul_le_mul_right _ (by rw[List.length_take];omega))
  have hr2:=List.mem_of_mem_take hr
  have hd:=(hev r.x (hg.bx r hr2)).subL (hg.by' r hr2)
  exact ((hg.bw r hr2).mul (hd.mul hd)).le (by omega)
 refine Ev.x N.leastsq_Error rfl rfl ?_
 (repeat' (first|(refine LenP.go ?_;conv=>whnf)|(refine AKM.x ?_;conv=>whnf)|(refine CallP.go (hV) ?_;conv=>whnf)|(refine CallP.go (hO) ?_;conv=>whnf)))
 refine AKM.loop1 (fun i=>g.length-i) (fun (i:Nat)=>i≤g.length) (fun i=>[(17,.int .i64 i)]) (fun i=>[(6,6,.bx (eQ (errP (g.take i) p)))]) [] [] 0 (by first|exact (by (conv=>whnf);exact ⟨rfl,rfl,rfl⟩)|(rw[List.take_zero];exact (by (conv=>whnf);exact ⟨rfl,rfl,rfl⟩))) (by omega) ?_
 intro i p1 ih
 by_cases hi:i<g.length
 ·obtain ⟨r,hr⟩ : ∃ p,g[i]? = some p:=⟨_,zE hi⟩
  have hr':g[(i:Int).toNat]? = some r:=hr
  obtain ⟨b1,b2,b3,b4⟩:=hg.at' hr
  have hPe:=ev_pEval N.toPolELib q2 p r.x k B hp hl hb b1 (by omega) (by omega)
  have hS:=ev_subQ N.toRatHLib (hev r.x b1) b2 (by omega) (by omega)
  have hd:=(hev r.x b1).subL b2
  have hM:=ev_mulQ N.toRatGLib hd hd (by omega) (by omega)
  have hM2:=ev_mulQ N.toRatGLib b3 (hd.mul hd) (by omega) (by omega)
  have hA:=ev_addQ N.toRatGLib (hsb i) (b3.mul (hd.mul hd)) (by omega) (by omega)
  have hnx:errP (g.take i) p+r.w*((evQ p r.x-r.y)*(evQ p r.x-r.y))=errP (g.take (i+1)) p:=by
   rw[take_snocA hr];exact (sumP_snoc r _ _).symm
  rw[hnx]at hA
  generalize evQ p r.x=e at *
  generalize e-r.y=d at *
  generalize d*d=dd at *
  generalize r.w*dd=wd at *
  generalize errP (g.take i) p=s0 at *
  generalize hs1:errP (g.take (i+1)) p=s1 at hA
  (repeat' (first|(refine CmpP.go (fun hc => ?_) (fun hc => ?_)<;>first|(exfalso;omega)|(conv=>whnf))|(refine OpP.add ?_ ?_;omega;conv=>whnf)|(refine RdP.at (by assumption) ?_ rfl ?_;omega;conv=>whnf)|(refine AKM.x ?_;conv=>whnf)|(refine CallP.go (hPe) ?_;conv=>whnf)|(refine CallP.go (hS) ?_;conv=>whnf)|(refine CallP.go (hM) ?_;conv=>whnf)|(refine CallP.go (hM2) ?_;conv=>whnf)|(refine CallP.go (hA) ?_;conv=>whnf)))
  subst hs1
  exact AKM.back [] (by (conv=>whnf);exact ⟨rfl,rfl,rfl⟩) (ih (i+1) (by omega) (by omega))
 ·have ei:i=g.length:=by omega
  clear ih
  rw[ei,List.take_length]
  (repeat' (first|(refine CmpP.go (fun hc => ?_) (fun hc => ?_)<;>first|(exfalso;omega)|(conv=>whnf))|(refine AKM.x ?_;conv=>whnf)))
  exact FinP.go rfl (cl_dt _)
theorem ev_gwhole (N:LsqGLib L) (q:Bool) (l:List Rat) (k K:Nat) (hb:Bs k l) (hK : ∀ i,Bt K (scQ (l.take i))) (hk:k≤10000000) (hK2:K≤10000000) (hl:l.length≤1000):Ev L 263 [.sl q (l.map eQ)] (.tup [.sl false ((l.map (· * scQ l)).map eQ),.agg (eQ (scQ l))]):=by
 have hI:=ev_rational_Of N.toRatGLib 1 (by omega)
 refine Ev.x N.leastsq_whole rfl rfl ?_
 (repeat' (first|(refine LenP.go ?_;conv=>whnf)|(refine AKM.x ?_;conv=>whnf)|(refine CallP.go (hI) ?_;conv=>whnf)))
 refine AKM.loop1 (fun i=>l.length-i) (fun (i:Nat)=>i≤l.length) (fun i=>[(14,.int .i64 i)]) (fun i=>[(4,4,.bx (eQ (scQ (l.take i))))]) [] [] 0 (by first|exact (by (conv=>whnf);exact ⟨rfl,rfl,rfl⟩)|(rw[List.take_zero];exact (by (conv=>whnf);exact ⟨rfl,rfl,rfl⟩))) (by omega) ?_
 intro i p1 ih
 by_cases hi:i<l.length
 ·obtain ⟨x,hx⟩ : ∃ p,l[i]? = some p:=⟨_,zE hi⟩
  have hx':l[(i:Int).toNat]? = some x:=hx
  have bx:=hb.at hx
  have hs:=hK i
  have hM1:=ev_mulQ N.toRatGLib hs bx (by omega) (by omega)
  have hM2:=ev_mulDen N.toRatGLib true hs (hs.mul bx).2 (by omega) (by omega)
  have hnx:scQ (l.take (i+1))=scQ (l.take i)*(((scQ (l.take i)*x).den:Nat):Rat):=by rw[take_snoc' hx,scQ_snoc];rfl
  rw[←hnx]at hM2
  generalize scQ (l.take i)=s0 at *
  generalize hs1:scQ (l.take (i+1))=s1 at hM2
  (repeat' (first|(refine CmpP.go (fun hc => ?_) (fun hc => ?_)<;>first|(exfalso;omega)|(conv=>whnf))|(refine OpP.add ?_ ?_;omega;conv=>whnf)|(refine RdP.at (by assumption) ?_ rfl ?_;omega;conv=>whnf)|(refine SnR.e1 rfl ?_;conv=>whnf)|(refine AKM.x ?_;conv=>whnf)|(refine CallP.go (hM1) ?_;conv=>whnf)|(refine CallP.go (hM2) ?_;conv=>whnf)))
  subst hs1
  exact AKM.back [] (by (conv=>whnf);exact ⟨rfl,rfl,rfl⟩) (ih (i+1) (by omega) (by omega))
 have ei:i=l.length:=by omega
 clear ih
 have hKl:=hK l.length
 rw[List.take_length]at hKl
 rw[ei,List.take_length]
 have hml:(l.map (· * scQ l)).length=l.length:=List.length_map ..
 have hmat : ∀ (i:Nat) (x:Rat),l[i]? = some x→(l.map (· * scQ l))[i]? = some (x*scQ l):=fun i x hx=>by rw[List.getElem?_map,hx];rfl
 generalize scQ l=S at *
 (repeat' (first|(refine CmpP.go (fun hc => ?_) (fun hc => ?_)<;>first|(exfalso;omega)|(conv=>whnf))|(refine LenP.go ?_;conv=>whnf)|(refine AKM.x ?_;conv=>whnf)))
 refine MkR.go (enc:=eO) none l.length rfl rfl (by omega) ?_
 (conv=>whnf)
 (repeat' (refine LenP.go ?_;conv=>whnf))
 refine AKM.loop1 (fun i=>l.length-i) (fun (i:Nat)=>i≤l.length) (fun i=>[(34,.int .i64 i)]) (fun i=>[(31,31,.rw 3 ((fillO ((l.map (· * S)).take i) l.length).map eO))]) [] [] 0 (by first|exact (by (conv=>whnf);exact ⟨rfl,rfl,rfl⟩)|(rw[List.take_zero,←fillO_nil];exact (by (conv=>whnf);exact ⟨rfl,rfl,rfl⟩))) (by omega) ?_
 intro e e1 eh
 have hlf:=fillO_len (l:=(l.map (· * S)).take e) (m:=l.length) (by rw[List.length_take];omega)
 by_cases he2:e<l.length
 ·obtain ⟨x,hx⟩ : ∃ x,l[e]? = some x:=⟨_,zE he2⟩
  have hx':l[(e:Int).toNat]? = some x:=hx
  have hM:=ev_mulQ N.toRatGLib (hb.at hx) hKl (by omega) (by omega)
  have hst:=fillO_set (l:=(l.map (· * S)).take e) (m:=l.length) (x:=x*S) (by rw[List.length_take];omega)
  rw[List.length_take,Nat.min_eq_left (by omega),←take_snoc' (hmat e x hx)]at hst
  generalize fillO ((l.map (· * S)).take e) l.length=F0 at *
  (repeat' (first|(refine CmpP.go (fun hc => ?_) (fun hc => ?_)<;>first|(exfalso;omega)|(conv=>whnf))|(refine Req.go ?_ ?_;omega;conv=>whnf)|(refine RdP.at (by assumption) ?_ rfl ?_;omega;conv=>whnf)|(refine AKM.x ?_;conv=>whnf)|(refine CallP.go (hM) ?_;conv=>whnf)))
  refine StR.nat (enc:=eO) (some (x*S)) rfl (fun e=>by cases e<;>rfl) (by omega) ?_
  (conv=>whnf)
  rw[hst]
  (repeat' (refine OpP.add ?_ ?_;omega;conv=>whnf))
  exact AKM.back [] (by (conv=>whnf);exact ⟨rfl,rfl,rfl⟩) (eh (e+1) (by omega) (by omega))
 have ee:e=l.length:=by omega
 clear eh
 rw[ee,List.take_of_length_le (by omega),fillO_full hml]
 (repeat' (first|(refine CmpP.go (fun hc => ?_) (fun hc => ?_)<;>first|(exfalso;omega)|(conv=>whnf))|(refine SnR.all (fun _=>rfl) rfl ?_ ?_;(first|rfl|simp);conv=>whnf)|(refine AKM.x ?_;conv=>whnf)))
 exact FinP.go rfl (by
  simp only[Clean,CleanL,and_true,true_and]
  exact ⟨cl_eQs _,⟨cl_dig _,cl_dig _⟩⟩)
end Go.Eng

namespace Go.Eng
open F
attribute [local irreducible] AKM CmpP Req OpP UnP ConvP RdP LdR StR MkR LenP AppR AppN CpyR RowP SnR Bds SlS CallP CalP FinP pw LdM GetM SetM PutM MkM AppM SnM FlP CallR
set_option maxHeartbeats 16000000
variable {L:Lib}
def eG (xs ys ws:List Rat) (sx sy:Rat):List AV:=[AV.sl false (xs.map eQ),AV.sl false (ys.map eQ),AV.sl false (ws.map eQ)]++(eQ sx++eQ sy)
theorem ev_wholeGrid (N:LsqGLib L) (q:Bool) (g:List Pt) (B K:Nat) (hg:GridV B g) (hB:B≤1000000) (hK:K≤1000000) (hKx : ∀ i,Bt K (scQ ((g.map (·.x)).take i))) (hKy : ∀ i,Bt K (scQ ((g.map (·.y)).take i))) (hKw : ∀ i,Bt K (scQ ((g.map (·.w)).take i))) :
  Ev L 264 [.sl q (g.map eP)] (.agg (eG ((sGrid g).map (·.x)) ((sGrid g).map (·.y)) ((sGrid g).map (·.w)) (scQ (g.map (·.x))) (scQ (g.map (·.y))))):=by
 have hlen:=hg.len
 have ex:(sGrid g).map (·.x)=(g.map (·.x)).map (· * scQ (g.map (·.x))):=by rw[sGrid,List.map_map,List.map_map];rfl
 have ey:(sGrid g).map (·.y)=(g.map (·.y)).map (· * scQ (g.map (·.y))):=by rw[sGrid,List.map_map,List.map_map];rfl
 have ew:(sGrid g).map (·.w)=(g.map (·.w)).map (· * scQ (g.map (·.w))):=by rw[sGrid,List.map_map,List.map_map];rfl
 rw[ex,ey,ew]
 have lx:(g.map (·.x)).length=g.length:=List.length_map ..
 have ly:(g.map (·.y)).length=g.length:=List.length_map ..
 have lw:(g.map (·.w)).length=g.length:=List.length_map ..
 have bx:Bs B (g.map (·.x)):=fun z hz=>by obtain ⟨p,hp,rfl⟩:=List.mem_map.1 hz;exact hg.bx p hp
 have by':Bs B (g.map (·.y)):=fun z hz=>by obtain ⟨p,hp,rfl⟩:=List.mem_map.1 hz;exact hg.by' p hp
 have bw:Bs B (g.map (·.w)):=fun z hz=>by obtain ⟨p,hp,rfl⟩:=List.mem_map.1 hz;exact hg.bw p hp
 have hWx:=fun q=>ev_gwhole N q (g.map (·.x)) B K bx hKx (by omega) (by omega) (by omega)
 have hWy:=fun q=>ev_gwhole N q (g.map (·.y)) B K by' hKy (by omega) (by omega) (by omega)
 have hWw:=fun q=>ev_gwhole N q (g.map (·.w)) B K bw hKw (by omega) (by omega) (by omega)
 have ax : ∀ (i:Nat) (p:Pt),g[i]? = some p→(g.map (·.x))[i]? = some p.x:=fun i p h=>by rw[List.getElem?_map,h];rfl
 have ay : ∀ (i:Nat) (p:Pt),g[i]? = some p→(g.map (·.y))[i]? = some p.y:=fun i p h=>by rw[List.getElem?_map,h];rfl
 have aw : ∀ (i:Nat) (p:Pt),g[i]? = some p→(g.map (·.w))[i]? = some p.w:=fun i p h=>by rw[List.getElem?_map,h];rfl
 generalize g.map (·.x)=X at *
 generalize g.map (·.y)=Y at *
 generalize g.map (·.w)=W at *
 generalize scQ X=sx at *
 generalize scQ Y=sy at *
 generalize scQ W=sw at *
 obtain ⟨p0,hp0⟩ : ∃ p,g[0]? = some p:=⟨_,zE (by omega)⟩
 have hp0':g[(0:Int).toNat]? = some p0:=hp0
 refine Ev.x N.leastsq_wholeGrid rfl rfl ?_
 (repeat' (first|(refine LenP.go ?_;conv=>whnf)|(refine AKM.x ?_;conv=>whnf)))
 refine AKM.lp ?_
 (repeat' (first|(refine CmpP.go (fun hc => ?_) (fun hc => ?_)<;>first|(exfalso;omega)|(conv=>whnf))|(refine RdP.at (by assumption) ?_ rfl ?_;omega;conv=>whnf)|(refine RowP.e1 ?_;conv=>whnf)|(refine AKM.x ?_;conv=>whnf)))
 refine AppN.one (enc:=eQ) p0.x rfl rfl (by omega) ?_
 (conv=>whnf)
 (repeat' (refine RowP.e1 ?_;conv=>whnf))
 refine AppN.one (enc:=eQ) p0.y rfl rfl (by omega) ?_
 (conv=>whnf)
 (repeat' (refine RowP.e1 ?_;conv=>whnf))
 refine AppN.one (enc:=eQ) p0.w rfl rfl (by omega) ?_
 (conv=>whnf)
 (repeat' (refine OpP.add ?_ ?_;omega;conv=>whnf))
 have x1:[p0.x]=X.take 1:=by rw[take_snoc' (ax 0 p0 hp0)];rfl
 have y1:[p0.y]=Y.take 1:=by rw[take_snoc' (ay 0 p0 hp0)];rfl
 have w1:[p0.w]=W.take 1:=by rw[take_snoc' (aw 0 p0 hp0)];rfl
 rw[x1,y1,w1]
 refine AKM.loop1 (fun i=>g.length-i) (fun (i:Nat)=>1≤i∧i≤g.length) (fun i=>[(8,.int .i64 i)]) (fun i=>[(3,3,.bx [.row 17 0 3 0 i,.row 24 0 3 0 i,.row 31 0 3 0 i,.bool false,.nil,.nil,.bool false,.nil,.nil]),(17,17,.rw 3 ((X.take i).map eQ)),(24,24,.rw 3 ((Y.take i).map eQ)),(31,31,.rw 3 ((W.take i).map eQ))]) [] [] 1 (by (conv=>whnf);exact ⟨rfl,rfl,rfl⟩) ⟨by omega,by omega⟩ ?_
 intro i ⟨p1,p2⟩ ih
 have tx:(X.take i).length=i:=by rw[List.length_take];omega
 have ty:(Y.take i).length=i:=by rw[List.length_take];omega
 have tw:(W.take i).length=i:=by rw[List.length_take];omega
 by_cases hi:i<g.length
 ·obtain ⟨p,hp⟩ : ∃ p,g[i]? = some p:=⟨_,zE hi⟩
  have hp':g[(i:Int).toNat]? = some p:=hp
  have sx1:=take_snoc' (ax i p hp)
  have sy1:=take_snoc' (ay i p hp)
  have sw1:=take_snoc' (aw i p hp)
  have tx1:(X.take (i+1)).length=i+1:=by rw[List.length_take];omega
  have ty1:(Y.take (i+1)).length=i+1:=by rw[List.length_take];omega
  have tw1:(W.take (i+1)).length=i+1:=by rw[List.length_take];omega
  generalize X.take i=X0 at *
  generalize Y.take i=Y0 at *
  generalize W.take i=W0 at *
  (repeat' (first|(refine CmpP.go (fun hc => ?_) (fun hc => ?_)<;>first|(exfalso;omega)|(conv=>whnf))|(refine RdP.at (by assumption) ?_ rfl ?_;omega;conv=>whnf)|(refine RowP.e1 ?_;conv=>whnf)|(refine AKM.x ?_;conv=>whnf)))
  refine AppR.one (enc:=eQ) p.x rfl tx.symm rfl (by omega) (by omega) ?_
  rw[←sx1,tx1]
  (conv=>whnf)
  (repeat' (refine RowP.e1 ?_;conv=>whnf))
  refine AppR.one (enc:=eQ) p.y rfl ty.symm rfl (by omega) (by omega) ?_
  rw[←sy1,ty1]
  (conv=>whnf)
  (repeat' (refine RowP.e1 ?_;conv=>whnf))
  refine AppR.one (enc:=eQ) p.w rfl tw.symm rfl (by omega) (by omega) ?_
  rw[←sw1,tw1]
  (conv=>whnf)
  (repeat' (refine OpP.add ?_ ?_;omega;conv=>whnf))
  exact AKM.back [(17,1000017),(24,1000024),(31,1000031)] (by (conv=>whnf);exact ⟨rfl,rfl,rfl⟩) (ih (i+1) (by omega) ⟨by omega,by omega⟩)
 ·have ei:i=g.length:=by omega
  clear ih
  rw[ei,List.take_of_length_le (by omega),List.take_of_length_le (by omega),List.take_of_length_le (by omega)]
  (repeat' (first|(refine CmpP.go (fun hc => ?_) (fun hc => ?_)<;>first|(exfalso;omega)|(conv=>whnf))|(refine AKM.x ?_;conv=>whnf)))
  refine SnR.all (enc:=eQ) (fun _=>rfl) rfl lx.symm ?_
  (conv=>whnf)
  (repeat' (refine CallP.go (hWx _) ?_;conv=>whnf))
  refine SnR.all (enc:=eQ) (fun _=>rfl) rfl ly.symm ?_
  (conv=>whnf)
  (repeat' (refine CallP.go (hWy _) ?_;conv=>whnf))
  refine SnR.all (enc:=eQ) (fun _=>rfl) rfl lw.symm ?_
  (conv=>whnf)
  (repeat' (refine CallP.go (hWw _) ?_;conv=>whnf))
  exact FinP.go rfl (by
   show Clean (.agg [_,_,_,_,_,_,_,_,_])
   simp only[Clean,CleanL,and_true,true_and]
   exact ⟨cl_eQs _,cl_eQs _,cl_eQs _,cl_dig _,cl_dig _,cl_dig _,cl_dig _⟩)
end Go.Eng



namespace Go.Eng
end Go.Eng

namespace Go.Eng
open F
attribute [local irreducible] AKM CmpP Req OpP UnP ConvP RdP LdR StR MkR LenP AppR AppN CpyR RowP SnR Bds SlS CallP CalP FinP pw LdM GetM SetM PutM MkM AppM SnM FlP CallR
set_option maxHeartbeats 16000000
variable {L:Lib}
theorem LdM.got9 {R:List (Option (Nat × List (List AV)))} {e:Nat} {r:Option (Nat × List (List AV))} {K:Option (Nat × List (List AV))→Prop} (h:R[e]? = some r) (hk:K r):LdM R e K:=by
 unfold LdM
 exact ⟨r,h,hk⟩
theorem mz_none {T:List (List Rat)} {n i:Nat} (hl:T.length=n) (hi:i<n):(mz T n i)[i]? = some none:=by
 have hl2:(mxR 3 eQ (T.take i)).length=i:=by simp only[mxR,List.length_map,List.length_take];omega
 have:=fz_at (z:=(none:Option (Nat × List (List AV)))) (l:=mxR 3 eQ (T.take i)) (m:=n) (by omega)
 rw[hl2]at this
 exact this
end Go.Eng

namespace Go.Eng
open F
attribute [local irreducible] AKM CmpP Req OpP UnP ConvP RdP LdR StR MkR LenP AppR AppN CpyR RowP SnR Bds SlS CallP CalP FinP pw LdM GetM SetM PutM MkM AppM SnM FlP CallR
set_option maxHeartbeats 16000000
variable {L:Lib}
def opM (l:List Rat):Option (Nat × List (List AV)):=if l=[] then none else some (3,l.map eQ)
theorem opM_nil:opM []=none:=if_pos rfl
theorem opM_of {l:List Rat} (h:0<l.length):opM l=some (3,l.map eQ):=if_neg (fun e=>by rw[e]at h;cases h)
end Go.Eng

namespace Go.Eng
open F
attribute [local irreducible] AKM CmpP Req OpP UnP ConvP RdP LdR StR MkR LenP AppR AppN CpyR RowP SnR Bds SlS CallP CalP FinP pw LdM GetM SetM PutM MkM AppM SnM FlP CallR
set_option maxHeartbeats 16000000
variable {L:Lib}
theorem ev_equations (N:LsqGLib L) (g:List Pt) (sx sy:Rat) (n ky:Nat) (hg:GridS ky g) (hlen:1≤g.length∧g.length≤12) (hn:1≤n∧n≤6) (hky:ky≤1000) :
  Ev L 265 [.agg (eG (g.map (·.x)) (g.map (·.y)) (g.map (·.w)) sx sy),.int .i64 n] (.tup [.sl false (eM (gramL g n)),.sl false ((rhsL g n).map eQ)]):=by
 have hO:=ev_rational_Of N.toRatGLib 0 (by omega)
 obtain ⟨m,hm⟩ : ∃ m,g.length=m:=⟨_,rfl⟩
 obtain ⟨NN,hNN⟩ : ∃ NN,NN=2*n-1:=⟨_,rfl⟩
 have hWl:(g.map (·.w)).length=m:=by rw[List.length_map];exact hm
 have hXat : ∀ (i:Nat) (p:Pt),g[i]? = some p→(g.map (·.x))[i]? = some p.x:=fun i p h=>by rw[List.getElem?_map,h];rfl
 have hYat : ∀ (i:Nat) (p:Pt),g[i]? = some p→(g.map (·.y))[i]? = some p.y:=fun i p h=>by rw[List.getElem?_map,h];rfl
 obtain ⟨PW,hPW⟩ : ∃ PW:Nat→List Rat,PW=fun k=>g.map fun p=>p.w*p.x^k:=⟨_,rfl⟩
 have hPl : ∀ k,(PW k).length=m:=fun k=>by rw[hPW];simp [hm]
 have hPat : ∀ (k i:Nat) (p:Pt),g[i]? = some p→(PW k)[i]? = some (p.w*p.x^k):=fun k i p h=>by rw[hPW,List.getElem?_map,h];rfl
 have hW0:g.map (·.w)=PW 0:=by
  rw[hPW]
  exact List.map_congr_left fun p _=>by rw[Rat.pow_zero,Rat.mul_one]
 rw[hW0]at hWl ⊢
 obtain ⟨MM,hMM⟩ : ∃ MM:List Rat,MM=(List.range NN).map (mom g):=⟨_,rfl⟩
 have hMl:MM.length=NN:=by rw[hMM];simp
 have hMat : ∀ k,k<NN→MM[k]? = some (mom g k):=fun k hk=>by rw[hMM];simp [hk]
 obtain ⟨RR,hRR⟩ : ∃ RR:List Rat,RR=rhsL g n:=⟨_,rfl⟩
 have hRl:RR.length=n:=by rw[hRR,rhsL];simp
 have hRat : ∀ k,k<n→RR[k]? = some (rhs g k):=fun k hk=>by rw[hRR,rhsL];simp [hk]
 rw[←hRR]
 clear hPW hMM hRR
 generalize g.map (·.x)=X at *
 generalize g.map (·.y)=Y at *
 refine Ev.x N.leastsq_equations rfl rfl ?_
 (repeat' (first|(refine OpP.sub ?_ ?_;omega;conv=>whnf)|(refine OpP.mul ?_ ?_;omega;conv=>whnf)|(refine AKM.x ?_;conv=>whnf)))
 refine MkR.go (enc:=eO) none NN rfl (by omega) (by omega) ?_
 (conv=>whnf)
 skip
 refine MkR.go (enc:=eO) none n rfl rfl (by omega) ?_
 (conv=>whnf)
 (repeat' (first|(refine OpP.sub ?_ ?_;omega;conv=>whnf)|(refine OpP.mul ?_ ?_;omega;conv=>whnf)))
 rw[show List.map eO (List.replicate NN none)=List.map eO (fillO (MM.take 0) NN) by rw[List.take_zero,fillO_nil]]
 rw[show List.map eO (List.replicate n none)=List.map eO (fillO (RR.take 0) n) by rw[List.take_zero,fillO_nil]]
 refine AKM.loop2 (fun k _=>NN-k) (fun (k:Nat) (fl:Bool)=>k≤NN∧fl=decide (k=0)) (fun k fl=>[(29,.int .i64 k),(8,bif fl then .sl false ((PW 0).map eQ) else .row 38 0 3 0 m)]) (fun k fl=>[(21,21,.rw 3 ((fillO (MM.take k) NN).map eO)),(23,23,.rw 3 ((fillO (RR.take k) n).map eO))]++bif fl then [] else [(38,38,.rw 3 ((PW k).map eQ))]) [] [] 0 true (by (conv=>whnf);exact ⟨rfl,rfl,rfl⟩) ⟨by omega,rfl⟩ ?_
 intro k fl ⟨k1,k2⟩ kh
 by_cases hkN:k<NN
 ·cases fl
  ·have hk0:k≠0:=fun e=>by rw[e]at k2;cases k2
   have hPK:=hPat k
   have hPKl:=hPl k
   have hMk:Wh 80 (mom g k):=(hg.mom k).le (by omega)
   have hFl:=fillO_len (l:=MM.take k) (m:=NN) (by rw[List.length_take];omega)
   have hFs:=fillO_set (l:=MM.take k) (m:=NN) (x:=mom g k) (by rw[List.length_take];omega)
   rw[List.length_take,Nat.min_eq_left (by omega),←take_snoc' (hMat k (by omega))]at hFs
   generalize fillO (MM.take k) NN=F at *
   (repeat' (first|(refine CmpP.go (fun hc => ?_) (fun hc => ?_)<;>first|(exfalso;omega)|(conv=>whnf))|(refine Req.go ?_ ?_;omega;conv=>whnf)|(refine AKM.x ?_;conv=>whnf)|(refine CallP.go (hO) ?_;conv=>whnf)))
   refine StR.nat (enc:=eO) (some ((0:Int):Rat)) rfl (fun e=>by cases e<;>rfl) (by omega) ?_
   (conv=>whnf)
   skip
   try rw[hWl]
   refine MkR.go (enc:=eO) none m rfl rfl (by omega) ?_
   (conv=>whnf)
   skip
   refine AKM.loop1 (fun i=>m-i) (fun (i:Nat)=>i≤m) (fun i=>[(41,.int .i64 i)]) (fun i=>[(21,21,.rw 3 ((F.set k (some (sumP (g.take i) fun p=>p.w*p.x^k))).map eO)),(1000038,38,.rw 3 ((fillO ((PW (k+1)).take i) m).map eO))]) [] [] 0 (by first|exact (by (conv=>whnf);exact ⟨rfl,rfl,rfl⟩)|(rw[List.take_zero,List.take_zero,←fillO_nil];exact (by (conv=>whnf);exact ⟨rfl,rfl,rfl⟩))) (by omega) ?_
   intro i i1 lh
   have hpl:=fillO_len (l:=(PW (k+1)).take i) (m:=m) (by rw[List.length_take,hPl];omega)
   have hsb:Wh 80 (sumP (g.take i) fun p=>p.w*p.x^k):=(sumP_wh (k:=7+k*6) fun p hp=>(hg.ww p (List.mem_of_mem_take hp)).mul ((hg.wx p (List.mem_of_mem_take hp)).pow k)).le (by rw[List.length_take];omega)
   by_cases hi:i<m
   ·obtain ⟨p,hp⟩ : ∃ p,g[i]? = some p:=⟨_,zE (by omega)⟩
    have hpm:=zM hp
    have hw0:(PW k)[i]? = some (p.w*p.x^k):=hPK i p hp
    have hw0':(PW k)[(i:Int).toNat]? = some (p.w*p.x^k):=hw0
    have hx0':X[(i:Int).toNat]? = some p.x:=hXat i p hp
    have hwb:Wh 80 (p.w*p.x^k):=((hg.ww p hpm).mul ((hg.wx p hpm).pow k)).le (by omega)
    have hA:=ev_addQ N.toRatGLib hsb.bt hwb.bt (by omega) (by omega)
    have hM:=ev_mulQ N.toRatGLib hwb.bt (hg.wx p hpm).bt (by omega) (by omega)
    rw[show p.w*p.x^k*p.x=p.w*p.x^(k+1) by rw[Rat.pow_succ,Rat.mul_assoc]]at hM
    rw[show (sumP (g.take i) fun p=>p.w*p.x^k)+p.w*p.x^k=sumP (g.take (i+1)) fun p=>p.w*p.x^k by rw[take_snocA hp];exact (sumP_snoc p _ _).symm]at hA
    have hst:=fillO_set (l:=(PW (k+1)).take i) (m:=m) (x:=p.w*p.x^(k+1)) (by rw[List.length_take,hPl];omega)
    rw[List.length_take,hPl,Nat.min_eq_left (by omega),←take_snoc' (hPat (k+1) i p hp)]at hst
    have hFk:(F.set k (some (sumP (g.take i) fun p=>p.w*p.x^k)))[k]? = some (some (sumP (g.take i) fun p=>p.w*p.x^k)):=by rw[List.getElem?_set,if_pos rfl,if_pos (by omega)]
    have hFl2:(F.set k (some (sumP (g.take i) fun p=>p.w*p.x^k))).length=NN:=by rw[List.length_set];exact hFl
    have hFF : ∀ z,(F.set k (some (sumP (g.take i) fun p=>p.w*p.x^k))).set k z=F.set k z:=fun z=>List.set_set ..
    generalize F.set k (some (sumP (g.take i) fun p=>p.w*p.x^k))=F1 at *
    generalize (sumP (g.take i) fun p=>p.w*p.x^k)=s0 at *
    generalize hs1:(sumP (g.take (i+1)) fun p=>p.w*p.x^k)=s1 at hA
    generalize fillO ((PW (k+1)).take i) m=P0 at *
    generalize p.w*p.x^(k+1)=w1 at *
    generalize p.w*p.x^k=w0 at *
    (repeat' (first|(refine CmpP.go (fun hc => ?_) (fun hc => ?_)<;>first|(exfalso;omega)|(conv=>whnf))|(refine Req.go ?_ ?_;omega;conv=>whnf)|(refine LdR.nat ?_ (fun _=>rfl) (fun v hv => ?_);omega;conv=>whnf)|(refine AKM.x ?_;conv=>whnf)))
    try cases hw0.symm.trans hv
    try skip
    refine LdR.at (enc:=eO) (e:=some s0) (by rw[Nat.zero_add,Int.toNat_natCast];exact hFk) rfl ?_
    (conv=>whnf)
    (repeat' (first|(refine Req.go ?_ ?_;omega;conv=>whnf)|(refine CallP.go (hA) ?_;conv=>whnf)))
    refine StR.nat (enc:=eO) (some s1) rfl (fun e=>by cases e<;>rfl) (by omega) ?_
    (conv=>whnf)
    rw[hFF]
    (repeat' (first|(refine Req.go ?_ ?_;omega;conv=>whnf)|(refine RdP.at (by assumption) ?_ rfl ?_;omega;conv=>whnf)|(refine CallP.go (hM) ?_;conv=>whnf)))
    refine StR.nat (enc:=eO) (some w1) rfl (fun e=>by cases e<;>rfl) (by omega) ?_
    (conv=>whnf)
    rw[hst]
    (repeat' (refine OpP.add ?_ ?_;omega;conv=>whnf))
    subst hs1
    exact AKM.back [] (by (conv=>whnf);exact ⟨rfl,rfl,rfl⟩) (lh (i+1) (by omega) (by omega))
   have ei:i=m:=by omega
   clear lh
   rw[ei,List.take_of_length_le (show g.length≤m by omega),show (sumP g fun p=>p.w*p.x^k)=mom g k from rfl,hFs,List.take_of_length_le (show (PW (k+1)).length≤m by rw[hPl];omega),fillO_full (hPl (k+1))]
   by_cases hkn:k<n
   ·have hGl:=fillO_len (l:=RR.take k) (m:=n) (by rw[List.length_take];omega)
    have hGs:=fillO_set (l:=RR.take k) (m:=n) (x:=rhs g k) (by rw[List.length_take];omega)
    rw[List.length_take,Nat.min_eq_left (by omega),←take_snoc' (hRat k hkn)]at hGs
    generalize fillO (RR.take k) n=G at *
    (repeat' (first|(refine CmpP.go (fun hc => ?_) (fun hc => ?_)<;>first|(exfalso;omega)|(conv=>whnf))|(refine Req.go ?_ ?_;omega;conv=>whnf)|(refine AKM.x ?_;conv=>whnf)|(refine CallP.go (hO) ?_;conv=>whnf)))
    refine StR.nat (enc:=eO) (some ((0:Int):Rat)) rfl (fun e=>by cases e<;>rfl) (by omega) ?_
    (conv=>whnf)
    skip
    refine AKM.loop1 (fun i=>m-i) (fun (i:Nat)=>i≤m) (fun i=>[(75,.int .i64 i)]) (fun i=>[(23,23,.rw 3 ((G.set k (some (sumP (g.take i) fun p=>p.w*p.x^k*p.y))).map eO))]) [] [] 0 (by first|exact (by (conv=>whnf);exact ⟨rfl,rfl,rfl⟩)|(rw[List.take_zero];exact (by (conv=>whnf);exact ⟨rfl,rfl,rfl⟩))) (by omega) ?_
    intro i i1 lh
    have hsb:Wh 2000 (sumP (g.take i) fun p=>p.w*p.x^k*p.y):=(sumP_wh (k:=7+k*6+ky) fun p hp=>((hg.ww p (List.mem_of_mem_take hp)).mul ((hg.wx p (List.mem_of_mem_take hp)).pow k)).mul (hg.wy p (List.mem_of_mem_take hp))).le (by rw[List.length_take];omega)
    by_cases hi:i<m
    ·obtain ⟨p,hp⟩ : ∃ p,g[i]? = some p:=⟨_,zE (by omega)⟩
     have hpm:=zM hp
     have hw0:(PW k)[i]? = some (p.w*p.x^k):=hPK i p hp
     have hw0':(PW k)[(i:Int).toNat]? = some (p.w*p.x^k):=hw0
     have hy0':Y[(i:Int).toNat]? = some p.y:=hYat i p hp
     have hwb:Wh 80 (p.w*p.x^k):=((hg.ww p hpm).mul ((hg.wx p hpm).pow k)).le (by omega)
     have hyb:=hg.wy p hpm
     have hM:=ev_mulQ N.toRatGLib hwb.bt hyb.bt (by omega) (by omega)
     have hA:=ev_addQ N.toRatGLib hsb.bt (hwb.mul hyb).bt (by omega) (by omega)
     rw[show (sumP (g.take i) fun p=>p.w*p.x^k*p.y)+p.w*p.x^k*p.y=sumP (g.take (i+1)) fun p=>p.w*p.x^k*p.y by rw[take_snocA hp];exact (sumP_snoc p _ _).symm]at hA
     have hFk:(G.set k (some (sumP (g.take i) fun p=>p.w*p.x^k*p.y)))[k]? = some (some (sumP (g.take i) fun p=>p.w*p.x^k*p.y)):=by rw[List.getElem?_set,if_pos rfl,if_pos (by omega)]
     have hFl2:(G.set k (some (sumP (g.take i) fun p=>p.w*p.x^k*p.y))).length=n:=by rw[List.length_set];exact hGl
     have hFF : ∀ z,(G.set k (some (sumP (g.take i) fun p=>p.w*p.x^k*p.y))).set k z=G.set k z:=fun z=>List.set_set ..
     generalize G.set k (some (sumP (g.take i) fun p=>p.w*p.x^k*p.y))=F1 at *
     generalize (sumP (g.take i) fun p=>p.w*p.x^k*p.y)=s0 at *
     generalize hs1:(sumP (g.take (i+1)) fun p=>p.w*p.x^k*p.y)=s1 at hA
     generalize p.w*p.x^k=w0 at *
     generalize w0*p.y=wy at *
     (repeat' (first|(refine CmpP.go (fun hc => ?_) (fun hc => ?_)<;>first|(exfalso;omega)|(conv=>whnf))|(refine Req.go ?_ ?_;omega;conv=>whnf)|(refine LdR.nat ?_ (fun _=>rfl) (fun v hv => ?_);omega;conv=>whnf)|(refine AKM.x ?_;conv=>whnf)))
     try cases hw0.symm.trans hv
     try skip
     refine LdR.at (enc:=eO) (e:=some s0) (by rw[Nat.zero_add,Int.toNat_natCast];exact hFk) rfl ?_
     (conv=>whnf)
     (repeat' (first|(refine Req.go ?_ ?_;omega;conv=>whnf)|(refine RdP.at (by assumption) ?_ rfl ?_;omega;conv=>whnf)|(refine CallP.go (hM) ?_;conv=>whnf)|(refine CallP.go (hA) ?_;conv=>whnf)))
     refine StR.nat (enc:=eO) (some s1) rfl (fun e=>by cases e<;>rfl) (by omega) ?_
     (conv=>whnf)
     rw[hFF]
     (repeat' (refine OpP.add ?_ ?_;omega;conv=>whnf))
     subst hs1
     exact AKM.back [] (by (conv=>whnf);exact ⟨rfl,rfl,rfl⟩) (lh (i+1) (by omega) (by omega))
    have ei:i=m:=by omega
    clear lh
    rw[ei,List.take_of_length_le (show g.length≤m by omega),show (sumP g fun p=>p.w*p.x^k*p.y)=rhs g k from rfl,hGs]
    (repeat' (first|(refine CmpP.go (fun hc => ?_) (fun hc => ?_)<;>first|(exfalso;omega)|(conv=>whnf))|(refine OpP.add ?_ ?_;omega;conv=>whnf)|(refine AKM.x ?_;conv=>whnf)))
    exact AKM.back [(38,1000038)] (by (conv=>whnf);exact ⟨rfl,rfl,rfl⟩) (kh (k+1) false (by omega) ⟨by omega,by simp⟩)
   ·have hG0:fillO (RR.take k) n=fillO (RR.take (k+1)) n:=by rw[List.take_of_length_le (by omega),List.take_of_length_le (by omega)]
    rw[hG0]
    (repeat' (first|(refine CmpP.go (fun hc => ?_) (fun hc => ?_)<;>first|(exfalso;omega)|(conv=>whnf))|(refine OpP.add ?_ ?_;omega;conv=>whnf)|(refine AKM.x ?_;conv=>whnf)))
    exact AKM.back [(38,1000038)] (by (conv=>whnf);exact ⟨rfl,rfl,rfl⟩) (kh (k+1) false (by omega) ⟨by omega,by simp⟩)
  ·have hk0:k=0:=by simpa using k2.symm
   have hPK : ∀ (i:Nat) (p:Pt),g[i]? = some p→(PW 0)[i]? = some (p.w*p.x^k):=fun i p h=>by rw[hk0];exact hPat 0 i p h
   clear hk0
   have hPKl:=hPl k
   have hMk:Wh 80 (mom g k):=(hg.mom k).le (by omega)
   have hFl:=fillO_len (l:=MM.take k) (m:=NN) (by rw[List.length_take];omega)
   have hFs:=fillO_set (l:=MM.take k) (m:=NN) (x:=mom g k) (by rw[List.length_take];omega)
   rw[List.length_take,Nat.min_eq_left (by omega),←take_snoc' (hMat k (by omega))]at hFs
   generalize fillO (MM.take k) NN=F at *
   (repeat' (first|(refine CmpP.go (fun hc => ?_) (fun hc => ?_)<;>first|(exfalso;omega)|(conv=>whnf))|(refine Req.go ?_ ?_;omega;conv=>whnf)|(refine AKM.x ?_;conv=>whnf)|(refine CallP.go (hO) ?_;conv=>whnf)))
   refine StR.nat (enc:=eO) (some ((0:Int):Rat)) rfl (fun e=>by cases e<;>rfl) (by omega) ?_
   (conv=>whnf)
   (repeat' (refine LenP.go ?_;conv=>whnf))
   try rw[hWl]
   refine MkR.go (enc:=eO) none m rfl rfl (by omega) ?_
   (conv=>whnf)
   (repeat' (refine LenP.go ?_;conv=>whnf))
   refine AKM.loop1 (fun i=>m-i) (fun (i:Nat)=>i≤m) (fun i=>[(41,.int .i64 i)]) (fun i=>[(21,21,.rw 3 ((F.set k (some (sumP (g.take i) fun p=>p.w*p.x^k))).map eO)),(38,38,.rw 3 ((fillO ((PW (k+1)).take i) m).map eO))]) [] [] 0 (by first|exact (by (conv=>whnf);exact ⟨rfl,rfl,rfl⟩)|(rw[List.take_zero,List.take_zero,←fillO_nil];exact (by (conv=>whnf);exact ⟨rfl,rfl,rfl⟩))) (by omega) ?_
   intro i i1 lh
   have hpl:=fillO_len (l:=(PW (k+1)).take i) (m:=m) (by rw[List.length_take,hPl];omega)
   have hsb:Wh 80 (sumP (g.take i) fun p=>p.w*p.x^k):=(sumP_wh (k:=7+k*6) fun p hp=>(hg.ww p (List.mem_of_mem_take hp)).mul ((hg.wx p (List.mem_of_mem_take hp)).pow k)).le (by rw[List.length_take];omega)
   by_cases hi:i<m
   ·obtain ⟨p,hp⟩ : ∃ p,g[i]? = some p:=⟨_,zE (by omega)⟩
    have hpm:=zM hp
    have hw0:(PW 0)[i]? = some (p.w*p.x^k):=hPK i p hp
    have hw0':(PW 0)[(i:Int).toNat]? = some (p.w*p.x^k):=hw0
    have hx0':X[(i:Int).toNat]? = some p.x:=hXat i p hp
    have hwb:Wh 80 (p.w*p.x^k):=((hg.ww p hpm).mul ((hg.wx p hpm).pow k)).le (by omega)
    have hA:=ev_addQ N.toRatGLib hsb.bt hwb.bt (by omega) (by omega)
    have hM:=ev_mulQ N.toRatGLib hwb.bt (hg.wx p hpm).bt (by omega) (by omega)
    rw[show p.w*p.x^k*p.x=p.w*p.x^(k+1) by rw[Rat.pow_succ,Rat.mul_assoc]]at hM
    rw[show (sumP (g.take i) fun p=>p.w*p.x^k)+p.w*p.x^k=sumP (g.take (i+1)) fun p=>p.w*p.x^k by rw[take_snocA hp];exact (sumP_snoc p _ _).symm]at hA
    have hst:=fillO_set (l:=(PW (k+1)).take i) (m:=m) (x:=p.w*p.x^(k+1)) (by rw[List.length_take,hPl];omega)
    rw[List.length_take,hPl,Nat.min_eq_left (by omega),←take_snoc' (hPat (k+1) i p hp)]at hst
    have hFk:(F.set k (some (sumP (g.take i) fun p=>p.w*p.x^k)))[k]? = some (some (sumP (g.take i) fun p=>p.w*p.x^k)):=by rw[List.getElem?_set,if_pos rfl,if_pos (by omega)]
    have hFl2:(F.set k (some (sumP (g.take i) fun p=>p.w*p.x^k))).length=NN:=by rw[List.length_set];exact hFl
    have hFF : ∀ z,(F.set k (some (sumP (g.take i) fun p=>p.w*p.x^k))).set k z=F.set k z:=fun z=>List.set_set ..
    generalize F.set k (some (sumP (g.take i) fun p=>p.w*p.x^k))=F1 at *
    generalize (sumP (g.take i) fun p=>p.w*p.x^k)=s0 at *
    generalize hs1:(sumP (g.take (i+1)) fun p=>p.w*p.x^k)=s1 at hA
    generalize fillO ((PW (k+1)).take i) m=P0 at *
    generalize p.w*p.x^(k+1)=w1 at *
    generalize p.w*p.x^k=w0 at *
    (repeat' (first|(refine CmpP.go (fun hc => ?_) (fun hc => ?_)<;>first|(exfalso;omega)|(conv=>whnf))|(refine Req.go ?_ ?_;omega;conv=>whnf)|(refine RdP.at (by assumption) ?_ rfl ?_;omega;conv=>whnf)|(refine AKM.x ?_;conv=>whnf)))
    try cases hw0.symm.trans hv
    try skip
    refine LdR.at (enc:=eO) (e:=some s0) (by rw[Nat.zero_add,Int.toNat_natCast];exact hFk) rfl ?_
    (conv=>whnf)
    (repeat' (first|(refine Req.go ?_ ?_;omega;conv=>whnf)|(refine CallP.go (hA) ?_;conv=>whnf)))
    refine StR.nat (enc:=eO) (some s1) rfl (fun e=>by cases e<;>rfl) (by omega) ?_
    (conv=>whnf)
    rw[hFF]
    (repeat' (first|(refine Req.go ?_ ?_;omega;conv=>whnf)|(refine RdP.at (by assumption) ?_ rfl ?_;omega;conv=>whnf)|(refine CallP.go (hM) ?_;conv=>whnf)))
    refine StR.nat (enc:=eO) (some w1) rfl (fun e=>by cases e<;>rfl) (by omega) ?_
    (conv=>whnf)
    rw[hst]
    (repeat' (refine OpP.add ?_ ?_;omega;conv=>whnf))
    subst hs1
    exact AKM.back [] (by (conv=>whnf);exact ⟨rfl,rfl,rfl⟩) (lh (i+1) (by omega) (by omega))
   have ei:i=m:=by omega
   clear lh
   rw[ei,List.take_of_length_le (show g.length≤m by omega),show (sumP g fun p=>p.w*p.x^k)=mom g k from rfl,hFs,List.take_of_length_le (show (PW (k+1)).length≤m by rw[hPl];omega),fillO_full (hPl (k+1))]
   by_cases hkn:k<n
   ·have hGl:=fillO_len (l:=RR.take k) (m:=n) (by rw[List.length_take];omega)
    have hGs:=fillO_set (l:=RR.take k) (m:=n) (x:=rhs g k) (by rw[List.length_take];omega)
    rw[List.length_take,Nat.min_eq_left (by omega),←take_snoc' (hRat k hkn)]at hGs
    generalize fillO (RR.take k) n=G at *
    (repeat' (first|(refine CmpP.go (fun hc => ?_) (fun hc => ?_)<;>first|(exfalso;omega)|(conv=>whnf))|(refine Req.go ?_ ?_;omega;conv=>whnf)|(refine AKM.x ?_;conv=>whnf)|(refine CallP.go (hO) ?_;conv=>whnf)))
    refine StR.nat (enc:=eO) (some ((0:Int):Rat)) rfl (fun e=>by cases e<;>rfl) (by omega) ?_
    (conv=>whnf)
    (repeat' (refine LenP.go ?_;conv=>whnf))
    refine AKM.loop1 (fun i=>m-i) (fun (i:Nat)=>i≤m) (fun i=>[(75,.int .i64 i)]) (fun i=>[(23,23,.rw 3 ((G.set k (some (sumP (g.take i) fun p=>p.w*p.x^k*p.y))).map eO))]) [] [] 0 (by first|exact (by (conv=>whnf);exact ⟨rfl,rfl,rfl⟩)|(rw[List.take_zero];exact (by (conv=>whnf);exact ⟨rfl,rfl,rfl⟩))) (by omega) ?_
    intro i i1 lh
    have hsb:Wh 2000 (sumP (g.take i) fun p=>p.w*p.x^k*p.y):=(sumP_wh (k:=7+k*6+ky) fun p hp=>((hg.ww p (List.mem_of_mem_take hp)).mul ((hg.wx p (List.mem_of_mem_take hp)).pow k)).mul (hg.wy p (List.mem_of_mem_take hp))).le (by rw[List.length_take];omega)
    by_cases hi:i<m
    ·obtain ⟨p,hp⟩ : ∃ p,g[i]? = some p:=⟨_,zE (by omega)⟩
     have hpm:=zM hp
     have hw0:(PW 0)[i]? = some (p.w*p.x^k):=hPK i p hp
     have hw0':(PW 0)[(i:Int).toNat]? = some (p.w*p.x^k):=hw0
     have hy0':Y[(i:Int).toNat]? = some p.y:=hYat i p hp
     have hwb:Wh 80 (p.w*p.x^k):=((hg.ww p hpm).mul ((hg.wx p hpm).pow k)).le (by omega)
     have hyb:=hg.wy p hpm
     have hM:=ev_mulQ N.toRatGLib hwb.bt hyb.bt (by omega) (by omega)
     have hA:=ev_addQ N.toRatGLib hsb.bt (hwb.mul hyb).bt (by omega) (by omega)
     rw[show (sumP (g.take i) fun p=>p.w*p.x^k*p.y)+p.w*p.x^k*p.y=sumP (g.take (i+1)) fun p=>p.w*p.x^k*p.y by rw[take_snocA hp];exact (sumP_snoc p _ _).symm]at hA
     have hFk:(G.set k (some (sumP (g.take i) fun p=>p.w*p.x^k*p.y)))[k]? = some (some (sumP (g.take i) fun p=>p.w*p.x^k*p.y)):=by rw[List.getElem?_set,if_pos rfl,if_pos (by omega)]
     have hFl2:(G.set k (some (sumP (g.take i) fun p=>p.w*p.x^k*p.y))).length=n:=by rw[List.length_set];exact hGl
     have hFF : ∀ z,(G.set k (some (sumP (g.take i) fun p=>p.w*p.x^k*p.y))).set k z=G.set k z:=fun z=>List.set_set ..
     generalize G.set k (some (sumP (g.take i) fun p=>p.w*p.x^k*p.y))=F1 at *
     generalize (sumP (g.take i) fun p=>p.w*p.x^k*p.y)=s0 at *
     generalize hs1:(sumP (g.take (i+1)) fun p=>p.w*p.x^k*p.y)=s1 at hA
     generalize p.w*p.x^k=w0 at *
     generalize w0*p.y=wy at *
     (repeat' (first|(refine CmpP.go (fun hc => ?_) (fun hc => ?_)<;>first|(exfalso;omega)|(conv=>whnf))|(refine Req.go ?_ ?_;omega;conv=>whnf)|(refine RdP.at (by assumption) ?_ rfl ?_;omega;conv=>whnf)|(refine AKM.x ?_;conv=>whnf)))
     try cases hw0.symm.trans hv
     try skip
     refine LdR.at (enc:=eO) (e:=some s0) (by rw[Nat.zero_add,Int.toNat_natCast];exact hFk) rfl ?_
     (conv=>whnf)
     (repeat' (first|(refine Req.go ?_ ?_;omega;conv=>whnf)|(refine RdP.at (by assumption) ?_ rfl ?_;omega;conv=>whnf)|(refine CallP.go (hM) ?_;conv=>whnf)|(refine CallP.go (hA) ?_;conv=>whnf)))
     refine StR.nat (enc:=eO) (some s1) rfl (fun e=>by cases e<;>rfl) (by omega) ?_
     (conv=>whnf)
     rw[hFF]
     (repeat' (refine OpP.add ?_ ?_;omega;conv=>whnf))
     subst hs1
     exact AKM.back [] (by (conv=>whnf);exact ⟨rfl,rfl,rfl⟩) (lh (i+1) (by omega) (by omega))
    have ei:i=m:=by omega
    clear lh
    rw[ei,List.take_of_length_le (show g.length≤m by omega),show (sumP g fun p=>p.w*p.x^k*p.y)=rhs g k from rfl,hGs]
    (repeat' (first|(refine CmpP.go (fun hc => ?_) (fun hc => ?_)<;>first|(exfalso;omega)|(conv=>whnf))|(refine OpP.add ?_ ?_;omega;conv=>whnf)|(refine AKM.x ?_;conv=>whnf)))
    exact AKM.back [] (by (conv=>whnf);exact ⟨rfl,rfl,rfl⟩) (kh (k+1) false (by omega) ⟨by omega,by simp⟩)
   ·have hG0:fillO (RR.take k) n=fillO (RR.take (k+1)) n:=by rw[List.take_of_length_le (by omega),List.take_of_length_le (by omega)]
    rw[hG0]
    (repeat' (first|(refine CmpP.go (fun hc => ?_) (fun hc => ?_)<;>first|(exfalso;omega)|(conv=>whnf))|(refine OpP.add ?_ ?_;omega;conv=>whnf)|(refine AKM.x ?_;conv=>whnf)))
    exact AKM.back [] (by (conv=>whnf);exact ⟨rfl,rfl,rfl⟩) (kh (k+1) false (by omega) ⟨by omega,by simp⟩)
 ·have ek:k=NN:=by omega
  clear kh
  cases fl
  ·have hGl:=gram_len g n
   have hGat : ∀ i,i<n→(gramL g n)[i]? = some ((List.range n).map fun j=>mom g (i+j)):=fun i hi=>by simp [gramL,hi]
   generalize gramL g n=A at *
   rw[ek,List.take_of_length_le (by omega),fillO_full hMl,show fillO (RR.take NN) n=fillO RR n by rw[List.take_of_length_le (by omega)],fillO_full hRl]
   (repeat' (first|(refine CmpP.go (fun hc => ?_) (fun hc => ?_)<;>first|(exfalso;omega)|(conv=>whnf))|(refine AKM.x ?_;conv=>whnf)))
   unfold MkM
   refine ⟨⟨by omega,by omega,by simp only[roomMax];omega,by omega⟩,?_⟩
   rw[Int.toNat_natCast]
   (conv=>whnf)
   skip
   refine AKM.loop1 (fun i=>n-i) (fun (i:Nat)=>i≤n) (fun i=>[(101,.int .i64 i)]) (fun i=>[(99,99,.mx (mz A n i))]) [] [] 0 (by first|exact (by (conv=>whnf);exact ⟨rfl,rfl,rfl⟩)|(rw[←mz_zero A];exact (by (conv=>whnf);exact ⟨rfl,rfl,rfl⟩))) (by omega) ?_
   intro i p1 ih
   have hzl:=mz_len (Q:=A) p1
   by_cases hi:i<n
   ·have hst:=mz_set (hGat i hi) hi
    have hnone:=mz_none hGl hi
    have hrl:((List.range n).map fun j=>mom g (i+j)).length=n:=by simp
    have hrat : ∀ j,j<n→((List.range n).map fun j=>mom g (i+j))[j]? = some (mom g (i+j)):=fun j hj=>by simp [hj]
    generalize ((List.range n).map fun j=>mom g (i+j))=row at *
    generalize mz A n i=R0 at *
    (repeat' (first|(refine CmpP.go (fun hc => ?_) (fun hc => ?_)<;>first|(exfalso;omega)|(conv=>whnf))|(refine AKM.x ?_;conv=>whnf)))
    refine AKM.loop1 (fun j=>n-j) (fun (j:Nat)=>j≤n) (fun j=>[(105,.int .i64 j)]) (fun j=>[(99,99,.mx (R0.set i (opM (row.take j))))]) [] [] 0 (by first|exact (by (conv=>whnf);exact ⟨rfl,rfl,rfl⟩)|(rw[List.take_zero,opM_nil,set_same hnone];exact (by (conv=>whnf);exact ⟨rfl,rfl,rfl⟩))) (by omega) ?_
    intro j p2 jh
    have htk:(row.take j).length=j:=by rw[List.length_take];omega
    by_cases hj:j<n
    ·have hMv:=hMat (i+j) (by omega)
     have hMv':MM[((i:Int)+(j:Int)).toNat]? = some (mom g (i+j)):=by rw[show ((i:Int)+(j:Int)).toNat=i+j by omega];exact hMv
     have hts:=take_snocA (hrat j hj)
     have htk1:(row.take (j+1)).length=j+1:=by rw[List.length_take];omega
     generalize mom g (i+j)=v0 at *
     generalize hM0:row.take j=M0 at *
     (repeat' (first|(refine CmpP.go (fun hc => ?_) (fun hc => ?_)<;>first|(exfalso;omega)|(conv=>whnf))|(refine Req.go ?_ ?_;omega;conv=>whnf)|(refine AKM.x ?_;conv=>whnf)))
     by_cases hj0:j=0
     ·subst hj0
      rw[List.take_zero]at hM0
      subst hM0
      rw[opM_nil,set_same hnone]
      refine LdM.got9 (r:=none) (by rw[Nat.zero_add,Int.toNat_natCast];exact hnone) ?_
      (conv=>whnf)
      (repeat' (first|(refine Req.go ?_ ?_;omega;conv=>whnf)|(refine OpP.add ?_ ?_;omega;conv=>whnf)|(refine LdR.nat ?_ (fun _=>rfl) (fun v hv => ?_);omega;conv=>whnf)|(refine RowP.e1 ?_;conv=>whnf)))
      cases hMv'.symm.trans hv
      refine AppN.one (enc:=eQ) v0 rfl rfl (by omega) ?_
      (conv=>whnf)
      (repeat' (first|(refine Req.go ?_ ?_;omega;conv=>whnf)|fail))
      refine Req.go rfl ?_
      refine SetM.fz (i:=i) (by omega) (by omega) ?_
      (conv=>whnf)
      (repeat' (refine OpP.add ?_ ?_;omega;conv=>whnf))
      have hq:(some (3,[v0].map eQ):Option (Nat × List (List AV)))=opM (row.take (0+1)):=by rw[hts];exact (opM_of (by simp)).symm
      rw[hq]
      exact AKM.back [] (by (conv=>whnf);exact ⟨rfl,rfl,rfl⟩) (jh (0+1) (by omega) (by omega))
     ·rw[opM_of (by omega)]
      refine LdM.st (by omega) (by omega) ?_
      (conv=>whnf)
      (repeat' (first|(refine Req.go ?_ ?_;omega;conv=>whnf)|(refine OpP.add ?_ ?_;omega;conv=>whnf)|(refine LdR.nat ?_ (fun _=>rfl) (fun v hv => ?_);omega;conv=>whnf)|(refine RowP.e1 ?_;conv=>whnf)))
      cases hMv'.symm.trans hv
      refine GetM.st (by omega) (by omega) ?_
      (conv=>whnf)
      refine AppR.one (enc:=eQ) v0 rfl (by rw[List.length_map]) rfl (by omega) (by omega) ?_
      intro s' v
      rw[←hts,htk1]
      (conv=>whnf)
      (repeat' (first|(refine Req.go ?_ ?_;omega;conv=>whnf)|fail))
      refine Req.go ⟨rfl,by rw[List.length_map];omega⟩ ?_
      refine SetM.fz (i:=i) (by omega) (by rw[List.length_set,List.length_set];omega) ?_
      rw[show 0+((i:Int)).toNat=i by omega,List.set_set,List.set_set,←opM_of (by omega)]
      (conv=>whnf)
      (repeat' (refine OpP.add ?_ ?_;omega;conv=>whnf))
      exact AKM.back [] (by (conv=>whnf);exact ⟨rfl,rfl,rfl⟩) (jh (j+1) (by omega) (by omega))
    have ej:j=n:=by omega
    clear jh
    rw[ej,List.take_of_length_le (by omega),opM_of (by omega),hst]
    (repeat' (first|(refine CmpP.go (fun hc => ?_) (fun hc => ?_)<;>first|(exfalso;omega)|(conv=>whnf))|(refine OpP.add ?_ ?_;omega;conv=>whnf)|(refine AKM.x ?_;conv=>whnf)))
    exact AKM.back [] (by (conv=>whnf);exact ⟨rfl,rfl,rfl⟩) (ih (i+1) (by omega) (by omega))
   have ei:i=n:=by omega
   clear ih
   rw[ei,mz_full hGl]
   (repeat' (first|(refine CmpP.go (fun hc => ?_) (fun hc => ?_)<;>first|(exfalso;omega)|(conv=>whnf))|(refine AKM.x ?_;conv=>whnf)))
   refine SnM.all (fun _=>rfl) rfl (by omega) ?_
   (conv=>whnf)
   refine SnR.all (enc:=eQ) (fun _=>rfl) rfl hRl.symm ?_
   (conv=>whnf)
   exact FinP.go rfl (by
    simp only[Clean,CleanL,and_true,true_and]
    exact ⟨cl_eM A,cl_eQs RR⟩)
  ·have hk0:k=0:=by simpa using k2.symm
   omega
end Go.Eng

namespace Go.Eng
open F
attribute [local irreducible] AKM CmpP Req OpP UnP ConvP RdP LdR StR MkR LenP AppR AppN CpyR RowP SnR Bds SlS CallP CalP FinP pw LdM GetM SetM PutM MkM AppM SnM FlP CallR
set_option maxHeartbeats 16000000
variable {L:Lib}
def encJ:Option (List Rat)→List AV
 | none=>[.nil]
 | some r=>[.sl false (r.map eQ)]
def ofColsW (y:Nat→List Rat) (n w:Nat):List (List Rat):=(List.range n).map fun i:Nat=>(List.range w).map fun c=>(y c).getD i 0
theorem fz_full_map {n:Nat} {l:List (List Rat)} (h:l.length=n):(fz none (l.map some) n).map encJ=eM l:=by
 rw[fz_full (by simpa using h),List.map_map]
 rfl
theorem sol_diag {m0 m:List (List Rat)} {K n W c:Nat} {P:List Nat} {odd:Bool} {l:Rat} (hE:Elm m0 K W n m P c odd l) (hP:P.length=n) (hml:m.length=n):Tri (atQ m) n:=by
 have hc:c=n:=by have:=hE.ech.le;have:=hE.cc;omega
 subst hc
 exact hE.ech.tri fun i hi=>by
  obtain ⟨q,hq⟩ : ∃ q,P[i]? = some q:=⟨_,zE (by omega)⟩
  rw[hq,hE.ech.diag hP i q hq]
theorem sol_facts {m0 m a b:List (List Rat)} {K n w c:Nat} {P:List Nat} {odd:Bool} {l:Rat} (hE:Elm m0 K (n+w) n m P c odd l) (hs:Scl m0 (join2 a b)) (hl:a.length=b.length) (haw : ∀ r∈a,r.length=n) (hbw : ∀ r∈b,r.length=w) (hP:P.length=n) (hml:m.length=n) :
  ∀ c',c'<w → ∀ (i:Nat) (r s:List Rat),a[i]? = some r→b[i]? = some s→dotQ r ((bsQ (n+c') l m 0).map (· / l))=s.getD c' 0:=by
 intro c' hc' i r s hr hs'
 have ht:=sol_diag hE hP hml
 have hlen:=hE.ech.lr
 refine col_sol (fun X=>(hE.ker X).trans (hs.ker X)) hl haw hbw hc' (by rw[List.length_map,bsQ_len];exact hml) hlen (fun x hx => ?_) hr hs'
 have h1:=bs_sol (c:=n+c') (l:=l) (fun r hr=>by rw[hlen r hr];omega) hml ht x hx
 have hyl:((bsQ (n+c') l m 0).map (· * l⁻¹)).length=n:=by rw[List.length_map,bsQ_len];exact hml
 rw[show ((bsQ (n+c') l m 0).map (· / l))=(bsQ (n+c') l m 0).map (· * l⁻¹) from List.map_congr_left fun z _=>Rat.div_def z l,dotQ_comm,←dotQ_all hyl,List.take_take,Nat.min_self,dotQ_all hyl,dotQ_smr,dotQ_comm,h1,Rat.mul_assoc,Rat.mul_inv_cancel _ hE.l0,Rat.mul_one]
theorem sol_whole (N:MatGLib L) (q q1 q2 q3:Bool) (a0 b0:List (List Rat)) (a:List (List Rat)) (n WW k:Nat) {K:Nat} (hal:a.length=n) (haw : ∀ r∈a,r.length=WW) (hn:1≤n∧n≤52) (hW:WW≤104) (hab:Ms k a) (hsb0 : ∀ r∈a,∀ j,Bt K (scQ (r.take j))) (hkK:k≤K) (hKB:K≤1000000000000) {kk:List It} {Q:Tm→Mem→Prop}
  (hfin:AKM L kk ([(5,.row 231019 0 3 0 n),(4,.row 231016 0 1 0 n)]++[(1000+43,.row 22 0 1 0 n),(1000+26,.bool false),(1000+25,.int .i64 n),(1000+24,.int .i64 n),(1000+7,.row 22 0 1 0 n),(1000+6,.int .i64 n),(1000+0,.sl q (eMq q1 a0)),(1000+(0+1),.sl q2 (eMq q3 b0))]) ([(231016,231016,.mx (mxR 3 eQ (whole a))),(231019,231019,.rw 3 ((a.map scQ).map eQ))]++[(22,22,.rw 1 (eM a))]) Q) :
  AKM L (.lp linear_wholeRows.l1 :: .blk 0::kk) ([(22,.int .i64 0),(21,.int .i64 n),(20,.row 22 0 1 0 n),(5,.row 231019 0 3 0 n),(4,.row 231016 0 1 0 n)]++[(1000+43,.row 22 0 1 0 n),(1000+26,.bool false),(1000+25,.int .i64 n),(1000+24,.int .i64 n),(1000+7,.row 22 0 1 0 n),(1000+6,.int .i64 n),(1000+0,.sl q (eMq q1 a0)),(1000+(0+1),.sl q2 (eMq q3 b0))]) ([(231016,231016,.mx (List.replicate n none)),(231019,231019,.rw 3 ((List.replicate n none).map eO))]++[(22,22,.rw 1 (eM a))]) Q:=by
 have hI:=ev_rational_Of N.toRatGLib 1 (by omega)
 refine AKM.cut (l:=[_,_]) rfl ?_
 refine AKM.loop1 (fun i=>n-i) (fun (i:Nat)=>i≤n) (fun i=>[(22,.int .i64 i)]) (fun i=>[(231016,231016,.mx (mz (whole a) n i)),(231019,231019,.rw 3 ((fillO ((a.map scQ).take i) n).map eO))]) [] [] 0 (by first|exact (by (conv=>whnf);exact ⟨rfl,rfl,rfl⟩)|(rw[←mz_zero (whole a),List.take_zero,←fillO_nil];exact (by (conv=>whnf);exact ⟨rfl,rfl,rfl⟩))) (by omega) ?_
 intro i p1 ih
 have hzl:=mz_len (Q:=whole a) p1
 by_cases hi:i<n
 ·obtain ⟨r,hr⟩ : ∃ r,a[i]? = some r:=⟨_,zE (by omega)⟩
  have hr':a[(i:Int).toNat]? = some r:=hr
  have hrl:=haw r (zM hr)
  have hrb:=hab.at hr
  have hst:=mz_set (Q:=whole a) (i:=i) (n:=n) (row:=r.map (· * scQ r)) (by simp [whole,hr]) hi
  have hsca:(a.map scQ)[i]? = some (scQ r):=by simp [hr]
  generalize mz (whole a) n i=R0 at *
  have hsb : ∀ j,Bt K (scQ (r.take j)):=hsb0 r (zM hr)
  have hscr:=hsb WW
  rw[List.take_of_length_le (by omega)]at hscr
  (repeat' (first|(refine CmpP.go (fun hc => ?_) (fun hc => ?_)<;>first|(exfalso;omega)|(conv=>whnf))|(refine Req.go ?_ ?_;omega;conv=>whnf)|(refine LenP.go ?_;conv=>whnf)|(refine LdR.nat ?_ (fun _=>rfl) (fun v hv => ?_);omega;conv=>whnf)|(refine AKM.x ?_;conv=>whnf)|(refine CallP.go (hI) ?_;conv=>whnf)))
  try cases hr.symm.trans hv
  refine AKM.loop2 (fun j _=>WW-j) (fun (j:Nat) (s:Rat)=>j≤WW∧s=scQ (r.take j)) (fun j _=>[(30,.int .i64 j)]) (fun _ s=>[(231008,231008,.bx (eQ s))]) [] [] 0 ((1:Int):Rat) (by (conv=>whnf);exact ⟨rfl,rfl,rfl⟩) ⟨by omega,by rw[List.take_zero];rfl⟩ ?_
  intro j s ⟨p2,p3⟩ jh
  by_cases hj:j<WW
  ·obtain ⟨x,hx⟩ : ∃ x,r[j]? = some x:=⟨_,zE (by omega)⟩
   have hx':r[(j:Int).toNat]? = some x:=hx
   have hsj:Bt K s:=by rw[p3];exact hsb j
   have bx:=hrb.at hx
   have hM1:=ev_mulQ N.toRatGLib hsj bx (by omega) (by omega)
   have hM2:=ev_mulDen N.toRatGLib true hsj (hsj.mul bx).2 (by omega) (by omega)
   have hnx:scQ (r.take (j+1))=s*(((s*x).den:Nat):Rat):=by rw[take_snoc' hx,scQ_snoc,←p3];rfl
   (repeat' (first|(refine CmpP.go (fun hc => ?_) (fun hc => ?_)<;>first|(exfalso;omega)|(conv=>whnf))|(refine OpP.add ?_ ?_;omega;conv=>whnf)|(refine RdP.at (by assumption) ?_ rfl ?_;omega;conv=>whnf)|(refine SnR.e1 rfl ?_;conv=>whnf)|(refine AKM.x ?_;conv=>whnf)|(refine CallP.go (hM1) ?_;conv=>whnf)|(refine CallP.go (hM2) ?_;conv=>whnf)))
   exact AKM.back [] (by (conv=>whnf);exact ⟨rfl,rfl,rfl⟩) (jh (j+1) _ (by omega) ⟨by omega,hnx.symm⟩)
  have ej:j=WW:=by omega
  clear jh
  rw[List.take_of_length_le (by omega)]at p3
  subst p3
  (repeat' (first|(refine CmpP.go (fun hc => ?_) (fun hc => ?_)<;>first|(exfalso;omega)|(conv=>whnf))|(refine LenP.go ?_;conv=>whnf)|(refine AKM.x ?_;conv=>whnf)))
  rw[hrl]
  refine MkR.go (enc:=eO) none WW rfl (by omega) (by omega) ?_
  (conv=>whnf)
  (repeat' (first|(refine Req.go ?_ ?_;omega;conv=>whnf)|fail))
  refine Req.go (by simp) ?_
  refine SetM.fz (i:=i) (by omega) (by omega) ?_
  (conv=>whnf)
  (repeat' (refine LenP.go ?_;conv=>whnf))
  refine AKM.loop1 (fun j=>WW-j) (fun (j:Nat)=>j≤WW) (fun j=>[(53,.int .i64 j)]) (fun j=>[(231016,231016,.mx (R0.set i (some (3,(fillO ((r.map (· * scQ r)).take j) WW).map eO))))]) [] [] 0 (by first|exact (by (conv=>whnf);exact ⟨rfl,rfl,rfl⟩)|(rw[List.take_zero,←fillO_nil];exact (by (conv=>whnf);exact ⟨rfl,rfl,rfl⟩))) (by omega) ?_
  intro j r2 jh
  have htj:((r.map (· * scQ r)).take j).length=j:=by rw[List.length_take,List.length_map];omega
  have hlf:=fillO_len (l:=(r.map (· * scQ r)).take j) (m:=WW) (by omega)
  by_cases hj:j<WW
  ·obtain ⟨x,hx⟩ : ∃ x,r[j]? = some x:=⟨_,zE (by omega)⟩
   have hx':r[(j:Int).toNat]? = some x:=hx
   have bx:=hrb.at hx
   have hM1:=ev_mulQ N.toRatGLib bx hscr (by omega) (by omega)
   have hs:=fillO_set (l:=(r.map (· * scQ r)).take j) (m:=WW) (x:=x*scQ r) (by omega)
   rw[htj,←take_snoc' (show (r.map (· * scQ r))[j]? = some (x*scQ r) by rw[List.getElem?_map,hx];rfl)]at hs
   generalize fillO ((r.map (· * scQ r)).take j) WW=W0 at *
   (repeat' (first|(refine CmpP.go (fun hc => ?_) (fun hc => ?_)<;>first|(exfalso;omega)|(conv=>whnf))|(refine Req.go ?_ ?_;omega;conv=>whnf)|(refine RdP.at (by assumption) ?_ rfl ?_;omega;conv=>whnf)|(refine AKM.x ?_;conv=>whnf)))
   refine LdM.st (by omega) (by omega) ?_
   (conv=>whnf)
   (repeat' (refine CallP.go (hM1) ?_;conv=>whnf))
   refine Req.go (by rw[List.length_map];omega) ?_
   (conv=>whnf)
   skip
   refine GetM.st (by omega) (by omega) ?_
   (conv=>whnf)
   refine StR.nat (enc:=eO) (some (x*scQ r)) rfl (fun e=>by cases e<;>rfl) (by omega) ?_
   (conv=>whnf)
   rw[hs]
   refine PutM.st (by omega) (by rw[List.length_map,List.length_map,←hs,List.length_set]) ?_
   (conv=>whnf)
   (repeat' (refine OpP.add ?_ ?_;omega;conv=>whnf))
   exact AKM.back [] (by (conv=>whnf);exact ⟨rfl,rfl,rfl⟩) (jh (j+1) (by omega) (by omega))
  have ej:j=WW:=by omega
  clear jh
  rw[List.take_of_length_le (by rw[List.length_map];omega),fillO_full (by rw[List.length_map];exact hrl),hst]
  have hti:((a.map scQ).take i).length=i:=by rw[List.length_take,List.length_map];omega
  have hfi:=fillO_len (l:=(a.map scQ).take i) (m:=n) (by omega)
  have hfs:=fillO_set (l:=(a.map scQ).take i) (m:=n) (x:=scQ r) (by omega)
  rw[hti,←take_snoc' hsca]at hfs
  generalize fillO ((a.map scQ).take i) n=W1 at *
  (repeat' (first|(refine CmpP.go (fun hc => ?_) (fun hc => ?_)<;>first|(exfalso;omega)|(conv=>whnf))|(refine Req.go ?_ ?_;omega;conv=>whnf)|(refine AKM.x ?_;conv=>whnf)))
  refine StR.nat (enc:=eO) (some (scQ r)) rfl (fun e=>by cases e<;>rfl) (by omega) ?_
  (conv=>whnf)
  rw[hfs]
  (repeat' (refine OpP.add ?_ ?_;omega;conv=>whnf))
  exact AKM.back [] (by (conv=>whnf);exact ⟨rfl,rfl,rfl⟩) (ih (i+1) (by omega) (by omega))
 have ei:i=n:=by omega
 clear ih
 rw[ei,mz_full (by simp [whole,hal]),List.take_of_length_le (by rw[List.length_map];omega),fillO_full (by rw[List.length_map];exact hal)]
 (repeat' (first|(refine CmpP.go (fun hc => ?_) (fun hc => ?_)<;>first|(exfalso;omega)|(conv=>whnf))|(refine AKM.x ?_;conv=>whnf)))
 exact AKM.back [] (by (conv=>whnf);exact ⟨rfl,rfl,rfl⟩) hfin
theorem sol_sweep (N:MatGLib L) (q2 q3:Bool) (b0 jm:List (List Rat)) {m0 m1:List (List Rat)} {n cw WW K0 c:Nat} {P:List Nat} {o:Bool} {l:Rat} {rp:List Rat} (sc:List Rat) (hm0l:m0.length=n) (hn:1≤n∧n≤52) (hW:cw≤WW) (hW2:WW≤104) (hK0:1≤K0) (hB:6^n*K0≤1000000000000) (hP:P.length<n) (hcn:c<cw) (hS:Swp m0 K0 WW cw P c o l rp m1 (P.length+1)) {kk:List It} {Q:Tm→Mem→Prop}
  (hfin : ∀ m2,Swp m0 K0 WW cw P c o l rp m2 n→AKM L kk ([(9,.bool o),(8,.int .i64 c),(7,.int .i64 (P.length:Nat)),(10,.ptr 233010 0 0 0),(5,.ptr 233005 0 0 0),(0,.row 231016 0 1 0 n),(0+1,.int .i64 cw)]++[(1000+49,.int .i64 n),(1000+48,.row 231016 0 1 0 n),(1000+9,.row 231016 0 1 0 n),(1000+6,.int .i64 n),(1000+(0+1),.sl q2 (eMq q3 b0))]) ([(231016,231016,.mx (mxR 3 eQ m2)),(233010,233010,.bx (eQ l)),(233005,233005,.bx [.bool false,.nil,.nil])]++[(22,22,.rw 1 (eM jm)),(231019,231019,.rw 3 (sc.map eQ))]) Q) :
  AKM L (.lp linear_eliminate.l4 :: .blk 6::kk) ([(12,.int .i64 ((P.length+1:Nat):Int)),(9,.bool o),(8,.int .i64 c),(7,.int .i64 (P.length:Nat)),(10,.ptr 233010 0 0 0),(5,.ptr 233005 0 0 0),(0,.row 231016 0 1 0 n),(0+1,.int .i64 cw)]++[(1000+49,.int .i64 n),(1000+48,.row 231016 0 1 0 n),(1000+9,.row 231016 0 1 0 n),(1000+6,.int .i64 n),(1000+(0+1),.sl q2 (eMq q3 b0))]) ([(231016,231016,.mx (mxR 3 eQ m1)),(233010,233010,.bx (eQ l)),(233005,233005,.bx [.bool false,.nil,.nil])]++[(22,22,.rw 1 (eM jm)),(231019,231019,.rw 3 (sc.map eQ))]) Q:=by
 refine AKM.cut (l:=[_,_]) rfl ?_
 refine AKM.loop2 (fun _ i=>n-i) (fun (m:List (List Rat)) (i:Nat)=>Swp m0 K0 WW cw P c o l rp m i∧P.length+1≤i∧i≤n) (fun _ i=>[(12,.int .i64 i)]) (fun m _=>[(231016,231016,.mx (mxR 3 eQ m))]) [] [] m1 (P.length+1) (by (conv=>whnf);exact ⟨rfl,rfl,rfl⟩) ⟨hS,by omega,by omega⟩ ?_
 clear hS
 intro m2 i ⟨hS,j1,j2⟩ sh
 have hml2:=hS.len
 rw[hm0l]at hml2
 by_cases hj:i<n
 ·obtain ⟨rq,hq0⟩ : ∃ r,m2[i]? = some r:=⟨_,zE (by omega)⟩
  have ht0':=hS.ht
  have hrql:=hS.ech.lr rq (zM hq0)
  have htl:=hS.ech.lr rp (zM ht0')
  (repeat' (first|(refine CmpP.go (fun hc => ?_) (fun hc => ?_)<;>first|(exfalso;omega)|(conv=>whnf))|(refine Req.go ?_ ?_;omega;conv=>whnf)|(refine LdM.nat ?_ (fun r hr => ?_);omega;conv=>whnf)|(refine AKM.x ?_;conv=>whnf)))
  rename_i rA hrA
  cases hq0.symm.trans hrA
  cases ht0'.symm.trans hr
  rw[show 0+((i:Nat):Int).toNat=i by omega,show 0+((P.length:Nat):Int).toNat=P.length by omega,show (List.map eQ rq).length=WW by rw[List.length_map];exact hrql,show (List.map eQ rp).length=WW by rw[List.length_map];exact htl]
  have hqc0:rq[c]? = some (rq.getD c 0):=getD_someH (by omega)
  refine CalP.walk 1000 N.linear_sweep rfl rfl ?_
  have hpc0:rp[c]? = some (rp.getD c 0):=getD_someH (by omega)
  have hst2:=hS.step (by omega) hq0
  have hcl:(comb (rp.getD c 0) (rq.getD c 0) l rq rp).length=WW:=by rw[comb_len (by omega)];exact hrql
  have hcg:=fun j=>comb_getD (p:=rp.getD c 0) (f:=rq.getD c 0) (l:=l) (r:=rq) (t:=rp) (by omega) j
  have hz1:=fun j (h:j<c)=>hS.ech.zr i rq (by omega) hq0 j h
  have hz2:=fun j (h:j<c)=>hS.ech.zr P.length rp (Nat.le_refl _) ht0' j h
  have hbq:=hS.hi i rq (Nat.le_refl i) hq0
  have hbp:=hS.bt
  have hbl:=hS.bl
  have hl0:=hS.l0
  have hbpc:=hbp.at hpc0
  have hbqc:=hbq.at hqc0
  generalize hpv:rp.getD c 0=pv at *
  generalize hfv:rq.getD c 0=fv at *
  generalize hcb:comb pv fv l rq rp=cb at *
  have hmix0:cb.take c++rq.drop c=rq:=mix_start (by omega) fun j hj=>⟨by rw[hcg,hz1 j hj,hz2 j hj,Rat.zero_mul,Rat.zero_mul,Rat.sub_eq_add_neg,Rat.neg_zero,Rat.add_zero,Rat.div_def,Rat.zero_mul],hz1 j hj⟩
  have hRi:=mxR_at (z:=3) hq0
  have hRp:=mxR_at (z:=3) ht0'
  have hRn:(mxR 3 eQ m2).length=n:=by simp only[mxR,List.length_map];omega
  have hRf:(mxR 3 eQ m2).set i (some (3,cb.map eQ))=mxR 3 eQ (m2.set i cb):=by simp only[mxR,List.map_set]
  generalize mxR 3 eQ m2=R2 at *
  have hR0:R2.set i (some (3,rq.map eQ))=R2:=set_same hRi
  (repeat' (first|(refine Req.go ?_ ?_;omega;conv=>whnf)|(refine AKM.x ?_;conv=>whnf)))
  refine GetM.at' hRp ?_
  (conv=>whnf)
  (repeat' (first|(refine Req.go ?_ ?_;omega;conv=>whnf)|(refine LdR.nat ?_ (fun _=>rfl) (fun v hv => ?_);omega;conv=>whnf)))
  cases hpc0.symm.trans hv
  skip
  refine GetM.at' hRi ?_
  (conv=>whnf)
  (repeat' (refine LdR.nat ?_ (fun _=>rfl) (fun v hv => ?_);omega;conv=>whnf))
  cases hqc0.symm.trans hv
  skip
  have hp7:=Nat.le_trans (pow6 hK0 P.length) (pow6le hB (show P.length+1≤n by omega))
  generalize 6^P.length*K0=BB at *
  refine AKM.loop1 (fun j=>WW-j) (fun (j:Nat)=>c≤j∧j≤WW) (fun j=>[(10,.int .i64 j)]) (fun j=>[(231016,231016,.mx (R2.set i (some (3,(cb.take j++rq.drop j).map eQ))))]) [] [] c (by first|exact (by (conv=>whnf);exact ⟨rfl,rfl,rfl⟩)|(rw[hmix0,hR0];exact (by (conv=>whnf);exact ⟨rfl,rfl,rfl⟩))) ⟨by omega,by omega⟩ ?_
  intro j ⟨k1,k2⟩ jh
  have hml:(cb.take j++rq.drop j).length=WW:=by rw[List.length_append,List.length_take,List.length_drop];omega
  by_cases hjn:j<WW
  ·obtain ⟨x,hx⟩ : ∃ x,rq[j]? = some x:=⟨_,zE (by omega)⟩
   obtain ⟨y,hy⟩ : ∃ y,rp[j]? = some y:=⟨_,zE (by omega)⟩
   have hcj:cb[j]? = some ((x*pv-y*fv)/l):=by rw[←hcb];exact comb_at hx hy
   have hma:=mix_at (a:=cb) (by omega) hx
   have hms:=mix_set (b:=rq) (by omega) hcj
   have bx:=hbq.at hx
   have by':=hbp.at hy
   have hM1:=ev_mulQ N.toRatGLib bx hbpc (by omega) (by omega)
   have hM2:=ev_mulQ N.toRatGLib by' hbqc (by omega) (by omega)
   have hSu:=ev_subQ N.toRatHLib (bx.mul hbpc) (by'.mul hbqc) (by omega) (by omega)
   have hDi:=ev_divQ N.toRatGLib ((bx.mul hbpc).subL (by'.mul hbqc)) hbl (by omega) (by omega) hl0
   have hRp2:(R2.set i (some (3,(cb.take j++rq.drop j).map eQ)))[P.length]? = some (some (3,rp.map eQ)):=by rw[List.getElem?_set,if_neg (by omega)];exact hRp
   generalize cb.take j++rq.drop j=cm at *
   (repeat' (first|(refine CmpP.go (fun hc => ?_) (fun hc => ?_)<;>first|(exfalso;omega)|(conv=>whnf))|(refine Req.go ?_ ?_;omega;conv=>whnf)|(refine AKM.x ?_;conv=>whnf)))
   refine GetM.st rfl (by omega) ?_
   (conv=>whnf)
   (repeat' (refine LdR.nat ?_ (fun _=>rfl) (fun v hv => ?_);omega;conv=>whnf))
   cases hma.symm.trans hv
   (repeat' (first|(refine Req.go ?_ ?_;omega;conv=>whnf)|(refine CallP.go (hM1) ?_;conv=>whnf)))
   refine GetM.at' hRp2 ?_
   (conv=>whnf)
   (repeat' (refine LdR.nat ?_ (fun _=>rfl) (fun v hv => ?_);omega;conv=>whnf))
   cases hy.symm.trans hv
   (repeat' (first|(refine CallP.go (hM2) ?_;conv=>whnf)|(refine CallP.go (hSu) ?_;conv=>whnf)))
   (repeat' (first|(refine Req.go ?_ ?_;omega;conv=>whnf)|(refine CallP.go (hDi) ?_;conv=>whnf)))
   refine GetM.st rfl (by omega) ?_
   (conv=>whnf)
   refine StR.nat (enc:=eQ) ((x*pv-y*fv)/l) rfl (fun _=>rfl) (by omega) ?_
   rw[hms]
   (conv=>whnf)
   refine PutM.st rfl (by rw[List.length_map,List.length_map,←hms,List.length_set]) ?_
   (conv=>whnf)
   (repeat' (refine OpP.add ?_ ?_;omega;conv=>whnf))
   exact AKM.back [] (by (conv=>whnf);exact ⟨rfl,rfl,rfl⟩) (jh (j+1) (by omega) ⟨by omega,by omega⟩)
  ·have ej:j=WW:=by omega
   clear jh
   rw[List.take_of_length_le (by omega),List.drop_of_length_le (by omega),List.append_nil,hRf]
   (repeat' (first|(refine CmpP.go (fun hc => ?_) (fun hc => ?_)<;>first|(exfalso;omega)|(conv=>whnf))|(refine AKM.x ?_;conv=>whnf)))
   refine ⟨rfl,_,rfl,?_⟩
   (conv=>whnf)
   (repeat' (refine OpP.add ?_ ?_;omega;conv=>whnf))
   exact AKM.back [] (by (conv=>whnf);exact ⟨rfl,rfl,rfl⟩) (sh (m2.set i cb) (i+1) (by omega) ⟨hst2,by omega,by omega⟩)
 ·have ei:i=n:=by omega
  clear sh
  rw[ei]at hS
  (repeat' (first|(refine CmpP.go (fun hc => ?_) (fun hc => ?_)<;>first|(exfalso;omega)|(conv=>whnf))|(refine AKM.x ?_;conv=>whnf)))
  exact AKM.back [] (by (conv=>whnf);exact ⟨rfl,rfl,rfl⟩) (hfin m2 hS)
theorem ev_solveK (N:MatGLib L) (q q1 q2 q3:Bool) (a b:List (List Rat)) (n w k K0:Nat) (hal:a.length=n) (haw : ∀ r∈a,r.length=n) (hbl:b.length=n) (hbw : ∀ r∈b,r.length=w) (hn:1≤n∧n≤52) (hw:1≤w∧w≤52) (hkK:k≤K0) (hK0:1≤K0) (hab:Ms k a) (hbb:Ms k b)
  (hsb0 : ∀ r∈join2 a b,∀ j,Bt K0 (scQ (r.take j))) (hwb:Ms K0 (whole (join2 a b)))
  (hB:6^n*K0≤1000000000000) (hC:clB (6^n*K0) n n≤1000000000000) {B0:Nat} (hB0:clB (6^n*K0) n n+6^n*K0≤B0) :
  ∃ v,Ev L 235 [.sl q (eMq q1 a),.sl q2 (eMq q3 b)] v∧((¬ NS n a∧v = .tup [.sl false [],.int .i64 11])∨(NS n a ∧ ∃ y:Nat→List Rat,v = .tup [.sl false (eM (ofColsW y n w)),.int .i64 0] ∧
   ∀ c,c<w→(y c).length=n∧Bs B0 (y c) ∧ ∀ (i:Nat) (r s:List Rat),a[i]? = some r→b[i]? = some s→dotQ r (y c)=s.getD c 0)):=by
 have hI:=ev_rational_Of N.toRatGLib 1 (by omega)
 have hjl:(join2 a b).length=n:=by simp [join2,hal,hbl]
 have hjw : ∀ r∈join2 a b,r.length=n+w:=fun r hr=>by
  obtain ⟨i,hi⟩:=List.getElem?_of_mem hr
  have hil:=(zS hi).1
  obtain ⟨x,hx⟩ : ∃ x,a[i]? = some x:=⟨_,zE (by omega)⟩
  obtain ⟨y,hy⟩ : ∃ y,b[i]? = some y:=⟨_,zE (by omega)⟩
  obtain rfl:=Option.some.inj ((join_at hx hy).symm.trans hi)
  rw[List.length_append,haw x (zM hx),hbw y (zM hy)]
 have hjb:Ms k (join2 a b):=fun r hr=>by
  obtain ⟨i,hi⟩:=List.getElem?_of_mem hr
  have hil:=(zS hi).1
  obtain ⟨x,hx⟩ : ∃ x,a[i]? = some x:=⟨_,zE (by omega)⟩
  obtain ⟨y,hy⟩ : ∃ y,b[i]? = some y:=⟨_,zE (by omega)⟩
  obtain rfl:=Option.some.inj ((join_at hx hy).symm.trans hi)
  intro z hz
  rcases List.mem_append.1 hz with hz|hz
  ·exact hab.at hx z hz
  ·exact hbb.at hy z hz
 refine Ev.xE N.linear_solve rfl rfl ?_
 (repeat' (first|(refine LenP.go ?_;conv=>whnf)|(refine AKM.x ?_;conv=>whnf)))
 unfold MkM
 refine ⟨⟨by omega,by omega,by simp only[roomMax];omega,by omega⟩,?_⟩
 rw[Int.toNat_natCast,hal]
 (conv=>whnf)
 skip
 refine AKM.mxN 22 22 n rfl ?_
 refine AKM.loop1 (fun i=>n-i) (fun (i:Nat)=>i≤n) (fun i=>[(25,.int .i64 i)]) (fun i=>[(22,22,.rw 1 ((fz none (((join2 a b).take i).map some) n).map encJ))]) [] [] 0 (by first|exact (by (conv=>whnf);exact ⟨rfl,rfl,rfl⟩)|(rw[List.take_zero,List.map_nil,show fz (none:Option (List Rat)) [] n=List.replicate n none by simp [fz],List.map_replicate];exact (by (conv=>whnf);exact ⟨rfl,rfl,rfl⟩))) (by omega) ?_
 intro i p1 ih
 by_cases hi:i<n
 ·obtain ⟨r,hr0⟩ : ∃ r,a[i]? = some r:=⟨_,zE (by omega)⟩
  obtain ⟨s,hs0⟩ : ∃ s,b[i]? = some s:=⟨_,zE (by omega)⟩
  have hr':a[(i:Int).toNat]? = some r:=hr0
  have hs':b[(i:Int).toNat]? = some s:=hs0
  have hrl:=haw r (zM hr0)
  have hsl:=hbw s (zM hs0)
  have hCc:=ev_Concat N true q1 q3 r s (by omega) (by omega) (by omega)
  have hti:(((join2 a b).take i).map some).length=i:=by rw[List.length_map,List.length_take];omega
  have hfl:=fz_len (z:=(none:Option (List Rat))) (l:=((join2 a b).take i).map some) (m:=n) (by omega)
  have hfs:=fz_set (z:=(none:Option (List Rat))) (x:=some (r++s)) (l:=((join2 a b).take i).map some) (m:=n) (by omega)
  have hta:(join2 a b).take (i+1)=(join2 a b).take i++[r++s]:=by rw[List.take_add_one,join_at hr0 hs0];rfl
  rw[hti,show ((join2 a b).take i).map some++[some (r++s)]=((join2 a b).take (i+1)).map some by rw[hta,List.map_append];rfl]at hfs
  generalize fz (none:Option (List Rat)) (((join2 a b).take i).map some) n=J at *
  (repeat' (first|(refine CmpP.go (fun hc => ?_) (fun hc => ?_)<;>first|(exfalso;omega)|(conv=>whnf))|(refine Req.go ?_ ?_;omega;conv=>whnf)|(refine RdP.at (by assumption) ?_ rfl ?_;omega;conv=>whnf)|(refine SnR.e2 rfl rfl ?_;conv=>whnf)|(refine AKM.x ?_;conv=>whnf)|(refine CallP.go (hCc) ?_;conv=>whnf)))
  refine StR.nat (enc:=encJ) (some (r++s)) rfl (fun e=>by cases e<;>rfl) (by omega) ?_
  (conv=>whnf)
  rw[hfs]
  (repeat' (refine OpP.add ?_ ?_;omega;conv=>whnf))
  exact AKM.back [] (by (conv=>whnf);exact ⟨rfl,rfl,rfl⟩) (ih (i+1) (by omega) (by omega))
 have ei:i=n:=by omega
 clear ih
 rw[ei,List.take_of_length_le (by omega),fz_full_map hjl]
 (repeat' (first|(refine CmpP.go (fun hc => ?_) (fun hc => ?_)<;>first|(exfalso;omega)|(conv=>whnf))|(refine AKM.x ?_;conv=>whnf)))
 have hKB:K0≤1000000000000:=by simpa using pow6le hB (Nat.zero_le n)
 refine CalP.walk 1000 N.linear_wholeRows rfl rfl ?_
 (repeat' (refine AKM.x ?_;conv=>whnf))
 unfold MkM
 refine ⟨⟨by omega,by omega,by simp only[roomMax];omega,by omega⟩,?_⟩
 rw[Int.toNat_natCast]
 (conv=>whnf)
 skip
 refine MkR.go (enc:=eO) none n rfl (by omega) (by omega) ?_
 (conv=>whnf)
 skip
 refine AKM.back [] (by (conv=>whnf);exact ⟨rfl,rfl,rfl⟩) (sol_whole N q q1 q2 q3 a b (join2 a b) n (n+w) k hjl hjw hn (by omega) hjb hsb0 hkK hKB ?_)
 (repeat' (refine AKM.x ?_;conv=>whnf))
 refine ⟨rfl,_,rfl,?_⟩
 (conv=>whnf)
 skip
 have hW2:n+w≤104:=by omega
 have hW:n≤n+w:=by omega
 have hm0l:(whole (join2 a b)).length=n:=by simp only[whole,List.length_map];exact hjl
 have hm0w:=whole_len hjw
 have hm0b:=hwb
 have hm0s:=whole_scl (join2 a b)
 have hjj:a.length=b.length:=by omega
 clear hjb hjw hab hbb hKB ei hi p1 i hsb0 hwb hkK
 generalize whole (join2 a b)=m0 at hm0l hm0w hm0b hm0s ⊢
 refine CalP.walkC 1000 N.linear_eliminate rfl rfl ?_
 (repeat' (first|(refine AKM.x ?_;conv=>whnf)|(refine CallP.go (hI) ?_;conv=>whnf)))
 refine AKM.loop5 (fun _ P _ _ _=>n-P.length) (fun (m:List (List Rat)) (P:List Nat) (c:Nat) (odd:Bool) (l:Rat)=>Elm m0 K0 (n+w) n m P c odd l) (fun _ P c odd _=>[(7,.int .i64 (P.length:Nat)),(8,.int .i64 c),(9,.bool odd)]) (fun m _ _ _ l=>[(231016,231016,.mx (mxR 3 eQ m)),(233010,233010,.bx (eQ l))]) [] [] m0 [] 0 false ((1:Int):Rat) (by (conv=>whnf);exact ⟨rfl,rfl,rfl⟩) (Elm.start hm0w hm0b) ?_
 intro m P c odd l hE eh
 have hml:=hE.len
 have hPl:=hE.ech.pl
 rw[hm0l]at hml
 by_cases hP:P.length<n
 ·have hp6:=pow6le hB (show P.length≤n by omega)
  (repeat' (first|(refine CmpP.go (fun hc => ?_) (fun hc => ?_)<;>first|(exfalso;omega)|(conv=>whnf))|(refine AKM.x ?_;conv=>whnf)))
  refine AKM.meet3 (l:=[_,_]) (fun (m1:List (List Rat)) (c:Nat) (o:Bool)=>Elm m0 K0 (n+w) n m1 P c o l∧(c<n → ∃ rp,m1[P.length]? = some rp∧rp.getD c 0≠0)) (fun _ c o=>[(8,.int .i64 c),(9,.bool o)]) (fun m1 _ _=>[(231016,231016,.mx (mxR 3 eQ m1))]) [17] rfl ?_ ?_
  ·clear hE hml hPl
   intro m1 c odd1 ⟨hE,hpv⟩
   have hml:=hE.len
   have hPl:=hE.ech.pl
   have hcc:=hE.cc
   rw[hm0l]at hml
   by_cases hcn:c<n
   ·obtain ⟨rp,hp0,hpn⟩:=hpv hcn
    clear hpv
    have hS:=hE.swp hcn hp0 hpn
    (repeat' (first|(refine CmpP.go (fun hc => ?_) (fun hc => ?_)<;>first|(exfalso;omega)|(conv=>whnf))|(refine OpP.add ?_ ?_;omega;conv=>whnf)|(refine AKM.x ?_;conv=>whnf)))
    refine AKM.back [] (by (conv=>whnf);exact ⟨rfl,rfl,rfl⟩) (sol_sweep N q2 q3 b (join2 a b) ((join2 a b).map scQ) hm0l hn hW hW2 hK0 hB hP hcn hS fun m2 hS => ?_)
    have ht0':=hS.ht
    have hrpl:=hS.ech.lr rp (zM ht0')
    have hpc0:rp[c]? = some (rp.getD c 0):=getD_someH (by omega)
    have hml2:=hS.len
    have hfin:=hS.done hK0 (by omega)
    have hPl2:(P++[c]).length=P.length+1:=by simp
    generalize rp.getD c 0=pv at hpc0 hfin
    clear hS hE hpn hp0
    (repeat' (first|(refine Req.go ?_ ?_;omega;conv=>whnf)|(refine LdM.nat ?_ (fun r hr => ?_);omega;conv=>whnf)|(refine AKM.x ?_;conv=>whnf)))
    cases ht0'.symm.trans hr
    refine Req.go (by rw[List.length_map];omega) ?_
    (conv=>whnf)
    (repeat' (first|(refine OpP.add ?_ ?_;omega;conv=>whnf)|(refine LdR.nat ?_ (fun _=>rfl) (fun v hv => ?_);omega;conv=>whnf)|(refine GetM.ati (by assumption) ?_;conv=>whnf)))
    cases hpc0.symm.trans hv
    skip
    rw[show ((P.length:Nat):Int)+1=((P++[c]).length:Nat) by rw[hPl2];omega]
    exact AKM.back [] (by (conv=>whnf);exact ⟨rfl,rfl,rfl⟩) (eh m2 (P++[c]) (c+1) _ pv (by rw[hPl2];omega) hfin)
   ·clear eh hpv
    (repeat' (first|(refine CmpP.go (fun hc => ?_) (fun hc => ?_)<;>first|(exfalso;omega)|(conv=>whnf))|(refine AKM.x ?_;conv=>whnf)))
    refine ⟨rfl,?_⟩
    (conv=>whnf)
    (repeat' (refine CmpP.go (fun hc => ?_) (fun hc => ?_)<;>first|(exfalso;omega)|(conv=>whnf)))
    have hend:n≤c∨n≤P.length:=Or.inl (by omega)
    have hrk:=elm_rank (w:=w) hE hm0s hjj haw hal hend
    skip
    refine ⟨.tup [.sl false [],.int .i64 11],?_,Or.inl ⟨fun h=>absurd (hrk.2 h) (by omega),rfl⟩⟩
    (conv=>whnf)
    exact FinP.go rfl (cl_matT [] 11)
  ·clear eh
   intro hmeet
   refine AKM.loop1 (fun c=>n-c) (fun (c:Nat)=>Elm m0 K0 (n+w) n m P c odd l) (fun c=>[(8,.int .i64 c)]) (fun _=>[]) [17] [] c (by (conv=>whnf);exact ⟨rfl,rfl,rfl⟩) hE ?_
   clear hE
   intro c hE ch
   have hcc:=hE.cc
   by_cases hcn:c<n
   ·(repeat' (first|(refine CmpP.go (fun hc => ?_) (fun hc => ?_)<;>first|(exfalso;omega)|(conv=>whnf))|(refine AKM.x ?_;conv=>whnf)))
    refine AKM.loop1 (fun i=>n-i) (fun (i:Nat)=>P.length≤i∧i≤n ∧ ∀ (q:Nat) (r:List Rat),P.length≤q→q<i→m[q]? = some r→r.getD c 0=0) (fun i=>[(11,.int .i64 i)]) (fun _=>[]) [] [] P.length (by (conv=>whnf);exact ⟨rfl,rfl,rfl⟩) ⟨Nat.le_refl _,by omega,fun q r h1 h2=>absurd h1 (by omega)⟩ ?_
    intro i ⟨i1,i2,i3⟩ ih
    by_cases hi:i<n
    ·obtain ⟨rp,hr0⟩ : ∃ r,m[i]? = some r:=⟨_,zE (by omega)⟩
     have hrl:=hE.ech.lr rp (zM hr0)
     have hrc0:rp[c]? = some (rp.getD c 0):=getD_someH (by omega)
     have hSg:=ev_signQ N.toRatGLib (hE.ms.at hr0 _ (zM hrc0)) (by omega)
     have hz:=sgn_num (x:=rp.getD c 0)
     generalize hrcv:rp.getD c 0=rc at *
     generalize sgn rc.num=sg at *
     by_cases hsg:sg=0
     ·(repeat' (first|(refine CmpP.go (fun hc => ?_) (fun hc => ?_)<;>first|(exfalso;omega)|(conv=>whnf))|(refine Req.go ?_ ?_;omega;conv=>whnf)|(refine LdM.nat ?_ (fun r hr => ?_);omega;conv=>whnf)|(refine AKM.x ?_;conv=>whnf)))
      cases hr0.symm.trans hr
      refine Req.go (by rw[List.length_map];omega) ?_
      (conv=>whnf)
      (repeat' (first|(refine LdR.nat ?_ (fun _=>rfl) (fun v hv => ?_);omega;conv=>whnf)|(refine GetM.ati (by assumption) ?_;conv=>whnf)))
      cases hrc0.symm.trans hv
      (repeat' (first|(refine CmpP.go (fun hc => ?_) (fun hc => ?_)<;>first|(exfalso;omega)|(conv=>whnf))|(refine OpP.add ?_ ?_;omega;conv=>whnf)|(refine CallP.go (hSg) ?_;conv=>whnf)))
      refine AKM.back [] (by (conv=>whnf);exact ⟨rfl,rfl,rfl⟩) (ih (i+1) (by omega) ⟨by omega,by omega,fun q x h1 h2 hx => ?_⟩)
      by_cases e:q=i
      ·subst e
       cases hr0.symm.trans hx
       rw[hrcv];exact hz.1 hsg
      ·exact i3 q x h1 (by omega) hx
     ·clear ih ch
      have hnz:rc≠0:=fun e=>hsg (hz.2 e)
      (repeat' (first|(refine CmpP.go (fun hc => ?_) (fun hc => ?_)<;>first|(exfalso;omega)|(conv=>whnf))|(refine Req.go ?_ ?_;omega;conv=>whnf)|(refine LdM.nat ?_ (fun r hr => ?_);omega;conv=>whnf)|(refine AKM.x ?_;conv=>whnf)))
      cases hr0.symm.trans hr
      refine Req.go (by rw[List.length_map];omega) ?_
      (conv=>whnf)
      (repeat' (first|(refine LdR.nat ?_ (fun _=>rfl) (fun v hv => ?_);omega;conv=>whnf)|(refine GetM.ati (by assumption) ?_;conv=>whnf)))
      cases hrc0.symm.trans hv
      (repeat' (first|(refine CmpP.go (fun hc => ?_) (fun hc => ?_)<;>first|(exfalso;omega)|(conv=>whnf))|(refine Req.go ?_ ?_;omega;conv=>whnf)|(refine LdM.nat ?_ (fun r hr => ?_);omega;conv=>whnf)|(refine GetM.ati (by assumption) ?_;conv=>whnf)|(refine CallP.go (hSg) ?_;conv=>whnf)))
      ·obtain ⟨t,ht0⟩ : ∃ t,m[P.length]? = some t:=⟨_,zE (by omega)⟩
       refine Req.go ⟨rfl,by simp only[mxR,List.length_map];omega⟩ ?_
       (conv=>whnf)
       (repeat' (first|(refine Req.go ?_ ?_;omega;conv=>whnf)|(refine GetM.ati (by assumption) ?_;conv=>whnf)))
       rw[show 0+((i:Nat):Int).toNat=i by omega,show 0+((P.length:Nat):Int).toNat=P.length by omega]
       refine Req.go ⟨rfl,by simp only[mxR,List.length_map,List.length_set,List.length_range];omega,vw_lt (by simp only[mxR,List.length_map];omega)⟩ ?_
       (conv=>whnf)
       skip
       have hE2:=hE.swap hr0 ht0 i1 (Nat.le_refl _) (by omega)
       have hS2:c<n → ∃ rp',((m.set i t).set P.length rp)[P.length]? = some rp'∧rp'.getD c 0≠0:=fun _=>⟨rp,by rw[List.getElem?_set,if_pos rfl,if_pos (by rw[List.length_set];omega)],by rw[hrcv];exact hnz⟩
       generalize hob:(!odd)=ob at *
       cases ob
       all_goals
        (conv=>whnf)
        skip
        refine Held.go ?_
        refine AKM.swap (k:=231016) (i:=i) (j:=P.length) rfl (mxR_at hr0) (mxR_at ht0) rfl rfl ?_
        rw[mxR_swap]
        exact AKM.back [] (by (conv=>whnf);exact ⟨rfl,rfl,rfl⟩) (hmeet _ c _ ⟨hE2,hS2⟩)
      ·have ei:i=P.length:=by omega
       exact Held.go (AKM.back [] (by (conv=>whnf);exact ⟨rfl,rfl,rfl⟩) (hmeet m c odd ⟨hE,fun _=>⟨rp,by rw[←ei];exact hr0,by rw[hrcv];exact hnz⟩⟩))
    ·have ei:i=n:=by omega
     clear ih
     (repeat' (first|(refine CmpP.go (fun hc => ?_) (fun hc => ?_)<;>first|(exfalso;omega)|(conv=>whnf))|(refine OpP.add ?_ ?_;omega;conv=>whnf)|(refine AKM.x ?_;conv=>whnf)))
     exact AKM.back [] (by (conv=>whnf);exact ⟨rfl,rfl,rfl⟩) (ch (c+1) (by omega) (hE.skip hcn fun q x h1 hx=>i3 q x h1 (by have:=(zS hx).1;omega) hx))
   ·clear ch
    (repeat' (first|(refine CmpP.go (fun hc => ?_) (fun hc => ?_)<;>first|(exfalso;omega)|(conv=>whnf))|(refine AKM.x ?_;conv=>whnf)))
    exact Held.go (AKM.back [] (by (conv=>whnf);exact ⟨rfl,rfl,rfl⟩) (hmeet m c odd ⟨hE,fun h=>absurd h hcn⟩))
 ·clear eh
  (repeat' (first|(refine CmpP.go (fun hc => ?_) (fun hc => ?_)<;>first|(exfalso;omega)|(conv=>whnf))|(refine AKM.x ?_;conv=>whnf)))
  refine ⟨rfl,?_⟩
  (conv=>whnf)
  (repeat' (refine CmpP.go (fun hc => ?_) (fun hc => ?_)<;>first|(exfalso;omega)|(conv=>whnf)))
  have hend:n≤c∨n≤P.length:=Or.inr (by omega)
  have hrk:=elm_rank (w:=w) hE hm0s hjj haw hal hend
  have hPn:P.length=n:=by have:=hE.ech.le;have:=hE.ech.pl;omega
  have hns:=hrk.1 hPn
  have hfac:=sol_facts hE hm0s hjj haw hbw hPn hml
  have htri:=sol_diag hE hPn hml
  have hmw:=hE.ech.lr
  have hms:=hE.ms
  have hbl0:=hE.bl
  have hl0:=hE.l0
  rw[hPn]at hms hbl0
  clear hE hrk hPl hm0b hm0w hm0s
  have hdg : ∀ (e:Nat) (r:List Rat),m[e]? = some r→r.getD e 0≠0:=fun e r hr=>by
   rw[←atQ_eq hr]
   exact (htri e (by have:=(zS hr).1;omega)).1
  skip
  unfold MkM
  refine ⟨⟨by omega,by omega,by simp only[roomMax];omega,by omega⟩,?_⟩
  rw[Int.toNat_natCast]
  (conv=>whnf)
  skip
  refine AKM.loop1 (fun u=>n-u) (fun (u:Nat)=>u≤n) (fun u=>[(61,.int .i64 u)]) (fun u=>[(58,58,.mx (List.replicate u (some (3,(fillO [] w).map eO))++List.replicate (n-u) none))]) [] [] 0 (by (conv=>whnf);exact ⟨rfl,rfl,rfl⟩) (by omega) ?_
  intro u r1 uh
  by_cases hu:u<n
  ·obtain ⟨s,hs0⟩ : ∃ s,b[u]? = some s:=⟨_,zE (by omega)⟩
   have hs':b[(u:Int).toNat]? = some s:=hs0
   have hsl:=hbw s (zM hs0)
   (repeat' (first|(refine CmpP.go (fun hc => ?_) (fun hc => ?_)<;>first|(exfalso;omega)|(conv=>whnf))|(refine LenP.go ?_;conv=>whnf)|(refine RdP.at (by assumption) ?_ rfl ?_;omega;conv=>whnf)|(refine AKM.x ?_;conv=>whnf)))
   rw[hsl]
   refine MkR.go (enc:=eO) none w rfl rfl (by omega) ?_
   (conv=>whnf)
   (repeat' (first|(refine Req.go ?_ ?_;omega;conv=>whnf)|fail))
   unfold Req SetM
   refine ⟨by simp,by simp;omega,?_⟩
   (conv=>whnf)
   rw[show 0+((u:Int)).toNat=u by omega,←fillO_nil,fillM_set _ _ r1 hu]
   (repeat' (refine OpP.add ?_ ?_;omega;conv=>whnf))
   exact AKM.back [] (by (conv=>whnf);exact ⟨rfl,rfl,rfl⟩) (uh (u+1) (by omega) (by omega))
  have eu:u=n:=by omega
  subst eu
  clear uh
  obtain ⟨y,hy⟩ : ∃ y:Nat→List Rat,y=fun c'=>(bsQ (u+c') l m 0).map (· / l):=⟨_,rfl⟩
  have hyl : ∀ c',(y c').length=u:=fun c'=>by rw[hy,List.length_map,bsQ_len];exact hml
  have hRl:(ofColsW y u w).length=u:=by simp [ofColsW]
  have hRat : ∀ e,e<u→(ofColsW y u w)[e]? = some ((List.range w).map fun c'=>(y c').getD e 0):=fun e he=>by simp [ofColsW,he]
  have hRw : ∀ r∈ofColsW y u w,r.length=w:=fun r hr=>by
   obtain ⟨i,_,rfl⟩:=List.mem_map.1 hr
   simp
  rw[show List.replicate u (some (3,List.map eO (fillO [] w)))++List.replicate (u-u) none=mxR 3 eO (ot (ofColsW y u w) w 0 0) by rw[ot_zero,hRl];simp [mxR]]
  obtain ⟨s0,hs0⟩ : ∃ s,b[0]? = some s:=⟨_,zE (by omega)⟩
  have hs0':b[(0:Int).toNat]? = some s0:=hs0
  have hs0l:=hbw s0 (zM hs0)
  generalize hRg:ofColsW y u w=R at hRl hRat hRw ⊢
  (repeat' (first|(refine CmpP.go (fun hc => ?_) (fun hc => ?_)<;>first|(exfalso;omega)|(conv=>whnf))|(refine LenP.go ?_;conv=>whnf)|(refine RdP.at (by assumption) ?_ rfl ?_;omega;conv=>whnf)|(refine AKM.x ?_;conv=>whnf)))
  rw[hs0l]
  refine AKM.loop1 (fun c=>w-c) (fun (c:Nat)=>c≤w) (fun c=>[(78,.int .i64 c)]) (fun c=>[(58,58,.mx (mxR 3 eO (ot R w c 0)))]) [] [] 0 (by (conv=>whnf);exact ⟨rfl,rfl,rfl⟩) (by omega) ?_
  intro c' r2 ch
  by_cases hc2:c'<w
  ·have hCol:=ev_column N true true m u (u+w) (u+c') (6^u*K0) l hml hmw (by omega) (by omega) (by omega) (by omega) hdg hms hbl0 (by omega)
   have hbs:=bsQ_bs (c:=u+c') (n:=u) hbl0 m 0 (by omega) hms
   have hxl:=bsQ_len (u+c') l m 0
   have hyc : ∀ (e:Nat) (x:Rat),(bsQ (u+c') l m 0)[e]? = some x→(y c').getD e 0=x/l:=fun e x hx=>by
    rw[hy,List.getD_eq_getElem?_getD,List.getElem?_map,hx];rfl
   rw[hml]at hbs hxl
   rw[Int.natCast_add]at hCol
   generalize bsQ (u+c') l m 0=xs at hCol hbs hxl hyc
   (repeat' (first|(refine CmpP.go (fun hc => ?_) (fun hc => ?_)<;>first|(exfalso;omega)|(conv=>whnf))|(refine OpP.add ?_ ?_;omega;conv=>whnf)|(refine AKM.x ?_;conv=>whnf)))
   refine SnM.all (fun _=>rfl) rfl (by omega) ?_
   (conv=>whnf)
   (repeat' (first|(refine LenP.go ?_;conv=>whnf)|(refine CallP.go (hCol) ?_;conv=>whnf)))
   refine AKM.loop1 (fun f=>u-f) (fun (f:Nat)=>f≤u) (fun f=>[(88,.int .i64 f)]) (fun f=>[(58,58,.mx (mxR 3 eO (ot R w c' f)))]) [] [] 0 (by (conv=>whnf);exact ⟨rfl,rfl,rfl⟩) (by omega) ?_
   intro f r5 fh
   by_cases hf2:f<u
   ·obtain ⟨x,hx⟩ : ∃ x,xs[f]? = some x:=⟨_,zE (by omega)⟩
    have hx':xs[(f:Int).toNat]? = some x:=hx
    have bx:=hbs.at hx
    have hD:=ev_divQ N.toRatGLib bx hbl0 (by omega) (by omega) hl0
    have hPr:=hRat f hf2
    have hmc:((List.range w).map fun c'=>(y c').getD f 0)[c']? = some (x/l):=by rw[List.getElem?_map,List.getElem?_range hc2,Option.map_some,hyc f x hx]
    have hmlw:((List.range w).map fun c'=>(y c').getD f 0).length=w:=by simp
    generalize ((List.range w).map fun c'=>(y c').getD f 0)=row at hPr hmc hmlw
    have hoa:=ot_at (n:=w) (j:=c') (i:=f) hPr
    rw[if_neg (by omega)]at hoa
    have hos:=ot_set (n:=w) (j:=c') hPr
    have hol:=ot_len R w c' f
    have hlf:=fillO_len (l:=row.take c') (m:=w) (by rw[List.length_take];omega)
    have hst:=fillO_set (l:=row.take c') (m:=w) (x:=x/l) (by rw[List.length_take];omega)
    rw[List.length_take,Nat.min_eq_left (by omega),←take_snoc' hmc]at hst
    generalize ot R w c' f=O at *
    (repeat' (first|(refine CmpP.go (fun hc => ?_) (fun hc => ?_)<;>first|(exfalso;omega)|(conv=>whnf))|(refine Req.go ?_ ?_;omega;conv=>whnf)|(refine RdP.at (by assumption) ?_ rfl ?_;omega;conv=>whnf)|(refine LdM.nat ?_ (fun r hr => ?_);omega;conv=>whnf)|(refine AKM.x ?_;conv=>whnf)|(refine CallP.go (hD) ?_;conv=>whnf)))
    cases hoa.symm.trans hr
    skip
    have hlf2:=fillO_len (l:=row.take (c'+1)) (m:=w) (by rw[List.length_take];omega)
    refine Req.go (by rw[List.length_map];omega) ?_
    (conv=>whnf)
    (repeat' (refine GetM.ati (by assumption) ?_;conv=>whnf))
    refine StR.nat (enc:=eO) (some (x/l)) rfl (fun e=>by cases e<;>rfl) (by omega) ?_
    (conv=>whnf)
    rw[hst]
    refine PutM.nat (by omega) ?_
    rw[hos]
    (conv=>whnf)
    (repeat' (refine OpP.add ?_ ?_;omega;conv=>whnf))
    exact AKM.back [] (by (conv=>whnf);exact ⟨rfl,rfl,rfl⟩) (fh (f+1) (by omega) (by omega))
   have ef:f=u:=by omega
   clear fh
   have hnx:=ot_next R w c'
   rw[hRl]at hnx
   rw[ef,hnx]
   (repeat' (first|(refine CmpP.go (fun hc => ?_) (fun hc => ?_)<;>first|(exfalso;omega)|(conv=>whnf))|(refine OpP.add ?_ ?_;omega;conv=>whnf)|(refine AKM.x ?_;conv=>whnf)))
   exact AKM.back [] (by (conv=>whnf);exact ⟨rfl,rfl,rfl⟩) (ch (c'+1) (by omega) (by omega))
  have ec:c'=w:=by omega
  clear ch
  rw[ec,ot_full hRw]
  (repeat' (first|(refine CmpP.go (fun hc => ?_) (fun hc => ?_)<;>first|(exfalso;omega)|(conv=>whnf))|(refine AKM.x ?_;conv=>whnf)))
  refine ⟨.tup [.sl false (eM R),.int .i64 0],?_,Or.inr ⟨hns,y,by rw[←hRg],fun c2 hc2=>⟨hyl c2,?_,fun i r s h1 h2=>by rw[hy];exact hfac c2 hc2 i r s h1 h2⟩⟩⟩
  ·(conv=>whnf)
   refine SnM.all (fun _=>rfl) rfl (by omega) ?_
   (conv=>whnf)
   exact FinP.go rfl (cl_matT R 0)
  ·rw[hy]
   intro z hz
   obtain ⟨x,hx,rfl⟩:=List.mem_map.1 hz
   have hbs:=bsQ_bs (c:=u+c2) (n:=u) hbl0 m 0 (by omega) hms
   rw[hml]at hbs
   exact ((hbs x hx).divL hbl0).le (by omega)
end Go.Eng

namespace Go.Eng
open F
attribute [local irreducible] AKM CmpP Req OpP UnP ConvP RdP LdR StR MkR LenP AppR AppN CpyR RowP SnR Bds SlS CallP CalP FinP pw LdM GetM SetM PutM MkM AppM SnM FlP CallR
set_option maxHeartbeats 16000000
variable {L:Lib}
theorem one_at {x:Rat} {b:List Rat} {i:Nat} (h:b[i]? = some x):(b.map fun x=>[x])[i]? = some [x]:=by rw[List.getElem?_map,h];rfl
theorem cl_lt (y:List Rat) (e:Int):Clean (.tup [.sl false (y.map eQ),.int .i64 e]):=by
 simp only[Clean,CleanL,and_true,true_and]
 exact cl_eQs y
def oneR (x:Rat):Option (Nat × List (List AV)):=some (3,[eQ x])
theorem ev_SolveK (N:MatGLib L) (q q1 q2:Bool) (a:List (List Rat)) (b:List Rat) (n k K0:Nat) (hal:a.length=n) (haw : ∀ r∈a,r.length=n) (hbl:b.length=n) (hn:1≤n∧n≤52) (hkK:k≤K0) (hK0:1≤K0) (hab:Ms k a) (hbb:Bs k b)
  (hsb0 : ∀ r∈join2 a (b.map fun x=>[x]),∀ j,Bt K0 (scQ (r.take j))) (hwb:Ms K0 (whole (join2 a (b.map fun x=>[x]))))
  (hB:6^n*K0≤1000000000000) (hC:clB (6^n*K0) n n≤1000000000000) {B0:Nat} (hB0:clB (6^n*K0) n n+6^n*K0≤B0) :
  ∃ v,Ev L 237 [.sl q (eMq q1 a),.sl q2 (b.map eQ)] v∧((¬ NS n a∧v = .tup [.sl false [],.int .i64 11])∨(NS n a ∧ ∃ y:List Rat,v = .tup [.sl false (y.map eQ),.int .i64 0] ∧
   y.length=n∧Bs B0 y ∧ ∀ (i:Nat) (r:List Rat) (s:Rat),a[i]? = some r→b[i]? = some s→dotQ r y=s)):=by
 have hV:=ev_lValid N q q1 a n n hal haw hn hn
 obtain ⟨r0,hr0⟩ : ∃ r,a[0]? = some r:=⟨_,zE (by omega)⟩
 have hr0':a[(0:Int).toNat]? = some r0:=hr0
 have hl0:=haw r0 (zM hr0)
 obtain ⟨v,hS,hor⟩:=ev_solveK N q q1 true true a (b.map fun x=>[x]) n 1 k K0 hal haw (by rw[List.length_map];exact hbl) (fun r hr=>by obtain ⟨x,_,rfl⟩:=List.mem_map.1 hr;rfl) hn (by omega) hkK hK0 hab (fun r hr=>by
  obtain ⟨x,hx,rfl⟩:=List.mem_map.1 hr
  intro z hz
  obtain rfl:=List.mem_singleton.1 hz
  exact hbb z hx) hsb0 hwb hB hC hB0
 refine Ev.xE N.linear_Solve rfl rfl ?_
 (repeat' (first|(refine CmpP.go (fun hc => ?_) (fun hc => ?_)<;>first|(exfalso;omega)|(conv=>whnf))|(refine LenP.go ?_;conv=>whnf)|(refine RdP.at (by assumption) ?_ rfl ?_;omega;conv=>whnf)|(refine AKM.x ?_;conv=>whnf)|(refine CallP.go (hV) ?_;conv=>whnf)))
 unfold MkM
 refine ⟨⟨by omega,by omega,by simp only[roomMax];omega,by omega⟩,?_⟩
 rw[Int.toNat_natCast,hbl]
 (conv=>whnf)
 (repeat' (refine LenP.go ?_;conv=>whnf))
 refine AKM.loop1 (fun i=>n-i) (fun (i:Nat)=>i≤n) (fun i=>[(35,.int .i64 i)]) (fun i=>[(32,32,.mx (fz none ((b.take i).map oneR) n))]) [] [] 0 (by first|exact (by (conv=>whnf);exact ⟨rfl,rfl,rfl⟩)|(rw[List.take_zero,List.map_nil,show fz (none:Option (Nat × List (List AV))) [] n=List.replicate n none by simp [fz]];exact (by (conv=>whnf);exact ⟨rfl,rfl,rfl⟩))) (by omega) ?_
 intro i p1 ih
 have hfl:=fz_len (z:=(none:Option (Nat × List (List AV)))) (l:=(b.take i).map oneR) (m:=n) (by rw[List.length_map,List.length_take];omega)
 by_cases hi:i<n
 ·obtain ⟨x,hx⟩ : ∃ x,b[i]? = some x:=⟨_,zE (by omega)⟩
  have hx':b[(i:Int).toNat]? = some x:=hx
  have hfs:=fz_set (z:=(none:Option (Nat × List (List AV)))) (x:=oneR x) (l:=(b.take i).map oneR) (m:=n) (by rw[List.length_map,List.length_take];omega)
  rw[List.length_map,List.length_take,Nat.min_eq_left (by omega),show (b.take i).map oneR++[oneR x]=(b.take (i+1)).map oneR by rw[List.take_add_one,hx,List.map_append];rfl]at hfs
  generalize fz (none:Option (Nat × List (List AV))) ((b.take i).map oneR) n=J at *
  have hfs2:J.set i (some (3,[[AV.bool (decide (x.num<0)),AV.sl false ((dg x.num.natAbs).map e32),AV.sl false ((dg x.den).map e32)]]))=fz none ((b.take (i+1)).map oneR) n:=hfs
  (repeat' (first|(refine CmpP.go (fun hc => ?_) (fun hc => ?_)<;>first|(exfalso;omega)|(conv=>whnf))|(refine Req.go ?_ ?_;omega;conv=>whnf)|(refine RdP.at (by assumption) ?_ rfl ?_;omega;conv=>whnf)|(refine AKM.x ?_;conv=>whnf)))
  unfold Req SetM
  refine ⟨by simp,by omega,?_⟩
  (conv=>whnf)
  rw[show 0+((i:Int)).toNat=i by omega,hfs2]
  (repeat' (refine OpP.add ?_ ?_;omega;conv=>whnf))
  exact AKM.back [] (by (conv=>whnf);exact ⟨rfl,rfl,rfl⟩) (ih (i+1) (by omega) (by omega))
 have ei:i=n:=by omega
 clear ih hfl
 rw[ei,List.take_of_length_le (by omega),fz_full (by rw[List.length_map];exact hbl),show b.map oneR=mxR 3 eQ (b.map fun x=>[x]) by rw[mxR,List.map_map];rfl]
 (repeat' (first|(refine CmpP.go (fun hc => ?_) (fun hc => ?_)<;>first|(exfalso;omega)|(conv=>whnf))|(refine SnM.all (fun _=>rfl) rfl ?_ ?_;(first|rfl|simp);conv=>whnf)|(refine AKM.x ?_;conv=>whnf)))
 ·exact hbl.symm
 (conv=>whnf)
 rcases hor with ⟨hns,rfl⟩|⟨hns,y,rfl,hy⟩
 ·(repeat' (first|(refine CmpP.go (fun hc => ?_) (fun hc => ?_)<;>first|(exfalso;omega)|(conv=>whnf))|(refine CallP.go (hS) ?_;conv=>whnf)))
  refine ⟨.tup [.sl false [],.int .i64 11],?_,Or.inl ⟨hns,rfl⟩⟩
  (conv=>whnf)
  exact FinP.go rfl (cl_matT [] 11)
 ·obtain ⟨hyl,hyb,hys⟩:=hy 0 (by omega)
  have hRat : ∀ e,e<n→(ofColsW y n 1)[e]? = some [(y 0).getD e 0]:=fun e he=>by simp [ofColsW,he]
  have hRl:(ofColsW y n 1).length=n:=by simp [ofColsW]
  generalize ofColsW y n 1=R at *
  (repeat' (first|(refine CmpP.go (fun hc => ?_) (fun hc => ?_)<;>first|(exfalso;omega)|(conv=>whnf))|(refine LenP.go ?_;conv=>whnf)|(refine CallP.go (hS) ?_;conv=>whnf)))
  rw[hRl]
  refine MkR.go (enc:=eO) none n rfl rfl (by omega) ?_
  (conv=>whnf)
  (repeat' (refine LenP.go ?_;conv=>whnf))
  refine AKM.loop1 (fun e=>n-e) (fun (e:Nat)=>e≤n) (fun e=>[(60,.int .i64 e)]) (fun e=>[(57,57,.rw 3 ((fillO ((y 0).take e) n).map eO))]) [] [] 0 (by first|exact (by (conv=>whnf);exact ⟨rfl,rfl,rfl⟩)|(rw[List.take_zero,←fillO_nil];exact (by (conv=>whnf);exact ⟨rfl,rfl,rfl⟩))) (by omega) ?_
  intro e p2 eh
  have hlf:=fillO_len (l:=(y 0).take e) (m:=n) (by rw[List.length_take];omega)
  by_cases he2:e<n
  ·obtain ⟨x,hx⟩ : ∃ x,(y 0)[e]? = some x:=⟨_,zE (by omega)⟩
   have hst:=fillO_set (l:=(y 0).take e) (m:=n) (x:=x) (by rw[List.length_take];omega)
   rw[List.length_take,Nat.min_eq_left (by omega),←take_snoc' hx]at hst
   have hRe:=hRat e he2
   rw[show (y 0).getD e 0=x by rw[List.getD_eq_getElem?_getD,hx];rfl]at hRe
   have hRe':R[(e:Int).toNat]? = some [x]:=hRe
   have hx0:[x][(0:Int).toNat]? = some x:=rfl
   generalize fillO ((y 0).take e) n=F0 at *
   (repeat' (first|(refine CmpP.go (fun hc => ?_) (fun hc => ?_)<;>first|(exfalso;omega)|(conv=>whnf))|(refine Req.go ?_ ?_;omega;conv=>whnf)|(refine RdP.at (by assumption) ?_ rfl ?_;omega;conv=>whnf)|(refine AKM.x ?_;conv=>whnf)))
   refine StR.nat (enc:=eO) (some x) rfl (fun e=>by cases e<;>rfl) (by omega) ?_
   (conv=>whnf)
   rw[hst]
   (repeat' (refine OpP.add ?_ ?_;omega;conv=>whnf))
   exact AKM.back [] (by (conv=>whnf);exact ⟨rfl,rfl,rfl⟩) (eh (e+1) (by omega) (by omega))
  have ee:e=n:=by omega
  clear eh
  rw[ee,List.take_of_length_le (by omega),fillO_full hyl]
  (repeat' (first|(refine CmpP.go (fun hc => ?_) (fun hc => ?_)<;>first|(exfalso;omega)|(conv=>whnf))|(refine AKM.x ?_;conv=>whnf)))
  refine ⟨.tup [.sl false ((y 0).map eQ),.int .i64 0],?_,Or.inr ⟨hns,y 0,rfl,hyl,hyb,fun i r s h1 h2 => ?_⟩⟩
  ·(conv=>whnf)
   refine SnR.all (enc:=eQ) (fun _=>rfl) rfl hyl.symm ?_
   (conv=>whnf)
   exact FinP.go rfl (cl_lt (y 0) 0)
  ·exact hys i r [s] h1 (one_at h2)
end Go.Eng
