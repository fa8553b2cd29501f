/-
  The law NetworkModels.
-/
import Derived.Test.YtdehnieflanifaaGreatB11
import Derived.Test.YtdehnieflanifaaGreatB5
set_option linter.unusedSimpArgs false
set_option linter.unusedVariables false
set_option linter.unnecessarySimpa false
namespace Go.Eng
open F
attribute [local irreducible] AKM CmpP Req OpP UnP ConvP RdP LdR StR MkR LenP AppR AppN CpyR RowP SnR Bds SlS CallP CalP FinP pw LdM GetM SetM PutM MkM AppM SnM FlP CallR
set_option maxHeartbeats 8000000
variable {L:Lib}
theorem Bt.ngM {k:Nat} {x:Rat} (h:Bt k x):Bt k (-x):=⟨by rw[Rat.neg_num,Int.natAbs_neg];exact h.1,by rw[Rat.neg_den];exact h.2⟩
theorem injQ_ok {n:Nt} (hb:netB n=true) (hsm:SmallN (tsOf n)) (hnl:n.nodes.length≤4) (k:Int):(injQ n k).Ok n.s.toNat 23400:=by
 have h:=linQ_ok hb hsm hnl
 obtain ⟨h1,h2,h3,h4,h5,h6⟩:=(netB_iff n).1 hb
 have hB:=spreadQ_bs n (-1) k h2 hsm hnl
 refine ⟨h.la,h.lr,by simp [injQ];omega,h.lc,h.ba,?_,h.bc,hB.getD _⟩
 intro x hx
 obtain ⟨e,_,rfl⟩:=List.mem_map.1 hx
 exact hB.getD _
theorem errQ_bs {n:Nt} (hb:netB n=true) (hsm:SmallN (tsOf n)) {vals:List Int} (hvb : ∀ v∈vals,v.natAbs≤2^24) (i:Nat):Bs 360 (errQ n vals i):=by
 obtain ⟨h1,h2,h3,h4,h5,h6⟩:=(netB_iff n).1 hb
 have hu1:=pw_pos n.c.f
 have hu2:(pw n.c.f).natAbs≤2^24:=by
  have hf:n.c.f<24:=by unfold WV at h2;omega
  have h9:(2:Nat)^n.c.f.toNat≤2^24:=Nat.pow_le_pow_right (by omega) (by omega)
  rw[pw]
  exact_mod_cast h9
 intro x hx
 obtain ⟨k,_,rfl⟩:=List.mem_map.1 hx
 unfold errK
 have a1:Bt 24 ((vals.getD ((1+n.s).toNat+k) 0:Int):Rat):=by
  rw[List.getD_eq_getElem?_getD]
  cases e:vals[(1+n.s).toNat+k]? with
  | none=>exact Bt.zero 24
  | some v=>exact Bt.ofInt (hvb v (List.mem_of_getElem? e))
 have a2:Bt 245 (sumQ (intsQ vals) ((tsOf n).getD k [])):=by
  rw[List.getD_eq_getElem?_getD]
  cases e:(tsOf n)[k]? with
  | none=>exact Bt.zero 245
  | some ts =>
   have h:=List.mem_of_getElem? e
   have:=node_sum_bs (n:=n) hvb (hsm.cf ts h) (hsm.len ts h) ts.length
   rwa [List.take_length]at this
 have a3:=a2.divz hu1 hu2
 have a4:=a3.ngM
 rw[Rat.sub_eq_add_neg]
 exact (a1.add a4).le (by omega)
end Go.Eng
namespace Go.Eng
variable {L:Lib}
end Go.Eng

namespace Go.Eng
theorem LdM.st {R:List (Option (Nat × List (List AV)))} {i e z:Nat} {es:List (List AV)} {K:Option (Nat × List (List AV))→Prop} (he:e=i) (hi:i<R.length) (h:K (some (z,es))):LdM (R.set i (some (z,es))) e K:=by
 subst he
 exact ⟨_,by rw[List.getElem?_set,if_pos rfl,if_pos hi],h⟩
theorem GetM.st {R:List (Option (Nat × List (List AV)))} {i e z:Nat} {es:List (List AV)} {K:Nat→List (List AV)→Prop} (he:e=i) (hi:i<R.length) (h:K z es):GetM (R.set i (some (z,es))) e K:=by
 subst he
 exact ⟨z,es,by rw[List.getElem?_set,if_pos rfl,if_pos hi],h⟩
theorem PutM.st {R:List (Option (Nat × List (List AV)))} {i e z:Nat} {es es':List (List AV)} {K:List (Option (Nat × List (List AV)))→Prop} (he:e=i) (hl:es'.length=es.length) (h:K (R.set i (some (z,es')))):PutM (R.set i (some (z,es))) e z es es' K:=by
 subst he
 exact ⟨hl,by rw[List.set_set];exact h⟩
theorem SetM.fz {R:List (Option (Nat × List (List AV)))} {i e z:Nat} {es:List (List AV)} {K:List (Option (Nat × List (List AV)))→Prop} (he:e=i) (hi:i<R.length) (h:K (R.set i (some (z,es)))):SetM R e z es K:=by
 subst he
 exact ⟨hi,h⟩
end Go.Eng

namespace Go.Eng
open F
attribute [local irreducible] AKM CmpP Req OpP UnP ConvP RdP LdR StR MkR LenP AppR AppN CpyR RowP SnR Bds SlS CallP CalP FinP pw LdM GetM SetM PutM MkM AppM SnM FlP CallR
set_option maxHeartbeats 16000000
variable {L:Lib}
theorem LdM.gotA {R:List (Option (Nat × List (List AV)))} {e:Nat} {r:Option (Nat × List (List AV))} {K:Option (Nat × List (List AV))→Prop} (h:R[e]? = some r) (hk:K r):LdM R e K:=by
 unfold LdM
 exact ⟨r,h,hk⟩
theorem GetM.gotA {R:List (Option (Nat × List (List AV)))} {e z:Nat} {es:List (List AV)} {K:Nat→List (List AV)→Prop} (h:R[e]? = some (some (z,es))) (hk:K z es):GetM R e K:=by
 unfold GetM
 exact ⟨z,es,h,hk⟩
def rowE (n:Nt) (pre:List (List Int)) (m:Nat):Option (Nat × List (List AV)):=if pre=[] then none else some (3,(pre.map fun V=>errK n V m).map eQ)
def EM (n:Nt) (pre:List (List Int)) (M:Nat):List (Option (Nat × List (List AV))):=(List.range M).map (rowE n pre)
def EN (n:Nt) (pre:List (List Int)) (V:List Int) (M m:Nat):List (Option (Nat × List (List AV))):=(List.range M).map fun k=>if k<m then rowE n (pre++[V]) k else rowE n pre k
theorem EM_nil (n:Nt) (M:Nat):EM n [] M=List.replicate M none:=by
 refine List.ext_getElem? fun i => ?_
 simp only[EM,List.getElem?_map,List.getElem?_replicate]
 by_cases h:i<M
 ·rw[List.getElem?_range h,if_pos h];rfl
 ·rw[List.getElem?_eq_none (by simp;omega),if_neg h];rfl
theorem EN_zero (n:Nt) (pre:List (List Int)) (V:List Int) (M:Nat):EN n pre V M 0=EM n pre M:=by simp [EN,EM]
theorem EN_full (n:Nt) (pre:List (List Int)) (V:List Int) (M:Nat):EN n pre V M M=EM n (pre++[V]) M:=by
 refine List.map_congr_left fun k hk => ?_
 rw[if_pos (List.mem_range.1 hk)]
theorem EN_len (n:Nt) (pre:List (List Int)) (V:List Int) (M m:Nat):(EN n pre V M m).length=M:=by simp [EN]
theorem EN_at (n:Nt) (pre:List (List Int)) (V:List Int) {M m:Nat} (h:m<M):(EN n pre V M m)[m]? = some (rowE n pre m):=by
 rw[EN,List.getElem?_map,List.getElem?_range h,Option.map_some,if_neg (Nat.lt_irrefl m)]
theorem EN_set (n:Nt) (pre:List (List Int)) (V:List Int) {M m:Nat} (h:m<M):(EN n pre V M m).set m (rowE n (pre++[V]) m)=EN n pre V M (m+1):=by
 refine List.ext_getElem? fun k => ?_
 rw[List.getElem?_set,EN_len]
 simp only[EN,List.getElem?_map]
 by_cases hk:k<M
 ·rw[List.getElem?_range hk]
  simp only[Option.map_some]
  by_cases e:m=k
  ·subst e;rw[if_pos rfl,if_pos h,if_pos (by omega)]
  ·rw[if_neg e]
   by_cases h2:k<m
   ·rw[if_pos h2,if_pos (by omega)]
   ·rw[if_neg h2,if_neg (by omega)]
 ·rw[List.getElem?_eq_none (by simp;omega)]
  simp;omega
theorem vals_words {n:Nt} (hb:netB n=true) : ∀ (xs st:List Int),wordsB n.d xs=true→wordsB n.d st=true→(st.length:Int)=n.s → ∀ V∈valsL n st xs,∀ v∈V,v.natAbs≤2^24
 | [],st,_,_,_,V,hV=>by simp [valsL]at hV
 | x::xs,st,h1,h2,h3,V,hV=>by
  obtain ⟨g1,g2,g3,g4,g5,g6⟩:=(netB_iff n).1 hb
  simp only[wordsB,List.all_cons,Bool.and_eq_true]at h1
  have hw:wordsB n.d (x::st)=true:=by
   simp only[wordsB,List.all_cons,Bool.and_eq_true];exact ⟨h1.1,h2⟩
  have hcw:=comp_words n g1 n.nodes (x::st) false hw
  have hcl:=comp_len n n.nodes (x::st) false
  rw[valsL,List.mem_cons]at hV
  rcases hV with rfl|hV
  ·intro v hv
   have:=FT_le (by simpa using List.all_eq_true.1 hcw v hv:FT n.d v)
   show _≤16777216
   omega
  ·exact vals_words hb xs _ h1.2 (foll_words n hcw g5 (by simp at hcl;omega)) (by simp [follS];omega) V hV
theorem ev_law22_NetworkErrorsAddUp (I:FixedLib L) (J:NetLib L) (W:WorldLib L) (R:RunGLib L) (E:LawALib L) (r:Rw) (h1:InI r.data) (h2:InI r.coef) (h3:InI r.states) (h4:InI r.out) (h5:allI r.next) (h6 : ∀ w∈r.nodes,allI w.1.2∧allI w.2.2) (hl:r.nodes.length<9223372036854775808)
  (stv ins:List Int) (q1 q2:Bool):Ev L 223 [.agg (encR r),.sl q1 (stv.map encInt),.sl q2 (ins.map encInt)] (.bool true):=by
 refine Ev.x E.law22_NetworkErrorsAddUp rfl rfl ?_
 have hrw:=ev_world_Raw_Net I W R r h1 h2 h3 h4 h5 h6 hl
 have hok:=netR_ok r
 have hsm:=netR_small r
 have hnL:=netR_nodesL r
 have hst3:(netR r).s≤3:=by
  have:=with_range (v:=r.states) (m:=4) (by omega)
  show withS r.states 4≤3
  omega
 have hkn:=ev_example I J
 generalize netR r=n at *
 obtain ⟨g1,g2,g3,g4,g5,g6⟩:=(netB_iff n).1 hok
 obtain ⟨dm,hdm⟩ : ∃ dm:Nat,n.s=dm:=⟨n.s.toNat,by omega⟩
 have hdt:n.s.toNat=dm:=by omega
 by_cases h8:ins.length≤8
 ·have ew1:=fun q=>ev_world_Words I W n.d g1 stv q dm (by omega)
  rw[←hdm]at ew1
  have ew2:=fun q=>ev_world_Words I W n.d g1 ins q ins.length (by omega)
  have hSl:((wordsS n.d stv dm).length:Int)=n.s:=by simp [wordsS];omega
  have hXl:(wordsS n.d ins ins.length).length=ins.length:=by simp [wordsS]
  have hSw:=wordsS_ok g1 stv dm
  have hXw:=wordsS_ok g1 ins ins.length
  generalize wordsS n.d stv dm=si at *
  generalize wordsS n.d ins ins.length=xi at *
  have ft : ∀ l:List Int,wordsB n.d l=true → ∀ v∈l,-8388608≤v∧v≤8388608:=fun l h v hv=>FT_le (by simpa using List.all_eq_true.1 h v hv:FT n.d v)
  have er:=fun q q'=>ev_network_Run n I J R si xi q q' (by omega) (by omega)
  rw[rrS_ok n hok (by omega) ((wrong_zero n).2 ⟨hSl,hSw,hXw⟩),runA_outsL,List.nil_append]at er
  dsimp only at er
  generalize (runA n [] si 0 xi).2.1=rl at er
  generalize (runA n [] si 0 xi).2.2=rc at er
  have eL:=ev_Linear I E.toLinGLib n hok hsm hnL
  have eI1:=fun q=>ev_Ints E.toIntsGLib si q (fun v hv=>by have:=ft si hSw v hv;unfold InI;omega) (by omega)
  have eI2:=fun q=>ev_Ints E.toIntsGLib xi q (fun v hv=>by have:=ft xi hXw v hv;unfold InI;omega) (by omega)
  have hvw:=vals_words hok xi si hXw hSw hSl
  have lO:=outsL_len (n:=n) xi si
  have hOw : ∀ v∈outsL n si xi,InI v:=by
   have:=runA_outs hok xi [] si 0 hXw hSw hSl (by simp)
   rw[runA_outsL,List.nil_append]at this
   exact this
  have eIo:=fun q=>ev_Ints E.toIntsGLib (outsL n si xi) q hOw (by omega)
  have eZ : ∀ q,Ev L 147 [.sl q ((List.replicate dm (0:Int)).map encInt)] (.sl false ((List.replicate dm (0:Rat)).map eQ)):=fun q=>by
   have:=ev_Ints E.toIntsGLib (List.replicate dm 0) q (fun v hv=>by rw[(List.mem_replicate.1 hv).2];unfold InI;omega) (by simp;omega)
   rw[show intsQ (List.replicate dm 0)=List.replicate dm (0:Rat) by simp [intsQ]]at this
   exact this
  have hrun:=tot_run hok xi si hSl
  have N:SysGLib L:=E.toSysGLib
  have h:=linQ_ok hok hsm hnL
  rw[hdt]at h
  have injQ_ok:=fun (a:netB n=true) (b:SmallN (tsOf n)) (c:n.nodes.length≤4) (k:Int)=>hdt ▸ injQ_ok a b c k
  have hst:(intsQ si).length=dm:=by rw[intsQ_len];omega
  have hxl0:(intsQ xi).length=xi.length:=intsQ_len xi
  have bst:Bs 23400 (intsQ si):=(intsQ_bs (k:=23) fun v hv=>by have:=ft si hSw v hv;show _≤8388608;omega).le (by omega)
  have bxs:Bs 23400 (intsQ xi):=(intsQ_bs (k:=23) fun v hv=>by have:=ft xi hXw v hv;show _≤8388608;omega).le (by omega)
  obtain ⟨st,hst0⟩ : ∃ st,st=intsQ si:=⟨_,rfl⟩
  obtain ⟨xs,hxs0⟩ : ∃ xs,xs=intsQ xi:=⟨_,rfl⟩
  rw[←hst0]at hst bst hrun eI1
  rw[←hxs0]at hxl0 bxs hrun eI2
  have hxl:xs.length≤4096:=by omega
  have hKr : ∀ i,i≤8→respK dm 23400 23400 i≤100000000000:=fun i hi=>respK_lin _ (by omega) i (by omega)
  have hK : ∀ i,i≤xs.length→respK dm 23400 23400 i<1099511627776:=fun i hi=>by have:=hKr i (by omega);omega
  have hs0:23400<1099511627776:=by omega
  have hk0:23400<1099511627776:=by omega
  obtain ⟨S,hS⟩ : ∃ S,S=linQ n:=⟨_,rfl⟩
  rw[←hS]at h eL
  obtain ⟨u1,_⟩:=outs_bsE h xs st 23400 hst bst bxs (fun i hi=>hKr i (by omega))
  have hn:dm≤64:=by omega
  have hSd:=ev_Sound N S dm 23400 h hn
  have hla:=h.la
  have hlb:=h.lb
  have hlc:=h.lc
  (repeat' (first|(refine CmpP.go (fun hc => ?_) (fun hc => ?_)<;>first|(exfalso;omega)|(conv=>whnf))|(refine LenP.go ?_;conv=>whnf)|(refine AKM.x ?_;conv=>whnf)|(refine CallP.go (hrw) ?_;conv=>whnf)|(refine CallP.go (ew1 _) ?_;conv=>whnf)|(refine CallP.go (ew2 _) ?_;conv=>whnf)|(refine CallP.go (er _ _) ?_;conv=>whnf)|(refine CallP.go (eL) ?_;conv=>whnf)|(refine CallP.go (eI1 _) ?_;conv=>whnf)|(refine CallP.go (eI2 _) ?_;conv=>whnf)))
  refine CalP.walk 1000 N.network_Respond rfl rfl ?_
  (repeat' (first|(refine CmpP.go (fun hc => ?_) (fun hc => ?_)<;>first|(exfalso;omega)|(conv=>whnf))|(refine LenP.go ?_;conv=>whnf)|(refine AKM.x ?_;conv=>whnf)|(refine CallP.go (hSd) ?_;conv=>whnf)))
  refine MkR.go (enc:=eO) none st.length rfl rfl (by omega) ?_
  (conv=>whnf)
  (repeat' (refine LenP.go ?_;conv=>whnf))
  refine AKM.loop1 (fun i=>st.length-i) (fun (i:Nat)=>i≤st.length) (fun i=>[(35,.int .i64 i)]) (fun i=>[(133032,133032,.rw 3 ((fillO (st.take i) st.length).map eO))]) [] [] 0 (by first|exact (by (conv=>whnf);exact ⟨rfl,rfl,rfl⟩)|(rw[List.take_zero,←fillO_nil];exact (by (conv=>whnf);exact ⟨rfl,rfl,rfl⟩))) (by omega) ?_
  intro i p1 ih
  by_cases hi:i<st.length
  ·obtain ⟨x,hx⟩ : ∃ x,st[i]? = some x:=⟨_,List.getElem?_eq_getElem hi⟩
   have hx':st[(i:Int).toNat]? = some x:=hx
   have hT:=ev_trimQ N.toRatGLib (bst.at hx) (by omega)
   have hl:=fillO_len (l:=st.take i) (m:=st.length) (by rw[List.length_take];omega)
   have hs:=fillO_set (l:=st.take i) (m:=st.length) (x:=x) (by rw[List.length_take];omega)
   rw[List.length_take,Nat.min_eq_left (by omega),←take_snoc' hx]at hs
   (repeat' (first|(refine CmpP.go (fun hc => ?_) (fun hc => ?_)<;>first|(exfalso;omega)|(conv=>whnf))|(refine Req.go ?_ ?_;omega;conv=>whnf)|(refine RdP.at (by assumption) ?_ rfl ?_;omega;conv=>whnf)|(refine AKM.x ?_;conv=>whnf)|(refine CallP.go (hT) ?_;conv=>whnf)))
   refine StR.nat (enc:=eO) (some x) rfl (fun e=>by cases e<;>rfl) (by omega) ?_
   (conv=>whnf)
   (repeat' (refine OpP.add ?_ ?_;omega;conv=>whnf))
   rw[hs]
   exact AKM.back [] (by (conv=>whnf);exact ⟨rfl,rfl,rfl⟩) (ih (i+1) (by omega) (by omega))
  obtain rfl:i=st.length:=by omega
  clear ih
  rw[List.take_of_length_le (Nat.le_refl _),fillO_full rfl]
  (repeat' (first|(refine CmpP.go (fun hc => ?_) (fun hc => ?_)<;>first|(exfalso;omega)|(conv=>whnf))|(refine LenP.go ?_;conv=>whnf)|(refine AKM.x ?_;conv=>whnf)))
  refine MkR.go (enc:=eO) none 0 rfl rfl (by omega) ?_
  (conv=>whnf)
  (repeat' (refine LenP.go ?_;conv=>whnf))
  refine AKM.loop4 (fun i _ _ _=>xs.length-i) (fun (i:Nat) (nw os:List Rat) (_:Nat)=>i≤xs.length∧nw=S.state st (xs.take i)∧os=S.outs st (xs.take i)) (fun i nw os _=>[(51,.int .i64 i),(12,.row 133048 0 3 0 os.length),(9,.row 133032 0 3 0 nw.length)]) (fun i nw os t=>[(133048,133048,.rw 3 (os.map eQ)),(133032,t,.rw 3 (nw.map eQ))]) [] [] 0 st [] 133032 (by (conv=>whnf);exact ⟨rfl,rfl,rfl⟩) ⟨by omega,rfl,rfl⟩ ?_
  intro i nw os t ⟨p1,p2,p3⟩ ih
  have hnl:nw.length=dm:=by rw[p2];exact h.state_len _ _ hst
  have hol:os.length=i:=by rw[p3,outs_len,List.length_take];omega
  by_cases hi:i<xs.length
  ·obtain ⟨x,hx⟩ : ∃ x,xs[i]? = some x:=⟨_,List.getElem?_eq_getElem hi⟩
   have hx':xs[(i:Int).toNat]? = some x:=hx
   have bx:=bxs.at hx
   have bnw:Bs (respK dm 23400 23400 i) nw:=by
    have:=h.state_bs (xs.take i) st 23400 hst bst (bxs.take i)
    rw[List.length_take,Nat.min_eq_left (by omega)]at this
    rw[p2];exact this
   have hk1:=hK i (by omega)
   have hk2:=hK (i+1) (by omega)
   rw[respK_succ]at hk2
   obtain ⟨bn,bo⟩:=h.next_bs hnl bnw bx
   have hst2:S.state st (xs.take (i+1))=S.next nw x:=by rw[take_snoc' hx,state_snoc,←p2]
   have hos2:S.outs st (xs.take (i+1))=os++[S.out nw x]:=by rw[take_snoc' hx,outs_snoc,←p2,←p3]
   generalize hkk:respK dm 23400 23400 i=kk at *
   have hkk2:dm*(23400+kk+1)+(23400+23400)+1<1099511627776:=by unfold stepK at hk2;exact hk2
   have hP:=fun q q'=>ev_product N S.c nw q q' 23400 kk (by omega) h.bc bnw (by rw[hlc];omega) (by omega)
   have hM1:=ev_mulQ N.toRatGLib h.bd bx (by omega) (by omega)
   have bd1:=h.bc.dot bnw
   rw[hlc]at bd1
   have hA1:=ev_addQ N.toRatGLib bd1 (h.bd.mul bx) (by omega) (by omega)
   (repeat' (first|(refine CmpP.go (fun hc => ?_) (fun hc => ?_)<;>first|(exfalso;omega)|(conv=>whnf))|(refine RdP.at (by assumption) ?_ rfl ?_;omega;conv=>whnf)|(refine SnR.all (fun _=>rfl) rfl ?_ ?_;(first|rfl|simp);conv=>whnf)|(refine RowP.e1 ?_;conv=>whnf)|(refine AKM.x ?_;conv=>whnf)|(refine CallP.go (hP _ _) ?_;conv=>whnf)|(refine CallP.go (hM1) ?_;conv=>whnf)|(refine CallP.go (hA1) ?_;conv=>whnf)))
   refine AppR.one (enc:=eQ) (S.out nw x) rfl rfl rfl (by omega) (by omega) ?_
   (conv=>whnf)
   skip
   refine MkR.go (enc:=eO) none nw.length rfl rfl (by omega) ?_
   (conv=>whnf)
   (repeat' (refine LenP.go ?_;conv=>whnf))
   have hnl2:=h.next_len nw x
   generalize hNx:S.next nw x=nx at *
   refine AKM.loop1 (fun j=>S.a.length-j) (fun (j:Nat)=>j≤S.a.length) (fun j=>[(73,.int .i64 j)]) (fun j=>[(133069,133069,.rw 3 ((fillO (nx.take j) nw.length).map eO))]) [] [] 0 (by first|exact (by (conv=>whnf);exact ⟨rfl,rfl,rfl⟩)|(rw[List.take_zero,←fillO_nil];exact (by (conv=>whnf);exact ⟨rfl,rfl,rfl⟩))) (by omega) ?_
   intro j r1 jh
   by_cases hj:j<S.a.length
   ·obtain ⟨r,hr⟩ : ∃ r,S.a[j]? = some r:=⟨_,List.getElem?_eq_getElem hj⟩
    obtain ⟨b,hb0⟩ : ∃ b,S.b[j]? = some b:=⟨_,List.getElem?_eq_getElem (by omega)⟩
    have hr':S.a[(j:Int).toNat]? = some r:=hr
    have hb':S.b[(j:Int).toNat]? = some b:=hb0
    have hrl:=h.lr r (List.mem_of_getElem? hr)
    have bb:=h.bb.at hb0
    have hP2:=fun q q'=>ev_product N r nw q q' 23400 kk (by omega) (h.ba r (List.mem_of_getElem? hr)) bnw (by rw[hrl];omega) (by omega)
    have hM2:=ev_mulQ N.toRatGLib bb bx (by omega) (by omega)
    have bd2:=(h.ba r (List.mem_of_getElem? hr)).dot bnw
    rw[hrl]at bd2
    have hA2:=ev_addQ N.toRatGLib bd2 (bb.mul bx) (by omega) (by omega)
    have hnj:nx[j]? = some (dotQ r nw+b*x):=by rw[←hNx];exact nextQ_at nw x S.a S.b j r b hr hb0
    have hl:=fillO_len (l:=nx.take j) (m:=nw.length) (by rw[List.length_take];omega)
    have hs:=fillO_set (l:=nx.take j) (m:=nw.length) (x:=dotQ r nw+b*x) (by rw[List.length_take];omega)
    rw[List.length_take,Nat.min_eq_left (by omega),←take_snoc' hnj]at hs
    generalize dotQ r nw+b*x=y at *
    (repeat' (first|(refine CmpP.go (fun hc => ?_) (fun hc => ?_)<;>first|(exfalso;omega)|(conv=>whnf))|(refine Req.go ?_ ?_;omega;conv=>whnf)|(refine RdP.at (by assumption) ?_ rfl ?_;omega;conv=>whnf)|(refine SnR.all (fun _=>rfl) rfl ?_ ?_;(first|rfl|simp);conv=>whnf)|(refine AKM.x ?_;conv=>whnf)|(refine CallP.go (hP2 _ _) ?_;conv=>whnf)|(refine CallP.go (hM2) ?_;conv=>whnf)|(refine CallP.go (hA2) ?_;conv=>whnf)))
    refine StR.nat (enc:=eO) (some y) rfl (fun e=>by cases e<;>rfl) (by omega) ?_
    (conv=>whnf)
    (repeat' (refine OpP.add ?_ ?_;omega;conv=>whnf))
    rw[hs]
    exact AKM.back [] (by (conv=>whnf);exact ⟨rfl,rfl,rfl⟩) (jh (j+1) (by omega) (by omega))
   ·obtain rfl:j=S.a.length:=by omega
    clear jh
    rw[List.take_of_length_le (by omega),fillO_full (by omega)]
    rw[show nw.length=nx.length by omega]
    (repeat' (first|(refine CmpP.go (fun hc => ?_) (fun hc => ?_)<;>first|(exfalso;omega)|(conv=>whnf))|(refine OpP.add ?_ ?_;omega;conv=>whnf)|(refine AKM.x ?_;conv=>whnf)))
    refine AKM.back [(133032,133069),(133048,133066)] (by (conv=>whnf);exact ⟨rfl,rfl,rfl⟩) (ih (i+1) nx (os++[S.out nw x]) 133069 (by omega) ⟨by omega,by rw[hst2],by rw[hos2]⟩)
  ·obtain rfl:i=xs.length:=by omega
   clear ih
   rw[List.take_of_length_le (Nat.le_refl _)]at p2 p3
   have hos:os=tot n 0 st xs ((valsL n si xi).map (errK n)):=by
    rw[p3,tot_zero xs st _ (by rw[List.length_map,valsL_len];omega),hS]
   have bos:Bs ((0+1)*(100000000000+1)) os:=by
    rw[p3]
    exact u1.le (by omega)
   clear p2 p3
   (repeat' (first|(refine CmpP.go (fun hc => ?_) (fun hc => ?_)<;>first|(exfalso;omega)|(conv=>whnf))|(refine AKM.x ?_;conv=>whnf)))
   refine ⟨rfl,_,rfl,?_⟩
   (conv=>whnf)
   (repeat' (first|(refine CmpP.go (fun hc => ?_) (fun hc => ?_)<;>first|(exfalso;omega)|(conv=>whnf))|(refine LenP.go ?_;conv=>whnf)))
   unfold MkM
   refine ⟨⟨by omega,by omega,by simp only[roomMax];omega,by omega⟩,?_⟩
   rw[Int.toNat_natCast]
   (conv=>whnf)
   skip
   refine AKM.loop3 (fun i _ _=>xi.length-i) (fun (i:Nat) (now:List Int) (pre:List (List Int))=>i≤xi.length∧pre.length=i∧valsL n si xi=pre++valsL n now (xi.drop i)∧(now.length:Int)=n.s∧wordsB n.d now=true) (fun i now _=>[(21,.int .i64 i),(20,.sl false (now.map encInt))]) (fun _ _ pre=>[(106,106,.mx (EM n pre n.nodes.length))]) [] [] 0 si [] (by first|exact (by (conv=>whnf);exact ⟨rfl,rfl,rfl⟩)|(rw[EM_nil];exact (by (conv=>whnf);exact ⟨rfl,rfl,rfl⟩))) ⟨by omega,rfl,by simp,hSl,hSw⟩ ?_
   intro i now pre ⟨r1,r2,r3,r4,r5⟩ ih
   by_cases hi:i<xi.length
   ·obtain ⟨x,hx⟩ : ∃ x,xi[i]? = some x:=⟨_,List.getElem?_eq_getElem hi⟩
    have hx':xi[(i:Int).toNat]? = some x:=hx
    have hxw:FT n.d x:=by
     have:=List.all_eq_true.1 hXw x (List.mem_of_getElem? hx)
     simpa using this
    have hw1:wordsB n.d [x]=true:=by simp [wordsB,hxw]
    have hw2:wordsB n.d (x::now)=true:=by
     simp only[wordsB,List.all_cons,Bool.and_eq_true,decide_eq_true_eq]
     exact ⟨hxw,by simpa [wordsB] using r5⟩
    have hz:wrongS n now [x]=0:=(wrong_zero n).2 ⟨r4,r5,hw1⟩
    have eV:=ev_network_Values n I J now false x (by omega)
    have eSt:=ev_network_Step n I J now false x (by omega)
    rw[stepS,valS_ok n hok hz,if_pos rfl]at eSt
    rw[valS_ok n hok hz]at eV
    dsimp only at eV eSt
    have hcl:=comp_len n n.nodes (x::now) false
    have hcw:=comp_words n g1 n.nodes (x::now) false hw2
    rw[drop_cons hx,valsL]at r3
    generalize (compS n (x::now) false n.nodes).2=ov at *
    generalize (compS n (x::now) false n.nodes).1=V at *
    have hVl:(V.length:Int)=1+n.s+n.nodes.length:=by rw[hcl];simp;omega
    have hVb : ∀ v∈V,v.natAbs≤2^24:=fun v hv=>by
     have:=FT_le (by simpa using List.all_eq_true.1 hcw v hv:FT n.d v)
     show _≤16777216
     omega
    have eE:=fun q=>ev_Errors I E.toModGLib n V q hok hsm hVl hVb
    have hfl:((follS n V).length:Int)=n.s:=by simp [follS];omega
    have hfw:=foll_words n hcw g5 (by omega)
    have hel:=errQ_len n V n.nodes.length
    have hea : ∀ m,m<n.nodes.length→(errQ n V n.nodes.length)[m]? = some (errK n V m):=fun m hm=>by
     rw[errQ,List.getElem?_map,List.getElem?_range hm];rfl
    generalize errQ n V n.nodes.length=l at *
    (repeat' (first|(refine CmpP.go (fun hc => ?_) (fun hc => ?_)<;>first|(exfalso;omega)|(conv=>whnf))|(refine LenP.go ?_;conv=>whnf)|(refine RdP.at (by assumption) ?_ rfl ?_;omega;conv=>whnf)|(refine AKM.x ?_;conv=>whnf)|(refine CallP.go (eV) ?_;conv=>whnf)|(refine CallP.go (eE _) ?_;conv=>whnf)|(refine CallP.go (eSt) ?_;conv=>whnf)))
    refine AKM.loop1 (fun m=>n.nodes.length-m) (fun (m:Nat)=>m≤n.nodes.length) (fun m=>[(31,.int .i64 m)]) (fun m=>[(106,106,.mx (EN n pre V n.nodes.length m))]) [] [] 0 (by first|exact (by (conv=>whnf);exact ⟨rfl,rfl,rfl⟩)|(rw[EN_zero];exact (by (conv=>whnf);exact ⟨rfl,rfl,rfl⟩))) (by omega) ?_
    intro m q1 jh
    have hEl:=EN_len n pre V n.nodes.length m
    by_cases hm:m<n.nodes.length
    ·have hat:=EN_at n pre V hm
     have hst:=EN_set n pre V hm
     have hxm:=hea m hm
     have hxm':l[(m:Int).toNat]? = some (errK n V m):=hxm
     generalize EN n pre V n.nodes.length m=R0 at *
     by_cases hp:pre=[]
     ·rw[rowE,if_pos hp]at hat
      have hst2:R0.set m (some (3,(([]++[V]).map fun V=>errK n V m).map eQ))=EN n pre V n.nodes.length (m+1):=by
       rw[←hst,rowE,if_neg (by simp),hp]
      (repeat' (first|(refine CmpP.go (fun hc => ?_) (fun hc => ?_)<;>first|(exfalso;omega)|(conv=>whnf))|(refine Req.go ?_ ?_;omega;conv=>whnf)|(refine LenP.go ?_;conv=>whnf)|(refine AKM.x ?_;conv=>whnf)))
      refine LdM.gotA (r:=none) (by rw[Nat.zero_add,Int.toNat_natCast];exact hat) ?_
      (conv=>whnf)
      (repeat' (first|(refine RdP.at (by assumption) ?_ rfl ?_;omega;conv=>whnf)|(refine RowP.e1 ?_;conv=>whnf)))
      refine AppN.one (enc:=eQ) (errK n V m) rfl rfl (by omega) ?_
      (conv=>whnf)
      (repeat' (first|(refine Req.go ?_ ?_;omega;conv=>whnf)|fail))
      refine Req.go rfl ?_
      refine SetM.fz (i:=m) (by omega) (by omega) ?_
      rw[show ([errK n V m].map eQ)=(([]++[V]).map fun V=>errK n V m).map eQ from rfl,hst2]
      (conv=>whnf)
      (repeat' (refine OpP.add ?_ ?_;omega;conv=>whnf))
      exact AKM.back [] (by (conv=>whnf);exact ⟨rfl,rfl,rfl⟩) (jh (m+1) (by omega) (by omega))
     ·rw[rowE,if_neg hp]at hat
      rw[rowE,if_neg (by simp),List.map_append]at hst
      have hpl:(pre.map fun V=>errK n V m).length=i:=by rw[List.length_map];exact r2
      generalize (pre.map fun V=>errK n V m)=P0 at *
      (repeat' (first|(refine CmpP.go (fun hc => ?_) (fun hc => ?_)<;>first|(exfalso;omega)|(conv=>whnf))|(refine Req.go ?_ ?_;omega;conv=>whnf)|(refine LenP.go ?_;conv=>whnf)|(refine AKM.x ?_;conv=>whnf)))
      refine LdM.gotA (r:=some (3,P0.map eQ)) (by rw[Nat.zero_add,Int.toNat_natCast];exact hat) ?_
      (conv=>whnf)
      (repeat' (first|(refine RdP.at (by assumption) ?_ rfl ?_;omega;conv=>whnf)|(refine RowP.e1 ?_;conv=>whnf)))
      refine GetM.gotA (z:=3) (es:=P0.map eQ) (by rw[Nat.zero_add,Int.toNat_natCast];exact hat) ?_
      (conv=>whnf)
      refine AppR.one (enc:=eQ) (errK n V m) rfl (by rw[List.length_map]) rfl (by omega) (by omega) ?_
      intro s' v
      (conv=>whnf)
      (repeat' (first|(refine Req.go ?_ ?_;omega;conv=>whnf)|fail))
      refine Req.go ⟨rfl,by rw[List.length_map]⟩ ?_
      refine SetM.fz (i:=m) (by omega) (by rw[List.length_set];omega) ?_
      rw[show 0+((m:Int)).toNat=m by omega,List.set_set,show P0++[errK n V m]=P0++List.map (fun V=>errK n V m) [V] from rfl,hst]
      (conv=>whnf)
      (repeat' (refine OpP.add ?_ ?_;omega;conv=>whnf))
      exact AKM.back [] (by (conv=>whnf);exact ⟨rfl,rfl,rfl⟩) (jh (m+1) (by omega) (by omega))
    obtain rfl:m=n.nodes.length:=by omega
    clear jh
    rw[EN_full]
    (repeat' (first|(refine CmpP.go (fun hc => ?_) (fun hc => ?_)<;>first|(exfalso;omega)|(conv=>whnf))|(refine OpP.add ?_ ?_;omega;conv=>whnf)|(refine LenP.go ?_;conv=>whnf)|(refine AKM.x ?_;conv=>whnf)))
    exact AKM.back [] (by (conv=>whnf);exact ⟨rfl,rfl,rfl⟩) (ih (i+1) (follS n V) (pre++[V]) (by omega) ⟨by omega,by simp;omega,by rw[r3,List.append_assoc];rfl,hfl,hfw⟩)
   obtain rfl:i=xi.length:=by omega
   clear ih
   rw[List.drop_of_length_le (Nat.le_refl _),valsL,List.append_nil]at r3
   rw[r3]at hos hrun
   have hes:(pre.map (errK n)).length=xs.length:=by rw[List.length_map];omega
   (repeat' (first|(refine CmpP.go (fun hc => ?_) (fun hc => ?_)<;>first|(exfalso;omega)|(conv=>whnf))|(refine LenP.go ?_;conv=>whnf)|(refine AKM.x ?_;conv=>whnf)))
   refine AKM.loop2 (fun m _=>n.nodes.length-m) (fun (m:Nat) (sum:List Rat)=>m≤n.nodes.length∧sum=tot n m st xs (pre.map (errK n))∧sum.length=xs.length∧Bs ((m+1)*(100000000000+1)) sum) (fun m _=>[(32,.int .i64 m)]) (fun _ sum=>[(133048,133048,.rw 3 (sum.map eQ))]) [] [] 0 os (by (conv=>whnf);exact ⟨rfl,rfl,rfl⟩) ⟨by omega,hos,hol,bos⟩ ?_
   intro m sum ⟨q1,q2,q3,q4⟩ ih
   by_cases hm:m<n.nodes.length
   ·have eJ:=ev_Inject I E.toModGLib n (m:Int) hok hsm hnL ⟨by omega,by omega⟩
    rw[injR,if_pos ⟨by omega,by omega⟩]at eJ
    have hjo:=injQ_ok hok hsm hnL (m:Int)
    have hts:=tot_succ (n:=n) m xs st (List.replicate dm 0) (pre.map (errK n)) hes (by rw[List.length_replicate];exact hst)
    have hz0:addL st (List.replicate dm 0)=st:=by rw[←hst];exact addL_zeros st
    rw[hz0,List.map_map,←q2]at hts
    have hcomp:(pre.map ((fun ε=>ε m) ∘ errK n))=pre.map fun V=>errK n V m:=rfl
    rw[hcomp]at hts
    have bE:Bs 23400 (pre.map fun V=>errK n V m):=by
     intro y hy
     obtain ⟨V,hV,rfl⟩:=List.mem_map.1 hy
     have hVb:=hvw V (by rw[r3];exact hV)
     have:=errQ_bs (n:=n) hok hsm hVb (m+1)
     rw[errQ_succ]at this
     exact (this _ (by simp)).le (by omega)
    have lE:(pre.map fun V=>errK n V m).length=xs.length:=by rw[List.length_map];omega
    have eR:=fun q1 q2=>ev_Respond N (injQ n (m:Int)) dm 23400 23400 hjo hn (List.replicate dm 0) (pre.map fun V=>errK n V m) q1 q2 (by simp) (Bs.zeros _ _) bE (by omega) (fun i hi=>by have:=hKr i (by omega);omega) (by omega) (by omega)
    obtain ⟨w1,_⟩:=outs_bsE hjo (pre.map fun V=>errK n V m) (List.replicate dm 0) 23400 (by simp) (Bs.zeros _ _) bE (fun i hi=>hKr i (by omega))
    have lY:=outs_len (injQ n (m:Int)) (pre.map fun V=>errK n V m) (List.replicate dm 0)
    rw[lE]at lY
    have hrow:(EM n pre n.nodes.length)[m]? = some (rowE n pre m):=by rw[EM,List.getElem?_map,List.getElem?_range hm];rfl
    generalize (injQ n (m:Int)).outs (List.replicate dm 0) (pre.map fun V=>errK n V m)=Y at *
    generalize (injQ n (m:Int)).state (List.replicate dm 0) (pre.map fun V=>errK n V m)=Y2 at *
    generalize injQ n (m:Int)=T at *
    (repeat' (first|(refine CmpP.go (fun hc => ?_) (fun hc => ?_)<;>first|(exfalso;omega)|(conv=>whnf))|(refine LenP.go ?_;conv=>whnf)|(refine AKM.x ?_;conv=>whnf)|(refine CallP.go (eJ) ?_;conv=>whnf)))
    refine MkR.go (enc:=encInt) 0 dm rfl (by omega) (by omega) ?_
    (conv=>whnf)
    (repeat' (first|(refine Req.go ?_ ?_;omega;conv=>whnf)|(refine SnR.all (fun _=>rfl) rfl ?_ ?_;(first|rfl|simp);conv=>whnf)|(refine CallP.go (eZ _) ?_;conv=>whnf)))
    by_cases hp:pre=[]
    case' pos =>
     rw[rowE,if_pos hp]at hrow
     refine LdM.gotA (r:=none) (by rw[Nat.zero_add,Int.toNat_natCast];exact hrow) ?_
     rw[hp]at eR
     have eR0 : ∀ q1 q2,Ev L 133 [.agg (eS T),.sl q1 ((List.replicate dm (0:Rat)).map eQ),.sl q2 []] (.tup [.sl false (Y.map eQ),.sl false (Y2.map eQ),.int .i64 0]):=eR
     (conv=>whnf)
     (repeat' (first|(refine CmpP.go (fun hc => ?_) (fun hc => ?_)<;>first|(exfalso;omega)|(conv=>whnf))|(refine LenP.go ?_;conv=>whnf)|(refine CallP.go (eR0 _ _) ?_;conv=>whnf)))
    case' neg =>
     rw[rowE,if_neg hp]at hrow
     refine LdM.gotA (r:=some (3,(pre.map fun V=>errK n V m).map eQ)) (by rw[Nat.zero_add,Int.toNat_natCast];exact hrow) ?_
     (conv=>whnf)
     skip
     refine GetM.gotA (z:=3) (es:=(pre.map fun V=>errK n V m).map eQ) (by rw[Nat.zero_add,Int.toNat_natCast];exact hrow) ?_
     (conv=>whnf)
     refine SnR.all (enc:=eQ) (fun _=>rfl) rfl (by rw[List.length_map]) ?_
     (conv=>whnf)
     (repeat' (first|(refine CmpP.go (fun hc => ?_) (fun hc => ?_)<;>first|(exfalso;omega)|(conv=>whnf))|(refine LenP.go ?_;conv=>whnf)|(refine CallP.go (eR _ _) ?_;conv=>whnf)))
    all_goals
     have hal:=addL_len (a:=sum) (b:=Y) (by omega)
     refine AKM.loop1 (fun j=>Y.length-j) (fun (j:Nat)=>j≤Y.length) (fun j=>[(38,.int .i64 j)]) (fun j=>[(133048,133048,.rw 3 (((addL sum Y).take j++sum.drop j).map eQ))]) [] [] 0 (by (conv=>whnf);exact ⟨rfl,rfl,rfl⟩) (by omega) ?_
     intro j s1 jh
     have hml:((addL sum Y).take j++sum.drop j).length=xs.length:=by rw[List.length_append,List.length_take,List.length_drop];omega
     by_cases hj:j<Y.length
     ·obtain ⟨a,ha⟩ : ∃ a,sum[j]? = some a:=⟨_,List.getElem?_eq_getElem (by omega)⟩
      obtain ⟨y,hy⟩ : ∃ y,Y[j]? = some y:=⟨_,List.getElem?_eq_getElem hj⟩
      have hy':Y[(j:Int).toNat]? = some y:=hy
      have hsum:=addL_at ha hy
      have hma:((addL sum Y).take j++sum.drop j)[j]? = some a:=by
       rw[List.getElem?_append_right (by rw[List.length_take];omega),List.length_take,Nat.min_eq_left (by omega),Nat.sub_self,List.getElem?_drop,Nat.add_zero];exact ha
      have hms:=mix_set hsum (show j<sum.length by omega)
      have ba:=q4.at ha
      have hmb:(m+1)*(100000000000+1)≤5*(100000000000+1):=Nat.mul_le_mul_right _ (by omega)
      have eA:=ev_add3 N.toRefGLib ba (w1.at hy) (by omega) (by omega)
      have hms2:((addL sum Y).take j++sum.drop j).set j (a+y)=(addL sum Y).take (j+1)++sum.drop (j+1):=hms
      generalize (addL sum Y).take j++sum.drop j=C at *
      (repeat' (first|(refine CmpP.go (fun hc => ?_) (fun hc => ?_)<;>first|(exfalso;omega)|(conv=>whnf))|(refine Req.go ?_ ?_;omega;conv=>whnf)|(refine LenP.go ?_;conv=>whnf)|(refine RdP.at (by assumption) ?_ rfl ?_;omega;conv=>whnf)|(refine LdR.nat ?_ (fun _=>rfl) (fun v hv => ?_);omega;conv=>whnf)|(refine AKM.x ?_;conv=>whnf)))
      cases hma.symm.trans hv
      (repeat' (first|(refine Req.go ?_ ?_;omega;conv=>whnf)|(refine CallP.go (eA) ?_;conv=>whnf)))
      refine StR.nat (enc:=eQ) (a+y) rfl (fun _=>rfl) (by omega) ?_
      (conv=>whnf)
      (repeat' (refine OpP.add ?_ ?_;omega;conv=>whnf))
      rw[hms2]
      exact AKM.back [] (by (conv=>whnf);exact ⟨rfl,rfl,rfl⟩) (jh (j+1) (by omega) (by omega))
     obtain rfl:j=Y.length:=by omega
     clear jh
     rw[List.take_of_length_le (by omega),List.drop_of_length_le (by omega),List.append_nil]
     (repeat' (first|(refine CmpP.go (fun hc => ?_) (fun hc => ?_)<;>first|(exfalso;omega)|(conv=>whnf))|(refine OpP.add ?_ ?_;omega;conv=>whnf)|(refine LenP.go ?_;conv=>whnf)|(refine AKM.x ?_;conv=>whnf)))
     exact AKM.back [] (by (conv=>whnf);exact ⟨rfl,rfl,rfl⟩) (ih (m+1) (addL sum Y) (by omega) ⟨by omega,hts.symm,by omega,by
      have:=addL_bs q4 w1
      refine this.le ?_
      rw[Nat.succ_mul (m+1)]
      omega⟩)
   obtain rfl:m=n.nodes.length:=by omega
   clear ih
   rw[hrun]at q2
   subst q2
   have hmb:(n.nodes.length+1)*(100000000000+1)≤5*(100000000000+1):=Nat.mul_le_mul_right _ (by omega)
   have eG:=fun q1 q2=>ev_SameRats N.toRefGLib (intsQ (outsL n si xi)) (intsQ (outsL n si xi)) q1 q2 _ q4 q4 (by omega) (by omega)
   rw[decide_eq_true rfl]at eG
   generalize intsQ (outsL n si xi)=O at *
   (repeat' (first|(refine CmpP.go (fun hc => ?_) (fun hc => ?_)<;>first|(exfalso;omega)|(conv=>whnf))|(refine LenP.go ?_;conv=>whnf)|(refine AKM.x ?_;conv=>whnf)|(refine CallP.go (hkn) ?_;conv=>whnf)|(refine CallP.go (eIo _) ?_;conv=>whnf)))
   refine SnR.all (enc:=eQ) (fun _=>rfl) rfl (by omega) ?_
   (conv=>whnf)
   (repeat' (refine CallP.go (eG _ _) ?_;conv=>whnf))
   exact FinP.b rfl
 ·(repeat' (first|(refine CmpP.go (fun hc => ?_) (fun hc => ?_)<;>first|(exfalso;omega)|(conv=>whnf))|(refine LenP.go ?_;conv=>whnf)|(refine AKM.x ?_;conv=>whnf)|(refine CallP.go (hrw) ?_;conv=>whnf)|(refine CallP.go (hkn) ?_;conv=>whnf)))
  exact FinP.b rfl
end Go.Eng
