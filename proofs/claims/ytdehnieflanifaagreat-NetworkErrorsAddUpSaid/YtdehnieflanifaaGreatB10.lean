/-
  Systems (layer 22): the program.
-/
import Derived.Test.YtdehnieflanifaaGreatB9
import Derived.Test.YtdehnieflanifaaGreatB4
import Derived.Test.YtdehnieflanifaaGreatB8
set_option linter.unusedSimpArgs false
set_option linter.unusedVariables false
set_option linter.unnecessarySimpa false
namespace Go.Eng
open F
attribute [local irreducible] AKM CmpP Req OpP UnP ConvP RdP LdR StR MkR LenP AppR AppN CpyR RowP SnR Bds SlS CallP CalP FinP pw LdM GetM SetM PutM MkM AppM SnM FlP CallR
set_option maxHeartbeats 4000000
variable {L:Lib}
theorem ev_Sound (N:SysGLib L) (S:SysQ) (n k:Nat) (h:S.Ok n k) (hn:n≤64):Ev L 130 [.agg (eS S)] (.bool true):=by
 have h1:=h.la
 have h2:=h.lb
 have h3:=h.lc
 refine Ev.x N.network_Sound rfl rfl ?_
 (repeat' (first|(refine CmpP.go (fun hc => ?_) (fun hc => ?_)<;>first|(exfalso;omega)|(conv=>whnf))|(refine LenP.go ?_;conv=>whnf)|(refine AKM.x ?_;conv=>whnf)))
 refine AKM.loop1 (fun i=>S.a.length-i) (fun (i:Nat)=>i≤S.a.length) (fun i=>[(28,.int .i64 i)]) (fun _=>[]) [] [] 0 (by (conv=>whnf);exact ⟨rfl,rfl,rfl⟩) (by omega) ?_
 intro i p1 ih
 by_cases hi:i<S.a.length
 ·obtain ⟨r,hr⟩ : ∃ r,S.a[i]? = some r:=⟨_,List.getElem?_eq_getElem hi⟩
  have hr':S.a[(i:Int).toNat]? = some r:=hr
  have hrl:=h.lr r (List.mem_of_getElem? hr)
  (repeat' (first|(refine CmpP.go (fun hc => ?_) (fun hc => ?_)<;>first|(exfalso;omega)|(conv=>whnf))|(refine OpP.add ?_ ?_;omega;conv=>whnf)|(refine LenP.go ?_;conv=>whnf)|(refine RdP.at (by assumption) ?_ rfl ?_;omega;conv=>whnf)|(refine AKM.x ?_;conv=>whnf)))
  exact AKM.back [] (by (conv=>whnf);exact ⟨rfl,rfl,rfl⟩) (ih (i+1) (by omega) (by omega))
 ·obtain rfl:i=S.a.length:=by omega
  clear ih
  (repeat' (first|(refine CmpP.go (fun hc => ?_) (fun hc => ?_)<;>first|(exfalso;omega)|(conv=>whnf))|(refine AKM.x ?_;conv=>whnf)))
  exact FinP.b rfl
theorem ev_product (N:SysGLib L) (a b:List Rat) (q1 q2:Bool) (k s:Nat) (hl:a.length=b.length) (ha:Bs k a) (hb:Bs s b) (hK:a.length*(k+s+1)+k+s<2199023255552) (hal:a.length≤1099511627776):Ev L 132 [.sl q1 (a.map eQ),.sl q2 (b.map eQ)] (.agg (eQ (dotQ a b))):=by
 have hO:=ev_rational_Of N.toRatGLib 0 (by omega)
 refine Ev.x N.network_product rfl rfl ?_
 (repeat' (first|(refine LenP.go ?_;conv=>whnf)|(refine AKM.x ?_;conv=>whnf)|(refine CallP.go (hO) ?_;conv=>whnf)))
 refine AKM.loop2 (fun i _=>a.length-i) (fun (i:Nat) (acc:Rat)=>i≤a.length∧acc=dotQ (a.take i) (b.take i)) (fun i acc=>[(11,.int .i64 i)]) (fun i acc=>[(5,5,.bx (eQ acc))]) [] [] 0 ((0:Int):Rat) (by (conv=>whnf);exact ⟨rfl,rfl,rfl⟩) ⟨by omega,by simp [dotQ]⟩ ?_
 intro i acc ⟨p1,p2⟩ ih
 by_cases hi:i<a.length
 ·obtain ⟨x,hx⟩ : ∃ x,a[i]? = some x:=⟨_,List.getElem?_eq_getElem hi⟩
  obtain ⟨y,hy⟩ : ∃ y,b[i]? = some y:=⟨_,List.getElem?_eq_getElem (by omega)⟩
  have hx':a[(i:Int).toNat]? = some x:=hx
  have hy':b[(i:Int).toNat]? = some y:=hy
  have bx:=ha.at hx
  have by':=hb.at hy
  have hS1:=ev_signQ N.toRatGLib bx (by omega)
  have hS2:=ev_signQ N.toRatGLib by' (by omega)
  have hM:=ev_mulQ N.toRatGLib bx by' (by omega) (by omega)
  have hacc:Bt (a.length*(k+s+1)) acc:=by
   rw[p2]
   have:=(ha.take i).dot (hb.take i)
   refine this.le (Nat.mul_le_mul_right _ ?_)
   rw[List.length_take];omega
  have hA:=ev_addQ N.toRatGLib hacc (bx.mul by') (by omega) (by omega)
  have hst:=dotQ_take hx hy
  have z1:=sgn_num (x:=x)
  have z2:=sgn_num (x:=y)
  generalize sgn x.num=sx at *
  generalize sgn y.num=sy at *
  by_cases h1:sx=0
  ·have hx0:=z1.1 h1
   (repeat' (first|(refine CmpP.go (fun hc => ?_) (fun hc => ?_)<;>first|(exfalso;omega)|(conv=>whnf))|(refine OpP.add ?_ ?_;omega;conv=>whnf)|(refine RdP.at (by assumption) ?_ rfl ?_;omega;conv=>whnf)|(refine AKM.x ?_;conv=>whnf)|(refine CallP.go (hS1) ?_;conv=>whnf)))
   refine AKM.back [] (by (conv=>whnf);exact ⟨rfl,rfl,rfl⟩) (ih (i+1) acc (by omega) ⟨by omega,?_⟩)
   rw[hst,hx0,Rat.zero_mul,Rat.add_zero];exact p2
  ·by_cases h2:sy=0
   ·have hy0:=z2.1 h2
    (repeat' (first|(refine CmpP.go (fun hc => ?_) (fun hc => ?_)<;>first|(exfalso;omega)|(conv=>whnf))|(refine OpP.add ?_ ?_;omega;conv=>whnf)|(refine RdP.at (by assumption) ?_ rfl ?_;omega;conv=>whnf)|(refine AKM.x ?_;conv=>whnf)|(refine CallP.go (hS1) ?_;conv=>whnf)|(refine CallP.go (hS2) ?_;conv=>whnf)))
    refine AKM.back [] (by (conv=>whnf);exact ⟨rfl,rfl,rfl⟩) (ih (i+1) acc (by omega) ⟨by omega,?_⟩)
    rw[hst,hy0,Rat.mul_zero,Rat.add_zero];exact p2
   ·(repeat' (first|(refine CmpP.go (fun hc => ?_) (fun hc => ?_)<;>first|(exfalso;omega)|(conv=>whnf))|(refine OpP.add ?_ ?_;omega;conv=>whnf)|(refine RdP.at (by assumption) ?_ rfl ?_;omega;conv=>whnf)|(refine AKM.x ?_;conv=>whnf)|(refine CallP.go (hS1) ?_;conv=>whnf)|(refine CallP.go (hS2) ?_;conv=>whnf)|(refine CallP.go (hM) ?_;conv=>whnf)|(refine CallP.go (hA) ?_;conv=>whnf)))
    refine AKM.back [] (by (conv=>whnf);exact ⟨rfl,rfl,rfl⟩) (ih (i+1) (acc+x*y) (by omega) ⟨by omega,?_⟩)
    rw[hst,←p2]
 ·obtain rfl:i=a.length:=by omega
  clear ih
  rw[dotQ_all rfl]at p2
  rw[←p2]
  (repeat' (first|(refine CmpP.go (fun hc => ?_) (fun hc => ?_)<;>first|(exfalso;omega)|(conv=>whnf))|(refine AKM.x ?_;conv=>whnf)))
  exact FinP.go rfl (cl_eQ _)
theorem ev_Respond (N:SysGLib L) (S:SysQ) (dm kz sz:Nat) (h:S.Ok dm kz) (hn:dm≤64) (st xs:List Rat) (q1 q2:Bool) (hst:st.length=dm) (bst:Bs sz st) (bxs:Bs kz xs) (hxl:xs.length≤4096)
  (hK : ∀ i,i≤xs.length→respK dm kz sz i<1099511627776) (hs0:sz<1099511627776) (hk0:kz<1099511627776) :
  Ev L 133 [.agg (eS S),.sl q1 (st.map eQ),.sl q2 (xs.map eQ)] (.tup [.sl false ((S.outs st xs).map eQ),.sl false ((S.state st xs).map eQ),.int .i64 0]):=by
 have hSd:=ev_Sound N S dm kz h hn
 have hla:=h.la
 have hlb:=h.lb
 have hlc:=h.lc
 refine Ev.x N.network_Respond rfl rfl ?_
 (repeat' (first|(refine CmpP.go (fun hc => ?_) (fun hc => ?_)<;>first|(exfalso;omega)|(conv=>whnf))|(refine LenP.go ?_;conv=>whnf)|(refine AKM.x ?_;conv=>whnf)|(refine CallP.go (hSd) ?_;conv=>whnf)))
 refine MkR.go (enc:=eO) none st.length rfl rfl (by omega) ?_
 (conv=>whnf)
 (repeat' (refine LenP.go ?_;conv=>whnf))
 refine AKM.loop1 (fun i=>st.length-i) (fun (i:Nat)=>i≤st.length) (fun i=>[(35,.int .i64 i)]) (fun i=>[(133032,133032,.rw 3 ((fillO (st.take i) st.length).map eO))]) [] [] 0 (by first|exact (by (conv=>whnf);exact ⟨rfl,rfl,rfl⟩)|(rw[List.take_zero,←fillO_nil];exact (by (conv=>whnf);exact ⟨rfl,rfl,rfl⟩))) (by omega) ?_
 intro i p1 ih
 by_cases hi:i<st.length
 ·obtain ⟨x,hx⟩ : ∃ x,st[i]? = some x:=⟨_,List.getElem?_eq_getElem hi⟩
  have hx':st[(i:Int).toNat]? = some x:=hx
  have hT:=ev_trimQ N.toRatGLib (bst.at hx) (by omega)
  have hl:=fillO_len (l:=st.take i) (m:=st.length) (by rw[List.length_take];omega)
  have hs:=fillO_set (l:=st.take i) (m:=st.length) (x:=x) (by rw[List.length_take];omega)
  rw[List.length_take,Nat.min_eq_left (by omega),←take_snoc' hx]at hs
  (repeat' (first|(refine CmpP.go (fun hc => ?_) (fun hc => ?_)<;>first|(exfalso;omega)|(conv=>whnf))|(refine Req.go ?_ ?_;omega;conv=>whnf)|(refine RdP.at (by assumption) ?_ rfl ?_;omega;conv=>whnf)|(refine AKM.x ?_;conv=>whnf)|(refine CallP.go (hT) ?_;conv=>whnf)))
  refine StR.nat (enc:=eO) (some x) rfl (fun e=>by cases e<;>rfl) (by omega) ?_
  (conv=>whnf)
  (repeat' (refine OpP.add ?_ ?_;omega;conv=>whnf))
  rw[hs]
  exact AKM.back [] (by (conv=>whnf);exact ⟨rfl,rfl,rfl⟩) (ih (i+1) (by omega) (by omega))
 obtain rfl:i=st.length:=by omega
 clear ih
 rw[List.take_of_length_le (Nat.le_refl _),fillO_full rfl]
 (repeat' (first|(refine CmpP.go (fun hc => ?_) (fun hc => ?_)<;>first|(exfalso;omega)|(conv=>whnf))|(refine LenP.go ?_;conv=>whnf)|(refine AKM.x ?_;conv=>whnf)))
 refine MkR.go (enc:=eO) none 0 rfl rfl (by omega) ?_
 (conv=>whnf)
 (repeat' (refine LenP.go ?_;conv=>whnf))
 refine AKM.loop4 (fun i _ _ _=>xs.length-i) (fun (i:Nat) (nw os:List Rat) (_:Nat)=>i≤xs.length∧nw=S.state st (xs.take i)∧os=S.outs st (xs.take i)) (fun i nw os _=>[(51,.int .i64 i),(12,.row 133048 0 3 0 os.length),(9,.row 133032 0 3 0 nw.length)]) (fun i nw os t=>[(133048,133048,.rw 3 (os.map eQ)),(133032,t,.rw 3 (nw.map eQ))]) [] [] 0 st [] 133032 (by (conv=>whnf);exact ⟨rfl,rfl,rfl⟩) ⟨by omega,rfl,rfl⟩ ?_
 intro i nw os t ⟨p1,p2,p3⟩ ih
 have hnl:nw.length=dm:=by rw[p2];exact h.state_len _ _ hst
 have hol:os.length=i:=by rw[p3,outs_len,List.length_take];omega
 by_cases hi:i<xs.length
 ·obtain ⟨x,hx⟩ : ∃ x,xs[i]? = some x:=⟨_,List.getElem?_eq_getElem hi⟩
  have hx':xs[(i:Int).toNat]? = some x:=hx
  have bx:=bxs.at hx
  have bnw:Bs (respK dm kz sz i) nw:=by
   have:=h.state_bs (xs.take i) st sz hst bst (bxs.take i)
   rw[List.length_take,Nat.min_eq_left (by omega)]at this
   rw[p2];exact this
  have hk1:=hK i (by omega)
  have hk2:=hK (i+1) (by omega)
  rw[respK_succ]at hk2
  obtain ⟨bn,bo⟩:=h.next_bs hnl bnw bx
  have hst2:S.state st (xs.take (i+1))=S.next nw x:=by rw[take_snoc' hx,state_snoc,←p2]
  have hos2:S.outs st (xs.take (i+1))=os++[S.out nw x]:=by rw[take_snoc' hx,outs_snoc,←p2,←p3]
  generalize hkk:respK dm kz sz i=kk at *
  have hkk2:dm*(kz+kk+1)+(kz+kz)+1<1099511627776:=by unfold stepK at hk2;exact hk2
  have hP:=fun q q'=>ev_product N S.c nw q q' kz kk (by omega) h.bc bnw (by rw[hlc];omega) (by omega)
  have hM1:=ev_mulQ N.toRatGLib h.bd bx (by omega) (by omega)
  have bd1:=h.bc.dot bnw
  rw[hlc]at bd1
  have hA1:=ev_addQ N.toRatGLib bd1 (h.bd.mul bx) (by omega) (by omega)
  (repeat' (first|(refine CmpP.go (fun hc => ?_) (fun hc => ?_)<;>first|(exfalso;omega)|(conv=>whnf))|(refine RdP.at (by assumption) ?_ rfl ?_;omega;conv=>whnf)|(refine SnR.all (fun _=>rfl) rfl ?_ ?_;(first|rfl|simp);conv=>whnf)|(refine RowP.e1 ?_;conv=>whnf)|(refine AKM.x ?_;conv=>whnf)|(refine CallP.go (hP _ _) ?_;conv=>whnf)|(refine CallP.go (hM1) ?_;conv=>whnf)|(refine CallP.go (hA1) ?_;conv=>whnf)))
  refine AppR.one (enc:=eQ) (S.out nw x) rfl rfl rfl (by omega) (by omega) ?_
  (conv=>whnf)
  skip
  refine MkR.go (enc:=eO) none nw.length rfl rfl (by omega) ?_
  (conv=>whnf)
  (repeat' (refine LenP.go ?_;conv=>whnf))
  have hnl2:=h.next_len nw x
  generalize hNx:S.next nw x=nx at *
  refine AKM.loop1 (fun j=>S.a.length-j) (fun (j:Nat)=>j≤S.a.length) (fun j=>[(73,.int .i64 j)]) (fun j=>[(133069,133069,.rw 3 ((fillO (nx.take j) nw.length).map eO))]) [] [] 0 (by first|exact (by (conv=>whnf);exact ⟨rfl,rfl,rfl⟩)|(rw[List.take_zero,←fillO_nil];exact (by (conv=>whnf);exact ⟨rfl,rfl,rfl⟩))) (by omega) ?_
  intro j r1 jh
  by_cases hj:j<S.a.length
  ·obtain ⟨r,hr⟩ : ∃ r,S.a[j]? = some r:=⟨_,List.getElem?_eq_getElem hj⟩
   obtain ⟨b,hb0⟩ : ∃ b,S.b[j]? = some b:=⟨_,List.getElem?_eq_getElem (by omega)⟩
   have hr':S.a[(j:Int).toNat]? = some r:=hr
   have hb':S.b[(j:Int).toNat]? = some b:=hb0
   have hrl:=h.lr r (List.mem_of_getElem? hr)
   have bb:=h.bb.at hb0
   have hP2:=fun q q'=>ev_product N r nw q q' kz kk (by omega) (h.ba r (List.mem_of_getElem? hr)) bnw (by rw[hrl];omega) (by omega)
   have hM2:=ev_mulQ N.toRatGLib bb bx (by omega) (by omega)
   have bd2:=(h.ba r (List.mem_of_getElem? hr)).dot bnw
   rw[hrl]at bd2
   have hA2:=ev_addQ N.toRatGLib bd2 (bb.mul bx) (by omega) (by omega)
   have hnj:nx[j]? = some (dotQ r nw+b*x):=by rw[←hNx];exact nextQ_at nw x S.a S.b j r b hr hb0
   have hl:=fillO_len (l:=nx.take j) (m:=nw.length) (by rw[List.length_take];omega)
   have hs:=fillO_set (l:=nx.take j) (m:=nw.length) (x:=dotQ r nw+b*x) (by rw[List.length_take];omega)
   rw[List.length_take,Nat.min_eq_left (by omega),←take_snoc' hnj]at hs
   generalize dotQ r nw+b*x=y at *
   (repeat' (first|(refine CmpP.go (fun hc => ?_) (fun hc => ?_)<;>first|(exfalso;omega)|(conv=>whnf))|(refine Req.go ?_ ?_;omega;conv=>whnf)|(refine RdP.at (by assumption) ?_ rfl ?_;omega;conv=>whnf)|(refine SnR.all (fun _=>rfl) rfl ?_ ?_;(first|rfl|simp);conv=>whnf)|(refine AKM.x ?_;conv=>whnf)|(refine CallP.go (hP2 _ _) ?_;conv=>whnf)|(refine CallP.go (hM2) ?_;conv=>whnf)|(refine CallP.go (hA2) ?_;conv=>whnf)))
   refine StR.nat (enc:=eO) (some y) rfl (fun e=>by cases e<;>rfl) (by omega) ?_
   (conv=>whnf)
   (repeat' (refine OpP.add ?_ ?_;omega;conv=>whnf))
   rw[hs]
   exact AKM.back [] (by (conv=>whnf);exact ⟨rfl,rfl,rfl⟩) (jh (j+1) (by omega) (by omega))
  ·obtain rfl:j=S.a.length:=by omega
   clear jh
   rw[List.take_of_length_le (by omega),fillO_full (by omega)]
   rw[show nw.length=nx.length by omega]
   (repeat' (first|(refine CmpP.go (fun hc => ?_) (fun hc => ?_)<;>first|(exfalso;omega)|(conv=>whnf))|(refine OpP.add ?_ ?_;omega;conv=>whnf)|(refine AKM.x ?_;conv=>whnf)))
   refine AKM.back [(133032,133069),(133048,133066)] (by (conv=>whnf);exact ⟨rfl,rfl,rfl⟩) (ih (i+1) nx (os++[S.out nw x]) 133069 (by omega) ⟨by omega,by rw[hst2],by rw[hos2]⟩)
 ·obtain rfl:i=xs.length:=by omega
  clear ih
  rw[List.take_of_length_le (Nat.le_refl _)]at p2 p3
  rw[←p2,←p3]
  (repeat' (first|(refine CmpP.go (fun hc => ?_) (fun hc => ?_)<;>first|(exfalso;omega)|(conv=>whnf))|(refine SnR.all (fun _=>rfl) rfl ?_ ?_;(first|rfl|simp);conv=>whnf)|(refine AKM.x ?_;conv=>whnf)))
  exact FinP.go rfl (cl_three _ _ _)
theorem Bs.zeros (k n:Nat):Bs k (List.replicate n 0):=fun x hx=>by rw[(List.mem_replicate.1 hx).2];exact Bt.zero k
end Go.Eng
namespace Go.Eng
open F
attribute [local irreducible] AKM CmpP Req OpP UnP ConvP RdP LdR StR MkR LenP AppR AppN CpyR RowP SnR Bds SlS CallP CalP FinP pw LdM GetM SetM PutM MkM AppM SnM FlP CallR
set_option maxHeartbeats 4000000
variable {L:Lib}
theorem cl_sl (l:List Nat):Clean (.sl false (l.map e32)):=by
 simp only[Clean,true_and];exact cl_dig l
theorem apX_rw {M:Mem} {v:AV} {ky t z off len s:Nat} {l:List Nat} (hv:v = .row ky t z off len) (h:mget M ky=some (s,.rw 1 (l.map e32))):apX M v=none:=by
 subst hv
 unfold apX
 split
 ·rename_i e
  simp only[AV.row.injEq]at e
  obtain ⟨rfl,_⟩:=e
  rw[h]
  cases l with
  | nil=>rfl
  | cons a l=>cases l<;>rfl
 ·rfl
theorem ev_r1_Trim (N:RefGLib L) (l:List Nat) (q:Bool) (hD:Dig l) (hl:l.length≤1099511627776):Ev L 101 [.sl q (l.map e32)] (.sl false ((dg (val l)).map e32)):=by
 refine Ev.x N.ref01_Trim rfl rfl ?_
 (repeat' (first|(refine LenP.go ?_;conv=>whnf)|(refine AKM.x ?_;conv=>whnf)))
 refine AKM.loop1 (fun n=>n) (fun (n:Nat)=>n≤l.length ∧ ∀ i,n≤i→i<l.length→l[i]? = some 0) (fun n=>[(3,.int .i64 n)]) (fun _=>[]) [] [] l.length (by (conv=>whnf);exact ⟨rfl,rfl,rfl⟩) ⟨Nat.le_refl _,fun i h1 h2=>by omega⟩ ?_
 intro n ⟨p1,p2⟩ ih
 rcases n with _|n
 ·have hv:=cut_found hD p1 p2 (Or.inl rfl)
  rw[←hv]
  clear ih
  (repeat' (first|(refine CmpP.go (fun hc => ?_) (fun hc => ?_)<;>first|(exfalso;omega)|(conv=>whnf))|(refine AKM.x ?_;conv=>whnf)))
  refine SlS.to (k:=0) (fun _=>rfl) (by omega) ?_
  (conv=>whnf)
  refine AppN.many (enc:=e32) (fun _=>rfl) (by rw[List.length_take];omega) (by rw[List.length_take];omega) ?_
  (conv=>whnf)
  (repeat' (refine SnR.all (fun _=>rfl) rfl ?_ ?_;(first|rfl|simp);conv=>whnf))
  exact FinP.go rfl (cl_sl _)
 ·have e1:((n+1:Nat):Int)-1=n:=by omega
  (repeat' (first|(refine CmpP.go (fun hc => ?_) (fun hc => ?_)<;>first|(exfalso;omega)|(conv=>whnf))|(refine OpP.sub ?_ ?_;omega;conv=>whnf)|(refine RdP.digi (by assumption) ?_ (fun e he hb => ?_);omega;conv=>whnf)|(refine AKM.x ?_;conv=>whnf)))
  ·rw[e1]
   exact AKM.back [] (by (conv=>whnf);exact ⟨rfl,rfl,rfl⟩) (ih n (by omega) ⟨by omega,fun i h1 h2=>by
    by_cases h:i=n
    ·subst h
     rw[e1,Int.toNat_natCast]at he
     rw[he];congr 1;omega
    ·exact p2 i (by omega) h2⟩)
  ·rw[e1,Int.toNat_natCast]at he
   have hv:=cut_found hD p1 p2 (Or.inr ⟨e,he,by omega⟩)
   rw[←hv]
   clear ih
   refine SlS.to (k:=n+1) (fun _=>rfl) (by omega) ?_
   (conv=>whnf)
   refine AppN.many (enc:=e32) (fun _=>rfl) (by rw[List.length_take];omega) (by rw[List.length_take];omega) ?_
   (conv=>whnf)
   (repeat' (refine SnR.all (fun _=>rfl) rfl ?_ ?_;(first|rfl|simp);conv=>whnf))
   exact FinP.go rfl (cl_sl _)
theorem ev_r1_Compare (N:RefGLib L) (a b:List Nat) (q1 q2:Bool) (hA:Dig a) (hB:Dig b) (la:a.length≤1099511627776) (lb:b.length≤1099511627776):Ev L 102 [.sl q1 (a.map e32),.sl q2 (b.map e32)] (.int .i64 (cmpS (val a) (val b))):=by
 have t1:=fun q=>ev_r1_Trim N a q hA la
 have t2:=fun q=>ev_r1_Trim N b q hB lb
 have l1:=dg_len_val hA
 have l2:=dg_len_val hB
 have d1:=dig_dg (val a)
 have d2:=dig_dg (val b)
 refine Ev.x N.ref01_Compare rfl rfl ?_
 by_cases hlen:(dg (val a)).length=(dg (val b)).length
 ·have v1:=val_dg (val a)
  have v2:=val_dg (val b)
  generalize dg (val a)=X at *
  generalize dg (val b)=Y at *
  (repeat' (first|(refine CmpP.go (fun hc => ?_) (fun hc => ?_)<;>first|(exfalso;omega)|(conv=>whnf))|(refine OpP.sub ?_ ?_;omega;conv=>whnf)|(refine LenP.go ?_;conv=>whnf)|(refine AKM.x ?_;conv=>whnf)|(refine CallP.go (t1 _) ?_;conv=>whnf)|(refine CallP.go (t2 _) ?_;conv=>whnf)))
  refine AKM.loop1 (fun n=>n) (fun (n:Nat)=>n≤X.length∧X.drop n=Y.drop n) (fun n=>[(5,.int .i64 ((n:Int)-1))]) (fun _=>[]) [] [] X.length (by (conv=>whnf);exact ⟨rfl,rfl,rfl⟩) ⟨Nat.le_refl _,by rw[List.drop_of_length_le (Nat.le_refl _),List.drop_of_length_le (by omega)]⟩ ?_
  intro n ⟨p1,p2⟩ ih
  rcases n with _|n
  ·(repeat' (first|(refine CmpP.go (fun hc => ?_) (fun hc => ?_)<;>first|(exfalso;omega)|(conv=>whnf))|(refine AKM.x ?_;conv=>whnf)))
   rw[List.drop_zero,List.drop_zero]at p2
   exact FinP.i (cmpS_eq (by rw[←v1,←v2,p2]))
  ·have e1:((n+1:Nat):Int)-1=n:=by omega
   rw[e1]
   obtain ⟨x,hx⟩ : ∃ x,X[n]? = some x:=⟨_,List.getElem?_eq_getElem (by omega)⟩
   obtain ⟨y,hy⟩ : ∃ y,Y[n]? = some y:=⟨_,List.getElem?_eq_getElem (by omega)⟩
   rcases Nat.lt_trichotomy x y with h|h|h
   ·have:=val_lt_of_drop d1 d2 hlen hx hy p2 h
    (repeat' (first|(refine CmpP.go (fun hc => ?_) (fun hc => ?_)<;>first|(exfalso;omega)|(conv=>whnf))|(refine RdP.at (by assumption) ?_ rfl ?_;omega;conv=>whnf)|(refine AKM.x ?_;conv=>whnf)))
    exact FinP.i (cmpS_lt (by omega))
   ·subst h
    (repeat' (first|(refine CmpP.go (fun hc => ?_) (fun hc => ?_)<;>first|(exfalso;omega)|(conv=>whnf))|(refine OpP.sub ?_ ?_;omega;conv=>whnf)|(refine RdP.at (by assumption) ?_ rfl ?_;omega;conv=>whnf)|(refine AKM.x ?_;conv=>whnf)))
    refine AKM.back [] (by (conv=>whnf);exact ⟨rfl,rfl,rfl⟩) (ih n (by omega) ⟨by omega,?_⟩)
    obtain ⟨i1,e1⟩:=List.getElem?_eq_some_iff.1 hx
    obtain ⟨i2,e2⟩:=List.getElem?_eq_some_iff.1 hy
    rw[List.drop_eq_getElem_cons i1,List.drop_eq_getElem_cons i2,p2,e1,e2]
   ·have:=val_lt_of_drop d2 d1 hlen.symm hy hx p2.symm h
    (repeat' (first|(refine CmpP.go (fun hc => ?_) (fun hc => ?_)<;>first|(exfalso;omega)|(conv=>whnf))|(refine RdP.at (by assumption) ?_ rfl ?_;omega;conv=>whnf)|(refine AKM.x ?_;conv=>whnf)))
    exact FinP.i (cmpS_gt (by omega))
 ·rcases Nat.lt_trichotomy (dg (val a)).length (dg (val b)).length with h1|h1|h1
  ·have:=val_lt_of_len h1
   (repeat' (first|(refine CmpP.go (fun hc => ?_) (fun hc => ?_)<;>first|(exfalso;omega)|(conv=>whnf))|(refine LenP.go ?_;conv=>whnf)|(refine AKM.x ?_;conv=>whnf)|(refine CallP.go (t1 _) ?_;conv=>whnf)|(refine CallP.go (t2 _) ?_;conv=>whnf)))
   exact FinP.i (cmpS_lt (by omega))
  ·exact absurd h1 hlen
  ·have:=val_lt_of_len h1
   (repeat' (first|(refine CmpP.go (fun hc => ?_) (fun hc => ?_)<;>first|(exfalso;omega)|(conv=>whnf))|(refine LenP.go ?_;conv=>whnf)|(refine AKM.x ?_;conv=>whnf)|(refine CallP.go (t1 _) ?_;conv=>whnf)|(refine CallP.go (t2 _) ?_;conv=>whnf)))
   exact FinP.i (cmpS_gt (by omega))
theorem val_take_get {y:List Nat} (i:Nat):val (y.take (i+1))=val (y.take i)+4294967296^i*y.getD i 0:=by
 rcases Nat.lt_or_ge i y.length with h|h
 ·rw[val_take_succ (List.getElem?_eq_getElem h),getD_is (List.getElem?_eq_getElem h)]
 ·rw[←getD_none h,val_take_all h,val_take_all (by omega)];omega
theorem ev_r1_Add (N:RefGLib L) (a b:List Nat) (q1 q2:Bool) (hA:Dig a) (hB:Dig b) (la:a.length≤549755813888) (lb:b.length≤549755813888):Ev L 103 [.sl q1 (a.map e32),.sl q2 (b.map e32)] (.sl false ((dg (val a+val b)).map e32)):=by
 refine Ev.x N.ref01_Add rfl rfl ?_
 (repeat' (refine AKM.x ?_;conv=>whnf))
 refine AKM.loop3 (fun i _ _=>a.length+b.length-i) (fun (i:Nat) (o:List Nat) (c:Nat)=>(i≤a.length∨i≤b.length)∧o.length=i∧Dig o∧c≤1∧val o+4294967296^i*c=val (a.take i)+val (b.take i)) (fun i o c=>[(7,.int .i64 i),(6,.int .u64 (c:Int)),(5,.row 5 0 1 0 o.length)]) (fun i o c=>[(5,5,.rw 1 (o.map e32))]) [] [] 0 [] 0 (by (conv=>whnf);exact ⟨rfl,rfl,rfl⟩) ⟨by omega,rfl,dig_nil,by omega,by simp [val]⟩ ?_
 intro i o c ⟨p1,p2,p3,p4,p5⟩ ih
 by_cases hi:i<a.length∨i<b.length
 ·have g1:=val_take_get (y:=a) i
  have g2:=val_take_get (y:=b) i
  have k1:=getD_lt hA i
  have k2:=getD_lt hB i
  have hst : ∀ t,t=c+a.getD i 0+b.getD i 0→val (o++[t%4294967296])+4294967296^(i+1)*(t/4294967296)=val (a.take (i+1))+val (b.take (i+1)):=fun t ht=>by
   have h3:=carry_step (val o) (4294967296^i) t
   rw[val_snoc,p2,g1,g2,Nat.pow_succ]
   rw[h3,ht,Nat.mul_add,Nat.mul_add]
   omega
  by_cases h1:i<a.length
  ·obtain ⟨x,hx⟩ : ∃ x,a[i]? = some x:=⟨_,List.getElem?_eq_getElem h1⟩
   have hxb:=hA.at hx
   rw[getD_is hx]at hst
   by_cases h2:i<b.length
   ·obtain ⟨y,hy⟩ : ∃ y,b[i]? = some y:=⟨_,List.getElem?_eq_getElem h2⟩
    have hyb:=hB.at hy
    rw[getD_is hy]at hst
    (repeat' (first|(refine CmpP.go (fun hc => ?_) (fun hc => ?_)<;>first|(exfalso;omega)|(conv=>whnf))|(refine OpP.nadd ?_ ?_;omega;conv=>whnf)|(refine ConvP.u64 ?_ ?_;omega;conv=>whnf)|(refine ConvP.n32 ?_;conv=>whnf)|(refine LenP.go ?_;conv=>whnf)|(refine RdP.at (by assumption) ?_ rfl ?_;omega;conv=>whnf)|(refine RowP.e1 ?_;conv=>whnf)|(refine AKM.x ?_;conv=>whnf)))
    refine AppR.one (enc:=e32) (((c+x+y)%4294967296:Nat)) rfl rfl rfl (by omega) (by omega) ?_
    (conv=>whnf)
    (repeat' (first|(refine OpP.add ?_ ?_;omega;conv=>whnf)|(refine OpP.nshr32 ?_;conv=>whnf)))
    refine AKM.back [(5,46)] (by (conv=>whnf);exact ⟨rfl,rfl,rfl⟩) (ih (i+1) (o++[(c+x+y)%4294967296]) ((c+x+y)/4294967296) (by omega) ⟨by omega,by simp;omega,p3.append (dig_one (by omega)),by omega,?_⟩)
    exact hst (c+x+y) (by omega)
   ·rw[←getD_none (show b.length≤i by omega)]at hst
    (repeat' (first|(refine CmpP.go (fun hc => ?_) (fun hc => ?_)<;>first|(exfalso;omega)|(conv=>whnf))|(refine OpP.nadd ?_ ?_;omega;conv=>whnf)|(refine ConvP.u64 ?_ ?_;omega;conv=>whnf)|(refine ConvP.n32 ?_;conv=>whnf)|(refine LenP.go ?_;conv=>whnf)|(refine RdP.at (by assumption) ?_ rfl ?_;omega;conv=>whnf)|(refine RowP.e1 ?_;conv=>whnf)|(refine AKM.x ?_;conv=>whnf)))
    refine AppR.one (enc:=e32) (((c+x)%4294967296:Nat)) rfl rfl rfl (by omega) (by omega) ?_
    (conv=>whnf)
    (repeat' (first|(refine OpP.add ?_ ?_;omega;conv=>whnf)|(refine OpP.nshr32 ?_;conv=>whnf)))
    refine AKM.back [(5,46)] (by (conv=>whnf);exact ⟨rfl,rfl,rfl⟩) (ih (i+1) (o++[(c+x)%4294967296]) ((c+x)/4294967296) (by omega) ⟨by omega,by simp;omega,p3.append (dig_one (by omega)),by omega,?_⟩)
    exact hst (c+x) (by omega)
  ·obtain ⟨y,hy⟩ : ∃ y,b[i]? = some y:=⟨_,List.getElem?_eq_getElem (by omega)⟩
   have hyb:=hB.at hy
   rw[getD_is hy,←getD_none (show a.length≤i by omega)]at hst
   (repeat' (first|(refine CmpP.go (fun hc => ?_) (fun hc => ?_)<;>first|(exfalso;omega)|(conv=>whnf))|(refine OpP.nadd ?_ ?_;omega;conv=>whnf)|(refine ConvP.u64 ?_ ?_;omega;conv=>whnf)|(refine ConvP.n32 ?_;conv=>whnf)|(refine LenP.go ?_;conv=>whnf)|(refine RdP.at (by assumption) ?_ rfl ?_;omega;conv=>whnf)|(refine RowP.e1 ?_;conv=>whnf)|(refine AKM.x ?_;conv=>whnf)))
   refine AppR.one (enc:=e32) (((c+y)%4294967296:Nat)) rfl rfl rfl (by omega) (by omega) ?_
   (conv=>whnf)
   (repeat' (first|(refine OpP.add ?_ ?_;omega;conv=>whnf)|(refine OpP.nshr32 ?_;conv=>whnf)))
   refine AKM.back [(5,46)] (by (conv=>whnf);exact ⟨rfl,rfl,rfl⟩) (ih (i+1) (o++[(c+y)%4294967296]) ((c+y)/4294967296) (by omega) ⟨by omega,by simp;omega,p3.append (dig_one (by omega)),by omega,?_⟩)
   exact hst (c+y) (by omega)
 ·clear ih
  have hv:val (o++[c])=val a+val b:=by
   rw[val_take_all (by omega),val_take_all (by omega)]at p5
   rw[val_snoc,p2,p5]
  have hT:=fun q=>ev_r1_Trim N (o++[c]) q (p3.append (dig_one (by omega))) (by simp;omega)
  rw[hv]at hT
  (repeat' (first|(refine CmpP.go (fun hc => ?_) (fun hc => ?_)<;>first|(exfalso;omega)|(conv=>whnf))|(refine ConvP.n32i ?_ ?_;omega;conv=>whnf)|(refine LenP.go ?_;conv=>whnf)|(refine RowP.e1 ?_;conv=>whnf)|(refine AKM.x ?_;conv=>whnf)))
  refine AppR.one (enc:=e32) c rfl rfl rfl (by omega) (by omega) ?_
  (conv=>whnf)
  (repeat' (first|(refine SnR.all (fun _=>rfl) rfl ?_ ?_;(first|rfl|simp);conv=>whnf)|(refine CallP.go (hT _) ?_;conv=>whnf)))
  exact FinP.go rfl (cl_sl _)
theorem cmpS_ge {a b:Nat} (h:b≤a):0≤cmpS a b:=by unfold cmpS;split<;>(try split)<;>omega
theorem rsub_step {V Y X p d e bw have' take w bw':Nat} (h:V+Y=X+p*bw) (h1:take=bw+e) (h2:(have'=d∧bw'=0∧take≤d)∨(have'=d+4294967296∧bw'=1∧d<take)) (h3:w+take=have'):V+p*w+(Y+p*e)=X+p*d+p*4294967296*bw':=by
 have h4:w+bw+e=d+4294967296*bw':=by omega
 have h5:p*(w+bw+e)=p*(d+4294967296*bw'):=by rw[h4]
 rw[Nat.mul_add,Nat.mul_add,Nat.mul_add,←Nat.mul_assoc]at h5
 omega
theorem r1_sub_main (N:RefGLib L) (x y:List Nat) (hX:Dig x) (hY:Dig y) (lx:x.length≤549755813888) (ly:y.length≤549755813888) (hle:val y≤val x) :
  AKM L [It.lp ref01_Sub.l1,It.blk 0,It.code (((ACode.ops ref01_Sub.r18 false).dr [1,5,6,7,21,53,54] []).seq ACode.ret)]
  [(7,AV.int IntKind.i64 0),(6,AV.int IntKind.u64 0),(5,AV.row 101021 0 1 0 x.length),(1,AV.sl false (List.map e32 y))]
  [(101021,101021,Cel.rw 1 (List.map e32 x))]
  (RetX ref01_Sub (AV.sl false (List.map e32 (dg (val x-val y))))):=by
 refine AKM.loop3 (fun i _ _=>x.length-i) (fun (i:Nat) (o:List Nat) (bw:Nat)=>i≤x.length∧o.length=x.length∧Dig o∧bw≤1∧o.drop i=x.drop i∧val (o.take i)+val (y.take i)=val (x.take i)+4294967296^i*bw) (fun i o bw=>[(7,.int .i64 i),(6,.int .u64 (bw:Int))]) (fun i o bw=>[(101021,101021,.rw 1 (o.map e32))]) [] [] 0 x 0 (by (conv=>whnf);exact ⟨rfl,rfl,rfl⟩) ⟨by omega,rfl,hX,by omega,rfl,by simp [val]⟩ ?_
 intro i o bw ⟨p1,p2,p3,p4,p5,p6⟩ ih
 by_cases hi:i<x.length
 ·obtain ⟨d,hd⟩ : ∃ d,o[i]? = some d:=⟨_,List.getElem?_eq_getElem (by omega)⟩
  have hdb:=p3.at hd
  have hxi:x[i]? = some d:=by
   have e1:(o.drop i)[0]? = (x.drop i)[0]? := by rw[p5]
   simpa [hd] using e1.symm
  have g1:=val_take_succ hxi
  have g2:=val_take_get (y:=y) i
  have ge:=getD_lt hY i
  have hst : ∀ have' take w bw',take=bw+y.getD i 0→((have'=d∧bw'=0∧take≤d)∨(have'=d+4294967296∧bw'=1∧d<take))→w+take=have'→val ((o.set i w).take (i+1))+val (y.take (i+1))=val (x.take (i+1))+4294967296^(i+1)*bw':=fun have' take w bw' a1 a2 a3=>by
   rw[val_set_take (by omega),g1,g2,Nat.pow_succ]
   exact rsub_step p6 a1 a2 a3
  have hdr : ∀ w,(o.set i w).drop (i+1)=x.drop (i+1):=fun w=>by
   rw[List.drop_set_of_lt (by omega)]
   have e1:(o.drop i).drop 1=(x.drop i).drop 1:=by rw[p5]
   simpa using e1
  by_cases hy:i<y.length
  ·obtain ⟨e,he⟩ : ∃ e,y[i]? = some e:=⟨_,List.getElem?_eq_getElem hy⟩
   have heb:=hY.at he
   rw[getD_is he]at hst
   by_cases hlt:d<bw+e
   ·have h3:=hst (d+4294967296) (bw+e) (d+4294967296-(bw+e)) 1 (by omega) (Or.inr ⟨rfl,rfl,hlt⟩) (by omega)
    (repeat' (first|(refine CmpP.go (fun hc => ?_) (fun hc => ?_)<;>first|(exfalso;omega)|(conv=>whnf))|(refine Req.go ?_ ?_;omega;conv=>whnf)|(refine OpP.nadd ?_ ?_;omega;conv=>whnf)|(refine OpP.nsub ?_ ?_ ?_;omega;omega;conv=>whnf)|(refine OpP.naddB ?_ ?_;omega;conv=>whnf)|(refine ConvP.u64 ?_ ?_;omega;conv=>whnf)|(refine ConvP.n32i ?_ ?_;omega;conv=>whnf)|(refine LenP.go ?_;conv=>whnf)|(refine RdP.at (by assumption) ?_ rfl ?_;omega;conv=>whnf)|(refine LdR.dat (by assumption) ?_;conv=>whnf)|(refine AKM.x ?_;conv=>whnf)))
    refine StR.dig (by omega) ?_
    (conv=>whnf)
    (repeat' (refine OpP.add ?_ ?_;omega;conv=>whnf))
    exact AKM.back [] (by (conv=>whnf);exact ⟨rfl,rfl,rfl⟩) (ih (i+1) (o.set i (d+4294967296-(bw+e))) 1 (by omega) ⟨by omega,by simpa using p2,p3.set _ (by omega),by omega,hdr _,h3⟩)
   ·have h3:=hst d (bw+e) (d-(bw+e)) 0 (by omega) (Or.inl ⟨rfl,rfl,by omega⟩) (by omega)
    (repeat' (first|(refine CmpP.go (fun hc => ?_) (fun hc => ?_)<;>first|(exfalso;omega)|(conv=>whnf))|(refine Req.go ?_ ?_;omega;conv=>whnf)|(refine OpP.nadd ?_ ?_;omega;conv=>whnf)|(refine OpP.nsub ?_ ?_ ?_;omega;omega;conv=>whnf)|(refine ConvP.u64 ?_ ?_;omega;conv=>whnf)|(refine ConvP.n32i ?_ ?_;omega;conv=>whnf)|(refine LenP.go ?_;conv=>whnf)|(refine RdP.at (by assumption) ?_ rfl ?_;omega;conv=>whnf)|(refine LdR.dat (by assumption) ?_;conv=>whnf)|(refine AKM.x ?_;conv=>whnf)))
    refine StR.dig (by omega) ?_
    (conv=>whnf)
    (repeat' (refine OpP.add ?_ ?_;omega;conv=>whnf))
    exact AKM.back [] (by (conv=>whnf);exact ⟨rfl,rfl,rfl⟩) (ih (i+1) (o.set i (d-(bw+e))) 0 (by omega) ⟨by omega,by simpa using p2,p3.set _ (by omega),by omega,hdr _,h3⟩)
  ·rw[←getD_none (show y.length≤i by omega)]at hst
   by_cases hlt:d<bw
   ·have h3:=hst (d+4294967296) (bw) (d+4294967296-(bw)) 1 (by omega) (Or.inr ⟨rfl,rfl,hlt⟩) (by omega)
    (repeat' (first|(refine CmpP.go (fun hc => ?_) (fun hc => ?_)<;>first|(exfalso;omega)|(conv=>whnf))|(refine Req.go ?_ ?_;omega;conv=>whnf)|(refine OpP.nsub ?_ ?_ ?_;omega;omega;conv=>whnf)|(refine OpP.naddB ?_ ?_;omega;conv=>whnf)|(refine ConvP.u64 ?_ ?_;omega;conv=>whnf)|(refine ConvP.n32i ?_ ?_;omega;conv=>whnf)|(refine LenP.go ?_;conv=>whnf)|(refine LdR.dat (by assumption) ?_;conv=>whnf)|(refine AKM.x ?_;conv=>whnf)))
    refine StR.dig (by omega) ?_
    (conv=>whnf)
    (repeat' (refine OpP.add ?_ ?_;omega;conv=>whnf))
    exact AKM.back [] (by (conv=>whnf);exact ⟨rfl,rfl,rfl⟩) (ih (i+1) (o.set i (d+4294967296-(bw))) 1 (by omega) ⟨by omega,by simpa using p2,p3.set _ (by omega),by omega,hdr _,h3⟩)
   ·have h3:=hst d (bw) (d-(bw)) 0 (by omega) (Or.inl ⟨rfl,rfl,by omega⟩) (by omega)
    (repeat' (first|(refine CmpP.go (fun hc => ?_) (fun hc => ?_)<;>first|(exfalso;omega)|(conv=>whnf))|(refine Req.go ?_ ?_;omega;conv=>whnf)|(refine OpP.nsub ?_ ?_ ?_;omega;omega;conv=>whnf)|(refine ConvP.u64 ?_ ?_;omega;conv=>whnf)|(refine ConvP.n32i ?_ ?_;omega;conv=>whnf)|(refine LenP.go ?_;conv=>whnf)|(refine LdR.dat (by assumption) ?_;conv=>whnf)|(refine AKM.x ?_;conv=>whnf)))
    refine StR.dig (by omega) ?_
    (conv=>whnf)
    (repeat' (refine OpP.add ?_ ?_;omega;conv=>whnf))
    exact AKM.back [] (by (conv=>whnf);exact ⟨rfl,rfl,rfl⟩) (ih (i+1) (o.set i (d-(bw))) 0 (by omega) ⟨by omega,by simpa using p2,p3.set _ (by omega),by omega,hdr _,h3⟩)
 ·obtain rfl:i=x.length:=by omega
  clear ih
  rw[val_take_all (by omega),val_take_all (Nat.le_refl _)]at p6
  have h1:=val_lt p3
  rw[p2]at h1
  have h2:val (y.take x.length)≤val y:=by have:=val_splitD y x.length;omega
  have hb0:bw=0:=by
   rcases Nat.eq_zero_or_pos bw with h|h
   ·exact h
   ·have:bw=1:=by omega
    subst this
    omega
  subst hb0
  have hve:val (y.take x.length)=val y:=by
   have h3:=val_splitD y x.length
   rcases Nat.eq_zero_or_pos (val (y.drop x.length)) with h|h
   ·rw[h]at h3;omega
   ·have h4:4294967296^x.length*1≤4294967296^x.length*val (y.drop x.length):=Nat.mul_le_mul_left _ h
    have h5:=val_lt hX
    omega
  have hv:val o=val x-val y:=by omega
  have hT:=fun q=>ev_r1_Trim N o q p3 (by omega)
  rw[←hv,←p2]
  (repeat' (first|(refine CmpP.go (fun hc => ?_) (fun hc => ?_)<;>first|(exfalso;omega)|(conv=>whnf))|(refine SnR.all (fun _=>rfl) rfl ?_ ?_;(first|rfl|simp);conv=>whnf)|(refine AKM.x ?_;conv=>whnf)|(refine CallP.go (hT _) ?_;conv=>whnf)))
  exact FinP.go rfl (cl_sl _)
theorem ev_r1_Sub (N:RefGLib L) (a b:List Nat) (q1 q2:Bool) (hA:Dig a) (hB:Dig b) (la:a.length≤549755813888) (lb:b.length≤549755813888):Ev L 104 [.sl q1 (a.map e32),.sl q2 (b.map e32)] (.sl false ((dg (val a-val b)).map e32)):=by
 have hcmp:=fun q q'=>ev_r1_Compare N a b q q' hA hB (by omega) (by omega)
 have t2:=fun q=>ev_r1_Trim N b q hB (by omega)
 refine Ev.x N.ref01_Sub rfl rfl ?_
 by_cases hlt:val a<val b
 ·rw[←cmpS_lt (by omega)]at hcmp
  rw[show val a-val b=0 by omega,dg_zero]
  (repeat' (first|(refine CmpP.go (fun hc => ?_) (fun hc => ?_)<;>first|(exfalso;omega)|(conv=>whnf))|(refine AKM.x ?_;conv=>whnf)|(refine CallP.go (hcmp _ _) ?_;conv=>whnf)))
  exact FinP.go rfl (cl_sl [])
 ·have hge:=cmpS_ge (show val b≤val a by omega)
  generalize cmpS (val a) (val b)=cm at *
  have d2:=dig_dg (val b)
  have v2:=val_dg (val b)
  have l2:=dg_len_val hB
  rw[←v2]
  rw[←v2]at hlt
  generalize dg (val b)=y at *
  have hdg : ∀ n,a.take n=dg (val a)→val (a.take n)=val a:=fun n h=>by rw[h,val_dg]
  (repeat' (first|(refine CmpP.go (fun hc => ?_) (fun hc => ?_)<;>first|(exfalso;omega)|(conv=>whnf))|(refine AKM.x ?_;conv=>whnf)|(refine CallP.go (hcmp _ _) ?_;conv=>whnf)|(refine CallP.go (t2 _) ?_;conv=>whnf)))
  refine CalP.walk 1000 N.ref01_Trim rfl rfl ?_
  (repeat' (first|(refine LenP.go ?_;conv=>whnf)|(refine AKM.x ?_;conv=>whnf)))
  refine AKM.loop1 (fun n=>n) (fun (n:Nat)=>n≤a.length ∧ ∀ i,n≤i→i<a.length→a[i]? = some 0) (fun n=>[(3,.int .i64 n)]) (fun _=>[]) [] [] a.length (by (conv=>whnf);exact ⟨rfl,rfl,rfl⟩) ⟨Nat.le_refl _,fun i h1 h2=>by omega⟩ ?_
  intro n ⟨p1,p2⟩ ih
  rcases n with _|n
  ·have hv:=hdg _ (cut_found hA p1 p2 (Or.inl rfl))
   clear ih
   (repeat' (first|(refine CmpP.go (fun hc => ?_) (fun hc => ?_)<;>first|(exfalso;omega)|(conv=>whnf))|(refine AKM.x ?_;conv=>whnf)))
   refine SlS.to (k:=0) (fun _=>rfl) (by omega) ?_
   (conv=>whnf)
   refine AppN.many (enc:=e32) (fun _=>rfl) (by rw[List.length_take];omega) (by rw[List.length_take];omega) ?_
   (conv=>whnf)
   refine ⟨rfl,_,rfl,?_⟩
   (conv=>whnf)
   skip
   rw[←hv]
   exact AKM.back [] (by (conv=>whnf);exact ⟨rfl,rfl,rfl⟩) (r1_sub_main N (a.take 0) y (hA.take _) d2 (by simp) (by omega) (by omega))
  ·have e1:((n+1:Nat):Int)-1=n:=by omega
   (repeat' (first|(refine CmpP.go (fun hc => ?_) (fun hc => ?_)<;>first|(exfalso;omega)|(conv=>whnf))|(refine OpP.sub ?_ ?_;omega;conv=>whnf)|(refine RdP.digi (by assumption) ?_ (fun e he hb => ?_);omega;conv=>whnf)|(refine AKM.x ?_;conv=>whnf)))
   ·rw[e1]
    exact AKM.back [] (by (conv=>whnf);exact ⟨rfl,rfl,rfl⟩) (ih n (by omega) ⟨by omega,fun i h1 h2=>by
     by_cases h:i=n
     ·subst h
      rw[e1,Int.toNat_natCast]at he
      rw[he];congr 1;omega
     ·exact p2 i (by omega) h2⟩)
   ·rw[e1,Int.toNat_natCast]at he
    have hv:=hdg _ (cut_found hA p1 p2 (Or.inr ⟨_,he,by omega⟩))
    clear ih
    refine SlS.to (k:=n+1) (fun _=>rfl) (by omega) ?_
    (conv=>whnf)
    refine AppN.many (enc:=e32) (fun _=>rfl) (by rw[List.length_take];omega) (by rw[List.length_take];omega) ?_
    (conv=>whnf)
    refine ⟨rfl,_,rfl,?_⟩
    (conv=>whnf)
    skip
    rw[←hv]
    exact AKM.back [] (by (conv=>whnf);exact ⟨rfl,rfl,rfl⟩) (r1_sub_main N (a.take (n+1)) y (hA.take _) d2 (by rw[List.length_take];omega) (by omega) (by omega))
theorem ev_r1_Mul (N:RefGLib L) (x y:List Nat) (q1 q2:Bool) (hA:Dig x) (hB:Dig y) (lab:x.length+y.length≤549755813888):Ev L 105 [.sl q1 (x.map e32),.sl q2 (y.map e32)] (.sl false ((dg (val x*val y)).map e32)):=by
 refine Ev.x N.ref01_Mul rfl rfl ?_
 (repeat' (first|(refine OpP.add ?_ ?_;omega;conv=>whnf)|(refine LenP.go ?_;conv=>whnf)|(refine AKM.x ?_;conv=>whnf)))
 refine MkR.go (enc:=e32) 0 (x.length+y.length+1) rfl (by omega) (by omega) ?_
 (conv=>whnf)
 skip
 refine AKM.loop2 (fun i _=>x.length-i) (fun (i:Nat) (o:List Nat)=>i≤x.length∧o.length=x.length+y.length+1∧Dig o∧val o=val (x.take i)*val y ∧ ∀ k,i+y.length≤k→k<o.length→o[k]? = some 0) (fun i o=>[(6,.int .i64 i)]) (fun i o=>[(15,15,.rw 1 (o.map e32))]) [] [] 0 (List.replicate (x.length+y.length+1) 0) (by (conv=>whnf);exact ⟨rfl,rfl,rfl⟩) ⟨by omega,by simp,dig_zeros _,by simp [val,val_zeros],fun k h1 h2=>by simp at h2;simp [h2]⟩ ?_
 intro i O ⟨p1,p2,p3,p4,p5⟩ ih
 by_cases hi:i<x.length
 ·obtain ⟨d,hd⟩ : ∃ d,x[i]? = some d:=⟨_,List.getElem?_eq_getElem hi⟩
  have hdb:=hA.at hd
  (repeat' (first|(refine CmpP.go (fun hc => ?_) (fun hc => ?_)<;>first|(exfalso;omega)|(conv=>whnf))|(refine LenP.go ?_;conv=>whnf)|(refine AKM.x ?_;conv=>whnf)))
  refine AKM.loop3 (fun j _ _=>y.length-j) (fun (j:Nat) (o:List Nat) (c:Nat)=>j≤y.length∧o.length=x.length+y.length+1∧Dig o∧c<4294967296∧val o+4294967296^(i+j)*c=val O+4294967296^i*(d*val (y.take j)) ∧ ∀ k,i+j≤k→o[k]? = O[k]?) (fun j o c=>[(7,.int .u64 (c:Int)),(8,.int .i64 j)]) (fun j o c=>[(15,15,.rw 1 (o.map e32))]) [] [] 0 O 0 (by (conv=>whnf);exact ⟨rfl,rfl,rfl⟩) ⟨by omega,p2,p3,by omega,by simp [val],fun _ _=>rfl⟩ ?_
  intro j o c ⟨r1,r2,r3,r4,r5,r6⟩ jh
  have e1:((i:Int)+j).toNat=i+j:=by omega
  by_cases hj:j<y.length
  ·obtain ⟨w,hw⟩ : ∃ w,y[j]? = some w:=⟨_,List.getElem?_eq_getElem hj⟩
   have hwb:=hB.at hw
   have hm:=mul_le_dig hdb hwb
   (repeat' (first|(refine CmpP.go (fun hc => ?_) (fun hc => ?_)<;>first|(exfalso;omega)|(conv=>whnf))|(refine Req.go ?_ ?_;omega;conv=>whnf)|(refine OpP.add ?_ ?_;omega;conv=>whnf)|(refine OpP.nadd ?_ ?_;omega;conv=>whnf)|(refine OpP.nmul ?_ ?_;omega;conv=>whnf)|(refine ConvP.u64 ?_ ?_;omega;conv=>whnf)|(refine ConvP.n32 ?_;conv=>whnf)|(refine LenP.go ?_;conv=>whnf)|(refine RdP.at (by assumption) ?_ rfl ?_;omega;conv=>whnf)|(refine LdR.dig (by assumption) ?_ (fun v hv hb => ?_);omega;conv=>whnf)|(refine AKM.x ?_;conv=>whnf)))
   refine StR.digo (i+j) (by omega) (by omega) ?_
   (conv=>whnf)
   (repeat' (first|(refine OpP.add ?_ ?_;omega;conv=>whnf)|(refine OpP.nshr32 ?_;conv=>whnf)))
   refine AKM.back [] (by (conv=>whnf);exact ⟨rfl,rfl,rfl⟩) (jh (j+1) _ _ (by omega) ⟨by omega,by simpa using r2,r3.set _ (by omega),by omega,?_,?_⟩)
   ·have h1:=val_set (v:=(c+(d*w+v))%4294967296) hv
    have h2:=carry_step 0 (4294967296^(i+j)) (c+(d*w+v))
    rw[val_take_succ hw,show i+(j+1)=i+j+1 by omega,Nat.pow_succ (4294967296) (i+j)]
    have h3:4294967296^i*(d*(val (y.take j)+4294967296^j*w))=4294967296^i*(d*val (y.take j))+4294967296^(i+j)*(d*w):=by rw[Nat.pow_add];grind
    rw[h3]
    generalize 4294967296^(i+j)=P at *
    rw[Nat.mul_add P c,Nat.mul_add P]at h2
    omega
   ·intro k hk
    rw[List.getElem?_set_ne (by omega)]
    exact r6 k (by omega)
  ·obtain rfl:j=y.length:=by omega
   clear jh
   have hz:=r6 (i+y.length) (by omega)
   rw[p5 (i+y.length) (by omega) (by omega)]at hz
   (repeat' (first|(refine CmpP.go (fun hc => ?_) (fun hc => ?_)<;>first|(exfalso;omega)|(conv=>whnf))|(refine Req.go ?_ ?_;omega;conv=>whnf)|(refine OpP.add ?_ ?_;omega;conv=>whnf)|(refine ConvP.n32i ?_ ?_;omega;conv=>whnf)|(refine LenP.go ?_;conv=>whnf)|(refine AKM.x ?_;conv=>whnf)))
   refine StR.digo (i+y.length) (by omega) (by omega) ?_
   (conv=>whnf)
   (repeat' (refine OpP.add ?_ ?_;omega;conv=>whnf))
   refine AKM.back [] (by (conv=>whnf);exact ⟨rfl,rfl,rfl⟩) (ih (i+1) _ (by omega) ⟨by omega,by simpa using r2,r3.set _ (by omega),?_,?_⟩)
   ·have h1:=val_set (v:=c) hz
    rw[Nat.mul_zero,Nat.add_zero]at h1
    rw[h1,r5,p4,val_take_all (Nat.le_refl _),val_take_succ hd,Nat.add_mul,Nat.mul_assoc]
   ·intro k h1 h2
    rw[List.length_set]at h2
    rw[List.getElem?_set_ne (by omega),r6 k (by omega)]
    exact p5 k (by omega) (by omega)
 ·obtain rfl:i=x.length:=by omega
  clear ih
  rw[val_take_all (Nat.le_refl _)]at p4
  have hT:=fun q=>ev_r1_Trim N O q p3 (by omega)
  rw[p4]at hT
  rw[←p2]
  (repeat' (first|(refine CmpP.go (fun hc => ?_) (fun hc => ?_)<;>first|(exfalso;omega)|(conv=>whnf))|(refine LenP.go ?_;conv=>whnf)|(refine SnR.all (fun _=>rfl) rfl ?_ ?_;(first|rfl|simp);conv=>whnf)|(refine AKM.x ?_;conv=>whnf)|(refine CallP.go (hT _) ?_;conv=>whnf)))
  exact FinP.go rfl (cl_sl _)
end Go.Eng

namespace Go.Eng
open F
attribute [local irreducible] AKM CmpP Req OpP UnP ConvP RdP LdR StR MkR LenP AppR AppN CpyR RowP SnR Bds SlS CallP CalP FinP pw LdM GetM SetM PutM MkM AppM SnM FlP CallR
set_option maxHeartbeats 4000000
variable {L:Lib}
theorem dg_digit {d:Nat} (h0:d≠0) (hd:d<4294967296):dg d=[d]:=by
 rw[dg_pos h0,Nat.div_eq_of_lt hd,dg_zero,Nat.mod_eq_of_lt hd]
theorem ev_r1_BitLen (N:RefGLib L) (d:Nat) (q:Bool) (h0:d≠0) (hd:d<4294967296):Ev L 106 [.sl q ([d].map e32)] (.int .i64 (blen d:Int)):=by
 have hT:=fun q=>ev_r1_Trim N [d] q (dig_one hd) (by simp)
 rw[show val [d]=d by simp [val],dg_digit h0 hd]at hT
 have hll:[d].length=1:=rfl
 have hd0:[d][(([d].length:Int)-1).toNat]? = some d:=rfl
 have hb:=blen_le (k:=32) hd
 refine Ev.x N.ref01_BitLen rfl rfl ?_
 (repeat' (first|(refine CmpP.go (fun hc => ?_) (fun hc => ?_)<;>first|(exfalso;omega)|(conv=>whnf))|(refine OpP.sub ?_ ?_;omega;conv=>whnf)|(refine OpP.mul ?_ ?_;omega;conv=>whnf)|(refine LenP.go ?_;conv=>whnf)|(refine RdP.at (by assumption) ?_ rfl ?_;omega;conv=>whnf)|(refine AKM.x ?_;conv=>whnf)|(refine CallP.go (hT _) ?_;conv=>whnf)))
 refine AKM.loop2 (fun _ x=>x) (fun (n x:Nat)=>n+blen x=blen d∧x≤d) (fun n x=>[(3,.int .i64 n),(4,.int .u32 (x:Int))]) (fun _ _=>[]) [] [] 0 d (by (conv=>whnf);exact ⟨rfl,rfl,rfl⟩) ⟨by omega,Nat.le_refl _⟩ ?_
 intro n x ⟨p1,p2⟩ ih
 by_cases hx:x=0
 ·subst hx
  have:blen 0=0:=by unfold blen;simp
  (repeat' (first|(refine CmpP.go (fun hc => ?_) (fun hc => ?_)<;>first|(exfalso;omega)|(conv=>whnf))|(refine AKM.x ?_;conv=>whnf)))
  exact FinP.i (by omega)
 ·have h1:blen (x/2)+1=blen x:=by
   by_cases h1:x=1
   ·subst h1;decide
   ·exact blen_div 1 (x:=x) (by omega)
  (repeat' (first|(refine CmpP.go (fun hc => ?_) (fun hc => ?_)<;>first|(exfalso;omega)|(conv=>whnf))|(refine OpP.add ?_ ?_;omega;conv=>whnf)|(refine OpP.nshr1 ?_;conv=>whnf)|(refine AKM.x ?_;conv=>whnf)))
  exact AKM.back [] (by (conv=>whnf);exact ⟨rfl,rfl,rfl⟩) (ih (n+1) (x/2) (by omega) ⟨by omega,by omega⟩)
theorem up_step {V P X lo s d p t:Nat} (h:V+P*p*lo=P*(X*2^s)) (ht:t=lo+d*2^s):V+P*p*(t%4294967296)+P*p*4294967296*(t/4294967296)=P*((X+p*d)*2^s):=by
 have h1:=carry_step V (P*p) t
 rw[h1,ht]
 have:P*((X+p*d)*2^s)=P*(X*2^s)+P*p*(d*2^s):=by grind
 rw[this,←h,Nat.mul_add]
 omega
theorem ev_r1_Shl (N:RefGLib L) (l:List Nat) (q:Bool) (n:Nat) (hD:Dig l) (hl:l.length≤549755813888) (hn:n≤65536):Ev L 107 [.sl q (l.map e32),.int .i64 (n:Int)] (.sl false ((dg (val l*2^n)).map e32)):=by
 have hT:=fun q=>ev_r1_Trim N l q hD (by omega)
 have d1:=dig_dg (val l)
 have v1:=val_dg (val l)
 have l1:=dg_len_val hD
 have hz:=dg_len0 (val l)
 refine Ev.x N.ref01_Shift rfl rfl ?_
 by_cases h0:val l=0
 ·rw[h0,Nat.zero_mul,dg_zero]
  (repeat' (first|(refine CmpP.go (fun hc => ?_) (fun hc => ?_)<;>first|(exfalso;omega)|(conv=>whnf))|(refine LenP.go ?_;conv=>whnf)|(refine AKM.x ?_;conv=>whnf)|(refine CallP.go (hT _) ?_;conv=>whnf)))
  exact FinP.go rfl (cl_sl [])
 rw[←v1]
 generalize dg (val l)=x at *
 have hs31:n%32<32:=Nat.mod_lt _ (by omega)
 have e1:(n:Int)/32=((n/32:Nat):Int):=by omega
 have e2:(n:Int)%32=((n%32:Nat):Int):=by omega
 (repeat' (first|(refine CmpP.go (fun hc => ?_) (fun hc => ?_)<;>first|(exfalso;omega)|(conv=>whnf))|(refine OpP.quo ?_ ?_ (fun _ => ?_) (fun _ _ => ?_);omega;omega;all_goals first|(exfalso;omega)|(conv=>whnf))|(refine LenP.go ?_;conv=>whnf)|(refine AKM.x ?_;conv=>whnf)|(refine CallP.go (hT _) ?_;conv=>whnf)))
 rw[e1]
 refine MkR.go (enc:=e32) 0 (n/32) rfl rfl (by omega) ?_
 (conv=>whnf)
 skip
 refine AKM.loop3 (fun i _ _=>x.length-i) (fun (i:Nat) (o:List Nat) (c:Nat)=>i≤x.length∧o.length=n/32+i∧Dig o∧c<2^(n%32)∧val o+4294967296^(n/32)*4294967296^i*c=4294967296^(n/32)*(val (x.take i)*2^(n%32))) (fun i o c=>[(10,.int .i64 i),(9,.int .u64 (c:Int)),(8,.row 107069 0 1 0 (n/32+i))]) (fun i o c=>[(107069,107069,.rw 1 (o.map e32))]) [] [] 0 (List.replicate (n/32) 0) 0 (by (conv=>whnf);exact ⟨rfl,rfl,rfl⟩) ⟨by omega,by simp,dig_zeros _,Nat.two_pow_pos _,by simp [val,val_zeros]⟩ ?_
 intro i o c ⟨p1,p2,p3,p4,p5⟩ ih
 have hps:=pow_s_le (s:=n%32) (by omega)
 by_cases hi:i<x.length
 ·obtain ⟨d,hd⟩ : ∃ d,x[i]? = some d:=⟨_,List.getElem?_eq_getElem hi⟩
  have hdb:=d1.at hd
  obtain ⟨f1,f2,f3,f4⟩:=sh_facts (s:=n%32) hdb (by omega)
  have hr:=mul_room (show n%32≤64 by omega) f4
  (repeat' (first|(refine CmpP.go (fun hc => ?_) (fun hc => ?_)<;>first|(exfalso;omega)|(conv=>whnf))|(refine OpP.rem ?_ (fun _ _ _ => ?_) (fun _ _ _ _ => ?_);omega;all_goals first|(exfalso;omega)|(conv=>whnf))|(refine ConvP.u64 ?_ ?_;omega;conv=>whnf)|(refine LenP.go ?_;conv=>whnf)|(refine RdP.at (by assumption) ?_ rfl ?_;omega;conv=>whnf)|(refine AKM.x ?_;conv=>whnf)))
  rw[e2]
  refine OpP.sh8 (by omega) f4 ?_
  (conv=>whnf)
  skip
  refine OpP.nor8r (n%32) (Nat.mul_mod_left _ _) p4 (by omega) ?_
  (conv=>whnf)
  have hst:=up_step (d:=d) p5 rfl
  have hc2:(c+d*2^(n%32))/4294967296<2^(n%32):=by
   rw[Nat.div_lt_iff_lt_mul (by omega)]
   have:=Nat.mul_le_mul_right (2^(n%32)) (show d≤4294967295 by omega)
   omega
  generalize c+d*2^(n%32)=t at *
  (repeat' (first|(refine ConvP.n32 ?_;conv=>whnf)|(refine RowP.e1 ?_;conv=>whnf)))
  refine AppR.one (enc:=e32) (t%4294967296) rfl p2.symm rfl (by omega) (by omega) ?_
  (conv=>whnf)
  (repeat' (first|(refine OpP.add ?_ ?_;omega;conv=>whnf)|(refine OpP.nshr32 ?_;conv=>whnf)))
  rw[show (o++[t%4294967296]).length=n/32+(i+1) by simp [p2];omega]
  refine AKM.back [(107069,107091)] (by (conv=>whnf);exact ⟨rfl,rfl,rfl⟩) (ih (i+1) (o++[t%4294967296]) (t/4294967296) (by omega) ⟨by omega,by simp;omega,p3.append (dig_one (by omega)),hc2,?_⟩)
  rw[val_snoc,p2,val_take_succ hd,Nat.pow_add,Nat.pow_succ,←Nat.mul_assoc]
  exact hst
 ·obtain rfl:i=x.length:=by omega
  clear ih
  have hcb:c<4294967296:=by omega
  have hOD:Dig (o++[c]):=p3.append (dig_one hcb)
  have hOv:val (o++[c])=val x*2^n:=by
   rw[val_snoc,p2,Nat.pow_add,p5,val_take_all (Nat.le_refl _)]
   have e3:2^n=4294967296^(n/32)*2^(n%32):=by
    rw[show 4294967296=2^32 from rfl,←Nat.pow_mul,←Nat.pow_add]
    congr 1;omega
   rw[e3];grind
  have hOl:(o++[c]).length=n/32+x.length+1:=by simp [p2]
  (repeat' (first|(refine CmpP.go (fun hc => ?_) (fun hc => ?_)<;>first|(exfalso;omega)|(conv=>whnf))|(refine ConvP.n32i ?_ ?_;omega;conv=>whnf)|(refine LenP.go ?_;conv=>whnf)|(refine RowP.e1 ?_;conv=>whnf)|(refine AKM.x ?_;conv=>whnf)))
  refine AppR.one (enc:=e32) c rfl p2.symm rfl (by omega) (by omega) ?_
  (conv=>whnf)
  rw[←hOv,hOl]
  generalize o++[c]=O at *
  rw[←hOl]
  clear p3 p4 p5 hOv
  refine CalP.walk 1000 N.ref01_Trim rfl rfl ?_
  (repeat' (refine AKM.x ?_;conv=>whnf))
  refine AKM.loop1 (fun n=>n) (fun (n:Nat)=>n≤(O).length ∧ ∀ i,n≤i→i<(O).length→(O)[i]? = some 0) (fun n=>[(3,.int .i64 n)]) (fun _=>[]) [] [] (O).length (by (conv=>whnf);exact ⟨rfl,rfl,rfl⟩) ⟨Nat.le_refl _,fun i h1 h2=>by omega⟩ ?_
  intro n ⟨p1,p2⟩ ih
  rcases n with _|n
  ·(repeat' (first|(refine CmpP.go (fun hc => ?_) (fun hc => ?_)<;>first|(exfalso;omega)|(conv=>whnf))|(refine AKM.x ?_;conv=>whnf)))
   refine Bds.up 0 (by omega) (by omega) ?_
   (conv=>whnf)
   have hct:=cut_found (l:=O) (by assumption) p1 p2 (Or.inl rfl)
   have hcl:(List.take 0 O).length≤(O).length:=by rw[List.length_take];omega
   clear ih p2
   refine RowP.part (enc:=e32) (by omega) ?_
   (conv=>whnf)
   rw[List.drop_zero,Nat.sub_zero]
   generalize hT0:List.take 0 O=T0 at *
   refine AppN.many (enc:=e32) (fun _=>rfl) (by omega) (by omega) ?_
   (conv=>whnf)
   refine ⟨rfl,_,rfl,?_⟩
   (conv=>whnf)
   (refine SnR.all (enc:=e32) (fun _=>rfl) rfl rfl ?_;(conv=>whnf);exact FinP.go (by rw[←hct]) (cl_sl _))
  ·have e1:((n+1:Nat):Int)-1=n:=by omega
   (repeat' (first|(refine CmpP.go (fun hc => ?_) (fun hc => ?_)<;>first|(exfalso;omega)|(conv=>whnf))|(refine Req.go ?_ ?_;omega;conv=>whnf)|(refine OpP.sub ?_ ?_;omega;conv=>whnf)|(refine LdR.digi (by assumption) ?_ (fun v hv hb => ?_);omega;conv=>whnf)|(refine AKM.x ?_;conv=>whnf)))
   ·rw[e1]
    exact AKM.back [] (by (conv=>whnf);exact ⟨rfl,rfl,rfl⟩) (ih n (by omega) ⟨by omega,fun i h1 h2=>by
     by_cases h:i=n
     ·subst h
      rw[e1,Int.toNat_natCast]at hv
      rw[hv];congr 1;omega
     ·exact p2 i (by omega) h2⟩)
   ·refine Bds.up (n+1) (by omega) (by omega) ?_
    (conv=>whnf)
    rw[e1,Int.toNat_natCast]at hv
    have hct:=cut_found (l:=O) (by assumption) p1 p2 (Or.inr ⟨_,hv,by omega⟩)
    have hcl:(List.take (n+1) O).length≤(O).length:=by rw[List.length_take];omega
    clear ih p2 hv
    (rw[apX_rw (l:=O)];rotate_left;exact rfl;exact rfl);(conv=>whnf)
    refine RowP.part (enc:=e32) (by omega) ?_
    (conv=>whnf)
    rw[List.drop_zero,Nat.sub_zero]
    generalize hT0:List.take (n+1) O=T0 at *
    refine AppN.many (enc:=e32) (fun _=>rfl) (by omega) (by omega) ?_
    (conv=>whnf)
    refine ⟨rfl,_,rfl,?_⟩
    (conv=>whnf)
    (refine SnR.all (enc:=e32) (fun _=>rfl) rfl rfl ?_;(conv=>whnf);exact FinP.go (by rw[←hct]) (cl_sl _))
theorem val_drop_div {l:List Nat} (hD:Dig l) (k:Nat) (hk:k≤l.length):val (l.drop k)=val l/4294967296^k:=by
 have h1:=val_split l k hk
 have h2:=val_lt (hD.take k)
 rw[List.length_take,Nat.min_eq_left hk]at h2
 rw[h1,Nat.add_mul_div_left _ _ (Nat.pow_pos (by omega)),Nat.div_eq_of_lt h2,Nat.zero_add]
theorem pow_n32 (n:Nat):2^n=4294967296^(n/32)*2^(n%32):=by
 rw[show 4294967296=2^32 from rfl,←Nat.pow_mul,←Nat.pow_add]
 congr 1;omega
theorem down_dig {d e V r:Nat} (hd:d<4294967296) (hr:r<32):(d+e*4294967296)/2^r%4294967296+4294967296*((e+4294967296*V)/2^r)=(d+4294967296*(e+4294967296*V))/2^r:=by
 obtain ⟨f1,f2,f3⟩:=lower_facts (V:=e) hd (show r≤32 by omega)
 rw[lower_step (d:=d) (V:=e+4294967296*V) (by omega),lower_mod (d:=e) (V:=V) (by omega)]
 have h1:=lower_step (d:=d) (V:=e) (s:=r) (by omega)
 rw[show d+e*4294967296=d+4294967296*e by omega,h1]
 clear h1
 generalize d/2^r=A at *
 generalize e%2^r*2^(32-r)=Q at *
 generalize e/2^r=Z at *
 generalize 2^(32-r)=P at *
 omega
theorem ev_r1_Shr (N:RefGLib L) (l:List Nat) (q:Bool) (n:Nat) (hD:Dig l) (hl:l.length≤549755813888) (hn:1≤n∧n≤65536):Ev L 107 [.sl q (l.map e32),.int .i64 (-(n:Int))] (.sl false ((dg (val l/2^n)).map e32)):=by
 have hT:=fun q=>ev_r1_Trim N l q hD (by omega)
 have d1:=dig_dg (val l)
 have v1:=val_dg (val l)
 have l1:=dg_len_val hD
 have hz:=dg_len0 (val l)
 refine Ev.x N.ref01_Shift rfl rfl ?_
 by_cases h0:val l=0
 ·rw[h0,Nat.zero_div,dg_zero]
  (repeat' (first|(refine CmpP.go (fun hc => ?_) (fun hc => ?_)<;>first|(exfalso;omega)|(conv=>whnf))|(refine LenP.go ?_;conv=>whnf)|(refine AKM.x ?_;conv=>whnf)|(refine CallP.go (hT _) ?_;conv=>whnf)))
  exact FinP.go rfl (cl_sl [])
 rw[←v1]
 generalize dg (val l)=x at *
 have hr32:n%32<32:=Nat.mod_lt _ (by omega)
 have e1:(- -(n:Int))/32=((n/32:Nat):Int):=by omega
 have e2:(- -(n:Int))%32=((n%32:Nat):Int):=by omega
 by_cases hbig:32*x.length<n
 ·have hlt:val x/2^n=0:=by
   refine Nat.div_eq_of_lt (Nat.lt_of_lt_of_le (val_lt d1) ?_)
   rw[show 4294967296=2^32 from rfl,←Nat.pow_mul]
   exact Nat.pow_le_pow_right (by omega) (by omega)
  rw[hlt,dg_zero]
  (repeat' (first|(refine CmpP.go (fun hc => ?_) (fun hc => ?_)<;>first|(exfalso;omega)|(conv=>whnf))|(refine OpP.mul ?_ ?_;omega;conv=>whnf)|(refine LenP.go ?_;conv=>whnf)|(refine AKM.x ?_;conv=>whnf)|(refine CallP.go (hT _) ?_;conv=>whnf)))
  exact FinP.go rfl (cl_sl [])
 have hk:n/32≤x.length:=by omega
 have hvd:=val_drop_div d1 _ hk
 (repeat' (first|(refine CmpP.go (fun hc => ?_) (fun hc => ?_)<;>first|(exfalso;omega)|(conv=>whnf))|(refine OpP.mul ?_ ?_;omega;conv=>whnf)|(refine OpP.quo ?_ ?_ (fun _ => ?_) (fun _ _ => ?_);omega;omega;all_goals first|(exfalso;omega)|(conv=>whnf))|(refine UnP.neg ?_ ?_;omega;conv=>whnf)|(refine LenP.go ?_;conv=>whnf)|(refine AKM.x ?_;conv=>whnf)|(refine CallP.go (hT _) ?_;conv=>whnf)))
 rw[e1]
 refine AKM.loop2 (fun i _=>x.length-i) (fun (i:Nat) (o:List Nat)=>n/32≤i∧i≤x.length∧o.length=i-n/32∧Dig o∧val o+4294967296^(i-n/32)*(val (x.drop i)/2^(n%32))=val (x.drop (n/32))/2^(n%32)) (fun i o=>[(6,.int .i64 i),(5,.row 107005 0 1 0 o.length)]) (fun i o=>[(107005,107005,.rw 1 (o.map e32))]) [] [] (n/32) [] (by (conv=>whnf);exact ⟨rfl,rfl,rfl⟩) ⟨Nat.le_refl _,hk,by simp,dig_nil,by simp [val]⟩ ?_
 intro i o ⟨p0,p1,p2,p3,p5⟩ ih
 by_cases hi:i<x.length
 ·obtain ⟨d,hd⟩ : ∃ d,x[i]? = some d:=⟨_,List.getElem?_eq_getElem hi⟩
  have hdb:=d1.at hd
  have g1:=val_getD_drop hd
  have g2:=val_dropD x (i+1)
  have g3:=down_dig (e:=x.getD (i+1) 0) (V:=val (x.drop (i+1+1))) hdb hr32
  rw[←g2,←g1]at g3
  have key : ∀ t,t=d+x.getD (i+1) 0*4294967296→val (o++[t/2^(n%32)%4294967296])+4294967296^(i+1-n/32)*(val (x.drop (i+1))/2^(n%32))=val (x.drop (n/32))/2^(n%32):=fun t ht=>by
   rw[val_snoc,p2,show i+1-n/32=(i-n/32)+1 by omega,Nat.pow_succ,ht,Nat.add_assoc,Nat.mul_assoc,←Nat.mul_add,g3]
   exact p5
  by_cases hy:i+1<x.length
  ·obtain ⟨e,he⟩ : ∃ e,x[i+1]? = some e:=⟨_,List.getElem?_eq_getElem hy⟩
   have heb:=d1.at he
   have he':x[((i:Int)+1).toNat]? = some e:=by rw[show ((i:Int)+1).toNat=i+1 by omega];exact he
   rw[getD_is he]at key
   (repeat' (first|(refine CmpP.go (fun hc => ?_) (fun hc => ?_)<;>first|(exfalso;omega)|(conv=>whnf))|(refine OpP.add ?_ ?_;omega;conv=>whnf)|(refine OpP.nshl32 ?_ ?_;omega;conv=>whnf)|(refine ConvP.u64 ?_ ?_;omega;conv=>whnf)|(refine LenP.go ?_;conv=>whnf)|(refine RdP.at (by assumption) ?_ rfl ?_;omega;conv=>whnf)|(refine AKM.x ?_;conv=>whnf)))
   refine OpP.nor8r 32 (Nat.mul_mod_left _ _) (by omega) (by omega) ?_
   (conv=>whnf)
   (repeat' (first|(refine OpP.rem ?_ (fun _ _ _ => ?_) (fun _ _ _ _ => ?_);omega;all_goals first|(exfalso;omega)|(conv=>whnf))|(refine ConvP.u64 ?_ ?_;omega;conv=>whnf)))
   rw[e2]
   refine OpP.nshrv (n:=n%32) (by show n%32≤64;omega) ?_
   (conv=>whnf)
   (repeat' (first|(refine ConvP.n32 ?_;conv=>whnf)|(refine RowP.e1 ?_;conv=>whnf)))
   refine AppR.one (enc:=e32) ((d+e*4294967296)/2^(n%32)%4294967296) rfl rfl rfl (by omega) (by omega) ?_
   (conv=>whnf)
   (repeat' (refine OpP.add ?_ ?_;omega;conv=>whnf))
   exact AKM.back [(107005,107064)] (by (conv=>whnf);exact ⟨rfl,rfl,rfl⟩) (ih (i+1) (o++[(d+e*4294967296)/2^(n%32)%4294967296]) (by omega) ⟨by omega,by omega,by simp;omega,p3.append (dig_one (by omega)),key (d+e*4294967296) rfl⟩)
  ·rw[←getD_none (show x.length≤i+1 by omega),Nat.zero_mul]at key
   (repeat' (first|(refine CmpP.go (fun hc => ?_) (fun hc => ?_)<;>first|(exfalso;omega)|(conv=>whnf))|(refine OpP.add ?_ ?_;omega;conv=>whnf)|(refine OpP.rem ?_ (fun _ _ _ => ?_) (fun _ _ _ _ => ?_);omega;all_goals first|(exfalso;omega)|(conv=>whnf))|(refine ConvP.u64 ?_ ?_;omega;conv=>whnf)|(refine LenP.go ?_;conv=>whnf)|(refine RdP.at (by assumption) ?_ rfl ?_;omega;conv=>whnf)|(refine AKM.x ?_;conv=>whnf)))
   rw[e2]
   refine OpP.nshrv (n:=n%32) (by show n%32≤64;omega) ?_
   (conv=>whnf)
   (repeat' (first|(refine ConvP.n32 ?_;conv=>whnf)|(refine RowP.e1 ?_;conv=>whnf)))
   refine AppR.one (enc:=e32) (d/2^(n%32)%4294967296) rfl rfl rfl (by omega) (by omega) ?_
   (conv=>whnf)
   (repeat' (refine OpP.add ?_ ?_;omega;conv=>whnf))
   exact AKM.back [(107005,107064)] (by (conv=>whnf);exact ⟨rfl,rfl,rfl⟩) (ih (i+1) (o++[d/2^(n%32)%4294967296]) (by omega) ⟨by omega,by omega,by simp;omega,p3.append (dig_one (by omega)),key d rfl⟩)
 ·obtain rfl:i=x.length:=by omega
  clear ih
  rw[List.drop_of_length_le (Nat.le_refl _),val_nil,Nat.zero_div,Nat.mul_zero,Nat.add_zero,hvd,Nat.div_div_eq_div_mul,←pow_n32]at p5
  have hT2:=fun q=>ev_r1_Trim N o q p3 (by omega)
  rw[p5]at hT2
  (repeat' (first|(refine CmpP.go (fun hc => ?_) (fun hc => ?_)<;>first|(exfalso;omega)|(conv=>whnf))|(refine LenP.go ?_;conv=>whnf)|(refine SnR.all (fun _=>rfl) rfl ?_ ?_;(first|rfl|simp);conv=>whnf)|(refine AKM.x ?_;conv=>whnf)|(refine CallP.go (hT2 _) ?_;conv=>whnf)))
  exact FinP.go rfl (cl_sl _)
end Go.Eng

namespace Go.Eng
open F
attribute [local irreducible] AKM CmpP Req OpP UnP ConvP RdP LdR StR MkR LenP AppR AppN CpyR RowP SnR Bds SlS CallP CalP FinP pw LdM GetM SetM PutM MkM AppM SnM FlP CallR
set_option maxHeartbeats 4000000
variable {L:Lib}
theorem small_step' {V R y d t Q:Nat} (h:Q*y+R=V) (ht:t=R*4294967296+d):(t/y+4294967296*Q)*y+t%y=d+4294967296*V:=by
 have:=Nat.div_add_mod t y
 rw[←h,Nat.add_mul]
 have e:t/y*y=y*(t/y):=Nat.mul_comm _ _
 grind
theorem ev_r1_small (N:RefGLib L) (x:List Nat) (Y:Nat) (q:Bool) (d1:Dig x) (hx:x.length≤549755813888) (h0:Y≠0) (hY:Y<4294967296):Ev L 108 [.sl q (x.map e32),.int .u32 (Y:Int)] (.tup [.sl false ((dg (val x/Y)).map e32),.int .u32 ((val x%Y:Nat):Int)]):=by
 refine Ev.x N.ref01_small rfl rfl ?_
 (repeat' (first|(refine LenP.go ?_;conv=>whnf)|(refine AKM.x ?_;conv=>whnf)))
 refine MkR.go (enc:=e32) 0 x.length rfl (by omega) (by omega) ?_
 (conv=>whnf)
 (repeat' (first|(refine OpP.sub ?_ ?_;omega;conv=>whnf)|(refine LenP.go ?_;conv=>whnf)))
 refine AKM.loop3 (fun n _ _=>n) (fun (n:Nat) (o:List Nat) (r:Nat)=>n≤x.length∧o.length=x.length∧Dig o∧r<Y∧val (o.drop n)*Y+r=val (x.drop n)) (fun n o r=>[(7,.int .u64 (r:Int)),(8,.int .i64 ((n:Int)-1))]) (fun n o r=>[(11,11,.rw 1 (o.map e32))]) [] [] x.length (List.replicate x.length 0) 0 (by (conv=>whnf);exact ⟨rfl,rfl,rfl⟩) ⟨by omega,by simp,dig_zeros _,by omega,by rw[List.drop_of_length_le (Nat.le_refl _),List.drop_of_length_le (by simp)];simp [val]⟩ ?_
 intro n o r ⟨p1,p2,p3,p4,p5⟩ ih
 rcases n with _|n
 ·rw[List.drop_zero,List.drop_zero]at p5
  have hq:val x/Y=val o∧val x%Y=r:=by
   rw[←p5]
   have e1:(val o*Y+r)/Y=val o:=by
    rw[Nat.mul_comm,Nat.mul_add_div (by omega),Nat.div_eq_of_lt p4,Nat.add_zero]
   have e2:(val o*Y+r)%Y=r:=by
    rw[Nat.mul_comm,Nat.mul_add_mod,Nat.mod_eq_of_lt p4]
   exact ⟨e1,e2⟩
  have hT:=fun q=>ev_r1_Trim N o q p3 (by omega)
  rw[hq.1,hq.2,←p2]
  clear ih hq p5
  (repeat' (first|(refine CmpP.go (fun hc => ?_) (fun hc => ?_)<;>first|(exfalso;omega)|(conv=>whnf))|(refine ConvP.n32i ?_ ?_;omega;conv=>whnf)|(refine SnR.all (fun _=>rfl) rfl ?_ ?_;(first|rfl|simp);conv=>whnf)|(refine AKM.x ?_;conv=>whnf)|(refine CallP.go (hT _) ?_;conv=>whnf)))
  refine FinP.go rfl ?_
  simp only[Clean,CleanL,and_true,true_and]
  exact cl_dig _
 ·have e1:((n+1:Nat):Int)-1=n:=by omega
  rw[e1]
  obtain ⟨d,hd⟩ : ∃ d,x[n]? = some d:=⟨_,List.getElem?_eq_getElem (by omega)⟩
  have hdb:=d1.at hd
  have hR:r*4294967296+d<Y*4294967296:=by omega
  have hq0:(r*4294967296+d)/Y<4294967296:=(Nat.div_lt_iff_lt_mul (by omega)).2 (by omega)
  (repeat' (first|(refine CmpP.go (fun hc => ?_) (fun hc => ?_)<;>first|(exfalso;omega)|(conv=>whnf))|(refine Req.go ?_ ?_;omega;conv=>whnf)|(refine OpP.nshl32 ?_ ?_;omega;conv=>whnf)|(refine OpP.nor ?_ ?_;omega;conv=>whnf)|(refine OpP.nquo ?_ ?_ ?_;omega;omega;conv=>whnf)|(refine ConvP.u64 ?_ ?_;omega;conv=>whnf)|(refine ConvP.n32i ?_ ?_;omega;conv=>whnf)|(refine RdP.at (by assumption) ?_ rfl ?_;omega;conv=>whnf)|(refine AKM.x ?_;conv=>whnf)))
  obtain ⟨t,ht⟩ : ∃ t,t=r*4294967296+d:=⟨_,rfl⟩
  rw[←ht]at hR hq0 ⊢
  have hm:t%Y<Y:=Nat.mod_lt _ (by omega)
  have hst:=small_step' p5 ht
  rw[←val_getD_drop hd]at hst
  clear ht
  skip
  refine StR.dig (by omega) ?_
  (conv=>whnf)
  (repeat' (first|(refine OpP.sub ?_ ?_;omega;conv=>whnf)|(refine OpP.nrem ?_ ?_;omega;conv=>whnf)|(refine ConvP.u64 ?_ ?_;omega;conv=>whnf)))
  generalize t/Y=tq at *
  generalize t%Y=tr at *
  refine AKM.back [] (by (conv=>whnf);exact ⟨rfl,rfl,rfl⟩) (ih n _ _ (by omega) ⟨by omega,by simpa using p2,p3.set _ (by omega),hm,?_⟩)
  rw[val_getD_drop (l:=o.set n tq) (d:=tq) (by rw[List.getElem?_set_self (by omega)]),List.drop_set_of_lt (by omega)]
  exact hst
theorem cl_pair3 (a b:List Nat) (e:Int):Clean (.tup [.sl false (a.map e32),.sl false (b.map e32),.int .i64 e]):=by
 simp only[Clean,CleanL,and_true,true_and]
 exact ⟨cl_dig a,cl_dig b⟩
abbrev dmK1:List It:=[It.lp ref01_DivMod.l1,It.blk 0,
   It.code
    (((ACode.ops ref01_DivMod.r14 false).dr [0,75,79,80] []).seq
     (((ACode.ops ref01_DivMod.r15 false).dr [81,82,83,84,85] []).seq
      ((((ACode.ops ref01_DivMod.r16 false).dr [86,87,88,89,90] []).seq
         (ACode.block 2 ref01_DivMod.l2.loop)).seq
       (((ACode.ops ref01_DivMod.r57 true).dr [9,10,11,12,13,14,92,277,278,279,280,281,282,283,284]
          []).seq
        ACode.ret))))]
abbrev dmK2:List It:=[It.lp ref01_DivMod.l2,It.blk 2,It.code
       (((ACode.ops ref01_DivMod.r57 true).dr [9,10,11,12,13,14,92,277,278,279,280,281,282,283,284]
          []).seq
        ACode.ret)]
abbrev dmTM (v:List Nat) (s ul m:Nat) (j:Int):Tm:=[(14,.int .i64 j),(13,.row 85 0 1 0 m),(12,.int .i64 v.length),(11,.sl false (v.map e32)),(10,.row 69 0 1 0 ul),(9,.int .i64 (s:Int))]
abbrev dmC4:ACode:=(((ACode.ops ref01_DivMod.r39 false).dr [18,19,20,166,205,206,207] []).seq
                (((ACode.ops ref01_DivMod.r40 false).dr [208,209,210,211,212,213,214] []).seq
                 ((ACode.ops ref01_DivMod.r41 false).seq
                  ((((ACode.ops ref01_DivMod.r42 false).dr [215,216] []).seq
                     (ACode.cond 217
                      (((ACode.ops ref01_DivMod.r43 false).dr [18,217,218,219] []).seq
                       (ACode.ops ref01_DivMod.r44 false))
                      ACode.skip)).seq
                   (((ACode.ops ref01_DivMod.r45 false).dr
                      [23,24,217,220,221,222,223,224,225,226,227,228] []).seq
                    ((((ACode.ops ref01_DivMod.r46 false).dr [18,229] []).seq
                       (ACode.cond 230
                        (((ACode.ops ref01_DivMod.r47 false).dr [230,231,232] []).seq
                         ((ACode.ops ref01_DivMod.r48 false).seq
                          (((ACode.ops ref01_DivMod.r49 false).seq
                             (ACode.block 8 ref01_DivMod.l5.loop)).seq
                           ((ACode.ops ref01_DivMod.r55 false).dr
                            [25,26,235,262,263,264,265,266,267,268,269,270,271]
                            []))))
                        ACode.skip)).seq
                     ((ACode.ops ref01_DivMod.r56 false).dr [16,230,272,273,274,275,276]
                      [])))))))
abbrev dmK4:List It:=It.lp ref01_DivMod.l4::It.blk 6::It.code dmC4::It.blk 3::It.code ((ACode.ops ref01_DivMod.r18 false).dr [93,94] [])::dmK2
section
variable {A W C w y:List Nat} {j m s ul q:Nat} {Q:Tm→Mem→Prop}
theorem win_at {e i n:Nat} (hi:i=A.length+n) (he:W[n]? = some e):(A++W++C)[i]? = some e:=by
 rw[win_get hi (List.getElem?_eq_some_iff.1 he).1];exact he
theorem dm_rest (hA:A.length=j) (hW:W.length=y.length+1) (D2:Dig W) (hVD:Dig y) (hv2l:2≤y.length) (hvL:y.length≤549755813888) (hV0:0<val y) (hjl:j≤1099511627776)
  (hul:ul=j+(y.length+1)+C.length) (hwm:w.length=m) (hjm:j<m)
  (r1:q<4294967296) (r2:val W/val y≤q) (r3:q≤val W/val y+1)
  (hk : ∀ (W':List Nat) (q':Nat),W'.length=y.length+1→Dig W'→val W'=val W%val y→q'=val W/val y→AKM L dmK2 (dmTM y s ul m ((j:Int)-1)) [(69,101021,.rw 1 ((A++W'++C).map e32)),(85,85,.rw 1 ((w.set j q').map e32))] Q) :
  AKM L dmK4 ([(20,.int .i64 0),(19,.int .u64 0),(18,.int .u64 0),(16,.int .u64 (q:Int))]++dmTM y s ul m (j:Int)) [(69,101021,.rw 1 ((A++W++C).map e32)),(85,85,.rw 1 (w.map e32))] Q:=by
 refine AKM.loop4 (fun i _ _ _=>y.length-i) (fun (i:Nat) (Z:List Nat) (c b:Nat)=>i≤y.length∧Z.length=y.length+1∧Dig Z∧c<4294967296∧b≤1∧Z.drop i=W.drop i∧val (Z.take i)+q*val (y.take i)=val (W.take i)+4294967296^i*(c+b)) (fun i Z c b=>[(20,.int .i64 i),(18,.int .u64 (b:Int)),(19,.int .u64 (c:Int))]) (fun i Z c b=>[(69,101021,.rw 1 ((A++Z++C).map e32))]) [] [] 0 W 0 0 (by (conv=>whnf);exact ⟨rfl,rfl,rfl⟩) ⟨by omega,hW,D2,by omega,by omega,rfl,by simp [val]⟩ ?_
 intro i Z c b ⟨p1,p2,p3,p4,p5,p6,p7⟩ ih
 by_cases hi:i<y.length
 ·obtain ⟨d,hd⟩ : ∃ d,y[i]? = some d:=⟨_,List.getElem?_eq_getElem hi⟩
  obtain ⟨u,hu⟩ : ∃ u,Z[i]? = some u:=⟨_,List.getElem?_eq_getElem (by omega)⟩
  have hdb:=hVD.at hd
  have hub:=p3.at hu
  have hru:(A++Z++C)[((i:Int)+(j:Int)).toNat]? = some u:=win_at (by omega) hu
  obtain ⟨pr,hpr⟩ : ∃ pr,pr=c+q*d:=⟨_,rfl⟩
  obtain ⟨m1,m2,m3⟩:=ms_carry r1 hdb p4 (show pr=q*d+c by omega)
  have hWi:W[i]? = some u:=by
   have e1:(Z.drop i)[0]? = (W.drop i)[0]? := by rw[p6]
   simpa [hu] using e1.symm
  have hdr : ∀ w,(Z.set i w).drop (i+1)=W.drop (i+1):=fun w=>by
   rw[List.drop_set_of_lt (by omega)]
   have e1:(Z.drop i).drop 1=(W.drop i).drop 1:=by rw[p6]
   simpa using e1
  have hst : ∀ have' take w bw',take=pr%4294967296+b→((have'=u∧bw'=0∧take≤u)∨(have'=u+4294967296∧bw'=1∧u<take))→w+take=have'→val ((Z.set i w).take (i+1))+q*val (y.take (i+1))=val (W.take (i+1))+4294967296^(i+1)*(pr/4294967296+bw'):=fun have' take w bw' a1 a2 a3=>by
   rw[val_set_take (by omega),val_take_succ hd,val_take_succ hWi,Nat.pow_succ]
   exact ms_step2 p7 hpr a1 a2 a3
  by_cases hlt:u<pr%4294967296+b
  ·have h3:=hst (u+4294967296) (pr%4294967296+b) (u+4294967296-(pr%4294967296+b)) 1 rfl (Or.inr ⟨rfl,rfl,hlt⟩) (by omega)
   (repeat' (first|(refine CmpP.go (fun hc => ?_) (fun hc => ?_)<;>first|(exfalso;omega)|(conv=>whnf))|(refine Req.go ?_ ?_;omega;conv=>whnf)|(refine OpP.add ?_ ?_;omega;conv=>whnf)|(refine OpP.nadd ?_ ?_;omega;conv=>whnf)|(refine OpP.nmul ?_ ?_;omega;conv=>whnf)|(refine OpP.nand32 ?_ ?_;omega;conv=>whnf)|(refine OpP.nsub ?_ ?_ ?_;omega;omega;conv=>whnf)|(refine OpP.nshr32 ?_;conv=>whnf)|(refine OpP.naddB ?_ ?_;omega;conv=>whnf)|(refine ConvP.u64 ?_ ?_;omega;conv=>whnf)|(refine ConvP.n32i ?_ ?_;omega;conv=>whnf)|(refine RdP.at (by assumption) ?_ rfl ?_;omega;conv=>whnf)|(refine LdR.dat (by assumption) ?_;conv=>whnf)|(refine AKM.x ?_;conv=>whnf)))
   rw[←hpr]
   skip
   refine StR.win i (by omega) (by omega) ?_
   (conv=>whnf)
   (repeat' (refine OpP.add ?_ ?_;omega;conv=>whnf))
   exact AKM.back [] (by (conv=>whnf);exact ⟨rfl,rfl,rfl⟩) (ih (i+1) (Z.set i (u+4294967296-(pr%4294967296+b))) (pr/4294967296) 1 (by omega) ⟨by omega,by simpa using p2,p3.set _ (by omega),m1,by omega,hdr _,h3⟩)
  ·have h3:=hst u (pr%4294967296+b) (u-(pr%4294967296+b)) 0 rfl (Or.inl ⟨rfl,rfl,by omega⟩) (by omega)
   (repeat' (first|(refine CmpP.go (fun hc => ?_) (fun hc => ?_)<;>first|(exfalso;omega)|(conv=>whnf))|(refine Req.go ?_ ?_;omega;conv=>whnf)|(refine OpP.add ?_ ?_;omega;conv=>whnf)|(refine OpP.nadd ?_ ?_;omega;conv=>whnf)|(refine OpP.nmul ?_ ?_;omega;conv=>whnf)|(refine OpP.nand32 ?_ ?_;omega;conv=>whnf)|(refine OpP.nsub ?_ ?_ ?_;omega;omega;conv=>whnf)|(refine OpP.nshr32 ?_;conv=>whnf)|(refine ConvP.u64 ?_ ?_;omega;conv=>whnf)|(refine ConvP.n32i ?_ ?_;omega;conv=>whnf)|(refine RdP.at (by assumption) ?_ rfl ?_;omega;conv=>whnf)|(refine LdR.dat (by assumption) ?_;conv=>whnf)|(refine AKM.x ?_;conv=>whnf)))
   rw[←hpr]
   skip
   refine StR.win i (by omega) (by omega) ?_
   (conv=>whnf)
   (repeat' (refine OpP.add ?_ ?_;omega;conv=>whnf))
   exact AKM.back [] (by (conv=>whnf);exact ⟨rfl,rfl,rfl⟩) (ih (i+1) (Z.set i (u-(pr%4294967296+b))) (pr/4294967296) 0 (by omega) ⟨by omega,by simpa using p2,p3.set _ (by omega),m1,by omega,hdr _,h3⟩)
 ·obtain rfl:i=y.length:=by omega
  clear ih
  obtain ⟨u,hu⟩ : ∃ u,Z[y.length]? = some u:=⟨_,List.getElem?_eq_getElem (by omega)⟩
  have hub:=p3.at hu
  have hru:(A++Z++C)[((j:Int)+(y.length:Int)).toNat]? = some u:=win_at (by omega) hu
  have hWi:W[y.length]? = some u:=by
   have e1:(Z.drop y.length)[0]? = (W.drop y.length)[0]? := by rw[p6]
   simpa [hu] using e1.symm
  rw[val_take_all (Nat.le_refl y.length)]at p7
  have eW:val W=val (W.take y.length)+4294967296^y.length*u:=by
   rw[←val_take_succ hWi,val_take_all (by omega)]
  have hst : ∀ have' take w bw',take=c+b→((have'=u∧bw'=0∧take≤u)∨(have'=u+4294967296∧bw'=1∧u<take))→w+take=have'→val (Z.set y.length w)+q*val y=val W+4294967296^y.length*4294967296*bw':=fun have' take w bw' a1 a2 a3=>by
   have h1:=ms_last2 p7 a1 a2 a3
   rw[←eW,←val_set_take (show y.length<Z.length by omega),val_take_all (by simp;omega)]at h1
   exact h1
  by_cases hlt:u<c+b
  ·have h3:=hst (u+4294967296) (c+b) (u+4294967296-(c+b)) 1 rfl (Or.inr ⟨rfl,rfl,hlt⟩) (by omega)
   have hXD:Dig (Z.set y.length (u+4294967296-(c+b))):=p3.set _ (by omega)
   have hXl:(Z.set y.length (u+4294967296-(c+b))).length=y.length+1:=by simpa using p2
   rw[Nat.mul_one]at h3
   have hU':=val_lt hXD
   rw[hXl,Nat.pow_succ]at hU'
   obtain ⟨y1,y2,y3⟩:=digit_back hV0 r3 hU' h3
   (repeat' (first|(refine CmpP.go (fun hc => ?_) (fun hc => ?_)<;>first|(exfalso;omega)|(conv=>whnf))|(refine Req.go ?_ ?_;omega;conv=>whnf)|(refine OpP.add ?_ ?_;omega;conv=>whnf)|(refine OpP.nadd ?_ ?_;omega;conv=>whnf)|(refine OpP.nsub ?_ ?_ ?_;omega;omega;conv=>whnf)|(refine OpP.naddB ?_ ?_;omega;conv=>whnf)|(refine ConvP.u64 ?_ ?_;omega;conv=>whnf)|(refine ConvP.n32i ?_ ?_;omega;conv=>whnf)|(refine LdR.dat (by assumption) ?_;conv=>whnf)|(refine AKM.x ?_;conv=>whnf)))
   refine StR.win y.length (by omega) (by omega) ?_
   (conv=>whnf)
   (repeat' (first|(refine CmpP.go (fun hc => ?_) (fun hc => ?_)<;>first|(exfalso;omega)|(conv=>whnf))|(refine OpP.nsub ?_ ?_ ?_;omega;omega;conv=>whnf)))
   clear p7 p6 eW hu hWi hub hru p2 p3 hst
   generalize Z.set y.length (u+4294967296-(c+b))=X at *
   have hRV:val W%val y<val y:=Nat.mod_lt _ hV0
   have hVl:=val_lt hVD
   obtain ⟨xw,hxw⟩ : ∃ xw,X[y.length]? = some xw:=⟨_,List.getElem?_eq_getElem (by omega)⟩
   have eX:val X=val (X.take y.length)+4294967296^y.length*xw:=by
    rw[←val_take_succ hxw,val_take_all (by omega)]
   have hqb:q-1<4294967296:=by omega
   refine AKM.loop3 (fun i _ _=>y.length-i) (fun (i:Nat) (Z:List Nat) (c:Nat)=>i≤y.length∧Z.length=y.length+1∧Dig Z∧c≤1∧Z.drop i=X.drop i∧val (Z.take i)+4294967296^i*c=val (X.take i)+val (y.take i)) (fun i Z c=>[(26,.int .i64 i),(25,.int .u64 (c:Int))]) (fun i Z c=>[(69,101021,.rw 1 ((A++Z++C).map e32))]) [] [] 0 X 0 (by (conv=>whnf);exact ⟨rfl,rfl,rfl⟩) ⟨by omega,hXl,hXD,by omega,rfl,by simp [val]⟩ ?_
   intro i Z c ⟨p1,p2,p3,p4,p6,p7⟩ ih
   by_cases hi:i<y.length
   ·obtain ⟨d,hd⟩ : ∃ d,y[i]? = some d:=⟨_,List.getElem?_eq_getElem hi⟩
    obtain ⟨u,hu⟩ : ∃ u,Z[i]? = some u:=⟨_,List.getElem?_eq_getElem (by omega)⟩
    have hdb:=hVD.at hd
    have hub:=p3.at hu
    have hru:(A++Z++C)[((i:Int)+(j:Int)).toNat]? = some u:=win_at (by omega) hu
    have hXi:X[i]? = some u:=by
     have e1:(Z.drop i)[0]? = (X.drop i)[0]? := by rw[p6]
     simpa [hu] using e1.symm
    have hab:=ab_step (d:=d) (w:=u) (t:=c+(u+d)) p7 (by omega)
    (repeat' (first|(refine CmpP.go (fun hc => ?_) (fun hc => ?_)<;>first|(exfalso;omega)|(conv=>whnf))|(refine Req.go ?_ ?_;omega;conv=>whnf)|(refine OpP.add ?_ ?_;omega;conv=>whnf)|(refine OpP.nadd ?_ ?_;omega;conv=>whnf)|(refine ConvP.u64 ?_ ?_;omega;conv=>whnf)|(refine ConvP.n32 ?_;conv=>whnf)|(refine RdP.at (by assumption) ?_ rfl ?_;omega;conv=>whnf)|(refine LdR.dat (by assumption) ?_;conv=>whnf)|(refine AKM.x ?_;conv=>whnf)))
    generalize ht2:c+(u+d)=t2 at *
    refine StR.win i (by omega) (by omega) ?_
    (conv=>whnf)
    (repeat' (first|(refine OpP.add ?_ ?_;omega;conv=>whnf)|(refine OpP.nshr32 ?_;conv=>whnf)))
    refine AKM.back [] (by (conv=>whnf);exact ⟨rfl,rfl,rfl⟩) (ih (i+1) (Z.set i (t2%4294967296)) (t2/4294967296) (by omega) ⟨by omega,by simpa using p2,p3.set _ (by omega),by omega,?_,?_⟩)
    ·rw[List.drop_set_of_lt (by omega)]
     have e1:(Z.drop i).drop 1=(X.drop i).drop 1:=by rw[p6]
     simpa using e1
    ·rw[val_set_take (by omega),val_take_succ hd,val_take_succ hXi,Nat.pow_succ]
     exact hab
   ·obtain rfl:i=y.length:=by omega
    clear ih
    obtain ⟨u,hu⟩ : ∃ u,Z[y.length]? = some u:=⟨_,List.getElem?_eq_getElem (by omega)⟩
    have hub:=p3.at hu
    have hru:(A++Z++C)[((j:Int)+(y.length:Int)).toNat]? = some u:=win_at (by omega) hu
    have hXi:X[y.length]? = some u:=by
     have e1:(Z.drop y.length)[0]? = (X.drop y.length)[0]? := by rw[p6]
     simpa [hu] using e1.symm
    rw[hXi]at hxw
    obtain rfl:u=xw:=by simpa using hxw
    rw[val_take_all (Nat.le_refl y.length)]at p7
    have hZl:=val_lt (p3.take y.length)
    rw[List.length_take,Nat.min_eq_left (by omega)]at hZl
    rw[eX]at y3
    have hend:=ab_last p7 y3 (by omega) hZl
    rw[←val_set_take (show y.length<Z.length by omega),val_take_all (by simp;omega)]at hend
    (repeat' (first|(refine CmpP.go (fun hc => ?_) (fun hc => ?_)<;>first|(exfalso;omega)|(conv=>whnf))|(refine Req.go ?_ ?_;omega;conv=>whnf)|(refine OpP.add ?_ ?_;omega;conv=>whnf)|(refine OpP.nadd4 ?_;conv=>whnf)|(refine ConvP.n32i ?_ ?_;omega;conv=>whnf)|(refine LdR.dat (by assumption) ?_;conv=>whnf)|(refine AKM.x ?_;conv=>whnf)))
    refine StR.win y.length (by omega) (by omega) ?_
    (conv=>whnf)
    (repeat' (first|(refine Req.go ?_ ?_;omega;conv=>whnf)|(refine ConvP.n32i ?_ ?_;omega;conv=>whnf)))
    refine StR.dig (by omega) ?_
    (conv=>whnf)
    (repeat' (refine OpP.sub ?_ ?_;omega;conv=>whnf))
    exact AKM.back [] (by (conv=>whnf);exact ⟨rfl,rfl,rfl⟩) (hk _ _ (by simpa using p2) (p3.set _ (by omega)) hend y1)
  ·have h3:=hst u (c+b) (u-(c+b)) 0 rfl (Or.inl ⟨rfl,rfl,by omega⟩) (by omega)
   rw[Nat.mul_zero,Nat.add_zero]at h3
   obtain ⟨y1,y2⟩:=digit_ok hV0 r2 h3
   (repeat' (first|(refine CmpP.go (fun hc => ?_) (fun hc => ?_)<;>first|(exfalso;omega)|(conv=>whnf))|(refine Req.go ?_ ?_;omega;conv=>whnf)|(refine OpP.add ?_ ?_;omega;conv=>whnf)|(refine OpP.nadd ?_ ?_;omega;conv=>whnf)|(refine OpP.nsub ?_ ?_ ?_;omega;omega;conv=>whnf)|(refine ConvP.u64 ?_ ?_;omega;conv=>whnf)|(refine ConvP.n32i ?_ ?_;omega;conv=>whnf)|(refine LdR.dat (by assumption) ?_;conv=>whnf)|(refine AKM.x ?_;conv=>whnf)))
   refine StR.win y.length (by omega) (by omega) ?_
   (conv=>whnf)
   (repeat' (first|(refine CmpP.go (fun hc => ?_) (fun hc => ?_)<;>first|(exfalso;omega)|(conv=>whnf))|(refine Req.go ?_ ?_;omega;conv=>whnf)|(refine ConvP.n32i ?_ ?_;omega;conv=>whnf)))
   refine StR.dig (by omega) ?_
   (conv=>whnf)
   (repeat' (refine OpP.sub ?_ ?_;omega;conv=>whnf))
   exact AKM.back [] (by (conv=>whnf);exact ⟨rfl,rfl,rfl⟩) (hk _ _ (by simpa using p2) (p3.set _ (by omega)) y2 y1)
theorem dm_iter (hA:A.length=j) (hW:W.length=y.length+1) (D2:Dig W) (hVD:Dig y) (hv2l:2≤y.length) (hvL:y.length≤549755813888) (hV0:0<val y) (hjl:j≤1099511627776)
  (n2:4294967296^(y.length-1)*2147483648≤val y) (g2:val W<4294967296*val y) (hul:ul=j+(y.length+1)+C.length) (hwm:w.length=m) (hjm:j<m)
  (hk : ∀ (W':List Nat) (q':Nat),W'.length=y.length+1→Dig W'→val W'=val W%val y→q'=val W/val y→AKM L dmK2 (dmTM y s ul m ((j:Int)-1)) [(69,101021,.rw 1 ((A++W'++C).map e32)),(85,85,.rw 1 ((w.set j q').map e32))] Q) :
  AKM L (.code ref01_DivMod.l2::dmK2) (dmTM y s ul m (j:Int)) [(69,101021,.rw 1 ((A++W++C).map e32)),(85,85,.rw 1 (w.map e32))] Q:=by
 obtain ⟨UL,a1,a2⟩:=val_top3 D2 (n:=y.length+1) (by omega) (by omega)
 obtain ⟨VL,b5,b6⟩:=val_top2 hVD (n:=y.length) hv2l (by omega)
 obtain ⟨u0,w0⟩ : ∃ d,W[y.length]? = some d:=⟨_,List.getElem?_eq_getElem (by omega)⟩
 obtain ⟨u1,w1⟩ : ∃ d,W[y.length-1]? = some d:=⟨_,List.getElem?_eq_getElem (by omega)⟩
 obtain ⟨u2,w2⟩ : ∃ d,W[y.length-2]? = some d:=⟨_,List.getElem?_eq_getElem (by omega)⟩
 obtain ⟨f1,x1⟩ : ∃ d,y[y.length-1]? = some d:=⟨_,List.getElem?_eq_getElem (by omega)⟩
 obtain ⟨f2,x2⟩ : ∃ d,y[y.length-2]? = some d:=⟨_,List.getElem?_eq_getElem (by omega)⟩
 rw[show y.length+1-3=y.length-2 by omega,show y.length+1-2=y.length-1 by omega,show y.length+1-1=y.length by omega,getD_is w0,getD_is w1,getD_is w2]at a2
 rw[show y.length+1-3=y.length-2 by omega]at a1
 rw[getD_is x1,getD_is x2]at b6
 have hf1:=top_ge hVD (k:=y.length-1) (by omega) n2 x1
 have k0:=D2.at w0
 have k1:=D2.at w1
 have k2:=D2.at w2
 have k3:=hVD.at x1
 have k4:=hVD.at x2
 have z1:y[((y.length:Int)-1).toNat]? = some f1:=by rw[show ((y.length:Int)-1).toNat=y.length-1 by omega];exact x1
 have z2:y[((y.length:Int)-2).toNat]? = some f2:=by rw[show ((y.length:Int)-2).toNat=y.length-2 by omega];exact x2
 have hr0:(A++W++C)[((j:Int)+(y.length:Int)).toNat]? = some u0:=win_at (by omega) w0
 (repeat' (first|(refine CmpP.go (fun hc => ?_) (fun hc => ?_)<;>first|(exfalso;omega)|(conv=>whnf))|(refine Req.go ?_ ?_;omega;conv=>whnf)|(refine OpP.add ?_ ?_;omega;conv=>whnf)|(refine OpP.sub ?_ ?_;omega;conv=>whnf)|(refine OpP.nshl32 ?_ ?_;omega;conv=>whnf)|(refine ConvP.u64 ?_ ?_;omega;conv=>whnf)|(refine LdR.dat (by assumption) ?_;conv=>whnf)|(refine AKM.x ?_;conv=>whnf)))
 have hr1:(A++W++C)[((j:Int)+(y.length:Int)-1).toNat]? = some u1:=win_at (by omega) w1
 refine LdR.dai hr1 ?_
 (conv=>whnf)
 refine ConvP.n64 (by omega) ?_
 (conv=>whnf)
 refine OpP.nor (by omega) ?_
 (conv=>whnf)
 clear hr0 hr1
 have hr2:(A++W++C)[((j:Int)+(y.length:Int)-2).toNat]? = some u2:=win_at (by omega) w2
 generalize htop:u0*4294967296+u1=top at *
 have htb:top≤18446744073709551615:=by omega
 have hU:val W=UL+4294967296^(y.length-2)*(u2+4294967296*top):=by rw[a2,show u1+4294967296*u0=top by omega]
 (repeat' (first|(refine OpP.sub ?_ ?_;omega;conv=>whnf)|(refine OpP.nrem ?_ ?_;omega;conv=>whnf)|(refine OpP.nquo ?_ ?_ ?_;omega;omega;conv=>whnf)|(refine ConvP.u64 ?_ ?_;omega;conv=>whnf)|(refine RdP.at (by assumption) ?_ rfl ?_;omega;conv=>whnf)))
 refine AKM.loop2 (fun q _=>q) (fun (q r:Nat)=>Gs (val W) (val y) f1 f2 u2 top q r) (fun q r=>[(16,.int .u64 (q:Int)),(17,.int .u64 (r:Int))]) (fun _ _=>[]) [] [] (top/f1) (top%f1) (by (conv=>whnf);exact ⟨rfl,rfl,rfl⟩) (Gs.start hU b6 a1 k2 hV0 (by omega) k3) ?_
 intro q r g ih2
 have hqt:q≤top:=by
  have h3:=g.hq
  have h4:q*1≤q*f1:=Nat.mul_le_mul_left q (by omega)
  omega
 have hr:=g.hr
 have hge:=g.ge
 by_cases hb:4294967296≤q
 ·obtain ⟨y1,y2,y3⟩:=g.next hU b6 a1 hV0 g2 (Or.inl hb)
  (repeat' (first|(refine CmpP.go (fun hc => ?_) (fun hc => ?_)<;>first|(exfalso;omega)|(conv=>whnf))|(refine OpP.sub ?_ ?_;omega;conv=>whnf)|(refine OpP.nadd ?_ ?_;omega;conv=>whnf)|(refine OpP.nsub ?_ ?_ ?_;omega;omega;conv=>whnf)|(refine ConvP.u64 ?_ ?_;omega;conv=>whnf)|(refine RdP.at (by assumption) ?_ rfl ?_;omega;conv=>whnf)|(refine AKM.x ?_;conv=>whnf)))
  ·obtain ⟨t1,t2⟩:=guess_stop hU b6 b5 hf1 k4 g2 y2 (Or.inr (by omega))
   exact AKM.back [] (by (conv=>whnf);exact ⟨rfl,rfl,rfl⟩) (dm_rest (w:=w) (C:=C) hA hW D2 hVD hv2l hvL hV0 hjl hul hwm hjm t1 y3 t2 hk)
  ·exact AKM.back [] (by (conv=>whnf);exact ⟨rfl,rfl,rfl⟩) (ih2 (q-1) (r+f1) (by omega) ⟨y2,by omega,y3⟩)
 ·have hmq:=mul_le_dig (show q<4294967296 by omega) k4
  by_cases hb2:r*4294967296+u2<q*f2
  ·obtain ⟨y1,y2,y3⟩:=g.next hU b6 a1 hV0 g2 (Or.inr hb2)
   (repeat' (first|(refine CmpP.go (fun hc => ?_) (fun hc => ?_)<;>first|(exfalso;omega)|(conv=>whnf))|(refine Req.go ?_ ?_;omega;conv=>whnf)|(refine OpP.add ?_ ?_;omega;conv=>whnf)|(refine OpP.sub ?_ ?_;omega;conv=>whnf)|(refine OpP.nadd ?_ ?_;omega;conv=>whnf)|(refine OpP.nmul ?_ ?_;omega;conv=>whnf)|(refine OpP.nshl32 ?_ ?_;omega;conv=>whnf)|(refine OpP.nor ?_ ?_;omega;conv=>whnf)|(refine OpP.nsub ?_ ?_ ?_;omega;omega;conv=>whnf)|(refine ConvP.u64 ?_ ?_;omega;conv=>whnf)|(refine RdP.at (by assumption) ?_ rfl ?_;omega;conv=>whnf)|(refine LdR.dat (by assumption) ?_;conv=>whnf)|(refine AKM.x ?_;conv=>whnf)))
   ·obtain ⟨t1,t2⟩:=guess_stop hU b6 b5 hf1 k4 g2 y2 (Or.inr (by omega))
    exact AKM.back [] (by (conv=>whnf);exact ⟨rfl,rfl,rfl⟩) (dm_rest (w:=w) (C:=C) hA hW D2 hVD hv2l hvL hV0 hjl hul hwm hjm t1 y3 t2 hk)
   ·exact AKM.back [] (by (conv=>whnf);exact ⟨rfl,rfl,rfl⟩) (ih2 (q-1) (r+f1) (by omega) ⟨y2,by omega,y3⟩)
  ·obtain ⟨t1,t2⟩:=guess_stop hU b6 b5 hf1 k4 g2 g.hq (Or.inl ⟨by omega,by omega⟩)
   (repeat' (first|(refine CmpP.go (fun hc => ?_) (fun hc => ?_)<;>first|(exfalso;omega)|(conv=>whnf))|(refine Req.go ?_ ?_;omega;conv=>whnf)|(refine OpP.add ?_ ?_;omega;conv=>whnf)|(refine OpP.sub ?_ ?_;omega;conv=>whnf)|(refine OpP.nmul ?_ ?_;omega;conv=>whnf)|(refine OpP.nshl32 ?_ ?_;omega;conv=>whnf)|(refine OpP.nor ?_ ?_;omega;conv=>whnf)|(refine ConvP.u64 ?_ ?_;omega;conv=>whnf)|(refine RdP.at (by assumption) ?_ rfl ?_;omega;conv=>whnf)|(refine LdR.dat (by assumption) ?_;conv=>whnf)|(refine AKM.x ?_;conv=>whnf)))
   exact AKM.back [] (by (conv=>whnf);exact ⟨rfl,rfl,rfl⟩) (dm_rest (w:=w) (C:=C) hA hW D2 hVD hv2l hvL hV0 hjl hul hwm hjm t1 hge t2 hk)
end
theorem val_top0 {l:List Nat} (hD:Dig l) (h:l[l.length-1]? = some 0):val l<4294967296^(l.length-1):=by
 have hl:=(List.getElem?_eq_some_iff.1 h).1
 have h1:=val_split l (l.length-1) (by omega)
 have h2:=val_getD_drop h
 rw[List.drop_of_length_le (show l.length≤l.length-1+1 by omega),val_nil]at h2
 rw[h2]at h1
 simp only[Nat.mul_zero,Nat.add_zero]at h1
 have h3:=val_lt (hD.take (l.length-1))
 rw[List.length_take,Nat.min_eq_left (by omega)]at h3
 omega
theorem dm_main (N:RefGLib L) {X Y s:Nat} {x u y:List Nat} (hY:Y≠0) (hs31:s≤31) (hUD:Dig u) (hUu:val u=X*2^s) (hU0:u[u.length-1]? = some 0) (hul:x.length+1≤u.length∧u.length≤549755813888) (hVD:Dig y) (hVv:val y=Y*2^s) (hvl:2≤y.length∧y.length≤x.length) (n2:4294967296^(y.length-1)*2147483648≤val y) :
  AKM L dmK1 [(10,.row 69 0 1 0 u.length),(11,.sl false (y.map e32)),(9,.int .i64 (s:Int)),(0,.sl false (x.map e32))] [(69,101021,.rw 1 (u.map e32))] (RetX ref01_DivMod (.tup [.sl false ((dg (X/Y)).map e32),.sl false ((dg (X%Y)).map e32),.int .i64 0])):=by
 refine AKM.loop1 (fun (_:Nat)=>0) (fun _=>True) (fun _=>[]) (fun _=>[]) [] [] 0 (by (conv=>whnf);exact ⟨rfl,rfl,rfl⟩) trivial ?_
 intro _ _ _
 (repeat' (first|(refine CmpP.go (fun hc => ?_) (fun hc => ?_)<;>first|(exfalso;omega)|(conv=>whnf))|(refine OpP.add ?_ ?_;omega;conv=>whnf)|(refine OpP.sub ?_ ?_;omega;conv=>whnf)|(refine LenP.go ?_;conv=>whnf)|(refine AKM.x ?_;conv=>whnf)))
 refine MkR.go (enc:=e32) 0 (u.length-y.length) (by rfl) (by omega) (by omega) ?_
 (conv=>whnf)
 (repeat' (refine OpP.sub ?_ ?_;omega;conv=>whnf))
 have hV0:0<val y:=by
  have:=pow_pos' (y.length-1)
  omega
 have hVlt:=val_lt hVD
 generalize hm:u.length-y.length=m at *
 have hi0:val (u.drop m)<val y:=by
  have h1:(u.drop m).length=y.length:=by simp;omega
  have h2:=val_top0 (l:=u.drop m) (hUD.drop _) (by rw[h1,List.getElem?_drop,show m+(y.length-1)=u.length-1 by omega];exact hU0)
  rw[h1]at h2
  omega
 rw[show (u.length:Int)-y.length-1=((m:Nat):Int)-1 by omega]
 refine AKM.loop3 (fun n _ _=>n) (fun (n:Nat) (o w:List Nat)=>n≤m∧o.length=u.length∧Dig o∧w.length=m∧Dig w∧val (o.drop n)<val y∧X*2^s=val (o.take n)+4294967296^n*(val (w.drop n)*val y+val (o.drop n))) (fun n o w=>[(14,.int .i64 ((n:Int)-1))]) (fun n o w=>[(69,101021,.rw 1 (o.map e32)),(85,85,.rw 1 (w.map e32))]) [] [] m u (List.replicate m 0) (by (conv=>whnf);exact ⟨rfl,rfl,rfl⟩) ⟨by omega,rfl,hUD,by simp,dig_zeros _,hi0,by rw[←hUu,List.drop_of_length_le (show (List.replicate m 0).length≤m by simp),val_nil,Nat.zero_mul,Nat.zero_add];exact val_split u m (by omega)⟩ ?_
 intro n o w ⟨p1,p2,p3,p4,p5,p6,p7⟩ ih
 rcases n with _|j
 ·clear ih
  rw[List.drop_zero]at p6
  rw[List.take_zero,List.drop_zero,List.drop_zero,val_nil,Nat.zero_add,Nat.pow_zero,Nat.one_mul]at p7
  have hdr:val o=val (o.take y.length):=by
   have h1:=val_splitD o y.length
   rcases Nat.eq_zero_or_pos (val (o.drop y.length)) with h2|h2
   ·rw[h2,Nat.mul_zero,Nat.add_zero]at h1;exact h1
   ·have h3:4294967296^y.length*1≤4294967296^y.length*val (o.drop y.length):=Nat.mul_le_mul_left _ h2
    omega
  have hX0:X/Y=val w∧X%Y=val o/2^s:=by
   obtain ⟨z1,z2⟩:=div_scale (X:=X) (Y:=Y) (Nat.two_pow_pos s)
   rw[←z1,←z2,←hVv,p7]
   have e1:(val w*val y+val o)/val y=val w:=by
    rw[Nat.mul_comm,Nat.mul_add_div hV0,Nat.div_eq_of_lt p6,Nat.add_zero]
   have e2:(val w*val y+val o)%val y=val o:=by
    rw[Nat.mul_comm,Nat.mul_add_mod,Nat.mod_eq_of_lt p6]
   rw[e1,e2]
   exact ⟨rfl,rfl⟩
  rw[hX0.1,hX0.2,hdr]
  have hT:=fun q=>ev_r1_Trim N w q p5 (by omega)
  have htl:(o.take y.length).length≤549755813888:=by rw[List.length_take];omega
  clear p7 hX0 hi0
  rw[←p4]
  rcases Nat.eq_zero_or_pos s with h0|h0
  ·subst h0
   have hS:=fun q=>ev_r1_Shl N (o.take y.length) q 0 (p3.take _) htl (by omega)
   rw[Nat.pow_zero,Nat.mul_one]at hS
   rw[Nat.pow_zero,Nat.div_one]
   (repeat' (first|(refine CmpP.go (fun hc => ?_) (fun hc => ?_)<;>first|(exfalso;omega)|(conv=>whnf))|(refine SnR.all (fun _=>rfl) rfl ?_ ?_;(first|rfl|simp);conv=>whnf)|(refine AKM.x ?_;conv=>whnf)|(refine CallP.go (hT _) ?_;conv=>whnf)))
   refine Bds.up y.length rfl (by omega) ?_
   (conv=>whnf)
   refine UnP.neg (by omega) ?_
   (conv=>whnf)
   refine SnR.part (enc:=e32) (fun _=>rfl) (by omega) ?_
   (conv=>whnf)
   rw[List.drop_zero,Nat.sub_zero,show -((0:Nat):Int)=((0:Nat):Int) by omega]
   (repeat' (refine CallP.go (hS _) ?_;conv=>whnf))
   exact FinP.go rfl (cl_pair3 _ _ _)
  ·have hS:=fun q=>ev_r1_Shr N (o.take y.length) q s (p3.take _) htl (by omega)
   (repeat' (first|(refine CmpP.go (fun hc => ?_) (fun hc => ?_)<;>first|(exfalso;omega)|(conv=>whnf))|(refine SnR.all (fun _=>rfl) rfl ?_ ?_;(first|rfl|simp);conv=>whnf)|(refine AKM.x ?_;conv=>whnf)|(refine CallP.go (hT _) ?_;conv=>whnf)))
   refine Bds.up y.length rfl (by omega) ?_
   (conv=>whnf)
   refine UnP.neg (by omega) ?_
   (conv=>whnf)
   refine SnR.part (enc:=e32) (fun _=>rfl) (by omega) ?_
   (conv=>whnf)
   rw[List.drop_zero,Nat.sub_zero]
   (repeat' (refine CallP.go (hS _) ?_;conv=>whnf))
   exact FinP.go rfl (cl_pair3 _ _ _)
 ·have e3:((j+1:Nat):Int)-1=j:=by omega
  rw[e3]
  obtain ⟨A,W,C,hA,hW,rfl⟩:=dv_cut o j (y.length+1) (by omega)
  obtain ⟨g1,g2,g3⟩:=dv_pre hA hW p3 p6 hVlt
  obtain ⟨D1,D2,D3⟩:=dig_win p3
  have hqb:val W/val y<4294967296:=(Nat.div_lt_iff_lt_mul hV0).2 g2
  have hWV:val W=val W/val y*val y+val W%val y:=by rw[Nat.mul_comm];exact (Nat.div_add_mod _ _).symm
  have hWl:val W%val y<val y:=Nat.mod_lt _ hV0
  have hTot:X*2^s=val A+4294967296^j*val W+4294967296^j*4294967296*(val (w.drop (j+1))*val y):=by
   rw[p7,Nat.mul_add,←g3,Nat.pow_succ];omega
  have hTot2:=dv_next hTot hWV
  have hset : ∀ q',q'=val W/val y→val ((w.set j q').drop j)=val W/val y+4294967296*val (w.drop (j+1)):=fun q' h=>by
   rw[val_getD_drop (l:=w.set j q') (d:=q') (by rw[List.getElem?_set_self (by omega)]),List.drop_set_of_lt (by omega),h]
  have hlen : ∀ W':List Nat,W'.length=y.length+1→(A++W'++C).length=u.length:=fun W' h=>by
   rw[←p2];simp [h,hW]
  have hl3:u.length=j+(y.length+1)+C.length:=by rw[←p2];simp [hA,hW];omega
  refine AKM.back [] (by (conv=>whnf);exact ⟨rfl,rfl,rfl⟩) (dm_iter (m:=m) (s:=s) (ul:=u.length) (C:=C) hA hW D2 hVD hvl.1 (by omega) hV0 (by omega) n2 g2 hl3 p4 (by omega) (fun W' q' z1 z2 z3 z4 => ?_))
  obtain ⟨t1,t2⟩:=dv_post (A:=A) (W:=W') (C:=C) (j:=j) hA g1
  refine AKM.back [] (by (conv=>whnf);exact ⟨rfl,rfl,rfl⟩) (ih j (A++W'++C) (w.set j q') (by omega) ⟨by omega,hlen W' z1,(D1.append z2).append D3,by simpa using p4,p5.set _ (by omega),by omega,?_⟩)
  rw[t1,t2,hset q' z4,z3]
  exact hTot2
end Go.Eng

namespace Go.Eng
open F
attribute [local irreducible] AKM CmpP Req OpP UnP ConvP RdP LdR StR MkR LenP AppR AppN CpyR RowP SnR Bds SlS CallP CalP FinP pw LdM GetM SetM PutM MkM AppM SnM FlP CallR
set_option maxHeartbeats 8000000
variable {L:Lib}
theorem ev_r1_DivMod (N:RefGLib L) (a b:List Nat) (q1 q2:Bool) (hA:Dig a) (hB:Dig b) (la:a.length≤274877906944) (lb:b.length≤274877906944) (h0:val b≠0) :
  Ev L 109 [.sl q1 (a.map e32),.sl q2 (b.map e32)] (.tup [.sl false ((dg (val a/val b)).map e32),.sl false ((dg (val a%val b)).map e32),.int .i64 0]):=by
 have t1:=fun q=>ev_r1_Trim N a q hA (by omega)
 have t2:=fun q=>ev_r1_Trim N b q hB (by omega)
 have l1:=dg_len_val hA
 have l2:=dg_len_val hB
 have hcmp:=fun q q'=>ev_r1_Compare N (dg (val a)) (dg (val b)) q q' (dig_dg _) (dig_dg _) (by omega) (by omega)
 rw[val_dg,val_dg]at hcmp
 generalize val a=X at *
 generalize val b=Y at *
 have d1:=dig_dg X
 have d2:=dig_dg Y
 have v1:=val_dg X
 have v2:=val_dg Y
 have hy1:=dg_len_pos h0
 refine Ev.x N.ref01_DivMod rfl rfl ?_
 by_cases h1:(dg Y).length=1
 ·obtain ⟨y0,hy0⟩ : ∃ y0,dg Y=[y0]:=List.length_eq_one_iff.1 h1
  have hyv:Y=y0:=by rw[←v2,hy0];simp [val]
  subst hyv
  have hyb:Y<4294967296:=d2 Y (by rw[hy0];simp)
  have hyg:(dg Y)[(0:Int).toNat]? = some Y:=by rw[hy0];rfl
  have hsm:=fun q=>ev_r1_small N (dg X) Y q d1 (by omega) h0 hyb
  rw[v1]at hsm
  have hrb:X%Y<4294967296:=Nat.lt_trans (Nat.mod_lt _ (by omega)) hyb
  have hT3:=fun q=>ev_r1_Trim N [X%Y] q (dig_one hrb) (by simp)
  rw[show val [X%Y]=X%Y by simp [val]]at hT3
  clear hy0 v2
  generalize dg Y=y at *
  (repeat' (first|(refine CmpP.go (fun hc => ?_) (fun hc => ?_)<;>first|(exfalso;omega)|(conv=>whnf))|(refine LenP.go ?_;conv=>whnf)|(refine RdP.at (by assumption) ?_ rfl ?_;omega;conv=>whnf)|(refine SnR.e1 rfl ?_;conv=>whnf)|(refine AKM.x ?_;conv=>whnf)|(refine CallP.go (t1 _) ?_;conv=>whnf)|(refine CallP.go (t2 _) ?_;conv=>whnf)|(refine CallP.go (hsm _) ?_;conv=>whnf)|(refine CallP.go (hT3 _) ?_;conv=>whnf)))
  exact FinP.go rfl (cl_pair3 _ _ _)
 by_cases hlt:X<Y
 ·rw[←cmpS_lt (by omega)]at hcmp
  (repeat' (first|(refine CmpP.go (fun hc => ?_) (fun hc => ?_)<;>first|(exfalso;omega)|(conv=>whnf))|(refine LenP.go ?_;conv=>whnf)|(refine AKM.x ?_;conv=>whnf)|(refine CallP.go (t1 _) ?_;conv=>whnf)|(refine CallP.go (t2 _) ?_;conv=>whnf)|(refine CallP.go (hcmp _ _) ?_;conv=>whnf)))
  refine FinP.go ?_ (cl_pair3 _ _ _)
  rw[Nat.div_eq_of_lt hlt,Nat.mod_eq_of_lt hlt,dg_zero];rfl
 have hge:=cmpS_ge (show Y≤X by omega)
 generalize cmpS X Y=cm at *
 have hn2:2≤(dg Y).length:=by omega
 obtain ⟨yt,hyt,hyt0⟩:=dg_top h0
 have hytb:=d2.at hyt
 obtain ⟨b1,b2,b3,b4⟩:=lz_top hyt0 hytb
 have hbl:=fun q=>ev_r1_BitLen N yt q hyt0 hytb
 generalize hs:32-blen yt=s at *
 have hs31:s≤31:=by omega
 have hsv:=fun q=>ev_r1_Shl N (dg Y) q s d2 (by omega) (by omega)
 obtain ⟨n1,n2⟩:=lift_norm d2 hyt (by omega) hs31 b3 b4
 rw[v2]at hsv n1 n2
 have hdr:(dg Y).drop ((dg Y).length-1)=[yt]:=by
  obtain ⟨hi,he⟩:=List.getElem?_eq_some_iff.1 hyt
  rw[List.drop_eq_getElem_cons hi,he,List.drop_of_length_le (by omega)]
 have hvl:(dg (Y*2^s)).length=(dg Y).length:=by
  have a1:=dg_len_le.2 n1
  have a2 : ¬ (dg (Y*2^s)).length≤(dg Y).length-1:=fun h=>by
   have:=dg_len_le.1 h
   omega
  omega
 have hXl2:(dg (X*2^s)).length≤(dg X).length+1:=by
  refine dg_len_le.2 ?_
  have a1:X<4294967296^(dg X).length:=dg_len_le.1 (Nat.le_refl _)
  rw[Nat.pow_succ]
  have a2:=pow_s_le (s:=s) (by omega)
  exact Nat.lt_of_lt_of_le (Nat.mul_lt_mul_of_pos_right a1 (Nat.two_pow_pos s)) (Nat.mul_le_mul_left _ a2)
 have hXl:(dg X).length≤(dg (X*2^s)).length:=dg_len_mono (Nat.le_mul_of_pos_right _ (Nat.two_pow_pos s))
 have hll:=dg_len_mono (show Y≤X by omega)
 generalize hx:dg X=x at *
 generalize hy:dg Y=y at *
 have t3:=fun q=>ev_r1_Trim N x q d1 (by omega)
 rw[v1,hx]at t3
 (repeat' (first|(refine CmpP.go (fun hc => ?_) (fun hc => ?_)<;>first|(exfalso;omega)|(conv=>whnf))|(refine OpP.sub ?_ ?_;omega;conv=>whnf)|(refine LenP.go ?_;conv=>whnf)|(refine AKM.x ?_;conv=>whnf)|(refine CallP.go (t1 _) ?_;conv=>whnf)|(refine CallP.go (t2 _) ?_;conv=>whnf)|(refine CallP.go (hcmp _ _) ?_;conv=>whnf)))
 rw[show (y.length:Int)-1=((y.length-1:Nat):Int) by omega]
 refine SlS.off (k:=y.length-1) (fun _=>rfl) (by omega) ?_
 (conv=>whnf)
 rw[hdr]
 (repeat' (first|(refine OpP.sub ?_ ?_;omega;conv=>whnf)|(refine CallP.go (hbl _) ?_;conv=>whnf)))
 rw[show (32:Int)-(blen yt:Nat)=((s:Nat):Int) by omega]
 refine CalP.walk 1000 N.ref01_Shift rfl rfl ?_
 have hsq:(s:Int)/32=((0:Nat):Int):=by omega
 have hsr:(s:Int)%32=((s:Nat):Int):=by omega
 (repeat' (first|(refine CmpP.go (fun hc => ?_) (fun hc => ?_)<;>first|(exfalso;omega)|(conv=>whnf))|(refine OpP.quo ?_ ?_ (fun _ => ?_) (fun _ _ => ?_);omega;omega;all_goals first|(exfalso;omega)|(conv=>whnf))|(refine LenP.go ?_;conv=>whnf)|(refine AKM.x ?_;conv=>whnf)|(refine CallP.go (t3 _) ?_;conv=>whnf)))
 rw[hsq]
 refine MkR.go (enc:=e32) 0 0 rfl rfl (by omega) ?_
 (conv=>whnf)
 skip
 refine AKM.loop3 (fun i _ _=>x.length-i) (fun (i:Nat) (o:List Nat) (c:Nat)=>i≤x.length∧o.length=i∧Dig o∧c<2^s∧val o+4294967296^i*c=val (x.take i)*2^s) (fun i o c=>[(10,.int .i64 i),(9,.int .u64 (c:Int)),(8,.row 107069 0 1 0 i)]) (fun i o c=>[(107069,107069,.rw 1 (o.map e32))]) [] [] 0 [] 0 (by (conv=>whnf);exact ⟨rfl,rfl,rfl⟩) ⟨by omega,rfl,dig_nil,Nat.two_pow_pos _,by simp [val]⟩ ?_
 intro i o c ⟨p1,p2,p3,p4,p5⟩ ih
 have hps:=pow_s_le (s:=s) (by omega)
 by_cases hi:i<x.length
 ·obtain ⟨d,hd⟩ : ∃ d,x[i]? = some d:=⟨_,List.getElem?_eq_getElem hi⟩
  have hdb:=d1.at hd
  obtain ⟨f1,f2,f3,f4⟩:=sh_facts (s:=s) hdb (by omega)
  have hr:=mul_room (show s≤64 by omega) f4
  (repeat' (first|(refine CmpP.go (fun hc => ?_) (fun hc => ?_)<;>first|(exfalso;omega)|(conv=>whnf))|(refine OpP.rem ?_ (fun _ _ _ => ?_) (fun _ _ _ _ => ?_);omega;all_goals first|(exfalso;omega)|(conv=>whnf))|(refine ConvP.u64 ?_ ?_;omega;conv=>whnf)|(refine LenP.go ?_;conv=>whnf)|(refine RdP.at (by assumption) ?_ rfl ?_;omega;conv=>whnf)|(refine AKM.x ?_;conv=>whnf)))
  rw[hsr]
  refine OpP.sh8 (by omega) f4 ?_
  (conv=>whnf)
  skip
  refine OpP.nor8r s (Nat.mul_mod_left _ _) p4 (by omega) ?_
  (conv=>whnf)
  have hst:=up_step (d:=d) (P:=1) (V:=val o) (p:=4294967296^i) (lo:=c) (X:=val (x.take i)) (s:=s) (by rw[Nat.one_mul,Nat.one_mul];exact p5) rfl
  have hc2:(c+d*2^s)/4294967296<2^s:=by
   rw[Nat.div_lt_iff_lt_mul (by omega)]
   have:=Nat.mul_le_mul_right (2^s) (show d≤4294967295 by omega)
   omega
  generalize c+d*2^s=t at *
  (repeat' (first|(refine ConvP.n32 ?_;conv=>whnf)|(refine RowP.e1 ?_;conv=>whnf)))
  refine AppR.one (enc:=e32) (t%4294967296) rfl p2.symm rfl (by omega) (by omega) ?_
  (conv=>whnf)
  (repeat' (first|(refine OpP.add ?_ ?_;omega;conv=>whnf)|(refine OpP.nshr32 ?_;conv=>whnf)))
  rw[show (o++[t%4294967296]).length=i+1 by simp [p2]]
  refine AKM.back [(107069,107091)] (by (conv=>whnf);exact ⟨rfl,rfl,rfl⟩) (ih (i+1) (o++[t%4294967296]) (t/4294967296) (by omega) ⟨by omega,by simp;omega,p3.append (dig_one (by omega)),hc2,?_⟩)
  rw[val_snoc,p2,val_take_succ hd,Nat.pow_succ]
  rw[Nat.one_mul,Nat.one_mul]at hst
  exact hst
 obtain rfl:i=x.length:=by omega
 clear ih
 have hcb:c<4294967296:=by omega
 have hOD:Dig (o++[c]):=p3.append (dig_one hcb)
 have hOv:val (o++[c])=X*2^s:=by
  rw[val_snoc,p2,p5,val_take_all (Nat.le_refl _),v1]
 have hOl:(o++[c]).length=x.length+1:=by simp [p2]
 (repeat' (first|(refine CmpP.go (fun hc => ?_) (fun hc => ?_)<;>first|(exfalso;omega)|(conv=>whnf))|(refine ConvP.n32i ?_ ?_;omega;conv=>whnf)|(refine LenP.go ?_;conv=>whnf)|(refine RowP.e1 ?_;conv=>whnf)|(refine AKM.x ?_;conv=>whnf)))
 refine AppR.one (enc:=e32) c rfl p2.symm rfl (by omega) (by omega) ?_
 (conv=>whnf)
 rw[hOl]
 generalize o++[c]=O at *
 rw[←hOl]
 clear p3 p4 p5
 refine CalP.walk 1000 N.ref01_Trim rfl rfl ?_
 (repeat' (refine AKM.x ?_;conv=>whnf))
 refine AKM.loop1 (fun n=>n) (fun (n:Nat)=>n≤(O).length ∧ ∀ i,n≤i→i<(O).length→(O)[i]? = some 0) (fun n=>[(3,.int .i64 n)]) (fun _=>[]) [] [] (O).length (by (conv=>whnf);exact ⟨rfl,rfl,rfl⟩) ⟨Nat.le_refl _,fun i h1 h2=>by omega⟩ ?_
 intro n ⟨p1,p2⟩ ih
 rcases n with _|n
 ·(repeat' (first|(refine CmpP.go (fun hc => ?_) (fun hc => ?_)<;>first|(exfalso;omega)|(conv=>whnf))|(refine AKM.x ?_;conv=>whnf)))
  refine Bds.up 0 (by omega) (by omega) ?_
  (conv=>whnf)
  have hct:=cut_found (l:=O) (by assumption) p1 p2 (Or.inl rfl)
  have hcl:(List.take 0 O).length≤(O).length:=by rw[List.length_take];omega
  clear ih p2
  refine RowP.part (enc:=e32) (by omega) ?_
  (conv=>whnf)
  rw[List.drop_zero,Nat.sub_zero]
  generalize hT0:List.take 0 O=T0 at *
  refine AppN.many (enc:=e32) (fun _=>rfl) (by omega) (by omega) ?_
  (conv=>whnf)
  refine ⟨rfl,_,rfl,?_⟩
  (conv=>whnf)
  (refine ⟨rfl,_,rfl,?_⟩;(conv=>whnf);(repeat' (first|(refine RowP.e1 ?_;conv=>whnf)|(refine CallP.go (hsv _) ?_;conv=>whnf)));refine AppR.one (enc:=e32) 0 rfl rfl rfl (by omega) (by omega) ?_;(conv=>whnf);rw[hOv]at hct;rw[hct];exact AKM.back [] (by (conv=>whnf);exact ⟨rfl,rfl,rfl⟩) (dm_main N (x:=x) (X:=X) (Y:=Y) (s:=s) (u:=dg (X*2^s)++[0]) (y:=dg (Y*2^s)) h0 hs31 ((dig_dg _).append (dig_one (by omega))) (by rw[val_snoc,val_dg,Nat.mul_zero,Nat.add_zero]) (by simp) (by simp;omega) (dig_dg _) (val_dg _) (by omega) (by rw[val_dg,hvl];exact n2)))
 ·have e1:((n+1:Nat):Int)-1=n:=by omega
  (repeat' (first|(refine CmpP.go (fun hc => ?_) (fun hc => ?_)<;>first|(exfalso;omega)|(conv=>whnf))|(refine Req.go ?_ ?_;omega;conv=>whnf)|(refine OpP.sub ?_ ?_;omega;conv=>whnf)|(refine LdR.digi (by assumption) ?_ (fun v hv hb => ?_);omega;conv=>whnf)|(refine AKM.x ?_;conv=>whnf)))
  ·rw[e1]
   exact AKM.back [] (by (conv=>whnf);exact ⟨rfl,rfl,rfl⟩) (ih n (by omega) ⟨by omega,fun i h1 h2=>by
    by_cases h:i=n
    ·subst h
     rw[e1,Int.toNat_natCast]at hv
     rw[hv];congr 1;omega
    ·exact p2 i (by omega) h2⟩)
  ·refine Bds.up (n+1) (by omega) (by omega) ?_
   (conv=>whnf)
   rw[e1,Int.toNat_natCast]at hv
   have hct:=cut_found (l:=O) (by assumption) p1 p2 (Or.inr ⟨_,hv,by omega⟩)
   have hcl:(List.take (n+1) O).length≤(O).length:=by rw[List.length_take];omega
   clear ih p2 hv
   (rw[apX_rw (l:=O)];rotate_left;exact rfl;exact rfl);(conv=>whnf)
   refine RowP.part (enc:=e32) (by omega) ?_
   (conv=>whnf)
   rw[List.drop_zero,Nat.sub_zero]
   generalize hT0:List.take (n+1) O=T0 at *
   refine AppN.many (enc:=e32) (fun _=>rfl) (by omega) (by omega) ?_
   (conv=>whnf)
   refine ⟨rfl,_,rfl,?_⟩
   (conv=>whnf)
   (refine ⟨rfl,_,rfl,?_⟩;(conv=>whnf);(repeat' (first|(refine RowP.e1 ?_;conv=>whnf)|(refine CallP.go (hsv _) ?_;conv=>whnf)));refine AppR.one (enc:=e32) 0 rfl rfl rfl (by omega) (by omega) ?_;(conv=>whnf);rw[hOv]at hct;rw[hct];exact AKM.back [] (by (conv=>whnf);exact ⟨rfl,rfl,rfl⟩) (dm_main N (x:=x) (X:=X) (Y:=Y) (s:=s) (u:=dg (X*2^s)++[0]) (y:=dg (Y*2^s)) h0 hs31 ((dig_dg _).append (dig_one (by omega))) (by rw[val_snoc,val_dg,Nat.mul_zero,Nat.add_zero]) (by simp) (by simp;omega) (dig_dg _) (val_dg _) (by omega) (by rw[val_dg,hvl];exact n2)))
theorem ev_r1_Gcd (N:RefGLib L) (a b:List Nat) (q1 q2:Bool) (hA:Dig a) (hB:Dig b) (la:a.length≤274877906944) (lb:b.length≤274877906944) :
  Ev L 110 [.sl q1 (a.map e32),.sl q2 (b.map e32)] (.sl false ((dg (Nat.gcd (val a) (val b))).map e32)):=by
 have t1:=fun q=>ev_r1_Trim N a q hA (by omega)
 have t2:=fun q=>ev_r1_Trim N b q hB (by omega)
 have l1:=dg_len_val hA
 have l2:=dg_len_val hB
 generalize val a=X at *
 generalize val b=Y at *
 refine Ev.x N.ref01_Gcd rfl rfl ?_
 (repeat' (first|(refine AKM.x ?_;conv=>whnf)|(refine CallP.go (t1 _) ?_;conv=>whnf)|(refine CallP.go (t2 _) ?_;conv=>whnf)))
 refine AKM.loop2 (fun _ y=>y) (fun (x y:Nat)=>(dg x).length≤274877906944∧(dg y).length≤274877906944∧Nat.gcd x y=Nat.gcd X Y) (fun x y=>[(0,.sl false ((dg x).map e32)),(1,.sl false ((dg y).map e32))]) (fun _ _=>[]) [] [] X Y (by (conv=>whnf);exact ⟨rfl,rfl,rfl⟩) ⟨by omega,by omega,rfl⟩ ?_
 intro x y ⟨p1,p2,p3⟩ ih
 rw[←p3]
 by_cases h0:y=0
 ·subst h0
  have hl0:(dg 0).length=0:=by rw[dg_zero];rfl
  clear ih
  rw[Nat.gcd_zero_right]
  (repeat' (first|(refine CmpP.go (fun hc => ?_) (fun hc => ?_)<;>first|(exfalso;omega)|(conv=>whnf))|(refine LenP.go ?_;conv=>whnf)|(refine AKM.x ?_;conv=>whnf)))
  exact FinP.go rfl (cl_sl _)
 ·have hp:=dg_len_pos h0
  have hD:=fun q q'=>ev_r1_DivMod N (dg x) (dg y) q q' (dig_dg _) (dig_dg _) p1 p2 (by rw[val_dg];exact h0)
  rw[val_dg,val_dg]at hD
  have hlt:x%y<y:=Nat.mod_lt _ (by omega)
  have hml:=dg_len_mono (Nat.le_of_lt hlt)
  (repeat' (first|(refine CmpP.go (fun hc => ?_) (fun hc => ?_)<;>first|(exfalso;omega)|(conv=>whnf))|(refine LenP.go ?_;conv=>whnf)|(refine AKM.x ?_;conv=>whnf)|(refine CallP.go (hD _ _) ?_;conv=>whnf)))
  rw[p3]
  exact AKM.back [] (by (conv=>whnf);exact ⟨rfl,rfl,rfl⟩) (ih y (x%y) hlt ⟨p2,by omega,by rw[gcd_mod_step];exact p3⟩)
end Go.Eng

namespace Go.Eng
open F
attribute [local irreducible] AKM CmpP Req OpP UnP ConvP RdP LdR StR MkR LenP AppR AppN CpyR RowP SnR Bds SlS CallP CalP FinP pw LdM GetM SetM PutM MkM AppM SnM FlP CallR
set_option maxHeartbeats 4000000
variable {L:Lib}
theorem ev_r2_Trim (N:RefGLib L) (n q:Bool) (m:List Nat) (hm:Sm 274877906944 m):Ev L 111 [.agg (rZ q n m)] (.agg (eZ (zv n m))):=by
 have hT:=fun q=>ev_r1_Trim N m q hm.1 (by have:=hm.2;omega)
 have hz:=dg_len0 (val m)
 have ha:=zv_abs n m
 refine Ev.x N.ref02_Trim rfl rfl ?_
 cases n
 ·rw[zv_F]at *
  (repeat' (first|(refine AKM.x ?_;conv=>whnf)|(refine CallP.go (hT _) ?_;conv=>whnf)))
  exact FinP.go (agg_eZ ha.symm (sgn_F (by omega))) (cl_eZ _)
 ·rw[zv_T]at *
  (repeat' (first|(refine CmpP.go (fun hc => ?_) (fun hc => ?_)<;>first|(exfalso;omega)|(conv=>whnf))|(refine LenP.go ?_;conv=>whnf)|(refine AKM.x ?_;conv=>whnf)|(refine CallP.go (hT _) ?_;conv=>whnf)))
  ·exact FinP.go (agg_eZ ha.symm (sgn_T (by omega))) (cl_eZ _)
  ·exact FinP.go (agg_eZ ha.symm (sgn_F (by omega))) (cl_eZ _)
theorem ev_r2_Sign (N:RefGLib L) (n q:Bool) (m:List Nat) (hm:Sm 274877906944 m):Ev L 113 [.agg (rZ q n m)] (.int .i64 (sgn (zv n m))):=by
 have hT:=fun q=>ev_r2_Trim N n q m hm
 generalize zv n m=z at *
 have hz:=dg_len0 z.natAbs
 refine Ev.x N.ref02_Sign rfl rfl ?_
 (repeat' (first|(refine CmpP.go (fun hc => ?_) (fun hc => ?_)<;>first|(exfalso;omega)|(conv=>whnf))|(refine LenP.go ?_;conv=>whnf)|(refine AKM.x ?_;conv=>whnf)|(refine CallP.go (hT _) ?_;conv=>whnf)))
 ·exact FinP.i (sgn_zero (by omega))
 ·cases hd:decide (z<0)
  ·(conv=>whnf)
   exact FinP.i (sgn_pos (by have:=of_decide_eq_false hd;omega))
  ·(conv=>whnf)
   exact FinP.i (sgn_neg (of_decide_eq_true hd))
theorem ev_r2_Neg (N:RefGLib L) (n q:Bool) (m:List Nat) (hm:Sm 274877906944 m):Ev L 114 [.agg (rZ q n m)] (.agg (eZ (-(zv n m)))):=by
 have hT:=fun q=>ev_r2_Trim N n q m hm
 generalize zv n m=z at *
 have hz:=dg_len0 z.natAbs
 refine Ev.x N.ref02_Neg rfl rfl ?_
 (repeat' (first|(refine AKM.x ?_;conv=>whnf)|(refine CallP.go (hT _) ?_;conv=>whnf)))
 cases hd:decide (z<0)
 ·have h1:=of_decide_eq_false hd
  (conv=>whnf)
  (repeat' (first|(refine CmpP.go (fun hc => ?_) (fun hc => ?_)<;>first|(exfalso;omega)|(conv=>whnf))|(refine LenP.go ?_;conv=>whnf)))
  ·exact FinP.go (agg_eZ (by omega) (sgn_T (by omega))) (cl_eZ _)
  ·exact FinP.go (agg_eZ (by omega) (sgn_F (by omega))) (cl_eZ _)
 ·have h1:=of_decide_eq_true hd
  (conv=>whnf)
  skip
  exact FinP.go (agg_eZ (by omega) (sgn_F (by omega))) (cl_eZ _)
theorem ev_r2_Mul (N:RefGLib L) (n1 n2 q1 q2:Bool) (a b:List Nat) (ha:Dig a) (hb:Dig b) (hl:a.length+b.length≤274877906944):Ev L 118 [.agg (rZ q1 n1 a),.agg (rZ q2 n2 b)] (.agg (eZ (zv n1 a*zv n2 b))):=by
 have h1:=fun q q'=>ev_r1_Mul N a b q q' ha hb (by omega)
 have sa:Sm a.length a:=⟨ha,Nat.le_refl _⟩
 have sb:Sm b.length b:=⟨hb,Nat.le_refl _⟩
 have hT:=fun n q=>ev_r2_Trim N n q (dg (val a*val b)) ((sa.mul sb rfl).le hl)
 have e : ∀ n,zv n (dg (val a*val b))=bif n then -((val a*val b:Nat):Int) else ((val a*val b:Nat):Int):=fun n=>by unfold zv;rw[val_dg]
 have e2:zv n1 a*zv n2 b=zv (n1 != n2) (dg (val a*val b)):=by
  rw[e]
  cases n1<;>cases n2<;>simp [zv_F,zv_T,Int.mul_neg,Int.neg_mul]
 rw[e2]
 refine Ev.x N.ref02_Mul rfl rfl ?_
 cases n1<;>cases n2
 all_goals
  (repeat' (first|(refine AKM.x ?_;conv=>whnf)|(refine CallP.go (h1 _ _) ?_;conv=>whnf)|(refine CallP.go (hT _ _) ?_;conv=>whnf)))
  exact FinP.go rfl (cl_eZ _)
theorem ev_r2_Add (N:RefGLib L) (n1 n2 q1 q2:Bool) (a b:List Nat) (ha:Sm 274877906943 a) (hb:Sm 274877906943 b):Ev L 115 [.agg (rZ q1 n1 a),.agg (rZ q2 n2 b)] (.agg (eZ (zv n1 a+zv n2 b))):=by
 have t1:=fun q=>ev_r2_Trim N n1 q a (ha.le (by omega))
 have t2:=fun q=>ev_r2_Trim N n2 q b (hb.le (by omega))
 have s1:Sm 274877906943 (dg (zv n1 a).natAbs):=by rw[zv_abs];exact ha.nrm
 have s2:Sm 274877906943 (dg (zv n2 b).natAbs):=by rw[zv_abs];exact hb.nrm
 generalize zv n1 a=x at *
 generalize zv n2 b=y at *
 have h1:=fun q q'=>ev_r1_Add N (dg x.natAbs) (dg y.natAbs) q q' s1.1 s2.1 (by have:=s1.2;omega) (by have:=s2.2;omega)
 have h2:=fun q q'=>ev_r1_Sub N (dg x.natAbs) (dg y.natAbs) q q' s1.1 s2.1 (by have:=s1.2;omega) (by have:=s2.2;omega)
 have h3:=fun q q'=>ev_r1_Sub N (dg y.natAbs) (dg x.natAbs) q q' s2.1 s1.1 (by have:=s2.2;omega) (by have:=s1.2;omega)
 have hcmp:=fun q q'=>ev_r1_Compare N (dg x.natAbs) (dg y.natAbs) q q' s1.1 s2.1 (by have:=s1.2;omega) (by have:=s2.2;omega)
 rw[val_dg,val_dg]at h1 h2 h3 hcmp
 have u1:=fun n q=>ev_r2_Trim N n q (dg (x.natAbs+y.natAbs)) (s1.add s2 (by rw[val_dg,val_dg];omega))
 have u2:=fun n q=>ev_r2_Trim N n q (dg (x.natAbs-y.natAbs)) ((s1.low (V:=x.natAbs-y.natAbs) (by rw[val_dg];omega)).le (by omega))
 have u3:=fun n q=>ev_r2_Trim N n q (dg (y.natAbs-x.natAbs)) ((s2.low (V:=y.natAbs-x.natAbs) (by rw[val_dg];omega)).le (by omega))
 have e : ∀ n V,zv n (dg V)=bif n then -(V:Int) else (V:Int):=fun n V=>by unfold zv;rw[val_dg]
 refine Ev.x N.ref02_Add rfl rfl ?_
 (repeat' (first|(refine AKM.x ?_;conv=>whnf)|(refine CallP.go (t1 _) ?_;conv=>whnf)|(refine CallP.go (t2 _) ?_;conv=>whnf)))
 cases hx:decide (x<0)<;>cases hy:decide (y<0)
 ·have g1:=of_decide_eq_false hx
  have g2:=of_decide_eq_false hy
  have hz:x+y=zv false (dg (x.natAbs+y.natAbs)):=by rw[e];simp only[cond_true,cond_false];omega
  rw[hz]
  (conv=>whnf)
  (repeat' (first|(refine CallP.go (h1 _ _) ?_;conv=>whnf)|(refine CallP.go (u1 _ _) ?_;conv=>whnf)))
  exact FinP.go rfl (cl_eZ _)
 ·have g1:=of_decide_eq_false hx
  have g2:=of_decide_eq_true hy
  by_cases hlt:x.natAbs<y.natAbs
  ·have hz:x+y=zv true (dg (y.natAbs-x.natAbs)):=by rw[e];simp only[cond_true,cond_false];omega
   rw[hz]
   rw[←cmpS_lt (by omega)]at hcmp
   (conv=>whnf)
   (repeat' (first|(refine CmpP.go (fun hc => ?_) (fun hc => ?_)<;>first|(exfalso;omega)|(conv=>whnf))|(refine CallP.go (hcmp _ _) ?_;conv=>whnf)|(refine CallP.go (h3 _ _) ?_;conv=>whnf)|(refine CallP.go (u3 _ _) ?_;conv=>whnf)))
   exact FinP.go rfl (cl_eZ _)
  ·have hz:x+y=zv false (dg (x.natAbs-y.natAbs)):=by rw[e];simp only[cond_true,cond_false];omega
   rw[hz]
   have hge:=cmpS_ge (show y.natAbs≤x.natAbs by omega)
   generalize cmpS (x.natAbs:Nat) (y.natAbs:Nat)=cm at *
   (conv=>whnf)
   (repeat' (first|(refine CmpP.go (fun hc => ?_) (fun hc => ?_)<;>first|(exfalso;omega)|(conv=>whnf))|(refine CallP.go (hcmp _ _) ?_;conv=>whnf)|(refine CallP.go (h2 _ _) ?_;conv=>whnf)|(refine CallP.go (u2 _ _) ?_;conv=>whnf)))
   exact FinP.go rfl (cl_eZ _)
 ·have g1:=of_decide_eq_true hx
  have g2:=of_decide_eq_false hy
  by_cases hlt:x.natAbs<y.natAbs
  ·have hz:x+y=zv false (dg (y.natAbs-x.natAbs)):=by rw[e];simp only[cond_true,cond_false];omega
   rw[hz]
   rw[←cmpS_lt (by omega)]at hcmp
   (conv=>whnf)
   (repeat' (first|(refine CmpP.go (fun hc => ?_) (fun hc => ?_)<;>first|(exfalso;omega)|(conv=>whnf))|(refine CallP.go (hcmp _ _) ?_;conv=>whnf)|(refine CallP.go (h3 _ _) ?_;conv=>whnf)|(refine CallP.go (u3 _ _) ?_;conv=>whnf)))
   exact FinP.go rfl (cl_eZ _)
  ·have hz:x+y=zv true (dg (x.natAbs-y.natAbs)):=by rw[e];simp only[cond_true,cond_false];omega
   rw[hz]
   have hge:=cmpS_ge (show y.natAbs≤x.natAbs by omega)
   generalize cmpS (x.natAbs:Nat) (y.natAbs:Nat)=cm at *
   (conv=>whnf)
   (repeat' (first|(refine CmpP.go (fun hc => ?_) (fun hc => ?_)<;>first|(exfalso;omega)|(conv=>whnf))|(refine CallP.go (hcmp _ _) ?_;conv=>whnf)|(refine CallP.go (h2 _ _) ?_;conv=>whnf)|(refine CallP.go (u2 _ _) ?_;conv=>whnf)))
   exact FinP.go rfl (cl_eZ _)
 ·have g1:=of_decide_eq_true hx
  have g2:=of_decide_eq_true hy
  have hz:x+y=zv true (dg (x.natAbs+y.natAbs)):=by rw[e];simp only[cond_true,cond_false];omega
  rw[hz]
  (conv=>whnf)
  (repeat' (first|(refine CallP.go (h1 _ _) ?_;conv=>whnf)|(refine CallP.go (u1 _ _) ?_;conv=>whnf)))
  exact FinP.go rfl (cl_eZ _)
theorem ev_r2_Sub (N:RefGLib L) (n1 n2 q1 q2:Bool) (a b:List Nat) (ha:Sm 274877906943 a) (hb:Sm 274877906943 b):Ev L 116 [.agg (rZ q1 n1 a),.agg (rZ q2 n2 b)] (.agg (eZ (zv n1 a-zv n2 b))):=by
 have t2:=fun q=>ev_r2_Neg N n2 q b (hb.le (by omega))
 have s2:Sm 274877906943 (dg (-(zv n2 b)).natAbs):=by rw[Int.natAbs_neg,zv_abs];exact hb.nrm
 have h1:=fun q q'=>ev_r2_Add N n1 (decide (-(zv n2 b)<0)) q q' a (dg (-(zv n2 b)).natAbs) ha s2
 rw[zv_of,←Int.sub_eq_add_neg]at h1
 refine Ev.x N.ref02_Sub rfl rfl ?_
 (repeat' (first|(refine AKM.x ?_;conv=>whnf)|(refine CallP.go (t2 _) ?_;conv=>whnf)|(refine CallP.go (h1 _ _) ?_;conv=>whnf)))
 exact FinP.go rfl (cl_eZ _)
theorem ev_r2_Compare (N:RefGLib L) (n1 n2 q1 q2:Bool) (a b:List Nat) (ha:Sm 274877906943 a) (hb:Sm 274877906943 b):Ev L 117 [.agg (rZ q1 n1 a),.agg (rZ q2 n2 b)] (.int .i64 (sgn (zv n1 a-zv n2 b))):=by
 have h1:=fun q q'=>ev_r2_Sub N n1 n2 q q' a b ha hb
 have s1:Sm 274877906943 (dg (zv n1 a).natAbs):=by rw[zv_abs];exact ha.nrm
 have s2:Sm 274877906943 (dg (zv n2 b).natAbs):=by rw[zv_abs];exact hb.nrm
 have s3:Sm 274877906944 (dg (zv n1 a-zv n2 b).natAbs):=s1.add s2 (by rw[val_dg,val_dg];omega)
 have h2:=fun q=>ev_r2_Sign N (decide (zv n1 a-zv n2 b<0)) q (dg (zv n1 a-zv n2 b).natAbs) s3
 rw[zv_of]at h2
 refine Ev.x N.ref02_Compare rfl rfl ?_
 (repeat' (first|(refine AKM.x ?_;conv=>whnf)|(refine CallP.go (h1 _ _) ?_;conv=>whnf)|(refine CallP.go (h2 _) ?_;conv=>whnf)))
 exact FinP.i rfl
theorem ev_r2_Of (N:RefGLib L) (z:Int) (hz : -9223372036854775808≤z∧z≤9223372036854775807):Ev L 112 [.int .i64 z] (.agg (eZ z)):=by
 have two : ∀ k:Nat,k<18446744073709551616 → ∀ n q,Ev L 111 [.agg [.bool n,.sl q [[.int .u32 ((k%4294967296:Nat):Int)],[.int .u32 ((k/4294967296:Nat):Int)]]]] (.agg (eZ (bif n then -(k:Int) else (k:Int)))):=fun k hk n q=>by
  have:=ev_r2_Trim N n q [k%4294967296,k/4294967296] ⟨(dg2 hk).2,by simp⟩
  unfold zv at this
  rw[val_two hk]at this
  exact this
 refine Ev.x N.ref02_Of rfl rfl ?_
 by_cases h0:0≤z
 ·obtain ⟨k,rfl⟩:=Int.eq_ofNat_of_zero_le h0
  have hT:=two k (by omega)
  (repeat' (first|(refine CmpP.go (fun hc => ?_) (fun hc => ?_)<;>first|(exfalso;omega)|(conv=>whnf))|(refine OpP.nshr32 ?_;conv=>whnf)|(refine ConvP.u64 ?_ ?_;omega;conv=>whnf)|(refine ConvP.n32i ?_ ?_;omega;conv=>whnf)|(refine ConvP.n32 ?_;conv=>whnf)|(refine SnR.e2 rfl rfl ?_;conv=>whnf)|(refine AKM.x ?_;conv=>whnf)))
  generalize k%4294967296=lo at *
  generalize k/4294967296=hi at *
  (repeat' (refine CallP.go (hT _ _) ?_;conv=>whnf))
  exact FinP.go rfl (cl_eZ _)
 ·obtain ⟨k,hk⟩:=Int.eq_ofNat_of_zero_le (show 0 ≤ -(z+1) by omega)
  have hz2:z = -((k+1:Nat):Int):=by omega
  have hT:=two (k+1) (by omega)
  (repeat' (first|(refine CmpP.go (fun hc => ?_) (fun hc => ?_)<;>first|(exfalso;omega)|(conv=>whnf))|(refine OpP.add ?_ ?_;omega;conv=>whnf)|(refine OpP.wadd ?_;conv=>whnf)|(refine UnP.neg ?_ ?_;omega;conv=>whnf)|(refine ConvP.u64 ?_ ?_;omega;conv=>whnf)|(refine AKM.x ?_;conv=>whnf)))
  rw[show IntKind.u64.wrap (-(z+1)+1)=((k+1:Nat):Int) by rw[IntWalk.u64_in _ (by omega)];omega]
  rw[hz2]
  generalize k+1=k1 at *
  (repeat' (first|(refine OpP.nshr32 ?_;conv=>whnf)|(refine ConvP.n32i ?_ ?_;omega;conv=>whnf)|(refine ConvP.n32 ?_;conv=>whnf)|(refine SnR.e2 rfl rfl ?_;conv=>whnf)))
  generalize k1%4294967296=lo at *
  generalize k1/4294967296=hi at *
  (repeat' (refine CallP.go (hT _ _) ?_;conv=>whnf))
  exact FinP.go rfl (cl_eZ _)
theorem ev_r2_Gcd (N:RefGLib L) (n1 n2 q1 q2:Bool) (a b:List Nat) (ha:Sm 274877906944 a) (hb:Sm 274877906944 b):Ev L 120 [.agg (rZ q1 n1 a),.agg (rZ q2 n2 b)] (.agg (eZ ((Nat.gcd (val a) (val b):Nat):Int))):=by
 have h1:=fun q q'=>ev_r1_Gcd N a b q q' ha.1 hb.1 ha.2 hb.2
 refine Ev.x N.ref02_Gcd rfl rfl ?_
 (repeat' (first|(refine AKM.x ?_;conv=>whnf)|(refine CallP.go (h1 _ _) ?_;conv=>whnf)))
 exact FinP.go (agg_eZ (by omega) (sgn_F (by omega))) (cl_eZ _)
theorem ediv_cases (n1 n2:Bool) (A B:Nat) (hB:B≠0):(bif n1 then -(A:Int) else (A:Int))/(bif n2 then -(B:Int) else (B:Int))=(bif n1 != n2 then -((if n1=true∧A%B≠0 then A/B+1 else A/B:Nat):Int) else ((if n1=true∧A%B≠0 then A/B+1 else A/B:Nat):Int)) ∧
  (bif n1 then -(A:Int) else (A:Int))%(bif n2 then -(B:Int) else (B:Int))=((if n1=true∧A%B≠0 then B-A%B else A%B:Nat):Int):=by
 have hBp:(0:Int)<B:=by omega
 have key : ∀ x:Int,x/(bif n2 then -(B:Int) else (B:Int))=(bif n2 then -(x/B) else x/B)∧x%(bif n2 then -(B:Int) else (B:Int))=x%B:=fun x=>by
  cases n2
  ·exact ⟨rfl,rfl⟩
  ·exact ⟨Int.ediv_neg x B,Int.emod_neg x B⟩
 rw[(key _).1,(key _).2]
 cases n1
 ·have h1:((A:Int))/B=((A/B:Nat):Int):=by simp
  have h2:((A:Int))%B=((A%B:Nat):Int):=by simp
  simp only[cond_false,h1,h2]
  cases n2<;>simp
 ·have hd:=Nat.div_add_mod A B
  have hlt:=Nat.mod_lt A (show B>0 by omega)
  by_cases h0:A%B=0
  ·have e : -(A:Int)=(B:Int)*(-((A/B:Nat):Int)):=by
    rw[h0,Nat.add_zero]at hd
    rw[Int.mul_neg,←Int.natCast_mul,hd]
   have h1 : -(A:Int)/B = -((A/B:Nat):Int):=by rw[e,Int.mul_ediv_cancel_left _ (by omega)]
   have h2 : -(A:Int)%B=0:=by rw[e,Int.mul_emod_right]
   simp only[cond_true,h1,h2,h0]
   cases n2<;>simp
  ·have e : -(A:Int)=(B:Int)*(-((A/B+1:Nat):Int))+((B-A%B:Nat):Int):=by
    have h3:(B:Int)*((A/B:Nat):Int)+((A%B:Nat):Int)=A:=by rw[←Int.natCast_mul,←Int.natCast_add,hd]
    rw[Int.mul_neg,Int.natCast_add,Int.mul_add]
    omega
   have h1 : -(A:Int)/B = -((A/B+1:Nat):Int):=by
    rw[e,Int.mul_add_ediv_left _ _ (by omega),Int.ediv_eq_zero_of_lt (by omega) (by omega),Int.add_zero]
   have h2 : -(A:Int)%B=((B-A%B:Nat):Int):=by
    rw[e,Int.mul_add_emod_self_left,Int.emod_eq_of_lt (by omega) (by omega)]
   simp only[cond_true,h1,h2]
   cases n2<;>simp [h0]
theorem ev_r2_Div (N:RefGLib L) (n1 n2 q1 q2:Bool) (a b:List Nat) (ha:Sm 274877906943 a) (hb:Sm 274877906943 b) (h0:zv n2 b≠0):Ev L 119 [.agg (rZ q1 n1 a),.agg (rZ q2 n2 b)] (.tup [.agg (eZ (zv n1 a/zv n2 b)),.agg (eZ (zv n1 a%zv n2 b)),.int .i64 0]):=by
 have t1:=fun q=>ev_r2_Trim N n1 q a (ha.le (by omega))
 have t2:=fun q=>ev_r2_Trim N n2 q b (hb.le (by omega))
 have s1:Sm 274877906943 (dg (zv n1 a).natAbs):=by rw[zv_abs];exact ha.nrm
 have s2:Sm 274877906943 (dg (zv n2 b).natAbs):=by rw[zv_abs];exact hb.nrm
 generalize zv n1 a=x at *
 generalize zv n2 b=y at *
 have hDM:=fun q q'=>ev_r1_DivMod N (dg x.natAbs) (dg y.natAbs) q q' s1.1 s2.1 (by have:=s1.2;omega) (by have:=s2.2;omega) (by rw[val_dg];omega)
 rw[val_dg,val_dg]at hDM
 obtain ⟨e1,e2⟩:=ediv_cases (decide (x<0)) (decide (y<0)) x.natAbs y.natAbs (by omega)
 have hx:(bif decide (x<0) then -(x.natAbs:Int) else (x.natAbs:Int))=x:=by have:=zv_of x;unfold zv at this;rw[val_dg]at this;exact this
 have hy:(bif decide (y<0) then -(y.natAbs:Int) else (y.natAbs:Int))=y:=by have:=zv_of y;unfold zv at this;rw[val_dg]at this;exact this
 rw[hx,hy]at e1 e2
 rw[e1,e2]
 have l1:=s1.2
 have l2:=s2.2
 have hq:Sm 274877906943 (dg (x.natAbs/y.natAbs)):=s1.low (by rw[val_dg];exact Nat.div_le_self _ _)
 have hr:Sm 274877906943 (dg (x.natAbs%y.natAbs)):=s2.low (by rw[val_dg];exact Nat.le_of_lt (Nat.mod_lt _ (by omega)))
 have hrz:=dg_len0 (x.natAbs%y.natAbs)
 have hone:Ev L 103 [.sl false ((dg (x.natAbs/y.natAbs)).map e32),.sl true [[.int .u32 1]]] (.sl false ((dg (x.natAbs/y.natAbs+1)).map e32)):=by
  have:=ev_r1_Add N (dg (x.natAbs/y.natAbs)) [1] false true (dig_dg _) (dig_one (by omega)) (by have:=hq.2;omega) (by simp)
  rw[val_dg,show val [1]=1 from rfl]at this
  exact this
 have hq1:Sm 274877906944 (dg (x.natAbs/y.natAbs+1)):=hq.add (b:=[1]) (sm_one (by omega) (by omega)) (by rw[val_dg];simp [val])
 have hsub:=fun q q'=>ev_r1_Sub N (dg y.natAbs) (dg (x.natAbs%y.natAbs)) q q' s2.1 hr.1 (by omega) (by have:=hr.2;omega)
 rw[val_dg,val_dg]at hsub
 have u1:=fun n q=>ev_r2_Trim N n q (dg (x.natAbs/y.natAbs)) (hq.le (by omega))
 have u2:=fun n q=>ev_r2_Trim N n q (dg (x.natAbs/y.natAbs+1)) hq1
 have ez : ∀ n V,zv n (dg V)=bif n then -(V:Int) else (V:Int):=fun n V=>by unfold zv;rw[val_dg]
 have fin : ∀ (z:Int) (V:Nat),FinP (.tup [.agg (eZ z),.agg [.bool false,.sl false ((dg V).map e32)],.int .i64 0]) (.tup [.agg (eZ z),.agg (eZ (V:Int)),.int .i64 0]):=fun z V=>by
  have e3:AV.agg (eZ (V:Int)) = .agg [.bool false,.sl false ((dg V).map e32)]:=(agg_eZ (by omega) (sgn_F (by omega))).symm
  rw[e3]
  refine FinP.go rfl ?_
  simp only[Clean,CleanL,and_true,true_and]
  exact ⟨cl_dig _,cl_dig _⟩
 clear e1 e2 hx hy
 generalize x.natAbs/y.natAbs=qq at *
 generalize x.natAbs%y.natAbs=rr at *
 refine Ev.x N.ref02_Div rfl rfl ?_
 (repeat' (first|(refine CmpP.go (fun hc => ?_) (fun hc => ?_)<;>first|(exfalso;omega)|(conv=>whnf))|(refine AKM.x ?_;conv=>whnf)|(refine CallP.go (t1 _) ?_;conv=>whnf)|(refine CallP.go (t2 _) ?_;conv=>whnf)|(refine CallP.go (hDM _ _) ?_;conv=>whnf)))
 generalize decide (x<0)=p at *
 generalize decide (y<0)=r at *
 cases p
 ·rw[if_neg (by simp),if_neg (by simp),←ez]
  cases r
  all_goals
   (conv=>whnf)
   (repeat' (refine CallP.go (u1 _ _) ?_;conv=>whnf))
   exact fin _ _
 ·by_cases hr0:rr=0
  ·rw[if_neg (by simp [hr0]),if_neg (by simp [hr0]),←ez]
   cases r
   all_goals
    (conv=>whnf)
    (repeat' (first|(refine CmpP.go (fun hc => ?_) (fun hc => ?_)<;>first|(exfalso;omega)|(conv=>whnf))|(refine LenP.go ?_;conv=>whnf)|(refine CallP.go (u1 _ _) ?_;conv=>whnf)))
    exact fin _ _
  ·rw[if_pos ⟨rfl,hr0⟩,if_pos ⟨rfl,hr0⟩,←ez]
   cases r
   all_goals
    (conv=>whnf)
    (repeat' (first|(refine CmpP.go (fun hc => ?_) (fun hc => ?_)<;>first|(exfalso;omega)|(conv=>whnf))|(refine LenP.go ?_;conv=>whnf)|(refine SnR.e1 rfl ?_;conv=>whnf)|(refine CallP.go (hone) ?_;conv=>whnf)|(refine CallP.go (hsub _ _) ?_;conv=>whnf)|(refine CallP.go (u2 _ _) ?_;conv=>whnf)))
    exact fin _ _
end Go.Eng

namespace Go.Eng
open F
attribute [local irreducible] AKM CmpP Req OpP UnP ConvP RdP LdR StR MkR LenP AppR AppN CpyR RowP SnR Bds SlS CallP CalP FinP pw LdM GetM SetM PutM MkM AppM SnM FlP CallR
set_option maxHeartbeats 4000000
variable {L:Lib}
theorem dg_one':dg 1=[1]:=by rw[dg_pos (by omega)];simp [dg_zero]
theorem agg_zeroQ:AV.agg [.bool false,.sl false [],.sl false [[.int .u32 1]]] = .agg (eQ 0):=by
 show _=AV.agg (rQ _ _ _ _ _)
 rw[Rat.zero_num,Rat.zero_den,dg_one',show (0:Int).natAbs=0 from rfl,dg_zero];rfl
theorem divInt_parts {x y:Int} (hy:y≠0):(Rat.divInt x y).num=(if y<0 then -(x/((Nat.gcd x.natAbs y.natAbs:Nat):Int)) else x/((Nat.gcd x.natAbs y.natAbs:Nat):Int))∧(Rat.divInt x y).den=(y/((Nat.gcd x.natAbs y.natAbs:Nat):Int)).natAbs:=by
 have h1:=Rat.num_divInt x y
 have h2:=Rat.den_divInt x y
 rw[if_neg hy]at h2
 have hg:Int.gcd y x=Nat.gcd x.natAbs y.natAbs:=by rw[Int.gcd,Nat.gcd_comm]
 rw[hg]at h1 h2
 have hgp:0<Nat.gcd x.natAbs y.natAbs:=Nat.gcd_pos_of_pos_right _ (by omega)
 have dx:((Nat.gcd x.natAbs y.natAbs:Nat):Int) ∣ x:=Int.ofNat_dvd_left.2 (Nat.gcd_dvd_left _ _)
 have dy:((Nat.gcd x.natAbs y.natAbs:Nat):Int) ∣ y:=Int.ofNat_dvd_left.2 (Nat.gcd_dvd_right _ _)
 generalize Nat.gcd x.natAbs y.natAbs=g at *
 rw[h1,h2]
 obtain ⟨u,rfl⟩:=dx
 obtain ⟨v,rfl⟩:=dy
 have hg0:(g:Int)≠0:=by omega
 refine ⟨?_,?_⟩
 ·rw[Int.mul_ediv_cancel_left _ hg0]
  split
  ·rename_i h
   rw[Int.sign_eq_neg_one_of_neg h,show -1*((g:Int)*u)=g*(-u) by rw[Int.mul_neg];omega,Int.mul_ediv_cancel_left _ hg0]
  ·rw[Int.sign_eq_one_of_pos (by omega),Int.one_mul,Int.mul_ediv_cancel_left _ hg0]
 ·rw[Int.mul_ediv_cancel_left _ hg0,Int.natAbs_mul,Int.natAbs_natCast,Nat.mul_div_cancel_left _ hgp]
theorem ev_reduce (N:RefGLib L) (n1 n2 q1 q2:Bool) (a b:List Nat) (ha:Sm 274877906943 a) (hb:Sm 274877906943 b):Ev L 121 [.agg (rZ q1 n1 a),.agg (rZ q2 n2 b)] (.agg (eQ (Rat.divInt (zv n1 a) (zv n2 b)))):=by
 have t1:=fun q=>ev_r2_Sign N n1 q a (ha.le (by omega))
 have t2:=fun q=>ev_r2_Sign N n2 q b (hb.le (by omega))
 by_cases h1:zv n1 a=0
 ·rw[h1,Rat.zero_divInt,←agg_zeroQ]
  rw[h1,←sgn_zero rfl]at t1
  refine Ev.x N.ref03_reduce rfl rfl ?_
  (repeat' (first|(refine CmpP.go (fun hc => ?_) (fun hc => ?_)<;>first|(exfalso;omega)|(conv=>whnf))|(refine SnR.e1 rfl ?_;conv=>whnf)|(refine AKM.x ?_;conv=>whnf)|(refine CallP.go (t1 _) ?_;conv=>whnf)))
  exact FinP.go rfl (cl_agg3 false [] [1])
 have s1:sgn (zv n1 a)≠0:=by unfold sgn;split<;>(try split)<;>omega
 by_cases h2:zv n2 b=0
 ·rw[h2,Rat.divInt_zero,←agg_zeroQ]
  rw[h2,←sgn_zero rfl]at t2
  generalize sgn (zv n1 a)=sg at *
  refine Ev.x N.ref03_reduce rfl rfl ?_
  (repeat' (first|(refine CmpP.go (fun hc => ?_) (fun hc => ?_)<;>first|(exfalso;omega)|(conv=>whnf))|(refine SnR.e1 rfl ?_;conv=>whnf)|(refine AKM.x ?_;conv=>whnf)|(refine CallP.go (t1 _) ?_;conv=>whnf)|(refine CallP.go (t2 _) ?_;conv=>whnf)))
  exact FinP.go rfl (cl_agg3 false [] [1])
 have s2:sgn (zv n2 b)≠0:=by unfold sgn;split<;>(try split)<;>omega
 obtain ⟨p1,p2⟩:=divInt_parts (x:=zv n1 a) h2
 have hG:=fun q q'=>ev_r2_Gcd N n1 n2 q q' a b (ha.le (by omega)) (hb.le (by omega))
 have hle:Nat.gcd (val a) (val b)≤val b:=Nat.gcd_le_right _ (by have:=zv_abs n2 b;omega)
 have hgp:0<Nat.gcd (val a) (val b):=Nat.gcd_pos_of_pos_right _ (by have:=zv_abs n2 b;omega)
 have sg:Sm 274877906943 (dg (Nat.gcd (val a) (val b))):=hb.low hle
 rw[zv_abs,zv_abs]at p1 p2
 have hgf:decide (((Nat.gcd (val a) (val b):Nat):Int)<0)=false:=by simp
 have sg':Sm 274877906943 (dg (((Nat.gcd (val a) (val b):Nat):Int)).natAbs):=by rw[Int.natAbs_natCast];exact sg
 have zg:zv (decide (((Nat.gcd (val a) (val b):Nat):Int)<0)) (dg (((Nat.gcd (val a) (val b):Nat):Int)).natAbs)=((Nat.gcd (val a) (val b):Nat):Int):=zv_of _
 have hD1:=fun q q'=>ev_r2_Div N n1 _ q q' a _ ha sg' (by rw[zg];omega)
 have hD2:=fun q q'=>ev_r2_Div N n2 _ q q' b _ hb sg' (by rw[zg];omega)
 rw[zg]at hD1 hD2
 have hnb:Sm 274877906943 (dg (zv n1 a/((Nat.gcd (val a) (val b):Nat):Int)).natAbs):=ha.low (by
  have:(zv n1 a/((Nat.gcd (val a) (val b):Nat):Int)).natAbs≤(zv n1 a).natAbs:=Int.natAbs_ediv_le_natAbs _ _
  rw[zv_abs]at this;exact this)
 have hg0:0<((Nat.gcd (val a) (val b):Nat):Int):=by omega
 generalize ((Nat.gcd (val a) (val b):Nat):Int)=g at *
 generalize zv n1 a=x at *
 generalize zv n2 b=y at *
 generalize sgn x=sx at *
 generalize sgn y=sy at *
 have hN:=fun q=>ev_r2_Neg N (decide (x/g<0)) q (dg (x/g).natAbs) (hnb.le (by omega))
 rw[zv_of]at hN
 have hyd:decide (y/g<0)=decide (y<0):=by
  congr 1
  rw[eq_iff_iff,Int.ediv_lt_iff_lt_mul (by omega),Int.zero_mul]
 refine Ev.x N.ref03_reduce rfl rfl ?_
 (repeat' (first|(refine CmpP.go (fun hc => ?_) (fun hc => ?_)<;>first|(exfalso;omega)|(conv=>whnf))|(refine AKM.x ?_;conv=>whnf)|(refine CallP.go (t1 _) ?_;conv=>whnf)|(refine CallP.go (t2 _) ?_;conv=>whnf)|(refine CallP.go (hG _ _) ?_;conv=>whnf)|(refine CallP.go (hD1 _ _) ?_;conv=>whnf)|(refine CallP.go (hD2 _ _) ?_;conv=>whnf)))
 cases hyn:decide (y/g<0)
 ·rw[hyn]at hyd
  rw[if_neg (of_decide_eq_false hyd.symm)]at p1
  (conv=>whnf)
  skip
  refine FinP.go ?_ (cl_eQ _)
  show _=AV.agg (rQ _ _ _ _ _)
  rw[p1,p2]
 ·rw[hyn]at hyd
  rw[if_pos (of_decide_eq_true hyd.symm)]at p1
  (conv=>whnf)
  (repeat' (refine CallP.go (hN _) ?_;conv=>whnf))
  refine FinP.go ?_ (cl_eQ _)
  show _=AV.agg (rQ _ _ _ _ _)
  rw[p1,p2]
def PtIs (n:Bool) (m d:List Nat) (n':Bool) (m' d':List Nat) (k:Nat):Prop:=Sm k m'∧Sm k d'∧val d'≠0∧qv n m d=mkRat (zv n' m') (val d')
theorem cl_parts3 (n:Bool) (m d:List Nat):Clean (.tup [.agg (rZ false n m),.agg (rZ false false d)]):=by
 simp only[Clean,CleanL,and_true,true_and]
 exact ⟨cl_dig _,cl_dig _⟩
theorem ev_parts (N:RefGLib L) (n q:Bool) (m d:List Nat) (k:Nat) (hk:1≤k∧k≤274877906943) (hm:Sm k m) (hd:Sm k d) : ∃ n' m' d',Ev L 122 [.agg (rQ false q n m d)] (.tup [.agg (rZ false n' m'),.agg (rZ false false d')])∧PtIs n m d n' m' d' k:=by
 have t1:=fun q=>ev_r1_Trim N d q hd.1 (by have:=hd.2;omega)
 have hl:=dg_len0 (val d)
 by_cases h0:val d=0
 ·refine ⟨false,[],[1],?_,sm_nil _,sm_one hk.1 (by omega),by decide,by unfold qv;rw[h0,Rat.mkRat_zero,zv_nil,Rat.zero_mkRat]⟩
  refine Ev.x N.ref03_parts rfl rfl ?_
  (repeat' (first|(refine CmpP.go (fun hc => ?_) (fun hc => ?_)<;>first|(exfalso;omega)|(conv=>whnf))|(refine LenP.go ?_;conv=>whnf)|(refine SnR.e1 rfl ?_;conv=>whnf)|(refine AKM.x ?_;conv=>whnf)|(refine CallP.go (t1 _) ?_;conv=>whnf)))
  exact FinP.go rfl (cl_parts3 false [] [1])
 ·refine ⟨n,m,dg (val d),?_,hm,hd.nrm,by rw[val_dg];exact h0,by rw[val_dg];rfl⟩
  refine Ev.x N.ref03_parts rfl rfl ?_
  (repeat' (first|(refine CmpP.go (fun hc => ?_) (fun hc => ?_)<;>first|(exfalso;omega)|(conv=>whnf))|(refine LenP.go ?_;conv=>whnf)|(refine AKM.x ?_;conv=>whnf)|(refine CallP.go (t1 _) ?_;conv=>whnf)))
  exact FinP.go rfl (cl_parts3 _ _ _)
theorem agg_whole' (z:Int):AV.agg [.bool (decide (z<0)),.sl false ((dg z.natAbs).map e32),.sl false [[.int .u32 1]]] = .agg (eQ (z:Rat)):=by
 show _=AV.agg (rQ _ _ _ _ _)
 rw[Rat.num_intCast,Rat.den_intCast,dg_one'];rfl
theorem ev_r3_Of (N:RefGLib L) (z:Int) (hz : -9223372036854775808≤z∧z≤9223372036854775807):Ev L 124 [.int .i64 z] (.agg (eQ (z:Rat))):=by
 have h1:=ev_r2_Of N z hz
 refine Ev.x N.ref03_Of rfl rfl ?_
 (repeat' (first|(refine SnR.e1 rfl ?_;conv=>whnf)|(refine AKM.x ?_;conv=>whnf)|(refine CallP.go (h1) ?_;conv=>whnf)))
 exact FinP.go (agg_whole' z) (cl_eQ _)
theorem sm_zmul' {k l:Nat} {n1 n2:Bool} {a b:List Nat} (ha:Sm k a) (hb:Sm l b):Sm (k+l) (dg (zv n1 a*zv n2 b).natAbs):=ha.mul hb (by rw[Int.natAbs_mul,zv_abs,zv_abs])
theorem sm_zadd' {k:Nat} {x y:Int} (ha:Sm k (dg x.natAbs)) (hb:Sm k (dg y.natAbs)):Sm (k+1) (dg (x+y).natAbs):=ha.add hb (by rw[val_dg,val_dg];omega)
theorem ev_r3_Add (N:RefGLib L) (k:Nat) (hk:1≤k∧k≤68719476736) (n1 n2 q2 q4:Bool) (m1 d1 m2 d2:List Nat) (hm1:Sm k m1) (hd1:Sm k d1) (hm2:Sm k m2) (hd2:Sm k d2) :
  Ev L 126 [.agg (rQ false q2 n1 m1 d1),.agg (rQ false q4 n2 m2 d2)] (.agg (eQ (qv n1 m1 d1+qv n2 m2 d2))):=by
 obtain ⟨a1,a2,a3,hr1,s1,s2,s3,s5⟩:=ev_parts N n1 q2 m1 d1 k (by omega) hm1 hd1
 obtain ⟨b1,b2,b3,hr2,t1,t2,t3,t5⟩:=ev_parts N n2 q4 m2 d2 k (by omega) hm2 hd2
 have l1:=s1.2
 have l2:=s2.2
 have l3:=t1.2
 have l4:=t2.2
 rw[s5,t5,mk_add s3 t3,←zv_F b3,←zv_F a3]
 have hM1:=fun q q'=>ev_r2_Mul N a1 false q q' a2 b3 s1.1 t2.1 (by omega)
 have hM2:=fun q q'=>ev_r2_Mul N b1 false q q' b2 a3 t1.1 s2.1 (by omega)
 have hM3:=fun q q'=>ev_r2_Mul N false false q q' a3 b3 s2.1 t2.1 (by omega)
 have g1:Sm (k+k) (dg (zv a1 a2*zv false b3).natAbs):=sm_zmul' s1 t2
 have g2:Sm (k+k) (dg (zv b1 b2*zv false a3).natAbs):=sm_zmul' t1 s2
 have g3:=sm_zadd' g1 g2
 have g4:Sm (k+k) (dg (zv false a3*zv false b3).natAbs):=sm_zmul' s2 t2
 have hA:=fun q q'=>ev_r2_Add N (decide (zv a1 a2*zv false b3<0)) (decide (zv b1 b2*zv false a3<0)) q q' _ _ (g1.le (by omega)) (g2.le (by omega))
 rw[zv_of,zv_of]at hA
 have hR:=fun q q'=>ev_reduce N (decide (zv a1 a2*zv false b3+zv b1 b2*zv false a3<0)) (decide (zv false a3*zv false b3<0)) q q' _ _ (g3.le (by omega)) (g4.le (by omega))
 rw[zv_of,zv_of,show zv false a3*zv false b3=((val a3*val b3:Nat):Int) by rw[zv_F,zv_F];simp,Rat.divInt_ofNat]at hR
 rw[show zv false a3*zv false b3=((val a3*val b3:Nat):Int) by rw[zv_F,zv_F];simp]at hM3
 refine Ev.x N.ref03_Add rfl rfl ?_
 (repeat' (first|(refine AKM.x ?_;conv=>whnf)|(refine CallP.go (hr1) ?_;conv=>whnf)|(refine CallP.go (hr2) ?_;conv=>whnf)|(refine CallP.go (hM1 _ _) ?_;conv=>whnf)|(refine CallP.go (hM2 _ _) ?_;conv=>whnf)|(refine CallP.go (hA _ _) ?_;conv=>whnf)|(refine CallP.go (hM3 _ _) ?_;conv=>whnf)|(refine CallP.go (hR _ _) ?_;conv=>whnf)))
 exact FinP.go rfl (cl_eQ _)
theorem mk_cmp {a b:Int} {d e:Nat} (hd:d≠0) (he:e≠0):sgn (a*e-b*d)=sgn (mkRat a d-mkRat b e).num:=by
 have h:mkRat a d-mkRat b e=mkRat (a*e-b*d) (d*e):=by
  rw[Rat.sub_eq_add_neg,Rat.neg_mkRat,mk_add hd he,Int.neg_mul,←Int.sub_eq_add_neg]
 rw[h,mk_sgn (Nat.mul_ne_zero hd he)]
theorem ev_r3_Compare (N:RefGLib L) (k:Nat) (hk:1≤k∧k≤68719476736) (n1 n2 q2 q4:Bool) (m1 d1 m2 d2:List Nat) (hm1:Sm k m1) (hd1:Sm k d1) (hm2:Sm k m2) (hd2:Sm k d2) :
  Ev L 127 [.agg (rQ false q2 n1 m1 d1),.agg (rQ false q4 n2 m2 d2)] (.int .i64 (sgn (qv n1 m1 d1-qv n2 m2 d2).num)):=by
 obtain ⟨a1,a2,a3,hr1,s1,s2,s3,s5⟩:=ev_parts N n1 q2 m1 d1 k (by omega) hm1 hd1
 obtain ⟨b1,b2,b3,hr2,t1,t2,t3,t5⟩:=ev_parts N n2 q4 m2 d2 k (by omega) hm2 hd2
 have l1:=s1.2
 have l2:=s2.2
 have l3:=t1.2
 have l4:=t2.2
 rw[s5,t5,←mk_cmp s3 t3,←zv_F b3,←zv_F a3]
 have hM1:=fun q q'=>ev_r2_Mul N a1 false q q' a2 b3 s1.1 t2.1 (by omega)
 have hM2:=fun q q'=>ev_r2_Mul N b1 false q q' b2 a3 t1.1 s2.1 (by omega)
 have g1:Sm (k+k) (dg (zv a1 a2*zv false b3).natAbs):=sm_zmul' s1 t2
 have g2:Sm (k+k) (dg (zv b1 b2*zv false a3).natAbs):=sm_zmul' t1 s2
 have hC:=fun q q'=>ev_r2_Compare N (decide (zv a1 a2*zv false b3<0)) (decide (zv b1 b2*zv false a3<0)) q q' _ _ (g1.le (by omega)) (g2.le (by omega))
 rw[zv_of,zv_of]at hC
 refine Ev.x N.ref03_Compare rfl rfl ?_
 (repeat' (first|(refine AKM.x ?_;conv=>whnf)|(refine CallP.go (hr1) ?_;conv=>whnf)|(refine CallP.go (hr2) ?_;conv=>whnf)|(refine CallP.go (hM1 _ _) ?_;conv=>whnf)|(refine CallP.go (hM2 _ _) ?_;conv=>whnf)|(refine CallP.go (hC _ _) ?_;conv=>whnf)))
 exact FinP.i rfl
end Go.Eng
