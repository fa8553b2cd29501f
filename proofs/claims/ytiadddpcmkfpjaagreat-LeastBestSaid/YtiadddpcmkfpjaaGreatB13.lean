/-
  The best polynomial on a grid (layer 14).
-/
import Derived.Test.YtiadddpcmkfpjaaGreatB12
import Derived.Test.YtiadddpcmkfpjaaGreatB4
import Derived.Test.YtiadddpcmkfpjaaGreatB11
import Derived.Test.YtiadddpcmkfpjaaGreatB5
import Derived.Test.YtiadddpcmkfpjaaGreatB10
import Derived.Test.YtiadddpcmkfpjaaGreatB9
set_option linter.unusedSimpArgs false
set_option linter.unusedVariables false
set_option linter.unnecessarySimpa false
namespace Go.Eng
open F
attribute [local irreducible] AKM CmpP Req OpP UnP ConvP RdP LdR StR MkR LenP AppR AppN CpyR RowP SnR Bds SlS CallP CalP FinP pw LdM GetM SetM PutM MkM AppM SnM FlP CallR
set_option maxHeartbeats 16000000
variable {L:Lib}
theorem pOf_at (s:Rat) : ∀ (c:List Rat) (f:Rat) (k:Nat) (z:Rat),c[k]? = some z→(pOf s c f)[k]? = some (z*(f*s^k))
 | [],_,_,_,h=>by simp at h
 | a::c,f,0,z,h=>by
  obtain rfl:a=z:=by simpa using h
  rw[pOf,Rat.pow_zero,Rat.mul_one];rfl
 | a::c,f,k+1,z,h=>by
  have:=pOf_at s c (f*s) k z (by simpa using h)
  rw[pOf,List.getElem?_cons_succ,this,Rat.pow_succ]
  congr 1
  grind
theorem six_of {n:Nat} (h:1≤n∧n≤6):n=1∨n=2∨n=3∨n=4∨n=5∨n=6:=by omega
theorem bd_lsq {n:Nat} (h:1≤n∧n≤6):6^n*100≤1000000000000∧clB (6^n*100) n n≤1000000000000∧2*KI n 100≤12800:=by
 rcases six_of h with rfl|rfl|rfl|rfl|rfl|rfl<;>decide
theorem Wh.int {k:Nat} {x:Rat} (h:Wh k x) : ∃ z:Int,x=(z:Rat):=by
 obtain ⟨z,e,_⟩:=h
 exact ⟨z,e⟩
theorem scQ_pre {M k m:Nat} {l:List Rat} (hM:1≤M) (hm:M≤2^m) (h : ∀ x∈l,Wh k ((M:Rat)*x)) (i:Nat):Bt m (scQ (l.take i)) :=
 (scQ_wh hM hm fun x hx=>h x (List.mem_of_mem_take hx)).1.bt
theorem ev_Design (N:LsqGLib L) (q:Bool) (g:List Pt) (d M ky m:Nat) (hg:GridW M ky g) (hM:1≤M) (hm:M≤2^m) (hm2:m≤100) (hky:ky≤50) (hd:d≤5) :
  (g.length<d+1→Ev L 266 [.sl q (g.map eP),.int .i64 d] (.tup [.sl false [],.agg (rQ false false false [] []),.int .i64 11])) ∧
  (d+1≤g.length → ∃ c:List Rat,c.length=d+1∧Orth g (d+1) c∧Bs 20000 c∧Ev L 266 [.sl q (g.map eP),.int .i64 d] (.tup [.sl false ((trimQ c).map eQ),.agg (eQ (errP g (trimQ c))),.int .i64 0])):=by
 have hgl:=hg.len
 have hV0:GridV 400 g:=⟨hg.len,hg.lt,hg.pos,fun p hp=>(hg.bx hp).le (by omega),fun p hp=>(Bt.of_wh hM hm (hg.wy p hp)).le (by omega),fun p hp=>(hg.bw hp).le (by omega)⟩
 have hV:=ev_gValid N q g 400 hV0 (by omega)
 constructor
 ·intro hlt
  refine Ev.x N.leastsq_Design rfl rfl ?_
  (repeat' (first|(refine CmpP.go (fun hc => ?_) (fun hc => ?_)<;>first|(exfalso;omega)|(conv=>whnf))|(refine OpP.add ?_ ?_;omega;conv=>whnf)|(refine LenP.go ?_;conv=>whnf)|(refine AKM.x ?_;conv=>whnf)|(refine CallP.go (hV) ?_;conv=>whnf)))
  exact FinP.go rfl (by simp [Clean,CleanL,CleanLL])
 ·intro hge
  obtain ⟨sx4,sym,sw4,px,pw,hS⟩:=hg.scl hM hm
  have hWG:=ev_wholeGrid N q g 400 100 hV0 (by omega) (by omega) (fun i=>(scQ_pre (M:=12) (m:=4) (k:=6) (by omega) (by decide) (fun x hx=>by
   obtain ⟨p,hp,rfl⟩:=List.mem_map.1 hx
   exact hg.wx p hp) i).le (by omega)) (fun i=>(scQ_pre hM hm (k:=ky) (fun x hx=>by
   obtain ⟨p,hp,rfl⟩:=List.mem_map.1 hx
   exact hg.wy p hp) i).le (by omega)) (fun i=>(scQ_pre (M:=12) (m:=4) (k:=7) (by omega) (by decide) (fun x hx=>by
   obtain ⟨p,hp,rfl⟩:=List.mem_map.1 hx
   exact hg.ww p hp) i).le (by omega))
  have hsl:(sGrid g).length=g.length:=by simp [sGrid]
  have hEq:=ev_equations N (sGrid g) (scQ (g.map (·.x))) (scQ (g.map (·.y))) (d+1) ky hS (by omega) (by omega) (by omega)
  have hns:=gram_ns hS.ok (n:=d+1) (by omega)
  have hgw:=gram_wh hS (by omega) (n:=d+1) (by omega)
  have hrw:=rhs_wh hS (by omega) (n:=d+1) (by omega) (k:=100) (by omega)
  obtain ⟨bd1,bd2,bd3⟩:=bd_lsq (n:=d+1) (by omega)
  have hal:=gram_len (sGrid g) (d+1)
  have haw:=gram_w (sGrid g) (d+1)
  have hbl:(rhsL (sGrid g) (d+1)).length=d+1:=by simp [rhsL]
  have hor : ∀ c:List Rat,c.length=d+1→(∀ (i:Nat) (r:List Rat) (s:Rat),(gramL (sGrid g) (d+1))[i]? = some r→(rhsL (sGrid g) (d+1))[i]? = some s→dotQ r c=s)→Orth (sGrid g) (d+1) c:=fun c hc h=>orth_of hc h
  have horth : ∀ c:List Rat,Orth (sGrid g) (d+1) c→Orth g (d+1) (pOf (scQ (g.map (·.x))) c (1/scQ (g.map (·.y)))):=fun c h=>orth_scl (fun e=>by rw[e]at px;exact absurd px (Rat.lt_irrefl)) (scQ_ne _) (fun e=>by rw[e]at pw;exact absurd pw (Rat.lt_irrefl)) h
  have hsy:=scQ_ne (g.map (·.y))
  generalize gramL (sGrid g) (d+1)=A at *
  generalize rhsL (sGrid g) (d+1)=b at *
  generalize scQ (g.map (·.x))=sx at *
  generalize scQ (g.map (·.y))=sy at *
  have hAb:Ms 100 A:=fun r hr x hx=>((hgw r hr x hx).bt).le (by omega)
  have hbb:Bs 100 b:=fun x hx=>(hrw x hx).bt
  have hjm : ∀ r∈join2 A (b.map fun x=>[x]),∀ x∈r,Wh 100 x:=fun r hr x hx=>by
   obtain ⟨i,hi⟩:=List.getElem?_of_mem hr
   have hil:=(zS hi).1
   simp only[join2,List.length_zipWith,List.length_map]at hil
   obtain ⟨u,hu⟩ : ∃ x,A[i]? = some x:=⟨_,zE (by omega)⟩
   obtain ⟨v,hv⟩ : ∃ x,b[i]? = some x:=⟨_,zE (by omega)⟩
   obtain rfl:=Option.some.inj ((join_at hu (one_at hv)).symm.trans hi)
   rcases List.mem_append.1 hx with hx|hx
   ·exact (hgw u (zM hu) x hx).le (by omega)
   ·obtain rfl:=List.mem_singleton.1 hx
    exact hrw _ (zM hv)
  obtain ⟨v,hSo,hSor⟩:=ev_SolveK N.toMatGLib false false false A b (d+1) 100 100 hal haw hbl (by omega) (Nat.le_refl _) (by omega) hAb hbb (fun r hr j=>by
   rw[scQ_int fun x hx=>(hjm r hr x (List.mem_of_mem_take hx)).int]
   exact Bt.one _) (by
   rw[whole_int fun r hr x hx=>(hjm r hr x hx).int]
   exact fun r hr x hx=>(hjm r hr x hx).bt) bd1 bd2 (Nat.le_refl _)
  rcases hSor with ⟨h,_⟩|⟨_,c,rfl,hcl,_,hcs⟩
  ·exact absurd hns h
  have hcb:Bs 12800 c:=fun x hx=>(sol_small hal haw hbl (fun r hr x hx=>(hgw r hr x hx).le (by omega)) hrw hns hcl hcs x hx).le bd3
  have ho:=horth c (hor c hcl hcs)
  have hPl:=pOf_len sx c (1/sy)
  have hPat:=pOf_at sx c (1/sy)
  have hfb : ∀ k,k≤6→Bt 200 (1/sy*sx^k):=fun k hk=>by
   have h1:Bt (0+m) (1/sy):=(Bt.one 0).divL sym.bt
   have h2:=(sx4.pow k).bt
   exact (h1.mul h2).le (by omega)
  have hPb:Bs 20000 (pOf sx c (1/sy)):=fun x hx=>by
   obtain ⟨k,hk⟩:=List.getElem?_of_mem hx
   have hkl:=(zS hk).1
   obtain ⟨z,hz⟩ : ∃ z,c[k]? = some z:=⟨_,zE (by omega)⟩
   obtain rfl:=Option.some.inj ((hPat k z hz).symm.trans hk)
   exact ((hcb.at hz).mul (hfb k (by omega))).le (by omega)
  refine ⟨pOf sx c (1/sy),by omega,ho,hPb,?_⟩
  have hTr:=fun q=>ev_pTrim N.toPolyGLib q (pOf sx c (1/sy)) 20000 hPb (by omega) (by omega)
  have hEr:=fun q2=>ev_gError N q q2 g (trimQ (pOf sx c (1/sy))) 400 20000 hV0 (by omega) (trimQ_idem _) (by rw[trimQ_len];have:=cutN_le (pOf sx c (1/sy)) (pOf sx c (1/sy)).length;omega) hPb.trim (by omega)
  have hI:=ev_rational_Of N.toRatGLib 1 (by omega)
  have hDv:=ev_divQ N.toRatGLib (Bt.one 1) sym.bt (by omega) (by omega) hsy
  have hf0:(1:Rat)/sy=1/sy*sx^0:=by rw[Rat.pow_zero,Rat.mul_one]
  generalize pOf sx c (1/sy)=P at *
  rw[Int.natCast_add]at hEq
  refine Ev.x N.leastsq_Design rfl rfl ?_
  (repeat' (first|(refine CmpP.go (fun hc => ?_) (fun hc => ?_)<;>first|(exfalso;omega)|(conv=>whnf))|(refine OpP.add ?_ ?_;omega;conv=>whnf)|(refine LenP.go ?_;conv=>whnf)|(refine AKM.x ?_;conv=>whnf)|(refine CallP.go (hV) ?_;conv=>whnf)|(refine CallP.go (hWG) ?_;conv=>whnf)|(refine CallP.go (hEq) ?_;conv=>whnf)|(refine CallP.go (hSo) ?_;conv=>whnf)))
  refine MkR.go (enc:=eO) none (d+1) rfl (by omega) (by omega) ?_
  (conv=>whnf)
  (repeat' (first|(refine OpP.add ?_ ?_;omega;conv=>whnf)|(refine CallP.go (hI) ?_;conv=>whnf)|(refine CallP.go (hDv) ?_;conv=>whnf)))
  rw[hf0]
  refine AKM.loop1 (fun k=>d+1-k) (fun (k:Nat)=>k≤d+1) (fun k=>[(66,.int .i64 k)]) (fun k=>[(56,56,.rw 3 ((fillO (P.take k) (d+1)).map eO)),(13,13,.bx (eQ (1/sy*sx^k)))]) [] [] 0 (by first|exact (by (conv=>whnf);exact ⟨rfl,rfl,rfl⟩)|(rw[List.take_zero,←fillO_nil];exact (by (conv=>whnf);exact ⟨rfl,rfl,rfl⟩))) (by omega) ?_
  intro k k1 kh
  have hlf:=fillO_len (l:=P.take k) (m:=d+1) (by rw[List.length_take];omega)
  by_cases hk:k<d+1
  ·obtain ⟨z,hz⟩ : ∃ z,c[k]? = some z:=⟨_,zE (by omega)⟩
   have hz':c[(k:Int).toNat]? = some z:=hz
   have hPk:=hPat k z hz
   have hfk:=hfb k (by omega)
   have hM1:=ev_mulQ N.toRatGLib (hcb.at hz) hfk (by omega) (by omega)
   have hM2:=ev_mulQ N.toRatGLib hfk sx4.bt (by omega) (by omega)
   have hst:=fillO_set (l:=P.take k) (m:=d+1) (x:=z*(1/sy*sx^k)) (by rw[List.length_take];omega)
   rw[List.length_take,Nat.min_eq_left (by omega),←take_snoc' hPk]at hst
   rw[show 1/sy*sx^k*sx=1/sy*sx^(k+1) by rw[Rat.pow_succ,Rat.mul_assoc]]at hM2
   generalize fillO (P.take k) (d+1)=F0 at *
   generalize hf1:1/sy*sx^(k+1)=f1 at hM2
   generalize 1/sy*sx^k=f0 at *
   generalize z*f0=zf at *
   (repeat' (first|(refine CmpP.go (fun hc => ?_) (fun hc => ?_)<;>first|(exfalso;omega)|(conv=>whnf))|(refine Req.go ?_ ?_;omega;conv=>whnf)|(refine RdP.at (by assumption) ?_ rfl ?_;omega;conv=>whnf)|(refine AKM.x ?_;conv=>whnf)|(refine CallP.go (hM1) ?_;conv=>whnf)))
   refine StR.nat (enc:=eO) (some zf) rfl (fun e=>by cases e<;>rfl) (by omega) ?_
   (conv=>whnf)
   rw[hst]
   (repeat' (first|(refine OpP.add ?_ ?_;omega;conv=>whnf)|(refine CallP.go (hM2) ?_;conv=>whnf)))
   subst hf1
   exact AKM.back [] (by (conv=>whnf);exact ⟨rfl,rfl,rfl⟩) (kh (k+1) (by omega) (by omega))
  have ek:k=d+1:=by omega
  clear kh
  have hPl2:P.length=d+1:=by omega
  rw[ek,List.take_of_length_le (by omega),fillO_full hPl2]
  (repeat' (first|(refine CmpP.go (fun hc => ?_) (fun hc => ?_)<;>first|(exfalso;omega)|(conv=>whnf))|(refine AKM.x ?_;conv=>whnf)))
  refine SnR.all (enc:=eQ) (fun _=>rfl) rfl (by omega) ?_
  (conv=>whnf)
  (repeat' (first|(refine CallP.go (hTr _) ?_;conv=>whnf)|(refine CallP.go (hEr _) ?_;conv=>whnf)))
  exact FinP.go rfl (by
   simp only[Clean,CleanL,and_true,true_and]
   exact ⟨cl_eQs _,⟨cl_dig _,cl_dig _⟩⟩)
end Go.Eng
namespace Go.Eng
open F
attribute [local irreducible] AKM CmpP Req OpP UnP ConvP RdP LdR StR MkR LenP AppR AppN CpyR RowP SnR Bds SlS CallP CalP FinP pw LdM GetM SetM PutM MkM AppM SnM FlP CallR
set_option maxHeartbeats 16000000
variable {L:Lib}
theorem ev_r3_Less (N:R05HLib L) {x y:Rat} {k l:Nat} (hx:Bt k x) (hy:Bt l y) (hk:k<2199023255552) (hl:l<2199023255552) (h:x<y):Ev L 268 [.agg (eQ x),.agg (eQ y)] (.bool true):=by
 have hC:=ev_cmp3 N.toRefGLib hx hy hk hl
 have hs:sgn (x-y).num<0:=by
  have h1:x-y<0:=by grind
  have h2:(x-y).num<0:=by
   rcases Int.lt_or_le (x-y).num 0 with h|h
   ·exact h
   ·have h3:=Rat.num_nonneg.1 h
    grind
  unfold sgn
  rw[if_pos h2];decide
 generalize sgn (x-y).num=s at *
 refine Ev.x N.ref03_Less rfl rfl ?_
 (repeat' (first|(refine CmpP.go (fun hc => ?_) (fun hc => ?_)<;>first|(exfalso;omega)|(conv=>whnf))|(refine AKM.x ?_;conv=>whnf)|(refine CallP.go (hC) ?_;conv=>whnf)))
 exact FinP.b rfl
theorem addG_at {p r:List Rat} {i:Nat} (h:i<max p.length r.length):(addG p r)[i]? = some (p.getD i 0+r.getD i 0):=by
 simp [addG,h]
theorem addG_len (p r:List Rat):(addG p r).length=max p.length r.length:=by simp [addG]
theorem ev_r5_AddG (N:TrGLib L) (q1 q2:Bool) (p r:List Rat) (k j:Nat) (hp:Bs k p) (hr:Bs j r) (hk:k+j+1<2199023255552) (hn:p.length≤1000) (hm:r.length≤1000):Ev L 193 [.sl q1 (p.map eQ),.sl q2 (r.map eQ)] (.sl false ((trimQ (addG p r)).map eQ)):=by
 have hml:=addG_len p r
 have hmb:Bs (k+j+1) (addG p r):=by
  intro z hz
  obtain ⟨i,hi⟩:=List.getElem?_of_mem hz
  have h1:=(zS hi).1
  rw[hml]at h1
  rw[addG_at h1]at hi
  obtain rfl:=Option.some.inj hi
  exact (getD_bt hp i).add (getD_bt hr i)
 have hTr:=fun q=>ev_r5_Trim N.toR05GLib q (addG p r) (k+j+1) hmb hk (by omega)
 have hat:=fun i (h:i<max p.length r.length)=>addG_at h
 generalize addG p r=W at *
 refine Ev.x N.ref05_Add rfl rfl ?_
 (repeat' (refine AKM.x ?_;conv=>whnf))
 refine AKM.loop1 (fun i=>max p.length r.length-i) (fun (i:Nat)=>i≤max p.length r.length) (fun i=>[(6,.int .i64 i),(5,.row 5 0 3 0 i)]) (fun i=>[(5,5,.rw 3 ((W.take i).map eQ))]) [] [] 0 (by (conv=>whnf);exact ⟨rfl,rfl,rfl⟩) (by omega) ?_
 intro i g1 ih
 have hti:(W.take i).length=i:=by rw[List.length_take];omega
 have hAp:=fun q=>ev_r5_At N q p i k hp (by omega) (by omega)
 have hAr:=fun q=>ev_r5_At N q r i j hr (by omega) (by omega)
 by_cases hi:i<max p.length r.length
 ·have hA:=ev_add3 N.toRefGLib (getD_bt hp i) (getD_bt hr i) (by omega) (by omega)
  have hsn:=take_snocQ (hat i hi)
  have hti1:(W.take (i+1)).length=i+1:=by rw[List.length_take];omega
  generalize p.getD i 0=x at *
  generalize r.getD i 0=y at *
  generalize W.take i=W0 at *
  by_cases h2:i<p.length
  ·(repeat' (first|(refine CmpP.go (fun hc => ?_) (fun hc => ?_)<;>first|(exfalso;omega)|(conv=>whnf))|(refine LenP.go ?_;conv=>whnf)|(refine RowP.e1 ?_;conv=>whnf)|(refine AKM.x ?_;conv=>whnf)|(refine CallP.go (hAp _) ?_;conv=>whnf)|(refine CallP.go (hAr _) ?_;conv=>whnf)|(refine CallP.go (hA) ?_;conv=>whnf)))
   refine AppR.one (enc:=eQ) (x+y) rfl hti.symm rfl (by omega) (by omega) ?_
   rw[←hsn,hti1]
   (conv=>whnf)
   (repeat' (refine OpP.add ?_ ?_;omega;conv=>whnf))
   exact AKM.back [(5,28)] (by (conv=>whnf);exact ⟨rfl,rfl,rfl⟩) (ih (i+1) (by omega) (by omega))
  ·(repeat' (first|(refine CmpP.go (fun hc => ?_) (fun hc => ?_)<;>first|(exfalso;omega)|(conv=>whnf))|(refine LenP.go ?_;conv=>whnf)|(refine RowP.e1 ?_;conv=>whnf)|(refine AKM.x ?_;conv=>whnf)|(refine CallP.go (hAp _) ?_;conv=>whnf)|(refine CallP.go (hAr _) ?_;conv=>whnf)|(refine CallP.go (hA) ?_;conv=>whnf)))
   refine AppR.one (enc:=eQ) (x+y) rfl hti.symm rfl (by omega) (by omega) ?_
   rw[←hsn,hti1]
   (conv=>whnf)
   (repeat' (refine OpP.add ?_ ?_;omega;conv=>whnf))
   exact AKM.back [(5,28)] (by (conv=>whnf);exact ⟨rfl,rfl,rfl⟩) (ih (i+1) (by omega) (by omega))
 ·clear ih
  rw[List.take_of_length_le (by omega)]at hti ⊢
  (repeat' (first|(refine CmpP.go (fun hc => ?_) (fun hc => ?_)<;>first|(exfalso;omega)|(conv=>whnf))|(refine LenP.go ?_;conv=>whnf)|(refine AKM.x ?_;conv=>whnf)))
  refine SnR.all (enc:=eQ) (fun _=>rfl) rfl hti.symm ?_
  (conv=>whnf)
  (repeat' (refine CallP.go (hTr _) ?_;conv=>whnf))
  exact FinP.go rfl (by simp only[Clean,true_and];exact cl_eQs _)
end Go.Eng

namespace Go.Eng
open F
attribute [local irreducible] AKM CmpP Req OpP UnP ConvP RdP LdR StR MkR LenP AppR AppN CpyR RowP SnR Bds SlS CallP CalP FinP pw LdM GetM SetM PutM MkM AppM SnM FlP CallR
set_option maxHeartbeats 16000000
variable {L:Lib}
def gA:List Pt:=[⟨((0:Int):Rat),((0:Int):Rat),((1:Int):Rat)⟩,⟨((1:Int):Rat),((2:Int):Rat),((1:Int):Rat)⟩]
theorem wh_nat {M:Nat} {k:Nat} (z:Int) (h:((M:Int)*z).natAbs≤2^k):Wh k ((M:Rat)*(z:Rat)):=⟨(M:Int)*z,by rw[Rat.intCast_mul,Rat.intCast_natCast],h⟩
theorem gA_ok:GridW 840 14 gA:=by
 have all : ∀ {P:Pt→Prop},P ⟨((0:Int):Rat),((0:Int):Rat),((1:Int):Rat)⟩→P ⟨((1:Int):Rat),((2:Int):Rat),((1:Int):Rat)⟩ → ∀ p∈gA,P p:=fun h1 h2 p hp=>by
  simp only[gA,List.mem_cons,List.not_mem_nil,or_false]at hp
  rcases hp with rfl|rfl
  ·exact h1
  ·exact h2
 refine ⟨by simp [gA],?_,all ?_ ?_,all (wh_nat 0 (by decide)) (wh_nat 1 (by decide)),all (wh_nat 1 (by decide)) (wh_nat 1 (by decide)),all (wh_nat 0 (by decide)) (wh_nat 2 (by decide))⟩
 ·simp only[gA,List.map_cons,List.map_nil,List.pairwise_cons,List.mem_singleton,List.Pairwise.nil,and_true,List.not_mem_nil,false_implies,implies_true]
  rintro _ rfl
  exact Rat.intCast_lt_intCast.2 (by decide)
 ·exact Rat.intCast_pos.2 (by decide)
 ·exact Rat.intCast_pos.2 (by decide)
theorem two14 {α:Type} {l:List α} (h:l.length=2) : ∃ a b,l=[a,b]:=by
 match l,h with
 | [a,b],_=>exact ⟨a,b,rfl⟩
theorem bt14 {z:Int} (h:z.natAbs≤8):Bt 3 (z:Rat):=Bt.ofInt h
theorem one_of {α:Type} {l:List α} (h:l.length=1) : ∃ a,l=[a]:=by
 match l,h with
 | [a],_=>exact ⟨a,rfl⟩
theorem trim_ne {p:List Rat} {x:Rat} (h:x≠0):trimQ (p++[x])=p++[x]:=by
 have hc:cutN (p++[x]) (p++[x]).length=(p++[x]).length:=by
  rw[List.length_append,List.length_singleton,cutN,if_neg]
  rw[List.getD_eq_getElem?_getD,List.getElem?_append_right (Nat.le_refl _),Nat.sub_self]
  exact h
 rw[trimQ,hc,List.take_length]
theorem des0 (N:LsqGLib L) (q:Bool):Ev L 266 [.sl q (gA.map eP),.int .i64 0] (.tup [.sl false ([((1:Int):Rat)].map eQ),.agg (eQ ((2:Int):Rat)),.int .i64 0]):=by
 obtain ⟨c,h1,h2,_,h3⟩:=(ev_Design N q gA 0 840 14 10 gA_ok (by omega) (by decide) (by omega) (by omega) (by omega)).2 (by simp [gA])
 obtain ⟨a,rfl⟩:=one_of h1
 have e0:=h2 0 (by omega)
 simp only[gA,sumP_cons,evQ,Rat.pow_zero]at e0
 have ha:a=((1:Int):Rat):=by
  simp only[sumP,List.foldl_nil]at e0
  grind
 subst ha
 have ht:trimQ [((1:Int):Rat)]=[((1:Int):Rat)]:=trim_ne (p:=[]) (by decide)
 have he:errP gA [((1:Int):Rat)]=((2:Int):Rat):=by
  simp only[errP,gA,sumP_cons,evQ,sumP,List.foldl_nil]
  grind
 rw[ht,he]at h3
 exact h3
theorem des1 (N:LsqGLib L) (q:Bool):Ev L 266 [.sl q (gA.map eP),.int .i64 1] (.tup [.sl false ([((0:Int):Rat),((2:Int):Rat)].map eQ),.agg (eQ ((0:Int):Rat)),.int .i64 0]):=by
 obtain ⟨c,h1,h2,_,h3⟩:=(ev_Design N q gA 1 840 14 10 gA_ok (by omega) (by decide) (by omega) (by omega) (by omega)).2 (by simp [gA])
 obtain ⟨a,b,rfl⟩:=two14 h1
 have e0:=h2 0 (by omega)
 have e1:=h2 1 (by omega)
 simp only[gA,sumP_cons,evQ,Rat.pow_zero]at e0
 simp only[gA,sumP_cons,evQ,show ∀ x:Rat,x^1=x from fun x=>by rw[Rat.pow_succ,Rat.pow_zero,Rat.one_mul]]at e1
 simp only[sumP,List.foldl_nil]at e0 e1
 have ha:a=((0:Int):Rat):=by grind
 have hb:b=((2:Int):Rat):=by grind
 subst ha hb
 have ht:trimQ [((0:Int):Rat),((2:Int):Rat)]=[((0:Int):Rat),((2:Int):Rat)]:=trim_ne (p:=[((0:Int):Rat)]) (by decide)
 have he:errP gA [((0:Int):Rat),((2:Int):Rat)]=((0:Int):Rat):=by
  simp only[errP,gA,sumP_cons,evQ,sumP,List.foldl_nil]
  grind
 rw[ht,he]at h3
 exact h3
theorem des2 (N:LsqGLib L) (q:Bool):Ev L 266 [.sl q (gA.map eP),.int .i64 2] (.tup [.sl false [],.agg (rQ false false false [] []),.int .i64 11]) :=
 (ev_Design N q gA 2 840 14 10 gA_ok (by omega) (by decide) (by omega) (by omega) (by omega)).1 (by simp [gA])
theorem ev_awake14 (N:LawLLib L):Ev L 269 [] (.bool true):=by
 have hO:=fun (z:Int) (h : -9223372036854775808≤z∧z≤9223372036854775807)=>ev_r3_Of N.toRefGLib z h
 have h0:=fun q=>des0 N.toLsqGLib q
 have h1:=fun q=>des1 N.toLsqGLib q
 have h2:=fun q=>des2 N.toLsqGLib q
 have hE1:=fun q1 q2=>ev_r5_Equal N.toR05GLib q1 q2 [((1:Int):Rat)] 3 (fun x hx=>by
  obtain rfl:=List.mem_singleton.1 hx
  exact bt14 (by decide)) (by omega) (by simp)
 have hE2:=fun q1 q2=>ev_r5_Equal N.toR05GLib q1 q2 [((0:Int):Rat),((2:Int):Rat)] 3 (fun x hx=>by
  simp only[List.mem_cons,List.not_mem_nil,or_false]at hx
  rcases hx with rfl|rfl
  ·exact bt14 (by decide)
  ·exact bt14 (by decide)) (by omega) (by simp)
 have hS2:=ev_r3_Same N.toRefHLib (bt14 (z:=2) (by decide)) (by omega)
 have hS0:=ev_r3_Same N.toRefHLib (bt14 (z:=0) (by decide)) (by omega)
 have hV:=fun q=>ev_gValid N.toLsqGLib q gA 400 ⟨gA_ok.len,gA_ok.lt,gA_ok.pos,fun p hp=>(gA_ok.bx hp).le (by omega),fun p hp=>(Bt.of_wh (m:=10) (by omega) (by decide) (gA_ok.wy p hp)).le (by omega),fun p hp=>(gA_ok.bw hp).le (by omega)⟩ (by omega)
 refine Ev.x N.law14_awake rfl rfl ?_
 (repeat' (first|(refine SnR.e2 rfl rfl ?_;conv=>whnf)|(refine AKM.x ?_;conv=>whnf)|(refine CallP.go (hO 0 (by omega)) ?_;conv=>whnf)|(refine CallP.go (hO 1 (by omega)) ?_;conv=>whnf)|(refine CallP.go (hO 2 (by omega)) ?_;conv=>whnf)))
 (repeat' (first|(refine CmpP.go (fun hc => ?_) (fun hc => ?_)<;>first|(exfalso;omega)|(conv=>whnf))|(refine SnR.e2 rfl rfl ?_;conv=>whnf)|(refine CallP.go (h0 _) ?_;conv=>whnf)|(refine CallP.go (h1 _) ?_;conv=>whnf)|(refine CallP.go (h2 _) ?_;conv=>whnf)))
 (repeat' (first|(refine SnR.e1 rfl ?_;conv=>whnf)|(refine SnR.e2 rfl rfl ?_;conv=>whnf)|(refine CallP.go (hE1 _ _) ?_;conv=>whnf)|(refine CallP.go (hE2 _ _) ?_;conv=>whnf)|(refine CallP.go (hS2) ?_;conv=>whnf)|(refine CallP.go (hS0) ?_;conv=>whnf)|(refine CallP.go (hV _) ?_;conv=>whnf)|(refine CallP.go (hO 0 (by omega)) ?_;conv=>whnf)|(refine CallP.go (hO 1 (by omega)) ?_;conv=>whnf)|(refine CallP.go (hO 2 (by omega)) ?_;conv=>whnf)))
 exact FinP.b rfl
end Go.Eng

namespace Go.Eng
open F
attribute [local irreducible] AKM CmpP Req OpP UnP ConvP RdP LdR StR MkR LenP AppR AppN CpyR RowP SnR Bds SlS CallP CalP FinP pw LdM GetM SetM PutM MkM AppM SnM FlP CallR
set_option maxHeartbeats 8000000
variable {L:Lib}
theorem ne_at {α:Type} {a b:List α} (h:a≠b) (hl:a.length=b.length) : ∃ (i:Nat) (x y:α),a[i]? = some x∧b[i]? = some y∧x≠y:=by
 apply Classical.byContradiction
 intro hn
 apply h
 apply List.ext_getElem?
 intro i
 by_cases hi:i<a.length
 ·obtain ⟨x,hx⟩ : ∃ x,a[i]? = some x:=⟨_,zE hi⟩
  obtain ⟨y,hy⟩ : ∃ x,b[i]? = some x:=⟨_,zE (by omega)⟩
  rw[hx,hy]
  by_cases e:x=y
  ·rw[e]
  ·exact absurd ⟨i,x,y,hx,hy,e⟩ hn
 ·rw[List.getElem?_eq_none (by omega),List.getElem?_eq_none (by omega)]
theorem ev_r1_SameN (N:RefHLib L) (q1 q2:Bool) (a b:List Nat) (ha:a.length≤274877906944) (hb0:b.length≤274877906944) (hab:a≠b):Ev L 156 [.sl q1 (a.map e32),.sl q2 (b.map e32)] (.bool false):=by
 refine Ev.x N.ref01_Same rfl rfl ?_
 by_cases hlen:a.length=b.length
 ·obtain ⟨t,x,y,hx,hy,hxy⟩:=ne_at hab hlen
  have htl:=(zS hx).1
  (repeat' (first|(refine CmpP.go (fun hc => ?_) (fun hc => ?_)<;>first|(exfalso;omega)|(conv=>whnf))|(refine LenP.go ?_;conv=>whnf)|(refine AKM.x ?_;conv=>whnf)))
  refine AKM.loop1 (fun i=>t-i) (fun (i:Nat)=>i≤t) (fun i=>[(5,.int .i64 i)]) (fun _=>[]) [] [] 0 (by (conv=>whnf);exact ⟨rfl,rfl,rfl⟩) (by omega) ?_
  intro i p1 ih
  by_cases hi:i<t
  ·obtain ⟨u,hu⟩ : ∃ x,a[i]? = some x:=⟨_,zE (by omega)⟩
   obtain ⟨v,hv0⟩ : ∃ x,b[i]? = some x:=⟨_,zE (by omega)⟩
   have hu':a[(i:Int).toNat]? = some u:=hu
   have hv':b[(i:Int).toNat]? = some v:=hv0
   by_cases e:u=v
   ·subst e
    (repeat' (first|(refine CmpP.go (fun hc => ?_) (fun hc => ?_)<;>first|(exfalso;omega)|(conv=>whnf))|(refine OpP.add ?_ ?_;omega;conv=>whnf)|(refine LenP.go ?_;conv=>whnf)|(refine RdP.at (by assumption) ?_ rfl ?_;omega;conv=>whnf)|(refine AKM.x ?_;conv=>whnf)))
    exact AKM.back [] (by (conv=>whnf);exact ⟨rfl,rfl,rfl⟩) (ih (i+1) (by omega) (by omega))
   ·clear ih
    (repeat' (first|(refine CmpP.go (fun hc => ?_) (fun hc => ?_)<;>first|(exfalso;omega)|(conv=>whnf))|(refine LenP.go ?_;conv=>whnf)|(refine RdP.at (by assumption) ?_ rfl ?_;omega;conv=>whnf)|(refine AKM.x ?_;conv=>whnf)))
    exact FinP.b rfl
  ·obtain rfl:i=t:=by omega
   clear ih
   have hu':a[(i:Int).toNat]? = some x:=hx
   have hv':b[(i:Int).toNat]? = some y:=hy
   (repeat' (first|(refine CmpP.go (fun hc => ?_) (fun hc => ?_)<;>first|(exfalso;omega)|(conv=>whnf))|(refine LenP.go ?_;conv=>whnf)|(refine RdP.at (by assumption) ?_ rfl ?_;omega;conv=>whnf)|(refine AKM.x ?_;conv=>whnf)))
   exact FinP.b rfl
 ·(repeat' (first|(refine CmpP.go (fun hc => ?_) (fun hc => ?_)<;>first|(exfalso;omega)|(conv=>whnf))|(refine LenP.go ?_;conv=>whnf)|(refine AKM.x ?_;conv=>whnf)))
  exact FinP.b rfl
theorem ev_r2_SameN (N:RefHLib L) (n1 n2 q1 q2:Bool) (a b:List Nat) (ha:a.length≤274877906944) (hb0:b.length≤274877906944) (hab : ¬ (n1=n2∧a=b)):Ev L 157 [.agg (rZ q1 n1 a),.agg (rZ q2 n2 b)] (.bool false):=by
 by_cases hn:n1=n2
 ·subst hn
  have hab2:a≠b:=fun e=>hab ⟨rfl,e⟩
  have h1:=fun q1 q2=>ev_r1_SameN N q1 q2 a b ha hb0 hab2
  refine Ev.x N.ref02_Same rfl rfl ?_
  cases n1
  all_goals
   (repeat' (first|(refine AKM.x ?_;conv=>whnf)|(refine CallP.go (h1 _ _) ?_;conv=>whnf)))
   exact FinP.b rfl
 ·refine Ev.x N.ref02_Same rfl rfl ?_
  cases n1<;>cases n2
  all_goals first|exact absurd rfl hn|skip
  all_goals
   (repeat' (refine AKM.x ?_;conv=>whnf))
   exact FinP.b rfl
theorem ev_r3_SameN (N:RefHLib L) {x y:Rat} {k j:Nat} (hx:Bt k x) (hy:Bt j y) (hk:k<2199023255552) (hj:j<2199023255552) (hxy:x≠y):Ev L 158 [.agg (eQ x),.agg (eQ y)] (.bool false):=by
 have hs:=hx.sm3 hk
 have ht:=hy.sm3 hj
 have l1:=hs.1.2
 have l2:=hs.2.2
 have l3:=ht.1.2
 have l4:=ht.2.2
 by_cases hn:x.num=y.num
 ·have hd:dg x.den≠dg y.den:=fun e=>hxy (Rat.ext hn (dg_inj e))
  have h1:=fun q1 q2=>ev_r1_SameN N q1 q2 (dg x.den) (dg y.den) (by omega) (by omega) hd
  have h2:=fun q1 q2=>ev_r2_Same N (decide (x.num<0)) q1 q2 (dg x.num.natAbs) (by omega)
  rw[eQ,eQ,←hn]
  refine Ev.x N.ref03_Same rfl rfl ?_
  (repeat' (first|(refine AKM.x ?_;conv=>whnf)|(refine CallP.go (h1 _ _) ?_;conv=>whnf)|(refine CallP.go (h2 _ _) ?_;conv=>whnf)))
  exact FinP.b rfl
 ·have h2:=fun q1 q2=>ev_r2_SameN N (decide (x.num<0)) (decide (y.num<0)) q1 q2 (dg x.num.natAbs) (dg y.num.natAbs) (by omega) (by omega) (fun ⟨e1,e2⟩=>hn (by
   have e3:=dg_inj e2
   have e4:x.num<0↔y.num<0:=by simpa using e1
   omega))
  refine Ev.x N.ref03_Same rfl rfl ?_
  (repeat' (first|(refine AKM.x ?_;conv=>whnf)|(refine CallP.go (h2 _ _) ?_;conv=>whnf)))
  exact FinP.b rfl
theorem ev_SameListN (N:RefHLib L) (q1 q2:Bool) (l m:List Rat) (k:Nat) (hl:Bs k l) (hm:Bs k m) (hk:k<2199023255552) (hn:l.length≤1099511627776) (hn2:m.length≤1099511627776) (hlm:l≠m):Ev L 159 [.sl q1 (l.map eQ),.sl q2 (m.map eQ)] (.bool false):=by
 refine Ev.x N.ref03_SameList rfl rfl ?_
 by_cases hlen:l.length=m.length
 ·obtain ⟨t,x,y,hx,hy,hxy⟩:=ne_at hlm hlen
  have htl:=(zS hx).1
  have hC:=ev_r3_SameN N (hl.at hx) (hm.at hy) hk hk hxy
  (repeat' (first|(refine CmpP.go (fun hc => ?_) (fun hc => ?_)<;>first|(exfalso;omega)|(conv=>whnf))|(refine LenP.go ?_;conv=>whnf)|(refine AKM.x ?_;conv=>whnf)))
  refine AKM.loop1 (fun i=>t-i) (fun (i:Nat)=>i≤t) (fun i=>[(5,.int .i64 i)]) (fun _=>[]) [] [] 0 (by (conv=>whnf);exact ⟨rfl,rfl,rfl⟩) (by omega) ?_
  intro i p1 ih
  by_cases hi:i<t
  ·obtain ⟨u,hu⟩ : ∃ x,l[i]? = some x:=⟨_,zE (by omega)⟩
   obtain ⟨v,hv0⟩ : ∃ x,m[i]? = some x:=⟨_,zE (by omega)⟩
   have hu':l[(i:Int).toNat]? = some u:=hu
   have hv':m[(i:Int).toNat]? = some v:=hv0
   by_cases e:u=v
   ·subst e
    have hT:=ev_r3_Same N (hl.at hu) hk
    (repeat' (first|(refine CmpP.go (fun hc => ?_) (fun hc => ?_)<;>first|(exfalso;omega)|(conv=>whnf))|(refine OpP.add ?_ ?_;omega;conv=>whnf)|(refine LenP.go ?_;conv=>whnf)|(refine RdP.at (by assumption) ?_ rfl ?_;omega;conv=>whnf)|(refine AKM.x ?_;conv=>whnf)|(refine CallP.go (hT) ?_;conv=>whnf)))
    exact AKM.back [] (by (conv=>whnf);exact ⟨rfl,rfl,rfl⟩) (ih (i+1) (by omega) (by omega))
   ·clear ih
    have hF:=ev_r3_SameN N (hl.at hu) (hm.at hv0) hk hk e
    (repeat' (first|(refine CmpP.go (fun hc => ?_) (fun hc => ?_)<;>first|(exfalso;omega)|(conv=>whnf))|(refine LenP.go ?_;conv=>whnf)|(refine RdP.at (by assumption) ?_ rfl ?_;omega;conv=>whnf)|(refine AKM.x ?_;conv=>whnf)|(refine CallP.go (hF) ?_;conv=>whnf)))
    exact FinP.b rfl
  ·obtain rfl:i=t:=by omega
   clear ih
   have hu':l[(i:Int).toNat]? = some x:=hx
   have hv':m[(i:Int).toNat]? = some y:=hy
   (repeat' (first|(refine CmpP.go (fun hc => ?_) (fun hc => ?_)<;>first|(exfalso;omega)|(conv=>whnf))|(refine LenP.go ?_;conv=>whnf)|(refine RdP.at (by assumption) ?_ rfl ?_;omega;conv=>whnf)|(refine AKM.x ?_;conv=>whnf)|(refine CallP.go (hC) ?_;conv=>whnf)))
   exact FinP.b rfl
 ·(repeat' (first|(refine CmpP.go (fun hc => ?_) (fun hc => ?_)<;>first|(exfalso;omega)|(conv=>whnf))|(refine LenP.go ?_;conv=>whnf)|(refine AKM.x ?_;conv=>whnf)))
  exact FinP.b rfl
theorem ev_r5_EqualN (N:R05GLib L) (q1 q2:Bool) (l m:List Rat) (k:Nat) (hl:Bs k l) (hm:Bs k m) (hk:k<2199023255552) (hn:l.length≤1000000) (hn2:m.length≤1000000) (hlm:l≠m):Ev L 172 [.sl q1 (l.map eQ),.sl q2 (m.map eQ)] (.bool false):=by
 have hS:=fun q1 q2=>ev_SameListN N.toRefHLib q1 q2 l m k hl hm hk (by omega) (by omega) hlm
 refine Ev.x N.ref05_Equal rfl rfl ?_
 (repeat' (first|(refine AKM.x ?_;conv=>whnf)|(refine CallP.go (hS _ _) ?_;conv=>whnf)))
 exact FinP.b rfl
theorem ev_r5_SameN (N:R05GLib L) (q1 q2:Bool) (l m:List Rat) (k:Nat) (hl:Bs k l) (hm:Bs k m) (hk:k<2199023255552) (hn:l.length≤1000000) (hn2:m.length≤1000000) (hlm:trimQ l≠trimQ m):Ev L 173 [.sl q1 (l.map eQ),.sl q2 (m.map eQ)] (.bool false):=by
 have hT:=fun q=>ev_r5_Trim N q l k hl hk hn
 have hT2:=fun q=>ev_r5_Trim N q m k hm hk hn2
 have hS:=fun q1 q2=>ev_r5_EqualN N q1 q2 (trimQ l) (trimQ m) k hl.trim hm.trim hk (by rw[trimQ_len];have:=cutN_le l l.length;omega) (by rw[trimQ_len];have:=cutN_le m m.length;omega) hlm
 refine Ev.x N.ref05_Same rfl rfl ?_
 (repeat' (first|(refine AKM.x ?_;conv=>whnf)|(refine CallP.go (hT _) ?_;conv=>whnf)|(refine CallP.go (hT2 _) ?_;conv=>whnf)|(refine CallP.go (hS _ _) ?_;conv=>whnf)))
 exact FinP.b rfl
end Go.Eng

namespace Go.Eng
open F
attribute [local irreducible] AKM CmpP Req OpP UnP ConvP RdP LdR StR MkR LenP AppR AppN CpyR RowP SnR Bds SlS CallP CalP FinP pw LdM GetM SetM PutM MkM AppM SnM FlP CallR
set_option maxHeartbeats 16000000
variable {L:Lib}
theorem gv14b {g:List Pt} (h:GridW 840 14 g):GridV 400 g:=⟨h.len,h.lt,h.pos,fun p hp=>(h.bx hp).le (by omega),fun p hp=>(Bt.of_wh (m:=10) (by omega) (by decide) (h.wy p hp)).le (by omega),fun p hp=>(h.bw hp).le (by omega)⟩
theorem errP_bt {g:List Pt} {p:List Rat} {k:Nat} (hg:GridV 400 g) (hl:p.length≤6) (hb:Bs k p) (hk:k≤30000):Bt 10000000 (errP g p):=by
 have hev : ∀ x,Bt 400 x→Bt 200000 (evQ p x):=fun x hx=>(evQ_bt hx hb).le (by
  have:=Nat.mul_le_mul hl (show k+400+1≤30401 by omega)
  omega)
 have hlen:=hg.len
 refine (sumP_bt (k:=401300) fun r hr => ?_).le (by omega)
 have hd:=(hev r.x (hg.bx r hr)).subL (hg.by' r hr)
 exact ((hg.bw r hr).mul (hd.mul hd)).le (by omega)
theorem best14 {g:List Pt} {n:Nat} {c q:List Rat} (hg:GridOk g) (hn:n≤g.length) (ho:Orth g n c) (hct:trimQ c=c) (hq:q.length≤n) (hne:c≠trimQ (addG c q)):errP g c<errP g (trimQ (addG c q)):=by
 have h1:=err_plus (s:=addG c q) ho hq fun x=>evQ_sum c q (addG c q) x (addG_getD c q)
 rw[errP_trim,h1]
 have h2:0≤sumP g (fun p=>p.w*(evQ q p.x*evQ q p.x)):=sumP_nonneg fun p hp=>Rat.mul_nonneg (Rat.le_of_lt (hg.pos p hp)) (sq_nonneg _)
 have h3:sumP g (fun p=>p.w*(evQ q p.x*evQ q p.x))≠0:=fun e=>by
  have hz:=grid_zero hg (c:=q) (by omega) e
  apply hne
  refine (trimQ_eq hct fun i => ?_).symm
  rw[addG_getD]
  have:q.getD i 0=0:=by
   rw[List.getD_eq_getElem?_getD]
   cases hj:q[i]? with
   | none=>rfl
   | some z=>exact hz z (zM hj)
  rw[this];grind
 generalize sumP g (fun p=>p.w*(evQ q p.x*evQ q p.x))=s at *
 have h4:0<s:=by grind
 grind
theorem ev_law14_LeastBest (N:LawLLib L) (l m:List Int) (z:Int) (hz:0≤z∧z≤255) (q1 q2:Bool) (ll:l.length<9223372036854775808) (lm:m.length<9223372036854775808) (vl : ∀ v∈l,InI v) (vm : ∀ v∈m,InI v) :
  Ev L 271 [.sl q1 (l.map encInt),.sl q2 (m.map encInt),.int .u8 z] (.bool true):=by
 have hA:=ev_awake14 N
 obtain ⟨d,hd,hzd⟩ : ∃ d:Nat,d≤4∧z%5=d:=⟨(z%5).toNat,by omega,by omega⟩
 obtain ⟨g,hg,hG⟩:=ev_mGrid N.toGrdGLib q1 l ll vl
 have hgl:=hg.len
 obtain ⟨hD1,hD2⟩:=ev_Design N.toLsqGLib false g d 840 14 10 hg (by omega) (by decide) (by omega) (by omega) (by omega)
 by_cases hlt:g.length<d+1
 ·have hD:=hD1 hlt
  refine Ev.x N.law14_LeastBest rfl rfl ?_
  (repeat' (first|(refine OpP.rem ?_ (fun _ _ _ => ?_) (fun _ _ _ _ => ?_);omega;all_goals first|(exfalso;omega)|(conv=>whnf))|(refine ConvP.i64 ?_ ?_;omega;conv=>whnf)|(refine AKM.x ?_;conv=>whnf)|(refine CallP.go (hG) ?_;conv=>whnf)))
  rw[hzd]
  (repeat' (first|(refine CmpP.go (fun hc => ?_) (fun hc => ?_)<;>first|(exfalso;omega)|(conv=>whnf))|(refine OpP.add ?_ ?_;omega;conv=>whnf)|(refine LenP.go ?_;conv=>whnf)|(refine CallP.go (hD) ?_;conv=>whnf)|(refine CallP.go (hA) ?_;conv=>whnf)))
  exact FinP.b rfl
 ·obtain ⟨c,hcl,hor,hcb,hD⟩:=hD2 (by omega)
  obtain ⟨p,hpt,hpl,hpb,_,hP⟩:=ev_mPoly N.toGrdGLib q2 m d (by omega) lm vm
  have hV:=gv14b hg
  have hOk:=hg.ok
  have hort:=hor.trim
  have htl:(trimQ c).length≤d+1:=by rw[trimQ_len];have:=cutN_le c c.length;omega
  have htb:Bs 20000 (trimQ c):=hcb.trim
  have htt:trimQ (trimQ c)=trimQ c:=trimQ_idem c
  generalize trimQ c=u at *
  have hAdd:=ev_r5_AddG N.toTrGLib false false u p 20000 24 htb hpb (by omega) (by omega) (by omega)
  have hsl:(trimQ (addG u p)).length≤d+1:=by
   rw[trimQ_len]
   have:=cutN_le (addG u p) (addG u p).length
   have:=addG_len u p
   omega
  have hsb:Bs 20025 (trimQ (addG u p)):=by
   refine Bs.trim fun x hx => ?_
   obtain ⟨i,hi⟩:=List.getElem?_of_mem hx
   have hil:=(zS hi).1
   rw[addG_len]at hil
   obtain rfl:=Option.some.inj ((addG_at hil).symm.trans hi)
   exact ((htb.getD i).add (hpb.getD i)).le (by omega)
  have hst:trimQ (trimQ (addG u p))=trimQ (addG u p):=trimQ_idem _
  have hE1:=ev_gError N.toLsqGLib false false g u 400 20000 hV (by omega) htt (by omega) htb (by omega)
  have hE2:=ev_gError N.toLsqGLib false false g (trimQ (addG u p)) 400 20025 hV (by omega) hst (by omega) hsb (by omega)
  have b1:=errP_bt hV (by omega) htb (by omega)
  have b2:=errP_bt hV (by omega) hsb (by omega)
  have hS1:=ev_r3_Same N.toRefHLib b1 (by omega)
  by_cases hne:u=trimQ (addG u p)
  ·rw[←hne]at hAdd hE2
   have hSu:=ev_r5_Same N.toR05GLib false false u 20000 htb (by omega) (by omega)
   generalize errP g u=e1 at *
   clear b2 hne hsl hsb hst
   refine Ev.x N.law14_LeastBest rfl rfl ?_
   (repeat' (first|(refine OpP.rem ?_ (fun _ _ _ => ?_) (fun _ _ _ _ => ?_);omega;all_goals first|(exfalso;omega)|(conv=>whnf))|(refine ConvP.i64 ?_ ?_;omega;conv=>whnf)|(refine AKM.x ?_;conv=>whnf)|(refine CallP.go (hG) ?_;conv=>whnf)))
   rw[hzd]
   (repeat' (first|(refine CmpP.go (fun hc => ?_) (fun hc => ?_)<;>first|(exfalso;omega)|(conv=>whnf))|(refine CallP.go (hD) ?_;conv=>whnf)|(refine CallP.go (hP) ?_;conv=>whnf)|(refine CallP.go (hAdd) ?_;conv=>whnf)|(refine CallP.go (hE1) ?_;conv=>whnf)|(refine CallP.go (hA) ?_;conv=>whnf)|(refine CallP.go (hS1) ?_;conv=>whnf)|(refine CallP.go (hSu) ?_;conv=>whnf)))
   exact FinP.b rfl
  ·have hlt2:=best14 hOk (n:=d+1) (by omega) hort htt (by omega) hne
   have hSu:=ev_r5_SameN N.toR05GLib false false u (trimQ (addG u p)) 20025 (fun x hx=>(htb x hx).le (by omega)) hsb (by omega) (by omega) (by omega) (by rw[htt,hst];exact hne)
   have hLs:=ev_r3_Less N.toR05HLib b1 b2 (by omega) (by omega) hlt2
   generalize trimQ (addG u p)=s at *
   generalize errP g u=e1 at *
   generalize errP g s=e2 at *
   refine Ev.x N.law14_LeastBest rfl rfl ?_
   (repeat' (first|(refine OpP.rem ?_ (fun _ _ _ => ?_) (fun _ _ _ _ => ?_);omega;all_goals first|(exfalso;omega)|(conv=>whnf))|(refine ConvP.i64 ?_ ?_;omega;conv=>whnf)|(refine AKM.x ?_;conv=>whnf)|(refine CallP.go (hG) ?_;conv=>whnf)))
   rw[hzd]
   (repeat' (first|(refine CmpP.go (fun hc => ?_) (fun hc => ?_)<;>first|(exfalso;omega)|(conv=>whnf))|(refine CallP.go (hD) ?_;conv=>whnf)|(refine CallP.go (hP) ?_;conv=>whnf)|(refine CallP.go (hAdd) ?_;conv=>whnf)|(refine CallP.go (hE1) ?_;conv=>whnf)|(refine CallP.go (hE2) ?_;conv=>whnf)|(refine CallP.go (hA) ?_;conv=>whnf)|(refine CallP.go (hS1) ?_;conv=>whnf)|(refine CallP.go (hSu) ?_;conv=>whnf)|(refine CallP.go (hLs) ?_;conv=>whnf)))
   exact FinP.b rfl
end Go.Eng

namespace Go.Eng
theorem wf_u8 {n:Int} (h:(Lit.int .u8 n).wf=true):0≤n∧n≤255:=by
 simp only[Lit.wf,Bool.and_eq_true,decide_eq_true_eq]at h
 have h1:IntKind.u8.min=0:=rfl
 have h2:IntKind.u8.max=255:=rfl
 rw[h1,h2]at h
 exact h
theorem has_u8 {cs:List AV} (h:HasL (.int .u8) cs) : ∃ n,cs=[.int .u8 n]∧0≤n∧n≤255:=by obtain ⟨n,rfl,hw⟩:=h;exact ⟨n,rfl,wf_u8 hw⟩
end Go.Eng
