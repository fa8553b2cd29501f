/-
  The best polynomial on a grid (layer 14).
-/
import Derived.Test.YtiadddpcmkfpjaaGreatB12
import Derived.Test.YtiadddpcmkfpjaaGreatB4
import Derived.Test.YtiadddpcmkfpjaaGreatB11
import Derived.Test.YtiadddpcmkfpjaaGreatB5
set_option linter.unusedSimpArgs false
set_option linter.unusedVariables false
set_option linter.unnecessarySimpa false
namespace Go.Eng
open F
attribute [local irreducible] AKM CmpP Req OpP UnP ConvP RdP LdR StR MkR LenP AppR AppN CpyR RowP SnR Bds SlS CallP CalP FinP pw LdM GetM SetM PutM MkM AppM SnM FlP CallR
set_option maxHeartbeats 16000000
variable {L:Lib}
theorem pOf_at (s:Rat) : ∀ (c:List Rat) (f:Rat) (k:Nat) (z:Rat),c[k]? = some z→(pOf s c f)[k]? = some (z*(f*s^k))
 | [],_,_,_,h=>by simp at h
 | a::c,f,0,z,h=>by
  obtain rfl:a=z:=by simpa using h
  rw[pOf,Rat.pow_zero,Rat.mul_one];rfl
 | a::c,f,k+1,z,h=>by
  have:=pOf_at s c (f*s) k z (by simpa using h)
  rw[pOf,List.getElem?_cons_succ,this,Rat.pow_succ]
  congr 1
  grind
theorem six_of {n:Nat} (h:1≤n∧n≤6):n=1∨n=2∨n=3∨n=4∨n=5∨n=6:=by omega
theorem bd_lsq {n:Nat} (h:1≤n∧n≤6):6^n*100≤1000000000000∧clB (6^n*100) n n≤1000000000000∧2*KI n 100≤12800:=by
 rcases six_of h with rfl|rfl|rfl|rfl|rfl|rfl<;>decide
theorem Wh.int {k:Nat} {x:Rat} (h:Wh k x) : ∃ z:Int,x=(z:Rat):=by
 obtain ⟨z,e,_⟩:=h
 exact ⟨z,e⟩
theorem scQ_pre {M k m:Nat} {l:List Rat} (hM:1≤M) (hm:M≤2^m) (h : ∀ x∈l,Wh k ((M:Rat)*x)) (i:Nat):Bt m (scQ (l.take i)) :=
 (scQ_wh hM hm fun x hx=>h x (List.mem_of_mem_take hx)).1.bt
theorem ev_Design (N:LsqGLib L) (q:Bool) (g:List Pt) (d M ky m:Nat) (hg:GridW M ky g) (hM:1≤M) (hm:M≤2^m) (hm2:m≤100) (hky:ky≤50) (hd:d≤5) :
  (g.length<d+1→Ev L 266 [.sl q (g.map eP),.int .i64 d] (.tup [.sl false [],.agg (rQ false false false [] []),.int .i64 11])) ∧
  (d+1≤g.length → ∃ c:List Rat,c.length=d+1∧Orth g (d+1) c∧Bs 20000 c∧Ev L 266 [.sl q (g.map eP),.int .i64 d] (.tup [.sl false ((trimQ c).map eQ),.agg (eQ (errP g (trimQ c))),.int .i64 0])):=by
 have hgl:=hg.len
 have hV0:GridV 400 g:=⟨hg.len,hg.lt,hg.pos,fun p hp=>(hg.bx hp).le (by omega),fun p hp=>(Bt.of_wh hM hm (hg.wy p hp)).le (by omega),fun p hp=>(hg.bw hp).le (by omega)⟩
 have hV:=ev_gValid N q g 400 hV0 (by omega)
 constructor
 ·intro hlt
  refine Ev.x N.leastsq_Design rfl rfl ?_
  (repeat' (first|(refine CmpP.go (fun hc => ?_) (fun hc => ?_)<;>first|(exfalso;omega)|(conv=>whnf))|(refine OpP.add ?_ ?_;omega;conv=>whnf)|(refine LenP.go ?_;conv=>whnf)|(refine AKM.x ?_;conv=>whnf)|(refine CallP.go (hV) ?_;conv=>whnf)))
  exact FinP.go rfl (by simp [Clean,CleanL,CleanLL])
 ·intro hge
  obtain ⟨sx4,sym,sw4,px,pw,hS⟩:=hg.scl hM hm
  have hWG:=ev_wholeGrid N q g 400 100 hV0 (by omega) (by omega) (fun i=>(scQ_pre (M:=12) (m:=4) (k:=6) (by omega) (by decide) (fun x hx=>by
   obtain ⟨p,hp,rfl⟩:=List.mem_map.1 hx
   exact hg.wx p hp) i).le (by omega)) (fun i=>(scQ_pre hM hm (k:=ky) (fun x hx=>by
   obtain ⟨p,hp,rfl⟩:=List.mem_map.1 hx
   exact hg.wy p hp) i).le (by omega)) (fun i=>(scQ_pre (M:=12) (m:=4) (k:=7) (by omega) (by decide) (fun x hx=>by
   obtain ⟨p,hp,rfl⟩:=List.mem_map.1 hx
   exact hg.ww p hp) i).le (by omega))
  have hsl:(sGrid g).length=g.length:=by simp [sGrid]
  have hEq:=ev_equations N (sGrid g) (scQ (g.map (·.x))) (scQ (g.map (·.y))) (d+1) ky hS (by omega) (by omega) (by omega)
  have hns:=gram_ns hS.ok (n:=d+1) (by omega)
  have hgw:=gram_wh hS (by omega) (n:=d+1) (by omega)
  have hrw:=rhs_wh hS (by omega) (n:=d+1) (by omega) (k:=100) (by omega)
  obtain ⟨bd1,bd2,bd3⟩:=bd_lsq (n:=d+1) (by omega)
  have hal:=gram_len (sGrid g) (d+1)
  have haw:=gram_w (sGrid g) (d+1)
  have hbl:(rhsL (sGrid g) (d+1)).length=d+1:=by simp [rhsL]
  have hor : ∀ c:List Rat,c.length=d+1→(∀ (i:Nat) (r:List Rat) (s:Rat),(gramL (sGrid g) (d+1))[i]? = some r→(rhsL (sGrid g) (d+1))[i]? = some s→dotQ r c=s)→Orth (sGrid g) (d+1) c:=fun c hc h=>orth_of hc h
  have horth : ∀ c:List Rat,Orth (sGrid g) (d+1) c→Orth g (d+1) (pOf (scQ (g.map (·.x))) c (1/scQ (g.map (·.y)))):=fun c h=>orth_scl (fun e=>by rw[e]at px;exact absurd px (Rat.lt_irrefl)) (scQ_ne _) (fun e=>by rw[e]at pw;exact absurd pw (Rat.lt_irrefl)) h
  have hsy:=scQ_ne (g.map (·.y))
  generalize gramL (sGrid g) (d+1)=A at *
  generalize rhsL (sGrid g) (d+1)=b at *
  generalize scQ (g.map (·.x))=sx at *
  generalize scQ (g.map (·.y))=sy at *
  have hAb:Ms 100 A:=fun r hr x hx=>((hgw r hr x hx).bt).le (by omega)
  have hbb:Bs 100 b:=fun x hx=>(hrw x hx).bt
  have hjm : ∀ r∈join2 A (b.map fun x=>[x]),∀ x∈r,Wh 100 x:=fun r hr x hx=>by
   obtain ⟨i,hi⟩:=List.getElem?_of_mem hr
   have hil:=(List.getElem?_eq_some_iff.1 hi).1
   simp only[join2,List.length_zipWith,List.length_map]at hil
   obtain ⟨u,hu⟩ : ∃ x,A[i]? = some x:=⟨_,List.getElem?_eq_getElem (by omega)⟩
   obtain ⟨v,hv⟩ : ∃ x,b[i]? = some x:=⟨_,List.getElem?_eq_getElem (by omega)⟩
   obtain rfl:=Option.some.inj ((join_at hu (one_at hv)).symm.trans hi)
   rcases List.mem_append.1 hx with hx|hx
   ·exact (hgw u (List.mem_of_getElem? hu) x hx).le (by omega)
   ·obtain rfl:=List.mem_singleton.1 hx
    exact hrw _ (List.mem_of_getElem? hv)
  obtain ⟨v,hSo,hSor⟩:=ev_SolveK N.toMatGLib false false false A b (d+1) 100 100 hal haw hbl (by omega) (Nat.le_refl _) (by omega) hAb hbb (fun r hr j=>by
   rw[scQ_int fun x hx=>(hjm r hr x (List.mem_of_mem_take hx)).int]
   exact Bt.one _) (by
   rw[whole_int fun r hr x hx=>(hjm r hr x hx).int]
   exact fun r hr x hx=>(hjm r hr x hx).bt) bd1 bd2 (Nat.le_refl _)
  rcases hSor with ⟨h,_⟩|⟨_,c,rfl,hcl,_,hcs⟩
  ·exact absurd hns h
  have hcb:Bs 12800 c:=fun x hx=>(sol_small hal haw hbl (fun r hr x hx=>(hgw r hr x hx).le (by omega)) hrw hns hcl hcs x hx).le bd3
  have ho:=horth c (hor c hcl hcs)
  have hPl:=pOf_len sx c (1/sy)
  have hPat:=pOf_at sx c (1/sy)
  have hfb : ∀ k,k≤6→Bt 200 (1/sy*sx^k):=fun k hk=>by
   have h1:Bt (0+m) (1/sy):=(Bt.one 0).divL sym.bt
   have h2:=(sx4.pow k).bt
   exact (h1.mul h2).le (by omega)
  have hPb:Bs 20000 (pOf sx c (1/sy)):=fun x hx=>by
   obtain ⟨k,hk⟩:=List.getElem?_of_mem hx
   have hkl:=(List.getElem?_eq_some_iff.1 hk).1
   obtain ⟨z,hz⟩ : ∃ z,c[k]? = some z:=⟨_,List.getElem?_eq_getElem (by omega)⟩
   obtain rfl:=Option.some.inj ((hPat k z hz).symm.trans hk)
   exact ((hcb.at hz).mul (hfb k (by omega))).le (by omega)
  refine ⟨pOf sx c (1/sy),by omega,ho,hPb,?_⟩
  have hTr:=fun q=>ev_pTrim N.toPolyGLib q (pOf sx c (1/sy)) 20000 hPb (by omega) (by omega)
  have hEr:=fun q2=>ev_gError N q q2 g (trimQ (pOf sx c (1/sy))) 400 20000 hV0 (by omega) (trimQ_idem _) (by rw[trimQ_len];have:=cutN_le (pOf sx c (1/sy)) (pOf sx c (1/sy)).length;omega) hPb.trim (by omega)
  have hI:=ev_rational_Of N.toRatGLib 1 (by omega)
  have hDv:=ev_divQ N.toRatGLib (Bt.one 1) sym.bt (by omega) (by omega) hsy
  have hf0:(1:Rat)/sy=1/sy*sx^0:=by rw[Rat.pow_zero,Rat.mul_one]
  generalize pOf sx c (1/sy)=P at *
  rw[Int.natCast_add]at hEq
  refine Ev.x N.leastsq_Design rfl rfl ?_
  (repeat' (first|(refine CmpP.go (fun hc => ?_) (fun hc => ?_)<;>first|(exfalso;omega)|(conv=>whnf))|(refine OpP.add ?_ ?_;omega;conv=>whnf)|(refine LenP.go ?_;conv=>whnf)|(refine AKM.x ?_;conv=>whnf)|(refine CallP.go (hV) ?_;conv=>whnf)|(refine CallP.go (hWG) ?_;conv=>whnf)|(refine CallP.go (hEq) ?_;conv=>whnf)|(refine CallP.go (hSo) ?_;conv=>whnf)))
  refine MkR.go (enc:=eO) none (d+1) rfl (by omega) (by omega) ?_
  (conv=>whnf)
  (repeat' (first|(refine OpP.add ?_ ?_;omega;conv=>whnf)|(refine CallP.go (hI) ?_;conv=>whnf)|(refine CallP.go (hDv) ?_;conv=>whnf)))
  rw[hf0]
  refine AKM.loop1 (fun k=>d+1-k) (fun (k:Nat)=>k≤d+1) (fun k=>[(66,.int .i64 k)]) (fun k=>[(56,56,.rw 3 ((fillO (P.take k) (d+1)).map eO)),(13,13,.bx (eQ (1/sy*sx^k)))]) [] [] 0 (by first|exact (by (conv=>whnf);exact ⟨rfl,rfl,rfl⟩)|(rw[List.take_zero,←fillO_nil];exact (by (conv=>whnf);exact ⟨rfl,rfl,rfl⟩))) (by omega) ?_
  intro k k1 kh
  have hlf:=fillO_len (l:=P.take k) (m:=d+1) (by rw[List.length_take];omega)
  by_cases hk:k<d+1
  ·obtain ⟨z,hz⟩ : ∃ z,c[k]? = some z:=⟨_,List.getElem?_eq_getElem (by omega)⟩
   have hz':c[(k:Int).toNat]? = some z:=hz
   have hPk:=hPat k z hz
   have hfk:=hfb k (by omega)
   have hM1:=ev_mulQ N.toRatGLib (hcb.at hz) hfk (by omega) (by omega)
   have hM2:=ev_mulQ N.toRatGLib hfk sx4.bt (by omega) (by omega)
   have hst:=fillO_set (l:=P.take k) (m:=d+1) (x:=z*(1/sy*sx^k)) (by rw[List.length_take];omega)
   rw[List.length_take,Nat.min_eq_left (by omega),←take_snoc' hPk]at hst
   rw[show 1/sy*sx^k*sx=1/sy*sx^(k+1) by rw[Rat.pow_succ,Rat.mul_assoc]]at hM2
   generalize fillO (P.take k) (d+1)=F0 at *
   generalize hf1:1/sy*sx^(k+1)=f1 at hM2
   generalize 1/sy*sx^k=f0 at *
   generalize z*f0=zf at *
   (repeat' (first|(refine CmpP.go (fun hc => ?_) (fun hc => ?_)<;>first|(exfalso;omega)|(conv=>whnf))|(refine Req.go ?_ ?_;omega;conv=>whnf)|(refine RdP.at (by assumption) ?_ rfl ?_;omega;conv=>whnf)|(refine AKM.x ?_;conv=>whnf)|(refine CallP.go (hM1) ?_;conv=>whnf)))
   refine StR.nat (enc:=eO) (some zf) rfl (fun e=>by cases e<;>rfl) (by omega) ?_
   (conv=>whnf)
   rw[hst]
   (repeat' (first|(refine OpP.add ?_ ?_;omega;conv=>whnf)|(refine CallP.go (hM2) ?_;conv=>whnf)))
   subst hf1
   exact AKM.back [] (by (conv=>whnf);exact ⟨rfl,rfl,rfl⟩) (kh (k+1) (by omega) (by omega))
  have ek:k=d+1:=by omega
  clear kh
  have hPl2:P.length=d+1:=by omega
  rw[ek,List.take_of_length_le (by omega),fillO_full hPl2]
  (repeat' (first|(refine CmpP.go (fun hc => ?_) (fun hc => ?_)<;>first|(exfalso;omega)|(conv=>whnf))|(refine AKM.x ?_;conv=>whnf)))
  refine SnR.all (enc:=eQ) (fun _=>rfl) rfl (by omega) ?_
  (conv=>whnf)
  (repeat' (first|(refine CallP.go (hTr _) ?_;conv=>whnf)|(refine CallP.go (hEr _) ?_;conv=>whnf)))
  exact FinP.go rfl (by
   simp only[Clean,CleanL,and_true,true_and]
   exact ⟨cl_eQs _,⟨cl_dig _,cl_dig _⟩⟩)
end Go.Eng
namespace Go.Eng
open F
attribute [local irreducible] AKM CmpP Req OpP UnP ConvP RdP LdR StR MkR LenP AppR AppN CpyR RowP SnR Bds SlS CallP CalP FinP pw LdM GetM SetM PutM MkM AppM SnM FlP CallR
set_option maxHeartbeats 16000000
variable {L:Lib}
theorem ev_r5_Eval (N:R05HLib L) (q:Bool) (p:List Rat) (x:Rat) (k j:Nat) (hl:p.length≤12) (hb:Bs k p) (hx:Bt j x) (hk:k≤10000000) (hj:j≤10000000):Ev L 267 [.sl q (p.map eQ),.agg (eQ x)] (.agg (eQ (evQ p x))):=by
 have hO:=ev_r3_Of N.toRefGLib 0 (by omega)
 have hbs : ∀ r,Bt (12*(k+j+1)) (evQ (p.drop r) x):=fun r=>(evQ_bt hx fun z hz=>hb z (List.mem_of_mem_drop hz)).le (Nat.mul_le_mul_right _ (by rw[List.length_drop];omega))
 refine Ev.x N.ref05_Eval rfl rfl ?_
 (repeat' (first|(refine OpP.sub ?_ ?_;omega;conv=>whnf)|(refine LenP.go ?_;conv=>whnf)|(refine AKM.x ?_;conv=>whnf)|(refine CallP.go (hO) ?_;conv=>whnf)))
 refine AKM.loop1 (fun r=>r) (fun (r:Nat)=>r≤p.length) (fun r=>[(6,.int .i64 ((r:Int)-1))]) (fun r=>[(5,5,.bx (eQ (evQ (p.drop r) x)))]) [] [] p.length (by first|exact (by (conv=>whnf);exact ⟨rfl,rfl,rfl⟩)|(rw[List.drop_length];exact (by (conv=>whnf);exact ⟨rfl,rfl,rfl⟩))) (Nat.le_refl _) ?_
 intro r p1 ih
 by_cases hr:0<r
 ·obtain ⟨c,hc0⟩ : ∃ c,p[r-1]? = some c:=⟨_,List.getElem?_eq_getElem (by omega)⟩
  have hc0':p[((r:Int)-1).toNat]? = some c:=by rw[show ((r:Int)-1).toNat=r-1 by omega];exact hc0
  have hdr:=evQ_drop x hc0
  rw[show r-1+1=r by omega]at hdr
  have hM:=ev_mul3 N.toRefGLib (hbs r) hx (by omega) (by omega)
  have hA:=ev_add3 N.toRefGLib ((hbs r).mul hx) (hb.at hc0) (by omega) (by omega)
  rw[show evQ (p.drop r) x*x+c=evQ (p.drop (r-1)) x by rw[hdr];grind]at hA
  generalize hs:evQ (p.drop r) x=s at *
  generalize hs2:evQ (p.drop (r-1)) x=s2 at hA
  generalize s*x=sx at *
  (repeat' (first|(refine CmpP.go (fun hc => ?_) (fun hc => ?_)<;>first|(exfalso;omega)|(conv=>whnf))|(refine OpP.sub ?_ ?_;omega;conv=>whnf)|(refine RdP.at (by assumption) ?_ rfl ?_;omega;conv=>whnf)|(refine AKM.x ?_;conv=>whnf)|(refine CallP.go (hM) ?_;conv=>whnf)|(refine CallP.go (hA) ?_;conv=>whnf)))
  subst hs2
  rw[show (r:Int)-1-1=((r-1:Nat):Int)-1 by omega]
  exact AKM.back [] (by (conv=>whnf);exact ⟨rfl,rfl,rfl⟩) (ih (r-1) (by omega) (by omega))
 ·have er:r=0:=by omega
  clear ih
  rw[er,List.drop_zero]
  (repeat' (first|(refine CmpP.go (fun hc => ?_) (fun hc => ?_)<;>first|(exfalso;omega)|(conv=>whnf))|(refine AKM.x ?_;conv=>whnf)))
  exact FinP.go rfl (cl_eQ _)
end Go.Eng

namespace Go.Eng
open F
attribute [local irreducible] AKM CmpP Req OpP UnP ConvP RdP LdR StR MkR LenP AppR AppN CpyR RowP SnR Bds SlS CallP CalP FinP pw LdM GetM SetM PutM MkM AppM SnM FlP CallR
set_option maxHeartbeats 16000000
variable {L:Lib}
def gA:List Pt:=[⟨((0:Int):Rat),((0:Int):Rat),((1:Int):Rat)⟩,⟨((1:Int):Rat),((2:Int):Rat),((1:Int):Rat)⟩]
theorem wh_nat {M:Nat} {k:Nat} (z:Int) (h:((M:Int)*z).natAbs≤2^k):Wh k ((M:Rat)*(z:Rat)):=⟨(M:Int)*z,by rw[Rat.intCast_mul,Rat.intCast_natCast],h⟩
theorem gA_ok:GridW 840 14 gA:=by
 have all : ∀ {P:Pt→Prop},P ⟨((0:Int):Rat),((0:Int):Rat),((1:Int):Rat)⟩→P ⟨((1:Int):Rat),((2:Int):Rat),((1:Int):Rat)⟩ → ∀ p∈gA,P p:=fun h1 h2 p hp=>by
  simp only[gA,List.mem_cons,List.not_mem_nil,or_false]at hp
  rcases hp with rfl|rfl
  ·exact h1
  ·exact h2
 refine ⟨by simp [gA],?_,all ?_ ?_,all (wh_nat 0 (by decide)) (wh_nat 1 (by decide)),all (wh_nat 1 (by decide)) (wh_nat 1 (by decide)),all (wh_nat 0 (by decide)) (wh_nat 2 (by decide))⟩
 ·simp only[gA,List.map_cons,List.map_nil,List.pairwise_cons,List.mem_singleton,List.Pairwise.nil,and_true,List.not_mem_nil,false_implies,implies_true]
  rintro _ rfl
  exact Rat.intCast_lt_intCast.2 (by decide)
 ·exact Rat.intCast_pos.2 (by decide)
 ·exact Rat.intCast_pos.2 (by decide)
theorem two14 {α:Type} {l:List α} (h:l.length=2) : ∃ a b,l=[a,b]:=by
 match l,h with
 | [a,b],_=>exact ⟨a,b,rfl⟩
theorem bt14 {z:Int} (h:z.natAbs≤8):Bt 3 (z:Rat):=Bt.ofInt h
theorem one_of {α:Type} {l:List α} (h:l.length=1) : ∃ a,l=[a]:=by
 match l,h with
 | [a],_=>exact ⟨a,rfl⟩
theorem trim_ne {p:List Rat} {x:Rat} (h:x≠0):trimQ (p++[x])=p++[x]:=by
 have hc:cutN (p++[x]) (p++[x]).length=(p++[x]).length:=by
  rw[List.length_append,List.length_singleton,cutN,if_neg]
  rw[List.getD_eq_getElem?_getD,List.getElem?_append_right (Nat.le_refl _),Nat.sub_self]
  exact h
 rw[trimQ,hc,List.take_length]
theorem des0 (N:LsqGLib L) (q:Bool):Ev L 266 [.sl q (gA.map eP),.int .i64 0] (.tup [.sl false ([((1:Int):Rat)].map eQ),.agg (eQ ((2:Int):Rat)),.int .i64 0]):=by
 obtain ⟨c,h1,h2,_,h3⟩:=(ev_Design N q gA 0 840 14 10 gA_ok (by omega) (by decide) (by omega) (by omega) (by omega)).2 (by simp [gA])
 obtain ⟨a,rfl⟩:=one_of h1
 have e0:=h2 0 (by omega)
 simp only[gA,sumP_cons,evQ,Rat.pow_zero]at e0
 have ha:a=((1:Int):Rat):=by
  simp only[sumP,List.foldl_nil]at e0
  grind
 subst ha
 have ht:trimQ [((1:Int):Rat)]=[((1:Int):Rat)]:=trim_ne (p:=[]) (by decide)
 have he:errP gA [((1:Int):Rat)]=((2:Int):Rat):=by
  simp only[errP,gA,sumP_cons,evQ,sumP,List.foldl_nil]
  grind
 rw[ht,he]at h3
 exact h3
theorem des1 (N:LsqGLib L) (q:Bool):Ev L 266 [.sl q (gA.map eP),.int .i64 1] (.tup [.sl false ([((0:Int):Rat),((2:Int):Rat)].map eQ),.agg (eQ ((0:Int):Rat)),.int .i64 0]):=by
 obtain ⟨c,h1,h2,_,h3⟩:=(ev_Design N q gA 1 840 14 10 gA_ok (by omega) (by decide) (by omega) (by omega) (by omega)).2 (by simp [gA])
 obtain ⟨a,b,rfl⟩:=two14 h1
 have e0:=h2 0 (by omega)
 have e1:=h2 1 (by omega)
 simp only[gA,sumP_cons,evQ,Rat.pow_zero]at e0
 simp only[gA,sumP_cons,evQ,show ∀ x:Rat,x^1=x from fun x=>by rw[Rat.pow_succ,Rat.pow_zero,Rat.one_mul]]at e1
 simp only[sumP,List.foldl_nil]at e0 e1
 have ha:a=((0:Int):Rat):=by grind
 have hb:b=((2:Int):Rat):=by grind
 subst ha hb
 have ht:trimQ [((0:Int):Rat),((2:Int):Rat)]=[((0:Int):Rat),((2:Int):Rat)]:=trim_ne (p:=[((0:Int):Rat)]) (by decide)
 have he:errP gA [((0:Int):Rat),((2:Int):Rat)]=((0:Int):Rat):=by
  simp only[errP,gA,sumP_cons,evQ,sumP,List.foldl_nil]
  grind
 rw[ht,he]at h3
 exact h3
theorem des2 (N:LsqGLib L) (q:Bool):Ev L 266 [.sl q (gA.map eP),.int .i64 2] (.tup [.sl false [],.agg (rQ false false false [] []),.int .i64 11]) :=
 (ev_Design N q gA 2 840 14 10 gA_ok (by omega) (by decide) (by omega) (by omega) (by omega)).1 (by simp [gA])
theorem ev_awake14 (N:LawLLib L):Ev L 269 [] (.bool true):=by
 have hO:=fun (z:Int) (h : -9223372036854775808≤z∧z≤9223372036854775807)=>ev_r3_Of N.toRefGLib z h
 have h0:=fun q=>des0 N.toLsqGLib q
 have h1:=fun q=>des1 N.toLsqGLib q
 have h2:=fun q=>des2 N.toLsqGLib q
 have hE1:=fun q1 q2=>ev_r5_Equal N.toR05GLib q1 q2 [((1:Int):Rat)] 3 (fun x hx=>by
  obtain rfl:=List.mem_singleton.1 hx
  exact bt14 (by decide)) (by omega) (by simp)
 have hE2:=fun q1 q2=>ev_r5_Equal N.toR05GLib q1 q2 [((0:Int):Rat),((2:Int):Rat)] 3 (fun x hx=>by
  simp only[List.mem_cons,List.not_mem_nil,or_false]at hx
  rcases hx with rfl|rfl
  ·exact bt14 (by decide)
  ·exact bt14 (by decide)) (by omega) (by simp)
 have hS2:=ev_r3_Same N.toRefHLib (bt14 (z:=2) (by decide)) (by omega)
 have hS0:=ev_r3_Same N.toRefHLib (bt14 (z:=0) (by decide)) (by omega)
 have hV:=fun q=>ev_gValid N.toLsqGLib q gA 400 ⟨gA_ok.len,gA_ok.lt,gA_ok.pos,fun p hp=>(gA_ok.bx hp).le (by omega),fun p hp=>(Bt.of_wh (m:=10) (by omega) (by decide) (gA_ok.wy p hp)).le (by omega),fun p hp=>(gA_ok.bw hp).le (by omega)⟩ (by omega)
 refine Ev.x N.law14_awake rfl rfl ?_
 (repeat' (first|(refine SnR.e2 rfl rfl ?_;conv=>whnf)|(refine AKM.x ?_;conv=>whnf)|(refine CallP.go (hO 0 (by omega)) ?_;conv=>whnf)|(refine CallP.go (hO 1 (by omega)) ?_;conv=>whnf)|(refine CallP.go (hO 2 (by omega)) ?_;conv=>whnf)))
 (repeat' (first|(refine CmpP.go (fun hc => ?_) (fun hc => ?_)<;>first|(exfalso;omega)|(conv=>whnf))|(refine SnR.e2 rfl rfl ?_;conv=>whnf)|(refine CallP.go (h0 _) ?_;conv=>whnf)|(refine CallP.go (h1 _) ?_;conv=>whnf)|(refine CallP.go (h2 _) ?_;conv=>whnf)))
 (repeat' (first|(refine SnR.e1 rfl ?_;conv=>whnf)|(refine SnR.e2 rfl rfl ?_;conv=>whnf)|(refine CallP.go (hE1 _ _) ?_;conv=>whnf)|(refine CallP.go (hE2 _ _) ?_;conv=>whnf)|(refine CallP.go (hS2) ?_;conv=>whnf)|(refine CallP.go (hS0) ?_;conv=>whnf)|(refine CallP.go (hV _) ?_;conv=>whnf)|(refine CallP.go (hO 0 (by omega)) ?_;conv=>whnf)|(refine CallP.go (hO 1 (by omega)) ?_;conv=>whnf)|(refine CallP.go (hO 2 (by omega)) ?_;conv=>whnf)))
 exact FinP.b rfl
end Go.Eng

namespace Go.Eng
theorem ev_wh {x:Rat} (hx:Wh 6 (((12:Nat):Rat)*x)) : ∀ (n:Nat) (p:List Rat),p.length≤n+1→(∀ c∈p,Wh 14 (((840:Nat):Rat)*c))→Wh (14+7*n) (((840:Nat):Rat)*((12:Nat):Rat)^n*evQ p x)
 | n,[],_,_=>by
  rw[evQ,Rat.mul_zero];exact Wh.zero _
 | 0,[c],_,h=>by
  rw[evQ,evQ,Rat.pow_zero,Rat.mul_one,Rat.mul_zero,Rat.add_zero]
  exact h c (by simp)
 | 0,_::_::_,hl,_=>by simp at hl
 | n+1,c::p,hl,h=>by
  have h1:=ev_wh hx n p (by simpa using hl) fun z hz=>h z (List.mem_cons_of_mem _ hz)
  have h2:=h c List.mem_cons_self
  have h3:Wh 4 ((12:Nat):Rat):=⟨12,by rfl,by decide⟩
  have h4:Wh (13+7*(n+1)) (((840:Nat):Rat)*c*((12:Nat):Rat)^(n+1)):=(h2.mul (h3.pow (n+1))).le (by omega)
  have h5:Wh (13+7*(n+1)) (((12:Nat):Rat)*x*(((840:Nat):Rat)*((12:Nat):Rat)^n*evQ p x)):=(hx.mul h1).le (by omega)
  have h6:=(h4.add h5).le (show 13+7*(n+1)+1≤14+7*(n+1) by omega)
  rw[evQ]
  have e:((840:Nat):Rat)*((12:Nat):Rat)^(n+1)*(c+x*evQ p x)=((840:Nat):Rat)*c*((12:Nat):Rat)^(n+1)+((12:Nat):Rat)*x*(((840:Nat):Rat)*((12:Nat):Rat)^n*evQ p x):=by
   rw[Rat.pow_succ]
   grind
  rw[e];exact h6
def repQ (f:Rat→Rat) (g:List Pt):List Pt:=g.map fun r=>⟨r.x,f r.x,r.w⟩
theorem repQ_len (f:Rat→Rat) (g:List Pt):(repQ f g).length=g.length:=by simp [repQ]
theorem repQ_ok {f:Rat→Rat} {g:List Pt} {M k M' k':Nat} (h:GridW M k g) (hy : ∀ p∈g,Wh k' ((M':Rat)*f p.x)):GridW M' k' (repQ f g):=by
 refine ⟨by rw[repQ_len];exact h.len,?_,?_,?_,?_,?_⟩
 ·rw[show (repQ f g).map (·.x)=g.map (·.x) by rw[repQ,List.map_map];rfl]
  exact h.lt
 all_goals
  intro p hp
  obtain ⟨r,hr,rfl⟩:=List.mem_map.1 hp
 ·exact h.pos r hr
 ·exact h.wx r hr
 ·exact h.ww r hr
 ·exact hy r hr
theorem repQ_ev {f:Rat→Rat} {g:List Pt} : ∀ q∈repQ f g,f q.x=q.y:=fun q hq=>by
 obtain ⟨r,_,rfl⟩:=List.mem_map.1 hq
 rfl
def repG (f:Rat→Rat) (g:List Pt) (i:Nat):List Pt:=repQ f (g.take i)++g.drop i
theorem repG_len (f:Rat→Rat) (g:List Pt) (i:Nat):(repG f g i).length=g.length:=by
 rw[repG,List.length_append,repQ_len,List.length_take,List.length_drop];omega
theorem repG_all (f:Rat→Rat) (g:List Pt):repG f g g.length=repQ f g:=by
 rw[repG,List.take_length,List.drop_length,List.append_nil]
theorem repG_at {f:Rat→Rat} {g:List Pt} {i:Nat} {r:Pt} (h:g[i]? = some r):(repG f g i)[i]? = some r:=by
 have hi:=(List.getElem?_eq_some_iff.1 h).1
 rw[repG,List.getElem?_append_right (by rw[repQ_len,List.length_take];omega),repQ_len,List.length_take,List.getElem?_drop,←h]
 congr 1;omega
theorem repG_set {f:Rat→Rat} {g:List Pt} {i:Nat} {r:Pt} (h:g[i]? = some r):(repG f g i).set i ⟨r.x,f r.x,r.w⟩=repG f g (i+1):=by
 obtain ⟨hi,rfl⟩:=List.getElem?_eq_some_iff.1 h
 have hl:(repQ f (g.take i)).length=i:=by rw[repQ_len,List.length_take];omega
 rw[repG,List.set_append,if_neg (by omega),hl,Nat.sub_self,repG,List.drop_eq_getElem_cons hi,List.set_cons_zero,List.take_succ_eq_append_getElem hi,repQ,repQ,List.map_append,List.map_singleton,List.append_assoc]
 rfl
end Go.Eng

namespace Go.Eng
open F
theorem StR.want {g:List Pt} {i:Nat} {y:Rat} {p:Pt} {vs:List AV} {K:List (List AV)→Prop} (hp:g[i]? = some p) (he:vs=eQ y) (h:K ((g.set i ⟨p.x,y,p.w⟩).map eP)):StR (g.map eP) (0+((i:Int)).toNat) 3 vs K:=by
 subst he
 rw[Nat.zero_add,Int.toNat_natCast]
 refine ⟨eP p,by rw[List.getElem?_map,hp];rfl,by simp [eP,eQ,rQ],?_⟩
 rw[List.map_set]at h
 exact h
attribute [local irreducible] AKM CmpP Req OpP UnP ConvP RdP LdR StR MkR LenP AppR AppN CpyR RowP SnR Bds SlS CallP CalP FinP pw LdM GetM SetM PutM MkM AppM SnM FlP CallR
attribute [local irreducible] CalS
set_option maxHeartbeats 16000000
variable {L:Lib}
theorem ev_law14_LeastExact (N:LawLLib L) (l m:List Int) (q1 q2:Bool) (ll:l.length<9223372036854775808) (lm:m.length<9223372036854775808) (vl : ∀ v∈l,InI v) (vm : ∀ v∈m,InI v) :
  Ev L 272 [.sl q1 (l.map encInt),.sl q2 (m.map encInt)] (.bool true):=by
 have hA:=ev_awake14 N
 have hO:=ev_r3_Of N.toRefGLib (-1) (by omega)
 refine Ev.x N.law14_LeastExact rfl rfl ?_
 (repeat' (refine AKM.x ?_;conv=>whnf))
 refine CalP.walk 1000 N.make_Grid rfl rfl ?_
 (repeat' (first|(refine AKM.x ?_;conv=>whnf)|(refine CallP.go (hO) ?_;conv=>whnf)))
 refine CalS.tape N.toMakGLib (a:=0) (by omega) vl (by omega) rfl fun t0 z0 y1 y2 y3 => ?_
 (conv=>whnf)
 (repeat' (refine OpP.add ?_ ?_;omega;conv=>whnf))
 obtain ⟨n,hn,hn2⟩ : ∃ n:Nat,1+z0=n∧(1≤n∧n≤12):=⟨(1+z0).toNat,by omega,by omega⟩
 rw[hn]
 refine AKM.loop4 (fun _ i _ _=>n-i) (fun (g:List Pt) (i:Nat) (x:Rat) (t:Nat)=>GridI g i x∧i≤n∧t≤1+4*i) (fun _ i _ _=>[(6,.int .i64 ((n:Int)-i)),(5,.row 255005 0 9 0 i)]) (fun g _ x t=>[(255005,255005,.rw 9 (g.map eP)),(255004,255004,.bx (eQ x)),(255009,255009,.bx [.sl q1 (l.map encInt),.int .i64 t])]) [] [] [] 0 ((-1:Int):Rat) t0 (by first|exact (by (conv=>whnf);exact ⟨rfl,rfl,rfl⟩)|(rw[show ((n:Int)-(0:Nat))=n by omega];exact (by (conv=>whnf);exact ⟨rfl,rfl,rfl⟩))) ⟨GridI.start,by omega,by omega⟩ ?_
 intro g i x t ⟨p0,p1,p2⟩ ih
 have p3:=p0.len
 by_cases hi:i<n
 ·(repeat' (first|(refine CmpP.go (fun hc => ?_) (fun hc => ?_)<;>first|(exfalso;omega)|(conv=>whnf))|(refine AKM.x ?_;conv=>whnf)))
  refine CalS.tape N.toMakGLib (by omega) vl (by omega) rfl fun t1 z1 c1 c2 c3 => ?_
  obtain ⟨a,b,ha,hb,hR⟩:=ev_mRat N.toGrdGLib z1 (by unfold InI;omega)
  have hbx:=p0.bx (by omega)
  (conv=>whnf)
  (repeat' (refine CallP.go (hR) ?_;conv=>whnf))
  refine CalS.tape N.toMakGLib (by omega) vl (by omega) rfl fun t2 z2 d1 d2 d3 => ?_
  (conv=>whnf)
  (repeat' (refine OpP.add ?_ ?_;omega;conv=>whnf))
  refine CalS.tape N.toMakGLib (by omega) vl (by omega) rfl fun t3 z3 e1 e2 e3 => ?_
  have hF:=ev_r3_Frac N.toRefGLib (1+z2) (1+z3) (by omega) (by omega)
  (conv=>whnf)
  (repeat' (first|(refine OpP.add ?_ ?_;omega;conv=>whnf)|(refine RowP.e1 ?_;conv=>whnf)|(refine CallP.go (hF) ?_;conv=>whnf)))
  refine AppR.one (enc:=eP) ⟨x,Rat.divInt a b,Rat.divInt (1+z2) (1+z3)⟩ rfl p3.symm rfl (by omega) (by omega) ?_
  rw[show (g++[(⟨x,Rat.divInt a b,Rat.divInt (1+z2) (1+z3)⟩:Pt)]).length=i+1 by simp [p3]]
  (conv=>whnf)
  skip
  refine CalS.tape N.toMakGLib (by omega) vl (by omega) rfl fun t4 z4 f1 f2 f3 => ?_
  have hF2:=ev_r3_Frac N.toRefGLib (1+z4) 12 (by omega) (by omega)
  have hst:=p0.step (by omega) ha hb (c:=1+z2) (d:=1+z3) (s:=1+z4) (by omega) (by omega) (by omega)
  have hAd:=ev_add3 N.toRefGLib hbx (y:=Rat.divInt (1+z4) 12) (l:=20) (Bt.of_wh (m:=4) (M:=12) (k:=6) (by omega) (by decide) (wh_frac (T:=1) (by omega) (by decide) (by show (1*(1+z4)).natAbs≤64;omega)) |>.le (by omega)) (by omega) (by omega)
  generalize x+Rat.divInt (1+z4) 12=x2 at *
  (conv=>whnf)
  (repeat' (first|(refine OpP.add ?_ ?_;omega;conv=>whnf)|(refine OpP.sub ?_ ?_;omega;conv=>whnf)|(refine CallP.go (hF2) ?_;conv=>whnf)|(refine CallP.go (hAd) ?_;conv=>whnf)))
  rw[show (n:Int)-(i:Int)-1=(n:Int)-((i+1:Nat):Int) by omega]
  exact AKM.back [(255005,255032)] (by (conv=>whnf);exact ⟨rfl,rfl,rfl⟩) (ih (g++[⟨x,Rat.divInt a b,Rat.divInt (1+z2) (1+z3)⟩]) (i+1) x2 t4 (by omega) ⟨hst,by omega,by omega⟩)
 ·have ei:i=n:=by omega
  subst ei
  clear ih hO hn y1 y2 y3
  have hg:=p0.fin (by omega)
  clear p0 p2
  clear p1
  (repeat' (first|(refine CmpP.go (fun hc => ?_) (fun hc => ?_)<;>first|(exfalso;omega)|(conv=>whnf))|(refine AKM.x ?_;conv=>whnf)))
  refine ⟨rfl,_,rfl,?_⟩
  (conv=>whnf)
  subst p3
  by_cases h6:6<g.length
  ·(repeat' (first|(refine CmpP.go (fun hc => ?_) (fun hc => ?_)<;>first|(exfalso;omega)|(conv=>whnf))|(refine OpP.sub ?_ ?_;omega;conv=>whnf)))
   obtain ⟨p,hpt,hpl,hpb,hpw,hP⟩:=ev_mPoly N.toGrdGLib q2 m 5 (by omega) lm vm
   obtain ⟨f,hf0⟩ : ∃ f:Rat→Rat,f=evQ p:=⟨_,rfl⟩
   (repeat' (refine CallP.go (hP) ?_;conv=>whnf))
   refine AKM.loop1 (fun k=>g.length-k) (fun (k:Nat)=>k≤g.length) (fun k=>[(24,.int .i64 k)]) (fun k=>[(255005,255005,.rw 9 ((repG f g k).map eP))]) [] [] 0 (by (conv=>whnf);exact ⟨rfl,rfl,rfl⟩) (by omega) ?_
   intro k k1 ih
   have hrl:=repG_len f g k
   by_cases hk:k<g.length
   ·obtain ⟨r,hr⟩ : ∃ r,g[k]? = some r:=⟨_,List.getElem?_eq_getElem (by omega)⟩
    have hE:=ev_r5_Eval N.toR05HLib false p r.x 24 10 (by omega) hpb (hg.bx (List.mem_of_getElem? hr)) (by omega) (by omega)
    have hst:=repG_set (f:=f) hr
    have hat:=repG_at (f:=f) hr
    rw[←hf0]at hE
    generalize repG f g k=G at *
    generalize hG1:repG f g (k+1)=G1 at hst
    generalize f r.x=y at *
    (repeat' (first|(refine CmpP.go (fun hc => ?_) (fun hc => ?_)<;>first|(exfalso;omega)|(conv=>whnf))|(refine Req.go ?_ ?_;omega;conv=>whnf)|(refine LdR.nat ?_ (fun _=>rfl) (fun v hv => ?_);omega;conv=>whnf)|(refine AKM.x ?_;conv=>whnf)))
    obtain rfl:r=v:=Option.some.inj (hat.symm.trans hv)
    (repeat' (first|(refine Req.go ?_ ?_;omega;conv=>whnf)|(refine CallP.go (hE) ?_;conv=>whnf)))
    refine StR.want hat rfl ?_
    rw[hst]
    (conv=>whnf)
    subst hG1
    (repeat' (refine OpP.add ?_ ?_;omega;conv=>whnf))
    exact AKM.back [] (by (conv=>whnf);exact ⟨rfl,rfl,rfl⟩) (ih (k+1) (by omega) (by omega))
   ·have ek:k=g.length:=by omega
    clear ih
    have hgr:GridW (840*12^5) 49 (repQ f g):=repQ_ok hg fun r hr=>by
     rw[hf0,Rat.natCast_mul,Rat.natCast_pow]
     exact ev_wh (hg.wx r hr) 5 p (by omega) hpw
    have hrq:=repQ_len f g
    have hev : ∀ q∈repQ f g,evQ p q.x=q.y:=by
     rw[←hf0];exact repQ_ev
    obtain ⟨c,hcl,hor,hcb,hD⟩:=(ev_Design N.toLsqGLib true (repQ f g) 5 (840*12^5) 49 28 hgr (by decide) (by decide) (by omega) (by omega) (by omega)).2 (by omega)
    have hfd:=exact_found hgr.ok (n:=5+1) (by omega) hpt (by omega) hev hcl hor
    rw[hfd,errP_zero hev]at hD
    have hEq:=ev_r5_Equal N.toR05GLib false false p 24 hpb (by omega) (by omega)
    obtain ⟨sg,hSg,hsz⟩:=ev_sign3 N.toRefHLib (Bt.zero 1) (by omega)
    obtain rfl:sg=0:=hsz.2 rfl
    rw[ek,repG_all]
    generalize repQ f g=G at *
    (repeat' (first|(refine CmpP.go (fun hc => ?_) (fun hc => ?_)<;>first|(exfalso;omega)|(conv=>whnf))|(refine AKM.x ?_;conv=>whnf)))
    refine SnR.all (enc:=eP) (fun _=>rfl) rfl hrq.symm ?_
    (conv=>whnf)
    (repeat' (first|(refine CmpP.go (fun hc => ?_) (fun hc => ?_)<;>first|(exfalso;omega)|(conv=>whnf))|(refine CallP.go (hD) ?_;conv=>whnf)|(refine CallP.go (hA) ?_;conv=>whnf)|(refine CallP.go (hEq) ?_;conv=>whnf)|(refine CallP.go (hSg) ?_;conv=>whnf)))
    exact FinP.b rfl
  ·(repeat' (first|(refine CmpP.go (fun hc => ?_) (fun hc => ?_)<;>first|(exfalso;omega)|(conv=>whnf))|(refine OpP.sub ?_ ?_;omega;conv=>whnf)))
   rw[show (g.length:Int)-1=((g.length-1:Nat):Int) by omega]
   obtain ⟨p,hpt,hpl,hpb,hpw,hP⟩:=ev_mPoly N.toGrdGLib q2 m (g.length-1) (by omega) lm vm
   obtain ⟨f,hf0⟩ : ∃ f:Rat→Rat,f=evQ p:=⟨_,rfl⟩
   (repeat' (refine CallP.go (hP) ?_;conv=>whnf))
   refine AKM.loop1 (fun k=>g.length-k) (fun (k:Nat)=>k≤g.length) (fun k=>[(24,.int .i64 k)]) (fun k=>[(255005,255005,.rw 9 ((repG f g k).map eP))]) [] [] 0 (by (conv=>whnf);exact ⟨rfl,rfl,rfl⟩) (by omega) ?_
   intro k k1 ih
   have hrl:=repG_len f g k
   by_cases hk:k<g.length
   ·obtain ⟨r,hr⟩ : ∃ r,g[k]? = some r:=⟨_,List.getElem?_eq_getElem (by omega)⟩
    have hE:=ev_r5_Eval N.toR05HLib false p r.x 24 10 (by omega) hpb (hg.bx (List.mem_of_getElem? hr)) (by omega) (by omega)
    have hst:=repG_set (f:=f) hr
    have hat:=repG_at (f:=f) hr
    rw[←hf0]at hE
    generalize repG f g k=G at *
    generalize hG1:repG f g (k+1)=G1 at hst
    generalize f r.x=y at *
    (repeat' (first|(refine CmpP.go (fun hc => ?_) (fun hc => ?_)<;>first|(exfalso;omega)|(conv=>whnf))|(refine Req.go ?_ ?_;omega;conv=>whnf)|(refine LdR.nat ?_ (fun _=>rfl) (fun v hv => ?_);omega;conv=>whnf)|(refine AKM.x ?_;conv=>whnf)))
    obtain rfl:r=v:=Option.some.inj (hat.symm.trans hv)
    (repeat' (first|(refine Req.go ?_ ?_;omega;conv=>whnf)|(refine CallP.go (hE) ?_;conv=>whnf)))
    refine StR.want hat rfl ?_
    rw[hst]
    (conv=>whnf)
    subst hG1
    (repeat' (refine OpP.add ?_ ?_;omega;conv=>whnf))
    exact AKM.back [] (by (conv=>whnf);exact ⟨rfl,rfl,rfl⟩) (ih (k+1) (by omega) (by omega))
   ·have ek:k=g.length:=by omega
    clear ih
    have hgr:GridW (840*12^5) 49 (repQ f g):=repQ_ok hg fun r hr=>by
     rw[hf0,Rat.natCast_mul,Rat.natCast_pow]
     exact ev_wh (hg.wx r hr) 5 p (by omega) hpw
    have hrq:=repQ_len f g
    have hev : ∀ q∈repQ f g,evQ p q.x=q.y:=by
     rw[←hf0];exact repQ_ev
    obtain ⟨c,hcl,hor,hcb,hD⟩:=(ev_Design N.toLsqGLib true (repQ f g) (g.length-1) (840*12^5) 49 28 hgr (by decide) (by decide) (by omega) (by omega) (by omega)).2 (by omega)
    have hfd:=exact_found hgr.ok (n:=(g.length-1)+1) (by omega) hpt (by omega) hev hcl hor
    rw[hfd,errP_zero hev]at hD
    have hEq:=ev_r5_Equal N.toR05GLib false false p 24 hpb (by omega) (by omega)
    obtain ⟨sg,hSg,hsz⟩:=ev_sign3 N.toRefHLib (Bt.zero 1) (by omega)
    obtain rfl:sg=0:=hsz.2 rfl
    rw[ek,repG_all]
    generalize repQ f g=G at *
    (repeat' (first|(refine CmpP.go (fun hc => ?_) (fun hc => ?_)<;>first|(exfalso;omega)|(conv=>whnf))|(refine AKM.x ?_;conv=>whnf)))
    refine SnR.all (enc:=eP) (fun _=>rfl) rfl hrq.symm ?_
    (conv=>whnf)
    (repeat' (first|(refine CmpP.go (fun hc => ?_) (fun hc => ?_)<;>first|(exfalso;omega)|(conv=>whnf))|(refine CallP.go (hD) ?_;conv=>whnf)|(refine CallP.go (hA) ?_;conv=>whnf)|(refine CallP.go (hEq) ?_;conv=>whnf)|(refine CallP.go (hSg) ?_;conv=>whnf)))
    exact FinP.b rfl
end Go.Eng
