/-
  Rational numbers in lowest terms: the arithmetic of the references.
-/
import Derived.Test.YtdehnieflanifaaGreatB10
import Derived.Test.YtdehnieflanifaaGreatB9
import Derived.Test.YtdehnieflanifaaGreatB8
import Derived.Test.YtdehnieflanifaaGreatB7
import Derived.Test.YtdehnieflanifaaGreatB4
import Derived.Test.YtdehnieflanifaaGreatB5
import Derived.Test.YtdehnieflanifaaGreatB1
import Derived.Test.YtdehnieflanifaaGreatB3
import Derived.ProofKit
import Derived.OpenShut
import Derived.ChangeOld
import Derived.WalkKit
import Derived.WideShapes
import Derived.ChangeArms
set_option linter.unusedSimpArgs false
set_option linter.unusedVariables false
set_option linter.unnecessarySimpa false
namespace Go.Eng
open F
attribute [local irreducible] AKM CmpP Req OpP UnP ConvP RdP LdR StR MkR LenP AppR AppN CpyR RowP SnR Bds SlS CallP CalP FinP pw LdM GetM SetM PutM MkM AppM SnM FlP CallR
set_option maxHeartbeats 4000000
variable {L:Lib}
theorem Bt.sm3 {k:Nat} {x:Rat} (h:Bt k x) (hk:k<2199023255552):Sm 68719476736 (dg x.num.natAbs)∧Sm 68719476736 (dg x.den):=h.dig (by omega)
theorem ev_add3 (N:RefGLib L) {x y:Rat} {k l:Nat} (hx:Bt k x) (hy:Bt l y) (hk:k<2199023255552) (hl:l<2199023255552):Ev L 126 [.agg (eQ x),.agg (eQ y)] (.agg (eQ (x+y))):=by
 have:=ev_r3_Add N 68719476736 (by omega) (decide (x.num<0)) (decide (y.num<0)) false false _ _ _ _ (hx.sm3 hk).1 (hx.sm3 hk).2 (hy.sm3 hl).1 (hy.sm3 hl).2
 rw[qv_of,qv_of]at this
 exact this
theorem ev_cmp3 (N:RefGLib L) {x y:Rat} {k l:Nat} (hx:Bt k x) (hy:Bt l y) (hk:k<2199023255552) (hl:l<2199023255552):Ev L 127 [.agg (eQ x),.agg (eQ y)] (.int .i64 (sgn (x-y).num)):=by
 have:=ev_r3_Compare N 68719476736 (by omega) (decide (x.num<0)) (decide (y.num<0)) false false _ _ _ _ (hx.sm3 hk).1 (hx.sm3 hk).2 (hy.sm3 hl).1 (hy.sm3 hl).2
 rw[qv_of,qv_of]at this
 exact this
theorem sgn_sub {x y:Rat}:sgn (x-y).num=0↔x=y:=by
 have h:sgn (x-y).num=0↔(x-y).num=0:=by unfold sgn;split<;>(try split)<;>omega
 rw[h,Rat.num_eq_zero]
 constructor
 ·intro h;grind
 ·rintro rfl;exact Rat.sub_self
theorem ev_SameRats (N:RefGLib L) (a b:List Rat) (q1 q2:Bool) (k:Nat) (ha:Bs k a) (hb:Bs k b) (hk:k<2199023255552) (hl:a.length≤1099511627776):Ev L 129 [.sl q1 (a.map eQ),.sl q2 (b.map eQ)] (.bool (decide (a=b))):=by
 refine Ev.x N.ref21_SameRats rfl rfl ?_
 by_cases hlen:a.length=b.length
 ·(repeat' (first|(refine CmpP.go (fun hc => ?_) (fun hc => ?_)<;>first|(exfalso;omega)|(conv=>whnf))|(refine LenP.go ?_;conv=>whnf)|(refine AKM.x ?_;conv=>whnf)))
  refine AKM.loop1 (fun i=>a.length-i) (fun (i:Nat)=>i≤a.length∧a.take i=b.take i) (fun i=>[(5,.int .i64 i)]) (fun _=>[]) [] [] 0 (by (conv=>whnf);exact ⟨rfl,rfl,rfl⟩) ⟨by omega,rfl⟩ ?_
  intro i ⟨p1,p2⟩ ih
  by_cases hi:i<a.length
  ·obtain ⟨x,hx⟩ : ∃ x,a[i]? = some x:=⟨_,List.getElem?_eq_getElem hi⟩
   obtain ⟨y,hy⟩ : ∃ y,b[i]? = some y:=⟨_,List.getElem?_eq_getElem (by omega)⟩
   have hx':a[(i:Int).toNat]? = some x:=hx
   have hy':b[(i:Int).toNat]? = some y:=hy
   have hC3:=ev_cmp3 N (ha.at hx) (hb.at hy) hk hk
   have hs:=sgn_sub (x:=x) (y:=y)
   generalize sgn (x-y).num=sg at *
   by_cases hxy:x=y
   ·have h0:sg=0:=hs.2 hxy
    (repeat' (first|(refine CmpP.go (fun hc => ?_) (fun hc => ?_)<;>first|(exfalso;omega)|(conv=>whnf))|(refine OpP.add ?_ ?_;omega;conv=>whnf)|(refine LenP.go ?_;conv=>whnf)|(refine RdP.at (by assumption) ?_ rfl ?_;omega;conv=>whnf)|(refine AKM.x ?_;conv=>whnf)|(refine CallP.go (hC3) ?_;conv=>whnf)))
    refine AKM.back [] (by (conv=>whnf);exact ⟨rfl,rfl,rfl⟩) (ih (i+1) (by omega) ⟨by omega,?_⟩)
    rw[List.take_add_one,List.take_add_one,p2,hx,hy,hxy]
   ·have hne:sg≠0:=fun h=>hxy (hs.1 h)
    (repeat' (first|(refine CmpP.go (fun hc => ?_) (fun hc => ?_)<;>first|(exfalso;omega)|(conv=>whnf))|(refine LenP.go ?_;conv=>whnf)|(refine RdP.at (by assumption) ?_ rfl ?_;omega;conv=>whnf)|(refine AKM.x ?_;conv=>whnf)|(refine CallP.go (hC3) ?_;conv=>whnf)))
    refine FinP.df (fun h=>hxy ?_)
    rw[h,hy]at hx
    exact (Option.some.inj hx).symm
  ·obtain rfl:i=a.length:=by omega
   clear ih
   (repeat' (first|(refine CmpP.go (fun hc => ?_) (fun hc => ?_)<;>first|(exfalso;omega)|(conv=>whnf))|(refine LenP.go ?_;conv=>whnf)|(refine AKM.x ?_;conv=>whnf)))
   refine FinP.dt ?_
   rw[List.take_of_length_le (Nat.le_refl _),List.take_of_length_le (by omega)]at p2
   exact p2
 ·(repeat' (first|(refine CmpP.go (fun hc => ?_) (fun hc => ?_)<;>first|(exfalso;omega)|(conv=>whnf))|(refine LenP.go ?_;conv=>whnf)|(refine AKM.x ?_;conv=>whnf)))
  exact FinP.df (fun h=>hlen (by rw[h]))
end Go.Eng
namespace Go.Eng
def sumQ (vals:List Rat):List (Int × Int)→Rat
 | []=>0
 | t::ts=>(t.2:Rat)*vals.getD t.1.toNat 0+sumQ vals ts
theorem sumQ_snoc (vals:List Rat) (t:Int × Int) : ∀ ts,sumQ vals (ts++[t])=sumQ vals ts+(t.2:Rat)*vals.getD t.1.toNat 0
 | []=>by simp only[List.nil_append,sumQ];grind
 | u::ts=>by simp only[List.cons_append,sumQ];rw[sumQ_snoc vals t ts];grind
theorem sumQ_take {vals:List Rat} {ts:List (Int × Int)} {i:Nat} {t:Int × Int} (h:ts[i]? = some t):sumQ vals (ts.take (i+1))=sumQ vals (ts.take i)+(t.2:Rat)*vals.getD t.1.toNat 0:=by
 rw[List.take_add_one,h,Option.toList_some,sumQ_snoc]
def exS (u:Rat) (ex:Int):Nat→List Rat→List (List (Int × Int))→List Rat
 | _,vals,[]=>vals
 | k,vals,ts::r=>exS u ex (k+1) (vals++[sumQ vals ts/u+(if (k:Int)=ex then 1 else 0)]) r
theorem exS_len (u:Rat) (ex:Int) : ∀ (k:Nat) (vals:List Rat) (l:List (List (Int × Int))),(exS u ex k vals l).length=vals.length+l.length
 | _,_,[]=>rfl
 | k,vals,ts::r=>by rw[exS,exS_len u ex (k+1)];simp;omega
theorem Bs.getD {k:Nat} {l:List Rat} (h:Bs k l) (i:Nat):Bt k (l.getD i 0):=by
 rw[List.getD_eq_getElem?_getD]
 cases e:l[i]? with
 | none=>exact Bt.zero k
 | some x=>exact h.at e
theorem Bs.sum {k j:Nat} {vals:List Rat} (hv:Bs k vals) : ∀ (ts:List (Int × Int)),(∀ t∈ts,Bt j ((t.2:Int):Rat))→Bt (ts.length*(j+k+1)) (sumQ vals ts)
 | [],_=>Bt.zero _
 | t::ts,h=>by
  have h1:=(h t (by simp)).mul (hv.getD t.1.toNat)
  have h2:=Bs.sum hv ts (fun u hu=>h u (by simp [hu]))
  refine (h1.add h2).le ?_
  rw[List.length_cons,Nat.succ_mul];omega
def LinV (C:List (List Rat)) (z vals:List Rat):Prop := ∀ m,m<vals.length→vals.getD m 0=dotQ (C.map fun c=>c.getD m 0) z
theorem dotQ_smul (x:Rat) : ∀ (a z:List Rat),dotQ (a.map fun c=>x*c) z=x*dotQ a z
 | [],z=>by cases z<;>simp [dotQ]
 | p::a,[]=>by simp [dotQ]
 | p::a,q::z=>by
  simp only[List.map_cons,dotQ]
  rw[dotQ_smul x a z];grind
theorem dotQ_mapadd {α:Type} (f g:α→Rat) : ∀ (a:List α) (z:List Rat),dotQ (a.map fun c=>f c+g c) z=dotQ (a.map f) z+dotQ (a.map g) z
 | [],z=>by cases z<;>(simp only[List.map_nil,dotQ];grind)
 | p::a,[]=>by simp only[List.map_cons,dotQ];grind
 | p::a,q::z=>by
  simp only[List.map_cons,dotQ]
  rw[dotQ_mapadd f g a z];grind
theorem dotQ_zero {α:Type} : ∀ (a:List α) (z:List Rat),dotQ (a.map fun _=>(0:Rat)) z=0
 | [],z=>by cases z<;>rfl
 | p::a,[]=>rfl
 | p::a,q::z=>by
  simp only[List.map_cons,dotQ]
  rw[dotQ_zero a z];grind
theorem LinV.sum {C:List (List Rat)} {z vals:List Rat} (h:LinV C z vals) : ∀ (ts:List (Int × Int)),(∀ t∈ts,t.1.toNat<vals.length)→sumQ vals ts=dotQ (C.map fun c=>sumQ c ts) z
 | [],_=>(dotQ_zero C z).symm
 | t::ts,ht=>by
  simp only[sumQ]
  rw[dotQ_mapadd (fun c=>(t.2:Rat)*c.getD t.1.toNat 0) (fun c=>sumQ c ts),←LinV.sum h ts (fun u hu=>ht u (by simp [hu])),h _ (ht t (by simp))]
  have:=dotQ_smul (t.2:Rat) (C.map fun c=>c.getD t.1.toNat 0) z
  rw[List.map_map]at this
  rw[←this];rfl
theorem getD_snoc_lt {l:List Rat} {x:Rat} {m:Nat} (h:m<l.length):(l++[x]).getD m 0=l.getD m 0:=by
 rw[List.getD_eq_getElem?_getD,List.getD_eq_getElem?_getD,List.getElem?_append_left h]
theorem getD_snoc_eq {l:List Rat} {x:Rat} {m:Nat} (h:m=l.length):(l++[x]).getD m 0=x:=by
 subst h
 rw[List.getD_eq_getElem?_getD,List.getElem?_append_right (Nat.le_refl _)];simp
theorem LinV.all {u:Rat} (hu:u≠0) {z:List Rat} : ∀ (l:List (List (Int × Int))) (k:Nat) (C:List (List Rat)) (vals:List Rat),LinV C z vals→(∀ c∈C,c.length=vals.length)→(∀ i ts,l[i]? = some ts → ∀ t∈ts,t.1.toNat<vals.length+i) →
  LinV (C.map fun c=>exS u (-1) k c l) z (exS u (-1) k vals l)
 | [],_,C,vals,h,_,_=>by
  have e:(C.map fun c=>exS u (-1) 0 c [])=C:=by
   simp [exS]
  simpa [exS] using h
 | ts::l,k,C,vals,h,hc,ht=>by
  have hts:=ht 0 ts rfl
  have e0 : ¬ (k:Int) = -1:=by omega
  simp only[exS,if_neg e0,Rat.add_zero]
  have hs:=h.sum ts (fun t h1=>by have:=hts t h1;omega)
  have hstep:LinV (C.map fun c=>c++[sumQ c ts/u]) z (vals++[sumQ vals ts/u]):=by
   intro m hm
   simp only[List.length_append,List.length_cons,List.length_nil]at hm
   rw[List.map_map]
   by_cases hm2:m<vals.length
   ·rw[getD_snoc_lt hm2,h m hm2]
    congr 1
    refine List.map_congr_left fun c hcm => ?_
    simp only[Function.comp]
    rw[getD_snoc_lt (by rw[hc c hcm];exact hm2)]
   ·rw[getD_snoc_eq (by omega)]
    have e1:(C.map ((fun c=>c.getD m 0) ∘ fun c=>c++[sumQ c ts/u]))=C.map fun c=>u⁻¹*sumQ c ts:=by
     refine List.map_congr_left fun c hcm => ?_
     simp only[Function.comp]
     rw[getD_snoc_eq (by rw[hc c hcm];omega),Rat.div_def,Rat.mul_comm]
    rw[e1,hs,Rat.div_def,Rat.mul_comm]
    have:=dotQ_smul u⁻¹ (C.map fun c=>sumQ c ts) z
    rw[List.map_map]at this
    rw[←this];rfl
  have ih:=LinV.all hu l (k+1) (C.map fun c=>c++[sumQ c ts/u]) (vals++[sumQ vals ts/u]) hstep (fun c hcm=>by
   obtain ⟨c0,h0,rfl⟩:=List.mem_map.1 hcm
   simp [hc c0 h0]) (fun i ts2 h2 t h3=>by
   have:=ht (i+1) ts2 h2 t h3
   simp;omega)
  rw[List.map_map]at ih
  exact ih
def gS:Nat→Nat
 | 0=>0
 | i+1=>5*gS i+150
theorem gS_mono (i:Nat):gS i≤gS (i+1):=by rw[gS];omega
theorem Bt.ofInt {k:Nat} {z:Int} (h:z.natAbs≤2^k):Bt k ((z:Int):Rat):=⟨by rw[Rat.num_intCast];exact h,by rw[Rat.den_intCast];exact Nat.one_le_two_pow⟩
theorem Bt.divz {k j:Nat} {x:Rat} {z:Int} (h:Bt k x) (hz:1≤z) (hj:z.natAbs≤2^j):Bt (k+j) (x/(z:Rat)):=by
 obtain ⟨d,rfl⟩:=Int.eq_ofNat_of_zero_le (show 0≤z by omega)
 have e:x/((d:Int):Rat)=x*mkRat 1 d:=by
  rw[Rat.div_def,Rat.mkRat_eq_div,Rat.div_def]
  congr 1
  rw[show ((1:Int):Rat)=1 from rfl,Rat.one_mul];rfl
 rw[e]
 exact h.mul (Bt.mk (by simp;exact Nat.one_le_two_pow) (by simpa using hj))
structure SmallN (l:List (List (Int × Int))):Prop where
 len : ∀ ts∈l,ts.length≤5
 cf : ∀ ts∈l,∀ t∈ts,t.2.natAbs≤2^24
theorem node_bt {ts:List (Int × Int)} {vals:List Rat} {k:Nat} {z:Int} (h1:ts.length≤5) (h2 : ∀ t∈ts,t.2.natAbs≤2^24) (hv:Bs k vals) (hz:1≤z) (hz2:z.natAbs≤2^24) (b:Bool):Bt (5*k+150) (sumQ vals ts/(z:Rat)+(if b=true then 1 else 0)):=by
 have a1:=hv.sum ts (j:=24) (fun t ht=>Bt.ofInt (h2 t ht))
 have a2:Bt (5*(24+k+1)) (sumQ vals ts):=a1.le (Nat.mul_le_mul_right _ h1)
 have a3:=a2.divz hz hz2
 have a4:Bt 0 (if b=true then (1:Rat) else 0):=by cases b<;>first|exact Bt.zero 0|exact Bt.one 0
 exact (a3.add a4).le (by omega)
theorem exS_bs {z ex:Int} (hz:1≤z) (hz2:z.natAbs≤2^24) : ∀ (l:List (List (Int × Int))) (k:Nat) (vals:List Rat),SmallN l→Bs (gS k) vals→Bs (gS (k+l.length)) (exS (z:Rat) ex k vals l)
 | [],k,vals,_,hv=>hv
 | ts::l,k,vals,h,hv=>by
  have h1:=node_bt (h.len ts (by simp)) (h.cf ts (by simp)) hv hz hz2 (decide ((k:Int)=ex))
  simp only[decide_eq_true_eq]at h1
  rw[exS,List.length_cons,show k+(l.length+1)=k+1+l.length by omega]
  refine exS_bs hz hz2 l (k+1) _ ⟨fun t ht=>h.len t (by simp [ht]),fun t ht=>h.cf t (by simp [ht])⟩ ?_
  intro x hx
  rcases List.mem_append.1 hx with hx|hx
  ·exact (hv x hx).le (gS_mono k)
  ·simp only[List.mem_singleton]at hx
   rw[hx]
   exact h1
theorem exS_take (u:Rat) (ex:Int) (vals:List Rat) (l:List (List (Int × Int))) (i:Nat) (ts:List (Int × Int)) (h:l[i]? = some ts):exS u ex 0 vals (l.take (i+1))=exS u ex 0 vals (l.take i)++[sumQ (exS u ex 0 vals (l.take i)) ts/u+(if (i:Int)=ex then 1 else 0)]:=by
 have key : ∀ (l:List (List (Int × Int))) (k:Nat) (vals:List Rat) (ts:List (Int × Int)),exS u ex k vals (l++[ts])=exS u ex k vals l++[sumQ (exS u ex k vals l) ts/u+(if ((k+l.length:Nat):Int)=ex then 1 else 0)]:=by
  intro l
  induction l with
  | nil=>intro k vals ts;simp [exS]
  | cons a l ih =>
   intro k vals ts
   rw[List.cons_append,exS,ih,exS,List.length_cons,show k+1+l.length=k+(l.length+1) by omega]
 have hi:=(List.getElem?_eq_some_iff.1 h).1
 rw[List.take_add_one,h,Option.toList_some,key,List.length_take,Nat.min_eq_left (by omega),Nat.zero_add]
end Go.Eng

namespace Go.Eng
theorem mxB_none (σ:Stp) (k:Nat) : ∀ (n i:Nat),mxB σ k i (List.replicate n none)=List.replicate n [.nil]
 | 0,_=>rfl
 | n+1,i=>by
  rw[List.replicate_succ,List.replicate_succ]
  show [AV.nil]::mxB σ k (i+1) (List.replicate n none)=_
  rw[mxB_none σ k n (i+1)]
theorem AKM.mxN {L:Lib} {kk:List It} {tm:Tm} {M:Mem} {Q:Tm→Mem→Prop} (k s n:Nat) (e:mget M k=some (s,.mx (List.replicate n none))) (h:AKM L kk tm ((k,s,.rw 1 (List.replicate n [.nil]))::M) Q):AKM L kk tm M Q:=by
 intro σ st hr
 have hg : ∀ j t c,mref ((k,s,.rw 1 (List.replicate n [.nil]))::M) j t=some c → ∃ c0,mref M j t=some c0∧c0.blk σ j=c.blk σ j:=by
  intro j t c g
  by_cases hj:j=k
  ·subst hj
   cases t with
   | zero =>
    have h1:mget ((j,s,Cel.rw 1 (List.replicate n [.nil]))::M) j=some (s,.rw 1 (List.replicate n [.nil])):=by simp [mget]
    simp only[mref,h1,Option.some.injEq]at g
    subst g
    refine ⟨.mx (List.replicate n none),by simp only[mref,e],?_⟩
    simp only[Cel.blk,mxB_none]
   | succ i =>
    have h1:mget ((j,s,Cel.rw 1 (List.replicate n [.nil]))::M) j=some (s,.rw 1 (List.replicate n [.nil])):=by simp [mget]
    simp only[mref,h1]at g
    cases g
  ·have h1:mget ((k,s,Cel.rw 1 (List.replicate n [.nil]))::M) j=mget M j:=by
    have hb:Nat.beq j k=false:=by
     cases hbb:Nat.beq j k with
     | false=>rfl
     | true=>exact absurd (Nat.eq_of_beq_eq_true hbb) hj
    simp only[mget,hb,cond_false]
   refine ⟨c,?_,rfl⟩
   simp only[mref,h1]at g ⊢
   exact g
 refine h σ st ⟨hr.tm,⟨?_,?_,?_,?_⟩⟩
 ·intro j s' c g
  by_cases hj:j=k
  ·subst hj
   have h1:mget ((j,s,Cel.rw 1 (List.replicate n [.nil]))::M) j=some (s,.rw 1 (List.replicate n [.nil])):=by simp [mget]
   rw[h1]at g
   simp only[Option.some.injEq,Prod.mk.injEq]at g
   obtain ⟨rfl,_⟩:=g
   exact hr.sat.site _ _ _ e
  ·have h1:mget ((k,s,Cel.rw 1 (List.replicate n [.nil]))::M) j=mget M j:=by
    have hb:Nat.beq j k=false:=by
     cases hbb:Nat.beq j k with
     | false=>rfl
     | true=>exact absurd (Nat.eq_of_beq_eq_true hbb) hj
    simp only[mget,hb,cond_false]
   rw[h1]at g
   exact hr.sat.site _ _ _ g
 ·intro j t c g
  obtain ⟨c0,q1,q2⟩:=hg j t c g
  rw[←q2];exact hr.sat.blk _ _ _ q1
 ·intro j t c g
  obtain ⟨c0,q1,_⟩:=hg j t c g
  exact hr.sat.old _ _ _ q1
 ·intro j t j' t' c c' g g' hσ
  obtain ⟨c0,q1,_⟩:=hg j t c g
  obtain ⟨c1,q2,_⟩:=hg j' t' c' g'
  exact hr.sat.inj _ _ _ _ _ _ q1 q2 hσ
end Go.Eng

namespace Go.Eng
variable {L:Lib}
def RetR (fn:AFn) (z:Nat) (es:List (List AV)) (tm:Tm) (M:Mem):Prop:=match fn.res with
 | [.tmp t]=>match tg tm t with
  | .row k 0 z' 0 n=>match mget M k with
   | some (_,.rw z'' es')=>z'=z∧z''=z∧n=es.length∧es'=es∧CleanLL es
   | _=>False
  | _=>False
 | _=>False
theorem EvR.x {f:Nat} {fn:AFn} {vs:List AV} {z:Nat} {es:List (List AV)} (hL:L f=some fn) (hp:Nat.beq vs.length fn.pars=true) (hd:datAL vs=true) (h:AKM L [.code fn.body] (initTm 0 vs) [] (RetR fn z es)):EvR L f vs z es:=by
 obtain ⟨n,c,st',hr,σ,tm,M,hR,hq⟩:=h (fun _ _=>(0,0)) ⟨initTm 0 vs,Own.emp⟩ ⟨fun j=>Or.inr (by rw[tg_eq];exact datAL_tg hd j),⟨(fun _ _ _ e=>by cases e),(fun _ _ _ e=>by simp [mref,mget]at e),(fun _ _ _ e=>by simp [mref,mget]at e),(fun _ _ _ _ _ _ e=>by simp [mref,mget]at e)⟩⟩
 unfold RetR at hq
 split at hq
 ·rename_i t hres
  split at hq
  ·rename_i k z' m htm
   split at hq
   ·rename_i s z'' es' hM
    obtain ⟨rfl,rfl,rfl,rfl,hcl⟩:=hq
    have hv:tget st'.tm t = .row (σ k 0).1 (σ k 0).2 z'' 0 es'.length:=by
     rcases hR.tm t with e|e
     ·rw[htm]at e;cases e
     ·rw[e,htm];rfl
    have hb:=hR.sat.blk k 0 (.rw z'' es') (by simp only[mref,hM])
    obtain ⟨q,hq⟩:=EvI.intro (r := .row (σ k 0).1 (σ k 0).2 z'' 0 es'.length) (o':=st'.own) hL (beq_iff.1 hp) ⟨n,c,st',hr,by simp [hres,resOf,hv,resTmp,resVal],rfl⟩
    refine ⟨q,?_⟩
    simp only[hq,adoptR,Own.get,hb]
    rw[if_pos (show (Cel.blk σ k (.rw z'' es')).es.length=es'.length∧CleanLL (Cel.blk σ k (.rw z'' es')).es from ⟨rfl,hcl⟩)]
    rfl
   ·exact hq.elim
  ·exact hq.elim
 ·exact hq.elim
theorem CallR.go {α:Type} {enc:α→List AV} {l:List α} {f z:Nat} {vs:List AV} {K:Nat→List (List AV)→Nat→Prop} (n:Nat) (h:EvR L f vs z (l.map enc)) (hn:n=l.length) (hk:K z (l.map enc) n):CallR L f vs K:=⟨z,_,n,h,by simpa using hn,hk⟩
end Go.Eng

namespace Go.Eng
open F
attribute [local irreducible] AKM CmpP Req OpP UnP ConvP RdP LdR StR MkR LenP AppR AppN CpyR RowP SnR Bds SlS CallP CalP FinP pw LdM GetM SetM PutM MkM AppM SnM FlP CallR
set_option maxHeartbeats 4000000
variable {L:Lib}
def intsQ (l:List Int):List Rat:=l.map fun v=>((v:Int):Rat)
theorem ev_Ints (N:IntsGLib L) (l:List Int) (q:Bool) (hl : ∀ x∈l,InI x) (hn:l.length≤1000000):Ev L 147 [.sl q (l.map encInt)] (.sl false ((intsQ l).map eQ)):=by
 refine Ev.x N.world_Ints rfl rfl ?_
 (repeat' (refine AKM.x ?_;conv=>whnf))
 refine AKM.loop1 (fun i=>l.length-i) (fun (i:Nat)=>i≤l.length) (fun i=>[(4,.int .i64 i),(3,.row 3 0 3 0 i)]) (fun i=>[(3,3,.rw 3 ((intsQ (l.take i)).map eQ))]) [] [] 0 (by (conv=>whnf);exact ⟨rfl,rfl,rfl⟩) (by omega) ?_
 intro i p1 ih
 have hlen:(intsQ (l.take i)).length=i:=by simp [intsQ];omega
 by_cases hi:i<l.length
 ·obtain ⟨x,hx⟩ : ∃ x,l[i]? = some x:=⟨_,List.getElem?_eq_getElem hi⟩
  have hx':l[(i:Int).toNat]? = some x:=hx
  have hI:=hl x (List.mem_of_getElem? hx)
  unfold InI at hI
  have hO:=ev_r3_Of N.toRefGLib x hI
  have hsn:intsQ (l.take (i+1))=intsQ (l.take i)++[((x:Int):Rat)]:=by rw[List.take_add_one,hx];simp [intsQ]
  (repeat' (first|(refine CmpP.go (fun hc => ?_) (fun hc => ?_)<;>first|(exfalso;omega)|(conv=>whnf))|(refine LenP.go ?_;conv=>whnf)|(refine RdP.at (by assumption) ?_ rfl ?_;omega;conv=>whnf)|(refine RowP.e1 ?_;conv=>whnf)|(refine AKM.x ?_;conv=>whnf)|(refine CallP.go (hO) ?_;conv=>whnf)))
  refine AppR.one (enc:=eQ) ((x:Int):Rat) rfl hlen.symm rfl (by omega) (by rw[hlen];omega) ?_
  rw[←hsn,show (intsQ (List.take (i+1) l)).length=i+1 by simp [intsQ];omega]
  (repeat' (refine OpP.add ?_ ?_;omega;conv=>whnf))
  exact AKM.back [(3,18)] (by (conv=>whnf);exact ⟨rfl,rfl,rfl⟩) (ih (i+1) (by omega) (by omega))
 ·obtain rfl:i=l.length:=by omega
  clear ih
  rw[List.take_of_length_le (Nat.le_refl _)]at *
  (repeat' (first|(refine CmpP.go (fun hc => ?_) (fun hc => ?_)<;>first|(exfalso;omega)|(conv=>whnf))|(refine LenP.go ?_;conv=>whnf)|(refine AKM.x ?_;conv=>whnf)))
  refine SnR.all (enc:=eQ) (fun _=>rfl) rfl (by simp [intsQ]) ?_
  exact FinP.go rfl (by simp only[Clean,true_and];exact cl_eQs _)
def tsOf (n:Nt):List (List (Int × Int)):=n.nodes.map Nd.ts
def spreadQ (n:Nt) (src ex:Int):List Rat:=exS ((pw n.c.f:Int):Rat) ex 0 (unitL (1+n.s).toNat src) (tsOf n)
theorem nodesB_at {c:Wd} {s:Int} : ∀ {l:List Nd} {k j:Nat} {nd:Nd},nodesB c s k l=true→l[j]? = some nd→nd.ts.all (termB c s (k+j))=true
 | [],_,_,_,_,h=>by simp at h
 | e::l,k,0,nd,hb,h=>by
  simp only[List.getElem?_cons_zero,Option.some.injEq]at h
  subst h
  simp only[nodesB,Bool.and_eq_true]at hb
  exact hb.1.2
 | e::l,k,j+1,nd,hb,h=>by
  simp only[List.getElem?_cons_succ]at h
  simp only[nodesB,Bool.and_eq_true]at hb
  rw[show k+(j+1)=k+1+j by omega]
  exact nodesB_at hb.2 h
theorem unit_set (m p:Nat):(List.replicate m (0:Rat)).set p 1=unitL m p:=by
 refine List.ext_getElem? fun j => ?_
 simp only[unitL,List.getElem?_set,List.getElem?_map,List.getElem?_replicate,List.length_replicate]
 by_cases h:j<m
 ·rw[List.getElem?_range h]
  by_cases e:p=j
  ·subst e;simp [h]
  ·simp [h,e];intro h3;omega
 ·rw[List.getElem?_eq_none (by simpa using h)]
  simp [h]
  intro e;omega
theorem Bs.unit (k m:Nat) (p:Int):Bs k (unitL m p):=by
 intro x hx
 simp only[unitL,List.mem_map]at hx
 obtain ⟨a,_,rfl⟩:=hx
 split
 ·exact Bt.one k
 ·exact Bt.zero k
theorem ev_zerosR (N:SysGLib L) (m:Nat) (hm:m≤65536):EvR L 131 [.int .i64 (m:Int)] 3 ((List.replicate m (0:Rat)).map eQ):=by
 have hO:=ev_rational_Of N.toRatGLib 0 (by omega)
 refine EvR.x N.network_zeros rfl rfl ?_
 (repeat' (refine AKM.x ?_;conv=>whnf))
 refine MkR.go (enc:=eO) none m rfl rfl (by omega) ?_
 (conv=>whnf)
 skip
 refine AKM.loop1 (fun i=>m-i) (fun (i:Nat)=>i≤m) (fun i=>[(9,.int .i64 i)]) (fun i=>[(131006,131006,.rw 3 ((fillO (List.replicate i 0) m).map eO))]) [] [] 0 (by first|exact (by (conv=>whnf);exact ⟨rfl,rfl,rfl⟩)|(rw[←fillO_nil];exact (by (conv=>whnf);exact ⟨rfl,rfl,rfl⟩))) (by omega) ?_
 intro i p1 ih
 by_cases hi:i<m
 ·have hl:=fillO_len (l:=List.replicate i (0:Rat)) (m:=m) (by simp;omega)
  have hs:=fillO_set (l:=List.replicate i (0:Rat)) (m:=m) (x:=0) (by simp;omega)
  rw[List.length_replicate]at hs
  (repeat' (first|(refine CmpP.go (fun hc => ?_) (fun hc => ?_)<;>first|(exfalso;omega)|(conv=>whnf))|(refine Req.go ?_ ?_;omega;conv=>whnf)|(refine AKM.x ?_;conv=>whnf)|(refine CallP.go (hO) ?_;conv=>whnf)))
  refine StR.nat (enc:=eO) (some 0) rfl (fun e=>by cases e<;>rfl) (by omega) ?_
  (conv=>whnf)
  (repeat' (refine OpP.add ?_ ?_;omega;conv=>whnf))
  rw[hs]
  rw[show List.replicate i (0:Rat)++[0]=List.replicate (i+1) 0 by rw[List.replicate_succ']]
  exact AKM.back [] (by (conv=>whnf);exact ⟨rfl,rfl,rfl⟩) (ih (i+1) (by omega) (by omega))
 obtain rfl:i=m:=by omega
 clear ih
 rw[fillO_full (by simp)]
 (repeat' (first|(refine CmpP.go (fun hc => ?_) (fun hc => ?_)<;>first|(exfalso;omega)|(conv=>whnf))|(refine AKM.x ?_;conv=>whnf)))
 exact ⟨rfl,rfl,by simp,rfl,cl_eQs _⟩
theorem ev_spread (N:LinGLib L) (n:Nt) (src ex:Int) (hv:netB n=true) (hsm:SmallN (tsOf n)) (hnl:n.nodes.length≤4) (hs : -1≤src∧src≤n.s) (hex:InI ex):Ev L 144 [.agg (encN n),.int .i64 src,.int .i64 ex] (.sl false ((spreadQ n src ex).map eQ)):=by
 rw[netB_iff]at hv
 obtain ⟨h1,h2,h3,h4,h5,h6⟩:=hv
 have hwf:0≤n.c.f∧n.c.f≤62:=by unfold WV at h2;omega
 have hP:=ev_rational_Of N.toRatGLib (pw n.c.f) (by have:=pw_pos n.c.f;have:=pw_le62 hwf.2;omega)
 have hO:=ev_rational_Of N.toRatGLib 0 (by omega)
 have hI:=ev_rational_Of N.toRatGLib 1 (by omega)
 refine Ev.x N.network_spread rfl rfl ?_
 (repeat' (first|(refine OpP.add ?_ ?_;omega;conv=>whnf)|(refine AKM.x ?_;conv=>whnf)))
 obtain ⟨m,hm⟩ : ∃ m:Nat,1+n.s=m:=⟨_,(Int.toNat_of_nonneg (by omega)).symm⟩
 rw[hm]
 have hZ:=ev_zerosR N.toSysGLib m (by omega)
 refine CallR.go (enc:=eQ) m hZ (by simp) ?_
 (conv=>whnf)
 have hu1:=pw_pos n.c.f
 have hu2:(pw n.c.f).natAbs≤2^24:=by
  have hf:n.c.f<24:=by unfold WV at h2;omega
  have h9:(2:Nat)^n.c.f.toNat≤2^24:=Nat.pow_le_pow_right (by omega) (by omega)
  rw[pw]
  exact_mod_cast h9
 have hu0:((pw n.c.f:Int):Rat)≠0:=by
  intro e
  have:pw n.c.f=0:=by exact_mod_cast e
  omega
 have hlt:(tsOf n).length=n.nodes.length:=by simp [tsOf]
 have hvals : ∀ j,j≤n.nodes.length→Bs 23400 (exS ((pw n.c.f:Int):Rat) ex 0 (unitL m src) ((tsOf n).take j)):=by
  intro j hj
  have h:=exS_bs (ex:=ex) hu1 hu2 ((tsOf n).take j) 0 (unitL m src) ⟨fun ts h=>hsm.len ts (List.mem_of_mem_take h),fun ts h=>hsm.cf ts (List.mem_of_mem_take h)⟩ (Bs.unit _ _ _)
  have e:0+((tsOf n).take j).length=j:=by rw[List.length_take,hlt];omega
  rw[e]at h
  intro x hx
  refine (h x hx).le ?_
  rcases j with _|_|_|_|_|j
  ·decide
  ·decide
  ·decide
  ·decide
  ·decide
  ·omega
 have hvl : ∀ j,j≤n.nodes.length→(exS ((pw n.c.f:Int):Rat) ex 0 (unitL m src) ((tsOf n).take j)).length=m+j:=by
  intro j hj
  rw[exS_len,unitL_len,List.length_take,hlt];omega
 have hst:=exS_take ((pw n.c.f:Int):Rat) ex (unitL m src) (tsOf n)
 have hfin:spreadQ n src ex=exS ((pw n.c.f:Int):Rat) ex 0 (unitL m src) ((tsOf n).take n.nodes.length):=by
  rw[spreadQ,hm,Int.toNat_natCast,←hlt,List.take_length]
 rw[hfin]
 clear hfin
 (repeat' (first|(refine CmpP.go (fun hc => ?_) (fun hc => ?_)<;>first|(exfalso;omega)|(conv=>whnf))|(refine OpP.shl1 ?_ (fun _ _ => ?_);omega;conv=>whnf)))
 obtain ⟨p,rfl⟩ : ∃ p:Nat,src=p:=⟨_,(Int.toNat_of_nonneg (by omega)).symm⟩
 (repeat' (first|(refine Req.go ?_ ?_;omega;conv=>whnf)|(refine CallP.go (hI) ?_;conv=>whnf)))
 refine StR.at (enc:=eQ) p 1 (by omega) rfl (fun _=>rfl) (by simp;omega) ?_
 (conv=>whnf)
 rw[unit_set]
 rotate_left
 obtain rfl:src = -1:=by omega
 rw[←unitL_neg]
 all_goals
  (repeat' (first|(refine OpP.shl1 ?_ (fun _ _ => ?_);omega;conv=>whnf)|(refine LenP.go ?_;conv=>whnf)|(refine CallP.go (hP) ?_;conv=>whnf)))
  generalize unitL m _=w at *
  refine AKM.loop1 (fun j=>n.nodes.length-j) (fun (j:Nat)=>j≤n.nodes.length) (fun j=>[(34,.int .i64 j),(7,.row 19 0 3 0 (m+j:Nat))]) (fun j=>[(19,19,.rw 3 ((exS ((pw n.c.f:Int):Rat) ex 0 w ((tsOf n).take j)).map eQ))]) [] [] 0 (by (conv=>whnf);exact ⟨rfl,rfl,rfl⟩) (by omega) ?_
  intro j p2 ih
  by_cases hj:j<n.nodes.length
  ·obtain ⟨nd,hnd⟩ : ∃ nd,n.nodes[j]? = some nd:=⟨_,List.getElem?_eq_getElem hj⟩
   have hnd':n.nodes[(j:Int).toNat]? = some nd:=hnd
   have hts:(tsOf n)[j]? = some nd.ts:=by simp [tsOf,hnd]
   have hbv:=hvals j p2
   have hlv:=hvl j p2
   have hstj:=hst j nd.ts hts
   have htm:=nodesB_at h4 hnd
   have hL:nd.ts.length≤5:=hsm.len _ (List.mem_of_getElem? hts)
   have hC:=hsm.cf _ (List.mem_of_getElem? hts)
   generalize hV:exS ((pw n.c.f:Int):Rat) ex 0 w ((tsOf n).take j)=V at *
   (repeat' (first|(refine CmpP.go (fun hc => ?_) (fun hc => ?_)<;>first|(exfalso;omega)|(conv=>whnf))|(refine LenP.go ?_;conv=>whnf)|(refine RdP.at (by assumption) ?_ rfl ?_;omega;conv=>whnf)|(refine AKM.x ?_;conv=>whnf)|(refine CallP.go (hO) ?_;conv=>whnf)))
   refine AKM.loop2 (fun t _=>nd.ts.length-t) (fun (t:Nat) (acc:Rat)=>t≤nd.ts.length∧acc=sumQ V (nd.ts.take t)) (fun t acc=>[(43,.int .i64 t)]) (fun t acc=>[(11,11,.bx (eQ acc))]) [] [] 0 (0:Rat) (by (conv=>whnf);exact ⟨rfl,rfl,rfl⟩) ⟨by omega,rfl⟩ ?_
   intro t acc ⟨p3,p4⟩ jh
   have hsum:Bt 117200 acc:=by
    rw[p4]
    have a1:=hbv.sum (nd.ts.take t) (j:=24) (fun e he=>Bt.ofInt (hC e (List.mem_of_mem_take he)))
    refine a1.le (Nat.le_trans (Nat.mul_le_mul_right _ (show (nd.ts.take t).length≤5 by rw[List.length_take];omega)) (by decide))
   by_cases ht:t<nd.ts.length
   ·obtain ⟨e,he⟩ : ∃ e,nd.ts[t]? = some e:=⟨_,List.getElem?_eq_getElem ht⟩
    have he':nd.ts[(t:Int).toNat]? = some e:=he
    have hme:=List.mem_of_getElem? he
    have hok:=List.all_eq_true.1 htm e hme
    simp only[termB,decide_eq_true_eq]at hok
    have hce:=hC e hme
    obtain ⟨x,hx⟩ : ∃ x,V[e.1.toNat]? = some x:=⟨_,List.getElem?_eq_getElem (by omega)⟩
    have hxd:V.getD e.1.toNat 0=x:=by rw[List.getD_eq_getElem?_getD,hx];rfl
    have hbx:=hbv.at hx
    have hstk:=sumQ_take (vals:=V) he
    rw[hxd]at hstk
    have hSg:=ev_signQ N.toRatGLib hbx (by omega)
    have hE:=ev_rational_Of N.toRatGLib e.2 (by have:(2:Nat)^24=16777216:=rfl;omega)
    have hM:=ev_mulQ N.toRatGLib (Bt.ofInt hce) hbx (by omega) (by omega)
    have hA:=ev_addQ N.toRatGLib hsum ((Bt.ofInt hce).mul hbx) (by omega) (by omega)
    have z1:=sgn_num (x:=x)
    generalize sgn x.num=sx at *
    by_cases q1:e.2=0
    ·(repeat' (first|(refine CmpP.go (fun hc => ?_) (fun hc => ?_)<;>first|(exfalso;omega)|(conv=>whnf))|(refine OpP.add ?_ ?_;omega;conv=>whnf)|(refine RdP.at (by assumption) ?_ rfl ?_;omega;conv=>whnf)|(refine AKM.x ?_;conv=>whnf)))
     exact AKM.back [] (by (conv=>whnf);exact ⟨rfl,rfl,rfl⟩) (jh (t+1) acc (by omega) ⟨by omega,by rw[hstk,q1,show ((0:Int):Rat)=0 from rfl,Rat.zero_mul,Rat.add_zero];exact p4⟩)
    ·by_cases q2:sx=0
     ·have hx0:=z1.1 q2
      (repeat' (first|(refine CmpP.go (fun hc => ?_) (fun hc => ?_)<;>first|(exfalso;omega)|(conv=>whnf))|(refine Req.go ?_ ?_;omega;conv=>whnf)|(refine RdP.at (by assumption) ?_ rfl ?_;omega;conv=>whnf)|(refine LdR.int ?_ (fun _=>rfl) (fun v hv => ?_);omega;conv=>whnf)|(refine AKM.x ?_;conv=>whnf)))
      cases hx.symm.trans hv
      (repeat' (first|(refine CmpP.go (fun hc => ?_) (fun hc => ?_)<;>first|(exfalso;omega)|(conv=>whnf))|(refine OpP.add ?_ ?_;omega;conv=>whnf)|(refine CallP.go (hSg) ?_;conv=>whnf)))
      exact AKM.back [] (by (conv=>whnf);exact ⟨rfl,rfl,rfl⟩) (jh (t+1) acc (by omega) ⟨by omega,by rw[hstk,hx0,Rat.mul_zero,Rat.add_zero];exact p4⟩)
     ·(repeat' (first|(refine CmpP.go (fun hc => ?_) (fun hc => ?_)<;>first|(exfalso;omega)|(conv=>whnf))|(refine Req.go ?_ ?_;omega;conv=>whnf)|(refine RdP.at (by assumption) ?_ rfl ?_;omega;conv=>whnf)|(refine LdR.int ?_ (fun _=>rfl) (fun v hv => ?_);omega;conv=>whnf)|(refine AKM.x ?_;conv=>whnf)))
      cases hx.symm.trans hv
      (repeat' (first|(refine CmpP.go (fun hc => ?_) (fun hc => ?_)<;>first|(exfalso;omega)|(conv=>whnf))|(refine Req.go ?_ ?_;omega;conv=>whnf)|(refine LdR.int ?_ (fun _=>rfl) (fun v hv => ?_);omega;conv=>whnf)|(refine CallP.go (hSg) ?_;conv=>whnf)|(refine CallP.go (hE) ?_;conv=>whnf)))
      cases hx.symm.trans hv
      (repeat' (first|(refine OpP.add ?_ ?_;omega;conv=>whnf)|(refine CallP.go (hM) ?_;conv=>whnf)|(refine CallP.go (hA) ?_;conv=>whnf)))
      exact AKM.back [] (by (conv=>whnf);exact ⟨rfl,rfl,rfl⟩) (jh (t+1) (acc+((e.2:Int):Rat)*x) (by omega) ⟨by omega,by rw[hstk,←p4]⟩)
   ·obtain rfl:t=nd.ts.length:=by omega
    clear jh
    rw[List.take_length]at p4
    have hD:=ev_divQ N.toRatGLib hsum (Bt.ofInt hu2) (by omega) (by omega) hu0
    rw[←p4]at hstj
    by_cases q5:(j:Int)=ex
    ·have hA1:=ev_addQ N.toRatGLib (hsum.divz hu1 hu2) (Bt.ofInt (k:=0) (z:=1) (by decide)) (by omega) (by omega)
     rw[if_pos q5]at hstj
     (repeat' (first|(refine CmpP.go (fun hc => ?_) (fun hc => ?_)<;>first|(exfalso;omega)|(conv=>whnf))|(refine RowP.e1 ?_;conv=>whnf)|(refine AKM.x ?_;conv=>whnf)|(refine CallP.go (hD) ?_;conv=>whnf)|(refine CallP.go (hI) ?_;conv=>whnf)|(refine CallP.go (hA1) ?_;conv=>whnf)))
     refine AppR.one (enc:=eQ) (acc/((pw n.c.f:Int):Rat)+((1:Int):Rat)) rfl hlv.symm rfl (by omega) (by omega) ?_
     rw[show ((1:Int):Rat)=1 from rfl,←hstj,hvl (j+1) (by omega)]
     (repeat' (refine OpP.add ?_ ?_;omega;conv=>whnf))
     exact AKM.back [(19,86)] (by (conv=>whnf);exact ⟨rfl,rfl,rfl⟩) (ih (j+1) (by omega) (by omega))
    ·rw[if_neg q5,Rat.add_zero]at hstj
     (repeat' (first|(refine CmpP.go (fun hc => ?_) (fun hc => ?_)<;>first|(exfalso;omega)|(conv=>whnf))|(refine RowP.e1 ?_;conv=>whnf)|(refine AKM.x ?_;conv=>whnf)|(refine CallP.go (hD) ?_;conv=>whnf)))
     refine AppR.one (enc:=eQ) (acc/((pw n.c.f:Int):Rat)) rfl hlv.symm rfl (by omega) (by omega) ?_
     rw[←hstj,hvl (j+1) (by omega)]
     (repeat' (refine OpP.add ?_ ?_;omega;conv=>whnf))
     exact AKM.back [(19,86)] (by (conv=>whnf);exact ⟨rfl,rfl,rfl⟩) (ih (j+1) (by omega) (by omega))
  ·obtain rfl:j=n.nodes.length:=by omega
   clear ih
   (repeat' (first|(refine CmpP.go (fun hc => ?_) (fun hc => ?_)<;>first|(exfalso;omega)|(conv=>whnf))|(refine AKM.x ?_;conv=>whnf)))
   have hlv:=hvl n.nodes.length p2
   refine SnR.all (enc:=eQ) (fun _=>rfl) rfl (by omega) ?_
   exact FinP.go rfl (by simp only[Clean,true_and];exact cl_eQs _)
end Go.Eng

namespace Go.Eng
open F
attribute [local irreducible] AKM CmpP Req OpP UnP ConvP RdP LdR StR MkR LenP AppR AppN CpyR RowP SnR Bds SlS CallP CalP FinP pw LdM GetM SetM PutM MkM AppM SnM FlP CallR
set_option maxHeartbeats 4000000
variable {L:Lib}
def linQ (n:Nt):SysQ where
 a:=n.next.map fun e=>(List.range n.s.toNat).map fun (j:Nat)=>(spreadQ n ((j:Int)+1) (-1)).getD e.toNat 0
 b:=n.next.map fun e=>(spreadQ n 0 (-1)).getD e.toNat 0
 c:=(List.range n.s.toNat).map fun (j:Nat)=>(spreadQ n ((j:Int)+1) (-1)).getD n.out.toNat 0
 d:=(spreadQ n 0 (-1)).getD n.out.toNat 0
abbrev eC:Option (List Rat)→List AV
 | none=>[.nil]
 | some l=>[.sl false (l.map eQ)]
def fillC (l:List (List Rat)) (m:Nat):List (Option (List Rat)):=l.map some++List.replicate (m-l.length) none
theorem fillC_len {l:List (List Rat)} {m:Nat} (h:l.length≤m):(fillC l m).length=m:=by simp [fillC];omega
theorem fillC_set {l:List (List Rat)} {m:Nat} {x:List Rat} (h:l.length<m):(fillC l m).set l.length (some x)=fillC (l++[x]) m:=by
 unfold fillC
 rw[List.set_append_right _ _ (by simp)]
 obtain ⟨k,hk⟩ : ∃ k,m-l.length=k+1:=⟨m-l.length-1,by omega⟩
 rw[hk,List.length_map,Nat.sub_self,List.replicate_succ,List.set_cons_zero,List.length_append,List.length_singleton,show m-(l.length+1)=k by omega]
 simp
theorem fillM_set {α:Type} (a b:α) {t m:Nat} (_:t≤m) (h:t<m):(List.replicate t a++List.replicate (m-t) b).set t a=List.replicate (t+1) a++List.replicate (m-(t+1)) b:=by
 obtain ⟨k,hk⟩ : ∃ k,m-t=k+1:=⟨m-t-1,by omega⟩
 rw[List.set_append_right _ _ (by simp),hk,List.length_replicate,Nat.sub_self,List.replicate_succ,List.set_cons_zero,show m-(t+1)=k by omega,List.replicate_succ',List.append_assoc]
 rfl
def fz {α:Type} (z:α) (l:List α) (m:Nat):List α:=l++List.replicate (m-l.length) z
theorem fz_len {α:Type} {z:α} {l:List α} {m:Nat} (h:l.length≤m):(fz z l m).length=m:=by simp [fz];omega
theorem fz_len' {α:Type} (z:α) (l:List α) (m:Nat):(fz z l m).length=l.length+(m-l.length):=by simp [fz]
theorem fz_set {α:Type} {z x:α} {l:List α} {m:Nat} (h:l.length<m):(fz z l m).set l.length x=fz z (l++[x]) m:=by
 unfold fz
 obtain ⟨k,hk⟩ : ∃ k,m-l.length=k+1:=⟨m-l.length-1,by omega⟩
 rw[List.set_append_right _ _ (by simp),hk,Nat.sub_self,List.replicate_succ,List.set_cons_zero,List.length_append,List.length_singleton,show m-(l.length+1)=k by omega,List.append_assoc]
 rfl
theorem fz_at {α:Type} {z:α} {l:List α} {m:Nat} (h:l.length<m):(fz z l m)[l.length]? = some z:=by
 unfold fz
 rw[List.getElem?_append_right (by omega),Nat.sub_self,List.getElem?_replicate,if_pos (by omega)]
theorem fz_full {α:Type} {z:α} {l:List α} {m:Nat} (h:l.length=m):fz z l m=l:=by simp [fz,h]
theorem fillC_full (l:List (List Rat)):(fillC l l.length).map eC=l.map fun c=>[AV.sl false (c.map eQ)]:=by
 simp [fillC,Function.comp_def]
def colsQ (n:Nt) (i:Nat):List (List Rat):=(List.range i).map fun (j:Nat)=>spreadQ n (j:Int) (-1)
theorem colsQ_succ (n:Nt) (i:Nat):colsQ n (i+1)=colsQ n i++[spreadQ n (i:Int) (-1)]:=by simp [colsQ,List.range_succ]
theorem colsQ_len (n:Nt) (i:Nat):(colsQ n i).length=i:=by simp [colsQ]
theorem list_set_self {α:Type} {l:List α} {i:Nat} {x:α} (h:l[i]? = some x):l.set i x=l:=by
 refine List.ext_getElem? fun j => ?_
 rw[List.getElem?_set]
 split
 ·rename_i e;subst e
  rw[h];split
  ·rfl
  ·rename_i h2;rw[List.getElem?_eq_none (by omega)]at h;cases h
 ·rfl
theorem take_snocA {α:Type} {l:List α} {i:Nat} {x:α} (h:l[i]? = some x):l.take (i+1)=l.take i++[x]:=by
 rw[List.take_add_one,h];rfl
theorem spreadQ_len (n:Nt) (src ex:Int):(spreadQ n src ex).length=(1+n.s).toNat+n.nodes.length:=by
 simp only[spreadQ,exS_len,unitL_len,tsOf,List.length_map]
theorem spreadQ_bs (n:Nt) (src ex:Int) (h2:WV n.c) (hsm:SmallN (tsOf n)) (hnl:n.nodes.length≤4):Bs 23400 (spreadQ n src ex):=by
 have hlt:(tsOf n).length=n.nodes.length:=by simp [tsOf]
 have hu1:=pw_pos n.c.f
 have hu2:(pw n.c.f).natAbs≤2^24:=by
  have hf:n.c.f<24:=by unfold WV at h2;omega
  have h9:(2:Nat)^n.c.f.toNat≤2^24:=Nat.pow_le_pow_right (by omega) (by omega)
  rw[pw]
  exact_mod_cast h9
 have h:=exS_bs (ex:=ex) hu1 hu2 (tsOf n) 0 (unitL (1+n.s).toNat src) hsm (Bs.unit _ _ _)
 rw[hlt,Nat.zero_add]at h
 intro x hx
 refine (h x hx).le ?_
 generalize n.nodes.length=j at hnl
 rcases j with _|_|_|_|_|j
 ·decide
 ·decide
 ·decide
 ·decide
 ·decide
 ·omega
theorem hcolsat (n:Nt) (t:Nat) (j:Int) (h:0≤j∧j≤t):(colsQ n (t+1))[j.toNat]? = some (spreadQ n j (-1)):=by
 unfold colsQ
 rw[List.getElem?_map,List.getElem?_range (by omega),Option.map_some,Int.toNat_of_nonneg h.1]
theorem ev_Linear (I:FixedLib L) (N:LinGLib L) (n:Nt) (hv:netB n=true) (hsm:SmallN (tsOf n)) (hnl:n.nodes.length≤4):Ev L 146 [.agg (encN n)] (.tup [.agg (eS (linQ n)),.int .i64 0]):=by
 have hV:=ev_network_Valid n I N.toNetLib
 rw[hv]at hV
 have hSp:=fun (j:Int) (h:0≤j∧j≤n.s)=>ev_spread N n j (-1) hv hsm hnl (by omega) (by unfold InI;omega)
 have hO:=ev_rational_Of N.toRatGLib 0 (by omega)
 rw[netB_iff]at hv
 obtain ⟨h1,h2,h3,h4,h5,h6⟩:=hv
 have hnx : ∀ e∈n.next,0≤e∧e≤n.s+n.nodes.length:=fun e he=>by simpa using List.all_eq_true.1 h5 e he
 refine Ev.x N.network_Linear rfl rfl ?_
 (repeat' (first|(refine OpP.add ?_ ?_;omega;conv=>whnf)|(refine AKM.x ?_;conv=>whnf)|(refine CallP.go (hV) ?_;conv=>whnf)))
 obtain ⟨m,hm⟩ : ∃ m:Nat,n.s=m:=⟨n.s.toNat,(Int.toNat_of_nonneg (by omega)).symm⟩
 rw[hm]
 unfold MkM
 refine ⟨⟨by omega,by omega,by simp only[roomMax];omega,by omega⟩,?_⟩
 rw[show ((m:Int)+1).toNat=m+1 by omega]
 (conv=>whnf)
 skip
 refine AKM.mxN 146018 146018 (m+1) rfl ?_
 skip
 rw[show List.replicate (m+1) [AV.nil]=(fillC (colsQ n 0) (m+1)).map eC by simp [fillC,colsQ]]
 refine AKM.loop1 (fun i=>m+1-i) (fun (i:Nat)=>i≤m+1) (fun i=>[(21,.int .i64 i)]) (fun i=>[(146018,146018,.rw 1 ((fillC (colsQ n i) (m+1)).map eC))]) [] [] 0 (by (conv=>whnf);exact ⟨rfl,rfl,rfl⟩) (by omega) ?_
 intro i p1 ih
 by_cases hi:i<m+1
 ·have hl:=fillC_len (l:=colsQ n i) (m:=m+1) (by rw[colsQ_len];omega)
  have hst:=fillC_set (l:=colsQ n i) (m:=m+1) (x:=spreadQ n (i:Int) (-1)) (by rw[colsQ_len];omega)
  rw[colsQ_len,←colsQ_succ]at hst
  have hS:=hSp i (by omega)
  unfold encN at hS
  rw[hm]at hS
  (repeat' (first|(refine CmpP.go (fun hc => ?_) (fun hc => ?_)<;>first|(exfalso;omega)|(conv=>whnf))|(refine Req.go ?_ ?_;omega;conv=>whnf)|(refine AKM.x ?_;conv=>whnf)|(refine CallP.go (hS) ?_;conv=>whnf)))
  refine StR.nat (enc:=eC) (some (spreadQ n (i:Int) (-1))) rfl (fun e=>by cases e<;>rfl) (by omega) ?_
  (conv=>whnf)
  (repeat' (refine OpP.add ?_ ?_;omega;conv=>whnf))
  rw[hst]
  exact AKM.back [] (by (conv=>whnf);exact ⟨rfl,rfl,rfl⟩) (ih (i+1) (by omega) (by omega))
 ·obtain rfl:i=m+1:=by omega
  clear ih
  (repeat' (first|(refine CmpP.go (fun hc => ?_) (fun hc => ?_)<;>first|(exfalso;omega)|(conv=>whnf))|(refine AKM.x ?_;conv=>whnf)))
  refine CalP.walkC 1000 N.network_zero rfl rfl ?_
  (repeat' (refine AKM.x ?_;conv=>whnf))
  unfold MkM
  refine ⟨⟨by omega,by omega,by simp only[roomMax];omega,by omega⟩,?_⟩
  rw[Int.toNat_natCast]
  (conv=>whnf)
  have hZ:=ev_zerosR N.toSysGLib m (by omega)
  refine CallR.go (enc:=eQ) m hZ (by simp) ?_
  (conv=>whnf)
  refine CallR.go (enc:=eQ) m hZ (by simp) ?_
  (conv=>whnf)
  (repeat' (refine CallP.go (hO) ?_;conv=>whnf))
  refine AKM.loop1 (fun t=>m-t) (fun (t:Nat)=>t≤m) (fun t=>[(16,.int .i64 t)]) (fun t=>[(145006,145006,.mx (List.replicate t (some (3,(List.replicate m (0:Rat)).map eQ))++List.replicate (m-t) none))]) [] [] 0 (by (conv=>whnf);exact ⟨rfl,rfl,rfl⟩) (by omega) ?_
  intro t p4 th
  by_cases ht:t<m
  ·(repeat' (first|(refine CmpP.go (fun hc => ?_) (fun hc => ?_)<;>first|(exfalso;omega)|(conv=>whnf))|(refine AKM.x ?_;conv=>whnf)))
   refine CallR.go (enc:=eQ) m hZ (by simp) ?_
   (conv=>whnf)
   (repeat' (first|(refine Req.go ?_ ?_;omega;conv=>whnf)|fail))
   unfold Req SetM
   refine ⟨by simp,by simp;omega,?_⟩
   (conv=>whnf)
   rw[show 0+((t:Int)).toNat=t by omega,fillM_set _ _ p4 ht]
   (repeat' (refine OpP.add ?_ ?_;omega;conv=>whnf))
   exact AKM.back [] (by (conv=>whnf);exact ⟨rfl,rfl,rfl⟩) (th (t+1) (by omega) (by omega))
  obtain rfl:t=m:=by omega
  clear th
  have hcs:=hcolsat n t
  rw[show List.replicate t (some (3,List.map eQ (List.replicate t 0)))++List.replicate (t-t) none=mxR 3 eQ (fz (List.replicate t 0) [] t) by simp [mxR,fz],show List.replicate t (0:Rat)=fz 0 [] t by simp [fz],show (fillC (colsQ n (t+1)) (t+1)).map eC=(colsQ n (t+1)).map fun c=>[AV.sl false (c.map eQ)] by rw[←fillC_full,colsQ_len]]
  (repeat' (first|(refine CmpP.go (fun hc => ?_) (fun hc => ?_)<;>first|(exfalso;omega)|(conv=>whnf))|(refine AKM.x ?_;conv=>whnf)))
  refine ⟨rfl,?_⟩
  (conv=>whnf)
  (repeat' (refine LenP.go ?_;conv=>whnf))
  have hsn:n.s.toNat=t:=by omega
  have hnl2:n.next.length=t:=by omega
  have hcql:=colsQ_len n (t+1)
  refine AKM.loop1 (fun i=>n.next.length-i) (fun (i:Nat)=>i≤n.next.length) (fun i=>[(37,.int .i64 i)]) (fun i=>[(145006,145006,.mx (mxR 3 eQ (fz (List.replicate t 0) ((linQ n).a.take i) t))),(145008,145008,.rw 3 ((fz 0 ((linQ n).b.take i) t).map eQ))]) [] [] 0 (by (conv=>whnf);exact ⟨rfl,rfl,rfl⟩) (by omega) ?_
  intro i q1 ih
  by_cases hi:i<n.next.length
  ·obtain ⟨e,he⟩ : ∃ e,n.next[i]? = some e:=⟨_,List.getElem?_eq_getElem hi⟩
   have hx':n.next[(i:Int).toNat]? = some e:=he
   have hrow:(linQ n).a[i]? = some ((List.range t).map fun (j:Nat)=>(spreadQ n ((j:Int)+1) (-1)).getD e.toNat 0):=by
    rw[←hsn];simp only[linQ,List.getElem?_map,he,Option.map_some]
   have hbe:(linQ n).b[i]? = some ((spreadQ n 0 (-1)).getD e.toNat 0):=by
    simp only[linQ,List.getElem?_map,he,Option.map_some]
   have hal:(linQ n).a.length=t:=by simp [linQ,hnl2]
   have hbl:(linQ n).b.length=t:=by simp [linQ,hnl2]
   have htk:((linQ n).a.take i).length=i:=by rw[List.length_take];omega
   have htb:((linQ n).b.take i).length=i:=by rw[List.length_take];omega
   have hA0:fz (List.replicate t 0) ((linQ n).a.take i) t=(fz (List.replicate t 0) ((linQ n).a.take i) t).set i (fz 0 [] t):=by
    have:=fz_at (z:=List.replicate t (0:Rat)) (l:=(linQ n).a.take i) (m:=t) (by omega)
    rw[htk]at this
    rw[show fz (0:Rat) [] t=List.replicate t 0 by simp [fz]]
    exact (list_set_self this).symm
   have hAs:=fz_set (z:=List.replicate t (0:Rat)) (l:=(linQ n).a.take i) (m:=t) (x:=(List.range t).map fun (j:Nat)=>(spreadQ n ((j:Int)+1) (-1)).getD e.toNat 0) (by omega)
   have hBs:=fz_set (z:=(0:Rat)) (l:=(linQ n).b.take i) (m:=t) (x:=(spreadQ n 0 (-1)).getD e.toNat 0) (by omega)
   rw[htk,←take_snocA hrow]at hAs
   rw[htb,←take_snocA hbe]at hBs
   have hAl:=fz_len (z:=List.replicate t (0:Rat)) (l:=(linQ n).a.take i) (m:=t) (by omega)
   have hBl:=fz_len (z:=(0:Rat)) (l:=(linQ n).b.take i) (m:=t) (by omega)
   have hen:=hnx e (List.mem_of_getElem? he)
   generalize fz (List.replicate t 0) ((linQ n).a.take i) t=A0 at *
   generalize fz (0:Rat) ((linQ n).b.take i) t=B0 at *
   have hA1:A0=A0.set i (fz 0 ((List.range 0).map fun (j:Nat)=>(spreadQ n ((j:Int)+1) (-1)).getD e.toNat 0) t):=hA0
   (repeat' (first|(refine CmpP.go (fun hc => ?_) (fun hc => ?_)<;>first|(exfalso;omega)|(conv=>whnf))|(refine RdP.at (by assumption) ?_ rfl ?_;omega;conv=>whnf)|(refine AKM.x ?_;conv=>whnf)))
   refine AKM.loop1 (fun j=>t-j) (fun (j:Nat)=>j≤t) (fun j=>[(44,.int .i64 j)]) (fun j=>[(145006,145006,.mx (mxR 3 eQ (A0.set i (fz 0 ((List.range j).map fun (j:Nat)=>(spreadQ n ((j:Int)+1) (-1)).getD e.toNat 0) t))))]) [] [] 0 (by first|exact (by (conv=>whnf);exact ⟨rfl,rfl,rfl⟩)|(rw[←hA1];exact (by (conv=>whnf);exact ⟨rfl,rfl,rfl⟩))) (by omega) ?_
   intro j q2 jh
   have hcl:((List.range j).map fun (j:Nat)=>(spreadQ n ((j:Int)+1) (-1)).getD e.toNat 0).length=j:=by simp
   by_cases hj:j<t
   ·have hcol:=hcs ((j:Int)+1) (by omega)
    have hxl:=spreadQ_len n ((j:Int)+1) (-1)
    have hxb:=spreadQ_bs n ((j:Int)+1) (-1) h2 hsm hnl
    obtain ⟨x,hx⟩ : ∃ x,(spreadQ n ((j:Int)+1) (-1))[e.toNat]? = some x:=⟨_,List.getElem?_eq_getElem (by omega)⟩
    have hxd:(spreadQ n ((j:Int)+1) (-1)).getD e.toNat 0=x:=by rw[List.getD_eq_getElem?_getD,hx];rfl
    have hT:=ev_trimQ N.toRatGLib (hxb.at hx) (by omega)
    have hcs2:=fz_set (z:=(0:Rat)) (l:=(List.range j).map fun (j:Nat)=>(spreadQ n ((j:Int)+1) (-1)).getD e.toNat 0) (m:=t) (x:=x) (by omega)
    have hcl2:=fz_len (z:=(0:Rat)) (l:=(List.range j).map fun (j:Nat)=>(spreadQ n ((j:Int)+1) (-1)).getD e.toNat 0) (m:=t) (by omega)
    rw[hcl,show ((List.range j).map fun (j:Nat)=>(spreadQ n ((j:Int)+1) (-1)).getD e.toNat 0)++[x]=(List.range (j+1)).map fun (j:Nat)=>(spreadQ n ((j:Int)+1) (-1)).getD e.toNat 0 by rw[List.range_succ,List.map_append,List.map_singleton,hxd]]at hcs2
    have hrw:(A0.set i (fz 0 ((List.range j).map fun (j:Nat)=>(spreadQ n ((j:Int)+1) (-1)).getD e.toNat 0) t))[i]? = some (fz 0 ((List.range j).map fun (j:Nat)=>(spreadQ n ((j:Int)+1) (-1)).getD e.toNat 0) t):=by
     rw[List.getElem?_set,if_pos rfl,if_pos (by omega)]
    have hsl:(A0.set i (fz 0 ((List.range j).map fun (j:Nat)=>(spreadQ n ((j:Int)+1) (-1)).getD e.toNat 0) t)).length=t:=by rw[List.length_set];omega
    (repeat' (first|(refine CmpP.go (fun hc => ?_) (fun hc => ?_)<;>first|(exfalso;omega)|(conv=>whnf))|(refine Req.go ?_ ?_;omega;conv=>whnf)|(refine OpP.add ?_ ?_;omega;conv=>whnf)|(refine LdR.int ?_ (fun _=>rfl) (fun v hv => ?_);omega;conv=>whnf)|(refine LdM.nat ?_ (fun r hr => ?_);omega;conv=>whnf)|(refine AKM.x ?_;conv=>whnf)))
    cases hrw.symm.trans hr
    cases hcol.symm.trans hv
    (repeat' (first|(refine RdP.at (by assumption) ?_ rfl ?_;omega;conv=>whnf)|(refine CallP.go (hT) ?_;conv=>whnf)))
    refine Req.go (by rw[List.length_map];omega) ?_
    (conv=>whnf)
    (repeat' (refine GetM.ati (by assumption) ?_;conv=>whnf))
    refine StR.nat (enc:=eQ) x rfl (fun _=>rfl) (by omega) ?_
    (conv=>whnf)
    rw[hcs2]
    refine PutM.nat (by simp only[fz_len' , hcl,List.length_map,List.length_range];omega) ?_
    rw[List.set_set]
    (conv=>whnf)
    (repeat' (refine OpP.add ?_ ?_;omega;conv=>whnf))
    exact AKM.back [] (by (conv=>whnf);exact ⟨rfl,rfl,rfl⟩) (jh (j+1) (by omega) (by omega))
   ·obtain rfl:j=t:=by omega
    clear jh
    rw[fz_full hcl,hAs]
    have hcol:=hcs 0 (by omega)
    have hxl:=spreadQ_len n 0 (-1)
    have hxb:=spreadQ_bs n 0 (-1) h2 hsm hnl
    obtain ⟨x,hx⟩ : ∃ x,(spreadQ n 0 (-1))[e.toNat]? = some x:=⟨_,List.getElem?_eq_getElem (by omega)⟩
    have hxd:(spreadQ n 0 (-1)).getD e.toNat 0=x:=by rw[List.getD_eq_getElem?_getD,hx];rfl
    rw[hxd]at hBs
    have hT:=ev_trimQ N.toRatGLib (hxb.at hx) (by omega)
    (repeat' (first|(refine CmpP.go (fun hc => ?_) (fun hc => ?_)<;>first|(exfalso;omega)|(conv=>whnf))|(refine Req.go ?_ ?_;omega;conv=>whnf)|(refine LdR.int ?_ (fun _=>rfl) (fun v hv => ?_);omega;conv=>whnf)|(refine AKM.x ?_;conv=>whnf)))
    cases hcol.symm.trans hv
    (repeat' (first|(refine Req.go ?_ ?_;omega;conv=>whnf)|(refine RdP.at (by assumption) ?_ rfl ?_;omega;conv=>whnf)|(refine CallP.go (hT) ?_;conv=>whnf)))
    refine StR.nat (enc:=eQ) x rfl (fun _=>rfl) (by omega) ?_
    (conv=>whnf)
    rw[hBs]
    (repeat' (refine OpP.add ?_ ?_;omega;conv=>whnf))
    exact AKM.back [] (by (conv=>whnf);exact ⟨rfl,rfl,rfl⟩) (ih (i+1) (by omega) (by omega))
  ·obtain rfl:i=n.next.length:=by omega
   clear ih
   have hal:(linQ n).a.length=t:=by simp [linQ,hnl2]
   have hbl:(linQ n).b.length=t:=by simp [linQ,hnl2]
   rw[List.take_of_length_le (show (linQ n).a.length≤n.next.length by omega),List.take_of_length_le (show (linQ n).b.length≤n.next.length by omega),fz_full hal,fz_full hbl]
   (repeat' (first|(refine CmpP.go (fun hc => ?_) (fun hc => ?_)<;>first|(exfalso;omega)|(conv=>whnf))|(refine AKM.x ?_;conv=>whnf)))
   refine AKM.loop1 (fun j=>t-j) (fun (j:Nat)=>j≤t) (fun j=>[(78,.int .i64 j)]) (fun j=>[(145010,145010,.rw 3 ((fz 0 ((List.range j).map fun (j:Nat)=>(spreadQ n ((j:Int)+1) (-1)).getD n.out.toNat 0) t).map eQ))]) [] [] 0 (by (conv=>whnf);exact ⟨rfl,rfl,rfl⟩) (by omega) ?_
   intro j q2 jh
   have hcl:((List.range j).map fun (j:Nat)=>(spreadQ n ((j:Int)+1) (-1)).getD n.out.toNat 0).length=j:=by simp
   by_cases hj:j<t
   ·have hcol:=hcs ((j:Int)+1) (by omega)
    have hxl:=spreadQ_len n ((j:Int)+1) (-1)
    have hxb:=spreadQ_bs n ((j:Int)+1) (-1) h2 hsm hnl
    obtain ⟨x,hx⟩ : ∃ x,(spreadQ n ((j:Int)+1) (-1))[n.out.toNat]? = some x:=⟨_,List.getElem?_eq_getElem (by omega)⟩
    have hxd:(spreadQ n ((j:Int)+1) (-1)).getD n.out.toNat 0=x:=by rw[List.getD_eq_getElem?_getD,hx];rfl
    have hT:=ev_trimQ N.toRatGLib (hxb.at hx) (by omega)
    have hcs2:=fz_set (z:=(0:Rat)) (l:=(List.range j).map fun (j:Nat)=>(spreadQ n ((j:Int)+1) (-1)).getD n.out.toNat 0) (m:=t) (x:=x) (by omega)
    have hcl2:=fz_len (z:=(0:Rat)) (l:=(List.range j).map fun (j:Nat)=>(spreadQ n ((j:Int)+1) (-1)).getD n.out.toNat 0) (m:=t) (by omega)
    rw[hcl,show ((List.range j).map fun (j:Nat)=>(spreadQ n ((j:Int)+1) (-1)).getD n.out.toNat 0)++[x]=(List.range (j+1)).map fun (j:Nat)=>(spreadQ n ((j:Int)+1) (-1)).getD n.out.toNat 0 by rw[List.range_succ,List.map_append,List.map_singleton,hxd]]at hcs2
    (repeat' (first|(refine CmpP.go (fun hc => ?_) (fun hc => ?_)<;>first|(exfalso;omega)|(conv=>whnf))|(refine Req.go ?_ ?_;omega;conv=>whnf)|(refine OpP.add ?_ ?_;omega;conv=>whnf)|(refine LdR.int ?_ (fun _=>rfl) (fun v hv => ?_);omega;conv=>whnf)|(refine AKM.x ?_;conv=>whnf)))
    cases hcol.symm.trans hv
    (repeat' (first|(refine Req.go ?_ ?_;omega;conv=>whnf)|(refine RdP.at (by assumption) ?_ rfl ?_;omega;conv=>whnf)|(refine CallP.go (hT) ?_;conv=>whnf)))
    refine StR.nat (enc:=eQ) x rfl (fun _=>rfl) (by omega) ?_
    (conv=>whnf)
    rw[hcs2]
    (repeat' (refine OpP.add ?_ ?_;omega;conv=>whnf))
    exact AKM.back [] (by (conv=>whnf);exact ⟨rfl,rfl,rfl⟩) (jh (j+1) (by omega) (by omega))
   ·obtain rfl:j=t:=by omega
    clear jh
    rw[fz_full hcl]
    have hcol:=hcs 0 (by omega)
    have hxl:=spreadQ_len n 0 (-1)
    have hxb:=spreadQ_bs n 0 (-1) h2 hsm hnl
    obtain ⟨x,hx⟩ : ∃ x,(spreadQ n 0 (-1))[n.out.toNat]? = some x:=⟨_,List.getElem?_eq_getElem (by omega)⟩
    have hxd:(spreadQ n 0 (-1)).getD n.out.toNat 0=x:=by rw[List.getD_eq_getElem?_getD,hx];rfl
    have hT:=ev_trimQ N.toRatGLib (hxb.at hx) (by omega)
    have hd:(linQ n).d=x:=hxd
    have hcc:(linQ n).c=(List.range j).map fun (j:Nat)=>(spreadQ n ((j:Int)+1) (-1)).getD n.out.toNat 0:=by rw[linQ,hsn]
    rw[←hcc]
    (repeat' (first|(refine CmpP.go (fun hc => ?_) (fun hc => ?_)<;>first|(exfalso;omega)|(conv=>whnf))|(refine Req.go ?_ ?_;omega;conv=>whnf)|(refine LdR.int ?_ (fun _=>rfl) (fun v hv => ?_);omega;conv=>whnf)|(refine AKM.x ?_;conv=>whnf)))
    cases hcol.symm.trans hv
    (repeat' (first|(refine RdP.at (by assumption) ?_ rfl ?_;omega;conv=>whnf)|(refine CallP.go (hT) ?_;conv=>whnf)))
    have hcn:(linQ n).c.length=j:=by rw[hcc,hcl]
    refine SnM.all (fun _=>rfl) rfl hal.symm ?_
    (conv=>whnf)
    refine SnR.all (enc:=eQ) (fun _=>rfl) rfl hbl.symm ?_
    (conv=>whnf)
    refine SnR.all (enc:=eQ) (fun _=>rfl) rfl hcn.symm ?_
    (conv=>whnf)
    refine FinP.go (by rw[←hd];rfl) ?_
    simp only[Clean,CleanL,and_true]
    exact cl_eS (linQ n)
end Go.Eng

namespace Go.Eng
theorem intsQ_len (l:List Int):(intsQ l).length=l.length:=by simp [intsQ]
theorem intsQ_append (a b:List Int):intsQ (a++b)=intsQ a++intsQ b:=by simp [intsQ]
theorem intsQ_getD (l:List Int) (i:Nat):(intsQ l).getD i 0=((l.getD i 0:Int):Rat):=by
 simp only[intsQ,List.getD_eq_getElem?_getD,List.getElem?_map]
 cases l[i]? <;> rfl
variable {n:Nt}
theorem dot_unit (i:Nat) : ∀ (z:List Rat) (k:Nat),dotQ ((List.range' k z.length).map fun (j:Nat)=>if (i:Int)=(j:Int) then (1:Rat) else 0) z=if k≤i then z.getD (i-k) 0 else 0
 | [],k=>by simp [dotQ]
 | x::z,k=>by
  simp only[List.length_cons,List.range'_succ,List.map_cons,dotQ]
  rw[dot_unit i z (k+1)]
  by_cases h:i=k
  ·subst h
   rw[if_pos rfl,if_neg (by omega),if_pos (by omega),Nat.sub_self]
   simp [Rat.add_zero]
  ·rw[if_neg (by omega),Rat.zero_mul,Rat.zero_add]
   by_cases h2:k≤i
   ·rw[if_pos (by omega),if_pos h2,show i-k=(i-(k+1))+1 by omega]
    rfl
   ·rw[if_neg (by omega),if_neg h2]
theorem unit_lin (z:List Rat):LinV ((List.range z.length).map fun (j:Nat)=>unitL z.length (j:Int)) z z:=by
 intro i hi
 rw[List.map_map]
 have e:(List.range z.length).map ((fun c=>List.getD c i 0) ∘ fun (j:Nat)=>unitL z.length (j:Int))=(List.range z.length).map fun (j:Nat)=>if (i:Int)=(j:Int) then (1:Rat) else 0:=by
  refine List.map_congr_left fun j _ => ?_
  simp only[Function.comp,unitL,List.getD_eq_getElem?_getD,List.getElem?_map,List.getElem?_range hi]
  rfl
 rw[e,List.range_eq_range',dot_unit i z 0,if_pos (by omega),Nat.sub_zero]
theorem lin_at (hb:netB n=true) {x:Rat} {now:List Rat} (hl:(now.length:Int)=n.s) {m:Nat} (hm:m<1+now.length+n.nodes.length) :
  (exS ((pw n.c.f:Int):Rat) (-1) 0 (x::now) (tsOf n)).getD m 0=dotQ ((List.range n.s.toNat).map fun (j:Nat)=>(spreadQ n ((j:Int)+1) (-1)).getD m 0) now+(spreadQ n 0 (-1)).getD m 0*x:=by
 obtain ⟨h1,h2,h3,h4,h5,h6⟩:=(netB_iff n).1 hb
 have hu:=pw_pos n.c.f
 have hu0:((pw n.c.f:Int):Rat)≠0:=by
  intro e
  have:pw n.c.f=0:=by exact_mod_cast e
  omega
 have H:=LinV.all hu0 (tsOf n) 0 _ _ (unit_lin (x::now)) (fun c hc=>by
  obtain ⟨j,_,rfl⟩:=List.mem_map.1 hc
  exact unitL_len _ _) (fun i ts hi t ht=>by
  simp only[tsOf,List.getElem?_map]at hi
  cases hn:n.nodes[i]? with
  | none=>rw[hn]at hi;cases hi
  | some nd =>
   rw[hn]at hi
   cases hi
   have:=List.all_eq_true.1 (nodesB_at h4 hn) t ht
   simp only[termB,decide_eq_true_eq]at this
   simp only[List.length_cons]
   omega) m (by rw[exS_len];simp [tsOf];omega)
 rw[H,List.map_map,List.map_map,List.length_cons,List.range_succ_eq_map,List.map_cons,dotQ,List.map_map,Rat.add_comm]
 have e1:n.s.toNat=now.length:=by omega
 have e2:(1+n.s).toNat=now.length+1:=by omega
 rw[e1]
 congr 1
 ·congr 1
  refine List.map_congr_left fun j _ => ?_
  simp only[Function.comp,spreadQ,e2]
  rfl
 ·simp only[Function.comp,spreadQ,e2]
  rfl
theorem nextQ_map {α:Type} (now:List Rat) (x:Rat) (f:α→List Rat) (g:α→Rat) : ∀ l:List α,nextQ now x (l.map f) (l.map g)=l.map fun e=>dotQ (f e) now+g e*x
 | []=>rfl
 | e::l=>by simp only[List.map_cons,nextQ,nextQ_map now x f g l]
end Go.Eng

namespace Go.Eng
def injQ (n:Nt) (k:Int):SysQ where
 a:=(linQ n).a
 b:=n.next.map fun e=>(spreadQ n (-1) k).getD e.toNat 0
 c:=(linQ n).c
 d:=(spreadQ n (-1) k).getD n.out.toNat 0
theorem cl_eS0 (e:Int):Clean (.tup [.agg [.sl false [],.sl false [],.sl false [],.bool false,.sl false [],.sl false []],.int .i64 e]):=by
 simp [Clean,CleanL,CleanLL]
def injR (n:Nt) (k:Int):AV:=if 0≤k∧k<n.nodes.length then .tup [.agg (eS (injQ n k)),.int .i64 0] else .tup [.agg [.sl false [],.sl false [],.sl false [],.bool false,.sl false [],.sl false []],.int .i64 1]
theorem mix_set {a b:List Rat} {i:Nat} {x:Rat} (h:a[i]? = some x) (hb:i<b.length):(a.take i++b.drop i).set i x=a.take (i+1)++b.drop (i+1):=by
 have hl:=(List.getElem?_eq_some_iff.1 h).1
 have ht:(a.take i).length=i:=by rw[List.length_take];omega
 rw[List.set_append_right _ _ (by omega),ht,Nat.sub_self,List.drop_eq_getElem_cons hb,List.set_cons_zero,List.take_add_one,h,List.append_assoc]
 rfl
end Go.Eng

namespace Go.Eng
open F
attribute [local irreducible] AKM CmpP Req OpP UnP ConvP RdP LdR StR MkR LenP AppR AppN CpyR RowP SnR Bds SlS CallP CalP FinP pw LdM GetM SetM PutM MkM AppM SnM FlP CallR
set_option maxHeartbeats 4000000
variable {L:Lib}
theorem qv_not (n:Bool) (m d:List Nat):qv (!n) m d = -(qv n m d):=by
 unfold qv
 have h:zv (!n) m = -(zv n m):=by cases n<;>simp [zv]
 rw[h,Rat.neg_mkRat]
theorem cl_rQ (n:Bool) (m d:List Nat):Clean (.agg (rQ false false n m d)):=by
 simp only[Clean,CleanL,and_true,true_and]
 exact ⟨cl_dig _,cl_dig _⟩
theorem ev_flip (N:RatHLib L) (n:Bool) (m d:List Nat):Ev L 149 [.agg (rQ false false n m d)] (.agg (rQ false false (!n) m d)):=by
 refine Ev.x N.rational_flip rfl rfl ?_
 cases n
 all_goals
  (repeat' (refine AKM.x ?_;conv=>whnf))
  exact FinP.go rfl (cl_rQ _ _ _)
theorem ev_subQ (N:RatHLib L) {x y:Rat} {k l:Nat} (hx:Bt k x) (hy:Bt l y) (hk:k<2199023255552) (hl:l<2199023255552):Ev L 150 [.agg (eQ x),.agg (eQ y)] (.agg (eQ (x-y))):=by
 have hF:=ev_flip N (decide (y.num<0)) (dg y.num.natAbs) (dg y.den)
 have hA:=fun q3 q4=>ev_rational_Add N.toRatGLib 68719476736 (by omega) (decide (x.num<0)) (!decide (y.num<0)) false false q3 q4 _ _ _ _ (hx.sm hk).1 (hx.sm hk).2 (hy.sm hl).1 (hy.sm hl).2
 rw[qv_not,qv_of,qv_of,←Rat.sub_eq_add_neg]at hA
 refine Ev.x N.rational_Sub rfl rfl ?_
 (repeat' (first|(refine FlP.n3 ?_;conv=>whnf)|(refine AKM.x ?_;conv=>whnf)|(refine CallP.go (hF) ?_;conv=>whnf)|(refine CallP.go (hA _ _) ?_;conv=>whnf)))
 exact FinP.go rfl (cl_eQ _)
end Go.Eng

namespace Go.Eng
open F
attribute [local irreducible] AKM CmpP Req OpP UnP ConvP RdP LdR StR MkR LenP AppR AppN CpyR RowP SnR Bds SlS CallP CalP FinP pw LdM GetM SetM PutM MkM AppM SnM FlP CallR
set_option maxHeartbeats 4000000
variable {L:Lib}
end Go.Eng

namespace Go.Eng
open F
attribute [local irreducible] AKM CmpP Req OpP UnP ConvP RdP LdR StR MkR LenP AppR AppN CpyR RowP SnR Bds SlS CallP CalP FinP pw LdM GetM SetM PutM MkM AppM SnM FlP CallR
set_option maxHeartbeats 4000000
variable {L:Lib}
def errK (n:Nt) (vals:List Int) (k:Nat):Rat:=((vals.getD ((1+n.s).toNat+k) 0:Int):Rat)-sumQ (intsQ vals) ((tsOf n).getD k [])/((pw n.c.f:Int):Rat)
def errQ (n:Nt) (vals:List Int) (i:Nat):List Rat:=(List.range i).map (errK n vals)
theorem errQ_len (n:Nt) (vals:List Int) (i:Nat):(errQ n vals i).length=i:=by simp [errQ]
theorem errQ_succ (n:Nt) (vals:List Int) (i:Nat):errQ n vals (i+1)=errQ n vals i++[errK n vals i]:=by simp [errQ,List.range_succ]
theorem intsQ_at {l:List Int} {i:Nat} {v:Int} (h:l[i]? = some v):(intsQ l).getD i 0=((v:Int):Rat):=by
 rw[List.getD_eq_getElem?_getD,intsQ,List.getElem?_map,h];rfl
theorem node_sum_bs {n:Nt} {vals:List Int} (hb : ∀ v∈vals,v.natAbs≤2^24) {ts:List (Int × Int)} (hC : ∀ t∈ts,t.2.natAbs≤2^24) (hl:ts.length≤5) (i:Nat):Bt 245 (sumQ (intsQ vals) (ts.take i)):=by
 have hV:Bs 24 (intsQ vals):=by
  intro x hx
  obtain ⟨v,hv,rfl⟩:=List.mem_map.1 hx
  exact Bt.ofInt (hb v hv)
 have a1:=hV.sum (ts.take i) (j:=24) (fun e he=>Bt.ofInt (hC e (List.mem_of_mem_take he)))
 refine a1.le ?_
 have:(ts.take i).length≤5:=by rw[List.length_take];omega
 omega
theorem ev_Errors (I:FixedLib L) (N:ModGLib L) (n:Nt) (vals:List Int) (q:Bool) (hv:netB n=true) (hsm:SmallN (tsOf n)) (hvl:(vals.length:Int)=1+n.s+n.nodes.length) (hvb : ∀ v∈vals,v.natAbs≤2^24) :
  Ev L 160 [.agg (encN n),.sl q (vals.map encInt)] (.tup [.sl false ((errQ n vals n.nodes.length).map eQ),.int .i64 0]):=by
 have hV:=ev_network_Valid n I N.toNetLib
 rw[hv]at hV
 rw[netB_iff]at hv
 obtain ⟨h1,h2,h3,h4,h5,h6⟩:=hv
 have hwf:0≤n.c.f∧n.c.f≤62:=by unfold WV at h2;omega
 have hP:=ev_rational_Of N.toRatGLib (pw n.c.f) (by have:=pw_pos n.c.f;have:=pw_le62 hwf.2;omega)
 have hO:=ev_rational_Of N.toRatGLib 0 (by omega)
 have hu1:=pw_pos n.c.f
 have hu2:(pw n.c.f).natAbs≤2^24:=by
  have hf:n.c.f<24:=by unfold WV at h2;omega
  have h9:(2:Nat)^n.c.f.toNat≤2^24:=Nat.pow_le_pow_right (by omega) (by omega)
  rw[pw]
  exact_mod_cast h9
 have hu0:((pw n.c.f:Int):Rat)≠0:=by
  intro e
  have:pw n.c.f=0:=by exact_mod_cast e
  omega
 have e24:(2:Nat)^24=16777216:=rfl
 refine Ev.x N.network_Errors rfl rfl ?_
 (repeat' (first|(refine CmpP.go (fun hc => ?_) (fun hc => ?_)<;>first|(exfalso;omega)|(conv=>whnf))|(refine OpP.add ?_ ?_;omega;conv=>whnf)|(refine OpP.shl1 ?_ (fun _ _ => ?_);omega;conv=>whnf)|(refine LenP.go ?_;conv=>whnf)|(refine AKM.x ?_;conv=>whnf)|(refine CallP.go (hV) ?_;conv=>whnf)|(refine CallP.go (hP) ?_;conv=>whnf)))
 refine MkR.go (enc:=eO) none n.nodes.length rfl rfl (by omega) ?_
 (conv=>whnf)
 (repeat' (refine LenP.go ?_;conv=>whnf))
 refine AKM.loop1 (fun j=>n.nodes.length-j) (fun (j:Nat)=>j≤n.nodes.length) (fun j=>[(40,.int .i64 j)]) (fun j=>[(36,36,.rw 3 ((fillO (errQ n vals j) n.nodes.length).map eO))]) [] [] 0 (by first|exact (by (conv=>whnf);exact ⟨rfl,rfl,rfl⟩)|(rw[show errQ n vals 0=[] from rfl,fillO_nil];exact (by (conv=>whnf);exact ⟨rfl,rfl,rfl⟩))) (by omega) ?_
 intro j p2 ih
 by_cases hj:j<n.nodes.length
 ·obtain ⟨nd,hnd⟩ : ∃ nd,n.nodes[j]? = some nd:=⟨_,List.getElem?_eq_getElem hj⟩
  have hnd':n.nodes[(j:Int).toNat]? = some nd:=hnd
  have hts:(tsOf n)[j]? = some nd.ts:=by simp [tsOf,hnd]
  have htm:=nodesB_at h4 hnd
  have hL:nd.ts.length≤5:=hsm.len _ (List.mem_of_getElem? hts)
  have hC:=hsm.cf _ (List.mem_of_getElem? hts)
  (repeat' (first|(refine CmpP.go (fun hc => ?_) (fun hc => ?_)<;>first|(exfalso;omega)|(conv=>whnf))|(refine LenP.go ?_;conv=>whnf)|(refine RdP.at (by assumption) ?_ rfl ?_;omega;conv=>whnf)|(refine AKM.x ?_;conv=>whnf)|(refine CallP.go (hO) ?_;conv=>whnf)))
  refine AKM.loop2 (fun t _=>nd.ts.length-t) (fun (t:Nat) (acc:Rat)=>t≤nd.ts.length∧acc=sumQ (intsQ vals) (nd.ts.take t)) (fun t acc=>[(49,.int .i64 t)]) (fun t acc=>[(10,10,.bx (eQ acc))]) [] [] 0 (0:Rat) (by (conv=>whnf);exact ⟨rfl,rfl,rfl⟩) ⟨by omega,rfl⟩ ?_
  intro t acc ⟨p3,p4⟩ jh
  have hsum:Bt 245 acc:=by rw[p4];exact node_sum_bs (n:=n) hvb hC hL t
  by_cases ht:t<nd.ts.length
  ·obtain ⟨e,he⟩ : ∃ e,nd.ts[t]? = some e:=⟨_,List.getElem?_eq_getElem ht⟩
   have he':nd.ts[(t:Int).toNat]? = some e:=he
   have hme:=List.mem_of_getElem? he
   have hok:=List.all_eq_true.1 htm e hme
   simp only[termB,decide_eq_true_eq]at hok
   have hce:=hC e hme
   obtain ⟨x,hx⟩ : ∃ x,vals[e.1.toNat]? = some x:=⟨_,List.getElem?_eq_getElem (by omega)⟩
   have hbx:=hvb x (List.mem_of_getElem? hx)
   have hstk:=sumQ_take (vals:=intsQ vals) he
   rw[intsQ_at hx,←p4]at hstk
   have hE:=ev_rational_Of N.toRatGLib e.2 (by omega)
   have hE2:=ev_rational_Of N.toRatGLib x (by omega)
   have hM:=ev_mulQ N.toRatGLib (Bt.ofInt hce) (Bt.ofInt hbx) (by omega) (by omega)
   have hA:=ev_addQ N.toRatGLib hsum ((Bt.ofInt hce).mul (Bt.ofInt hbx)) (by omega) (by omega)
   (repeat' (first|(refine CmpP.go (fun hc => ?_) (fun hc => ?_)<;>first|(exfalso;omega)|(conv=>whnf))|(refine OpP.add ?_ ?_;omega;conv=>whnf)|(refine RdP.at (by assumption) ?_ rfl ?_;omega;conv=>whnf)|(refine AKM.x ?_;conv=>whnf)|(refine CallP.go (hE) ?_;conv=>whnf)|(refine CallP.go (hE2) ?_;conv=>whnf)|(refine CallP.go (hM) ?_;conv=>whnf)|(refine CallP.go (hA) ?_;conv=>whnf)))
   exact AKM.back [] (by (conv=>whnf);exact ⟨rfl,rfl,rfl⟩) (jh (t+1) (acc+((e.2:Int):Rat)*((x:Int):Rat)) (by omega) ⟨by omega,hstk.symm⟩)
  ·obtain rfl:t=nd.ts.length:=by omega
   clear jh
   rw[List.take_length]at p4
   have hD:=ev_divQ N.toRatGLib hsum (Bt.ofInt hu2) (by omega) (by omega) hu0
   obtain ⟨y,hy⟩ : ∃ y,vals[(1+n.s+j).toNat]? = some y:=⟨_,List.getElem?_eq_getElem (by omega)⟩
   have hby:=hvb y (List.mem_of_getElem? hy)
   have hE2:=ev_rational_Of N.toRatGLib y (by omega)
   have hS:=ev_subQ N.toRatHLib (Bt.ofInt hby) (hsum.divz hu1 hu2) (by omega) (by omega)
   have hek:errK n vals j=((y:Int):Rat)-acc/((pw n.c.f:Int):Rat):=by
    rw[errK,List.getD_eq_getElem?_getD,List.getD_eq_getElem?_getD,show (1+n.s).toNat+j=(1+n.s+j).toNat by omega,hy,hts,p4];rfl
   have hl:=fillO_len (l:=errQ n vals j) (m:=n.nodes.length) (by rw[errQ_len];omega)
   have hs:=fillO_set (l:=errQ n vals j) (m:=n.nodes.length) (x:=errK n vals j) (by rw[errQ_len];omega)
   rw[errQ_len,←errQ_succ]at hs
   (repeat' (first|(refine CmpP.go (fun hc => ?_) (fun hc => ?_)<;>first|(exfalso;omega)|(conv=>whnf))|(refine Req.go ?_ ?_;omega;conv=>whnf)|(refine OpP.add ?_ ?_;omega;conv=>whnf)|(refine RdP.at (by assumption) ?_ rfl ?_;omega;conv=>whnf)|(refine AKM.x ?_;conv=>whnf)|(refine CallP.go (hD) ?_;conv=>whnf)|(refine CallP.go (hE2) ?_;conv=>whnf)|(refine CallP.go (hS) ?_;conv=>whnf)))
   refine StR.nat (enc:=eO) (some (errK n vals j)) (by rw[hek]) (fun e=>by cases e<;>rfl) (by omega) ?_
   (conv=>whnf)
   (repeat' (refine OpP.add ?_ ?_;omega;conv=>whnf))
   rw[hs]
   exact AKM.back [] (by (conv=>whnf);exact ⟨rfl,rfl,rfl⟩) (ih (j+1) (by omega) (by omega))
 ·obtain rfl:j=n.nodes.length:=by omega
  clear ih
  rw[fillO_full (errQ_len _ _ _)]
  (repeat' (first|(refine CmpP.go (fun hc => ?_) (fun hc => ?_)<;>first|(exfalso;omega)|(conv=>whnf))|(refine AKM.x ?_;conv=>whnf)))
  refine SnR.all (enc:=eQ) (fun _=>rfl) rfl (errQ_len _ _ _).symm ?_
  (conv=>whnf)
  exact FinP.go rfl (cl_two _ _)
end Go.Eng

namespace Go.Eng
open F
attribute [local irreducible] AKM CmpP Req OpP UnP ConvP RdP LdR StR MkR LenP AppR AppN CpyR RowP SnR Bds SlS CallP CalP FinP pw LdM GetM SetM PutM MkM AppM SnM FlP CallR
set_option maxHeartbeats 1000000
variable {L:Lib}
def exampleN:Nt:=⟨⟨8,0,1,1⟩,⟨8,1,1,1⟩,0,true,[⟨true,[(0,3)]⟩],false,[],1⟩
theorem example_val:valS exampleN [] 5=([5,7],false,0):=by decide +kernel
theorem ev_example (I:FixedLib L) (J:NetLib L):Ev L 32 [] (.bool true):=by
 have h:=ev_network_Values exampleN I J [] false 5 (by decide)
 rw[example_val]at h
 have h:Ev L 24 [.agg (encN exampleN),.sl false (([]:List Int).map encInt),.int .i64 5] (.tup [.sl false (([5,7]:List Int).map encInt),.bool false,.int .i64 0]):=h
 have hl:([5,7]:List Int).length=2:=rfl
 have h1:([5,7]:List Int)[(1:Int).toNat]? = some 7:=rfl
 refine Ev.x J.law22_known rfl rfl ?_
 (repeat' (refine AKM.x ?_;conv=>whnf))
 refine Req.go rfl ?_
 (conv=>whnf)
 (repeat' (first|(refine CmpP.go (fun hc => ?_) (fun hc => ?_)<;>first|(exfalso;omega)|(conv=>whnf))|(refine LenP.go ?_;conv=>whnf)|(refine RdP.at (by assumption) ?_ rfl ?_;omega;conv=>whnf)|(refine SnR.e1 rfl ?_;conv=>whnf)|(refine CallP.go (h) ?_;conv=>whnf)))
 exact FinP.b rfl
end Go.Eng

namespace Go.Eng
open F
attribute [local irreducible] AKM CmpP Req OpP UnP ConvP RdP LdR StR MkR LenP AppR AppN CpyR RowP SnR Bds SlS CallP CalP FinP pw LdM GetM SetM PutM MkM AppM SnM FlP CallR
set_option maxHeartbeats 4000000
variable {L:Lib}
end Go.Eng



namespace Go.Eng
open F
attribute [local irreducible] AKM CmpP Req OpP UnP ConvP RdP LdR StR MkR LenP AppR AppN CpyR RowP SnR Bds SlS CallP CalP FinP pw LdM GetM SetM PutM MkM AppM SnM FlP CallR
set_option maxHeartbeats 4000000
variable {L:Lib}
end Go.Eng



namespace Go.Eng
open F
attribute [local irreducible] AKM CmpP Req OpP UnP ConvP RdP LdR StR MkR LenP AppR AppN CpyR RowP SnR Bds SlS CallP CalP FinP pw LdM GetM SetM PutM MkM AppM SnM FlP CallR
set_option maxHeartbeats 8000000
variable {L:Lib}
theorem SysQ.Ok.le {S:SysQ} {n k j:Nat} (h:S.Ok n k) (hj:k≤j):S.Ok n j:=⟨h.la,h.lr,h.lb,h.lc,fun r hr=>(h.ba r hr).le hj,h.bb.le hj,h.bc.le hj,h.bd.le hj⟩
theorem addL_len {a b:List Rat} (h:a.length=b.length):(addL a b).length=a.length:=by simp [addL,h]
theorem addL_at {a b:List Rat} {i:Nat} {x y:Rat} (hx:a[i]? = some x) (hy:b[i]? = some y):(addL a b)[i]? = some (x+y):=by simp [addL,List.getElem?_zipWith,hx,hy]
theorem addL_bs {a b:List Rat} {k l:Nat} (ha:Bs k a) (hb:Bs l b):Bs (k+l+1) (addL a b):=by
 intro z hz
 obtain ⟨i,hi⟩:=List.getElem?_of_mem hz
 simp only[addL,List.getElem?_zipWith]at hi
 split at hi
 ·rename_i x y hx hy
  obtain rfl:x+y=z:=by simpa using hi
  exact (ha.at hx).add (hb.at hy)
 ·cases hi
end Go.Eng

namespace Go.Eng
def colQ (m:List (List Rat)) (j:Nat):List Rat:=m.map fun r=>r.getD j 0
def mulRow (r:List Rat) (m:List (List Rat)) (n:Nat):List Rat:=(List.range n).map fun j=>dotQ r (colQ m j)
def mulQ (a m:List (List Rat)) (n:Nat):List (List Rat):=a.map fun r=>mulRow r m n
def trQ (m:List (List Rat)):Nat→Rat
 | 0=>0
 | i+1=>trQ m i+(m.getD i []).getD i 0
def addD (m:List (List Rat)) (c:Rat) (i:Nat):List (List Rat):=(List.range m.length).map fun r=>if r<i then (m.getD r []).set r ((m.getD r []).getD r 0+c) else m.getD r []
def idQ (n:Nat):List (List Rat):=(List.range n).map fun i:Nat=>unitL n i
def cofOf (p:List (List Rat)) (n k:Nat):Rat:=trQ p n*Rat.divInt (-1) (k:Int)
def flM (a:List (List Rat)) (n:Nat):Nat→List (List Rat)
 | 0=>idQ n
 | k+1=>addD (mulQ a (flM a n k) n) (cofOf (mulQ a (flM a n k) n) n (k+1)) n
def cofQ (a:List (List Rat)) (n k:Nat):Rat:=cofOf (mulQ a (flM a n k) n) n (k+1)
theorem mulRow_len (r:List Rat) (m:List (List Rat)) (n:Nat):(mulRow r m n).length=n:=by simp [mulRow]
theorem mulQ_len (a m:List (List Rat)) (n:Nat):(mulQ a m n).length=a.length:=by simp [mulQ]
theorem addD_len (m:List (List Rat)) (c:Rat) (i:Nat):(addD m c i).length=m.length:=by simp [addD]
structure Sq (n:Nat) (m:List (List Rat)):Prop where
 l:m.length=n
 r : ∀ r∈m,r.length=n
theorem Sq.at {n:Nat} {m:List (List Rat)} (h:Sq n m) {i:Nat} {r:List Rat} (hr:m[i]? = some r):r.length=n:=h.r r (List.mem_of_getElem? hr)
theorem Sq.mul {n:Nat} {a:List (List Rat)} (h:a.length=n) (m:List (List Rat)):Sq n (mulQ a m n):=by
 refine ⟨by rw[mulQ_len,h],fun r hr => ?_⟩
 obtain ⟨x,_,rfl⟩:=List.mem_map.1 hr
 exact mulRow_len _ _ _
theorem addD_at {m:List (List Rat)} {c:Rat} {i r:Nat} {row:List Rat} (h:m[r]? = some row):(addD m c i)[r]? = some (if r<i then row.set r (row.getD r 0+c) else row):=by
 have h1:=(List.getElem?_eq_some_iff.1 h).1
 have e:m.getD r []=row:=by rw[List.getD_eq_getElem?_getD,h];rfl
 simp only[addD,List.getElem?_map,List.getElem?_range h1,Option.map_some,e]
theorem Sq.addD {n:Nat} {m:List (List Rat)} (h:Sq n m) (c:Rat) (i:Nat):Sq n (addD m c i):=by
 refine ⟨by rw[addD_len,h.l],fun r hr => ?_⟩
 obtain ⟨j,hj⟩:=List.getElem?_of_mem hr
 have h1:=(List.getElem?_eq_some_iff.1 hj).1
 rw[addD_len]at h1
 obtain ⟨row,hrow⟩ : ∃ row,m[j]? = some row:=⟨_,List.getElem?_eq_getElem h1⟩
 rw[addD_at hrow]at hj
 obtain rfl:=Option.some.inj hj
 have:=h.at hrow
 split
 ·rw[List.length_set];exact this
 ·exact this
theorem Sq.id (n:Nat):Sq n (idQ n):=by
 refine ⟨by simp [idQ],fun r hr => ?_⟩
 obtain ⟨i,_,rfl⟩:=List.mem_map.1 hr
 exact unitL_len _ _
theorem Sq.fl {n:Nat} {a:List (List Rat)} (h:a.length=n) : ∀ k,Sq n (flM a n k)
 | 0=>Sq.id n
 | k+1=>(Sq.mul h _).addD _ _
def Ms (k:Nat) (m:List (List Rat)):Prop := ∀ r∈m,Bs k r
theorem Ms.at {k:Nat} {m:List (List Rat)} (h:Ms k m) {i:Nat} {r:List Rat} (hr:m[i]? = some r):Bs k r:=h r (List.mem_of_getElem? hr)
theorem Ms.getD {k:Nat} {m:List (List Rat)} (h:Ms k m) (i j:Nat):Bt k ((m.getD i []).getD j 0):=by
 rw[List.getD_eq_getElem?_getD,List.getD_eq_getElem?_getD]
 cases e:m[i]? with
 | none=>exact Bt.zero k
 | some r =>
  simp only[Option.getD_some]
  cases e2:r[j]? with
  | none=>exact Bt.zero k
  | some x=>exact (h.at e).at e2
theorem Ms.le {k j:Nat} {m:List (List Rat)} (h:Ms k m) (hj:k≤j):Ms j m:=fun r hr=>(h r hr).le hj
theorem Ms.col {k:Nat} {m:List (List Rat)} (h:Ms k m) (j:Nat):Bs k (colQ m j):=by
 intro x hx
 obtain ⟨r,hr,rfl⟩:=List.mem_map.1 hx
 rw[List.getD_eq_getElem?_getD]
 cases e:r[j]? with
 | none=>exact Bt.zero k
 | some x=>exact (h r hr).at e
theorem Ms.mul {n k s:Nat} {a m:List (List Rat)} (ha:Ms k a) (hs:Sq n a) (hm:Ms s m):Ms (n*(k+s+1)) (mulQ a m n):=by
 intro r hr x hx
 obtain ⟨r,h1,rfl⟩:=List.mem_map.1 hr
 obtain ⟨j,_,rfl⟩:=List.mem_map.1 hx
 have:=(ha r h1).dot (hm.col j)
 rw[hs.r r h1]at this
 exact this
theorem Ms.tr {k:Nat} {m:List (List Rat)} (h:Ms k m) : ∀ i,Bt (i*(k+1)) (trQ m i)
 | 0=>Bt.zero _
 | i+1=>by
  refine ((Ms.tr h i).add (h.getD i i)).le ?_
  rw[Nat.succ_mul];omega
theorem Ms.addD {k j:Nat} {m:List (List Rat)} (h:Ms k m) {c:Rat} (hc:Bt j c) (i:Nat):Ms (k+j+1) (addD m c i):=by
 intro r hr
 obtain ⟨q,hq⟩:=List.getElem?_of_mem hr
 have h1:=(List.getElem?_eq_some_iff.1 hq).1
 rw[addD_len]at h1
 obtain ⟨row,hrow⟩ : ∃ row,m[q]? = some row:=⟨_,List.getElem?_eq_getElem h1⟩
 rw[addD_at hrow]at hq
 obtain rfl:=Option.some.inj hq
 have hb:=h.at hrow
 split
 ·intro x hx
  rcases List.mem_or_eq_of_mem_set hx with hx|rfl
  ·exact (hb x hx).le (by omega)
  ·refine Bt.add ?_ hc
   rw[List.getD_eq_getElem?_getD]
   cases e:row[q]? with
   | none=>exact Bt.zero k
   | some x=>exact hb.at e
 ·exact hb.le (by omega)
theorem Ms.id (n k:Nat):Ms k (idQ n):=by
 intro r hr x hx
 obtain ⟨i,_,rfl⟩:=List.mem_map.1 hr
 simp only[unitL,List.mem_map]at hx
 obtain ⟨a,_,rfl⟩:=hx
 split
 ·exact Bt.one k
 ·exact Bt.zero k
theorem bt_inv {k:Nat} (hk:k≤7):Bt 3 (Rat.divInt (-1) (k:Int)):=by
 rw[Rat.divInt_ofNat]
 refine Bt.mk ?_ ?_
 ·decide
 ·show k≤8;omega
def flK:Nat→Nat
 | 0=>0
 | k+1=>20*flK k+1700
theorem Ms.fl {n:Nat} {a:List (List Rat)} (hs:Sq n a) (ha:Ms 80 a) (hn:n≤4) : ∀ k,k≤4→Ms (flK k) (flM a n k)∧Ms (4*(flK k+81)) (mulQ a (flM a n k) n)∧Bt (16*(flK k+81)+10) (cofQ a n k):=by
 have key : ∀ k,k≤4→Ms (flK k) (flM a n k)→Ms (4*(flK k+81)) (mulQ a (flM a n k) n)∧Bt (16*(flK k+81)+10) (cofQ a n k):=fun k hk h=>by
  have h1:Ms (4*(flK k+81)) (mulQ a (flM a n k) n):=(Ms.mul ha hs h).le (Nat.mul_le_mul hn (by omega))
  refine ⟨h1,?_⟩
  refine ((h1.tr n).mul (bt_inv (k:=k+1) (by omega))).le ?_
  have:=Nat.mul_le_mul_right (4*(flK k+81)+1) hn
  generalize flK k=f at this ⊢
  generalize hX:4*(f+81)+1=X at this ⊢
  generalize n*X=Y at this ⊢
  omega
 intro k
 induction k with
 | zero=>exact fun hk=>⟨Ms.id n _,key 0 hk (Ms.id n _)⟩
 | succ k ih =>
  intro hk
  obtain ⟨h1,h2,h3⟩:=ih (by omega)
  have h4:Ms (flK (k+1)) (flM a n (k+1)):=(h2.addD h3 n).le (by show _≤20*flK k+1700;omega)
  exact ⟨h4,key (k+1) hk h4⟩
end Go.Eng

namespace Go.Eng
def conv (A h:Nat→Rat) (K:Nat):Nat→Rat
 | 0=>0
 | a+1=>conv A h K a+A a*h (K-a)
end Go.Eng

namespace Go.Eng
def esum (ε f:Nat→Rat):Nat→Rat
 | 0=>0
 | N+1=>esum ε f N+ε N*f N
theorem esum_congr {ε f g:Nat→Rat} : ∀ N,(∀ k,k<N→f k=g k)→esum ε f N=esum ε g N
 | 0,_=>rfl
 | N+1,h=>by rw[esum,esum,esum_congr N (fun k hk=>h k (by omega)),h N (by omega)]
theorem esum_add (ε f g:Nat→Rat) : ∀ N,esum ε (fun k=>f k+g k) N=esum ε f N+esum ε g N
 | 0=>by simp only[esum];grind
 | N+1=>by simp only[esum,esum_add ε f g N];grind
theorem esum_mul (ε f:Nat→Rat) (c:Rat) : ∀ N,esum ε (fun k=>c*f k) N=c*esum ε f N
 | 0=>by simp only[esum];grind
 | N+1=>by simp only[esum,esum_mul ε f c N];grind
theorem esum_div (ε f:Nat→Rat) (u:Rat) (N:Nat):esum ε (fun k=>f k/u) N=esum ε f N/u:=by
 rw[Rat.div_def,Rat.mul_comm,←esum_mul]
 exact esum_congr N fun k _=>by rw[Rat.div_def,Rat.mul_comm]
theorem esum_zero (ε:Nat→Rat) : ∀ N,esum ε (fun _=>0) N=0
 | 0=>rfl
 | N+1=>by rw[esum,esum_zero ε N];grind
theorem esum_delta (ε:Nat→Rat) (i:Nat) : ∀ N,esum ε (fun k=>if (i:Int)=(k:Int) then 1 else 0) N=if i<N then ε i else 0
 | 0=>rfl
 | N+1=>by
  rw[esum,esum_delta ε i N]
  by_cases h:i=N
  ·subst h
   rw[if_neg (show ¬ i<i by omega),if_pos rfl,if_pos (show i<i+1 by omega)];grind
  ·rw[if_neg (show ¬ (i:Int)=(N:Int) by omega)]
   by_cases h2:i<N
   ·rw[if_pos h2,if_pos (show i<N+1 by omega)];grind
   ·rw[if_neg h2,if_neg (show ¬ i<N+1 by omega)];grind
theorem sumQ_esum {A B:List Rat} {C:Nat→List Rat} {ε:Nat→Rat} {N:Nat} : ∀ ts:List (Int × Int),(∀ t∈ts,A.getD t.1.toNat 0=B.getD t.1.toNat 0+esum ε (fun k=>(C k).getD t.1.toNat 0) N)→sumQ A ts=sumQ B ts+esum ε (fun k=>sumQ (C k) ts) N
 | [],_=>by simp only[sumQ,esum_zero];grind
 | t::ts,h=>by
  simp only[sumQ]
  rw[h t (by simp),sumQ_esum ts (fun u hu=>h u (by simp [hu])),esum_add ε (fun k=>(t.2:Rat)*(C k).getD t.1.toNat 0) (fun k=>sumQ (C k) ts),esum_mul]
  grind
def exE (u:Rat) (ε:Nat→Rat):Nat→List Rat→List (List (Int × Int))→List Rat
 | _,vals,[]=>vals
 | k,vals,ts::r=>exE u ε (k+1) (vals++[sumQ vals ts/u+ε k]) r
theorem exE_snoc (u:Rat) (ε:Nat→Rat) (ts:List (Int × Int)) : ∀ (l:List (List (Int × Int))) (k:Nat) (vals:List Rat),exE u ε k vals (l++[ts])=exE u ε k vals l++[sumQ (exE u ε k vals l) ts/u+ε (k+l.length)]
 | [],k,vals=>rfl
 | a::l,k,vals=>by
  rw[List.cons_append,exE,exE_snoc u ε ts l,exE,List.length_cons,show k+1+l.length=k+(l.length+1) by omega]
theorem exE_len (u:Rat) (ε:Nat→Rat) : ∀ (k:Nat) (vals:List Rat) (l:List (List (Int × Int))),(exE u ε k vals l).length=vals.length+l.length
 | _,_,[]=>rfl
 | k,vals,ts::r=>by rw[exE,exE_len u ε (k+1)];simp;omega
theorem unitL_none (m i:Nat):(unitL m (-1)).getD i 0=0:=by
 simp only[unitL,List.getD_eq_getElem?_getD,List.getElem?_map]
 cases (List.range m)[i]? with
 | none=>rfl
 | some j=>simp only[Option.map_some,Option.getD_some];rw[if_neg (by omega)]
theorem exE_lin {u:Rat} (ε:Nat→Rat) (vals:List Rat) (N:Nat) (l:List (List (Int × Int))) (hN:l.length≤N) (ht : ∀ i ts,l[i]? = some ts → ∀ t∈ts,t.1.toNat<vals.length+i) : ∀ i,i≤l.length → ∀ m,m<vals.length+i →
  (exE u ε 0 vals (l.take i)).getD m 0=(exS u (-1) 0 vals (l.take i)).getD m 0+esum ε (fun k=>(exS u (k:Int) 0 (unitL vals.length (-1)) (l.take i)).getD m 0) N
 | 0,_,m,hm=>by
  rw[List.take_zero,exE,exS,esum_congr N (g:=fun _=>0) (fun k _=>by rw[exS];exact unitL_none _ _),esum_zero]
  grind
 | i+1,hi,m,hm=>by
  have ih:=exE_lin (u:=u) ε vals N l hN ht i (by omega)
  obtain ⟨ts,hts⟩ : ∃ ts,l[i]? = some ts:=⟨_,List.getElem?_eq_getElem (by omega)⟩
  have hl:(l.take i).length=i:=by rw[List.length_take];omega
  have e1:exE u ε 0 vals (l.take (i+1))=exE u ε 0 vals (l.take i)++[sumQ (exE u ε 0 vals (l.take i)) ts/u+ε i]:=by
   rw[List.take_add_one,hts,Option.toList_some,exE_snoc,hl,Nat.zero_add]
  have e2:=exS_take u (-1) vals l i ts hts
  have e3:=fun k:Nat=>exS_take u (k:Int) (unitL vals.length (-1)) l i ts hts
  have l1:(exE u ε 0 vals (l.take i)).length=vals.length+i:=by rw[exE_len,hl]
  have l2:(exS u (-1) 0 vals (l.take i)).length=vals.length+i:=by rw[exS_len,hl]
  have l3 : ∀ k:Nat,(exS u (k:Int) 0 (unitL vals.length (-1)) (l.take i)).length=vals.length+i:=fun k=>by rw[exS_len,hl,unitL_len]
  rw[e1,e2]
  by_cases hm2:m<vals.length+i
  ·rw[getD_snoc_lt (by omega),getD_snoc_lt (by omega),ih m hm2]
   congr 1
   exact esum_congr N fun k _=>by rw[e3,getD_snoc_lt (by rw[l3];exact hm2)]
  ·rw[getD_snoc_eq (by omega),getD_snoc_eq (by omega),esum_congr N (g:=fun k=>sumQ (exS u (k:Int) 0 (unitL vals.length (-1)) (l.take i)) ts/u+(if (i:Int)=(k:Int) then 1 else 0)) (fun k _=>by rw[e3,getD_snoc_eq (by rw[l3];omega)]),
    esum_add ε (fun k=>sumQ (exS u (k:Int) 0 (unitL vals.length (-1)) (l.take i)) ts/u) (fun k=>if (i:Int)=(k:Int) then 1 else 0),esum_delta,if_pos (show i<N by omega),esum_div,
    sumQ_esum (B:=exS u (-1) 0 vals (l.take i)) (C:=fun k=>exS u (k:Int) 0 (unitL vals.length (-1)) (l.take i)) (ε:=ε) (N:=N) ts (fun t h=>ih _ (ht i ts hts t h)),if_neg (by omega)]
   simp only[Rat.div_def]
   grind
variable {n:Nt}
theorem sumQ_pre {vals r:List Int} : ∀ ts:List (Int × Int),(∀ t∈ts,t.1.toNat<vals.length)→sumQ (intsQ (vals++r)) ts=sumQ (intsQ vals) ts
 | [],_=>rfl
 | t::ts,h=>by
  have ht:=h t (by simp)
  simp only[sumQ]
  rw[sumQ_pre ts (fun u hu=>h u (by simp [hu])),intsQ_getD,intsQ_getD,List.getD_eq_getElem?_getD,List.getD_eq_getElem?_getD,List.getElem?_append_left ht]
theorem comp_pre : ∀ (l:List Nd) (vals:List Int) (ov:Bool),∃ r,(compS n vals ov l).1=vals++r
 | [],vals,ov=>⟨[],by simp [compS]⟩
 | nd::l,vals,ov=>by
  obtain ⟨r,hr⟩:=comp_pre l (vals++[redS n.d (nodeS n vals nd)]) (ov || !decide (FT n.d (nodeS n vals nd)))
  exact ⟨redS n.d (nodeS n vals nd)::r,by rw[compS,hr,List.append_assoc];rfl⟩
theorem comp_exE {V:List Int} : ∀ (l:List Nd) (vals:List Int) (k:Nat) (ov:Bool),(compS n vals ov l).1=V→(∀ i nd,l[i]? = some nd→(tsOf n)[k+i]? = some nd.ts)→vals.length=(1+n.s).toNat+k→(∀ i nd,l[i]? = some nd → ∀ t∈nd.ts,t.1.toNat<vals.length+i) →
  intsQ V=exE ((pw n.c.f:Int):Rat) (errK n V) k (intsQ vals) (l.map Nd.ts)
 | [],vals,k,ov,h,_,_,_=>by
  rw[←h];rfl
 | nd::l,vals,k,ov,h,ht,hl,hb=>by
  have h':(compS n (vals++[redS n.d (nodeS n vals nd)]) (ov || !decide (FT n.d (nodeS n vals nd))) l).1=V:=h
  obtain ⟨r,hr⟩:=comp_pre (n:=n) l (vals++[redS n.d (nodeS n vals nd)]) (ov || !decide (FT n.d (nodeS n vals nd)))
  rw[h']at hr
  generalize redS n.d (nodeS n vals nd)=w at *
  have e0:V.getD ((1+n.s).toNat+k) 0=w:=by
   rw[hr,List.append_assoc,List.getD_eq_getElem?_getD,List.getElem?_append_right (by omega),hl,Nat.sub_self];rfl
  have e1:(tsOf n).getD k []=nd.ts:=by
   have:=ht 0 nd rfl
   rw[List.getD_eq_getElem?_getD,show k=k+0 by omega,this];rfl
  have e2:errK n V k=((w:Int):Rat)-sumQ (intsQ vals) nd.ts/((pw n.c.f:Int):Rat):=by
   unfold errK
   rw[e0,e1,hr,List.append_assoc,sumQ_pre nd.ts (fun t h=>hb 0 nd rfl t h)]
  have ih:=comp_exE l (vals++[w]) (k+1) _ h' (fun i nd h=>by rw[show k+1+i=k+(i+1) by omega];exact ht (i+1) nd h) (by simp;omega) (fun i nd2 h t h2=>by
   have:=hb (i+1) nd2 h t h2
   simp;omega)
  rw[List.map_cons,exE,e2,show sumQ (intsQ vals) nd.ts/((pw n.c.f:Int):Rat)+(((w:Int):Rat)-sumQ (intsQ vals) nd.ts/((pw n.c.f:Int):Rat))=((w:Int):Rat) by grind,show intsQ vals++[((w:Int):Rat)]=intsQ (vals++[w]) by rw[intsQ_append];rfl]
  exact ih
def fA (n:Nt) (e:Int):List Rat:=(List.range n.s.toNat).map fun (j:Nat)=>(spreadQ n ((j:Int)+1) (-1)).getD e.toNat 0
def gX (n:Nt) (e:Int):Rat:=(spreadQ n 0 (-1)).getD e.toNat 0
def gK (n:Nt) (k:Nat) (e:Int):Rat:=(spreadQ n (-1) (k:Int)).getD e.toNat 0
theorem lin_nextE (now:List Rat) (x:Rat):(linQ n).next now x=n.next.map fun e=>dotQ (fA n e) now+gX n e*x:=nextQ_map now x (fA n) (gX n) n.next
theorem inj_nextE (k:Nat) (now:List Rat) (x:Rat):(injQ n (k:Int)).next now x=n.next.map fun e=>dotQ (fA n e) now+gK n k e*x:=nextQ_map now x (fA n) (gK n k) n.next
theorem val_err (hb:netB n=true) {st:List Int} {x:Int} (hl:(st.length:Int)=n.s) {e:Int} (he:0≤e∧e≤n.s+n.nodes.length) :
  (((compS n (x::st) false n.nodes).1.getD e.toNat 0:Int):Rat)=(dotQ (fA n e) (intsQ st)+gX n e*((x:Int):Rat))+esum (errK n (compS n (x::st) false n.nodes).1) (fun k=>gK n k e) n.nodes.length:=by
 obtain ⟨h1,h2,h3,h4,h5,h6⟩:=(netB_iff n).1 hb
 have hlt:(tsOf n).length=n.nodes.length:=by simp [tsOf]
 have ht : ∀ (i:Nat) (nd:Nd),n.nodes[i]? = some nd → ∀ t∈nd.ts,t.1.toNat<(x::st).length+i:=fun i nd h t ht=>by
  have:=List.all_eq_true.1 (nodesB_at h4 h) t ht
  simp only[termB,decide_eq_true_eq]at this
  simp only[List.length_cons]
  omega
 have hE:=comp_exE (n:=n) n.nodes (x::st) 0 false rfl (fun i nd h=>by rw[Nat.zero_add,tsOf,List.getElem?_map,h];rfl) (by simp only[List.length_cons];omega) ht
 generalize (compS n (x::st) false n.nodes).1=V at *
 have hm:e.toNat<(intsQ (x::st)).length+(tsOf n).length:=by rw[intsQ_len,hlt,List.length_cons];omega
 have hL:=exE_lin (u:=((pw n.c.f:Int):Rat)) (errK n V) (intsQ (x::st)) n.nodes.length (tsOf n) (by omega) (fun i ts h t h2=>by
  rw[intsQ_len]
  simp only[tsOf,List.getElem?_map]at h
  cases hn:n.nodes[i]? with
  | none=>rw[hn]at h;cases h
  | some nd =>
   rw[hn]at h
   cases h
   exact ht i nd hn t h2) (tsOf n).length (Nat.le_refl _) e.toNat hm
 rw[List.take_length]at hL
 rw[←intsQ_getD,hE,show n.nodes.map Nd.ts=tsOf n from rfl,hL]
 have hA:=lin_at (n:=n) hb (x:=((x:Int):Rat)) (now:=intsQ st) (by rw[intsQ_len];exact hl) (m:=e.toNat) (by rw[intsQ_len];omega)
 rw[show intsQ (x::st)=((x:Int):Rat)::intsQ st from rfl,hA]
 have e2:(1+n.s).toNat=(((x:Int):Rat)::intsQ st).length:=by rw[List.length_cons,intsQ_len];omega
 congr 1
 refine esum_congr _ fun k _ => ?_
 unfold gK spreadQ
 rw[e2]
def tot (n:Nt) (K:Nat):List Rat→List Rat→List (Nat→Rat)→List Rat
 | st,x::xs,ε::es=>((dotQ (fA n n.out) st+gX n n.out*x)+esum ε (fun k=>gK n k n.out) K)::tot n K (n.next.map fun e=>(dotQ (fA n e) st+gX n e*x)+esum ε (fun k=>gK n k e) K) xs es
 | _,_,_=>[]
theorem tot_zero : ∀ (xs st:List Rat) (es:List (Nat→Rat)),es.length=xs.length→tot n 0 st xs es=(linQ n).outs st xs
 | [],st,[],_=>rfl
 | x::xs,st,ε::es,h=>by
  rw[tot]
  show _=(linQ n).out st x::(linQ n).outs ((linQ n).next st x) xs
  rw[lin_nextE,←tot_zero xs _ es (by simpa using h)]
  congr 1
  ·show _=dotQ (fA n n.out) st+gX n n.out*x
   rw[esum,Rat.add_zero]
  ·congr 1
   refine List.map_congr_left fun e _ => ?_
   rw[esum,Rat.add_zero]
theorem addL_map {α:Type} (f g:α→Rat) : ∀ l:List α,addL (l.map f) (l.map g)=l.map fun e=>f e+g e
 | []=>rfl
 | e::l=>by
  show (f e+g e)::addL (l.map f) (l.map g)=_
  rw[addL_map f g l];rfl
theorem addL_zeros : ∀ (l:List Rat),addL l (List.replicate l.length 0)=l
 | []=>rfl
 | x::l=>by
  show (x+0)::addL l (List.replicate l.length 0)=_
  rw[addL_zeros l,Rat.add_zero]
theorem tot_succ (K:Nat) : ∀ (xs st w:List Rat) (es:List (Nat→Rat)),es.length=xs.length→st.length=w.length→tot n (K+1) (addL st w) xs es=addL (tot n K st xs es) ((injQ n (K:Int)).outs w (es.map fun ε=>ε K))
 | [],st,w,[],_,_=>rfl
 | x::xs,st,w,ε::es,h,hw=>by
  rw[tot,tot,List.map_cons]
  show _=addL (_::_) ((injQ n (K:Int)).out w (ε K)::(injQ n (K:Int)).outs ((injQ n (K:Int)).next w (ε K)) (es.map fun ε=>ε K))
  rw[inj_nextE]
  have key : ∀ e:Int,dotQ (fA n e) (addL st w)+gX n e*x+esum ε (fun k=>gK n k e) (K+1)=(dotQ (fA n e) st+gX n e*x+esum ε (fun k=>gK n k e) K)+(dotQ (fA n e) w+gK n K e*ε K):=fun e=>by
   rw[dotQ_add hw,esum];grind
  have hs:(n.next.map fun e=>dotQ (fA n e) (addL st w)+gX n e*x+esum ε (fun k=>gK n k e) (K+1))=addL (n.next.map fun e=>dotQ (fA n e) st+gX n e*x+esum ε (fun k=>gK n k e) K) (n.next.map fun e=>dotQ (fA n e) w+gK n K e*ε K):=by
   rw[addL_map]
   exact List.map_congr_left fun e _=>key e
  rw[hs,tot_succ K xs _ _ es (by simpa using h) (by simp),key]
  rfl
def valsL (n:Nt):List Int→List Int→List (List Int)
 | _,[]=>[]
 | st,x::xs=>(compS n (x::st) false n.nodes).1::valsL n (follS n (compS n (x::st) false n.nodes).1) xs
def outsL (n:Nt):List Int→List Int→List Int
 | _,[]=>[]
 | st,x::xs=>(compS n (x::st) false n.nodes).1.getD n.out.toNat 0::outsL n (follS n (compS n (x::st) false n.nodes).1) xs
theorem valsL_len : ∀ (xs st:List Int),(valsL n st xs).length=xs.length
 | [],_=>rfl
 | x::xs,st=>by rw[valsL,List.length_cons,valsL_len xs,List.length_cons]
theorem outsL_len : ∀ (xs st:List Int),(outsL n st xs).length=xs.length
 | [],_=>rfl
 | x::xs,st=>by rw[outsL,List.length_cons,outsL_len xs,List.length_cons]
theorem runA_outsL : ∀ (xs st outs:List Int) (c:Int),(runA n outs st c xs).1=outs++outsL n st xs
 | [],st,outs,c=>by simp [runA,outsL]
 | x::xs,st,outs,c=>by rw[runA,runA_outsL xs,outsL,List.append_assoc];rfl
theorem tot_run (hb:netB n=true) : ∀ (xs st:List Int),(st.length:Int)=n.s→tot n n.nodes.length (intsQ st) (intsQ xs) ((valsL n st xs).map (errK n))=intsQ (outsL n st xs)
 | [],st,_=>rfl
 | x::xs,st,hl=>by
  obtain ⟨h1,h2,h3,h4,h5,h6⟩:=(netB_iff n).1 hb
  have hv:=fun e he=>val_err (n:=n) hb (st:=st) (x:=x) hl (e:=e) he
  have hst:(n.next.map fun e=>(dotQ (fA n e) (intsQ st)+gX n e*((x:Int):Rat))+esum (errK n (compS n (x::st) false n.nodes).1) (fun k=>gK n k e) n.nodes.length)=intsQ (follS n (compS n (x::st) false n.nodes).1):=by
   simp only[follS,intsQ,List.map_map]
   refine List.map_congr_left fun e he => ?_
   have:=List.all_eq_true.1 h5 e he
   simp only[decide_eq_true_eq]at this
   exact (hv e this).symm
  rw[valsL,outsL,List.map_cons,show intsQ (x::xs)=((x:Int):Rat)::intsQ xs from rfl,tot,hst,tot_run hb xs _ (by simp [follS];omega),←hv n.out h6]
  rfl
end Go.Eng

namespace Go.Eng
open F
attribute [local irreducible] AKM CmpP Req OpP UnP ConvP RdP LdR StR MkR LenP AppR AppN CpyR RowP SnR Bds SlS CallP CalP FinP pw LdM GetM SetM PutM MkM AppM SnM FlP CallR
set_option maxHeartbeats 1000000
variable {L:Lib}
end Go.Eng

namespace Go.Eng
open Go.ChangeShapes Go.WideShapes Go.ChangeAt Go.RowKit
inductive Ty where
 | int (k:IntKind)
 | bool
 | sl (e:Ty)
 | nil
 | cons (a r:Ty)
def Ty.cells:Ty→Nat
 | .int _=>1 | .bool=>1 | .sl _=>1
 | .nil=>0
 | .cons a r=>a.cells+r.cells
def HasL:Ty→List AV→Prop
 | .int k,cs => ∃ n,cs=[.int k n]∧(Lit.int k n).wf=true
 | .bool,cs => ∃ b,cs=[.bool b]
 | .sl e,cs => ∃ es,cs=[.sl true es]∧es.length≤maxLen ∧ ∀ x∈es,HasL e x
 | .nil,cs=>cs=[]
 | .cons a r,cs => ∃ x y,cs=x++y∧HasL a x∧HasL r y
theorem HasL.len : ∀ {ty:Ty} {cs:List AV},HasL ty cs→cs.length=ty.cells
 | .int _,cs,h=>by obtain ⟨n,rfl,_⟩:=h;rfl
 | .bool,cs,h=>by obtain ⟨n,rfl⟩:=h;rfl
 | .sl _,cs,h=>by obtain ⟨n,rfl,_⟩:=h;rfl
 | .nil,cs,h=>by rw[show cs=[] from h];rfl
 | .cons a r,cs,h=>by obtain ⟨x,y,rfl,h1,h2⟩:=h;simp [Ty.cells,HasL.len h1,HasL.len h2]
def okTy (P:Program):Nat→TypeId→Ty→Bool
 | 0,_,_=>false
 | n+1,t,ty=>match P.underlying t,ty with
  | some (.int k),.int k'=>decide (k=k')
  | some .bool,.bool=>true
  | some (.slice e),.sl ty'=>okTy P n e ty'&&(P.cellsOf e == ty'.cells&&decide (0<ty'.cells))
  | some (.struct fs),ty=>go (okTy P n) fs.toList 0 ty&&P.cellsOf t == ty.cells
  | _,_=>false
where
 go (ok:TypeId→Ty→Bool):List Field→Nat→Ty→Bool
  | [],_,.nil=>true
  | f::fs,off,.cons a r=>(f.offset == off&&(ok f.type a&&P.cellsOf f.type == a.cells))&&go ok fs (off+a.cells) r
  | _,_,_=>false
section
variable {H:Type} {enc:TypeId × Value→H} {P:Program} {w:World} {base:Nat} {spare:Nat→Bool} {held:Bool} {R:Bool→Nat→Prop}
def RdL (w:World) (R:Bool→Nat→Prop) (as:List AV) (cs:List Value):Prop:=as.length=cs.length ∧ ∀ (j:Nat) (a:AV) (c:Value),as[j]? = some a→cs[j]? = some c→Rd w R a c
theorem RdL.one {a:AV} {c:Value} (h:Rd w R a c):RdL w R [a] [c]:=by
 refine ⟨rfl,fun j a' c' h1 h2 => ?_⟩
 cases j with
 | zero=>simp at h1 h2;subst h1 h2;exact h
 | succ j=>simp at h1
theorem RdL.append {as bs:List AV} {cs ds:List Value} (h1:RdL w R as cs) (h2:RdL w R bs ds):RdL w R (as++bs) (cs++ds):=by
 refine ⟨by simp [h1.1,h2.1],fun j a c ha hc => ?_⟩
 by_cases hj:j<as.length
 ·rw[List.getElem?_append_left hj]at ha
  rw[List.getElem?_append_left (by rw[←h1.1];exact hj)]at hc
  exact h1.2 j a c ha hc
 ·rw[List.getElem?_append_right (by omega)]at ha
  rw[List.getElem?_append_right (by rw[←h1.1];omega),←h1.1]at hc
  exact h2.2 _ a c ha hc
theorem add_off (a:Addr) (i:Nat) (h:a.spot=none):a.add i=⟨a.block,a.off+i,none⟩:=by
 obtain ⟨b,o,s⟩:=a
 simp only at h
 subst h
 exact add_none b o i
theorem open_go (hR : ∀ b,b<w.heap.size→R true b) (m:Nat) (ih : ∀ (ty:Ty) (t:TypeId) (cs:List Value) (fuel:Nat) (x:DataW H × List MemPlace),okTy P m t ty=true→DataW.trod enc P w base spare held fuel t cs=some x → ∃ as,HasL ty as∧RdL w R as cs)
  (n:Nat) (cs:List Value) : ∀ (fs:List Field) (off:Nat) (ty:Ty),okTy.go P (okTy P m) fs off ty=true→(∀ f∈fs,∃ y,DataW.trod enc P w base spare held n f.type ((cs.drop f.offset).take (P.cellsOf f.type))=some y)→off+ty.cells=cs.length → ∃ as,HasL ty as∧RdL w R as (cs.drop off)
 | [],off,ty,hok,_,hl=>by
  cases ty<;>simp only[okTy.go,Bool.false_eq_true]at hok
  simp only[Ty.cells]at hl
  exact ⟨[],rfl,by rw[List.drop_of_length_le (by omega)];exact ⟨rfl,fun j a c h=>by simp at h⟩⟩
 | f::fs,off,ty,hok,hf,hl=>by
  cases ty<;>simp only[okTy.go,Bool.false_eq_true,Bool.and_eq_true,beq_iff_eq]at hok
  rename_i a r
  obtain ⟨⟨h1,h2,h3⟩,h4⟩:=hok
  simp only[Ty.cells]at hl
  obtain ⟨y,hy⟩:=hf f List.mem_cons_self
  rw[h1,h3]at hy
  obtain ⟨as1,g1,g2⟩:=ih a f.type _ n y h2 hy
  obtain ⟨as2,g3,g4⟩:=open_go hR m ih n cs fs (off+a.cells) r h4 (fun f' h'=>hf f' (List.mem_cons_of_mem _ h')) (by omega)
  refine ⟨as1++as2,⟨as1,as2,rfl,g1,g3⟩,?_⟩
  have:=g2.append g4
  rwa [show (cs.drop off).take a.cells++cs.drop (off+a.cells)=cs.drop off by rw[←List.drop_drop,List.take_append_drop]]at this
theorem open_any (hR : ∀ b,b<w.heap.size→R true b) : ∀ (m:Nat) (ty:Ty) (t:TypeId) (cs:List Value) (fuel:Nat) (x:DataW H × List MemPlace),okTy P m t ty=true→DataW.trod enc P w base spare held fuel t cs=some x → ∃ as,HasL ty as∧RdL w R as cs
 | 0,_,_,_,_,_,h,_=>by simp [okTy]at h
 | m+1,ty,t,cs,fuel,x,hok,h=>by
  have ih:=open_any hR m
  simp only[okTy]at hok
  split at hok
  ·rename_i k k' hu
   obtain rfl:k=k':=by simpa using hok
   obtain ⟨n,rfl,_,hw⟩:=DataW.trod_int hu h
   exact ⟨[.int k n],⟨n,rfl,hw⟩,RdL.one (.int k n)⟩
  ·rename_i hu
   cases fuel with
   | zero=>simp [DataW.trod]at h
   | succ fuel =>
    unfold DataW.trod at h
    rw[hu]at h
    split at h<;>simp_all
    exact ⟨_,⟨_,rfl⟩,RdL.one (.bool _)⟩
  ·rename_i e ty' hu
   simp only[Bool.and_eq_true,beq_iff_eq,decide_eq_true_eq]at hok
   obtain ⟨h1,h2,h3⟩:=hok
   rcases DataW.trod_slice hu h with ⟨rfl,_⟩|⟨a,len,cap,elems,rest,n,_,rfl,_,hb,hl,hm,hlen,hel,_,_⟩
   ·exact ⟨[.sl true []],⟨[],rfl,by simp,by simp⟩,RdL.one (.sl0 true none 0)⟩
   ·have each : ∀ i,i<len → ∃ as cs',HasL ty' as∧RdL w R as cs'∧cs'.length=ty'.cells ∧ ∀ j,j<ty'.cells→w.cell? ((a.add (i*ty'.cells)).add j)=cs'[j]? := by
     intro i hi
     have:=hel i hi
     rw[h2,List.getElem?_eq_getElem (by omega),Option.bind_eq_some_iff]at this
     obtain ⟨cs',hc,ht⟩:=this
     obtain ⟨as,g1,g2⟩:=ih ty' e cs' n _ h1 ht
     obtain ⟨_,q1,q2⟩:=World.cells?_some hc
     exact ⟨as,cs',g1,g2,q1,q2⟩
    by_cases h0:len=0
    ·subst h0
     exact ⟨[.sl true []],⟨[],rfl,by simp,by simp⟩,RdL.one (.sl0 true (some a) cap)⟩
    ·have hspot:a.spot=none:=by
      obtain ⟨as,cs',_,_,q1,q2⟩:=each 0 (by omega)
      have:=q2 0 h3
      rw[List.getElem?_eq_getElem (by omega)]at this
      simpa [Addr.add] using World.cell?_spot this
     have hblk:a.block<w.heap.size:=by
      obtain ⟨as,cs',_,_,q1,q2⟩:=each 0 (by omega)
      have:=q2 0 h3
      rw[List.getElem?_eq_getElem (by omega)]at this
      simpa [Addr.add] using cell_lt this
     have pick : ∃ f:Nat→List AV × List Value,∀ i,i<len→HasL ty' (f i).1∧RdL w R (f i).1 (f i).2∧(f i).2.length=ty'.cells ∧ ∀ j,j<ty'.cells→w.cell? ((a.add (i*ty'.cells)).add j)=(f i).2[j]? := by
      refine ⟨fun i=>if hi:i<len then (Classical.choose (each i hi),Classical.choose (Classical.choose_spec (each i hi))) else ([],[]),fun i hi => ?_⟩
      simp only[hi,dif_pos]
      exact Classical.choose_spec (Classical.choose_spec (each i hi))
     obtain ⟨f,hf⟩:=pick
     have hget : ∀ i e',((List.range len).map fun i=>(f i).1)[i]? = some e'→i<len∧e'=(f i).1:=by
      intro i e' he
      rw[List.getElem?_map]at he
      by_cases hi:i<len
      ·rw[List.getElem?_range hi]at he
       simp at he
       exact ⟨hi,he.symm⟩
      ·rw[List.getElem?_eq_none (by simpa using hi)]at he
       cases he
     refine ⟨[.sl true ((List.range len).map fun i=>(f i).1)],⟨_,rfl,by simp;omega,fun x hx => ?_⟩,RdL.one ?_⟩
     ·obtain ⟨i,hi,rfl⟩:=List.mem_map.1 hx
      exact (hf i (List.mem_range.1 hi)).1
     ·obtain ⟨ab,ao,as⟩:=a
      simp only at hspot
      subst hspot
      have hlen':((List.range len).map fun i=>(f i).1).length=len:=by simp
      have:=Rd.sl (w:=w) (R:=R) true ((List.range len).map fun i=>(f i).1) ab ao ty'.cells cap (fun i j=>((f i).2[j]?).getD default) (by intro e;have:=congrArg List.length e;simp at this;omega) h3 (hR ab hblk) (by rw[hlen'];exact hl)
       (fun e' he=>by
        obtain ⟨i,hi,rfl⟩:=List.mem_map.1 he
        exact (hf i (List.mem_range.1 hi)).1.len)
       (fun i e' he j c hc=>by
        obtain ⟨hi,rfl⟩:=hget i e' he
        obtain ⟨g1,g2,g3,g4⟩:=hf i hi
        have hj:j<ty'.cells:=by
         have:=(List.getElem?_eq_some_iff.1 hc).1
         rwa [g1.len]at this
        have h5:=g4 j hj
        rw[add_off ⟨ab,ao,none⟩ (i*ty'.cells) rfl,add_off _ _ rfl]at h5
        simp only at h5
        rw[show ao+(i*ty'.cells+j)=ao+i*ty'.cells+j by omega,h5,List.getElem?_eq_getElem (by omega)]
        rfl)
       (fun i e' he j c hc=>by
        obtain ⟨hi,rfl⟩:=hget i e' he
        obtain ⟨g1,g2,g3,g4⟩:=hf i hi
        have hj:j<ty'.cells:=by
         have:=(List.getElem?_eq_some_iff.1 hc).1
         rwa [g1.len]at this
        have h6:(f i).2[j]? = some ((f i).2[j]'(by omega)):=List.getElem?_eq_getElem _
        rw[h6]
        exact g2.2 j c _ hc h6)
      rwa [hlen']at this
  ·rename_i fs hu
   simp only[Bool.and_eq_true,beq_iff_eq]at hok
   obtain ⟨h1,h2⟩:=hok
   obtain ⟨xs,n,_,_,hl,hlen,hf⟩:=DataW.trod_struct hu h
   have:=open_go hR m ih n cs fs.toList 0 _ h1 (fun f hf'=>by
    obtain ⟨i,hi,rfl⟩:=List.getElem_of_mem hf'
    have h5:=hf i fs.toList[i] (by simp)
    rw[h5,List.getElem?_eq_getElem (by simpa [hlen] using hi)]
    exact ⟨_,rfl⟩) (by rw[hl,h2];omega)
   simpa using this
  ·exact absurd hok (by simp)
theorem open_cell {S:Nat→Prop} {ty:Ty} {t:TypeId} {v:Value} {d:DataW H} {ps:List MemPlace} {m:Nat} (hok:okTy P m t ty=true) (hv:v.cells.toList=[v]) (h:DataW.Trod enc P w base spare held t v d ps) :
  ∃ a,HasL ty [a]∧CA w.heap.size S ⟨fun _ _=>none,Own.emp,w⟩ a v:=by
 obtain ⟨fuel,hf⟩:=h
 rw[hv]at hf
 obtain ⟨as,h1,h2⟩:=open_any (R:=safe w.heap.size S ⟨fun _ _=>none,Own.emp,w⟩) (fun b hb=>Or.inr (Or.inr ⟨rfl,hb⟩)) m ty t [v] fuel _ hok hf
 obtain ⟨a,rfl⟩ : ∃ a,as=[a]:=by
  have:=h2.1
  match as,this with
  | [a],_=>exact ⟨a,rfl⟩
 exact ⟨a,h1,.one (.rd (h2.2 0 a v rfl rfl))⟩
theorem open_st {S:Nat→Prop} {ty:Ty} {t:TypeId} {cs:Array Value} {d:DataW H} {ps:List MemPlace} {m:Nat} (hok:okTy P m t ty=true) (h:DataW.Trod enc P w base spare held t (.agg cs) d ps) :
  ∃ as,HasL ty as∧CA w.heap.size S ⟨fun _ _=>none,Own.emp,w⟩ (.agg as) (.agg cs):=by
 obtain ⟨fuel,hf⟩:=h
 obtain ⟨as,h1,h2⟩:=open_any (R:=safe w.heap.size S ⟨fun _ _=>none,Own.emp,w⟩) (fun b hb=>Or.inr (Or.inr ⟨rfl,hb⟩)) m ty t cs.toList fuel _ hok hf
 refine ⟨as,h1,?_⟩
 have:=CA.agg (B:=w.heap.size) (S:=S) (m:=⟨fun _ _=>none,Own.emp,w⟩) as cs.toList ⟨h2.1,fun j c v hc hv => .rd (h2.2 j c v hc hv)⟩
 simpa using this
end
theorem list_of {α:Type} {enc:α→List AV} : ∀ {es:List (List AV)},(∀ x∈es,∃ y,x=enc y) → ∃ l:List α,es=l.map enc
 | [],_=>⟨[],rfl⟩
 | e::r,h=>by
  obtain ⟨y,rfl⟩:=h e List.mem_cons_self
  obtain ⟨l,rfl⟩:=list_of fun x hx=>h x (List.mem_cons_of_mem _ hx)
  exact ⟨y::l,rfl⟩
theorem args_nil {B:Nat} {S:Nat→Prop} {m:M} : ∀ (j:Nat) (c:AV) (v:Value),([]:List AV)[j]? = some c→([]:List Value)[j]? = some v→CA B S m c v:=fun j c v h=>by simp at h
theorem args_cons {B:Nat} {S:Nat→Prop} {m:M} {a:AV} {u:Value} {as:List AV} {us:List Value} (h:CA B S m a u) (hr : ∀ (j:Nat) (c:AV) (v:Value),as[j]? = some c→us[j]? = some v→CA B S m c v) :
  ∀ (j:Nat) (c:AV) (v:Value),(a::as)[j]? = some c→(u::us)[j]? = some v→CA B S m c v
 | 0,c,v,h1,h2=>by simp at h1 h2;subst h1 h2;exact h
 | j+1,c,v,h1,h2=>hr j c v (by simpa using h1) (by simpa using h2)
theorem has_sl {α:Type} {enc:α→List AV} {e:Ty} {cs:List AV} (he : ∀ x,HasL e x → ∃ y,x=enc y) (h:HasL (.sl e) cs) : ∃ l:List α,cs=[.sl true (l.map enc)]∧l.length<9223372036854775808:=by
 obtain ⟨es,rfl,hl,hx⟩:=h
 obtain ⟨l,rfl⟩:=list_of (enc:=enc) fun x hm=>he x (hx x hm)
 refine ⟨l,rfl,?_⟩
 have:maxLen=9223372036854775807:=rfl
 simp at hl
 omega
theorem law_calls {P:Program} {num:Nat→Nat} {L:Lib} (hP:ProgOK P num L) {f:Nat} {vs:List AV} (h:Ev L f vs (.bool true)) {S:Nat→Prop} {w:World} {us:List Value} (hl:vs.length=us.length)
  (ha : ∀ (j:Nat) (c:AV) (v:Value),vs[j]? = some c→us[j]? = some v→CA w.heap.size S ⟨fun _ _=>none,Own.emp,w⟩ c v) :
  Calls P (num f) us.toArray w fun e w'=>e = .returned (.bool true)∧Below w.heap.size w w':=by
 obtain ⟨n,hn⟩:=h
 refine ((calls_ok hP n).pure f vs _ hn S w us hl ha).mono ?_
 rintro e w' ⟨u,rfl,hb,hcv,_⟩
 refine ⟨?_,hb⟩
 cases hcv with
 | ca hca=>cases hca with
  | one hcc=>cases hcc with
   | rd hrd=>cases hrd;rfl
end Go.Eng

namespace Go.Eng
abbrev tI:Ty := .int .i64
theorem has_i {cs:List AV} (h:HasL tI cs) : ∃ n,cs=encInt n:=by obtain ⟨n,rfl,_⟩:=h;exact ⟨n,rfl⟩
theorem has_ints {cs:List AV} (h:HasL (.sl tI) cs) : ∃ l:List Int,cs=[.sl true (l.map encInt)]∧l.length<9223372036854775808:=has_sl (fun _=>has_i) h
end Go.Eng

namespace Go.Eng
theorem list_ofP {α:Type} {enc:α→List AV} {p:α→Prop} : ∀ {es:List (List AV)},(∀ x∈es,∃ y,x=enc y∧p y) → ∃ l:List α,es=l.map enc ∧ ∀ y∈l,p y
 | [],_=>⟨[],rfl,by simp⟩
 | e::es,h=>by
  obtain ⟨y,rfl,hy⟩:=h e List.mem_cons_self
  obtain ⟨l,rfl,hl⟩:=list_ofP (enc:=enc) (p:=p) fun x hx=>h x (List.mem_cons_of_mem _ hx)
  exact ⟨y::l,rfl,by simpa using ⟨hy,hl⟩⟩
theorem has_slP {α:Type} {enc:α→List AV} {p:α→Prop} {e:Ty} {cs:List AV} (he : ∀ x,HasL e x → ∃ y,x=enc y∧p y) (h:HasL (.sl e) cs) : ∃ l:List α,cs=[.sl true (l.map enc)]∧l.length<9223372036854775808 ∧ ∀ y∈l,p y:=by
 obtain ⟨es,rfl,hl,hx⟩:=h
 obtain ⟨l,rfl,hp⟩:=list_ofP (enc:=enc) (p:=p) fun x hm=>he x (hx x hm)
 refine ⟨l,rfl,?_,hp⟩
 have:maxLen=9223372036854775807:=rfl
 simp at hl
 omega
theorem wf_InI {n:Int} (h:(Lit.int .i64 n).wf=true):InI n:=by
 simp only[Lit.wf,Bool.and_eq_true,decide_eq_true_eq]at h
 have h1:IntKind.i64.min = -9223372036854775808:=rfl
 have h2:IntKind.i64.max=9223372036854775807:=rfl
 rw[h1,h2]at h
 unfold InI
 constructor<;>omega
theorem has_iI {cs:List AV} (h:HasL tI cs) : ∃ n,cs=encInt n∧InI n:=by obtain ⟨n,rfl,hw⟩:=h;exact ⟨n,rfl,wf_InI hw⟩
theorem has_intsI {cs:List AV} (h:HasL (.sl tI) cs) : ∃ l:List Int,cs=[.sl true (l.map encInt)]∧l.length<9223372036854775808∧allI l:=has_slP (fun _=>has_iI) h
abbrev tWr:Ty := .cons (.sl tI) (.cons (.sl tI) .nil)
theorem has_wr {cs:List AV} (h:HasL tWr cs) : ∃ w,cs=encWr w∧(allI w.1.2∧allI w.2.2):=by
 obtain ⟨_,_,rfl,h1,_,_,rfl,h2,rfl⟩:=h
 obtain ⟨l1,rfl,_,a1⟩:=has_intsI h1
 obtain ⟨l2,rfl,_,a2⟩:=has_intsI h2
 exact ⟨((true,l1),(true,l2)),rfl,a1,a2⟩
abbrev tR:Ty := .cons tI (.cons tI (.cons tI (.cons (.sl tWr) (.cons (.sl tI) (.cons tI (.cons .bool .nil))))))
theorem has_raw {cs:List AV} (h:HasL tR cs) : ∃ r:Rw,cs=encR r∧InI r.data∧InI r.coef∧InI r.states∧InI r.out∧allI r.next∧(∀ w∈r.nodes,allI w.1.2∧allI w.2.2)∧r.nodes.length<9223372036854775808:=by
 obtain ⟨_,_,rfl,h1,_,_,rfl,h2,_,_,rfl,h3,_,_,rfl,h4,_,_,rfl,h5,_,_,rfl,h6,_,_,rfl,⟨b,rfl⟩,rfl⟩:=h
 obtain ⟨a,rfl,i1⟩:=has_iI h1
 obtain ⟨c,rfl,i2⟩:=has_iI h2
 obtain ⟨s,rfl,i3⟩:=has_iI h3
 obtain ⟨nodes,rfl,l4,i4⟩:=has_slP (enc:=encWr) (fun _=>has_wr) h4
 obtain ⟨next,rfl,l5,i5⟩:=has_intsI h5
 obtain ⟨o,rfl,i6⟩:=has_iI h6
 exact ⟨⟨a,c,s,true,nodes,true,next,o,b⟩,rfl,i1,i2,i3,i6,i5,i4,l4⟩
end Go.Eng



namespace Go.Eng
open F
attribute [local irreducible] AKM CmpP Req OpP UnP ConvP RdP LdR StR MkR LenP AppR AppN CpyR RowP SnR Bds SlS CallP CalP FinP pw LdM GetM SetM PutM MkM AppM SnM FlP CallR
set_option maxHeartbeats 1000000
variable {L:Lib}
end Go.Eng

namespace Go.Eng
open F
attribute [local irreducible] AKM CmpP Req OpP UnP ConvP RdP LdR StR MkR LenP AppR AppN CpyR RowP SnR Bds SlS CallP CalP FinP pw LdM GetM SetM PutM MkM AppM SnM FlP CallR
set_option maxHeartbeats 1000000
variable {L:Lib}
end Go.Eng



namespace Go.Eng
open F
attribute [local irreducible] AKM CmpP Req OpP UnP ConvP RdP LdR StR MkR LenP AppR AppN CpyR RowP SnR Bds SlS CallP CalP FinP pw LdM GetM SetM PutM MkM AppM SnM FlP CallR
set_option maxHeartbeats 8000000
variable {L:Lib}
theorem coef_rng {n:Nt} (hb:netB n=true) {nd:Nd} (h:nd∈n.nodes) {t:Int × Int} (ht:t∈nd.ts) : -16777216≤t.2∧t.2≤16777216:=by
 obtain ⟨h1,h2,h3,h4,h5,h6⟩:=(netB_iff n).1 hb
 obtain ⟨i,hi⟩:=List.getElem?_of_mem h
 have:=List.all_eq_true.1 (nodesB_at h4 hi) t ht
 simp only[termB,decide_eq_true_eq]at this
 have h2':=h2
 unfold WV at h2'
 have e:=pw_le (n:=n.c.f) (m:=23) (by omega)
 have e2:pw 23=8388608:=by unfold pw;rfl
 have e3:=pw_pos n.c.f
 rcases this with ⟨_,_,h|h⟩
 ·omega
 ·have:=FT_le h;omega
theorem netR_nodesL (r:Rw):(netR r).nodes.length≤4:=by simp [netR,nodesR];omega
theorem netR_tsl (r:Rw) {nd:Nd} (h:nd∈(netR r).nodes):nd.ts.length≤4:=by
 simp only[netR,nodesR,List.map_map,List.mem_map]at h
 obtain ⟨k,_,rfl⟩:=h
 simp only[Function.comp,nodeR]
 split
 ·simp [termsR];omega
 ·simp
theorem netR_small (r:Rw):SmallN (tsOf (netR r)):=by
 constructor
 ·intro ts h
  obtain ⟨nd,h1,rfl⟩:=List.mem_map.1 h
  exact Nat.le_succ_of_le (netR_tsl r h1)
 ·intro ts h t ht
  obtain ⟨nd,h1,rfl⟩:=List.mem_map.1 h
  have:=coef_rng (netR_ok r) h1 ht
  have e:(2:Nat)^24=16777216:=rfl
  omega
theorem linQ_ok {n:Nt} (hb:netB n=true) (hsm:SmallN (tsOf n)) (hnl:n.nodes.length≤4):(linQ n).Ok n.s.toNat 23400:=by
 obtain ⟨h1,h2,h3,h4,h5,h6⟩:=(netB_iff n).1 hb
 have hB:=fun j=>spreadQ_bs n j (-1) h2 hsm hnl
 refine ⟨by simp [linQ];omega,?_,by simp [linQ];omega,by simp [linQ],?_,?_,?_,(hB 0).getD _⟩
 ·intro r hr
  obtain ⟨e,_,rfl⟩:=List.mem_map.1 hr
  simp
 ·intro r hr x hx
  obtain ⟨e,_,rfl⟩:=List.mem_map.1 hr
  obtain ⟨j,_,rfl⟩:=List.mem_map.1 hx
  exact (hB _).getD _
 ·intro x hx
  obtain ⟨e,_,rfl⟩:=List.mem_map.1 hx
  exact (hB _).getD _
 ·intro x hx
  obtain ⟨j,_,rfl⟩:=List.mem_map.1 hx
  exact (hB _).getD _
theorem intsQ_bs {l:List Int} {k:Nat} (h : ∀ v∈l,v.natAbs≤2^k):Bs k (intsQ l):=by
 intro x hx
 obtain ⟨v,hv,rfl⟩:=List.mem_map.1 hx
 exact Bt.ofInt (h v hv)
theorem runA_outs {n:Nt} (hb:netB n=true) : ∀ (xs outs st:List Int) (k:Int),wordsB n.d xs=true→wordsB n.d st=true→(st.length:Int)=n.s→(∀ v∈outs,InI v) → ∀ v∈(runA n outs st k xs).1,InI v
 | [],outs,st,k,_,_,_,h=>h
 | x::xs,outs,st,k,h1,h2,h3,h=>by
  obtain ⟨g1,g2,g3,g4,g5,g6⟩:=(netB_iff n).1 hb
  simp only[wordsB,List.all_cons,Bool.and_eq_true]at h1
  have hw:wordsB n.d (x::st)=true:=by
   simp only[wordsB,List.all_cons,Bool.and_eq_true];exact ⟨h1.1,h2⟩
  have hcl:=comp_len n n.nodes (x::st) false
  have hcw:=comp_words n g1 n.nodes (x::st) false hw
  rw[runA]
  refine runA_outs hb xs _ _ _ h1.2 (foll_words n hcw g5 (by simp at hcl;omega)) (by simp [follS];omega) ?_
  intro v hv
  rcases List.mem_append.1 hv with hv|hv
  ·exact h v hv
  ·simp only[List.mem_singleton]at hv
   subst hv
   rw[List.getD_eq_getElem?_getD]
   cases e:(compS n (x::st) false n.nodes).1[n.out.toNat]? with
   | none=>simp only[Option.getD_none];unfold InI;omega
   | some y =>
    have:=FT_le (by simpa using List.all_eq_true.1 hcw y (List.mem_of_getElem? e):FT n.d y)
    simp only[Option.getD_some];unfold InI;omega
theorem respK_lin : ∀ n,n<4 → ∀ i,i<13→respK n 23400 23400 i≤100000000000:=by decide +kernel
theorem outs_bsE {S:SysQ} {n k K:Nat} (h:S.Ok n k) : ∀ (xs now:List Rat) (s:Nat),now.length=n→Bs s now→Bs k xs→(∀ i,i≤xs.length→respK n k s i≤K)→Bs K (S.outs now xs)∧Bs K (S.state now xs)
 | [],now,s,_,hs,_,hK=>⟨fun x hx=>by simp [SysQ.outs]at hx,hs.le (hK 0 (by simp))⟩
 | x::xs,now,s,hl,hs,hx,hK=>by
  obtain ⟨b1,b2⟩:=h.next_bs hl hs (hx x (by simp))
  obtain ⟨c1,c2⟩:=outs_bsE h xs (S.next now x) (stepK n k s) (h.next_len now x) b1 (fun z hz=>hx z (by simp [hz])) (fun i hi=>hK (i+1) (by simp;omega))
  refine ⟨?_,c2⟩
  intro z hz
  simp only[SysQ.outs,List.mem_cons]at hz
  rcases hz with rfl|hz
  ·exact b2.le (hK 1 (by simp))
  ·exact c1 z hz
end Go.Eng

namespace Go.Eng
open F
attribute [local irreducible] AKM CmpP Req OpP UnP ConvP RdP LdR StR MkR LenP AppR AppN CpyR RowP SnR Bds SlS CallP CalP FinP pw LdM GetM SetM PutM MkM AppM SnM FlP CallR
set_option maxHeartbeats 40000000
variable {L:Lib}
theorem ev_Inject (I:FixedLib L) (N:ModGLib L) (n:Nt) (node:Int) (hv:netB n=true) (hsm:SmallN (tsOf n)) (hnl:n.nodes.length≤4) (hnI:InI node):Ev L 161 [.agg (encN n),.int .i64 node] (injR n node):=by
 have hV:=ev_network_Valid n I N.toNetLib
 rw[hv]at hV
 have hSp:=fun (j:Int) (h:0≤j∧j≤n.s)=>ev_spread N.toLinGLib n j (-1) hv hsm hnl (by omega) (by unfold InI;omega)
 have hSn:=ev_spread N.toLinGLib n (-1) node hv hsm hnl (by have:=(netB_iff n).1 hv;omega) hnI
 have hO:=ev_rational_Of N.toRatGLib 0 (by omega)
 rw[netB_iff]at hv
 obtain ⟨h1,h2,h3,h4,h5,h6⟩:=hv
 have hnx : ∀ e∈n.next,0≤e∧e≤n.s+n.nodes.length:=fun e he=>by simpa using List.all_eq_true.1 h5 e he
 refine Ev.x N.network_Inject rfl rfl ?_
 (repeat' (refine AKM.x ?_;conv=>whnf))
 refine CalP.walkC 1000 N.network_Linear rfl rfl ?_
 (repeat' (first|(refine OpP.add ?_ ?_;omega;conv=>whnf)|(refine AKM.x ?_;conv=>whnf)|(refine CallP.go (hV) ?_;conv=>whnf)))
 obtain ⟨m,hm⟩ : ∃ m:Nat,n.s=m:=⟨n.s.toNat,(Int.toNat_of_nonneg (by omega)).symm⟩
 rw[hm]
 unfold MkM
 refine ⟨⟨by omega,by omega,by simp only[roomMax];omega,by omega⟩,?_⟩
 rw[show ((m:Int)+1).toNat=m+1 by omega]
 (conv=>whnf)
 skip
 refine AKM.mxN 146018 146018 (m+1) rfl ?_
 skip
 rw[show List.replicate (m+1) [AV.nil]=(fillC (colsQ n 0) (m+1)).map eC by simp [fillC,colsQ]]
 refine AKM.loop1 (fun i=>m+1-i) (fun (i:Nat)=>i≤m+1) (fun i=>[(21,.int .i64 i)]) (fun i=>[(146018,146018,.rw 1 ((fillC (colsQ n i) (m+1)).map eC))]) [] [] 0 (by (conv=>whnf);exact ⟨rfl,rfl,rfl⟩) (by omega) ?_
 intro i p1 ih
 by_cases hi:i<m+1
 ·have hl:=fillC_len (l:=colsQ n i) (m:=m+1) (by rw[colsQ_len];omega)
  have hst:=fillC_set (l:=colsQ n i) (m:=m+1) (x:=spreadQ n (i:Int) (-1)) (by rw[colsQ_len];omega)
  rw[colsQ_len,←colsQ_succ]at hst
  have hS:=hSp i (by omega)
  unfold encN at hS
  rw[hm]at hS
  (repeat' (first|(refine CmpP.go (fun hc => ?_) (fun hc => ?_)<;>first|(exfalso;omega)|(conv=>whnf))|(refine Req.go ?_ ?_;omega;conv=>whnf)|(refine AKM.x ?_;conv=>whnf)|(refine CallP.go (hS) ?_;conv=>whnf)))
  refine StR.nat (enc:=eC) (some (spreadQ n (i:Int) (-1))) rfl (fun e=>by cases e<;>rfl) (by omega) ?_
  (conv=>whnf)
  (repeat' (refine OpP.add ?_ ?_;omega;conv=>whnf))
  rw[hst]
  exact AKM.back [] (by (conv=>whnf);exact ⟨rfl,rfl,rfl⟩) (ih (i+1) (by omega) (by omega))
 ·obtain rfl:i=m+1:=by omega
  clear ih
  (repeat' (first|(refine CmpP.go (fun hc => ?_) (fun hc => ?_)<;>first|(exfalso;omega)|(conv=>whnf))|(refine AKM.x ?_;conv=>whnf)))
  refine CalP.walkC 1000 N.network_zero rfl rfl ?_
  (repeat' (refine AKM.x ?_;conv=>whnf))
  unfold MkM
  refine ⟨⟨by omega,by omega,by simp only[roomMax];omega,by omega⟩,?_⟩
  rw[Int.toNat_natCast]
  (conv=>whnf)
  have hZ:=ev_zerosR N.toSysGLib m (by omega)
  refine CallR.go (enc:=eQ) m hZ (by simp) ?_
  (conv=>whnf)
  refine CallR.go (enc:=eQ) m hZ (by simp) ?_
  (conv=>whnf)
  (repeat' (refine CallP.go (hO) ?_;conv=>whnf))
  refine AKM.loop1 (fun t=>m-t) (fun (t:Nat)=>t≤m) (fun t=>[(16,.int .i64 t)]) (fun t=>[(145006,145006,.mx (List.replicate t (some (3,(List.replicate m (0:Rat)).map eQ))++List.replicate (m-t) none))]) [] [] 0 (by (conv=>whnf);exact ⟨rfl,rfl,rfl⟩) (by omega) ?_
  intro t p4 th
  by_cases ht:t<m
  ·(repeat' (first|(refine CmpP.go (fun hc => ?_) (fun hc => ?_)<;>first|(exfalso;omega)|(conv=>whnf))|(refine AKM.x ?_;conv=>whnf)))
   refine CallR.go (enc:=eQ) m hZ (by simp) ?_
   (conv=>whnf)
   (repeat' (first|(refine Req.go ?_ ?_;omega;conv=>whnf)|fail))
   unfold Req SetM
   refine ⟨by simp,by simp;omega,?_⟩
   (conv=>whnf)
   rw[show 0+((t:Int)).toNat=t by omega,fillM_set _ _ p4 ht]
   (repeat' (refine OpP.add ?_ ?_;omega;conv=>whnf))
   exact AKM.back [] (by (conv=>whnf);exact ⟨rfl,rfl,rfl⟩) (th (t+1) (by omega) (by omega))
  obtain rfl:t=m:=by omega
  clear th
  have hcs:=hcolsat n t
  rw[show List.replicate t (some (3,List.map eQ (List.replicate t 0)))++List.replicate (t-t) none=mxR 3 eQ (fz (List.replicate t 0) [] t) by simp [mxR,fz],show List.replicate t (0:Rat)=fz 0 [] t by simp [fz],show (fillC (colsQ n (t+1)) (t+1)).map eC=(colsQ n (t+1)).map fun c=>[AV.sl false (c.map eQ)] by rw[←fillC_full,colsQ_len]]
  (repeat' (first|(refine CmpP.go (fun hc => ?_) (fun hc => ?_)<;>first|(exfalso;omega)|(conv=>whnf))|(refine AKM.x ?_;conv=>whnf)))
  refine ⟨rfl,?_⟩
  (conv=>whnf)
  (repeat' (refine LenP.go ?_;conv=>whnf))
  have hsn:n.s.toNat=t:=by omega
  have hnl2:n.next.length=t:=by omega
  have hcql:=colsQ_len n (t+1)
  refine AKM.loop1 (fun i=>n.next.length-i) (fun (i:Nat)=>i≤n.next.length) (fun i=>[(37,.int .i64 i)]) (fun i=>[(145006,145006,.mx (mxR 3 eQ (fz (List.replicate t 0) ((linQ n).a.take i) t))),(145008,145008,.rw 3 ((fz 0 ((linQ n).b.take i) t).map eQ))]) [] [] 0 (by (conv=>whnf);exact ⟨rfl,rfl,rfl⟩) (by omega) ?_
  intro i q1 ih
  by_cases hi:i<n.next.length
  ·obtain ⟨e,he⟩ : ∃ e,n.next[i]? = some e:=⟨_,List.getElem?_eq_getElem hi⟩
   have hx':n.next[(i:Int).toNat]? = some e:=he
   have hrow:(linQ n).a[i]? = some ((List.range t).map fun (j:Nat)=>(spreadQ n ((j:Int)+1) (-1)).getD e.toNat 0):=by
    rw[←hsn];simp only[linQ,List.getElem?_map,he,Option.map_some]
   have hbe:(linQ n).b[i]? = some ((spreadQ n 0 (-1)).getD e.toNat 0):=by
    simp only[linQ,List.getElem?_map,he,Option.map_some]
   have hal:(linQ n).a.length=t:=by simp [linQ,hnl2]
   have hbl:(linQ n).b.length=t:=by simp [linQ,hnl2]
   have htk:((linQ n).a.take i).length=i:=by rw[List.length_take];omega
   have htb:((linQ n).b.take i).length=i:=by rw[List.length_take];omega
   have hA0:fz (List.replicate t 0) ((linQ n).a.take i) t=(fz (List.replicate t 0) ((linQ n).a.take i) t).set i (fz 0 [] t):=by
    have:=fz_at (z:=List.replicate t (0:Rat)) (l:=(linQ n).a.take i) (m:=t) (by omega)
    rw[htk]at this
    rw[show fz (0:Rat) [] t=List.replicate t 0 by simp [fz]]
    exact (list_set_self this).symm
   have hAs:=fz_set (z:=List.replicate t (0:Rat)) (l:=(linQ n).a.take i) (m:=t) (x:=(List.range t).map fun (j:Nat)=>(spreadQ n ((j:Int)+1) (-1)).getD e.toNat 0) (by omega)
   have hBs:=fz_set (z:=(0:Rat)) (l:=(linQ n).b.take i) (m:=t) (x:=(spreadQ n 0 (-1)).getD e.toNat 0) (by omega)
   rw[htk,←take_snocA hrow]at hAs
   rw[htb,←take_snocA hbe]at hBs
   have hAl:=fz_len (z:=List.replicate t (0:Rat)) (l:=(linQ n).a.take i) (m:=t) (by omega)
   have hBl:=fz_len (z:=(0:Rat)) (l:=(linQ n).b.take i) (m:=t) (by omega)
   have hen:=hnx e (List.mem_of_getElem? he)
   generalize fz (List.replicate t 0) ((linQ n).a.take i) t=A0 at *
   generalize fz (0:Rat) ((linQ n).b.take i) t=B0 at *
   have hA1:A0=A0.set i (fz 0 ((List.range 0).map fun (j:Nat)=>(spreadQ n ((j:Int)+1) (-1)).getD e.toNat 0) t):=hA0
   (repeat' (first|(refine CmpP.go (fun hc => ?_) (fun hc => ?_)<;>first|(exfalso;omega)|(conv=>whnf))|(refine RdP.at (by assumption) ?_ rfl ?_;omega;conv=>whnf)|(refine AKM.x ?_;conv=>whnf)))
   refine AKM.loop1 (fun j=>t-j) (fun (j:Nat)=>j≤t) (fun j=>[(44,.int .i64 j)]) (fun j=>[(145006,145006,.mx (mxR 3 eQ (A0.set i (fz 0 ((List.range j).map fun (j:Nat)=>(spreadQ n ((j:Int)+1) (-1)).getD e.toNat 0) t))))]) [] [] 0 (by first|exact (by (conv=>whnf);exact ⟨rfl,rfl,rfl⟩)|(rw[←hA1];exact (by (conv=>whnf);exact ⟨rfl,rfl,rfl⟩))) (by omega) ?_
   intro j q2 jh
   have hcl:((List.range j).map fun (j:Nat)=>(spreadQ n ((j:Int)+1) (-1)).getD e.toNat 0).length=j:=by simp
   by_cases hj:j<t
   ·have hcol:=hcs ((j:Int)+1) (by omega)
    have hxl:=spreadQ_len n ((j:Int)+1) (-1)
    have hxb:=spreadQ_bs n ((j:Int)+1) (-1) h2 hsm hnl
    obtain ⟨x,hx⟩ : ∃ x,(spreadQ n ((j:Int)+1) (-1))[e.toNat]? = some x:=⟨_,List.getElem?_eq_getElem (by omega)⟩
    have hxd:(spreadQ n ((j:Int)+1) (-1)).getD e.toNat 0=x:=by rw[List.getD_eq_getElem?_getD,hx];rfl
    have hT:=ev_trimQ N.toRatGLib (hxb.at hx) (by omega)
    have hcs2:=fz_set (z:=(0:Rat)) (l:=(List.range j).map fun (j:Nat)=>(spreadQ n ((j:Int)+1) (-1)).getD e.toNat 0) (m:=t) (x:=x) (by omega)
    have hcl2:=fz_len (z:=(0:Rat)) (l:=(List.range j).map fun (j:Nat)=>(spreadQ n ((j:Int)+1) (-1)).getD e.toNat 0) (m:=t) (by omega)
    rw[hcl,show ((List.range j).map fun (j:Nat)=>(spreadQ n ((j:Int)+1) (-1)).getD e.toNat 0)++[x]=(List.range (j+1)).map fun (j:Nat)=>(spreadQ n ((j:Int)+1) (-1)).getD e.toNat 0 by rw[List.range_succ,List.map_append,List.map_singleton,hxd]]at hcs2
    have hrw:(A0.set i (fz 0 ((List.range j).map fun (j:Nat)=>(spreadQ n ((j:Int)+1) (-1)).getD e.toNat 0) t))[i]? = some (fz 0 ((List.range j).map fun (j:Nat)=>(spreadQ n ((j:Int)+1) (-1)).getD e.toNat 0) t):=by
     rw[List.getElem?_set,if_pos rfl,if_pos (by omega)]
    have hsl:(A0.set i (fz 0 ((List.range j).map fun (j:Nat)=>(spreadQ n ((j:Int)+1) (-1)).getD e.toNat 0) t)).length=t:=by rw[List.length_set];omega
    (repeat' (first|(refine CmpP.go (fun hc => ?_) (fun hc => ?_)<;>first|(exfalso;omega)|(conv=>whnf))|(refine Req.go ?_ ?_;omega;conv=>whnf)|(refine OpP.add ?_ ?_;omega;conv=>whnf)|(refine LdR.int ?_ (fun _=>rfl) (fun v hv => ?_);omega;conv=>whnf)|(refine LdM.nat ?_ (fun r hr => ?_);omega;conv=>whnf)|(refine AKM.x ?_;conv=>whnf)))
    cases hrw.symm.trans hr
    cases hcol.symm.trans hv
    (repeat' (first|(refine RdP.at (by assumption) ?_ rfl ?_;omega;conv=>whnf)|(refine CallP.go (hT) ?_;conv=>whnf)))
    refine Req.go (by rw[List.length_map];omega) ?_
    (conv=>whnf)
    (repeat' (refine GetM.ati (by assumption) ?_;conv=>whnf))
    refine StR.nat (enc:=eQ) x rfl (fun _=>rfl) (by omega) ?_
    (conv=>whnf)
    rw[hcs2]
    refine PutM.nat (by simp only[fz_len' , hcl,List.length_map,List.length_range];omega) ?_
    rw[List.set_set]
    (conv=>whnf)
    (repeat' (refine OpP.add ?_ ?_;omega;conv=>whnf))
    exact AKM.back [] (by (conv=>whnf);exact ⟨rfl,rfl,rfl⟩) (jh (j+1) (by omega) (by omega))
   ·obtain rfl:j=t:=by omega
    clear jh
    rw[fz_full hcl,hAs]
    have hcol:=hcs 0 (by omega)
    have hxl:=spreadQ_len n 0 (-1)
    have hxb:=spreadQ_bs n 0 (-1) h2 hsm hnl
    obtain ⟨x,hx⟩ : ∃ x,(spreadQ n 0 (-1))[e.toNat]? = some x:=⟨_,List.getElem?_eq_getElem (by omega)⟩
    have hxd:(spreadQ n 0 (-1)).getD e.toNat 0=x:=by rw[List.getD_eq_getElem?_getD,hx];rfl
    rw[hxd]at hBs
    have hT:=ev_trimQ N.toRatGLib (hxb.at hx) (by omega)
    (repeat' (first|(refine CmpP.go (fun hc => ?_) (fun hc => ?_)<;>first|(exfalso;omega)|(conv=>whnf))|(refine Req.go ?_ ?_;omega;conv=>whnf)|(refine LdR.int ?_ (fun _=>rfl) (fun v hv => ?_);omega;conv=>whnf)|(refine AKM.x ?_;conv=>whnf)))
    cases hcol.symm.trans hv
    (repeat' (first|(refine Req.go ?_ ?_;omega;conv=>whnf)|(refine RdP.at (by assumption) ?_ rfl ?_;omega;conv=>whnf)|(refine CallP.go (hT) ?_;conv=>whnf)))
    refine StR.nat (enc:=eQ) x rfl (fun _=>rfl) (by omega) ?_
    (conv=>whnf)
    rw[hBs]
    (repeat' (refine OpP.add ?_ ?_;omega;conv=>whnf))
    exact AKM.back [] (by (conv=>whnf);exact ⟨rfl,rfl,rfl⟩) (ih (i+1) (by omega) (by omega))
  ·obtain rfl:i=n.next.length:=by omega
   clear ih
   have hal:(linQ n).a.length=t:=by simp [linQ,hnl2]
   have hbl:(linQ n).b.length=t:=by simp [linQ,hnl2]
   rw[List.take_of_length_le (show (linQ n).a.length≤n.next.length by omega),List.take_of_length_le (show (linQ n).b.length≤n.next.length by omega),fz_full hal,fz_full hbl]
   (repeat' (first|(refine CmpP.go (fun hc => ?_) (fun hc => ?_)<;>first|(exfalso;omega)|(conv=>whnf))|(refine AKM.x ?_;conv=>whnf)))
   refine AKM.loop1 (fun j=>t-j) (fun (j:Nat)=>j≤t) (fun j=>[(78,.int .i64 j)]) (fun j=>[(145010,145010,.rw 3 ((fz 0 ((List.range j).map fun (j:Nat)=>(spreadQ n ((j:Int)+1) (-1)).getD n.out.toNat 0) t).map eQ))]) [] [] 0 (by (conv=>whnf);exact ⟨rfl,rfl,rfl⟩) (by omega) ?_
   intro j q2 jh
   have hcl:((List.range j).map fun (j:Nat)=>(spreadQ n ((j:Int)+1) (-1)).getD n.out.toNat 0).length=j:=by simp
   by_cases hj:j<t
   ·have hcol:=hcs ((j:Int)+1) (by omega)
    have hxl:=spreadQ_len n ((j:Int)+1) (-1)
    have hxb:=spreadQ_bs n ((j:Int)+1) (-1) h2 hsm hnl
    obtain ⟨x,hx⟩ : ∃ x,(spreadQ n ((j:Int)+1) (-1))[n.out.toNat]? = some x:=⟨_,List.getElem?_eq_getElem (by omega)⟩
    have hxd:(spreadQ n ((j:Int)+1) (-1)).getD n.out.toNat 0=x:=by rw[List.getD_eq_getElem?_getD,hx];rfl
    have hT:=ev_trimQ N.toRatGLib (hxb.at hx) (by omega)
    have hcs2:=fz_set (z:=(0:Rat)) (l:=(List.range j).map fun (j:Nat)=>(spreadQ n ((j:Int)+1) (-1)).getD n.out.toNat 0) (m:=t) (x:=x) (by omega)
    have hcl2:=fz_len (z:=(0:Rat)) (l:=(List.range j).map fun (j:Nat)=>(spreadQ n ((j:Int)+1) (-1)).getD n.out.toNat 0) (m:=t) (by omega)
    rw[hcl,show ((List.range j).map fun (j:Nat)=>(spreadQ n ((j:Int)+1) (-1)).getD n.out.toNat 0)++[x]=(List.range (j+1)).map fun (j:Nat)=>(spreadQ n ((j:Int)+1) (-1)).getD n.out.toNat 0 by rw[List.range_succ,List.map_append,List.map_singleton,hxd]]at hcs2
    (repeat' (first|(refine CmpP.go (fun hc => ?_) (fun hc => ?_)<;>first|(exfalso;omega)|(conv=>whnf))|(refine Req.go ?_ ?_;omega;conv=>whnf)|(refine OpP.add ?_ ?_;omega;conv=>whnf)|(refine LdR.int ?_ (fun _=>rfl) (fun v hv => ?_);omega;conv=>whnf)|(refine AKM.x ?_;conv=>whnf)))
    cases hcol.symm.trans hv
    (repeat' (first|(refine Req.go ?_ ?_;omega;conv=>whnf)|(refine RdP.at (by assumption) ?_ rfl ?_;omega;conv=>whnf)|(refine CallP.go (hT) ?_;conv=>whnf)))
    refine StR.nat (enc:=eQ) x rfl (fun _=>rfl) (by omega) ?_
    (conv=>whnf)
    rw[hcs2]
    (repeat' (refine OpP.add ?_ ?_;omega;conv=>whnf))
    exact AKM.back [] (by (conv=>whnf);exact ⟨rfl,rfl,rfl⟩) (jh (j+1) (by omega) (by omega))
   ·obtain rfl:j=t:=by omega
    clear jh
    rw[fz_full hcl]
    have hcol:=hcs 0 (by omega)
    have hxl:=spreadQ_len n 0 (-1)
    have hxb:=spreadQ_bs n 0 (-1) h2 hsm hnl
    obtain ⟨x,hx⟩ : ∃ x,(spreadQ n 0 (-1))[n.out.toNat]? = some x:=⟨_,List.getElem?_eq_getElem (by omega)⟩
    have hxd:(spreadQ n 0 (-1)).getD n.out.toNat 0=x:=by rw[List.getD_eq_getElem?_getD,hx];rfl
    have hT:=ev_trimQ N.toRatGLib (hxb.at hx) (by omega)
    have hd:(linQ n).d=x:=hxd
    have hcc:(linQ n).c=(List.range j).map fun (j:Nat)=>(spreadQ n ((j:Int)+1) (-1)).getD n.out.toNat 0:=by rw[linQ,hsn]
    rw[←hcc]
    (repeat' (first|(refine CmpP.go (fun hc => ?_) (fun hc => ?_)<;>first|(exfalso;omega)|(conv=>whnf))|(refine Req.go ?_ ?_;omega;conv=>whnf)|(refine LdR.int ?_ (fun _=>rfl) (fun v hv => ?_);omega;conv=>whnf)|(refine AKM.x ?_;conv=>whnf)))
    cases hcol.symm.trans hv
    (repeat' (first|(refine RdP.at (by assumption) ?_ rfl ?_;omega;conv=>whnf)|(refine CallP.go (hT) ?_;conv=>whnf)))
    unfold encN at hSn
    rw[hm]at hSn
    have hbs:=spreadQ_bs n (-1) node h2 hsm hnl
    have hsl:=spreadQ_len n (-1) node
    have hib:(injQ n node).b.length=j:=by simp [injQ,hnl2]
    refine ⟨rfl,?_⟩
    (conv=>whnf)
    (repeat' (first|(refine CmpP.go (fun hc => ?_) (fun hc => ?_)<;>first|(exfalso;omega)|(conv=>whnf))|(refine LenP.go ?_;conv=>whnf)|(refine CallP.go (hSn) ?_;conv=>whnf)))
    ·exact FinP.go (by rw[injR,if_neg (by omega)]) (by rw[injR,if_neg (by omega)];exact cl_eS0 1)
    ·exact FinP.go (by rw[injR,if_neg (by omega)]) (by rw[injR,if_neg (by omega)];exact cl_eS0 1)
    have hcl0:=hcl
    refine AKM.loop1 (fun i=>n.next.length-i) (fun (i:Nat)=>i≤n.next.length) (fun i=>[(36,.int .i64 i)]) (fun i=>[(145008,145008,.rw 3 (((injQ n node).b.take i++(linQ n).b.drop i).map eQ))]) [] [] 0 (by first|exact (by (conv=>whnf);exact ⟨rfl,rfl,rfl⟩)|(rw[List.take_zero,List.nil_append,List.drop_zero];exact (by (conv=>whnf);exact ⟨rfl,rfl,rfl⟩))) (by omega) ?_
    intro i q1 ih
    by_cases hi:i<n.next.length
    ·obtain ⟨e,he⟩ : ∃ e,n.next[i]? = some e:=⟨_,List.getElem?_eq_getElem hi⟩
     have hx':n.next[(i:Int).toNat]? = some e:=he
     have hen:=hnx e (List.mem_of_getElem? he)
     obtain ⟨x,hx⟩ : ∃ x,(spreadQ n (-1) node)[e.toNat]? = some x:=⟨_,List.getElem?_eq_getElem (by omega)⟩
     have hxd:(spreadQ n (-1) node).getD e.toNat 0=x:=by rw[List.getD_eq_getElem?_getD,hx];rfl
     have hbe:(injQ n node).b[i]? = some x:=by simp only[injQ,List.getElem?_map,he,Option.map_some,hxd]
     have hT:=ev_trimQ N.toRatGLib (hbs.at hx) (by omega)
     have hmix:=mix_set (b:=(linQ n).b) hbe (by omega)
     have hml:((injQ n node).b.take i++(linQ n).b.drop i).length=j:=by rw[List.length_append,List.length_take,List.length_drop];omega
     (repeat' (first|(refine CmpP.go (fun hc => ?_) (fun hc => ?_)<;>first|(exfalso;omega)|(conv=>whnf))|(refine Req.go ?_ ?_;omega;conv=>whnf)|(refine RdP.at (by assumption) ?_ rfl ?_;omega;conv=>whnf)|(refine AKM.x ?_;conv=>whnf)|(refine CallP.go (hT) ?_;conv=>whnf)))
     refine StR.nat (enc:=eQ) x rfl (fun _=>rfl) (by omega) ?_
     (conv=>whnf)
     rw[hmix]
     (repeat' (refine OpP.add ?_ ?_;omega;conv=>whnf))
     exact AKM.back [] (by (conv=>whnf);exact ⟨rfl,rfl,rfl⟩) (ih (i+1) (by omega) (by omega))
    ·obtain rfl:i=n.next.length:=by omega
     clear ih
     rw[List.take_of_length_le (show (injQ n node).b.length≤n.next.length by omega),List.drop_of_length_le (show (linQ n).b.length≤n.next.length by omega),List.append_nil]
     obtain ⟨x,hx⟩ : ∃ x,(spreadQ n (-1) node)[n.out.toNat]? = some x:=⟨_,List.getElem?_eq_getElem (by omega)⟩
     have hxd:(injQ n node).d=x:=by simp only[injQ,List.getD_eq_getElem?_getD,hx];rfl
     have hT:=ev_trimQ N.toRatGLib (hbs.at hx) (by omega)
     (repeat' (first|(refine CmpP.go (fun hc => ?_) (fun hc => ?_)<;>first|(exfalso;omega)|(conv=>whnf))|(refine RdP.at (by assumption) ?_ rfl ?_;omega;conv=>whnf)|(refine AKM.x ?_;conv=>whnf)|(refine CallP.go (hT) ?_;conv=>whnf)))
     have hcn:(linQ n).c.length=j:=by rw[hcc,hcl]
     refine SnM.all (fun _=>rfl) rfl hal.symm ?_
     (conv=>whnf)
     refine SnR.all (enc:=eQ) (fun _=>rfl) rfl hib.symm ?_
     (conv=>whnf)
     refine SnR.all (enc:=eQ) (fun _=>rfl) rfl hcn.symm ?_
     (conv=>whnf)
     rw[injR,if_pos (by omega)]
     refine FinP.go (by rw[←hxd];rfl) ?_
     simp only[Clean,CleanL,and_true]
     exact cl_eS (injQ n node)
end Go.Eng

namespace Go.Eng
open F
attribute [local irreducible] AKM CmpP Req OpP UnP ConvP RdP LdR StR MkR LenP AppR AppN CpyR RowP SnR Bds SlS CallP CalP FinP pw LdM GetM SetM PutM MkM AppM SnM FlP CallR
set_option maxHeartbeats 16000000
variable {L:Lib}
end Go.Eng

namespace Go.Eng
open F
attribute [local irreducible] AKM CmpP Req OpP UnP ConvP RdP LdR StR MkR LenP AppR AppN CpyR RowP SnR Bds SlS CallP CalP FinP pw LdM GetM SetM PutM MkM AppM SnM FlP CallR
set_option maxHeartbeats 16000000
variable {L:Lib}
abbrev eV (r:List Rat):List AV:=[.sl false (r.map eQ)]
end Go.Eng

namespace Go.Eng
open F
attribute [local irreducible] AKM CmpP Req OpP UnP ConvP RdP LdR StR MkR LenP AppR AppN CpyR RowP SnR Bds SlS CallP CalP FinP pw LdM GetM SetM PutM MkM AppM SnM FlP CallR
set_option maxHeartbeats 8000000
variable {L:Lib}
end Go.Eng


