/-
  The law LinearRanks.
-/
import Derived.Test.YtoibhhbngpdcaaaB12
import Derived.Test.YtoibhhbngpdcaaaB10
import Derived.Test.YtoibhhbngpdcaaaB4
set_option linter.unusedSimpArgs false
set_option linter.unusedVariables false
set_option linter.unnecessarySimpa false
namespace Go.Eng
open F
attribute [local irreducible] AKM CmpP Req OpP UnP ConvP RdP LdR StR MkR LenP AppR AppN CpyR RowP SnR Bds SlS CallP CalP FinP pw LdM GetM SetM PutM MkM AppM SnM FlP CallR
set_option maxHeartbeats 16000000
variable {L:Lib}
theorem mul_one_row (x:Rat) (rw1:List Rat) {w:Nat} (h:rw1.length=w):mulRow [x] [rw1] w=rw1.map (· * x):=by
 subst h
 refine List.ext_getElem? fun j => ?_
 by_cases hj:j<rw1.length
 ·rw[mulRow,List.getElem?_map,List.getElem?_range hj,List.getElem?_map,List.getElem?_eq_getElem hj,Option.map_some,Option.map_some]
  simp only[colQ,List.map_cons,List.map_nil,dotQ,List.getD_eq_getElem?_getD,List.getElem?_eq_getElem hj,Option.getD_some]
  congr 1
  grind
 ·rw[List.getElem?_eq_none (by rw[mulRow_len];omega),List.getElem?_eq_none (by rw[List.length_map];omega)]
theorem mul_ms {a b:List (List Rat)} {n w k l:Nat} (haw : ∀ r∈a,r.length=n) (hbw : ∀ r∈b,r.length=w) (ha:Ms k a) (hb:Ms l b):Ms (n*(k+l+1)) (mulQ a b w):=fun r hr=>by
 obtain ⟨s,hs,rfl⟩:=List.mem_map.1 hr
 intro x hx
 obtain ⟨j,hj,rfl⟩:=List.mem_map.1 hx
 have h1:=(ha s hs).dot (b:=colQ b j) (l:=l) (fun y hy=>by
  obtain ⟨t,ht,rfl⟩:=List.mem_map.1 hy
  obtain ⟨e,he1⟩:=List.getElem?_of_mem ht
  exact (hb.at he1).at (getD_someH (by rw[hbw t ht];exact List.mem_range.1 hj)))
 rwa [haw s hs]at h1
theorem mul_sz (a b:List (List Rat)) (w:Nat) : ∀ r∈mulQ a b w,r.length=w:=fun r hr=>by
 obtain ⟨x,_,rfl⟩:=List.mem_map.1 hr
 exact mulRow_len _ _ _
theorem ev_law09_LinearRanks (N:LawRLib L) (l m:List Int) (q1 q2:Bool) (ll:l.length<9223372036854775808) (lm:m.length<9223372036854775808) (vl : ∀ v∈l,InI v) (vm : ∀ v∈m,InI v) :
  Ev L 250 [.sl q1 (l.map encInt),.sl q2 (m.map encInt)] (.bool true):=by
 have hA:=ev_awake9 N.toLawHLib
 obtain ⟨c,hcl,hcw,hcb,hMc⟩:=ev_Matrix N.toMakGLib q1 l ll vl 4 1 (by omega) (by omega)
 obtain ⟨d,hdl,hdw,hdb,hMd⟩:=ev_Matrix N.toMakGLib q2 m lm vm 1 4 (by omega) (by omega)
 obtain ⟨b,hbl,hbw,hbb,hMb⟩:=ev_Matrix N.toMakGLib q2 m lm vm 2 3 (by omega) (by omega)
 obtain ⟨b0,b1,rfl⟩:=two_of hbl
 have hT:=ev_lTimes N.toMatHLib false false false false c d 4 1 4 2 2 hcl hcw hdl hdw (by omega) (by omega) (by omega) (by omega) (by omega) hcb hdb (by decide)
 have hal:(mulQ c d 4).length=4:=by rw[mulQ_len];exact hcl
 have haw:=mul_sz c d 4
 have hab:Ms 5 (mulQ c d 4):=mul_ms hcw hdw hcb hdb
 obtain ⟨n,hRa,hia,_⟩:=ev_Rank N.toMatHLib false false (mulQ c d 4) 4 4 5 hal haw (by omega) (by omega) (by omega) hab (by decide)
 have hz:=rank_zero hia haw
 have hn1:n≤1:=by
  obtain ⟨rw1,rfl⟩ : ∃ r,d=[r]:=by
   match d,hdl with
   | [r],_=>exact ⟨r,rfl⟩
  have hrl:=hdw rw1 (by simp)
  refine rank_outer hia hrl fun r hr => ?_
  obtain ⟨s,hs,rfl⟩:=List.mem_map.1 hr
  obtain ⟨x,rfl⟩ : ∃ x,s=[x]:=by
   have:=hcw s hs
   match s,this with
   | [x],_=>exact ⟨x,rfl⟩
  exact ⟨x,mul_one_row x rw1 hrl⟩
 have hb0l:=hbw b0 (by simp)
 have hbl2:[b0,b1].length=2:=rfl
 have hbb2:Ms 2 [b0,b1,b0]:=fun r hr=>hbb r (by
  simp only[List.mem_cons,List.not_mem_nil,or_false]at hr ⊢
  rcases hr with h|h|h
  ·exact Or.inl h
  ·exact Or.inr h
  ·exact Or.inl h)
 have hbw2 : ∀ r∈[b0,b1,b0],r.length=3:=fun r hr=>hbw r (by
  simp only[List.mem_cons,List.not_mem_nil,or_false]at hr ⊢
  rcases hr with h|h|h
  ·exact Or.inl h
  ·exact Or.inr h
  ·exact Or.inl h)
 obtain ⟨u,hRb,hib,_⟩:=ev_Rank N.toMatHLib false false [b0,b1] 2 3 2 rfl hbw (by omega) (by omega) (by omega) hbb (by decide)
 obtain ⟨v,hRc,hic,_⟩:=ev_Rank N.toMatHLib true false [b0,b1,b0] 3 3 2 rfl hbw2 (by omega) (by omega) (by omega) hbb2 (by decide)
 obtain rfl:u=v:=rank_eq hib hic fun X _=>⟨fun h r hr=>h r (by
  simp only[List.mem_cons,List.not_mem_nil,or_false]at hr ⊢
  rcases hr with h|h|h
  ·exact Or.inl h
  ·exact Or.inr h
  ·exact Or.inl h),fun h r hr=>h r (by
  simp only[List.mem_cons,List.not_mem_nil,or_false]at hr ⊢
  rcases hr with h|h
  ·exact Or.inl h
  ·exact Or.inr (Or.inl h))⟩
 have hu0:[b0,b1][(0:Int).toNat]? = some b0:=rfl
 clear hib hic hia
 generalize mulQ c d 4=a at *
 refine Ev.x N.law09_LinearRanks rfl rfl ?_
 (repeat' (first|(refine LenP.go ?_;conv=>whnf)|(refine AKM.x ?_;conv=>whnf)|(refine CallP.go (hMc) ?_;conv=>whnf)|(refine CallP.go (hMd) ?_;conv=>whnf)|(refine CallP.go (hT) ?_;conv=>whnf)|(refine CallP.go (hRa) ?_;conv=>whnf)))
 refine AKM.loop2 (fun i _=>4-i) (fun (i:Nat) (z:Bool)=>i≤4∧(z=true ↔ ∀ r∈a.take i,∀ x∈r,x=0)) (fun i z=>[(39,.int .i64 i),(11,.bool z)]) (fun _ _=>[]) [] [] 0 true (by (conv=>whnf);exact ⟨rfl,rfl,rfl⟩) ⟨by omega,by simp⟩ ?_
 intro i z ⟨p1,p2⟩ ih
 by_cases hi:i<4
 ·obtain ⟨r,hr0⟩ : ∃ r,a[i]? = some r:=⟨_,List.getElem?_eq_getElem (by omega)⟩
  have hr':a[(i:Int).toNat]? = some r:=hr0
  have hrl:=haw r (List.mem_of_getElem? hr0)
  have hrb:=hab.at hr0
  have hts:=take_snocA hr0
  (repeat' (first|(refine CmpP.go (fun hc => ?_) (fun hc => ?_)<;>first|(exfalso;omega)|(conv=>whnf))|(refine LenP.go ?_;conv=>whnf)|(refine RdP.at (by assumption) ?_ rfl ?_;omega;conv=>whnf)|(refine AKM.x ?_;conv=>whnf)))
  refine AKM.loop2 (fun j _=>4-j) (fun (j:Nat) (y:Bool)=>j≤4∧(y=true↔(∀ r∈a.take i,∀ x∈r,x=0) ∧ ∀ x∈r.take j,x=0)) (fun j y=>[(45,.int .i64 j),(11,.bool y)]) (fun _ _=>[]) [] [] 0 z (by (conv=>whnf);exact ⟨rfl,rfl,rfl⟩) ⟨by omega,by simp [p2]⟩ ?_
  intro j y ⟨p3,p4⟩ jh
  by_cases hj:j<4
  ·obtain ⟨x,hx⟩ : ∃ x,r[j]? = some x:=⟨_,List.getElem?_eq_getElem (by omega)⟩
   have hx':r[(j:Int).toNat]? = some x:=hx
   obtain ⟨sg,hSg,hsz⟩:=ev_sign3 N.toRefHLib (hrb.at hx) (by omega)
   have htx:=take_snocA hx
   cases y
   ·(repeat' (first|(refine CmpP.go (fun hc => ?_) (fun hc => ?_)<;>first|(exfalso;omega)|(conv=>whnf))|(refine OpP.add ?_ ?_;omega;conv=>whnf)|(refine RdP.at (by assumption) ?_ rfl ?_;omega;conv=>whnf)|(refine AKM.x ?_;conv=>whnf)))
    exact AKM.back [] (by (conv=>whnf);exact ⟨rfl,rfl,rfl⟩) (jh (j+1) false (by omega) ⟨by omega,by
     simp only[Bool.false_eq_true,false_iff]at p4 ⊢
     intro h
     exact p4 ⟨h.1,fun z hz=>h.2 z (by rw[htx];exact List.mem_append_left _ hz)⟩⟩)
   ·have p5:=p4.1 rfl
    by_cases hx0:sg=0
    ·have hx1:=hsz.1 hx0
     (repeat' (first|(refine CmpP.go (fun hc => ?_) (fun hc => ?_)<;>first|(exfalso;omega)|(conv=>whnf))|(refine OpP.add ?_ ?_;omega;conv=>whnf)|(refine RdP.at (by assumption) ?_ rfl ?_;omega;conv=>whnf)|(refine AKM.x ?_;conv=>whnf)|(refine CallP.go (hSg) ?_;conv=>whnf)))
     exact AKM.back [] (by (conv=>whnf);exact ⟨rfl,rfl,rfl⟩) (jh (j+1) true (by omega) ⟨by omega,by
      simp only[true_iff]
      refine ⟨p5.1,fun z hz => ?_⟩
      rw[htx]at hz
      rcases List.mem_append.1 hz with h|h
      ·exact p5.2 z h
      ·rw[List.mem_singleton.1 h];exact hx1⟩)
    ·have hx1:x≠0:=fun e=>hx0 (hsz.2 e)
     (repeat' (first|(refine CmpP.go (fun hc => ?_) (fun hc => ?_)<;>first|(exfalso;omega)|(conv=>whnf))|(refine OpP.add ?_ ?_;omega;conv=>whnf)|(refine RdP.at (by assumption) ?_ rfl ?_;omega;conv=>whnf)|(refine AKM.x ?_;conv=>whnf)|(refine CallP.go (hSg) ?_;conv=>whnf)))
     exact AKM.back [] (by (conv=>whnf);exact ⟨rfl,rfl,rfl⟩) (jh (j+1) false (by omega) ⟨by omega,by
      simp only[Bool.false_eq_true,false_iff]
      intro h
      exact hx1 (h.2 x (by rw[htx];exact List.mem_append_right _ (List.mem_singleton.2 rfl)))⟩)
  ·have ej:j=4:=by omega
   clear jh
   rw[ej,List.take_of_length_le (l:=r) (by omega)]at p4
   (repeat' (first|(refine CmpP.go (fun hc => ?_) (fun hc => ?_)<;>first|(exfalso;omega)|(conv=>whnf))|(refine OpP.add ?_ ?_;omega;conv=>whnf)|(refine AKM.x ?_;conv=>whnf)))
   exact AKM.back [] (by (conv=>whnf);exact ⟨rfl,rfl,rfl⟩) (ih (i+1) y (by omega) ⟨by omega,by
    rw[p4,hts]
    constructor
    ·rintro ⟨h1,h2⟩ s hs
     rcases List.mem_append.1 hs with h|h
     ·exact h1 s h
     ·obtain rfl:=List.mem_singleton.1 h;exact h2
    ·intro h
     exact ⟨fun s hs=>h s (List.mem_append_left _ hs),h r (List.mem_append_right _ (List.mem_singleton.2 rfl))⟩⟩)
 ·have ei:i=4:=by omega
  clear ih
  rw[ei,List.take_of_length_le (by omega),←hz]at p2
  cases z
  ·have hn0:n≠0:=fun e=>by simpa using p2.2 e
   obtain rfl:n=1:=by omega
   (repeat' (first|(refine CmpP.go (fun hc => ?_) (fun hc => ?_)<;>first|(exfalso;omega)|(conv=>whnf))|(refine AKM.x ?_;conv=>whnf)|(refine CallP.go (hMb) ?_;conv=>whnf)))
   refine AppN.many (enc:=fun r:List Rat=>[AV.sl false (r.map eQ)]) (l:=[b0,b1]) (bytes:=24) (fun _=>rfl) (by rw[hbl2];decide) (by rw[hbl2];decide) (Req.go (by rw[hbl2];decide) ?_)
   (conv=>whnf)
   (repeat' (first|(refine RdP.at (by assumption) ?_ rfl ?_;omega;conv=>whnf)|(refine RowP.e1 ?_;conv=>whnf)))
   refine AppR.one (enc:=fun r:List Rat=>[AV.sl false (r.map eQ)]) b0 rfl rfl rfl (by simp) (by simp) ?_
   (conv=>whnf)
   (repeat' (first|(refine CmpP.go (fun hc => ?_) (fun hc => ?_)<;>first|(exfalso;omega)|(conv=>whnf))|(refine SnR.all (fun _=>rfl) rfl ?_ ?_;(first|rfl|simp);conv=>whnf)|(refine CallP.go (hRb) ?_;conv=>whnf)|(refine CallP.go (hRc) ?_;conv=>whnf)|(refine CallP.go (hA) ?_;conv=>whnf)))
   exact FinP.b rfl
  ·obtain rfl:n=0:=p2.1 rfl
   (repeat' (first|(refine CmpP.go (fun hc => ?_) (fun hc => ?_)<;>first|(exfalso;omega)|(conv=>whnf))|(refine AKM.x ?_;conv=>whnf)|(refine CallP.go (hMb) ?_;conv=>whnf)))
   refine AppN.many (enc:=fun r:List Rat=>[AV.sl false (r.map eQ)]) (l:=[b0,b1]) (bytes:=24) (fun _=>rfl) (by rw[hbl2];decide) (by rw[hbl2];decide) (Req.go (by rw[hbl2];decide) ?_)
   (conv=>whnf)
   (repeat' (first|(refine RdP.at (by assumption) ?_ rfl ?_;omega;conv=>whnf)|(refine RowP.e1 ?_;conv=>whnf)))
   refine AppR.one (enc:=fun r:List Rat=>[AV.sl false (r.map eQ)]) b0 rfl rfl rfl (by simp) (by simp) ?_
   (conv=>whnf)
   (repeat' (first|(refine CmpP.go (fun hc => ?_) (fun hc => ?_)<;>first|(exfalso;omega)|(conv=>whnf))|(refine SnR.all (fun _=>rfl) rfl ?_ ?_;(first|rfl|simp);conv=>whnf)|(refine CallP.go (hRb) ?_;conv=>whnf)|(refine CallP.go (hRc) ?_;conv=>whnf)|(refine CallP.go (hA) ?_;conv=>whnf)))
   exact FinP.b rfl
end Go.Eng
