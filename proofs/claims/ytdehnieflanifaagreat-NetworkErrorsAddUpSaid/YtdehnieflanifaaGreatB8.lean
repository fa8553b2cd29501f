/-
  Networks made of numbers: Raw.Net.
-/
import Derived.Test.YtdehnieflanifaaGreatB7
import Derived.Test.YtdehnieflanifaaGreatB1
import Derived.Test.YtdehnieflanifaaGreatB3
import Derived.Calls
import Derived.Test.YtdehnieflanifaaGreatB4
set_option linter.unusedSimpArgs false
set_option linter.unusedVariables false
set_option linter.unnecessarySimpa false
namespace Go.Eng
open F
attribute [local irreducible] AKM CmpP Req OpP UnP ConvP RdP LdR StR MkR LenP AppR AppN CpyR RowP SnR Bds SlS CallP CalP FinP pw LdM GetM SetM PutM MkM AppM SnM FlP CallR
set_option maxHeartbeats 4000000
variable {L:Lib}
structure Rw where
 data:Int
 coef:Int
 states:Int
 qn:Bool
 nodes:List ((Bool × List Int) × (Bool × List Int))
 qx:Bool
 next:List Int
 out:Int
 whole:Bool
abbrev encWr (w:(Bool × List Int) × (Bool × List Int)):List AV:=[.sl w.1.1 (w.1.2.map encInt),.sl w.2.1 (w.2.2.map encInt)]
abbrev encR (r:Rw):List AV:=[.int .i64 r.data,.int .i64 r.coef,.int .i64 r.states,.sl r.qn (r.nodes.map encWr),.sl r.qx (r.next.map encInt),.int .i64 r.out,.bool r.whole]
def allI (l:List Int):Prop := ∀ v∈l,InI v
theorem at_InI {l:List Int} (h:allI l) (i:Int):InI (atS l i):=by
 unfold atS
 split
 ·rename_i hi
  have hlt:i.toNat<l.length:=by omega
  rw[getD_of (List.getElem?_eq_getElem hlt)]
  exact h _ (List.getElem_mem hlt)
 ·unfold InI;omega
def termR (r:Rw) (k:Nat) (w:(Bool × List Int) × (Bool × List Int)) (i:Nat):Int × Int :=
 (withS (w.1.2.getD i 0) (1+withS r.states 4+k),if r.whole then pw (coefS r.coef).f*(withS (atS w.2.2 (i:Int)) 3-1) else toW (coefS r.coef) (atS w.2.2 (i:Int)))
def termsR (r:Rw) (k:Nat) (w:(Bool × List Int) × (Bool × List Int)) (n:Nat):List (Int × Int):=(List.range n).map (termR r k w)
def nodeR (r:Rw) (k:Nat):List (Int × Int):=match r.nodes[k]? with
 | some w=>termsR r k w (min w.1.2.length 4)
 | none=>[]
def nodesR (r:Rw) (n:Nat):List (List (Int × Int)):=(List.range n).map (nodeR r)
def netR (r:Rw):Nt :=
 ⟨dataS r.data,coefS r.coef,withS r.states 4,false,(nodesR r (min r.nodes.length 4)).map (fun ts=>⟨false,ts⟩),false,(List.range (withS r.states 4).toNat).map (fun i:Nat=>withS (atS r.next (i:Int)) (1+withS r.states 4+(min r.nodes.length 4:Nat))),withS r.out (1+withS r.states 4+(min r.nodes.length 4:Nat))⟩
def rowT (ts:List (Int × Int)):Option (Nat × List (List AV)):=match ts with
 | []=>none
 | t::ts=>some (2,(t::ts).map encT)
theorem rowsE_T : ∀ ns:List (List (Int × Int)),rowsE false (ns.map rowT)=ns.map fun ts=>[AV.sl false (ts.map encT)]
 | []=>rfl
 | []::l=>by simp only[List.map_cons,rowT,rowsE];rw[rowsE_T l];rfl
 | (t::ts)::l=>by simp only[List.map_cons,rowT,rowsE];rw[rowsE_T l]
theorem SnM_T {ns:List (List (Int × Int))} {off len:Nat} {K:List (List AV)→Prop} (ho:off=0) (hl:len=ns.length) (h:K (ns.map fun ts=>[AV.sl false (ts.map encT)])):SnM false (ns.map rowT) off len K:=by
 unfold SnM
 refine ⟨ho,by simpa using hl,fun z es hm e he => ?_,by rw[rowsE_T];exact h⟩
 obtain ⟨ts,_,hr⟩:=List.mem_map.1 hm
 cases ts with
 | nil=>simp [rowT]at hr
 | cons t ts =>
  simp only[rowT,Option.some.injEq,Prod.mk.injEq]at hr
  obtain ⟨rfl,rfl⟩:=hr
  obtain ⟨x,_,rfl⟩:=List.mem_map.1 he
  rfl
def nextR (r:Rw) (n:Nat):List Int:=(List.range n).map fun i:Nat=>withS (atS r.next (i:Int)) (1+withS r.states 4+(min r.nodes.length 4:Nat))
theorem cl_nodes (ns:List (List (Int × Int))):CleanLL (ns.map fun ts=>[AV.sl false (ts.map encT)]):=cleanLL_map (fun ts=>by simp only[CleanL,Clean,true_and,and_true];exact cleanLL_map (fun _=>by simp [CleanL,Clean]) ts) ns
theorem netR_nodes (r:Rw):(netR r).nodes.map encNd=(nodesR r (min r.nodes.length 4)).map fun ts=>[AV.sl false (ts.map encT)]:=by
 simp only[netR,List.map_map];rfl
theorem netR_clean (r:Rw):Clean (.agg (encN (netR r))):=by
 have h1:Clean (.sl (netR r).qn ((netR r).nodes.map encNd)):=by rw[netR_nodes];simp only[Clean];exact ⟨rfl,cl_nodes _⟩
 have h2:Clean (.sl (netR r).qx ((netR r).next.map encInt)):=by simp only[Clean];exact ⟨rfl,cl_ints _⟩
 simp only[Clean,CleanL,true_and,and_true]at *
 exact ⟨h1,h2⟩
theorem ev_world_Raw_Net (I:FixedLib L) (W:WorldLib L) (R:RunGLib L) (r:Rw) (h1:InI r.data) (h2:InI r.coef) (h3:InI r.states) (h4:InI r.out) (h5:allI r.next) (h6 : ∀ w∈r.nodes,allI w.1.2∧allI w.2.2) (hl:r.nodes.length<9223372036854775808):Ev L 42 [.agg (encR r)] (.agg (encN (netR r))):=by
 have hE : ∀ b,r.whole=b→encR r=[.int .i64 r.data,.int .i64 r.coef,.int .i64 r.states,.sl r.qn (r.nodes.map encWr),.sl r.qx (r.next.map encInt),.int .i64 r.out,.bool b]:=fun b h=>by rw[←h]
 cases hwh:r.whole
 all_goals (
 rw[hE _ hwh]
 refine Ev.x R.world_Raw_Net rfl rfl ?_
 have hs:=with_range (v:=r.states) (m:=4) (by omega)
 obtain ⟨hcw,hc1,hc2⟩:=coef_ok r.coef
 have hcw':=hcw
 unfold WV at hcw'
 (repeat' (first|(refine OpP.shl1 ?_ (fun _ _ => ?_);omega;conv=>whnf)|(refine ConvP.u64 ?_ ?_;omega;conv=>whnf)|(refine AKM.x ?_;conv=>whnf)|(refine CallP.go (ev_world_Data W _ h1) ?_;conv=>whnf)|(refine CallP.go (ev_world_Coef W _ h2) ?_;conv=>whnf)|(refine CallP.go (ev_world_Within W _ _ h3 (by omega)) ?_;conv=>whnf)))
 refine AKM.loop3 (fun k _ _=>4-k) (fun (k:Nat) (ns:List (List (Int × Int))) (fl:Bool)=>k≤4∧k≤r.nodes.length∧ns=nodesR r k∧fl=decide (k=0)) (fun k ns fl=>[(5,.int .i64 k)]) (fun k ns fl=>bif fl then [] else [(3,3,.bx [.int .i64 (dataS r.data).b,.int .i64 (dataS r.data).f,.int .i64 (dataS r.data).r,.int .i64 (dataS r.data).o,.int .i64 (coefS r.coef).b,.int .i64 (coefS r.coef).f,.int .i64 (coefS r.coef).r,.int .i64 (coefS r.coef).o,.int .i64 (withS r.states 4),.row 1000 0 1 0 ns.length,.nil,.int .i64 0]),(1000,107,.mx (ns.map rowT))]) [] [] 0 [] true (by (conv=>whnf);exact ⟨rfl,rfl,rfl⟩) ⟨by omega,by omega,rfl,rfl⟩ ?_
 intro k ns fl ⟨p1,p2,p3,p4⟩ ih
 have hns:fl=true→ns=[]:=fun h=>by
  rw[h]at p4
  have:k=0:=by simpa using p4.symm
  subst this;rw[p3];rfl
 by_cases hk:k<r.nodes.length∧k<4
 ·obtain ⟨w,hw⟩ : ∃ w,r.nodes[k]? = some w:=⟨_,List.getElem?_eq_getElem hk.1⟩
  obtain ⟨q1,q2⟩:=h6 w (List.mem_of_getElem? hw)
  cases fl
  all_goals (
   (repeat' (first|(refine CmpP.go (fun hc => ?_) (fun hc => ?_)<;>first|(exfalso;omega)|(conv=>whnf))|(refine LenP.go ?_;conv=>whnf)|(refine AKM.x ?_;conv=>whnf)))
   refine AKM.loop3 (fun i _ _=>4-i) (fun (i:Nat) (ts:List (Int × Int)) (fl:Bool)=>i≤4∧i≤w.1.2.length∧ts=termsR r k w i∧fl=decide (i=0)) (fun i ts fl=>[(7,.int .i64 i)]) (fun i ts fl=>bif fl then [(6,6,.bx [.nil])] else [(6,6,.bx [.row 2000 0 2 0 ts.length]),(2000,101,.rw 2 (ts.map encT))]) [] [] 0 [] true (by (conv=>whnf);exact ⟨rfl,rfl,rfl⟩) ⟨by omega,by omega,rfl,rfl⟩ ?_
   intro i ts fl2 ⟨s1,s2,s3,s4⟩ ih2
   have hts:fl2=true→ts=[]:=fun h=>by
    rw[h]at s4
    have:i=0:=by simpa using s4.symm
    subst this;rw[s3];rfl
   have htc:fl2=false → ∃ t0 ts',ts=t0::ts':=fun h=>by
    rw[h]at s4
    have hi0 : ¬ i=0:=by simpa using s4.symm
    have hl:ts.length=i:=by rw[s3];simp [termsR]
    cases ts with
    | nil=>exact absurd hl.symm hi0
    | cons t0 ts'=>exact ⟨t0,ts',rfl⟩
   by_cases hi:i<w.1.2.length∧i<4
   ·obtain ⟨e0,he0⟩ : ∃ e,w.1.2[i]? = some e:=⟨_,List.getElem?_eq_getElem hi.1⟩
    have hwl:(wordsS (coefS r.coef) w.2.2 (i+1)).length=i+1:=by simp [wordsS]
    have ew : ∀ q,Ev L 39 [.agg (encW (coefS r.coef)),.sl q (w.2.2.map encInt),.int .i64 ((i:Int)+1)] (.sl false ((wordsS (coefS r.coef) w.2.2 (i+1)).map encInt)):=fun q=>by
     have h:=ev_world_Words I W (coefS r.coef) hcw w.2.2 q (i+1) (by omega)
     rwa [Int.natCast_succ]at h
    have hx:=with_range (v:=atS w.2.2 (i:Int)) (m:=3) (by omega)
    have hmul : -4611686018427387904≤pw (coefS r.coef).f*(withS (atS w.2.2 (i:Int)) 3-1)∧pw (coefS r.coef).f*(withS (atS w.2.2 (i:Int)) 3-1)≤4611686018427387904:=by
     rcases (by omega:withS (atS w.2.2 (i:Int)) 3=0∨withS (atS w.2.2 (i:Int)) 3=1∨withS (atS w.2.2 (i:Int)) 3=2) with h|h|h<;>rw[h]<;>omega
    have hval : ∀ v,(wordsS (coefS r.coef) w.2.2 (i+1))[i]? = some v→v=toW (coefS r.coef) (atS w.2.2 (i:Int)):=by
     intro v hv
     simp only[wordsS,List.getElem?_map,List.getElem?_range (Nat.lt_succ_self i),Option.map_some,Option.some.injEq]at hv
     exact hv.symm
    cases fl2
    all_goals (
     (repeat' (first|(refine CmpP.go (fun hc => ?_) (fun hc => ?_)<;>first|(exfalso;omega)|(conv=>whnf))|(refine OpP.add ?_ ?_;omega;conv=>whnf)|(refine LenP.go ?_;conv=>whnf)|(refine RdP.at (by assumption) ?_ rfl ?_;omega;conv=>whnf)|(refine RdP.nat ?_ (fun _=>rfl) (fun e he => ?_);omega;conv=>whnf)|(refine RowP.e1 ?_;conv=>whnf)|(refine AKM.x ?_;conv=>whnf)|(refine CallP.go (ev_world_Within W e0 _ (q1 _ (List.mem_of_getElem? he0)) (by omega)) ?_;conv=>whnf)|(refine CallP.go (ew _) ?_;conv=>whnf)))
     (repeat' (first|(refine OpP.sub ?_ ?_;omega;conv=>whnf)|(refine OpP.mul ?_ ?_;omega;conv=>whnf)|(refine RowP.e1 ?_;conv=>whnf)|(refine CallP.go (ev_world_At W w.2.2 _ _) ?_;conv=>whnf)|(refine CallP.go (ev_world_Within W _ _ (at_InI q2 _) (by omega)) ?_;conv=>whnf)))
     have hv:=hval _ he
     subst hv
     first
      | (refine AppR.one (enc:=encT) (termR r k w i) (by simp only[termR,hwh,List.getD_eq_getElem?_getD,he0,Option.getD_some];rfl) rfl rfl (by simp [s3,termsR];omega) (by simp [s3,termsR];omega) ?_)
      | (refine AppN.one (enc:=encT) (termR r k w i) (by simp only[termR,hwh,List.getD_eq_getElem?_getD,he0,Option.getD_some];rfl) rfl (by omega) ?_)
     (conv=>whnf)
     (repeat' (refine OpP.add ?_ ?_;omega;conv=>whnf))
     have hnew:ts++[termR r k w i]=termsR r k w (i+1):=by rw[termsR,range_snoc,s3];rfl
     try (obtain rfl:=hts rfl)
     exact AKM.back [(2000,101)] (by (conv=>whnf);exact ⟨rfl,rfl,rfl⟩) (ih2 (i+1) _ false (by omega) ⟨by omega,by omega,hnew,by simp⟩))
   ·have hie:i=min w.1.2.length 4:=by omega
    have hnode:ns++[ts]=nodesR r (k+1):=by rw[nodesR,range_snoc,p3,nodeR,hw,s3,hie];rfl
    have hnl:ns.length=k:=by rw[p3];simp [nodesR]
    cases fl2
    all_goals (
     try (obtain rfl:=hts rfl)
     try (obtain ⟨t0,ts',rfl⟩:=htc rfl)
     try (obtain rfl:=hns rfl)
     (repeat' (first|(refine CmpP.go (fun hc => ?_) (fun hc => ?_)<;>first|(exfalso;omega)|(conv=>whnf))|(refine Req.go ?_ ?_;omega;conv=>whnf)|(refine OpP.add ?_ ?_;omega;conv=>whnf)|(refine LenP.go ?_;conv=>whnf)|(refine RdP.at (by assumption) ?_ rfl ?_;omega;conv=>whnf)|(refine AKM.x ?_;conv=>whnf)))
     all_goals (
      try (refine Req.go (by simp) ?_;(conv=>whnf))
      (repeat' (refine OpP.add ?_ ?_;omega;conv=>whnf))
      try (refine AppM.any (by simp) (by simp;omega) (by simp;omega) ?_)
      try (rw[show ns.map rowT++[some (2,(t0::ts').map encT)]=(ns++[t0::ts']).map rowT by simp [rowT]])
      try (rw[show ns.map rowT++[none]=(ns++[[]]).map rowT by simp [rowT]])
      try (rw[List.length_map])
      (conv=>whnf)
      (repeat' (refine OpP.add ?_ ?_;omega;conv=>whnf))
      exact AKM.back [(1000,107)] (by (conv=>whnf);exact ⟨rfl,rfl,rfl⟩) (ih (k+1) _ false (by omega) ⟨by omega,by omega,hnode,by simp⟩))))
 ·have hke:k=min r.nodes.length 4:=by omega
  have hnl:ns.length=k:=by rw[p3];simp [nodesR]
  rw[hke]at p3
  cases fl
  ·have hm5:((min r.nodes.length 4:Nat):Int)=(ns.length:Int):=by omega
   (repeat' (first|(refine CmpP.go (fun hc => ?_) (fun hc => ?_)<;>first|(exfalso;omega)|(conv=>whnf))|(refine LenP.go ?_;conv=>whnf)|(refine AKM.x ?_;conv=>whnf)))
   all_goals (
    refine AKM.loop3 (fun i _ _=>4-i) (fun (i:Nat) (nx:List Int) (f3:Bool)=>(i:Int)≤withS r.states 4∧nx=nextR r i∧f3=decide (i=0)) (fun i nx f3=>[(9,.int .i64 i)]) (fun i nx f3=>bif f3 then [] else [(3,3,.bx [.int .i64 (dataS r.data).b,.int .i64 (dataS r.data).f,.int .i64 (dataS r.data).r,.int .i64 (dataS r.data).o,.int .i64 (coefS r.coef).b,.int .i64 (coefS r.coef).f,.int .i64 (coefS r.coef).r,.int .i64 (coefS r.coef).o,.int .i64 (withS r.states 4),.row 1000 0 1 0 ns.length,.row 3000 0 1 0 nx.length,.int .i64 0]),(3000,130,.rw 1 (nx.map encInt))]) [] [] 0 [] true (by (conv=>whnf);exact ⟨rfl,rfl,rfl⟩) ⟨by omega,rfl,rfl⟩ ?_
    intro i nx f3 ⟨s1,s2,s3⟩ ih3
    have hnx:nx.length=i:=by rw[s2];simp [nextR]
    have hnew:nx++[withS (atS r.next (i:Int)) (1+withS r.states 4+(ns.length:Int))]=nextR r (i+1):=by rw[←hm5,nextR,range_snoc,s2];rfl
    have hn0:f3=true→nx=[]:=fun h=>by
     rw[h]at s3
     have:i=0:=by simpa using s3.symm
     subst this;rw[s2];rfl
    have hout:(netR r).out=withS r.out (1+withS r.states 4+(ns.length:Int)):=by
     show withS r.out (1+withS r.states 4+(min r.nodes.length 4:Nat))=_
     rw[hm5]
    have hnxt:withS r.states 4≤i→(netR r).next=nx:=fun h=>by
     have hi:i=(withS r.states 4).toNat:=by omega
     rw[s2,hi];rfl
    have hnod:(netR r).nodes.map encNd=ns.map fun ts=>[AV.sl false (ts.map encT)]:=by rw[netR_nodes,p3]
    cases f3
    all_goals (
     try (obtain rfl:=hn0 rfl)
     (repeat' (first|(refine CmpP.go (fun hc => ?_) (fun hc => ?_)<;>first|(exfalso;omega)|(conv=>whnf))|(refine OpP.add ?_ ?_;omega;conv=>whnf)|(refine RowP.e1 ?_;conv=>whnf)|(refine AKM.x ?_;conv=>whnf)|(refine CallP.go (ev_world_At W r.next _ _) ?_;conv=>whnf)|(refine CallP.go (ev_world_Within W _ _ (at_InI h5 _) (by omega)) ?_;conv=>whnf)|(refine CallP.go (ev_world_Within W r.out _ h4 (by omega)) ?_;conv=>whnf)))
     ·first
       | refine AppR.one (enc:=encInt) _ rfl rfl rfl (by omega) (by omega) ?_
       | refine AppN.one (enc:=encInt) _ rfl rfl (by omega) ?_
      (conv=>whnf)
      (repeat' (refine OpP.add ?_ ?_;omega;conv=>whnf))
      exact AKM.back [(3000,130)] (by (conv=>whnf);exact ⟨rfl,rfl,rfl⟩) (ih3 (i+1) _ false (by omega) ⟨by omega,hnew,by simp⟩)
     ·try (refine SnM_T rfl rfl ?_;(conv=>whnf))
      (repeat' (refine SnR.all (fun _=>rfl) rfl ?_ ?_;(first|rfl|simp);conv=>whnf))
      refine FinP.go ?_ (netR_clean r)
      have hnx':=hnxt hc
      show _=AV.agg [_,_,_,_,_,_,_,_,_,.sl _ ((netR r).nodes.map encNd),.sl _ ((netR r).next.map encInt),.int .i64 (netR r).out]
      rw[hnod,hnx',hout]
      rfl))
  ·obtain rfl:=hns rfl
   have hm5:((min r.nodes.length 4:Nat):Int)=(0:Int):=by simp at hnl;omega
   (repeat' (first|(refine CmpP.go (fun hc => ?_) (fun hc => ?_)<;>first|(exfalso;omega)|(conv=>whnf))|(refine LenP.go ?_;conv=>whnf)|(refine AKM.x ?_;conv=>whnf)))
   all_goals (
    refine AKM.loop3 (fun i _ _=>4-i) (fun (i:Nat) (nx:List Int) (f3:Bool)=>(i:Int)≤withS r.states 4∧nx=nextR r i∧f3=decide (i=0)) (fun i nx f3=>[(9,.int .i64 i)]) (fun i nx f3=>bif f3 then [] else [(3,3,.bx [.int .i64 (dataS r.data).b,.int .i64 (dataS r.data).f,.int .i64 (dataS r.data).r,.int .i64 (dataS r.data).o,.int .i64 (coefS r.coef).b,.int .i64 (coefS r.coef).f,.int .i64 (coefS r.coef).r,.int .i64 (coefS r.coef).o,.int .i64 (withS r.states 4),.nil,.row 3000 0 1 0 nx.length,.int .i64 0]),(3000,130,.rw 1 (nx.map encInt))]) [] [] 0 [] true (by (conv=>whnf);exact ⟨rfl,rfl,rfl⟩) ⟨by omega,rfl,rfl⟩ ?_
    intro i nx f3 ⟨s1,s2,s3⟩ ih3
    have hnx:nx.length=i:=by rw[s2];simp [nextR]
    have hnew:nx++[withS (atS r.next (i:Int)) (1+withS r.states 4+(0:Int))]=nextR r (i+1):=by rw[←hm5,nextR,range_snoc,s2];rfl
    have hn0:f3=true→nx=[]:=fun h=>by
     rw[h]at s3
     have:i=0:=by simpa using s3.symm
     subst this;rw[s2];rfl
    have hout:(netR r).out=withS r.out (1+withS r.states 4+(0:Int)):=by
     show withS r.out (1+withS r.states 4+(min r.nodes.length 4:Nat))=_
     rw[hm5]
    have hnxt:withS r.states 4≤i→(netR r).next=nx:=fun h=>by
     have hi:i=(withS r.states 4).toNat:=by omega
     rw[s2,hi];rfl
    have hnod:(netR r).nodes.map encNd=[]:=by rw[netR_nodes,←p3];rfl
    cases f3
    all_goals (
     try (obtain rfl:=hn0 rfl)
     (repeat' (first|(refine CmpP.go (fun hc => ?_) (fun hc => ?_)<;>first|(exfalso;omega)|(conv=>whnf))|(refine OpP.add ?_ ?_;omega;conv=>whnf)|(refine SnR.all (fun _=>rfl) rfl ?_ ?_;(first|rfl|simp);conv=>whnf)|(refine RowP.e1 ?_;conv=>whnf)|(refine AKM.x ?_;conv=>whnf)|(refine CallP.go (ev_world_At W r.next _ _) ?_;conv=>whnf)|(refine CallP.go (ev_world_Within W _ _ (at_InI h5 _) (by omega)) ?_;conv=>whnf)|(refine CallP.go (ev_world_Within W r.out _ h4 (by omega)) ?_;conv=>whnf)))
     ·first
       | refine AppR.one (enc:=encInt) _ rfl rfl rfl (by omega) (by omega) ?_
       | refine AppN.one (enc:=encInt) _ rfl rfl (by omega) ?_
      (conv=>whnf)
      (repeat' (refine OpP.add ?_ ?_;omega;conv=>whnf))
      exact AKM.back [(3000,130)] (by (conv=>whnf);exact ⟨rfl,rfl,rfl⟩) (ih3 (i+1) _ false (by omega) ⟨by omega,hnew,by simp⟩)
     ·try (refine SnM_T rfl rfl ?_;(conv=>whnf))
      skip
      refine FinP.go ?_ (netR_clean r)
      have hnx':=hnxt hc
      show _=AV.agg [_,_,_,_,_,_,_,_,_,.sl _ ((netR r).nodes.map encNd),.sl _ ((netR r).next.map encInt),.int .i64 (netR r).out]
      rw[hnod,hnx',hout]
      rfl))
  )
end Go.Eng


namespace Go.Eng
open F
attribute [local irreducible] AKM CmpP Req OpP UnP ConvP RdP LdR StR MkR LenP AppR AppN CpyR RowP SnR Bds SlS CallP CalP FinP pw LdM GetM SetM PutM MkM AppM SnM FlP CallR
set_option maxHeartbeats 1000000
variable {L:Lib} (n:Nt)
end Go.Eng

namespace Go.Eng
open F
attribute [local irreducible] AKM CmpP Req OpP UnP ConvP RdP LdR StR MkR LenP AppR AppN CpyR RowP SnR Bds SlS CallP CalP FinP pw LdM GetM SetM PutM MkM AppM SnM FlP CallR
set_option maxHeartbeats 4000000
variable {L:Lib}
section
variable (n:Nt)
end
theorem wordsS_ok {w:Wd} (h:WV w) (l:List Int) (k:Nat):wordsB w (wordsS w l k)=true:=by
 unfold wordsB wordsS
 rw[List.all_eq_true]
 intro v hv
 obtain ⟨i,_,rfl⟩:=List.mem_map.1 hv
 simpa using toW_ok h _
theorem netR_ok (r:Rw):netB (netR r)=true:=by
 obtain ⟨d1,d2,d3⟩:=data_ok r.data
 obtain ⟨c1,c2,c3⟩:=coef_ok r.coef
 have hs:=with_range (v:=r.states) (m:=4) (by omega)
 rw[netB_iff]
 refine ⟨d1,c1,⟨hs.1,by show withS r.states 4≤64;omega,by simp [netR,nodesR];omega,by simp [netR];omega⟩,?_,?_,?_⟩
 ·have key : ∀ (m j:Nat),m+j=min r.nodes.length 4→nodesB (coefS r.coef) (withS r.states 4) j (((List.range' j m).map (nodeR r)).map fun ts=>(⟨false,ts⟩:Nd))=true:=by
   intro m
   induction m with
   | zero=>intro j _;rfl
   | succ m ih =>
    intro j hj
    rw[List.range'_succ,List.map_cons,List.map_cons,nodesB,ih (j+1) (by omega),Bool.and_true]
    simp only[Bool.and_eq_true,decide_eq_true_eq]
    unfold nodeR
    have hjl:j<r.nodes.length:=by omega
    rw[List.getElem?_eq_getElem hjl]
    simp only
    refine ⟨by simp [termsR];omega,?_⟩
    rw[List.all_eq_true]
    intro t ht
    obtain ⟨i,_,rfl⟩:=List.mem_map.1 ht
    rw[termB]
    apply decide_eq_true
    simp only[termR]
    have h1:=with_range (v:=r.nodes[j].1.2.getD i 0) (m:=1+withS r.states 4+j) (by omega)
    refine ⟨by omega,by omega,?_⟩
    split
    ·have h2:=with_range (v:=atS r.nodes[j].2.2 (i:Int)) (m:=3) (by omega)
     obtain ⟨e1,e2,e3,e4⟩:=low_high c1
     have c1':=c1
     unfold WV at c1'
     have h3:=pw_pos (coefS r.coef).f
     have h4:=pw_le (n:=(coefS r.coef).f) (m:=(coefS r.coef).b-1) (by omega)
     rcases (by omega:withS (atS r.nodes[j].2.2 (i:Int)) 3=0∨withS (atS r.nodes[j].2.2 (i:Int)) 3=1∨withS (atS r.nodes[j].2.2 (i:Int)) 3=2) with h|h|h
     all_goals rw[h]
     ·refine Or.inr ?_
      unfold FT
      exact ⟨c1,by omega,by omega⟩
     ·refine Or.inr ?_
      unfold FT
      exact ⟨c1,by omega,by omega⟩
     ·exact Or.inl (by omega)
    ·exact Or.inr (toW_ok c1 _)
  have:=key (min r.nodes.length 4) 0 (by omega)
  rw[←List.range_eq_range']at this
  exact this
 ·unfold nextB
  rw[List.all_eq_true]
  intro v hv
  obtain ⟨i,_,rfl⟩:=List.mem_map.1 hv
  have h1:=with_range (v:=atS r.next (i:Int)) (m:=1+withS r.states 4+(min r.nodes.length 4:Nat)) (by omega)
  have:(netR r).nodes.length=min r.nodes.length 4:=by simp [netR,nodesR]
  rw[decide_eq_true_eq,this]
  show _∧_≤withS r.states 4+_
  omega
 ·have h1:=with_range (v:=r.out) (m:=1+withS r.states 4+(min r.nodes.length 4:Nat)) (by omega)
  have:(netR r).nodes.length=min r.nodes.length 4:=by simp [netR,nodesR]
  rw[this]
  show 0≤withS r.out _∧withS r.out _≤withS r.states 4+_
  omega
end Go.Eng

namespace Go.Eng
variable {d c:Wd} {p:List Int}
end Go.Eng

namespace Go.Eng
@[irreducible] def w64s (a b : Nat) : Nat := (a + 18446744073709551616 - b) % 18446744073709551616
theorem w64s_def (a b:Nat):w64s a b=(a+18446744073709551616-b)%18446744073709551616:=by unfold w64s;rfl
def val:List Nat→Nat
 | []=>0
 | d::l=>d+4294967296*val l
def Dig (l:List Nat):Prop := ∀ d∈l,d<4294967296
def dg (n:Nat):List Nat:=if h:n=0 then [] else n%4294967296::dg (n/4294967296)
termination_by n
decreasing_by omega
theorem dg_zero:dg 0=[]:=by rw[dg];simp
theorem dg_pos {n:Nat} (h:n≠0):dg n=n%4294967296::dg (n/4294967296):=by rw[dg];simp [h]
theorem val_nil:val []=0:=rfl
theorem val_cons (d:Nat) (l:List Nat):val (d::l)=d+4294967296*val l:=rfl
theorem val_dg (n:Nat):val (dg n)=n:=by
 induction n using Nat.strongRecOn with
 | ind n ih =>
  by_cases h:n=0
  ·subst h;rw[dg_zero];rfl
  ·rw[dg_pos h,val_cons,ih _ (by omega)]
   omega
theorem dig_dg (n:Nat):Dig (dg n):=by
 induction n using Nat.strongRecOn with
 | ind n ih =>
  by_cases h:n=0
  ·subst h;rw[dg_zero];intro d hd;cases hd
  ·rw[dg_pos h]
   intro d hd
   rcases List.mem_cons.1 hd with rfl|hd
   ·omega
   ·exact ih _ (by omega) d hd
theorem Dig.tail {d:Nat} {l:List Nat} (h:Dig (d::l)):Dig l:=fun x hx=>h x (List.mem_cons_of_mem _ hx)
theorem Dig.head {d:Nat} {l:List Nat} (h:Dig (d::l)):d<4294967296:=h d List.mem_cons_self
theorem Dig.at {l:List Nat} (h:Dig l) {i d:Nat} (hd:l[i]? = some d):d<4294967296:=h d (List.mem_of_getElem? hd)
theorem Dig.take {l:List Nat} (h:Dig l) (n:Nat):Dig (l.take n):=fun x hx=>h x (List.mem_of_mem_take hx)
theorem Dig.drop {l:List Nat} (h:Dig l) (n:Nat):Dig (l.drop n):=fun x hx=>h x (List.mem_of_mem_drop hx)
theorem dig_nil:Dig []:=fun _ h=>by cases h
theorem Dig.append {a b:List Nat} (h:Dig a) (h':Dig b):Dig (a++b):=fun x hx=>(List.mem_append.1 hx).elim (h x) (h' x)
theorem dig_one {d:Nat} (h:d<4294967296):Dig [d]:=fun x hx=>by simp at hx;omega
theorem Dig.set {l:List Nat} (h:Dig l) (i:Nat) {d:Nat} (hd:d<4294967296):Dig (l.set i d):=fun x hx=>by
 rcases List.mem_or_eq_of_mem_set hx with h1|h1
 ·exact h x h1
 ·omega
theorem dig_zeros (n:Nat):Dig (List.replicate n 0):=fun x hx=>by rw[(List.mem_replicate.1 hx).2];omega
theorem val_append (a b:List Nat):val (a++b)=val a+4294967296^a.length*val b:=by
 induction a with
 | nil=>simp [val]
 | cons d l ih=>rw[List.cons_append,val_cons,val_cons,ih,List.length_cons,Nat.pow_succ];grind
theorem val_snoc (l:List Nat) (v:Nat):val (l++[v])=val l+4294967296^l.length*v:=by
 rw[val_append];simp [val]
theorem val_lt {l:List Nat} (h:Dig l):val l<4294967296^l.length:=by
 induction l with
 | nil=>simp [val]
 | cons d l ih =>
  have h1:=ih h.tail
  have h2:=h.head
  rw[val_cons,List.length_cons,Nat.pow_succ]
  omega
theorem val_take_succ {l:List Nat} {i v:Nat} (h:l[i]? = some v):val (l.take (i+1))=val (l.take i)+4294967296^i*v:=by
 have hi:=(List.getElem?_eq_some_iff.1 h).1
 rw[List.take_add_one,h,Option.toList_some,val_snoc,List.length_take,Nat.min_eq_left (by omega)]
theorem val_split (l:List Nat) (i:Nat) (h:i≤l.length):val l=val (l.take i)+4294967296^i*val (l.drop i):=by
 have:=val_append (l.take i) (l.drop i)
 rw[List.take_append_drop,List.length_take,Nat.min_eq_left h]at this
 exact this
theorem val_zeros (n:Nat):val (List.replicate n 0)=0:=by
 induction n with
 | zero=>rfl
 | succ n ih=>rw[List.replicate_succ,val_cons,ih]
theorem dg_of_top {l:List Nat} (h:Dig l) (ht:l=[] ∨ ∃ d,l[l.length-1]? = some d∧d≠0):dg (val l)=l:=by
 induction l with
 | nil=>exact dg_zero
 | cons d l ih =>
  have h1:=h.head
  by_cases hl:l=[]
  ·subst hl
   rcases ht with ht|⟨x,hx,hx0⟩
   ·cases ht
   ·simp at hx
    subst hx
    rw[val_cons,val_nil,dg_pos (by omega),show (d+4294967296*0)/4294967296=0 by omega,dg_zero,show (d+4294967296*0)%4294967296=d by omega]
  ·have ht' : ∃ x,l[l.length-1]? = some x∧x≠0:=by
    rcases ht with ht|⟨x,hx,hx0⟩
    ·cases ht
    ·refine ⟨x,?_,hx0⟩
     have:l.length≠0:=fun e=>hl (List.eq_nil_of_length_eq_zero e)
     rw[List.length_cons,show l.length+1-1=(l.length-1)+1 by omega,List.getElem?_cons_succ]at hx
     exact hx
   have ih':=ih h.tail (Or.inr ht')
   have hpos:val l≠0:=by
    intro e
    rw[e,dg_zero]at ih'
    exact hl ih'.symm
   rw[val_cons,dg_pos (by omega),show (d+4294967296*val l)/4294967296=val l by omega,ih',show (d+4294967296*val l)%4294967296=d by omega]
theorem cut_found {l:List Nat} (h:Dig l) {n:Nat} (hn:n≤l.length) (hz : ∀ i,n≤i→i<l.length→l[i]? = some 0) (ht:n=0 ∨ ∃ d,l[n-1]? = some d∧d≠0):l.take n=dg (val l):=by
 have hv:val l=val (l.take n):=by
  have h0:l.drop n=List.replicate (l.length-n) 0:=by
   apply List.ext_getElem?
   intro i
   rw[List.getElem?_drop,List.getElem?_replicate]
   by_cases hi:n+i<l.length
   ·rw[hz (n+i) (by omega) hi,if_pos (by omega)]
   ·rw[List.getElem?_eq_none (by omega),if_neg (by omega)]
  rw[val_split l n hn,h0,val_zeros];omega
 rw[hv]
 refine (dg_of_top (h.take n) ?_).symm
 rcases ht with rfl|⟨d,hd,hd0⟩
 ·exact Or.inl (by simp)
 ·have hlt:=(List.getElem?_eq_some_iff.1 hd).1
  by_cases hn0:n=0
  ·subst hn0;exact Or.inl (by simp)
  ·refine Or.inr ⟨d,?_,hd0⟩
   rw[List.length_take,Nat.min_eq_left hn,List.getElem?_take,if_pos (by omega)]
   exact hd
theorem dg_len_le {n k:Nat}:(dg n).length≤k↔n<4294967296^k:=by
 induction k generalizing n with
 | zero =>
  by_cases h:n=0
  ·subst h;simp [dg_zero]
  ·rw[dg_pos h];simp;omega
 | succ k ih =>
  by_cases h:n=0
  ·subst h;simp [dg_zero];exact Nat.pos_of_ne_zero (by simp)
  ·rw[dg_pos h,List.length_cons,Nat.succ_le_succ_iff,ih,Nat.pow_succ]
   rw[Nat.div_lt_iff_lt_mul (by omega)]
theorem dg_len_val {l:List Nat} (h:Dig l):(dg (val l)).length≤l.length:=dg_len_le.2 (val_lt h)
theorem dg_top {n:Nat} (h:n≠0) : ∃ d,(dg n)[(dg n).length-1]? = some d∧d≠0:=by
 induction n using Nat.strongRecOn with
 | ind n ih =>
  rw[dg_pos h]
  by_cases h2:n/4294967296=0
  ·rw[h2,dg_zero]
   exact ⟨n%4294967296,by simp,by omega⟩
  ·obtain ⟨d,hd,hd0⟩:=ih _ (by omega) h2
   refine ⟨d,?_,hd0⟩
   have hl:(dg (n/4294967296)).length≠0:=fun e=>by rw[List.eq_nil_of_length_eq_zero e]at hd;simp at hd
   rw[List.length_cons,show (dg (n/4294967296)).length+1-1=(dg (n/4294967296)).length-1+1 by omega,List.getElem?_cons_succ]
   exact hd
theorem dg_eq_nil {n:Nat}:dg n=[]↔n=0:=by
 constructor
 ·intro h
  by_cases h0:n=0
  ·exact h0
  ·rw[dg_pos h0]at h;cases h
 ·rintro rfl;exact dg_zero
theorem dg_len_pos {n:Nat} (h:n≠0):1≤(dg n).length:=by rw[dg_pos h];simp
theorem set_take {o:List Nat} {i v:Nat} (h:i<o.length):(o.set i v).take (i+1)=o.take i++[v]:=by
 rw[List.take_add_one,List.getElem?_set_self h,List.take_set_of_le (Nat.le_refl i)];rfl
theorem val_set_take {o:List Nat} {i v:Nat} (h:i<o.length):val ((o.set i v).take (i+1))=val (o.take i)+4294967296^i*v:=by
 rw[set_take h,val_snoc,List.length_take,Nat.min_eq_left (by omega)]
theorem carry_step (V p t:Nat):V+p*(t%4294967296)+p*4294967296*(t/4294967296)=V+p*t:=by
 have h:=Nat.mod_add_div t 4294967296
 have:p*(t%4294967296)+p*4294967296*(t/4294967296)=p*t:=by
  rw[Nat.mul_assoc,←Nat.mul_add,h]
 omega
theorem val_take_all {l:List Nat} {n:Nat} (h:l.length≤n):val (l.take n)=val l:=by rw[List.take_of_length_le h]
theorem pow_pos' (i:Nat):1≤4294967296^i:=Nat.pos_of_ne_zero (by simp)
theorem val_getD_drop {l:List Nat} {i d:Nat} (h:l[i]? = some d):val (l.drop i)=d+4294967296*val (l.drop (i+1)):=by
 obtain ⟨hi,rfl⟩:=List.getElem?_eq_some_iff.1 h
 rw[List.drop_eq_getElem_cons hi,val_cons]
theorem val_lt_of_drop {a b:List Nat} (ha:Dig a) (hb:Dig b) (hl:a.length=b.length) {i:Nat} {x y:Nat} (hx:a[i]? = some x) (hy:b[i]? = some y) (he:a.drop (i+1)=b.drop (i+1)) (h:x<y):val a<val b:=by
 have hia:=(List.getElem?_eq_some_iff.1 hx).1
 have hib:=(List.getElem?_eq_some_iff.1 hy).1
 rw[val_split a i (by omega),val_split b i (by omega),val_getD_drop hx,val_getD_drop hy,he]
 have h1:=val_lt (ha.take i)
 rw[List.length_take,Nat.min_eq_left (by omega)]at h1
 generalize val (b.drop (i+1))=r
 generalize 4294967296^i=p at *
 have:p*(x+4294967296*r)+p≤p*(y+4294967296*r):=by
  rw[←Nat.mul_succ]
  exact Nat.mul_le_mul_left p (by omega)
 omega
theorem val_set {o:List Nat} {k v old:Nat} (h:o[k]? = some old):val (o.set k v)+4294967296^k*old=val o+4294967296^k*v:=by
 have hk:=(List.getElem?_eq_some_iff.1 h).1
 have h1:val (o.set k v)=val (o.take k)+4294967296^k*(v+4294967296*val (o.drop (k+1))):=by
  rw[val_split (o.set k v) k (by simp;omega),List.take_set_of_le (Nat.le_refl k),val_getD_drop (l:=o.set k v) (d:=v) (by rw[List.getElem?_set_self hk]),List.drop_set_of_lt (by omega)]
 have h2:val o=val (o.take k)+4294967296^k*(old+4294967296*val (o.drop (k+1))):=by
  rw[val_split o k (by omega),val_getD_drop h]
 rw[h1,h2,Nat.mul_add,Nat.mul_add]
 omega
theorem take_dg {l:List Nat} (h:Dig l):l.take (dg (val l)).length=dg (val l):=by
 induction l with
 | nil=>rw[val_nil,dg_zero];rfl
 | cons d l ih =>
  have h1:=h.head
  by_cases h0:val (d::l)=0
  ·rw[h0,dg_zero];rfl
  ·rw[dg_pos h0,val_cons,show (d+4294967296*val l)/4294967296=val l by omega,show (d+4294967296*val l)%4294967296=d by omega,List.length_cons,List.take_succ_cons,ih h.tail]
theorem val_lt_of_len {a b:Nat} (h:(dg a).length<(dg b).length):a<b:=by
 have h1:a<4294967296^(dg a).length:=dg_len_le.1 (Nat.le_refl _)
 have h2 : ¬ b<4294967296^((dg b).length-1):=fun h3=>by have:=dg_len_le.2 h3;omega
 have h3:4294967296^(dg a).length≤4294967296^((dg b).length-1):=Nat.pow_le_pow_right (by omega) (by omega)
 omega
end Go.Eng

namespace Go.Eng
section
variable {K:AV→Prop} {a b:Nat} {k':IntKind}
theorem wrap_u32 (n:Nat):IntKind.u32.wrap (n:Int)=((n%4294967296:Nat):Int):=by rw[IntKind.wrap_u32];omega
theorem wrap_u64 (n:Nat):IntKind.u64.wrap (n:Int)=((n%18446744073709551616:Nat):Int):=by
 simp [IntKind.wrap,IntKind.bits,IntKind.signed]
theorem OpP.nadd (h:a+b≤18446744073709551615) (hk:K (.int .u64 ((a+b:Nat):Int))):OpP .add .u64 (a:Int) .u64 (b:Int) K :=
 ⟨_,by simp only[intBin,if_true];rw[IntWalk.u64_in _ (by omega)],by simpa using hk⟩
theorem OpP.nsub (h:b≤a) (h2:a≤18446744073709551615) (hk:K (.int .u64 ((a-b:Nat):Int))):OpP .sub .u64 (a:Int) .u64 (b:Int) K :=
 ⟨_,by simp only[intBin,if_true];rw[IntWalk.u64_in _ (by omega)],by rw[show (a:Int)-b=((a-b:Nat):Int) by omega];exact hk⟩
theorem OpP.nsubw (h:b≤18446744073709551616) (hk:K (.int .u64 ((w64s a b:Nat):Int))):OpP .sub .u64 (a:Int) .u64 (b:Int) K :=
 OpP.go (v := .int .u64 (IntKind.u64.wrap ((a:Int)-b))) (by simp only[intBin,if_true]) (by
  have e:IntKind.u64.wrap ((a:Int)-b)=((w64s a b:Nat):Int):=by
   rw[w64s_def]
   simp only[IntKind.wrap,IntKind.bits,IntKind.signed]
   simp;omega
  rw[e];exact hk)
theorem OpP.nmul (h:a*b≤18446744073709551615) (hk:K (.int .u64 ((a*b:Nat):Int))):OpP .mul .u64 (a:Int) .u64 (b:Int) K :=
 ⟨_,by simp only[intBin,if_true];rw[←Int.natCast_mul,IntWalk.u64_in _ (by omega)],hk⟩
theorem OpP.nquo (h:0<b) (h2:a≤18446744073709551615) (hk:K (.int .u64 ((a/b:Nat):Int))):OpP .quo .u64 (a:Int) .u64 (b:Int) K:=by
 refine ⟨_,by simp only[intBin];rw[if_pos ⟨trivial,by omega⟩],?_⟩
 rw[IntWalk.u64_quo _ _ ⟨by omega,by omega,by omega⟩,←Int.natCast_ediv]
 exact hk
theorem OpP.nrem (h:0<b) (hk:K (.int .u64 ((a%b:Nat):Int))):OpP .rem .u64 (a:Int) .u64 (b:Int) K:=by
 refine ⟨_,by simp only[intBin];rw[if_pos ⟨trivial,by omega⟩],?_⟩
 rw[IntWalk.rem_in _ _ (by omega),←Int.natCast_emod]
 exact hk
theorem shl_n {k:IntKind} {n:Nat} (hn:n≤k.bits):intBin .shl k (a:Int) k' (n:Int)=some (.int k (k.wrap ((a*2^n:Nat):Int))):=by
 simp only[intBin]
 rw[if_neg (by omega),Int.toNat_natCast,Nat.min_eq_left hn]
 simp
theorem shr_n {k:IntKind} {n:Nat} (hn:n≤k.bits):intBin .shr k (a:Int) k' (n:Int)=some (.int k ((a/2^n:Nat):Int)):=by
 simp only[intBin]
 rw[if_neg (by omega),Int.toNat_natCast,Nat.min_eq_left hn,Int.fdiv_eq_ediv_of_nonneg _ (Int.le_of_lt (Int.pow_pos (by omega)))]
 simp
theorem OpP.nshlv {k:IntKind} {n:Nat} (hn:n≤k.bits) (hk:K (.int k (k.wrap ((a*2^n:Nat):Int)))):OpP .shl k (a:Int) k' (n:Int) K:=⟨_,shl_n hn,hk⟩
theorem OpP.nshrv {k:IntKind} {n:Nat} (hn:n≤k.bits) (hk:K (.int k ((a/2^n:Nat):Int))):OpP .shr k (a:Int) k' (n:Int) K:=⟨_,shr_n hn,hk⟩
theorem OpP.nshl32 (h:a≤4294967295) (hk:K (.int .u64 ((a*4294967296:Nat):Int))):OpP .shl .u64 (a:Int) k' 32 K:=by
 refine OpP.nshlv (n:=32) (by decide) ?_
 rw[wrap_u64,show a*2^32%18446744073709551616=a*4294967296 by omega]
 exact hk
theorem OpP.nshr32 (hk:K (.int .u64 ((a/4294967296:Nat):Int))):OpP .shr .u64 (a:Int) k' 32 K:=OpP.nshrv (n:=32) (by decide) hk
theorem OpP.nshr63 (hk:K (.int .u64 ((a/9223372036854775808:Nat):Int))):OpP .shr .u64 (a:Int) k' 63 K:=OpP.nshrv (n:=63) (by decide) hk
theorem OpP.nshr2 (hk:K (.int .u64 ((a/4:Nat):Int))):OpP .shr .u64 (a:Int) k' 2 K:=OpP.nshrv (n:=2) (by decide) hk
theorem OpP.nshr16 (hk:K (.int .u32 ((a/65536:Nat):Int))):OpP .shr .u32 (a:Int) k' 16 K:=OpP.nshrv (n:=16) (by decide) hk
theorem OpP.nshr8 (hk:K (.int .u32 ((a/256:Nat):Int))):OpP .shr .u32 (a:Int) k' 8 K:=OpP.nshrv (n:=8) (by decide) hk
theorem OpP.nshr1 (hk:K (.int .u32 ((a/2:Nat):Int))):OpP .shr .u32 (a:Int) k' 1 K:=OpP.nshrv (n:=1) (by decide) hk
theorem ofInt_nat (w n:Nat):(BitVec.ofInt w (n:Int)).toNat=n%2^w:=by rw[BitVec.toNat_ofInt];omega
theorem or_sum {n x y:Nat} (hx:x%2^n=0) (hy:y<2^n):x ||| y=x+y:=by
 have e:x=2^n*(x/2^n):=by have:=Nat.mod_add_div x (2^n);omega
 rw[e,←Nat.two_pow_add_eq_or_of_lt hy]
theorem OpP.norv {k:IntKind} (n:Nat) (hx:a%2^n=0) (hy:b<2^n) (h:a+b<2^k.bits) (hw:k.wrap ((a+b:Nat):Int)=((a+b:Nat):Int)) (hk:K (.int k ((a+b:Nat):Int))):OpP .or k (a:Int) k (b:Int) K:=by
 refine OpP.go (v := .int k (k.wrap (BitVec.ofInt k.bits (a:Int) ||| BitVec.ofInt k.bits (b:Int)).toNat)) (by simp only[intBin,if_true]) ?_
 rw[BitVec.toNat_or,ofInt_nat,ofInt_nat,Nat.mod_eq_of_lt (by omega),Nat.mod_eq_of_lt (by omega),or_sum hx hy,hw]
 exact hk
theorem OpP.nor (h:a%4294967296=0∧b<4294967296∧a+b≤18446744073709551615) (hk:K (.int .u64 ((a+b:Nat):Int))):OpP .or .u64 (a:Int) .u64 (b:Int) K :=
 OpP.norv 32 h.1 h.2.1 (show a+b<18446744073709551616 by omega) (IntWalk.u64_in _ (by omega)) hk
theorem OpP.nand32 (h:a≤18446744073709551615) (hk:K (.int .u64 ((a%4294967296:Nat):Int))):OpP .and .u64 (a:Int) .u64 4294967295 K:=by
 refine OpP.go (v := .int .u64 (IntKind.u64.wrap (BitVec.ofInt IntKind.u64.bits (a:Int) &&& BitVec.ofInt IntKind.u64.bits 4294967295).toNat)) (by simp only[intBin,if_true]) ?_
 rw[BitVec.toNat_and,ofInt_nat,show (BitVec.ofInt IntKind.u64.bits 4294967295).toNat=2^32-1 by decide,Nat.and_two_pow_sub_one_eq_mod,show a%2^IntKind.u64.bits=a from Nat.mod_eq_of_lt (show a<18446744073709551616 by omega),IntWalk.u64_in _ (by omega)]
 exact hk
theorem OpP.nadd4 (hk:K (.int .u32 (((a+b)%4294967296:Nat):Int))):OpP .add .u32 (a:Int) .u32 (b:Int) K :=
 OpP.go (v := .int .u32 (IntKind.u32.wrap ((a:Int)+b))) (by simp only[intBin,if_true]) (by rw[←Int.natCast_add,wrap_u32];exact hk)
end
section
variable {K:Int→Prop} {n:Nat}
theorem ConvP.n64 (h:n≤18446744073709551615) (hk:K (n:Int)):ConvP .u64 (n:Int) K:=ConvP.id (IntWalk.u64_in _ (by omega)) hk
theorem ConvP.n32i (h:n≤4294967295) (hk:K (n:Int)):ConvP .u32 (n:Int) K:=ConvP.id (IntWalk.u32_in _ (by omega)) hk
theorem ConvP.n32 (hk:K ((n%4294967296:Nat):Int)):ConvP .u32 (n:Int) K:=by unfold ConvP;rw[wrap_u32];exact hk
theorem ConvP.n8 (h:n≤255) (hk:K (n:Int)):ConvP .u8 (n:Int) K:=ConvP.id (IntWalk.u8_in _ (by omega)) hk
end
theorem TbP.go {tb:List Nat} {n v:Nat} {K:Nat→Prop} (hv:tb[n]? = some v) (hk:K v):TbP tb (n:Int) K:=⟨by omega,v,by rw[Int.toNat_natCast];exact hv,hk⟩
abbrev e32 (n:Nat):List AV:=[.int .u32 (n:Int)]
theorem cl_dig (l:List Nat):CleanLL (l.map e32):=cleanLL_map (fun _=>by simp [CleanL,Clean]) l
section
variable {l:List Nat} {K:List AV→Prop}
theorem RdP.dig {n:Nat} (hD:Dig l) (hn:n<l.length) (h : ∀ e,l[n]? = some e→e<4294967296→K (e32 e)):RdP (l.map e32) (n:Int) 1 K :=
 RdP.nat hn (fun _=>rfl) fun e he=>h e he (hD.at he)
theorem RdP.digi {a:Int} (hD:Dig l) (hn:0≤a∧a<l.length) (h : ∀ e,l[a.toNat]? = some e→e<4294967296→K (e32 e)):RdP (l.map e32) a 1 K :=
 RdP.go hn (fun _=>rfl) fun e he=>h e he (hD.at he)
theorem LdR.dig {i:Nat} (hD:Dig l) (hi:i<l.length) (h : ∀ e,l[i]? = some e→e<4294967296→K (e32 e)):LdR (l.map e32) (0+((i:Int)).toNat) 0 1 K :=
 LdR.nat (f:=e32) hi (fun _=>rfl) fun e he=>h e he (hD.at he)
theorem LdR.digi {i:Int} (hD:Dig l) (hi:0≤i∧i<l.length) (h : ∀ e,l[i.toNat]? = some e→e<4294967296→K (e32 e)):LdR (l.map e32) (0+i.toNat) 0 1 K :=
 LdR.int (f:=e32) hi (fun _=>rfl) fun e he=>h e he (hD.at he)
theorem LdR.digo {i:Nat} (n:Nat) (hn:i=n) (hD:Dig l) (hi:n<l.length) (h : ∀ e,l[n]? = some e→e<4294967296→K (e32 e)):LdR (l.map e32) i 0 1 K:=by
 subst hn
 exact LdR.go e32 hi (fun _=>rfl) fun e he=>h e he (hD.at he)
theorem StR.dig {i v:Nat} {KK:List (List AV)→Prop} (hi:i<l.length) (h:KK ((l.set i v).map e32)):StR (l.map e32) (0+((i:Int)).toNat) 0 [.int .u32 (v:Int)] KK:=StR.nat (enc:=e32) v rfl (fun _=>rfl) hi h
theorem StR.digo {i v:Nat} {KK:List (List AV)→Prop} (n:Nat) (hn:i=n) (hi:n<l.length) (h:KK ((l.set n v).map e32)):StR (l.map e32) i 0 [.int .u32 (v:Int)] KK:=StR.at (enc:=e32) n v hn rfl (fun _=>rfl) hi h
end
end Go.Eng
namespace Go.Eng
variable {L:Lib}
theorem Ev.xE {f:Nat} {fn:AFn} {vs:List AV} {P:AV→Prop} (hL:L f=some fn) (hp:Nat.beq vs.length fn.pars=true) (hd:datAL vs=true) (h:AKM L [.code fn.body] (initTm 0 vs) [] (fun tm M => ∃ r,RetX fn r tm M∧P r)) (hs:fn.spl=false:=by rfl) : ∃ r,Ev L f vs r∧P r:=by
 obtain ⟨n,c,st',hr,σ,tm,M,hR,r,hq,hP⟩:=h (fun _ _=>(0,0)) ⟨initTm 0 vs,Own.emp⟩ ⟨fun j=>Or.inr (by rw[tg_eq];exact datAL_tg hd j),⟨(fun _ _ _ e=>by cases e),(fun _ _ _ e=>by simp [mref,mget]at e),(fun _ _ _ e=>by simp [mref,mget]at e),(fun _ _ _ _ _ _ e=>by simp [mref,mget]at e)⟩⟩
 exact ⟨r,Ev.fwd hL (beq_iff.1 hp) ⟨n,c,st',hr,RetX_sound hR hq⟩ hs,hP⟩
def opRo:AOp→Bool
 | .vrow .. | .box .. | .alloc .. | .bslice .. | .st .. | .mk .. | .app .. | .cpy .. | .calli .. | .callv .. | .sto .. | .callr .. | .appo .. => false
 | _=>true
def cRo:ACode→Bool
 | .skip=>true
 | .ops l _=>l.all fun a=>opRo a.op
 | .dr c _ ss=>cRo c&&ss.isEmpty
 | .scope c=>cRo c
 | .seq a b=>cRo a&&cRo b
 | .cond _ a b=>cRo a&&cRo b
 | .block _ c=>cRo c
 | .loop c=>cRo c
 | .exit _=>true
 | .ret=>true
def iRo:It→Bool
 | .code c=>cRo c
 | .drp _ ss=>ss.isEmpty
 | .blk _=>true
 | .lp c=>cRo c
theorem eff_ro {C:Cl} {ban:List Nat} {ρ:Opd→AV} {own:Own} {op:AOp} {E:Eff} (ho:opRo op=true) (h:eff C ban ρ own op=some E) : ∃ v,E = .val v:=by
 cases op<;>first|(simp [opRo]at ho;done)|skip
 all_goals simp only[eff]at h
 all_goals
  first
   | (simp only[Option.some.injEq]at h;exact ⟨_,h.symm⟩)
   | (simp only[Option.map_eq_some_iff]at h;obtain ⟨_,_,rfl⟩:=h;exact ⟨_,rfl⟩)
   | skip
 all_goals (repeat' split at h)
 all_goals
  first
   | (cases h;done)
   | (simp only[Option.some.injEq]at h;exact ⟨_,h.symm⟩)
   | (simp only[Option.map_eq_some_iff]at h;obtain ⟨_,_,rfl⟩:=h;exact ⟨_,rfl⟩)
theorem stepI_ro {C:Cl} {a:AI} (ho:opRo a.op=true) {s s':St} (h:stepI C a s=some s'):s'.own=s.own:=by
 unfold stepI at h
 split at h
 ·cases he:eff C a.ban s.ev s.own a.op with
  | none=>rw[he]at h;cases h
  | some E =>
   rw[he]at h
   obtain ⟨v,rfl⟩:=eff_ro ho he
   simp only[Option.map_some,Option.some.injEq]at h
   subst h
   simp only[St.app]
   cases a.dst<;>rfl
 ·simp only[Option.some.injEq]at h
  subst h
  cases a.dst<;>rfl
 ·cases h
theorem stepL_ro {C:Cl} : ∀ {l:List AI},(l.all fun a=>opRo a.op)=true → ∀ {s s':St},stepL C l s=some s'→s'.own=s.own
 | [],_,s,s',h=>by simp only[stepL,Option.some.injEq]at h;rw[h]
 | a::l,ho,s,s',h=>by
  simp only[List.all_cons,Bool.and_eq_true]at ho
  simp only[stepL]at h
  cases h1:stepI C a s with
  | none=>rw[h1]at h;cases h
  | some s1 =>
   rw[h1]at h
   rw[stepL_ro ho.2 h,stepI_ro ho.1 h1]
theorem exitA_ro {id:Nat} : ∀ {k k':List It},k.all iRo=true→exitA id k=some k'→k'.all iRo=true
 | [],_,_,h=>by simp [exitA]at h
 | it::k,k',hk,h=>by
  simp only[List.all_cons,Bool.and_eq_true]at hk
  cases it with
  | blk i =>
   simp only[exitA]at h
   split at h
   ·cases h;exact hk.2
   ·exact exitA_ro hk.2 h
  | code c=>simp only[exitA]at h;exact exitA_ro hk.2 h
  | drp a b=>simp only[exitA]at h;exact exitA_ro hk.2 h
  | lp c=>simp only[exitA]at h;exact exitA_ro hk.2 h
theorem run_ro {C:Cl} : ∀ (n:Nat) {k:List It},k.all iRo=true → ∀ {s s':St},run C n k s=some s'→s'.own=s.own
 | 0,k,_,s,s',h=>by simp [run]at h
 | n+1,[],_,s,s',h=>by
  simp only[run,Option.some.injEq]at h
  rw[h]
 | n+1,it::k,hk,s,s',h=>by
  have hk':=hk
  simp only[List.all_cons,Bool.and_eq_true]at hk
  obtain ⟨hi,hk⟩:=hk
  cases it with
  | blk _=>simp only[run]at h;exact run_ro n hk h
  | drp ts ss =>
   have:ss=[]:=by simpa [iRo] using hi
   subst this
   simp only[run]at h
   rw[run_ro n hk h];rfl
  | lp c=>simp only[run]at h;exact run_ro n (by simp only[List.all_cons,Bool.and_eq_true];exact ⟨hi,hi,hk⟩) h
  | code c =>
   cases c with
   | skip=>simp only[run]at h;exact run_ro n hk h
   | ops l d =>
    simp only[run]at h
    cases h1:stepL C l s with
    | none=>rw[h1]at h;cases h
    | some s1 =>
     rw[h1]at h
     rw[run_ro n hk h,stepL_ro (show (l.all fun a=>opRo a.op)=true from hi) h1]
   | dr c ts ss =>
    simp only[run]at h
    simp only[iRo,cRo,Bool.and_eq_true]at hi
    exact run_ro n (by simp only[List.all_cons,Bool.and_eq_true];exact ⟨hi.1,hi.2,hk⟩) h
   | scope c=>simp only[run]at h;exact run_ro n (by simp only[List.all_cons,Bool.and_eq_true];exact ⟨hi,hk⟩) h
   | seq a b =>
    simp only[run]at h
    simp only[iRo,cRo,Bool.and_eq_true]at hi
    exact run_ro n (by simp only[List.all_cons,Bool.and_eq_true];exact ⟨hi.1,hi.2,hk⟩) h
   | cond x a b =>
    simp only[iRo,cRo,Bool.and_eq_true]at hi
    simp only[run]at h
    split at h
    ·exact run_ro n (by simp only[List.all_cons,Bool.and_eq_true];exact ⟨hi.1,hk⟩) h
    ·exact run_ro n (by simp only[List.all_cons,Bool.and_eq_true];exact ⟨hi.2,hk⟩) h
    ·cases h
   | block id c=>simp only[run]at h;exact run_ro n (by simp only[List.all_cons,Bool.and_eq_true];exact ⟨hi,rfl,hk⟩) h
   | loop c=>simp only[run]at h;exact run_ro n (by simp only[List.all_cons,Bool.and_eq_true];exact ⟨hi,hi,hk⟩) h
   | exit id =>
    simp only[run]at h
    split at h
    ·rename_i k' he
     exact run_ro n (exitA_ro hk he) h
    ·cases h
   | ret =>
    simp only[run,Option.some.injEq]at h
    rw[h]
def RetD (fn:AFn) (r:AV) (tm:Tm) (_M:Mem):Prop := ∃ rs,resI tm fn.res=some rs∧resVal rs=r
def datR:AV→Bool
 | .tup vs=>datAL vs
 | v=>datA v
theorem datR_st3 {σ:Stp} {v:AV} (h:datR v=true):st3 σ v=v:=by
 cases v with
 | tup vs =>
  simp only[st3]
  congr 1
  simp only[datR]at h
  induction vs with
  | nil=>rfl
  | cons v r ih =>
   simp only[datAL]at h
   cases hv:datA v<;>simp only[hv,cond_true,cond_false]at h
   ·cases h
   ·rw[List.map_cons,ih h]
    congr 1
    cases v<;>first|rfl|(simp [datA,dat]at hv;done)|skip
    rename_i cs
    exact datA_st3 (σ:=σ) (v := .agg cs) hv
 | _=>exact datA_st3 (σ:=σ) h
def RoF (L:Lib) (f:Nat) (vs:List AV) (r:AV):Prop:=datR r=true∧(∀ σ:Stp,vs.map (st3 σ)=vs) ∧ ∀ own:Own,EvI L f vs own r own
theorem datAL_map {σ:Stp} : ∀ {vs:List AV},datAL vs=true→vs.map (st3 σ)=vs
 | [],_=>rfl
 | v::r,h=>by
  simp only[datAL]at h
  cases hv:datA v<;>simp only[hv,cond_true,cond_false]at h
  ·cases h
  ·rw[List.map_cons,datA_st3 hv,datAL_map h]
theorem RoF.x {f:Nat} {fn:AFn} {vs:List AV} {r:AV} (hL:L f=some fn) (hp:Nat.beq vs.length fn.pars=true) (hd:datAL vs=true) (hro:cRo fn.body=true) (hlt:resLt 100000 fn.res=true) (hr:datR r=true) (h:AKM L [.code fn.body] (initTm 0 vs) [] (RetD fn r)):RoF L f vs r:=by
 refine ⟨hr,fun σ=>datAL_map hd,fun own => ?_⟩
 obtain ⟨n,c,st',hrun,σ,tm,M,hR,rs,hrs,he⟩:=h (fun _ _=>(0,0)) ⟨initTm 0 vs,own⟩ ⟨fun j=>Or.inr (by rw[tg_eq];exact datAL_tg hd j),⟨(fun _ _ _ e=>by cases e),(fun _ _ _ e=>by simp [mref,mget]at e),(fun _ _ _ e=>by simp [mref,mget]at e),(fun _ _ _ _ _ _ e=>by simp [mref,mget]at e)⟩⟩
 have ho:=run_ro n (by simp [iRo,hro]) hrun
 obtain ⟨i1,i2⟩:=resI_sound (N:=100000) (s:=st') hR (fun _ _=>rfl) hlt hrs
 refine EvI.intro hL (beq_iff.1 hp) ⟨n,c,st',hrun,?_,ho⟩
 rw[i1,Option.map_some,resVal_st i2,he,datR_st3 hr]
theorem CalP.ro {f:Nat} {vs:List AV} {r:AV} {tm:Tm} {M:Mem} {K:AV→Mem→Prop} (h:RoF L f vs r) (hk:K r M):CalP L f vs tm M K:=by
 intro σ own hs
 refine ⟨r,own,σ,M,?_,hs,fun _=>rfl,hk⟩
 rw[h.2.1 σ,datR_st3 h.1]
 exact h.2.2 own
end Go.Eng

namespace Go.Eng
open F
attribute [local irreducible] AKM CmpP Req OpP UnP ConvP RdP LdR StR MkR LenP AppR AppN CpyR RowP SnR Bds SlS CallP CalP FinP pw LdM GetM SetM PutM MkM AppM SnM FlP CallR
set_option maxHeartbeats 1000000
variable {L:Lib}
def cmpS (a b:Int):Int:=if a<b then -1 else if b<a then 1 else 0
theorem cmpS_lt {a b:Int} (h:a<b) : -1=cmpS a b:=by unfold cmpS;rw[if_pos h]
theorem cmpS_gt {a b:Int} (h:b<a):1=cmpS a b:=by unfold cmpS;rw[if_neg (by omega),if_pos h]
theorem cmpS_eq {a b:Int} (h:a=b):0=cmpS a b:=by unfold cmpS;rw[if_neg (by omega),if_neg (by omega)]
theorem ev_isNaN_int (N:NatGLib L) (a:Int):Ev L 58 [.int .i64 a] (.bool false):=by
 refine Ev.x N.cmp_isNaN_int rfl rfl ?_
 (repeat' (first|(refine CmpP.go (fun hc => ?_) (fun hc => ?_)<;>first|(exfalso;omega)|(conv=>whnf))|(refine AKM.x ?_;conv=>whnf)))
 exact FinP.b rfl
theorem ev_isNaN_uint32 (N:NatGLib L) (a:Int):Ev L 59 [.int .u32 a] (.bool false):=by
 refine Ev.x N.cmp_isNaN_uint32 rfl rfl ?_
 (repeat' (first|(refine CmpP.go (fun hc => ?_) (fun hc => ?_)<;>first|(exfalso;omega)|(conv=>whnf))|(refine AKM.x ?_;conv=>whnf)))
 exact FinP.b rfl
theorem ev_Compare_int (N:NatGLib L) (a b:Int):Ev L 60 [.int .i64 a,.int .i64 b] (.int .i64 (cmpS a b)):=by
 refine Ev.x N.cmp_Compare_int rfl rfl ?_
 (repeat' (first|(refine CmpP.go (fun hc => ?_) (fun hc => ?_)<;>first|(exfalso;omega)|(conv=>whnf))|(refine AKM.x ?_;conv=>whnf)|(refine CallP.go (ev_isNaN_int N _) ?_;conv=>whnf)))
 ·exact FinP.i (cmpS_lt (by omega))
 ·exact FinP.i (cmpS_gt (by omega))
 ·exact FinP.i (cmpS_eq (by omega))
theorem ev_Compare_uint32 (N:NatGLib L) (a b:Int):Ev L 61 [.int .u32 a,.int .u32 b] (.int .i64 (cmpS a b)):=by
 refine Ev.x N.cmp_Compare_uint32 rfl rfl ?_
 (repeat' (first|(refine CmpP.go (fun hc => ?_) (fun hc => ?_)<;>first|(exfalso;omega)|(conv=>whnf))|(refine AKM.x ?_;conv=>whnf)|(refine CallP.go (ev_isNaN_uint32 N _) ?_;conv=>whnf)))
 ·exact FinP.i (cmpS_lt (by omega))
 ·exact FinP.i (cmpS_gt (by omega))
 ·exact FinP.i (cmpS_eq (by omega))
theorem ev_Clone (N:NatGLib L) (l:List Nat) (q:Bool) (hl:l.length≤1099511627776):Ev L 62 [.sl q (l.map e32)] (.sl false (l.map e32)):=by
 cases l with
 | nil =>
  refine EvD.nil N.slices_Clone_uint32_uint32 (EvD.x N.slices_Clone_uint32_uint32 rfl rfl ?_) (EvD.x N.slices_Clone_uint32_uint32 rfl rfl ?_)
  ·(repeat' (refine AKM.x ?_;conv=>whnf))
   exact FinP.go rfl (by simp [Clean,CleanLL])
  ·(repeat' (refine AKM.x ?_;conv=>whnf))
   refine AppR.many (enc:=e32) (l:=[]) (l':=[]) rfl (fun _=>rfl) (by simp) (by simp) ?_
   (conv=>whnf)
   (repeat' (refine SnR.all (fun _=>rfl) rfl ?_ ?_;(first|rfl|simp);conv=>whnf))
   exact FinP.go rfl (by simp [Clean,CleanLL])
 | cons d l =>
  refine EvD.cons (EvD.x N.slices_Clone_uint32_uint32 rfl rfl ?_)
  (repeat' (refine AKM.x ?_;conv=>whnf))
  refine Req.go (by simp) ?_
  (conv=>whnf)
  skip
  refine AppR.many (enc:=e32) (l:=[]) (l':=d::l) rfl (fun _=>rfl) (by simp at hl ⊢;omega) (by simp at hl ⊢;omega) ?_
  (conv=>whnf)
  (repeat' (refine SnR.all (fun _=>rfl) rfl ?_ ?_;(first|rfl|simp);conv=>whnf))
  exact FinP.go rfl (by simp only[Clean,true_and];exact cl_dig (d::l))
theorem ro_cut (N:NatGLib L) (l:List Nat) (q:Bool) (hD:Dig l) (hl:l.length≤1099511627776):RoF L 65 [.sl q (l.map e32)] (.sl q ((dg (val l)).map e32)):=by
 refine RoF.x N.nat_cut rfl rfl rfl rfl rfl ?_
 (repeat' (first|(refine LenP.go ?_;conv=>whnf)|(refine AKM.x ?_;conv=>whnf)))
 refine AKM.loop1 (fun n=>n) (fun (n:Nat)=>n≤l.length ∧ ∀ i,n≤i→i<l.length→l[i]? = some 0) (fun n=>[(3,.int .i64 n)]) (fun _=>[]) [] [] l.length (by (conv=>whnf);exact ⟨rfl,rfl,rfl⟩) ⟨Nat.le_refl _,fun i h1 h2=>by omega⟩ ?_
 intro n ⟨p1,p2⟩ ih
 rcases n with _|n
 ·(repeat' (first|(refine CmpP.go (fun hc => ?_) (fun hc => ?_)<;>first|(exfalso;omega)|(conv=>whnf))|(refine AKM.x ?_;conv=>whnf)))
  refine SlS.to (k:=0) (fun _=>rfl) (by omega) ?_
  (conv=>whnf)
  refine ⟨_,rfl,?_⟩
  rw[cut_found hD p1 p2 (Or.inl rfl)];rfl
 ·have e1:((n+1:Nat):Int)-1=n:=by omega
  (repeat' (first|(refine CmpP.go (fun hc => ?_) (fun hc => ?_)<;>first|(exfalso;omega)|(conv=>whnf))|(refine OpP.sub ?_ ?_;omega;conv=>whnf)|(refine RdP.digi (by assumption) ?_ (fun e he hb => ?_);omega;conv=>whnf)|(refine AKM.x ?_;conv=>whnf)))
  ·rw[e1]
   exact AKM.back [] (by (conv=>whnf);exact ⟨rfl,rfl,rfl⟩) (ih n (by omega) ⟨by omega,fun i h1 h2=>by
    by_cases h:i=n
    ·subst h
     rw[e1,Int.toNat_natCast]at he
     rw[he];congr 1;omega
    ·exact p2 i (by omega) h2⟩)
  ·refine SlS.to (k:=n+1) (fun _=>rfl) (by omega) ?_
   (conv=>whnf)
   refine ⟨_,rfl,?_⟩
   rw[e1,Int.toNat_natCast]at he
   rw[cut_found hD p1 p2 (Or.inr ⟨e,he,by omega⟩)];rfl
theorem ev_Trim (N:NatGLib L) (l:List Nat) (q:Bool) (hD:Dig l) (hl:l.length≤1099511627776):Ev L 66 [.sl q (l.map e32)] (.sl false ((dg (val l)).map e32)):=by
 have hc:=dg_len_val hD
 refine Ev.x N.nat_Trim rfl rfl ?_
 (repeat' (first|(refine AKM.x ?_;conv=>whnf)|(refine CalP.ro (ro_cut N l _ hD hl) ?_;conv=>whnf)|(refine CallP.go (ev_Clone N (dg (val l)) _ (by omega)) ?_;conv=>whnf)))
 exact FinP.go rfl (by simp only[Clean,true_and];exact cl_dig _)
theorem cmp_len {a b:Nat} (h:((dg a).length:Int)≠(dg b).length):cmpS (dg a).length (dg b).length=cmpS a b:=by
 rcases Nat.lt_trichotomy (dg a).length (dg b).length with h1|h1|h1
 ·have:=val_lt_of_len h1
  rw[←cmpS_lt (by omega),←cmpS_lt (by omega)]
 ·omega
 ·have:=val_lt_of_len h1
  rw[←cmpS_gt (by omega),←cmpS_gt (by omega)]
theorem ev_nat_Compare (N:NatGLib L) (a b:List Nat) (q1 q2:Bool) (hA:Dig a) (hB:Dig b) (la:a.length≤1099511627776) (lb:b.length≤1099511627776):Ev L 67 [.sl q1 (a.map e32),.sl q2 (b.map e32)] (.int .i64 (cmpS (val a) (val b))):=by
 have l1:=dg_len_val hA
 have l2:=dg_len_val hB
 have d1:=dig_dg (val a)
 have d2:=dig_dg (val b)
 refine Ev.x N.nat_Compare rfl rfl ?_
 (repeat' (first|(refine CmpP.go (fun hc => ?_) (fun hc => ?_)<;>first|(exfalso;omega)|(conv=>whnf))|(refine OpP.sub ?_ ?_;omega;conv=>whnf)|(refine LenP.go ?_;conv=>whnf)|(refine AKM.x ?_;conv=>whnf)|(refine CalP.ro (ro_cut N a _ hA la) ?_;conv=>whnf)|(refine CalP.ro (ro_cut N b _ hB lb) ?_;conv=>whnf)|(refine CallP.go (ev_Compare_int N _ _) ?_;conv=>whnf)))
 ·exact FinP.i (cmp_len (by omega))
 have hlen:(dg (val a)).length=(dg (val b)).length:=by omega
 have v1:=val_dg (val a)
 have v2:=val_dg (val b)
 generalize dg (val a)=X at *
 generalize dg (val b)=Y at *
 refine AKM.loop1 (fun n=>n) (fun (n:Nat)=>n≤X.length∧X.drop n=Y.drop n) (fun n=>[(7,.int .i64 ((n:Int)-1))]) (fun _=>[]) [] [] X.length (by (conv=>whnf);exact ⟨rfl,rfl,rfl⟩) ⟨Nat.le_refl _,by rw[List.drop_of_length_le (Nat.le_refl _),List.drop_of_length_le (by omega)]⟩ ?_
 intro n ⟨p1,p2⟩ ih
 rcases n with _|n
 ·(repeat' (first|(refine CmpP.go (fun hc => ?_) (fun hc => ?_)<;>first|(exfalso;omega)|(conv=>whnf))|(refine AKM.x ?_;conv=>whnf)))
  rw[List.drop_zero,List.drop_zero]at p2
  exact FinP.i (cmpS_eq (by rw[←v1,←v2,p2]))
 ·have e1:((n+1:Nat):Int)-1=n:=by omega
  rw[e1]
  (repeat' (first|(refine CmpP.go (fun hc => ?_) (fun hc => ?_)<;>first|(exfalso;omega)|(conv=>whnf))|(refine OpP.sub ?_ ?_;omega;conv=>whnf)|(refine RdP.at (by assumption) ?_ rfl ?_;omega;conv=>whnf)|(refine RdP.dig (by assumption) ?_ (fun e he hb => ?_);omega;conv=>whnf)|(refine AKM.x ?_;conv=>whnf)|(refine CallP.go (ev_Compare_uint32 N _ _) ?_;conv=>whnf)))
  ·rename_i x hx _
   rcases Nat.lt_trichotomy x e with h|h|h
   ·have:=val_lt_of_drop d1 d2 hlen hx he p2 h
    refine FinP.i ?_
    rw[←cmpS_lt (by omega),←cmpS_lt (by omega)]
   ·omega
   ·have:=val_lt_of_drop d2 d1 hlen.symm he hx p2.symm h
    refine FinP.i ?_
    rw[←cmpS_gt (by omega),←cmpS_gt (by omega)]
  ·rename_i x hx _
   refine AKM.back [] (by (conv=>whnf);exact ⟨rfl,rfl,rfl⟩) (ih n (by omega) ⟨by omega,?_⟩)
   obtain ⟨i1,e1⟩:=List.getElem?_eq_some_iff.1 hx
   obtain ⟨i2,e2⟩:=List.getElem?_eq_some_iff.1 he
   rw[List.drop_eq_getElem_cons i1,List.drop_eq_getElem_cons i2,p2,e1,e2]
   congr 1
   omega
end Go.Eng

namespace Go.Eng
section
variable {U V UL VL p u0 u1 u2 v1 v2 top q r:Nat}
theorem guess_top (hU:U=UL+p*(u2+4294967296*top)) (hV:V=VL+p*(v2+4294967296*v1)) (hl:UL<p) (h2:u2<4294967296) (hV0:0<V):U/V*v1≤top:=by
 have h1:U/V*V≤U:=Nat.div_mul_le_self U V
 generalize U/V=Q at *
 have h3:U<p*(4294967296*(top+1)):=by
  have:p*(u2+4294967296*top)+p≤p*(4294967296*(top+1)):=by
   rw[←Nat.mul_succ];exact Nat.mul_le_mul_left p (by omega)
  omega
 have h4:p*(4294967296*(Q*v1))≤Q*V:=by
  have e:Q*V=Q*VL+Q*(p*v2)+p*(4294967296*(Q*v1)):=by rw[hV];grind
  omega
 have h5:p*(4294967296*(Q*v1))<p*(4294967296*(top+1)):=by omega
 have:=Nat.lt_of_mul_lt_mul_left h5
 omega
theorem guess_dec (hU:U=UL+p*(u2+4294967296*top)) (hV:V=VL+p*(v2+4294967296*v1)) (hl:UL<p) (hq:q*v1+r=top) (h:r*4294967296+u2<q*v2) (hV0:0<V):U/V<q:=by
 rw[Nat.div_lt_iff_lt_mul hV0]
 have e:q*V=q*VL+p*(q*v2+4294967296*(q*v1)):=by rw[hV];grind
 have h1:p*(u2+4294967296*top)+p≤p*(q*v2+4294967296*(q*v1)):=by
  rw[←Nat.mul_succ];exact Nat.mul_le_mul_left p (by omega)
 omega
theorem guess_big (h:U<4294967296*V) (hq:4294967296≤q) (hV0:0<V):U/V<q:=by
 have:U/V<4294967296:=(Nat.div_lt_iff_lt_mul hV0).2 h
 omega
theorem guess_end (hU:U=UL+p*(u2+4294967296*top)) (hV:V=VL+p*(v2+4294967296*v1)) (hVl:VL<p) (h1:2147483648≤v1) (hq:q*v1+r=top) (h:q*v2≤r*4294967296+u2) (hqB:q<4294967296):q≤U/V+1:=by
 have hV0:0<V:=by
  have:p*4294967296≤p*(v2+4294967296*v1):=Nat.mul_le_mul_left p (by omega)
  omega
 by_cases h0:q=0
 ·subst h0;exact Nat.zero_le _
 have e:q*V=q*VL+p*(q*v2+4294967296*(q*v1)):=by rw[hV];grind
 have h2:p*(q*v2+4294967296*(q*v1))≤p*(u2+4294967296*top):=Nat.mul_le_mul_left p (by omega)
 have h3:q*VL<V:=by
  have a1:q*VL≤4294967296*VL:=Nat.mul_le_mul_right _ (by omega)
  have a2:p*4294967296≤p*(v2+4294967296*v1):=Nat.mul_le_mul_left p (by omega)
  omega
 have h4:(q-1)*V<U+1:=by
  have:(q-1)*V+V=q*V:=by
   have:q=q-1+1:=by omega
   rw[←Nat.succ_mul,Nat.succ_eq_add_one,←this]
  omega
 have h5:q-1≤U/V:=(Nat.le_div_iff_mul_le hV0).2 (by omega)
 omega
end
theorem digit_ok {U V U' q:Nat} (hV0:0<V) (h1:U/V≤q) (h:U'+q*V=U):q=U/V∧U'=U%V:=by
 have h2:q*V≤U:=by omega
 have h3:q≤U/V:=(Nat.le_div_iff_mul_le hV0).2 h2
 have h4:q=U/V:=by omega
 have:=Nat.div_add_mod U V
 rw[Nat.mul_comm,←h4]at this
 exact ⟨h4,by omega⟩
theorem digit_back {U V U' q P:Nat} (hV0:0<V) (h2:q≤U/V+1) (hU':U'<P) (h:U'+q*V=U+P):q-1=U/V∧1≤q∧U'+V=U%V+P:=by
 have h3:U/V*V≤U:=Nat.div_mul_le_self U V
 have h4:U/V<q:=by
  rcases Nat.lt_or_ge (U/V) q with h|h
  ·exact h
  ·have:q*V≤U/V*V:=Nat.mul_le_mul_right _ h
   omega
 have h6:=Nat.div_add_mod U V
 rw[Nat.mul_comm]at h6
 generalize U/V=Q at *
 generalize U%V=R at *
 obtain rfl:q=Q+1:=by omega
 rw[Nat.add_mul,Nat.one_mul]at h
 exact ⟨by omega,by omega,by omega⟩
theorem sub_step {u pl bw:Nat} (hu:u<4294967296) (hp:pl<4294967296) (hb:bw≤1):w64s (w64s u pl) bw%4294967296+pl+bw=u+4294967296*(w64s (w64s u pl) bw/9223372036854775808)∧w64s (w64s u pl) bw/9223372036854775808≤1:=by
 rw[w64s_def,w64s_def];omega
theorem sub_step2 {d e bw:Nat} (hu:d<4294967296) (hp:e<4294967296) (hb:bw≤1):w64s (w64s d bw) e%4294967296+e+bw=d+4294967296*(w64s (w64s d bw) e/9223372036854775808)∧w64s (w64s d bw) e/9223372036854775808≤1:=by
 rw[w64s_def,w64s_def];omega
theorem sub_step1 {d bw:Nat} (hu:d<4294967296) (hb:bw≤1):w64s d bw%4294967296+bw=d+4294967296*(w64s d bw/9223372036854775808)∧w64s d bw/9223372036854775808≤1:=by
 rw[w64s_def];omega
theorem sub_carry {V Y X p D e bw bw' d:Nat} (h:V+Y=X+p*bw) (hd:D+e+bw=d+4294967296*bw'):V+p*D+(Y+p*e)=X+p*d+p*4294967296*bw':=by
 have h2:p*D+p*e+p*bw=p*d+p*4294967296*bw':=by
  rw[←Nat.mul_add,←Nat.mul_add,hd,Nat.mul_add,Nat.mul_assoc]
 omega
theorem mul_le_dig {a b:Nat} (ha:a<4294967296) (hb:b<4294967296):a*b≤18446744065119617025 :=
 Nat.mul_le_mul (show a≤4294967295 by omega) (show b≤4294967295 by omega)
theorem div_scale {X Y s:Nat} (hs:0<s):X*s/(Y*s)=X/Y∧X*s%(Y*s)/s=X%Y:=by
 refine ⟨Nat.mul_div_mul_right X Y hs,?_⟩
 rw[Nat.mul_mod_mul_right,Nat.mul_div_cancel _ hs]
end Go.Eng

namespace Go.Eng
open F
attribute [local irreducible] AKM CmpP Req OpP UnP ConvP RdP LdR StR MkR LenP AppR AppN CpyR RowP SnR Bds SlS CallP CalP FinP pw LdM GetM SetM PutM MkM AppM SnM FlP CallR
set_option maxHeartbeats 1000000
variable {L:Lib}
theorem val_take_end {y:List Nat} {i:Nat} (h:y.length≤i):val (y.take (i+1))=val (y.take i):=by
 rw[val_take_all h,val_take_all (by omega)]
theorem ev_nat_Add (N:NatGLib L) (a b:List Nat) (q1 q2:Bool) (hA:Dig a) (hB:Dig b) (la:a.length≤1099511627775) (lb:b.length≤1099511627775):Ev L 68 [.sl q1 (a.map e32),.sl q2 (b.map e32)] (.sl false ((dg (val a+val b)).map e32)):=by
 have l1:=dg_len_val hA
 have l2:=dg_len_val hB
 have d1:=dig_dg (val a)
 have d2:=dig_dg (val b)
 have v1:=val_dg (val a)
 have v2:=val_dg (val b)
 refine Ev.x N.nat_Add rfl rfl ?_
 (repeat' (first|(refine CmpP.go (fun hc => ?_) (fun hc => ?_)<;>first|(exfalso;omega)|(conv=>whnf))|(refine OpP.add ?_ ?_;omega;conv=>whnf)|(refine LenP.go ?_;conv=>whnf)|(refine AKM.x ?_;conv=>whnf)|(refine CalP.ro (ro_cut N a _ hA (by omega)) ?_;conv=>whnf)|(refine CalP.ro (ro_cut N b _ hB (by omega)) ?_;conv=>whnf)))
 ·generalize dg (val a)=y at *
  generalize dg (val b)=x at *
  rw[←v1,←v2,Nat.add_comm (val y)]
  have hlen:y.length≤x.length:=by omega
  have hxl:x.length≤1099511627775:=by omega
  clear v1 v2 hA hB la lb
  refine MkR.go (enc:=e32) 0 (x.length+1) rfl (by omega) (by omega) ?_
  (conv=>whnf)
  (repeat' (refine LenP.go ?_;conv=>whnf))
  refine AKM.loop3 (fun i _ _=>x.length-i) (fun (i:Nat) (o:List Nat) (c:Nat)=>i≤x.length∧o.length=x.length+1∧Dig o∧c≤1∧val (o.take i)+4294967296^i*c=val (x.take i)+val (y.take i)) (fun i o c=>[(8,.int .u64 (c:Int)),(29,.int .i64 i)]) (fun i o c=>[(26,26,.rw 1 (o.map e32))]) [] [] 0 (List.replicate (x.length+1) 0) 0 (by (conv=>whnf);exact ⟨rfl,rfl,rfl⟩) ⟨by omega,by simp,dig_zeros _,by omega,by simp [val]⟩ ?_
  intro i o c ⟨p1,p2,p3,p4,p5⟩ ih
  by_cases hi:i<x.length
  ·(repeat' (first|(refine CmpP.go (fun hc => ?_) (fun hc => ?_)<;>first|(exfalso;omega)|(conv=>whnf))|(refine Req.go ?_ ?_;omega;conv=>whnf)|(refine OpP.nadd ?_ ?_;omega;conv=>whnf)|(refine ConvP.u64 ?_ ?_;omega;conv=>whnf)|(refine ConvP.n32 ?_;conv=>whnf)|(refine LenP.go ?_;conv=>whnf)|(refine RdP.dig (by assumption) ?_ (fun e he hb => ?_);omega;conv=>whnf)|(refine AKM.x ?_;conv=>whnf)))
   ·rename_i d hd _
    refine StR.dig (by omega) ?_
    (conv=>whnf)
    (repeat' (first|(refine OpP.add ?_ ?_;omega;conv=>whnf)|(refine OpP.nshr32 ?_;conv=>whnf)))
    refine AKM.back [] (by (conv=>whnf);exact ⟨rfl,rfl,rfl⟩) (ih (i+1) _ _ (by omega) ⟨by omega,by simpa using p2,p3.set _ (by omega),by omega,?_⟩)
    have h1:=val_take_succ hd
    have h2:=val_take_succ he
    have h3:=carry_step (val (o.take i)) (4294967296^i) (d+c+e)
    have h4:=val_set_take (v:=(d+c+e)%4294967296) (show i<o.length by omega)
    rw[h4,h1,h2,Nat.pow_succ]
    generalize 4294967296^i=p at *
    rw[h3,Nat.mul_add,Nat.mul_add]
    omega
   ·refine StR.dig (by omega) ?_
    (conv=>whnf)
    (repeat' (first|(refine OpP.add ?_ ?_;omega;conv=>whnf)|(refine OpP.nshr32 ?_;conv=>whnf)))
    refine AKM.back [] (by (conv=>whnf);exact ⟨rfl,rfl,rfl⟩) (ih (i+1) _ _ (by omega) ⟨by omega,by simpa using p2,p3.set _ (by omega),by omega,?_⟩)
    have h1:=val_take_succ he
    have h2:=val_take_end (y:=y) (i:=i) (by omega)
    have h3:=carry_step (val (o.take i)) (4294967296^i) (e+c)
    have h4:=val_set_take (v:=(e+c)%4294967296) (show i<o.length by omega)
    rw[h4,h1,h2,Nat.pow_succ]
    generalize 4294967296^i=p at *
    rw[h3,Nat.mul_add]
    omega
  ·obtain rfl:i=x.length:=by omega
   clear ih
   (repeat' (first|(refine CmpP.go (fun hc => ?_) (fun hc => ?_)<;>first|(exfalso;omega)|(conv=>whnf))|(refine Req.go ?_ ?_;omega;conv=>whnf)|(refine ConvP.n32i ?_ ?_;omega;conv=>whnf)|(refine LenP.go ?_;conv=>whnf)|(refine AKM.x ?_;conv=>whnf)))
   refine StR.dig (by omega) ?_
   (conv=>whnf)
   skip
   have hV:val (o.set x.length c)=val x+val y:=by
    have h4:=val_set_take (v:=c) (show x.length<o.length by omega)
    rw[List.take_of_length_le (by simp;omega)]at h4
    rw[h4,p5,val_take_all (Nat.le_refl _),val_take_all hlen]
   have hD:Dig (o.set x.length c):=p3.set _ (by omega)
   have hL:(o.set x.length c).length=x.length+1:=by simpa using p2
   clear p3 p4 p5 p2
   generalize o.set x.length c=O at *
   rw[←hL]
   refine CalP.walk 1000 N.nat_cut rfl rfl ?_
   (repeat' (refine AKM.x ?_;conv=>whnf))
   refine AKM.loop1 (fun n=>n) (fun (n:Nat)=>n≤(O).length ∧ ∀ i,n≤i→i<(O).length→(O)[i]? = some 0) (fun n=>[(3,.int .i64 n)]) (fun _=>[]) [] [] (O).length (by first|exact (by (conv=>whnf);exact ⟨rfl,rfl,rfl⟩)|(simp only[List.length_set,List.length_replicate];exact (by (conv=>whnf);exact ⟨rfl,rfl,rfl⟩))) ⟨Nat.le_refl _,fun i h1 h2=>by omega⟩ ?_
   intro n ⟨p1,p2⟩ ih
   rcases n with _|n
   ·(repeat' (first|(refine CmpP.go (fun hc => ?_) (fun hc => ?_)<;>first|(exfalso;omega)|(conv=>whnf))|(refine AKM.x ?_;conv=>whnf)))
    refine Bds.up 0 (by omega) (by omega) ?_
    (conv=>whnf)
    refine ⟨rfl,_,rfl,?_⟩
    (conv=>whnf)
    have hm:=p1
    have hct:=cut_found (l:=O) (by assumption) p1 p2 (Or.inl rfl)
    clear ih p1 p2
    (refine SnR.part (enc:=e32) (fun _=>rfl) (by omega) ?_;(conv=>whnf);exact FinP.go (by rw[←hV,←hct];rfl) (by simp only[Clean,true_and];exact cl_dig _))
   ·have e1:((n+1:Nat):Int)-1=n:=by omega
    (repeat' (first|(refine CmpP.go (fun hc => ?_) (fun hc => ?_)<;>first|(exfalso;omega)|(conv=>whnf))|(refine Req.go ?_ ?_;omega;conv=>whnf)|(refine OpP.sub ?_ ?_;omega;conv=>whnf)|(refine LdR.digi (by assumption) ?_ (fun v hv hb => ?_);omega;conv=>whnf)|(refine AKM.x ?_;conv=>whnf)))
    ·rw[e1]
     exact AKM.back [] (by (conv=>whnf);exact ⟨rfl,rfl,rfl⟩) (ih n (by omega) ⟨by omega,fun i h1 h2=>by
      by_cases h:i=n
      ·subst h
       rw[e1,Int.toNat_natCast]at hv
       rw[hv];congr 1;omega
      ·exact p2 i (by omega) h2⟩)
    ·refine Bds.up (n+1) (by omega) (by omega) ?_
     (conv=>whnf)
     refine ⟨rfl,_,rfl,?_⟩
     (conv=>whnf)
     rw[e1,Int.toNat_natCast]at hv
     have hm:=p1
     have hct:=cut_found (l:=O) (by assumption) p1 p2 (Or.inr ⟨_,hv,by omega⟩)
     clear ih p1 p2 hv
     (refine SnR.part (enc:=e32) (fun _=>rfl) (by omega) ?_;(conv=>whnf);exact FinP.go (by rw[←hV,←hct];rfl) (by simp only[Clean,true_and];exact cl_dig _))
 ·generalize dg (val a)=x at *
  generalize dg (val b)=y at *
  rw[←v1,←v2]
  have hlen:y.length≤x.length:=by omega
  have hxl:x.length≤1099511627775:=by omega
  clear v1 v2 hA hB la lb
  refine MkR.go (enc:=e32) 0 (x.length+1) rfl (by omega) (by omega) ?_
  (conv=>whnf)
  (repeat' (refine LenP.go ?_;conv=>whnf))
  refine AKM.loop3 (fun i _ _=>x.length-i) (fun (i:Nat) (o:List Nat) (c:Nat)=>i≤x.length∧o.length=x.length+1∧Dig o∧c≤1∧val (o.take i)+4294967296^i*c=val (x.take i)+val (y.take i)) (fun i o c=>[(8,.int .u64 (c:Int)),(29,.int .i64 i)]) (fun i o c=>[(26,26,.rw 1 (o.map e32))]) [] [] 0 (List.replicate (x.length+1) 0) 0 (by (conv=>whnf);exact ⟨rfl,rfl,rfl⟩) ⟨by omega,by simp,dig_zeros _,by omega,by simp [val]⟩ ?_
  intro i o c ⟨p1,p2,p3,p4,p5⟩ ih
  by_cases hi:i<x.length
  ·(repeat' (first|(refine CmpP.go (fun hc => ?_) (fun hc => ?_)<;>first|(exfalso;omega)|(conv=>whnf))|(refine Req.go ?_ ?_;omega;conv=>whnf)|(refine OpP.nadd ?_ ?_;omega;conv=>whnf)|(refine ConvP.u64 ?_ ?_;omega;conv=>whnf)|(refine ConvP.n32 ?_;conv=>whnf)|(refine LenP.go ?_;conv=>whnf)|(refine RdP.dig (by assumption) ?_ (fun e he hb => ?_);omega;conv=>whnf)|(refine AKM.x ?_;conv=>whnf)))
   ·rename_i d hd _
    refine StR.dig (by omega) ?_
    (conv=>whnf)
    (repeat' (first|(refine OpP.add ?_ ?_;omega;conv=>whnf)|(refine OpP.nshr32 ?_;conv=>whnf)))
    refine AKM.back [] (by (conv=>whnf);exact ⟨rfl,rfl,rfl⟩) (ih (i+1) _ _ (by omega) ⟨by omega,by simpa using p2,p3.set _ (by omega),by omega,?_⟩)
    have h1:=val_take_succ hd
    have h2:=val_take_succ he
    have h3:=carry_step (val (o.take i)) (4294967296^i) (d+c+e)
    have h4:=val_set_take (v:=(d+c+e)%4294967296) (show i<o.length by omega)
    rw[h4,h1,h2,Nat.pow_succ]
    generalize 4294967296^i=p at *
    rw[h3,Nat.mul_add,Nat.mul_add]
    omega
   ·refine StR.dig (by omega) ?_
    (conv=>whnf)
    (repeat' (first|(refine OpP.add ?_ ?_;omega;conv=>whnf)|(refine OpP.nshr32 ?_;conv=>whnf)))
    refine AKM.back [] (by (conv=>whnf);exact ⟨rfl,rfl,rfl⟩) (ih (i+1) _ _ (by omega) ⟨by omega,by simpa using p2,p3.set _ (by omega),by omega,?_⟩)
    have h1:=val_take_succ he
    have h2:=val_take_end (y:=y) (i:=i) (by omega)
    have h3:=carry_step (val (o.take i)) (4294967296^i) (e+c)
    have h4:=val_set_take (v:=(e+c)%4294967296) (show i<o.length by omega)
    rw[h4,h1,h2,Nat.pow_succ]
    generalize 4294967296^i=p at *
    rw[h3,Nat.mul_add]
    omega
  ·obtain rfl:i=x.length:=by omega
   clear ih
   (repeat' (first|(refine CmpP.go (fun hc => ?_) (fun hc => ?_)<;>first|(exfalso;omega)|(conv=>whnf))|(refine Req.go ?_ ?_;omega;conv=>whnf)|(refine ConvP.n32i ?_ ?_;omega;conv=>whnf)|(refine LenP.go ?_;conv=>whnf)|(refine AKM.x ?_;conv=>whnf)))
   refine StR.dig (by omega) ?_
   (conv=>whnf)
   skip
   have hV:val (o.set x.length c)=val x+val y:=by
    have h4:=val_set_take (v:=c) (show x.length<o.length by omega)
    rw[List.take_of_length_le (by simp;omega)]at h4
    rw[h4,p5,val_take_all (Nat.le_refl _),val_take_all hlen]
   have hD:Dig (o.set x.length c):=p3.set _ (by omega)
   have hL:(o.set x.length c).length=x.length+1:=by simpa using p2
   clear p3 p4 p5 p2
   generalize o.set x.length c=O at *
   rw[←hL]
   refine CalP.walk 1000 N.nat_cut rfl rfl ?_
   (repeat' (refine AKM.x ?_;conv=>whnf))
   refine AKM.loop1 (fun n=>n) (fun (n:Nat)=>n≤(O).length ∧ ∀ i,n≤i→i<(O).length→(O)[i]? = some 0) (fun n=>[(3,.int .i64 n)]) (fun _=>[]) [] [] (O).length (by first|exact (by (conv=>whnf);exact ⟨rfl,rfl,rfl⟩)|(simp only[List.length_set,List.length_replicate];exact (by (conv=>whnf);exact ⟨rfl,rfl,rfl⟩))) ⟨Nat.le_refl _,fun i h1 h2=>by omega⟩ ?_
   intro n ⟨p1,p2⟩ ih
   rcases n with _|n
   ·(repeat' (first|(refine CmpP.go (fun hc => ?_) (fun hc => ?_)<;>first|(exfalso;omega)|(conv=>whnf))|(refine AKM.x ?_;conv=>whnf)))
    refine Bds.up 0 (by omega) (by omega) ?_
    (conv=>whnf)
    refine ⟨rfl,_,rfl,?_⟩
    (conv=>whnf)
    have hm:=p1
    have hct:=cut_found (l:=O) (by assumption) p1 p2 (Or.inl rfl)
    clear ih p1 p2
    (refine SnR.part (enc:=e32) (fun _=>rfl) (by omega) ?_;(conv=>whnf);exact FinP.go (by rw[←hV,←hct];rfl) (by simp only[Clean,true_and];exact cl_dig _))
   ·have e1:((n+1:Nat):Int)-1=n:=by omega
    (repeat' (first|(refine CmpP.go (fun hc => ?_) (fun hc => ?_)<;>first|(exfalso;omega)|(conv=>whnf))|(refine Req.go ?_ ?_;omega;conv=>whnf)|(refine OpP.sub ?_ ?_;omega;conv=>whnf)|(refine LdR.digi (by assumption) ?_ (fun v hv hb => ?_);omega;conv=>whnf)|(refine AKM.x ?_;conv=>whnf)))
    ·rw[e1]
     exact AKM.back [] (by (conv=>whnf);exact ⟨rfl,rfl,rfl⟩) (ih n (by omega) ⟨by omega,fun i h1 h2=>by
      by_cases h:i=n
      ·subst h
       rw[e1,Int.toNat_natCast]at hv
       rw[hv];congr 1;omega
      ·exact p2 i (by omega) h2⟩)
    ·refine Bds.up (n+1) (by omega) (by omega) ?_
     (conv=>whnf)
     refine ⟨rfl,_,rfl,?_⟩
     (conv=>whnf)
     rw[e1,Int.toNat_natCast]at hv
     have hm:=p1
     have hct:=cut_found (l:=O) (by assumption) p1 p2 (Or.inr ⟨_,hv,by omega⟩)
     clear ih p1 p2 hv
     (refine SnR.part (enc:=e32) (fun _=>rfl) (by omega) ?_;(conv=>whnf);exact FinP.go (by rw[←hV,←hct];rfl) (by simp only[Clean,true_and];exact cl_dig _))
theorem cmpS_le {a b:Int} (h:cmpS a b≤0):a≤b:=by
 unfold cmpS at h
 split at h
 ·omega
 ·split at h<;>omega
theorem cmpS_pos {a b:Int} (h:0<cmpS a b):b<a:=by
 unfold cmpS at h
 split at h
 ·omega
 ·split at h<;>omega
theorem ev_nat_Sub (N:NatGLib L) (a b:List Nat) (q1 q2:Bool) (hA:Dig a) (hB:Dig b) (la:a.length≤1099511627776) (lb:b.length≤1099511627776):Ev L 69 [.sl q1 (a.map e32),.sl q2 (b.map e32)] (.sl false ((dg (val a-val b)).map e32)):=by
 have l1:=dg_len_val hA
 have l2:=dg_len_val hB
 have d1:=dig_dg (val a)
 have d2:=dig_dg (val b)
 have v1:=val_dg (val a)
 have v2:=val_dg (val b)
 refine Ev.x N.nat_Sub rfl rfl ?_
 (repeat' (first|(refine CmpP.go (fun hc => ?_) (fun hc => ?_)<;>first|(exfalso;omega)|(conv=>whnf))|(refine LenP.go ?_;conv=>whnf)|(refine AKM.x ?_;conv=>whnf)|(refine CallP.go (ev_nat_Compare N a b _ _ hA hB la lb) ?_;conv=>whnf)|(refine CalP.ro (ro_cut N a _ hA la) ?_;conv=>whnf)|(refine CalP.ro (ro_cut N b _ hB lb) ?_;conv=>whnf)))
 ·have:=cmpS_le hc
  refine FinP.go ?_ (by simp only[Clean,true_and];exact cl_dig _)
  rw[show val a-val b=0 by omega,dg_zero];rfl
 ·have hlt:=cmpS_pos hc
  have hll:(dg (val b)).length≤(dg (val a)).length:=by
   rcases Nat.lt_or_ge (dg (val a)).length (dg (val b)).length with h|h
   ·have:=val_lt_of_len h;omega
   ·exact h
  have hlt':val b<val a:=by omega
  clear hlt hc
  generalize dg (val a)=x at *
  generalize dg (val b)=y at *
  rw[←v1,←v2]at hlt' ⊢
  clear v1 v2 hA hB lb
  refine MkR.go (enc:=e32) 0 x.length rfl rfl (by omega) ?_
  (conv=>whnf)
  (repeat' (refine LenP.go ?_;conv=>whnf))
  refine AKM.loop3 (fun i _ _=>x.length-i) (fun (i:Nat) (o:List Nat) (c:Nat)=>i≤x.length∧o.length=x.length∧Dig o∧c≤1∧val (o.take i)+val (y.take i)=val (x.take i)+4294967296^i*c) (fun i o c=>[(8,.int .u64 (c:Int)),(25,.int .i64 i)]) (fun i o c=>[(22,22,.rw 1 (o.map e32))]) [] [] 0 (List.replicate x.length 0) 0 (by (conv=>whnf);exact ⟨rfl,rfl,rfl⟩) ⟨by omega,by simp,dig_zeros _,by omega,by simp [val]⟩ ?_
  intro i o c ⟨p1,p2,p3,p4,p5⟩ ih
  by_cases hi:i<x.length
  ·(repeat' (first|(refine CmpP.go (fun hc => ?_) (fun hc => ?_)<;>first|(exfalso;omega)|(conv=>whnf))|(refine Req.go ?_ ?_;omega;conv=>whnf)|(refine OpP.nsubw ?_ ?_;omega;conv=>whnf)|(refine ConvP.u64 ?_ ?_;omega;conv=>whnf)|(refine ConvP.n32 ?_;conv=>whnf)|(refine LenP.go ?_;conv=>whnf)|(refine RdP.dig (by assumption) ?_ (fun e he hb => ?_);omega;conv=>whnf)|(refine AKM.x ?_;conv=>whnf)))
   ·rename_i d hd hdb
    obtain ⟨s1,s2⟩:=sub_step2 hdb hb p4
    refine StR.dig (by omega) ?_
    (conv=>whnf)
    (repeat' (first|(refine OpP.add ?_ ?_;omega;conv=>whnf)|(refine OpP.nshr63 ?_;conv=>whnf)))
    generalize w64s (w64s d c) e=t at *
    refine AKM.back [] (by (conv=>whnf);exact ⟨rfl,rfl,rfl⟩) (ih (i+1) _ _ (by omega) ⟨by omega,by simpa using p2,p3.set _ (by omega),s2,?_⟩)
    rw[val_set_take (by omega),val_take_succ hd,val_take_succ he,Nat.pow_succ]
    exact sub_carry p5 s1
   ·obtain ⟨s1,s2⟩:=sub_step1 hb p4
    refine StR.dig (by omega) ?_
    (conv=>whnf)
    (repeat' (first|(refine OpP.add ?_ ?_;omega;conv=>whnf)|(refine OpP.nshr63 ?_;conv=>whnf)))
    generalize w64s e c=t at *
    refine AKM.back [] (by (conv=>whnf);exact ⟨rfl,rfl,rfl⟩) (ih (i+1) _ _ (by omega) ⟨by omega,by simpa using p2,p3.set _ (by omega),s2,?_⟩)
    rw[val_set_take (by omega),val_take_succ he,val_take_end (by omega),Nat.pow_succ]
    rw[←Nat.add_zero (t%4294967296)]at s1
    have:=sub_carry (e:=0) p5 s1
    rw[Nat.mul_zero,Nat.add_zero]at this
    exact this
  ·obtain rfl:i=x.length:=by omega
   clear ih
   have hc0:c=0:=by
    rw[val_take_all (by omega),val_take_all hll,val_take_all (Nat.le_refl _)]at p5
    have:=val_lt p3
    rw[p2]at this
    rcases Nat.eq_zero_or_pos c with h|h
    ·exact h
    ·have:c=1:=by omega
     subst this
     omega
   subst hc0
   have hV:val o=val x-val y:=by
    rw[val_take_all (by omega),val_take_all hll,val_take_all (Nat.le_refl _)]at p5
    omega
   clear p5 p4
   rw[←p2]
   (repeat' (first|(refine CmpP.go (fun hc => ?_) (fun hc => ?_)<;>first|(exfalso;omega)|(conv=>whnf))|(refine AKM.x ?_;conv=>whnf)))
   refine CalP.walk 1000 N.nat_cut rfl rfl ?_
   (repeat' (refine AKM.x ?_;conv=>whnf))
   refine AKM.loop1 (fun n=>n) (fun (n:Nat)=>n≤(o).length ∧ ∀ i,n≤i→i<(o).length→(o)[i]? = some 0) (fun n=>[(3,.int .i64 n)]) (fun _=>[]) [] [] (o).length (by first|exact (by (conv=>whnf);exact ⟨rfl,rfl,rfl⟩)|(simp only[List.length_set,List.length_replicate];exact (by (conv=>whnf);exact ⟨rfl,rfl,rfl⟩))) ⟨Nat.le_refl _,fun i h1 h2=>by omega⟩ ?_
   intro n ⟨p1,p2⟩ ih
   rcases n with _|n
   ·(repeat' (first|(refine CmpP.go (fun hc => ?_) (fun hc => ?_)<;>first|(exfalso;omega)|(conv=>whnf))|(refine AKM.x ?_;conv=>whnf)))
    refine Bds.up 0 (by omega) (by omega) ?_
    (conv=>whnf)
    refine ⟨rfl,_,rfl,?_⟩
    (conv=>whnf)
    have hm:=p1
    have hct:=cut_found (l:=o) (by assumption) p1 p2 (Or.inl rfl)
    clear ih p1 p2
    (refine SnR.part (enc:=e32) (fun _=>rfl) (by omega) ?_;(conv=>whnf);exact FinP.go (by rw[←hV,←hct];rfl) (by simp only[Clean,true_and];exact cl_dig _))
   ·have e1:((n+1:Nat):Int)-1=n:=by omega
    (repeat' (first|(refine CmpP.go (fun hc => ?_) (fun hc => ?_)<;>first|(exfalso;omega)|(conv=>whnf))|(refine Req.go ?_ ?_;omega;conv=>whnf)|(refine OpP.sub ?_ ?_;omega;conv=>whnf)|(refine LdR.digi (by assumption) ?_ (fun v hv hb => ?_);omega;conv=>whnf)|(refine AKM.x ?_;conv=>whnf)))
    ·rw[e1]
     exact AKM.back [] (by (conv=>whnf);exact ⟨rfl,rfl,rfl⟩) (ih n (by omega) ⟨by omega,fun i h1 h2=>by
      by_cases h:i=n
      ·subst h
       rw[e1,Int.toNat_natCast]at hv
       rw[hv];congr 1;omega
      ·exact p2 i (by omega) h2⟩)
    ·refine Bds.up (n+1) (by omega) (by omega) ?_
     (conv=>whnf)
     refine ⟨rfl,_,rfl,?_⟩
     (conv=>whnf)
     rw[e1,Int.toNat_natCast]at hv
     have hm:=p1
     have hct:=cut_found (l:=o) (by assumption) p1 p2 (Or.inr ⟨_,hv,by omega⟩)
     clear ih p1 p2 hv
     (refine SnR.part (enc:=e32) (fun _=>rfl) (by omega) ?_;(conv=>whnf);exact FinP.go (by rw[←hV,←hct];rfl) (by simp only[Clean,true_and];exact cl_dig _))
theorem ev_nat_Mul (N:NatGLib L) (a b:List Nat) (q1 q2:Bool) (hA:Dig a) (hB:Dig b) (lab:a.length+b.length≤1099511627776):Ev L 70 [.sl q1 (a.map e32),.sl q2 (b.map e32)] (.sl false ((dg (val a*val b)).map e32)):=by
 have l1:=dg_len_val hA
 have l2:=dg_len_val hB
 have d1:=dig_dg (val a)
 have d2:=dig_dg (val b)
 have v1:=val_dg (val a)
 have v2:=val_dg (val b)
 refine Ev.x N.nat_Mul rfl rfl ?_
 have hz : ∀ p:Prop,((dg (val a)).length:Int)=0∨((dg (val b)).length:Int)=0→FinP (.sl false []) (.sl false ((dg (val a*val b)).map e32)):=fun _ h=>by
  have:val a*val b=0:=by
   rcases h with h|h
   ·have:dg (val a)=[]:=List.eq_nil_of_length_eq_zero (by omega)
    rw[dg_eq_nil.1 this,Nat.zero_mul]
   ·have:dg (val b)=[]:=List.eq_nil_of_length_eq_zero (by omega)
    rw[dg_eq_nil.1 this,Nat.mul_zero]
  exact FinP.go (by rw[this,dg_zero];rfl) (by simp only[Clean,true_and];exact cl_dig _)
 (repeat' (first|(refine CmpP.go (fun hc => ?_) (fun hc => ?_)<;>first|(exfalso;omega)|(conv=>whnf))|(refine OpP.add ?_ ?_;omega;conv=>whnf)|(refine LenP.go ?_;conv=>whnf)|(refine AKM.x ?_;conv=>whnf)|(refine CalP.ro (ro_cut N a _ hA (by omega)) ?_;conv=>whnf)|(refine CalP.ro (ro_cut N b _ hB (by omega)) ?_;conv=>whnf)))
 ·exact hz True (Or.inl hc)
 ·exact hz True (Or.inr hc)
 ·clear hz
  generalize dg (val a)=x at *
  generalize dg (val b)=y at *
  rw[←v1,←v2]
  have hxy:x.length+y.length≤1099511627776:=by omega
  clear v1 v2 hA hB lab l1 l2
  refine MkR.go (enc:=e32) 0 (x.length+y.length) rfl (by omega) (by omega) ?_
  (conv=>whnf)
  (repeat' (refine LenP.go ?_;conv=>whnf))
  refine AKM.loop2 (fun i _=>x.length-i) (fun (i:Nat) (o:List Nat)=>i≤x.length∧o.length=x.length+y.length∧Dig o∧val o=val (x.take i)*val y ∧ ∀ k,i+y.length≤k→k<o.length→o[k]? = some 0) (fun i o=>[(34,.int .i64 i)]) (fun i o=>[(31,31,.rw 1 (o.map e32))]) [] [] 0 (List.replicate (x.length+y.length) 0) (by (conv=>whnf);exact ⟨rfl,rfl,rfl⟩) ⟨by omega,by simp,dig_zeros _,by simp [val,val_zeros],fun k h1 h2=>by simp at h2;simp [h2]⟩ ?_
  intro i O ⟨p1,p2,p3,p4,p5⟩ ih
  by_cases hi:i<x.length
  ·obtain ⟨d,hd⟩ : ∃ d,x[i]? = some d:=⟨_,List.getElem?_eq_getElem hi⟩
   have hdb:=d1.at hd
   (repeat' (first|(refine CmpP.go (fun hc => ?_) (fun hc => ?_)<;>first|(exfalso;omega)|(conv=>whnf))|(refine OpP.add ?_ ?_;omega;conv=>whnf)|(refine LenP.go ?_;conv=>whnf)|(refine RdP.at (by assumption) ?_ rfl ?_;omega;conv=>whnf)|(refine AKM.x ?_;conv=>whnf)))
   ·refine AKM.back [] (by (conv=>whnf);exact ⟨rfl,rfl,rfl⟩) (ih (i+1) O (by omega) ⟨by omega,p2,p3,?_,fun k h1 h2=>p5 k (by omega) h2⟩)
    rw[val_take_succ hd,p4,show d=0 by omega,Nat.mul_zero,Nat.add_zero]
   ·refine AKM.loop3 (fun j _ _=>y.length-j) (fun (j:Nat) (o:List Nat) (c:Nat)=>j≤y.length∧o.length=x.length+y.length∧Dig o∧c<4294967296∧val o+4294967296^(i+j)*c=val O+4294967296^i*(d*val (y.take j)) ∧ ∀ k,i+j≤k→o[k]? = O[k]?) (fun j o c=>[(10,.int .u64 (c:Int)),(43,.int .i64 j)]) (fun j o c=>[(31,31,.rw 1 (o.map e32))]) [] [] 0 O 0 (by (conv=>whnf);exact ⟨rfl,rfl,rfl⟩) ⟨by omega,p2,p3,by omega,by simp [val],fun _ _=>rfl⟩ ?_
    intro j o c ⟨r1,r2,r3,r4,r5,r6⟩ jh
    have e1:((i:Int)+j).toNat=i+j:=by omega
    by_cases hj:j<y.length
    ·obtain ⟨w,hw⟩ : ∃ w,y[j]? = some w:=⟨_,List.getElem?_eq_getElem hj⟩
     have hwb:=d2.at hw
     have hm:=mul_le_dig hdb hwb
     (repeat' (first|(refine CmpP.go (fun hc => ?_) (fun hc => ?_)<;>first|(exfalso;omega)|(conv=>whnf))|(refine Req.go ?_ ?_;omega;conv=>whnf)|(refine OpP.add ?_ ?_;omega;conv=>whnf)|(refine OpP.nadd ?_ ?_;omega;conv=>whnf)|(refine OpP.nmul ?_ ?_;omega;conv=>whnf)|(refine ConvP.u64 ?_ ?_;omega;conv=>whnf)|(refine ConvP.n32 ?_;conv=>whnf)|(refine RdP.at (by assumption) ?_ rfl ?_;omega;conv=>whnf)|(refine LdR.dig (by assumption) ?_ (fun v hv hb => ?_);omega;conv=>whnf)|(refine AKM.x ?_;conv=>whnf)))
     refine StR.digo (i+j) (by omega) (by omega) ?_
     (conv=>whnf)
     (repeat' (first|(refine OpP.add ?_ ?_;omega;conv=>whnf)|(refine OpP.nshr32 ?_;conv=>whnf)))
     refine AKM.back [] (by (conv=>whnf);exact ⟨rfl,rfl,rfl⟩) (jh (j+1) _ _ (by omega) ⟨by omega,by simpa using r2,r3.set _ (by omega),by omega,?_,?_⟩)
     ·have h1:=val_set (v:=(d*w+v+c)%4294967296) hv
      have h2:=carry_step 0 (4294967296^(i+j)) (d*w+v+c)
      rw[val_take_succ hw,show i+(j+1)=i+j+1 by omega,Nat.pow_succ (4294967296) (i+j)]
      have h3:4294967296^i*(d*(val (y.take j)+4294967296^j*w))=4294967296^i*(d*val (y.take j))+4294967296^(i+j)*(d*w):=by rw[Nat.pow_add];grind
      rw[h3]
      generalize 4294967296^(i+j)=P at *
      rw[Nat.mul_add P,Nat.mul_add P]at h2
      omega
     ·intro k hk
      rw[List.getElem?_set_ne (by omega)]
      exact r6 k (by omega)
    ·obtain rfl:j=y.length:=by omega
     clear jh
     (repeat' (first|(refine CmpP.go (fun hc => ?_) (fun hc => ?_)<;>first|(exfalso;omega)|(conv=>whnf))|(refine Req.go ?_ ?_;omega;conv=>whnf)|(refine OpP.add ?_ ?_;omega;conv=>whnf)|(refine ConvP.n32i ?_ ?_;omega;conv=>whnf)|(refine LenP.go ?_;conv=>whnf)|(refine AKM.x ?_;conv=>whnf)))
     have hz:=r6 (i+y.length) (by omega)
     rw[p5 (i+y.length) (by omega) (by omega)]at hz
     refine StR.digo (i+y.length) (by omega) (by omega) ?_
     (conv=>whnf)
     (repeat' (refine OpP.add ?_ ?_;omega;conv=>whnf))
     refine AKM.back [] (by (conv=>whnf);exact ⟨rfl,rfl,rfl⟩) (ih (i+1) _ (by omega) ⟨by omega,by simpa using r2,r3.set _ (by omega),?_,?_⟩)
     ·have h1:=val_set (v:=c) hz
      rw[Nat.mul_zero,Nat.add_zero]at h1
      rw[h1,r5,p4,val_take_all (Nat.le_refl _),val_take_succ hd,Nat.add_mul,Nat.mul_assoc]
     ·intro k h1 h2
      rw[List.length_set]at h2
      rw[List.getElem?_set_ne (by omega),r6 k (by omega)]
      exact p5 k (by omega) (by omega)
  ·obtain rfl:i=x.length:=by omega
   clear ih
   rw[val_take_all (Nat.le_refl _)]at p4
   rw[←p4,←p2]
   (repeat' (first|(refine CmpP.go (fun hc => ?_) (fun hc => ?_)<;>first|(exfalso;omega)|(conv=>whnf))|(refine AKM.x ?_;conv=>whnf)))
   clear p5
   refine CalP.walk 1000 N.nat_cut rfl rfl ?_
   (repeat' (refine AKM.x ?_;conv=>whnf))
   refine AKM.loop1 (fun n=>n) (fun (n:Nat)=>n≤(O).length ∧ ∀ i,n≤i→i<(O).length→(O)[i]? = some 0) (fun n=>[(3,.int .i64 n)]) (fun _=>[]) [] [] (O).length (by first|exact (by (conv=>whnf);exact ⟨rfl,rfl,rfl⟩)|(simp only[List.length_set,List.length_replicate];exact (by (conv=>whnf);exact ⟨rfl,rfl,rfl⟩))) ⟨Nat.le_refl _,fun i h1 h2=>by omega⟩ ?_
   intro n ⟨p1,p2⟩ ih
   rcases n with _|n
   ·(repeat' (first|(refine CmpP.go (fun hc => ?_) (fun hc => ?_)<;>first|(exfalso;omega)|(conv=>whnf))|(refine AKM.x ?_;conv=>whnf)))
    refine Bds.up 0 (by omega) (by omega) ?_
    (conv=>whnf)
    refine ⟨rfl,_,rfl,?_⟩
    (conv=>whnf)
    have hm:=p1
    have hct:=cut_found (l:=O) (by assumption) p1 p2 (Or.inl rfl)
    clear ih p1 p2
    (refine SnR.part (enc:=e32) (fun _=>rfl) (by omega) ?_;(conv=>whnf);exact FinP.go (by rw[←hct];rfl) (by simp only[Clean,true_and];exact cl_dig _))
   ·have e1:((n+1:Nat):Int)-1=n:=by omega
    (repeat' (first|(refine CmpP.go (fun hc => ?_) (fun hc => ?_)<;>first|(exfalso;omega)|(conv=>whnf))|(refine Req.go ?_ ?_;omega;conv=>whnf)|(refine OpP.sub ?_ ?_;omega;conv=>whnf)|(refine LdR.digi (by assumption) ?_ (fun v hv hb => ?_);omega;conv=>whnf)|(refine AKM.x ?_;conv=>whnf)))
    ·rw[e1]
     exact AKM.back [] (by (conv=>whnf);exact ⟨rfl,rfl,rfl⟩) (ih n (by omega) ⟨by omega,fun i h1 h2=>by
      by_cases h:i=n
      ·subst h
       rw[e1,Int.toNat_natCast]at hv
       rw[hv];congr 1;omega
      ·exact p2 i (by omega) h2⟩)
    ·refine Bds.up (n+1) (by omega) (by omega) ?_
     (conv=>whnf)
     refine ⟨rfl,_,rfl,?_⟩
     (conv=>whnf)
     rw[e1,Int.toNat_natCast]at hv
     have hm:=p1
     have hct:=cut_found (l:=O) (by assumption) p1 p2 (Or.inr ⟨_,hv,by omega⟩)
     clear ih p1 p2 hv
     (refine SnR.part (enc:=e32) (fun _=>rfl) (by omega) ?_;(conv=>whnf);exact FinP.go (by rw[←hct];rfl) (by simp only[Clean,true_and];exact cl_dig _))
end Go.Eng

namespace Go.Eng
@[irreducible] def shLo (d s : Nat) : Nat := d * 2 ^ s % 4294967296
@[irreducible] def shHi (d s : Nat) : Nat := d * 2 ^ s / 4294967296
theorem shLo_def (d s:Nat):shLo d s=d*2^s%4294967296:=by unfold shLo;rfl
theorem shHi_def (d s:Nat):shHi d s=d*2^s/4294967296:=by unfold shHi;rfl
theorem two32 {s:Nat} (hs:s≤32):4294967296=2^s*2^(32-s):=by
 rw[←Nat.pow_add,show s+(32-s)=32 by omega]
theorem sh_sum (d s:Nat):shLo d s+4294967296*shHi d s=d*2^s:=by
 rw[shLo_def,shHi_def];exact Nat.mod_add_div _ _
theorem shLo_eq {d s:Nat} (hs:s≤32):shLo d s=2^s*(d%2^(32-s)):=by
 rw[shLo_def,two32 hs,Nat.mul_comm d,Nat.mul_mod_mul_left]
theorem shHi_eq {d s:Nat} (hs:s≤32):shHi d s=d/2^(32-s):=by
 rw[shHi_def,two32 hs,Nat.mul_comm d,Nat.mul_div_mul_left _ _ (Nat.two_pow_pos s)]
theorem sh_facts {d s:Nat} (hd:d<4294967296) (hs:s≤32):shLo d s%2^s=0∧shHi d s<2^s∧shLo d s+2^s≤4294967296∧d*2^s≤18446744073709551615:=by
 refine ⟨by rw[shLo_eq hs,Nat.mul_mod_right],?_,?_,?_⟩
 ·rw[shHi_eq hs,Nat.div_lt_iff_lt_mul (Nat.two_pow_pos _),←Nat.pow_add,show s+(32-s)=32 by omega];exact hd
 ·rw[shLo_eq hs]
  have h1:d%2^(32-s)+1≤2^(32-s):=Nat.mod_lt _ (Nat.two_pow_pos _)
  have h2:=Nat.mul_le_mul_left (2^s) h1
  rw[Nat.mul_add,Nat.mul_one,←two32 hs]at h2
  exact h2
 ·have h1:2^s≤2^32:=Nat.pow_le_pow_right (by omega) hs
  have h2:d*2^s≤4294967295*4294967296:=Nat.mul_le_mul (by omega) h1
  omega
theorem pow_s_le {s:Nat} (hs:s≤32):2^s≤4294967296:=(Nat.pow_le_pow_right (by omega) hs:2^s≤2^32)
theorem lift_step {V X p lo s d:Nat} (h:V+p*lo=X*2^s):V+p*(shLo d s+lo)+p*4294967296*shHi d s=(X+p*d)*2^s:=by
 have h1:=sh_sum d s
 have h2:p*(shLo d s+lo)+p*4294967296*shHi d s=p*lo+p*(d*2^s):=by
  rw[←h1];grind
 rw[Nat.add_mul,←h,Nat.mul_assoc p d]
 omega
theorem lower_step {d V s:Nat} (hs:s≤32):(d+4294967296*V)/2^s=d/2^s+V%2^s*2^(32-s)+4294967296*(V/2^s):=by
 have e:4294967296*V=2^s*(2^(32-s)*V):=by rw[←Nat.mul_assoc,←two32 hs]
 rw[e,Nat.add_mul_div_left _ _ (Nat.two_pow_pos s)]
 have h:=Nat.mod_add_div V (2^s)
 have h2:2^(32-s)*V=V%2^s*2^(32-s)+4294967296*(V/2^s):=by
  have h3:2^(32-s)*V=2^(32-s)*(V%2^s+2^s*(V/2^s)):=by rw[h]
  rw[h3,two32 hs];grind
 omega
theorem lower_mod {d V s:Nat} (hs:s≤32):(d+4294967296*V)%2^s=d%2^s:=by
 have e:4294967296*V=2^s*(2^(32-s)*V):=by rw[←Nat.mul_assoc,←two32 hs]
 rw[e,Nat.add_mul_mod_self_left]
theorem lower_high {d s:Nat} (hs:s≤32):d*2^(32-s)%4294967296=d%2^s*2^(32-s):=by
 have e:4294967296=2^s*2^(32-s):=two32 hs
 rw[e,Nat.mul_mod_mul_right]
theorem lower_facts {d V s:Nat} (hd:d<4294967296) (hs:s≤32):d/2^s<2^(32-s)∧V%2^s*2^(32-s)%2^(32-s)=0∧V%2^s*2^(32-s)+2^(32-s)≤4294967296:=by
 refine ⟨?_,Nat.mul_mod_left _ _,?_⟩
 ·rw[Nat.div_lt_iff_lt_mul (Nat.two_pow_pos _),←Nat.pow_add,show 32-s+s=32 by omega];exact hd
 ·have h1:V%2^s+1≤2^s:=Nat.mod_lt _ (Nat.two_pow_pos _)
  have h2:=Nat.mul_le_mul_right (2^(32-s)) h1
  rw[Nat.add_mul,Nat.one_mul,←two32 hs]at h2
  exact h2
def blen (x:Nat):Nat:=if x=0 then 0 else x.log2+1
theorem blen_ge {x:Nat} (h:x≠0):2^(blen x-1)≤x∧x<2^blen x∧1≤blen x:=by
 unfold blen
 rw[if_neg h]
 exact ⟨Nat.log2_self_le h,Nat.lt_log2_self,by omega⟩
theorem blen_le {x k:Nat} (h:x<2^k):blen x≤k:=by
 by_cases h0:x=0
 ·subst h0;unfold blen;simp
 ·obtain ⟨h1,_,h3⟩:=blen_ge h0
  have h2:2^(blen x-1)<2^k:=by omega
  have:=(Nat.pow_lt_pow_iff_right (by omega)).1 h2
  omega
theorem blen_div {x:Nat} (n:Nat) (h:2^n≤x):blen (x/2^n)+n=blen x:=by
 have hp:=Nat.two_pow_pos n
 have hx:x≠0:=by omega
 have hq:x/2^n≠0:=by have:=Nat.div_pos h hp;omega
 unfold blen
 rw[if_neg hx,if_neg hq]
 have:(x/2^n).log2+n=x.log2:=by
  symm
  rw[Nat.log2_eq_iff hx]
  have h1:=Nat.log2_self_le hq
  have h2:x/2^n<2^((x/2^n).log2+1):=Nat.lt_log2_self
  rw[Nat.le_div_iff_mul_le hp,←Nat.pow_add]at h1
  rw[Nat.div_lt_iff_lt_mul hp,←Nat.pow_add]at h2
  exact ⟨h1,by rw[show (x/2^n).log2+n+1=(x/2^n).log2+1+n by omega];exact h2⟩
 omega
theorem lz_top {x:Nat} (h0:x≠0) (hx:x<4294967296):blen x≤32∧1≤blen x∧2147483648≤x*2^(32-blen x)∧x*2^(32-blen x)<4294967296:=by
 obtain ⟨h1,h2,h3⟩:=blen_ge h0
 have hk:blen x≤32:=blen_le (k:=32) hx
 refine ⟨hk,h3,?_,?_⟩
 ·have:=Nat.mul_le_mul_right (2^(32-blen x)) h1
  rw[←Nat.pow_add,show blen x-1+(32-blen x)=31 by omega]at this
  exact this
 ·have:=Nat.mul_lt_mul_of_pos_right h2 (Nat.two_pow_pos (32-blen x))
  rw[←Nat.pow_add,show blen x+(32-blen x)=32 by omega]at this
  exact this
end Go.Eng

namespace Go.Eng
open F
section
variable {K:AV→Prop} {a b s:Nat} {k':IntKind}
theorem OpP.sh4 (hs:s≤32) (hk:K (.int .u32 ((shLo a s:Nat):Int))):OpP .shl .u32 (a:Int) k' (s:Int) K:=by
 refine OpP.nshlv (show s≤IntKind.u32.bits from hs) ?_
 rw[wrap_u32,←shLo_def];exact hk
theorem OpP.sh8 (hs:s≤64) (h:a*2^s≤18446744073709551615) (hk:K (.int .u64 ((a*2^s:Nat):Int))):OpP .shl .u64 (a:Int) k' (s:Int) K:=by
 refine OpP.nshlv (show s≤IntKind.u64.bits from hs) ?_
 rw[IntWalk.u64_in _ (by omega)];exact hk
theorem OpP.or4 (n:Nat) (hx:a%2^n=0) (hy:b<2^n) (h:a+b≤4294967295) (hk:K (.int .u32 ((a+b:Nat):Int))):OpP .or .u32 (a:Int) .u32 (b:Int) K :=
 OpP.norv n hx hy (show a+b<4294967296 by omega) (IntWalk.u32_in _ (by omega)) hk
theorem OpP.or4r (n:Nat) (hx:b%2^n=0) (hy:a<2^n) (h:a+b≤4294967295) (hk:K (.int .u32 ((a+b:Nat):Int))):OpP .or .u32 (a:Int) .u32 (b:Int) K:=by
 have e:intBin .or .u32 (a:Int) .u32 (b:Int)=intBin .or .u32 (b:Int) .u32 (a:Int):=by
  simp only[intBin,if_true,BitVec.or_comm]
 rw[Nat.add_comm]at hk h
 obtain ⟨v,h1,h2⟩:=OpP.or4 (K:=K) n hx hy h hk
 exact ⟨v,by rw[e];exact h1,h2⟩
theorem OpP.sr4 (hs:s≤32) (hk:K (.int .u32 ((a/2^s:Nat):Int))):OpP .shr .u32 (a:Int) k' (s:Int) K:=OpP.nshrv (show s≤IntKind.u32.bits from hs) hk
theorem ConvP.hi {K:Int→Prop} (hk:K ((shHi a s:Nat):Int)) (h:shHi a s≤4294967295):ConvP .u32 ((a*2^s/4294967296:Nat):Int) K:=by
 rw[←shHi_def]
 exact ConvP.n32i h hk
end
attribute [local irreducible] AKM CmpP Req OpP UnP ConvP RdP LdR StR MkR LenP AppR AppN CpyR RowP SnR Bds SlS CallP CalP FinP pw LdM GetM SetM PutM MkM AppM SnM FlP CallR
set_option maxHeartbeats 1000000
variable {L:Lib}
def LiftIs (a:List Nat) (s:Nat) (o:List Nat):Prop:=Dig o∧(a.length≤o.length∧o.length≤a.length+1)∧(val a*2^s<4294967296^o.length→val o=val a*2^s)
theorem lift_end {a o:List Nat} {s lo:Nat} (hD:Dig o) (hl:o.length=a.length) (h:val (o.take a.length)+4294967296^a.length*lo=val (a.take a.length)*2^s):LiftIs a s o:=by
 refine ⟨hD,by omega,fun hlt => ?_⟩
 rw[val_take_all (by omega),val_take_all (Nat.le_refl _)]at h
 rw[hl]at hlt
 have:lo=0:=by
  rcases Nat.eq_zero_or_pos lo with h0|h0
  ·exact h0
  ·have:4294967296^a.length*1≤4294967296^a.length*lo:=Nat.mul_le_mul_left _ h0
   omega
 subst this
 omega
theorem lift_end2 {a o:List Nat} {s lo:Nat} (hD:Dig o) (hlo:lo<4294967296) (hl:o.length=a.length+1) (h:val (o.take a.length)+4294967296^a.length*lo=val (a.take a.length)*2^s):LiftIs a s (o.set a.length lo):=by
 refine ⟨hD.set _ hlo,by simp;omega,fun _ => ?_⟩
 have h1:=val_set_take (v:=lo) (show a.length<o.length by omega)
 rw[val_take_all (by simp;omega),h,val_take_all (Nat.le_refl _)]at h1
 exact h1
theorem ev_nat_lift (N:NatGLib L) (a:List Nat) (q:Bool) (s n:Nat) (hA:Dig a) (hs:s≤31) (hn:a.length≤n∧n≤a.length+1) (la:a.length≤1099511627776) : ∃ r,Ev L 71 [.sl q (a.map e32),.int .u64 (s:Int),.int .i64 (n:Int)] r ∧ ∃ o,LiftIs a s o∧o.length=n∧r = .sl false (o.map e32):=by
 refine Ev.xE N.nat_lift rfl rfl ?_
 (repeat' (refine AKM.x ?_;conv=>whnf))
 refine MkR.go (enc:=e32) 0 n rfl rfl (by omega) ?_
 (conv=>whnf)
 (repeat' (refine LenP.go ?_;conv=>whnf))
 refine AKM.loop3 (fun i _ _=>a.length-i) (fun (i:Nat) (o:List Nat) (lo:Nat)=>i≤a.length∧o.length=n∧Dig o∧lo<2^s∧val (o.take i)+4294967296^i*lo=val (a.take i)*2^s) (fun i o lo=>[(8,.int .u32 (lo:Int)),(15,.int .i64 i)]) (fun i o lo=>[(71012,71012,.rw 1 (o.map e32))]) [] [] 0 (List.replicate n 0) 0 (by (conv=>whnf);exact ⟨rfl,rfl,rfl⟩) ⟨by omega,by simp,dig_zeros _,Nat.two_pow_pos s,by simp [val]⟩ ?_
 intro i o lo ⟨p1,p2,p3,p4,p5⟩ ih
 have hps:=pow_s_le (s:=s) (by omega)
 by_cases hi:i<a.length
 ·obtain ⟨d,hd⟩ : ∃ d,a[i]? = some d:=⟨_,List.getElem?_eq_getElem hi⟩
  have hdb:=hA.at hd
  obtain ⟨f1,f2,f3,f4⟩:=sh_facts (s:=s) hdb (by omega)
  (repeat' (first|(refine CmpP.go (fun hc => ?_) (fun hc => ?_)<;>first|(exfalso;omega)|(conv=>whnf))|(refine RdP.at (by assumption) ?_ rfl ?_;omega;conv=>whnf)|(refine AKM.x ?_;conv=>whnf)))
  refine OpP.sh4 (by omega) ?_
  (conv=>whnf)
  skip
  refine OpP.or4 s f1 p4 (by omega) ?_
  (conv=>whnf)
  (repeat' (first|(refine Req.go ?_ ?_;omega;conv=>whnf)|fail))
  refine StR.dig (by omega) ?_
  (conv=>whnf)
  (repeat' (refine ConvP.u64 ?_ ?_;omega;conv=>whnf))
  refine OpP.sh8 (by omega) f4 ?_
  (conv=>whnf)
  (repeat' (first|(refine OpP.add ?_ ?_;omega;conv=>whnf)|(refine OpP.nshr32 ?_;conv=>whnf)|(refine ConvP.n32i ?_ ?_;omega;conv=>whnf)))
  rw[←shHi_def]
  refine AKM.back [] (by (conv=>whnf);exact ⟨rfl,rfl,rfl⟩) (ih (i+1) _ _ (by omega) ⟨by omega,by simpa using p2,p3.set _ (by omega),f2,?_⟩)
  rw[val_set_take (by omega),val_take_succ hd,Nat.pow_succ]
  exact lift_step p5
 ·obtain rfl:i=a.length:=by omega
  clear ih
  (repeat' (first|(refine CmpP.go (fun hc => ?_) (fun hc => ?_)<;>first|(exfalso;omega)|(conv=>whnf))|(refine Req.go ?_ ?_;omega;conv=>whnf)|(refine LenP.go ?_;conv=>whnf)|(refine AKM.x ?_;conv=>whnf)))
  ·refine StR.dig (by omega) ?_
   (conv=>whnf)
   skip
   refine ⟨_,?_,_,lift_end2 p3 (by omega) (by omega) p5,by simpa using p2,rfl⟩
   (conv=>whnf)
   refine SnR.all (enc:=e32) (fun _=>rfl) rfl (by simp [p2]) ?_
   (conv=>whnf)
   exact FinP.go rfl (by simp only[Clean,true_and];exact cl_dig _)
  ·refine ⟨_,?_,_,lift_end p3 (by omega) p5,p2,rfl⟩
   (conv=>whnf)
   refine SnR.all (enc:=e32) (fun _=>rfl) rfl (by simp [p2]) ?_
   (conv=>whnf)
   exact FinP.go rfl (by simp only[Clean,true_and];exact cl_dig _)
theorem ev_nat_lower (N:NatGLib L) (a:List Nat) (q:Bool) (s:Nat) (hA:Dig a) (hs:s≤31) (la:a.length≤1099511627776) : ∃ r,Ev L 72 [.sl q (a.map e32),.int .u64 (s:Int)] r ∧ ∃ o,Dig o∧o.length=a.length∧val o=val a/2^s∧r = .sl false (o.map e32):=by
 refine Ev.xE N.nat_lower rfl rfl ?_
 (repeat' (first|(refine LenP.go ?_;conv=>whnf)|(refine AKM.x ?_;conv=>whnf)))
 refine MkR.go (enc:=e32) 0 a.length rfl rfl (by omega) ?_
 (conv=>whnf)
 (repeat' (first|(refine OpP.sub ?_ ?_;omega;conv=>whnf)|(refine LenP.go ?_;conv=>whnf)))
 refine AKM.loop3 (fun n _ _=>n) (fun (n:Nat) (o:List Nat) (hi:Nat)=>n≤a.length∧o.length=a.length∧Dig o∧hi=val (a.drop n)%2^s*2^(32-s)∧val (o.drop n)=val (a.drop n)/2^s) (fun n o hi=>[(6,.int .u32 (hi:Int)),(7,.int .i64 ((n:Int)-1))]) (fun n o hi=>[(10,10,.rw 1 (o.map e32))]) [] [] a.length (List.replicate a.length 0) 0 (by (conv=>whnf);exact ⟨rfl,rfl,rfl⟩) ⟨by omega,by simp,dig_zeros _,by rw[List.drop_of_length_le (Nat.le_refl _)];simp [val],by rw[List.drop_of_length_le (Nat.le_refl _),List.drop_of_length_le (by simp)];simp [val]⟩ ?_
 intro n o hi ⟨p1,p2,p3,p4,p5⟩ ih
 rcases n with _|n
 ·(repeat' (first|(refine CmpP.go (fun hc => ?_) (fun hc => ?_)<;>first|(exfalso;omega)|(conv=>whnf))|(refine AKM.x ?_;conv=>whnf)))
  rw[List.drop_zero,List.drop_zero]at p5
  refine ⟨_,?_,_,p3,p2,p5,rfl⟩
  (conv=>whnf)
  refine SnR.all (enc:=e32) (fun _=>rfl) rfl p2.symm ?_
  (conv=>whnf)
  exact FinP.go rfl (by simp only[Clean,true_and];exact cl_dig _)
 ·have e1:((n+1:Nat):Int)-1=n:=by omega
  rw[e1]
  obtain ⟨d,hd⟩ : ∃ d,a[n]? = some d:=⟨_,List.getElem?_eq_getElem (by omega)⟩
  have hdb:=hA.at hd
  obtain ⟨f1,f2,f3⟩:=lower_facts (V:=val (a.drop (n+1))) hdb (show s≤32 by omega)
  obtain ⟨g1,g2,g3,g4⟩:=sh_facts hdb (show 32-s≤32 by omega)
  rw[←p4]at f2 f3
  (repeat' (first|(refine CmpP.go (fun hc => ?_) (fun hc => ?_)<;>first|(exfalso;omega)|(conv=>whnf))|(refine RdP.at (by assumption) ?_ rfl ?_;omega;conv=>whnf)|(refine AKM.x ?_;conv=>whnf)))
  refine OpP.sr4 (by omega) ?_
  (conv=>whnf)
  skip
  refine OpP.or4r (32-s) f2 f1 (by omega) ?_
  (conv=>whnf)
  (repeat' (first|(refine Req.go ?_ ?_;omega;conv=>whnf)|fail))
  refine StR.dig (by omega) ?_
  (conv=>whnf)
  (repeat' (first|(refine OpP.nsubw ?_ ?_;omega;conv=>whnf)|(refine ConvP.u64 ?_ ?_;omega;conv=>whnf)|(refine RdP.at (by assumption) ?_ rfl ?_;omega;conv=>whnf)))
  rw[show w64s 32 s=32-s by rw[w64s_def];omega]
  refine OpP.sh8 (by omega) g4 ?_
  (conv=>whnf)
  (repeat' (first|(refine OpP.sub ?_ ?_;omega;conv=>whnf)|(refine ConvP.n32 ?_;conv=>whnf)))
  rw[lower_high (by omega)]
  refine AKM.back [] (by (conv=>whnf);exact ⟨rfl,rfl,rfl⟩) (ih n _ _ (by omega) ⟨by omega,by simpa using p2,p3.set _ (by omega),?_,?_⟩)
  ·rw[val_getD_drop hd,lower_mod (by omega)]
  ·rw[val_getD_drop (l:=o.set n (d/2^s+hi)) (d:=d/2^s+hi) (by rw[List.getElem?_set_self (by omega)]),List.drop_set_of_lt (by omega),p5,val_getD_drop hd,lower_step (by omega),←p4]
theorem len_tab : ∀ n<256,(List.replicate 1 0++List.replicate 1 1++List.replicate 2 2++List.replicate 4 3++List.replicate 8 4++List.replicate 16 5++List.replicate 32 6++List.replicate 64 7++List.replicate 128 8)[n]? = some (blen n):=by decide +kernel
theorem ev_Len32 (N:NatGLib L) (x:Nat) (hx:x<4294967296):Ev L 63 [.int .u32 (x:Int)] (.int .i64 (blen x:Int)):=by
 have hbl : ∀ y<256,blen y≤8:=fun y h=>blen_le (k:=8) h
 refine Ev.x N.math_bits_Len32 rfl rfl ?_
 (repeat' (first|(refine CmpP.go (fun hc => ?_) (fun hc => ?_)<;>first|(exfalso;omega)|(conv=>whnf))|(refine OpP.add ?_ ?_;omega;conv=>whnf)|(refine OpP.nshr16 ?_;conv=>whnf)|(refine OpP.nshr8 ?_;conv=>whnf)|(refine ConvP.n8 ?_ ?_;omega;conv=>whnf)|(refine AKM.x ?_;conv=>whnf)))
 ·have hb8:=hbl (x/65536/256) (by omega)
  refine TbP.go (len_tab _ (by omega)) ?_
  (conv=>whnf)
  (repeat' (first|(refine OpP.add ?_ ?_;omega;conv=>whnf)|(refine ConvP.i64 ?_ ?_;omega;conv=>whnf)))
  have h1:blen (x/65536)+16=blen x:=blen_div 16 (x:=x) (by omega)
  have h2:blen (x/65536/256)+8=blen (x/65536):=blen_div 8 (x:=x/65536) (by omega)
  refine FinP.i ?_
  rw[←h1,←h2]
  omega
 ·have hb8:=hbl (x/65536) (by omega)
  refine TbP.go (len_tab _ (by omega)) ?_
  (conv=>whnf)
  (repeat' (first|(refine OpP.add ?_ ?_;omega;conv=>whnf)|(refine ConvP.i64 ?_ ?_;omega;conv=>whnf)))
  have h1:blen (x/65536)+16=blen x:=blen_div 16 (x:=x) (by omega)
  refine FinP.i ?_
  rw[←h1]
  omega
 ·have hb8:=hbl (x/256) (by omega)
  refine TbP.go (len_tab _ (by omega)) ?_
  (conv=>whnf)
  (repeat' (first|(refine OpP.add ?_ ?_;omega;conv=>whnf)|(refine ConvP.i64 ?_ ?_;omega;conv=>whnf)))
  have h2:blen (x/256)+8=blen x:=blen_div 8 (x:=x) (by omega)
  refine FinP.i ?_
  rw[←h2]
  omega
 ·have hb8:=hbl (x) (by omega)
  refine TbP.go (len_tab _ (by omega)) ?_
  (conv=>whnf)
  (repeat' (first|(refine OpP.add ?_ ?_;omega;conv=>whnf)|(refine ConvP.i64 ?_ ?_;omega;conv=>whnf)))
  refine FinP.i ?_
  omega
theorem ev_LZ32 (N:NatGLib L) (x:Nat) (hx:x<4294967296):Ev L 64 [.int .u32 (x:Int)] (.int .i64 ((32-blen x:Nat):Int)):=by
 have h:=blen_le (k:=32) hx
 refine Ev.x N.math_bits_LeadingZeros32 rfl rfl ?_
 (repeat' (first|(refine OpP.sub ?_ ?_;omega;conv=>whnf)|(refine AKM.x ?_;conv=>whnf)|(refine CallP.go (ev_Len32 N x hx) ?_;conv=>whnf)))
 refine FinP.i ?_
 omega
end Go.Eng

namespace Go.Eng
open F
theorem evI_ro {L:Lib} {f:Nat} {fn:AFn} {vs:List AV} {own own':Own} {r:AV} (hL:L f=some fn) (hro:cRo fn.body=true) (h:EvI L f vs own r own'):own'=own:=by
 obtain ⟨n,h⟩:=h
 cases n with
 | zero=>simp [evI]at h
 | succ n =>
  rw[evI_succ]at h
  simp only[hL]at h
  split at h
  ·split at h
   ·rename_i st hst
    split at h
    ·simp only[Option.some.injEq,Prod.mk.injEq]at h
     rw[←h.2]
     exact run_ro n (by simp [iRo,hro]) hst
    ·cases h
   ·cases h
  ·cases h
attribute [local irreducible] AKM CmpP Req OpP UnP ConvP RdP LdR StR MkR LenP AppR AppN CpyR RowP SnR Bds SlS CallP CalP FinP pw LdM GetM SetM PutM MkM AppM SnM FlP CallR
set_option maxHeartbeats 1000000
variable {L:Lib}
theorem cut_walk (N:NatGLib L) (l:List Nat) (s:Nat) (hD:Dig l) (hl:l.length≤1099511627776):CalP L 65 [.row 5 0 1 0 l.length] [(0,.row 5 0 1 0 l.length)] [(5,s,.rw 1 (l.map e32))] (fun r _=>r = .row 5 0 1 0 (dg (val l)).length):=by
 have hlen : ∀ n,n≤l.length→l.take n=dg (val l)→n=(dg (val l)).length:=fun n h1 h2=>by
  rw[←h2,List.length_take];omega
 refine CalP.walk 1000 N.nat_cut rfl rfl ?_
 (repeat' (refine AKM.x ?_;conv=>whnf))
 refine AKM.loop1 (fun n=>n) (fun (n:Nat)=>n≤l.length ∧ ∀ i,n≤i→i<l.length→l[i]? = some 0) (fun n=>[(3,.int .i64 n)]) (fun _=>[]) [] [] l.length (by (conv=>whnf);exact ⟨rfl,rfl,rfl⟩) ⟨Nat.le_refl _,fun i h1 h2=>by omega⟩ ?_
 intro n ⟨p1,p2⟩ ih
 rcases n with _|n
 ·(repeat' (first|(refine CmpP.go (fun hc => ?_) (fun hc => ?_)<;>first|(exfalso;omega)|(conv=>whnf))|(refine AKM.x ?_;conv=>whnf)))
  refine Bds.up 0 (by omega) (by omega) ?_
  (conv=>whnf)
  refine ⟨rfl,_,rfl,?_⟩
  rw[←hlen 0 p1 (cut_found hD p1 p2 (Or.inl rfl))]
  rfl
 ·have e1:((n+1:Nat):Int)-1=n:=by omega
  (repeat' (first|(refine CmpP.go (fun hc => ?_) (fun hc => ?_)<;>first|(exfalso;omega)|(conv=>whnf))|(refine Req.go ?_ ?_;omega;conv=>whnf)|(refine OpP.sub ?_ ?_;omega;conv=>whnf)|(refine LdR.digi (by assumption) ?_ (fun v hv hb => ?_);omega;conv=>whnf)|(refine AKM.x ?_;conv=>whnf)))
  ·rw[e1]
   exact AKM.back [] (by (conv=>whnf);exact ⟨rfl,rfl,rfl⟩) (ih n (by omega) ⟨by omega,fun i h1 h2=>by
    by_cases h:i=n
    ·subst h
     rw[e1,Int.toNat_natCast]at hv
     rw[hv];congr 1;omega
    ·exact p2 i (by omega) h2⟩)
  ·refine Bds.up (n+1) (by omega) (by omega) ?_
   (conv=>whnf)
   refine ⟨rfl,_,rfl,?_⟩
   rw[e1,Int.toNat_natCast]at hv
   rw[←hlen (n+1) p1 (cut_found hD p1 p2 (Or.inr ⟨_,hv,by omega⟩))]
   rfl
theorem cut_evI (N:NatGLib L) (l:List Nat) (s t:Nat) (own:Own) (hD:Dig l) (hl:l.length≤1099511627776) (hb:(own s).blk t=some ⟨1,l.map e32⟩) (ht:t<(own s).cnt):EvI L 65 [.row s t 1 0 l.length] own (.row s t 1 0 (dg (val l)).length) own:=by
 have hs:Sat (fun _ _=>(s,t)) own [(5,s,.rw 1 (l.map e32))]:=by
  have key : ∀ k u c,mref [(5,s,Cel.rw 1 (l.map e32))] k u=some c→k=5∧u=0∧c = .rw 1 (l.map e32):=fun k u c e=>by
   simp only[mref,mget]at e
   cases hk:Nat.beq k 5<;>simp only[hk,cond_true,cond_false]at e
   ·cases e
   ·cases u with
    | zero=>simp only[Option.some.injEq]at e;exact ⟨Nat.eq_of_beq_eq_true hk,rfl,e.symm⟩
    | succ u=>cases e
  refine ⟨fun k s' c e => ?_,fun k u c e => ?_,fun k u c e=>ht,fun k u k' u' c c' e e' _ => ?_⟩
  ·simp only[mget]at e
   cases hk:Nat.beq k 5<;>simp only[hk,cond_true,cond_false]at e
   ·cases e
   ·simp only[Option.some.injEq,Prod.mk.injEq]at e;exact e.1
  ·obtain ⟨_,_,rfl⟩:=key k u c e
   exact hb
  ·obtain ⟨rfl,rfl,_⟩:=key k u c e
   obtain ⟨rfl,rfl,_⟩:=key k' u' c' e'
   exact ⟨rfl,rfl⟩
 have hw:=cut_walk N l s hD hl
 unfold CalP at hw
 obtain ⟨r,own',σ',M',h1,h2,h3,rfl⟩:=hw _ own hs
 have ho:=evI_ro N.nat_cut (by decide +kernel) h1
 subst ho
 have h4:AV.row (σ' 5 0).1 (σ' 5 0).2 1 0 l.length=AV.row s t 1 0 l.length:=h3 0
 simp only[AV.row.injEq]at h4
 have h5:EvI L 65 [.row s t 1 0 l.length] own' (.row (σ' 5 0).1 (σ' 5 0).2 1 0 (dg (val l)).length) own':=h1
 rw[h4.1,h4.2.1]at h5
 exact h5
theorem CalP.cutR (N:NatGLib L) {l:List Nat} {tm:Tm} {M:Mem} {K:AV→Mem→Prop} {key s len:Nat} (hD:Dig l) (hl:l.length≤1099511627776) (hm:mget M key=some (s,.rw 1 (l.map e32))) (hlen:len=l.length) (hk:K (.row key 0 1 0 (dg (val l)).length) M):CalP L 65 [.row key 0 1 0 len] tm M K:=by
 subst hlen
 unfold CalP
 intro σ own hs
 have hsite:=hs.site _ _ _ hm
 have href:mref M key 0=some (.rw 1 (l.map e32)):=by simp only[mref,hm]
 have hb:=hs.blk _ _ _ href
 have ht:=hs.old _ _ _ href
 refine ⟨.row key 0 1 0 (dg (val l)).length,own,σ,M,?_,hs,fun _=>rfl,hk⟩
 exact cut_evI N l (σ key 0).1 (σ key 0).2 own hD hl hb ht
end Go.Eng

namespace Go.Eng
theorem win_get {A w C:List Nat} {i n:Nat} (hi:i=A.length+n) (hn:n<w.length):(A++w++C)[i]? = w[n]? := by
 subst hi
 rw[List.append_assoc,List.getElem?_append_right (by omega),Nat.add_sub_cancel_left,List.getElem?_append_left hn]
theorem win_set {A w C:List Nat} {i n v:Nat} (hi:i=A.length+n) (hn:n<w.length):(A++w++C).set i v=A++w.set n v++C:=by
 subst hi
 rw[List.append_assoc,List.set_append_right _ _ (by omega),Nat.add_sub_cancel_left,List.set_append_left _ _ hn,List.append_assoc]
theorem LdR.win {A w C:List Nat} {i:Nat} {K:List AV→Prop} (n:Nat) (hi:i=A.length+n) (hD:Dig w) (hn:n<w.length) (h : ∀ e,w[n]? = some e→e<4294967296→K (e32 e)):LdR ((A++w++C).map e32) i 0 1 K:=by
 obtain ⟨e,he⟩ : ∃ e,w[n]? = some e:=⟨_,List.getElem?_eq_getElem hn⟩
 refine LdR.at (e:=e) (by rw[win_get hi hn];exact he) rfl (h e he (hD.at he))
theorem StR.win {A w C:List Nat} {i v:Nat} {KK:List (List AV)→Prop} (n:Nat) (hi:i=A.length+n) (hn:n<w.length) (h:KK ((A++w.set n v++C).map e32)):StR ((A++w++C).map e32) i 0 [.int .u32 (v:Int)] KK:=by
 have hl:i<(A++w++C).length:=by simp;omega
 refine StR.at (enc:=e32) i v rfl rfl (fun _=>rfl) hl ?_
 rw[win_set hi hn]
 exact h
theorem ms_step {W X Vi p q u d c b pr t:Nat} (h:W+q*Vi=X+p*(c+b)) (hpr:pr=q*d+c) (ht:t=w64s (w64s u (pr%4294967296)) b) (hu:u<4294967296) (hb:b≤1) :
  W+p*(t%4294967296)+q*(Vi+p*d)=X+p*u+p*4294967296*(pr/4294967296+t/9223372036854775808):=by
 obtain ⟨h1,_⟩:=sub_step hu (show pr%4294967296<4294967296 by omega) hb
 rw[←ht]at h1
 have h2:=Nat.mod_add_div pr 4294967296
 generalize t%4294967296=w at *
 generalize t/9223372036854775808=b' at *
 generalize pr%4294967296=pl at *
 generalize pr/4294967296=ph at *
 have e1:p*(w+pl+b)=p*(u+4294967296*b'):=by rw[h1]
 have e2:p*(pl+4294967296*ph)=p*(q*d+c):=by rw[h2,hpr]
 grind
theorem ms_carry {q d c pr:Nat} (hq:q<4294967296) (hd:d<4294967296) (hc:c<4294967296) (hpr:pr=q*d+c):pr/4294967296<4294967296∧pr≤18446744073709551615∧q*d≤18446744065119617025:=by
 have:=mul_le_dig hq hd
 omega
theorem ms_last {W X V p q u c b t:Nat} (h:W+q*V=X+p*(c+b)) (ht:t=w64s (w64s u c) b) (hu:u<4294967296) (hc:c<4294967296) (hb:b≤1) :
  W+p*(t%4294967296)+q*V=X+p*u+p*4294967296*(t/9223372036854775808):=by
 obtain ⟨h1,_⟩:=sub_step hu hc hb
 rw[←ht]at h1
 generalize t%4294967296=w at *
 generalize t/9223372036854775808=b' at *
 have e1:p*(w+c+b)=p*(u+4294967296*b'):=by rw[h1]
 grind
theorem ms_step2 {W X Vi p q u d c b pr w take have' bw':Nat} (h:W+q*Vi=X+p*(c+b)) (hpr:pr=c+q*d) (h1:take=pr%4294967296+b) (h2:(have'=u∧bw'=0∧take≤u)∨(have'=u+4294967296∧bw'=1∧u<take)) (h3:w+take=have') :
  W+p*w+q*(Vi+p*d)=X+p*u+p*4294967296*(pr/4294967296+bw'):=by
 have h4:=Nat.mod_add_div pr 4294967296
 have h5:w+pr%4294967296+b=u+4294967296*bw':=by omega
 generalize pr%4294967296=pl at *
 generalize pr/4294967296=ph at *
 have e1:p*(w+pl+b)=p*(u+4294967296*bw'):=by rw[h5]
 have e2:p*(pl+4294967296*ph)=p*(c+q*d):=by rw[h4,hpr]
 grind
theorem ms_last2 {W X V p q u c b w take have' bw':Nat} (h:W+q*V=X+p*(c+b)) (h1:take=c+b) (h2:(have'=u∧bw'=0∧take≤u)∨(have'=u+4294967296∧bw'=1∧u<take)) (h3:w+take=have') :
  W+p*w+q*V=X+p*u+p*4294967296*bw':=by
 have h5:w+c+b=u+4294967296*bw':=by omega
 have e1:p*(w+c+b)=p*(u+4294967296*bw'):=by rw[h5]
 grind
theorem ab_step {W X Vi p w d c t:Nat} (h:W+p*c=X+Vi) (ht:t=w+d+c):W+p*(t%4294967296)+p*4294967296*(t/4294967296)=X+p*w+(Vi+p*d):=by
 have h1:=carry_step W p t
 have e:p*t=p*w+p*d+p*c:=by rw[ht];grind
 omega
theorem ab_last {W X V R p w c:Nat} (h:W+p*c=X+V) (hX:X+p*w+V=R+p*4294967296) (hR:R<p*4294967296) (hW:W<p):W+p*((w+c)%4294967296)=R:=by
 have h1:W+p*(w+c)=R+p*4294967296:=by
  rw[Nat.mul_add];omega
 have h2:=Nat.mod_add_div (w+c) 4294967296
 have h3:p*(w+c)=p*((w+c)%4294967296)+p*4294967296*((w+c)/4294967296):=by
  rw[Nat.mul_assoc,←Nat.mul_add,h2]
 have h4:(w+c)%4294967296<4294967296:=Nat.mod_lt _ (by omega)
 generalize (w+c)%4294967296=m at *
 generalize (w+c)/4294967296=k at *
 have h5:W+p*m<p*4294967296:=by
  have:p*m+p≤p*4294967296:=by rw[←Nat.mul_succ];exact Nat.mul_le_mul_left p (by omega)
  omega
 have h6:k=1:=by
  rcases Nat.lt_trichotomy k 1 with hk|hk|hk
  ·have:k=0:=by omega
   subst this
   omega
  ·exact hk
  ·have:p*4294967296*2≤p*4294967296*k:=Nat.mul_le_mul_left _ (by omega)
   omega
 subst h6
 omega
theorem top_small {U V UL VL p u2 v2 v1 top:Nat} (hU:U=UL+p*(u2+4294967296*top)) (hV:V=VL+p*(v2+4294967296*v1)) (hVl:VL<p) (h2:v2<4294967296) (h:U<4294967296*V):top<4294967296*(v1+1):=by
 have h3:V<p*(4294967296*(v1+1)):=by
  have:p*(v2+4294967296*v1)+p≤p*(4294967296*(v1+1)):=by
   rw[←Nat.mul_succ];exact Nat.mul_le_mul_left p (by omega)
  omega
 have h4:p*(4294967296*top)≤U:=by
  have:p*(4294967296*top)≤p*(u2+4294967296*top):=Nat.mul_le_mul_left p (by omega)
  omega
 have h5:p*(4294967296*top)<p*(4294967296*(4294967296*(v1+1))):=by
  have:p*(4294967296*(4294967296*(v1+1)))=4294967296*(p*(4294967296*(v1+1))):=by grind
  omega
 have:=Nat.lt_of_mul_lt_mul_left h5
 omega
structure Gs (U V v1 v2 u2 top q r:Nat):Prop where
 hq:q*v1+r=top
 hr:r<4294967296
 ge:U/V≤q
theorem Gs.next {U V UL VL p v1 v2 u2 top q r:Nat} (g:Gs U V v1 v2 u2 top q r) (hU:U=UL+p*(u2+4294967296*top)) (hV:V=VL+p*(v2+4294967296*v1)) (hUl:UL<p) (hV0:0<V) (hUV:U<4294967296*V)
  (h:4294967296≤q∨r*4294967296+u2<q*v2):1≤q∧(q-1)*v1+(r+v1)=top∧U/V≤q-1:=by
 have h1:U/V<q:=by
  rcases h with h|h
  ·exact guess_big hUV h hV0
  ·exact guess_dec hU hV hUl g.hq h hV0
 have hq:=g.hq
 clear h g hU hV hUV
 generalize U/V=Q at *
 obtain ⟨k,rfl⟩ : ∃ k,q=k+1:=⟨q-1,by omega⟩
 refine ⟨by omega,?_,by omega⟩
 rw[Nat.add_sub_cancel,←hq,Nat.add_mul]
 omega
theorem Gs.start {U V UL VL p v1 v2 u2 top:Nat} (hU:U=UL+p*(u2+4294967296*top)) (hV:V=VL+p*(v2+4294967296*v1)) (hUl:UL<p) (h2:u2<4294967296) (hV0:0<V) (h1:0<v1) (h1b:v1<4294967296):Gs U V v1 v2 u2 top (top/v1) (top%v1):=by
 refine ⟨by rw[Nat.mul_comm];exact Nat.div_add_mod _ _,?_,?_⟩
 ·have:=Nat.mod_lt top h1
  omega
 ·rw[Nat.le_div_iff_mul_le h1]
  exact guess_top hU hV hUl h2 hV0
theorem guess_stop {U V UL VL p v1 v2 u2 top q r:Nat} (hU:U=UL+p*(u2+4294967296*top)) (hV:V=VL+p*(v2+4294967296*v1)) (hVl:VL<p) (hv1:2147483648≤v1) (hv2:v2<4294967296) (hUV:U<4294967296*V) (hq:q*v1+r=top)
  (h:(q<4294967296∧q*v2≤r*4294967296+u2)∨4294967296≤r):q<4294967296∧q≤U/V+1:=by
 rcases h with ⟨h1,h2⟩|h
 ·exact ⟨h1,guess_end hU hV hVl hv1 hq h2 h1⟩
 ·have ht:=top_small hU hV hVl hv2 hUV
  have hqb:q<4294967296:=by
   have h3:q*v1<4294967296*v1:=by omega
   exact Nat.lt_of_mul_lt_mul_right h3
  refine ⟨hqb,guess_end hU hV hVl hv1 hq ?_ hqb⟩
  have:=mul_le_dig hqb hv2
  omega
theorem val_splitD (a:List Nat) (k:Nat):val a=val (a.take k)+4294967296^k*val (a.drop k):=by
 rcases Nat.lt_or_ge a.length k with h|h
 ·rw[List.take_of_length_le (by omega),List.drop_of_length_le (by omega),val_nil];omega
 ·exact val_split a k h
theorem val_dropD (a:List Nat) (k:Nat):val (a.drop k)=a.getD k 0+4294967296*val (a.drop (k+1)):=by
 rcases Nat.lt_or_ge k a.length with h|h
 ·rw[val_getD_drop (List.getElem?_eq_getElem h),List.getD_eq_getElem?_getD,List.getElem?_eq_getElem h];rfl
 ·rw[List.drop_of_length_le h,List.drop_of_length_le (by omega),List.getD_eq_getElem?_getD,List.getElem?_eq_none h];rfl
theorem getD_lt {a:List Nat} (h:Dig a) (k:Nat):a.getD k 0<4294967296:=by
 rw[List.getD_eq_getElem?_getD]
 cases e:a[k]? with
 | none=>simp
 | some d=>simpa using h.at e
theorem getD_some {a:List Nat} {k d:Nat} (h:a[k]? = some d):d=a.getD k 0:=by rw[List.getD_eq_getElem?_getD,h];rfl
theorem getD_none {a:List Nat} {k:Nat} (h:a.length≤k):0=a.getD k 0:=by rw[List.getD_eq_getElem?_getD,List.getElem?_eq_none h];rfl
theorem val_top3 {a:List Nat} (hD:Dig a) {n:Nat} (hn:3≤n) (hl:a.length≤n) : ∃ r,r<4294967296^(n-3)∧val a=r+4294967296^(n-3)*(a.getD (n-3) 0+4294967296*(a.getD (n-2) 0+4294967296*a.getD (n-1) 0)):=by
 refine ⟨val (a.take (n-3)),?_,?_⟩
 ·refine Nat.lt_of_lt_of_le (val_lt (hD.take _)) (Nat.pow_le_pow_right (by omega) ?_)
  rw[List.length_take];omega
 ·have h1:=val_splitD a (n-3)
  have h2:=val_dropD a (n-3)
  have h3:=val_dropD a (n-3+1)
  have h4:=val_dropD a (n-3+1+1)
  rw[List.drop_of_length_le (show a.length≤n-3+1+1+1 by omega),val_nil]at h4
  rw[show n-3+1=n-2 by omega]at *
  rw[show n-2+1=n-1 by omega]at *
  rw[h4,Nat.mul_zero,Nat.add_zero]at h3
  rw[h3]at h2
  rw[h2]at h1
  exact h1
theorem val_top2 {a:List Nat} (hD:Dig a) {n:Nat} (hn:2≤n) (hl:a.length≤n) : ∃ r,r<4294967296^(n-2)∧val a=r+4294967296^(n-2)*(a.getD (n-2) 0+4294967296*a.getD (n-1) 0):=by
 refine ⟨val (a.take (n-2)),?_,?_⟩
 ·refine Nat.lt_of_lt_of_le (val_lt (hD.take _)) (Nat.pow_le_pow_right (by omega) ?_)
  rw[List.length_take];omega
 ·have h1:=val_splitD a (n-2)
  have h2:=val_dropD a (n-2)
  have h3:=val_dropD a (n-2+1)
  rw[List.drop_of_length_le (show a.length≤n-2+1+1 by omega),val_nil]at h3
  rw[show n-2+1=n-1 by omega]at *
  rw[h3,Nat.mul_zero,Nat.add_zero]at h2
  rw[h2]at h1
  exact h1
theorem dg_len_mono {a b:Nat} (h:a≤b):(dg a).length≤(dg b).length:=by
 rcases Nat.lt_or_ge (dg b).length (dg a).length with h1|h1
 ·have:=val_lt_of_len h1;omega
 ·exact h1
theorem dg2 {p:Nat} (h:p<18446744073709551616):val [p%4294967296,p/4294967296]=p∧Dig [p%4294967296,p/4294967296]:=by
 refine ⟨by simp [val];omega,fun x hx => ?_⟩
 simp at hx
 omega
theorem getD_is {a:List Nat} {k d:Nat} (h:a[k]? = some d):a.getD k 0=d:=(getD_some h).symm
theorem lift_norm {y:List Nat} {s yt:Nat} (hD:Dig y) (hyt:y[y.length-1]? = some yt) (hl:1≤y.length) (hs:s≤31) (b3:2147483648≤yt*2^s) (b4:yt*2^s<4294967296):val y*2^s<4294967296^y.length∧4294967296^(y.length-1)*2147483648≤val y*2^s:=by
 have h1:=val_split y (y.length-1) (by omega)
 have h2:=val_getD_drop hyt
 rw[List.drop_of_length_le (show y.length≤y.length-1+1 by omega),val_nil,Nat.mul_zero,Nat.add_zero]at h2
 rw[h2]at h1
 have h3:=val_lt (hD.take (y.length-1))
 rw[List.length_take,Nat.min_eq_left (by omega)]at h3
 have e:4294967296^y.length=4294967296^(y.length-1)*4294967296:=by rw[←Nat.pow_succ,Nat.succ_eq_add_one,show y.length-1+1=y.length by omega]
 rw[e]
 generalize 4294967296^(y.length-1)=p at *
 have hk:(yt+1)*2^s≤4294967296:=by
  have e2:4294967296=2^s*2^(32-s):=by rw[←Nat.pow_add,show s+(32-s)=32 by omega]
  rw[e2,Nat.mul_comm]at b4
  have:=Nat.lt_of_mul_lt_mul_left b4
  rw[e2,Nat.mul_comm]
  exact Nat.mul_le_mul_left _ this
 have h4:val y+1≤p*(yt+1):=by rw[Nat.mul_add];omega
 have h5:=Nat.mul_le_mul_right (2^s) h4
 have h6:p*((yt+1)*2^s)≤p*4294967296:=Nat.mul_le_mul_left p hk
 rw[←Nat.mul_assoc]at h6
 have h7:p*2147483648≤p*(yt*2^s):=Nat.mul_le_mul_left p b3
 have h8:p*(yt*2^s)≤val y*2^s:=by rw[←Nat.mul_assoc];exact Nat.mul_le_mul_right _ (by omega)
 have h9:=Nat.two_pow_pos s
 rw[Nat.add_mul]at h5
 exact ⟨by omega,by omega⟩
theorem top_ge {v:List Nat} {k c d:Nat} (hD:Dig v) (hl:v.length=k+1) (h:4294967296^k*c≤val v) (hd:v[k]? = some d):c≤d:=by
 have h1:=val_split v k (by omega)
 have h2:=val_getD_drop hd
 rw[List.drop_of_length_le (show v.length≤k+1 by omega),val_nil,Nat.mul_zero,Nat.add_zero]at h2
 rw[h2]at h1
 have h3:=val_lt (hD.take k)
 rw[List.length_take,Nat.min_eq_left (by omega)]at h3
 generalize 4294967296^k=p at *
 have h4:p*c<p*(d+1):=by rw[Nat.mul_add];omega
 have:=Nat.lt_of_mul_lt_mul_left h4
 omega
theorem dv_cut (o:List Nat) (j n:Nat) (h:j+n≤o.length) : ∃ A W C,A.length=j∧W.length=n∧o=A++W++C:=by
 refine ⟨o.take j,(o.drop j).take n,(o.drop j).drop n,by simp;omega,by simp;omega,?_⟩
 rw[List.append_assoc,List.take_append_drop,List.take_append_drop]
theorem dig_win {A W C:List Nat} (h:Dig (A++W++C)):Dig A∧Dig W∧Dig C:=by
 refine ⟨fun x hx=>h x (by simp [hx]),fun x hx=>h x (by simp [hx]),fun x hx=>h x (by simp [hx])⟩
theorem dv_pre {A W C:List Nat} {j l V:Nat} (hA:A.length=j) (hW:W.length=l+1) (hD:Dig (A++W++C)) (h:val ((A++W++C).drop (j+1))<V) (hV:V<4294967296^l) :
  val C=0∧val W<4294967296*V∧val ((A++W++C).take (j+1))+4294967296^(j+1)*val ((A++W++C).drop (j+1))=val A+4294967296^j*val W:=by
 have h1:=val_splitD (A++W++C) (j+1)
 have h2:val (A++W++C)=val A+4294967296^j*(val W+4294967296^(l+1)*val C):=by
  rw[List.append_assoc,val_append,val_append,hA,hW]
 have h3:=val_dropD (A++W++C) j
 have h4:(A++W++C).drop j=W++C:=by
  rw[List.append_assoc,List.drop_append_of_le_length (by omega),List.drop_of_length_le (by omega)];rfl
 have h5:=getD_lt hD j
 rw[h4,val_append,hW]at h3
 rw[Nat.pow_succ]at h3
 have h6:val C=0:=by
  rcases Nat.eq_zero_or_pos (val C) with h0|h0
  ·exact h0
  ·have:4294967296^l*4294967296*1≤4294967296^l*4294967296*val C:=Nat.mul_le_mul_left _ h0
   omega
 rw[h6,Nat.mul_zero,Nat.add_zero]at h3
 refine ⟨h6,by omega,?_⟩
 rw[←h1,h2,h6,Nat.mul_zero,Nat.add_zero]
theorem dv_post {A W C:List Nat} {j:Nat} (hA:A.length=j) (hC:val C=0):val ((A++W++C).drop j)=val W∧val ((A++W++C).take j)=val A:=by
 rw[List.append_assoc,List.drop_append_of_le_length (by omega),List.drop_of_length_le (by omega),List.take_append_of_le_length (by omega),List.take_of_length_le (by omega),List.nil_append,val_append,hC]
 simp
theorem dv_next {U VA P Q q V W R:Nat} (h:U=VA+P*W+P*4294967296*(Q*V)) (h2:W=q*V+R):U=VA+P*((q+4294967296*Q)*V+R):=by
 rw[h,h2];grind
section
variable {a b:Nat} {K:AV→Prop}
theorem OpP.nor8 (n:Nat) (hx:a%2^n=0) (hy:b<2^n) (h:a+b≤18446744073709551615) (hk:K (.int .u64 ((a+b:Nat):Int))):OpP .or .u64 (a:Int) .u64 (b:Int) K :=
 OpP.norv n hx hy (show a+b<18446744073709551616 by omega) (IntWalk.u64_in _ (by omega)) hk
theorem OpP.nor8r (n:Nat) (hx:b%2^n=0) (hy:a<2^n) (h:a+b≤18446744073709551615) (hk:K (.int .u64 ((a+b:Nat):Int))):OpP .or .u64 (a:Int) .u64 (b:Int) K:=by
 have e:intBin .or .u64 (a:Int) .u64 (b:Int)=intBin .or .u64 (b:Int) .u64 (a:Int):=by
  simp only[intBin,if_true,BitVec.or_comm]
 rw[Nat.add_comm]at hk h
 have hh:=OpP.nor8 (K:=K) n hx hy h hk
 unfold OpP at hh ⊢
 rw[e]
 exact hh
end
theorem OpP.naddB {a:Nat} {K:AV→Prop} (h:a≤18446744069414584319) (hk:K (.int .u64 ((a+4294967296:Nat):Int))):OpP .add .u64 (a:Int) .u64 4294967296 K :=
 OpP.nadd (b:=4294967296) (by omega) hk
theorem LdR.dat {l:List Nat} {i e:Nat} {K:List AV→Prop} (he:l[i]? = some e) (h:K (e32 e)):LdR (l.map e32) (0+((i:Int)).toNat) 0 1 K :=
 LdR.at (e:=e) (by rw[Nat.zero_add,Int.toNat_natCast];exact he) rfl h
theorem LdR.dai {l:List Nat} {i:Int} {e:Nat} {K:List AV→Prop} (he:l[i.toNat]? = some e) (h:K (e32 e)):LdR (l.map e32) (0+i.toNat) 0 1 K :=
 LdR.at (e:=e) (by rw[Nat.zero_add];exact he) rfl h
theorem LdR.winat {A w C:List Nat} {i e:Nat} {K:List AV→Prop} (n:Nat) (he:w[n]? = some e) (hi:i=A.length+n) (h:K (e32 e)):LdR ((A++w++C).map e32) i 0 1 K:=by
 have hn:=(List.getElem?_eq_some_iff.1 he).1
 exact LdR.at (e:=e) (by rw[win_get hi hn];exact he) rfl h
end Go.Eng
