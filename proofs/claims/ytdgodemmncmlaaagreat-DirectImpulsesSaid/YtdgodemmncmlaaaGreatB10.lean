/-
  Words and numbers made of numbers (package world).
-/
import Derived.Test.YtdgodemmncmlaaaGreatB9
import Derived.Test.YtdgodemmncmlaaaGreatB3
import Derived.Test.YtdgodemmncmlaaaGreatB8
import Derived.Test.YtdgodemmncmlaaaGreatB4
import Derived.Test.YtdgodemmncmlaaaGreatB7
import Derived.Test.YtdgodemmncmlaaaGreatB1
set_option linter.unusedSimpArgs false
set_option linter.unusedVariables false
set_option linter.unnecessarySimpa false
namespace Go.Eng
open F
attribute [local irreducible] AKM CmpP Req OpP UnP ConvP RdP LdR StR MkR LenP AppR AppN CpyR RowP SnR Bds SlS CallP CalP FinP pw LdM GetM SetM PutM MkM AppM SnM FlP CallR
set_option maxHeartbeats 1000000
variable {L:Lib}
theorem wrap_InI (n:Int):InI (IntKind.i64.wrap n):=by
 unfold InI
 rw[IntKind.wrap_i64]
 omega
def withS (v m:Int):Int:=if m<1 then 0 else v%m
theorem ev_world_Within (W:WorldLib L) (v m:Int) (hv:InI v) (hm:m≤9223372036854775807):Ev L 34 [.int .i64 v,.int .i64 m] (.int .i64 (withS v m)):=by
 unfold InI at hv
 refine Ev.x W.world_Within rfl rfl ?_
 (repeat' (first|(refine CmpP.go (fun hc => ?_) (fun hc => ?_)<;>first|(exfalso;omega)|(conv=>whnf))|(refine OpP.add ?_ ?_;omega;conv=>whnf)|(refine OpP.rem ?_ (fun _ _ _ => ?_) (fun _ _ _ _ => ?_);omega;all_goals first|(exfalso;omega)|(conv=>whnf))|(refine AKM.x ?_;conv=>whnf)))
 all_goals (refine FinP.i ?_;unfold withS;first|rw[if_pos (by omega)]|rw[if_neg (by omega)])
 all_goals omega
def atS (l:List Int) (i:Int):Int:=if 0≤i∧i<l.length then l.getD i.toNat 0 else 0
theorem ev_world_At (W:WorldLib L) (l:List Int) (q:Bool) (i:Int):Ev L 35 [.sl q (l.map encInt),.int .i64 i] (.int .i64 (atS l i)):=by
 refine Ev.x W.world_At rfl rfl ?_
 (repeat' (first|(refine CmpP.go (fun hc => ?_) (fun hc => ?_)<;>first|(exfalso;omega)|(conv=>whnf))|(refine LenP.go ?_;conv=>whnf)|(refine RdP.go ?_ (fun _=>rfl) (fun e he => ?_);omega;conv=>whnf)|(refine AKM.x ?_;conv=>whnf)))
 all_goals (refine FinP.i ?_;unfold atS;first|rw[if_neg (by omega)]|(rw[if_pos (by omega),List.getD_eq_getElem?_getD,he];rfl))
theorem with_range {v m:Int} (h:1≤m):0≤withS v m∧withS v m<m:=by
 unfold withS
 rw[if_neg (by omega)]
 exact ⟨Int.emod_nonneg _ (by omega),Int.emod_lt_of_pos _ (by omega)⟩
def wordS (k least most above:Int):Wd :=
 let K:=withS k 1099511627776
 let b:=least+K%(most-least+1)
 let K1:=K/(most-least+1)
 ⟨b,max (b-1-above-K1%2) 0,1+K1/2%3,1+K1/2/3%2⟩
theorem ev_world_Word (W:WorldLib L) (k least most above:Int) (hk:InI k) (h1:1≤least∧least≤most∧most≤1000∧0≤above∧above≤1000):Ev L 36 [.int .i64 k,.int .i64 least,.int .i64 most,.int .i64 above] (.agg (encW (wordS k least most above))):=by
 refine Ev.x W.world_Word rfl rfl ?_
 have hr:=with_range (v:=k) (m:=1099511627776) (by omega)
 have h3:0≤withS k 1099511627776/(most-least+1):=Int.ediv_nonneg hr.1 (by omega)
 have h4:withS k 1099511627776/(most-least+1)≤withS k 1099511627776:=Int.ediv_le_self _ hr.1
 (repeat' (first|(refine CmpP.go (fun hc => ?_) (fun hc => ?_)<;>first|(exfalso;omega)|(conv=>whnf))|(refine OpP.add ?_ ?_;omega;conv=>whnf)|(refine OpP.sub ?_ ?_;omega;conv=>whnf)|(refine OpP.rem ?_ (fun _ _ _ => ?_) (fun _ _ _ _ => ?_);omega;all_goals first|(exfalso;omega)|(conv=>whnf))|(refine OpP.quo ?_ ?_ (fun _ => ?_) (fun _ _ => ?_);omega;omega;all_goals first|(exfalso;omega)|(conv=>whnf))|(refine AKM.x ?_;conv=>whnf)|(refine CallP.go (ev_world_Within W _ _ hk (by omega)) ?_;conv=>whnf)))
 all_goals (
  refine FinP.go ?_ (by simp [Clean,CleanL])
  simp only[wordS,AV.agg.injEq,List.cons.injEq,AV.int.injEq,true_and,and_true]
  omega)
def dataS (k:Int):Wd:=wordS k 6 12 2
def coefS (k:Int):Wd:=wordS k 6 9 1
theorem word_ok {k least most above:Int} (h:4≤least∧least≤most∧most≤24∧0≤above):WV (wordS k least most above)∧least≤(wordS k least most above).b∧(wordS k least most above).b≤most:=by
 have hr:=with_range (v:=k) (m:=1099511627776) (by omega)
 have h1:0≤withS k 1099511627776%(most-least+1):=Int.emod_nonneg _ (by omega)
 have h2:withS k 1099511627776%(most-least+1)<most-least+1:=Int.emod_lt_of_pos _ (by omega)
 simp only[WV,wordS]
 generalize withS k 1099511627776/(most-least+1)=d
 omega
theorem data_ok (k:Int):WV (dataS k)∧6≤(dataS k).b∧(dataS k).b≤12:=word_ok (by omega)
theorem coef_ok (k:Int):WV (coefS k)∧6≤(coefS k).b∧(coefS k).b≤9:=word_ok (by omega)
theorem ev_world_Data (W:WorldLib L) (k:Int) (hk:InI k):Ev L 37 [.int .i64 k] (.agg (encW (dataS k))):=by
 refine Ev.x W.world_Data rfl rfl ?_
 (repeat' (first|(refine AKM.x ?_;conv=>whnf)|(refine CallP.go (ev_world_Word W _ _ _ _ hk (by omega)) ?_;conv=>whnf)))
 exact FinP.go rfl (by simp [Clean,CleanL])
theorem ev_world_Coef (W:WorldLib L) (k:Int) (hk:InI k):Ev L 38 [.int .i64 k] (.agg (encW (coefS k))):=by
 refine Ev.x W.world_Coef rfl rfl ?_
 (repeat' (first|(refine AKM.x ?_;conv=>whnf)|(refine CallP.go (ev_world_Word W _ _ _ _ hk (by omega)) ?_;conv=>whnf)))
 exact FinP.go rfl (by simp [Clean,CleanL])
theorem low_high {w:Wd} (h:WV w):lowS w = -pw (w.b-1)∧highS w=pw (w.b-1)-1∧1≤pw (w.b-1)∧pw (w.b-1)≤8388608:=by
 have h':=h
 unfold WV at h'
 refine ⟨by rw[lowS,if_pos h],by rw[highS,if_pos h],pw_pos _,?_⟩
 have:=pw_le (n:=w.b-1) (m:=23) (by omega)
 have e:pw 23=8388608:=by unfold pw;rfl
 omega
theorem range_snoc {α:Type} (f:Nat→α) (n:Nat):(List.range (n+1)).map f=(List.range n).map f++[f n]:=by rw[List.range_succ,List.map_append];rfl
def toB (b v:Int):Int:=withS (IntKind.i64.wrap (v+b)) (2*b+1)-b
def belowS (b:Int) (l:List Int) (n:Nat):List Int:=(List.range n).map fun i:Nat=>toB b (atS l (i:Int))
theorem ev_world_Below (W:WorldLib L) (b:Int) (hb:0≤b∧b≤1000000000000) (l:List Int) (q:Bool) (n:Nat) (hn:n≤1000000):Ev L 40 [.int .i64 b,.sl q (l.map encInt),.int .i64 n] (.sl false ((belowS b l n).map encInt)):=by
 refine Ev.x W.world_Below rfl rfl ?_
 (repeat' (refine AKM.x ?_;conv=>whnf))
 refine AKM.loop2 (fun i _=>n-i) (fun (i:Nat) (o:List Int)=>i≤n∧o.length=i∧o=belowS b l i) (fun i o=>[(7,.row 7 0 1 0 o.length),(8,.int .i64 i)]) (fun i o=>[(7,7,.rw 1 (o.map encInt))]) [] [] 0 [] (by (conv=>whnf);exact ⟨rfl,rfl,rfl⟩) ⟨by omega,rfl,rfl⟩ ?_
 intro i o ⟨p1,p2,p3⟩ ih
 have hr:=with_range (v:=IntKind.i64.wrap (atS l i+b)) (m:=2*b+1) (by omega)
 (repeat' (first|(refine CmpP.go (fun hc => ?_) (fun hc => ?_)<;>first|(exfalso;omega)|(conv=>whnf))|(refine OpP.add ?_ ?_;omega;conv=>whnf)|(refine OpP.sub ?_ ?_;omega;conv=>whnf)|(refine OpP.mul ?_ ?_;omega;conv=>whnf)|(refine OpP.wadd ?_;conv=>whnf)|(refine SnR.all (fun _=>rfl) rfl ?_ ?_;(first|rfl|simp);conv=>whnf)|(refine RowP.e1 ?_;conv=>whnf)|(refine AKM.x ?_;conv=>whnf)|(refine CallP.go (ev_world_At W l _ _) ?_;conv=>whnf)|(refine CallP.go (ev_world_Within W _ _ (wrap_InI _) (by omega)) ?_;conv=>whnf)))
 ·refine AppR.one (enc:=encInt) _ rfl rfl rfl (by omega) (by omega) ?_
  (conv=>whnf)
  (repeat' (refine OpP.add ?_ ?_;omega;conv=>whnf))
  refine AKM.back [(7,27)] (by (conv=>whnf);exact ⟨rfl,rfl,rfl⟩) (ih (i+1) _ (by omega) ⟨by omega,by simp [p2],?_⟩)
  rw[belowS,range_snoc,p3];rfl
 ·have:i=n:=by omega
  subst this
  exact FinP.go (by rw[p3]) (by simp [Clean,cl_ints])
end Go.Eng
namespace Go.Eng
open F
attribute [local irreducible] AKM CmpP Req OpP UnP ConvP RdP LdR StR MkR LenP AppR AppN CpyR RowP SnR Bds SlS CallP CalP FinP pw LdM GetM SetM PutM MkM AppM SnM FlP CallR
set_option maxHeartbeats 1000000
variable {L:Lib} (n:Nt)
def wordsB (w:Wd) (l:List Int):Bool:=l.all fun v=>decide (FT w v)
def wrongS (st ins:List Int):Int:=if (st.length:Int)≠n.s then 1 else if wordsB n.d st&&wordsB n.d ins then 0 else 17
theorem ev_network_wrong (I:FixedLib L) (J:NetLib L) (st ins:List Int) (q1 q2:Bool) (hn:st.length<9223372036854775808) (hm:ins.length<9223372036854775808):Ev L 22 [.agg (encN n),.sl q1 (st.map encInt),.sl q2 (ins.map encInt)] (.int .i64 (wrongS n st ins)):=by
 refine Ev.x J.network_wrong rfl rfl ?_
 (repeat' (first|(refine CmpP.go (fun hc => ?_) (fun hc => ?_)<;>first|(exfalso;omega)|(conv=>whnf))|(refine LenP.go ?_;conv=>whnf)|(refine AKM.x ?_;conv=>whnf)))
 ·exact FinP.i (by rw[wrongS,if_pos hc])
 have h0:=hc
 refine AKM.loop1 (fun i=>st.length-i) (fun (i:Nat)=>i≤st.length∧wordsB n.d (st.drop i)=wordsB n.d st) (fun i=>[(18,.int .i64 i)]) (fun _=>[]) [] [] 0 (by (conv=>whnf);exact ⟨rfl,rfl,rfl⟩) ⟨by omega,rfl⟩ ?_
 intro i ⟨p1,p2⟩ ih
 (repeat' (first|(refine CmpP.go (fun hc => ?_) (fun hc => ?_)<;>first|(exfalso;omega)|(conv=>whnf))|(refine OpP.add ?_ ?_;omega;conv=>whnf)|(refine LenP.go ?_;conv=>whnf)|(refine RdP.nat ?_ (fun _=>rfl) (fun e he => ?_);omega;conv=>whnf)|(refine AKM.x ?_;conv=>whnf)|(refine CallP.b (ev_fixed_Fits ⟨_,_,_,_⟩ I _) (fun hf => ?_) (fun hf => ?_)<;>(conv=>whnf))))
 ·rw[drop_cons he,wordsB,List.all_cons,decide_eq_true hf,Bool.true_and]at p2
  exact AKM.back [] (by (conv=>whnf);exact ⟨rfl,rfl,rfl⟩) (ih (i+1) (by omega) ⟨by omega,p2⟩)
 ·rw[drop_cons he,wordsB,List.all_cons,decide_eq_false hf,Bool.false_and]at p2
  exact FinP.i (by rw[wrongS,if_neg (by omega),←p2];simp)
 ·rw[drop_len (by omega)]at p2
  refine AKM.loop1 (fun i=>ins.length-i) (fun (i:Nat)=>i≤ins.length∧wordsB n.d (ins.drop i)=wordsB n.d ins) (fun i=>[(30,.int .i64 i)]) (fun _=>[]) [] [] 0 (by (conv=>whnf);exact ⟨rfl,rfl,rfl⟩) ⟨by omega,rfl⟩ ?_
  intro j ⟨r1,r2⟩ ih2
  (repeat' (first|(refine CmpP.go (fun hc => ?_) (fun hc => ?_)<;>first|(exfalso;omega)|(conv=>whnf))|(refine OpP.add ?_ ?_;omega;conv=>whnf)|(refine RdP.nat ?_ (fun _=>rfl) (fun e he => ?_);omega;conv=>whnf)|(refine AKM.x ?_;conv=>whnf)|(refine CallP.b (ev_fixed_Fits ⟨_,_,_,_⟩ I _) (fun hf => ?_) (fun hf => ?_)<;>(conv=>whnf))))
  ·rw[drop_cons he,wordsB,List.all_cons,decide_eq_true hf,Bool.true_and]at r2
   exact AKM.back [] (by (conv=>whnf);exact ⟨rfl,rfl,rfl⟩) (ih2 (j+1) (by omega) ⟨by omega,r2⟩)
  ·rw[drop_cons he,wordsB,List.all_cons,decide_eq_false hf,Bool.false_and]at r2
   exact FinP.i (by rw[wrongS,if_neg (by omega),←r2];simp)
  ·rw[drop_len (by omega)]at r2
   exact FinP.i (by rw[wrongS,if_neg (by omega),←r2,←p2];rfl)
def sumS (vals:List Int):Int→List (Int × Int)→Int
 | acc,[]=>acc
 | acc,t::ts=>sumS vals (IntKind.i64.wrap (acc+IntKind.i64.wrap (t.2*vals.getD t.1.toNat 0))) ts
theorem sumS_InI (vals:List Int) : ∀ (ts:List (Int × Int)) (acc:Int),InI acc→InI (sumS vals acc ts)
 | [],acc,h=>h
 | t::ts,acc,_=>sumS_InI vals ts _ (wrap_InI _)
def nodeS (vals:List Int) (nd:Nd):Int:=shiftS (sumS vals 0 nd.ts) n.c.f n.d.r
def compS:List Int→Bool→List Nd→List Int × Bool
 | vals,ov,[]=>(vals,ov)
 | vals,ov,nd::l=>compS (vals++[redS n.d (nodeS n vals nd)]) (ov || !decide (FT n.d (nodeS n vals nd))) l
theorem node_ok {vals:List Int} {i:Nat} {nd:Nd} (h:nd.ts.all (termB n.c n.s i)=true) (hl:(vals.length:Int)=1+n.s+i) : ∀ t∈nd.ts,0≤t.1∧t.1<vals.length:=fun t ht=>by
 have:=List.all_eq_true.1 h t ht
 simp only[termB,decide_eq_true_eq]at this
 omega
theorem ev_network_compute (I:FixedLib L) (J:NetLib L) (st:List Int) (q1:Bool) (input:Int) (hv:netB n=true) (hst:(st.length:Int)=n.s):Ev L 23 [.agg (encN n),.sl q1 (st.map encInt),.int .i64 input] (.tup [.sl false ((compS n (input::st) false n.nodes).1.map encInt),.bool (compS n (input::st) false n.nodes).2]):=by
 rw[netB_iff]at hv
 obtain ⟨h1,h2,h3,h4,h5,h6⟩:=hv
 refine Ev.x J.network_compute rfl rfl ?_
 (repeat' (first|(refine OpP.add ?_ ?_;omega;conv=>whnf)|(refine LenP.go ?_;conv=>whnf)|(refine AKM.x ?_;conv=>whnf)))
 refine MkR.go (enc:=encInt) 0 0 rfl rfl (by omega) ?_
 (conv=>whnf)
 (repeat' (refine RowP.e1 ?_;conv=>whnf))
 refine AppR.one (enc:=encInt) (l:=[]) input rfl rfl rfl (by simp) (by simp) ?_
 (conv=>whnf)
 refine AppR.many (enc:=encInt) rfl (fun _=>rfl) (by simp;omega) (by simp;omega) ?_
 (conv=>whnf)
 (repeat' (refine LenP.go ?_;conv=>whnf))
 refine AKM.loop3 (fun i _ _=>n.nodes.length-i) (fun (i:Nat) (vals:List Int) (ov:Bool)=>i≤n.nodes.length∧(vals.length:Int)=1+n.s+i∧nodesB n.c n.s i (n.nodes.drop i)=true∧compS n vals ov (n.nodes.drop i)=compS n (input::st) false n.nodes) (fun i vals ov=>[(8,.row 30 0 1 0 vals.length),(9,.bool ov),(34,.int .i64 i)]) (fun i vals ov=>[(30,23,.rw 1 (vals.map encInt))]) [] [] 0 (input::st) false (by (conv=>whnf);exact ⟨rfl,rfl,rfl⟩) ⟨by simp,by simp;omega,h4,rfl⟩ ?_
 intro i vals ov ⟨p1,p2,p3,p4⟩ ih
 (repeat' (first|(refine CmpP.go (fun hc => ?_) (fun hc => ?_)<;>first|(exfalso;omega)|(conv=>whnf))|(refine LenP.go ?_;conv=>whnf)|(refine RdP.nat ?_ (fun _=>rfl) (fun e he => ?_);omega;conv=>whnf)|(refine SnR.all (fun _=>rfl) rfl ?_ ?_;(first|rfl|simp);conv=>whnf)|(refine AKM.x ?_;conv=>whnf)))
 ·rename Nd=>nd
  have hnd:=he
  rw[drop_cons hnd]at p3 p4
  simp only[nodesB,Bool.and_eq_true,decide_eq_true_eq]at p3
  obtain ⟨⟨hnt,hts⟩,hvr⟩:=p3
  have hf:=node_ok n hts p2
  have hI:InI (sumS vals 0 nd.ts):=sumS_InI vals _ _ (by unfold InI;omega)
  refine AKM.loop2 (fun j _=>nd.ts.length-j) (fun (j:Nat) (acc:Int)=>j≤nd.ts.length∧sumS vals acc (nd.ts.drop j)=sumS vals 0 nd.ts) (fun j acc=>[(12,.int .i64 acc),(41,.int .i64 j)]) (fun _ _=>[]) [] [] 0 0 (by (conv=>whnf);exact ⟨rfl,rfl,rfl⟩) ⟨by simp,rfl⟩ ?_
  intro j acc ⟨r1,r2⟩ ih2
  (repeat' (first|(refine CmpP.go (fun hc => ?_) (fun hc => ?_)<;>first|(exfalso;omega)|(conv=>whnf))|(refine RdP.nat ?_ (fun _=>rfl) (fun e he => ?_);omega;conv=>whnf)|(refine AKM.x ?_;conv=>whnf)))
  ·have:=hf e (List.mem_of_getElem? he)
   (repeat' (first|(refine Req.go ?_ ?_;omega;conv=>whnf)|(refine OpP.add ?_ ?_;omega;conv=>whnf)|(refine OpP.wadd ?_;conv=>whnf)|(refine OpP.wmul ?_;conv=>whnf)|(refine LdR.int ?_ (fun _=>rfl) (fun v hv => ?_);omega;conv=>whnf)))
   rw[drop_cons he,sumS]at r2
   refine AKM.back [] (by (conv=>whnf);exact ⟨rfl,rfl,rfl⟩) (ih2 (j+1) _ (by omega) ⟨by omega,?_⟩)
   rw[←r2,List.getD_eq_getElem?_getD,hv];rfl
  ·rw[drop_len (by omega),sumS]at r2
   subst r2
   cases ov
   all_goals (repeat' (first|(refine RowP.e1 ?_;conv=>whnf)|(refine CallP.b (ev_fixed_Fits ⟨_,_,_,_⟩ I _) (fun hf => ?_) (fun hf => ?_)<;>(conv=>whnf))|(refine CallP.go (ev_fixed_Shift I _ _ _ hI) ?_;conv=>whnf)|(refine CallP.go (ev_fixed_Reduce ⟨_,_,_,_⟩ I _) ?_;conv=>whnf)))
   all_goals (
    refine AppR.one (enc:=encInt) _ rfl rfl rfl (by omega) (by omega) ?_
    (conv=>whnf)
    (repeat' (refine OpP.add ?_ ?_;omega;conv=>whnf))
    refine AKM.back [(30,78)] (by (conv=>whnf);exact ⟨rfl,rfl,rfl⟩) (ih (i+1) _ _ (by omega) ⟨by omega,by simp;omega,hvr,?_⟩)
    rw[←p4,compS]
    first|rfl|(have hf:FT n.d (nodeS n vals nd):=hf;rw[decide_eq_true hf];rfl)|(have hf : ¬ FT n.d (nodeS n vals nd):=hf;rw[decide_eq_false hf];rfl))
 ·rw[drop_len (by omega),compS]at p4
  rw[←p4]
  exact FinP.go rfl (by simp [Clean,CleanL,cl_ints])
theorem wrongS_len {st ins:List Int} (h:wrongS n st ins=0):(st.length:Int)=n.s:=by
 unfold wrongS at h
 split at h
 ·cases h
 ·omega
theorem fill_step {α:Type} {o F:List α} {i:Nat} {v:α} (hl:o.length=F.length) (h:o.take i=F.take i) (hv:F[i]? = some v):(o.set i v).length=F.length∧(o.set i v).take (i+1)=F.take (i+1):=by
 obtain ⟨hi,rfl⟩:=List.getElem?_eq_some_iff.1 hv
 refine ⟨by simp [hl],?_⟩
 rw[List.take_add_one,List.take_add_one,←h]
 congr 1
 ·rw[List.take_set_of_le (Nat.le_refl i)]
 ·rw[hv];simp [hl,hi]
theorem fill_done {α:Type} {o F:List α} {i:Nat} (hl:o.length=F.length) (h:o.take i=F.take i) (hi:F.length≤i):o=F:=by
 rwa [List.take_of_length_le (by omega),List.take_of_length_le hi]at h
def follS (vals:List Int):List Int:=n.next.map fun k=>vals.getD k.toNat 0
theorem ev_network_follow (J:NetLib L) (vals:List Int) (q:Bool) (hv:netB n=true) (hl:(vals.length:Int)=1+n.s+n.nodes.length):Ev L 25 [.agg (encN n),.sl q (vals.map encInt)] (.sl false ((follS n vals).map encInt)):=by
 rw[netB_iff]at hv
 obtain ⟨h1,h2,h3,h4,h5,h6⟩:=hv
 refine Ev.x J.network_follow rfl rfl ?_
 (repeat' (refine AKM.x ?_;conv=>whnf))
 refine MkR.got (enc:=encInt) 0 rfl (by omega) (by omega) ?_
 (conv=>whnf)
 (repeat' (refine LenP.go ?_;conv=>whnf))
 have hF:(follS n vals).length=n.next.length:=by simp [follS]
 refine AKM.loop2 (fun i _=>n.next.length-i) (fun (i:Nat) (o:List Int)=>i≤n.next.length∧o.length=(follS n vals).length∧o.take i=(follS n vals).take i) (fun i o=>[(5,.row 10 0 1 0 o.length),(14,.int .i64 i)]) (fun i o=>[(10,10,.rw 1 (o.map encInt))]) [] [] 0 (List.replicate n.s.toNat 0) (by rw[List.length_replicate];exact (by (conv=>whnf);exact ⟨rfl,rfl,rfl⟩)) ⟨by simp,by simp [hF];omega,by simp⟩ ?_
 intro i o ⟨p1,p2,p3⟩ ih
 (repeat' (first|(refine CmpP.go (fun hc => ?_) (fun hc => ?_)<;>first|(exfalso;omega)|(conv=>whnf))|(refine RdP.nat ?_ (fun _=>rfl) (fun e he => ?_);omega;conv=>whnf)|(refine SnR.all (fun _=>rfl) rfl ?_ ?_;(first|rfl|simp);conv=>whnf)|(refine AKM.x ?_;conv=>whnf)))
 ·have hb:=List.all_eq_true.1 h5 _ (List.mem_of_getElem? he)
  simp only[decide_eq_true_eq]at hb
  (repeat' (first|(refine Req.go ?_ ?_;omega;conv=>whnf)|(refine RdP.go ?_ (fun _=>rfl) (fun e he => ?_);omega;conv=>whnf)))
  rename_i kk hk
  have hF':(follS n vals)[i]? = some e:=by
   simp only[follS,List.getElem?_map,hk,Option.map_some,List.getD_eq_getElem?_getD,he,Option.getD_some]
  obtain ⟨f1,f2⟩:=fill_step p2 p3 hF'
  refine StR.nat (enc:=encInt) e rfl (fun _=>rfl) (by omega) ?_
  (conv=>whnf)
  (repeat' (refine OpP.add ?_ ?_;omega;conv=>whnf))
  exact AKM.back [] (by rw[List.length_set];exact (by (conv=>whnf);exact ⟨rfl,rfl,rfl⟩)) (ih (i+1) (o.set i e) (by omega) ⟨by omega,f1,f2⟩)
 ·exact FinP.go (by rw[fill_done p2 p3 (by omega)]) (by simp [Clean,cl_ints])
theorem comp_len : ∀ (l:List Nd) (vals:List Int) (ov:Bool),(compS n vals ov l).1.length=vals.length+l.length
 | [],vals,ov=>rfl
 | nd::l,vals,ov=>by rw[compS,comp_len l];simp;omega
theorem getD_of {l:List Int} {i:Nat} {e:Int} (h:l[i]? = some e):l.getD i 0=e:=by rw[List.getD_eq_getElem?_getD,h];rfl
end Go.Eng

namespace Go.Eng
open F
attribute [local irreducible] AKM CmpP Req OpP UnP ConvP RdP LdR StR MkR LenP AppR AppN CpyR RowP SnR Bds SlS CallP CalP FinP pw LdM GetM SetM PutM MkM AppM SnM FlP CallR
set_option maxHeartbeats 4000000
variable {L:Lib}
theorem ev_Sound (N:SysGLib L) (S:SysQ) (n k:Nat) (h:S.Ok n k) (hn:n≤64):Ev L 130 [.agg (eS S)] (.bool true):=by
 have h1:=h.la
 have h2:=h.lb
 have h3:=h.lc
 refine Ev.x N.network_Sound rfl rfl ?_
 (repeat' (first|(refine CmpP.go (fun hc => ?_) (fun hc => ?_)<;>first|(exfalso;omega)|(conv=>whnf))|(refine LenP.go ?_;conv=>whnf)|(refine AKM.x ?_;conv=>whnf)))
 refine AKM.loop1 (fun i=>S.a.length-i) (fun (i:Nat)=>i≤S.a.length) (fun i=>[(28,.int .i64 i)]) (fun _=>[]) [] [] 0 (by (conv=>whnf);exact ⟨rfl,rfl,rfl⟩) (by omega) ?_
 intro i p1 ih
 by_cases hi:i<S.a.length
 ·obtain ⟨r,hr⟩ : ∃ r,S.a[i]? = some r:=⟨_,List.getElem?_eq_getElem hi⟩
  have hr':S.a[(i:Int).toNat]? = some r:=hr
  have hrl:=h.lr r (List.mem_of_getElem? hr)
  (repeat' (first|(refine CmpP.go (fun hc => ?_) (fun hc => ?_)<;>first|(exfalso;omega)|(conv=>whnf))|(refine OpP.add ?_ ?_;omega;conv=>whnf)|(refine LenP.go ?_;conv=>whnf)|(refine RdP.at (by assumption) ?_ rfl ?_;omega;conv=>whnf)|(refine AKM.x ?_;conv=>whnf)))
  exact AKM.back [] (by (conv=>whnf);exact ⟨rfl,rfl,rfl⟩) (ih (i+1) (by omega) (by omega))
 ·obtain rfl:i=S.a.length:=by omega
  clear ih
  (repeat' (first|(refine CmpP.go (fun hc => ?_) (fun hc => ?_)<;>first|(exfalso;omega)|(conv=>whnf))|(refine AKM.x ?_;conv=>whnf)))
  exact FinP.b rfl
theorem ev_zeros (N:SysGLib L) (n:Nat) (hn:n≤65536):Ev L 131 [.int .i64 (n:Int)] (.sl false ((List.replicate n (0:Rat)).map eQ)):=by
 have hO:=ev_rational_Of N.toRatGLib 0 (by omega)
 refine Ev.x N.network_zeros rfl rfl ?_
 (repeat' (refine AKM.x ?_;conv=>whnf))
 refine MkR.go (enc:=eO) none n rfl rfl (by omega) ?_
 (conv=>whnf)
 skip
 refine AKM.loop1 (fun i=>n-i) (fun (i:Nat)=>i≤n) (fun i=>[(9,.int .i64 i)]) (fun i=>[(131006,131006,.rw 3 ((fillO (List.replicate i 0) n).map eO))]) [] [] 0 (by first|exact (by (conv=>whnf);exact ⟨rfl,rfl,rfl⟩)|(rw[←fillO_nil];exact (by (conv=>whnf);exact ⟨rfl,rfl,rfl⟩))) (by omega) ?_
 intro i p1 ih
 by_cases hi:i<n
 ·have hl:=fillO_len (l:=List.replicate i (0:Rat)) (m:=n) (by simp;omega)
  have hs:=fillO_set (l:=List.replicate i (0:Rat)) (m:=n) (x:=0) (by simp;omega)
  rw[List.length_replicate]at hs
  (repeat' (first|(refine CmpP.go (fun hc => ?_) (fun hc => ?_)<;>first|(exfalso;omega)|(conv=>whnf))|(refine Req.go ?_ ?_;omega;conv=>whnf)|(refine AKM.x ?_;conv=>whnf)|(refine CallP.go (hO) ?_;conv=>whnf)))
  refine StR.nat (enc:=eO) (some 0) rfl (fun e=>by cases e<;>rfl) (by omega) ?_
  (conv=>whnf)
  (repeat' (refine OpP.add ?_ ?_;omega;conv=>whnf))
  rw[hs]
  rw[show List.replicate i (0:Rat)++[0]=List.replicate (i+1) 0 by rw[List.replicate_succ']]
  exact AKM.back [] (by (conv=>whnf);exact ⟨rfl,rfl,rfl⟩) (ih (i+1) (by omega) (by omega))
 ·obtain rfl:i=n:=by omega
  clear ih
  rw[fillO_full (by simp)]
  (repeat' (first|(refine CmpP.go (fun hc => ?_) (fun hc => ?_)<;>first|(exfalso;omega)|(conv=>whnf))|(refine SnR.all (fun _=>rfl) rfl ?_ ?_;(first|rfl|simp);conv=>whnf)|(refine AKM.x ?_;conv=>whnf)))
  exact FinP.go rfl (by simp only[Clean,true_and];exact cl_eQs _)
theorem ev_product (N:SysGLib L) (a b:List Rat) (q1 q2:Bool) (k s:Nat) (hl:a.length=b.length) (ha:Bs k a) (hb:Bs s b) (hK:a.length*(k+s+1)+k+s<2199023255552) (hal:a.length≤1099511627776):Ev L 132 [.sl q1 (a.map eQ),.sl q2 (b.map eQ)] (.agg (eQ (dotQ a b))):=by
 have hO:=ev_rational_Of N.toRatGLib 0 (by omega)
 refine Ev.x N.network_product rfl rfl ?_
 (repeat' (first|(refine LenP.go ?_;conv=>whnf)|(refine AKM.x ?_;conv=>whnf)|(refine CallP.go (hO) ?_;conv=>whnf)))
 refine AKM.loop2 (fun i _=>a.length-i) (fun (i:Nat) (acc:Rat)=>i≤a.length∧acc=dotQ (a.take i) (b.take i)) (fun i acc=>[(11,.int .i64 i)]) (fun i acc=>[(5,5,.bx (eQ acc))]) [] [] 0 ((0:Int):Rat) (by (conv=>whnf);exact ⟨rfl,rfl,rfl⟩) ⟨by omega,by simp [dotQ]⟩ ?_
 intro i acc ⟨p1,p2⟩ ih
 by_cases hi:i<a.length
 ·obtain ⟨x,hx⟩ : ∃ x,a[i]? = some x:=⟨_,List.getElem?_eq_getElem hi⟩
  obtain ⟨y,hy⟩ : ∃ y,b[i]? = some y:=⟨_,List.getElem?_eq_getElem (by omega)⟩
  have hx':a[(i:Int).toNat]? = some x:=hx
  have hy':b[(i:Int).toNat]? = some y:=hy
  have bx:=ha.at hx
  have by':=hb.at hy
  have hS1:=ev_signQ N.toRatGLib bx (by omega)
  have hS2:=ev_signQ N.toRatGLib by' (by omega)
  have hM:=ev_mulQ N.toRatGLib bx by' (by omega) (by omega)
  have hacc:Bt (a.length*(k+s+1)) acc:=by
   rw[p2]
   have:=(ha.take i).dot (hb.take i)
   refine this.le (Nat.mul_le_mul_right _ ?_)
   rw[List.length_take];omega
  have hA:=ev_addQ N.toRatGLib hacc (bx.mul by') (by omega) (by omega)
  have hst:=dotQ_take hx hy
  have z1:=sgn_num (x:=x)
  have z2:=sgn_num (x:=y)
  generalize sgn x.num=sx at *
  generalize sgn y.num=sy at *
  by_cases h1:sx=0
  ·have hx0:=z1.1 h1
   (repeat' (first|(refine CmpP.go (fun hc => ?_) (fun hc => ?_)<;>first|(exfalso;omega)|(conv=>whnf))|(refine OpP.add ?_ ?_;omega;conv=>whnf)|(refine RdP.at (by assumption) ?_ rfl ?_;omega;conv=>whnf)|(refine AKM.x ?_;conv=>whnf)|(refine CallP.go (hS1) ?_;conv=>whnf)))
   refine AKM.back [] (by (conv=>whnf);exact ⟨rfl,rfl,rfl⟩) (ih (i+1) acc (by omega) ⟨by omega,?_⟩)
   rw[hst,hx0,Rat.zero_mul,Rat.add_zero];exact p2
  ·by_cases h2:sy=0
   ·have hy0:=z2.1 h2
    (repeat' (first|(refine CmpP.go (fun hc => ?_) (fun hc => ?_)<;>first|(exfalso;omega)|(conv=>whnf))|(refine OpP.add ?_ ?_;omega;conv=>whnf)|(refine RdP.at (by assumption) ?_ rfl ?_;omega;conv=>whnf)|(refine AKM.x ?_;conv=>whnf)|(refine CallP.go (hS1) ?_;conv=>whnf)|(refine CallP.go (hS2) ?_;conv=>whnf)))
    refine AKM.back [] (by (conv=>whnf);exact ⟨rfl,rfl,rfl⟩) (ih (i+1) acc (by omega) ⟨by omega,?_⟩)
    rw[hst,hy0,Rat.mul_zero,Rat.add_zero];exact p2
   ·(repeat' (first|(refine CmpP.go (fun hc => ?_) (fun hc => ?_)<;>first|(exfalso;omega)|(conv=>whnf))|(refine OpP.add ?_ ?_;omega;conv=>whnf)|(refine RdP.at (by assumption) ?_ rfl ?_;omega;conv=>whnf)|(refine AKM.x ?_;conv=>whnf)|(refine CallP.go (hS1) ?_;conv=>whnf)|(refine CallP.go (hS2) ?_;conv=>whnf)|(refine CallP.go (hM) ?_;conv=>whnf)|(refine CallP.go (hA) ?_;conv=>whnf)))
    refine AKM.back [] (by (conv=>whnf);exact ⟨rfl,rfl,rfl⟩) (ih (i+1) (acc+x*y) (by omega) ⟨by omega,?_⟩)
    rw[hst,←p2]
 ·obtain rfl:i=a.length:=by omega
  clear ih
  rw[dotQ_all rfl]at p2
  rw[←p2]
  (repeat' (first|(refine CmpP.go (fun hc => ?_) (fun hc => ?_)<;>first|(exfalso;omega)|(conv=>whnf))|(refine AKM.x ?_;conv=>whnf)))
  exact FinP.go rfl (cl_eQ _)
theorem ev_Respond (N:SysGLib L) (S:SysQ) (n k s:Nat) (h:S.Ok n k) (hn:n≤64) (st xs:List Rat) (q1 q2:Bool) (hst:st.length=n) (bst:Bs s st) (bxs:Bs k xs) (hxl:xs.length≤4096)
  (hK : ∀ i,i≤xs.length→respK n k s i<1099511627776) (hs0:s<1099511627776) (hk0:k<1099511627776) :
  Ev L 133 [.agg (eS S),.sl q1 (st.map eQ),.sl q2 (xs.map eQ)] (.tup [.sl false ((S.outs st xs).map eQ),.sl false ((S.state st xs).map eQ),.int .i64 0]):=by
 have hSd:=ev_Sound N S n k h hn
 have hla:=h.la
 have hlb:=h.lb
 have hlc:=h.lc
 refine Ev.x N.network_Respond rfl rfl ?_
 (repeat' (first|(refine CmpP.go (fun hc => ?_) (fun hc => ?_)<;>first|(exfalso;omega)|(conv=>whnf))|(refine LenP.go ?_;conv=>whnf)|(refine AKM.x ?_;conv=>whnf)|(refine CallP.go (hSd) ?_;conv=>whnf)))
 refine MkR.go (enc:=eO) none st.length rfl rfl (by omega) ?_
 (conv=>whnf)
 (repeat' (refine LenP.go ?_;conv=>whnf))
 refine AKM.loop1 (fun i=>st.length-i) (fun (i:Nat)=>i≤st.length) (fun i=>[(35,.int .i64 i)]) (fun i=>[(32,32,.rw 3 ((fillO (st.take i) st.length).map eO))]) [] [] 0 (by first|exact (by (conv=>whnf);exact ⟨rfl,rfl,rfl⟩)|(rw[List.take_zero,←fillO_nil];exact (by (conv=>whnf);exact ⟨rfl,rfl,rfl⟩))) (by omega) ?_
 intro i p1 ih
 by_cases hi:i<st.length
 ·obtain ⟨x,hx⟩ : ∃ x,st[i]? = some x:=⟨_,List.getElem?_eq_getElem hi⟩
  have hx':st[(i:Int).toNat]? = some x:=hx
  have hT:=ev_trimQ N.toRatGLib (bst.at hx) (by omega)
  have hl:=fillO_len (l:=st.take i) (m:=st.length) (by rw[List.length_take];omega)
  have hs:=fillO_set (l:=st.take i) (m:=st.length) (x:=x) (by rw[List.length_take];omega)
  rw[List.length_take,Nat.min_eq_left (by omega),←take_snoc' hx]at hs
  (repeat' (first|(refine CmpP.go (fun hc => ?_) (fun hc => ?_)<;>first|(exfalso;omega)|(conv=>whnf))|(refine Req.go ?_ ?_;omega;conv=>whnf)|(refine RdP.at (by assumption) ?_ rfl ?_;omega;conv=>whnf)|(refine AKM.x ?_;conv=>whnf)|(refine CallP.go (hT) ?_;conv=>whnf)))
  refine StR.nat (enc:=eO) (some x) rfl (fun e=>by cases e<;>rfl) (by omega) ?_
  (conv=>whnf)
  (repeat' (refine OpP.add ?_ ?_;omega;conv=>whnf))
  rw[hs]
  exact AKM.back [] (by (conv=>whnf);exact ⟨rfl,rfl,rfl⟩) (ih (i+1) (by omega) (by omega))
 obtain rfl:i=st.length:=by omega
 clear ih
 rw[List.take_of_length_le (Nat.le_refl _),fillO_full rfl]
 (repeat' (first|(refine CmpP.go (fun hc => ?_) (fun hc => ?_)<;>first|(exfalso;omega)|(conv=>whnf))|(refine LenP.go ?_;conv=>whnf)|(refine AKM.x ?_;conv=>whnf)))
 refine MkR.go (enc:=eO) none 0 rfl rfl (by omega) ?_
 (conv=>whnf)
 (repeat' (refine LenP.go ?_;conv=>whnf))
 refine AKM.loop4 (fun i _ _ _=>xs.length-i) (fun (i:Nat) (nw os:List Rat) (_:Nat)=>i≤xs.length∧nw=S.state st (xs.take i)∧os=S.outs st (xs.take i)) (fun i nw os _=>[(51,.int .i64 i),(12,.row 48 0 3 0 os.length),(9,.row 32 0 3 0 nw.length)]) (fun i nw os t=>[(48,48,.rw 3 (os.map eQ)),(32,t,.rw 3 (nw.map eQ))]) [] [] 0 st [] 32 (by (conv=>whnf);exact ⟨rfl,rfl,rfl⟩) ⟨by omega,rfl,rfl⟩ ?_
 intro i nw os t ⟨p1,p2,p3⟩ ih
 have hnl:nw.length=n:=by rw[p2];exact h.state_len _ _ hst
 have hol:os.length=i:=by rw[p3,outs_len,List.length_take];omega
 by_cases hi:i<xs.length
 ·obtain ⟨x,hx⟩ : ∃ x,xs[i]? = some x:=⟨_,List.getElem?_eq_getElem hi⟩
  have hx':xs[(i:Int).toNat]? = some x:=hx
  have bx:=bxs.at hx
  have bnw:Bs (respK n k s i) nw:=by
   have:=h.state_bs (xs.take i) st s hst bst (bxs.take i)
   rw[List.length_take,Nat.min_eq_left (by omega)]at this
   rw[p2];exact this
  have hk1:=hK i (by omega)
  have hk2:=hK (i+1) (by omega)
  rw[respK_succ]at hk2
  obtain ⟨bn,bo⟩:=h.next_bs hnl bnw bx
  have hst2:S.state st (xs.take (i+1))=S.next nw x:=by rw[take_snoc' hx,state_snoc,←p2]
  have hos2:S.outs st (xs.take (i+1))=os++[S.out nw x]:=by rw[take_snoc' hx,outs_snoc,←p2,←p3]
  generalize hkk:respK n k s i=kk at *
  have hkk2:n*(k+kk+1)+(k+k)+1<1099511627776:=by unfold stepK at hk2;exact hk2
  have hP:=fun q q'=>ev_product N S.c nw q q' k kk (by omega) h.bc bnw (by rw[hlc];omega) (by omega)
  have hM1:=ev_mulQ N.toRatGLib h.bd bx (by omega) (by omega)
  have bd1:=h.bc.dot bnw
  rw[hlc]at bd1
  have hA1:=ev_addQ N.toRatGLib bd1 (h.bd.mul bx) (by omega) (by omega)
  (repeat' (first|(refine CmpP.go (fun hc => ?_) (fun hc => ?_)<;>first|(exfalso;omega)|(conv=>whnf))|(refine RdP.at (by assumption) ?_ rfl ?_;omega;conv=>whnf)|(refine SnR.all (fun _=>rfl) rfl ?_ ?_;(first|rfl|simp);conv=>whnf)|(refine RowP.e1 ?_;conv=>whnf)|(refine AKM.x ?_;conv=>whnf)|(refine CallP.go (hP _ _) ?_;conv=>whnf)|(refine CallP.go (hM1) ?_;conv=>whnf)|(refine CallP.go (hA1) ?_;conv=>whnf)))
  refine AppR.one (enc:=eQ) (S.out nw x) rfl rfl rfl (by omega) (by omega) ?_
  (conv=>whnf)
  skip
  refine MkR.go (enc:=eO) none nw.length rfl rfl (by omega) ?_
  (conv=>whnf)
  (repeat' (refine LenP.go ?_;conv=>whnf))
  have hnl2:=h.next_len nw x
  generalize hNx:S.next nw x=nx at *
  refine AKM.loop1 (fun j=>S.a.length-j) (fun (j:Nat)=>j≤S.a.length) (fun j=>[(73,.int .i64 j)]) (fun j=>[(69,69,.rw 3 ((fillO (nx.take j) nw.length).map eO))]) [] [] 0 (by first|exact (by (conv=>whnf);exact ⟨rfl,rfl,rfl⟩)|(rw[List.take_zero,←fillO_nil];exact (by (conv=>whnf);exact ⟨rfl,rfl,rfl⟩))) (by omega) ?_
  intro j r1 jh
  by_cases hj:j<S.a.length
  ·obtain ⟨r,hr⟩ : ∃ r,S.a[j]? = some r:=⟨_,List.getElem?_eq_getElem hj⟩
   obtain ⟨b,hb0⟩ : ∃ b,S.b[j]? = some b:=⟨_,List.getElem?_eq_getElem (by omega)⟩
   have hr':S.a[(j:Int).toNat]? = some r:=hr
   have hb':S.b[(j:Int).toNat]? = some b:=hb0
   have hrl:=h.lr r (List.mem_of_getElem? hr)
   have bb:=h.bb.at hb0
   have hP2:=fun q q'=>ev_product N r nw q q' k kk (by omega) (h.ba r (List.mem_of_getElem? hr)) bnw (by rw[hrl];omega) (by omega)
   have hM2:=ev_mulQ N.toRatGLib bb bx (by omega) (by omega)
   have bd2:=(h.ba r (List.mem_of_getElem? hr)).dot bnw
   rw[hrl]at bd2
   have hA2:=ev_addQ N.toRatGLib bd2 (bb.mul bx) (by omega) (by omega)
   have hnj:nx[j]? = some (dotQ r nw+b*x):=by rw[←hNx];exact nextQ_at nw x S.a S.b j r b hr hb0
   have hl:=fillO_len (l:=nx.take j) (m:=nw.length) (by rw[List.length_take];omega)
   have hs:=fillO_set (l:=nx.take j) (m:=nw.length) (x:=dotQ r nw+b*x) (by rw[List.length_take];omega)
   rw[List.length_take,Nat.min_eq_left (by omega),←take_snoc' hnj]at hs
   generalize dotQ r nw+b*x=y at *
   (repeat' (first|(refine CmpP.go (fun hc => ?_) (fun hc => ?_)<;>first|(exfalso;omega)|(conv=>whnf))|(refine Req.go ?_ ?_;omega;conv=>whnf)|(refine RdP.at (by assumption) ?_ rfl ?_;omega;conv=>whnf)|(refine SnR.all (fun _=>rfl) rfl ?_ ?_;(first|rfl|simp);conv=>whnf)|(refine AKM.x ?_;conv=>whnf)|(refine CallP.go (hP2 _ _) ?_;conv=>whnf)|(refine CallP.go (hM2) ?_;conv=>whnf)|(refine CallP.go (hA2) ?_;conv=>whnf)))
   refine StR.nat (enc:=eO) (some y) rfl (fun e=>by cases e<;>rfl) (by omega) ?_
   (conv=>whnf)
   (repeat' (refine OpP.add ?_ ?_;omega;conv=>whnf))
   rw[hs]
   exact AKM.back [] (by (conv=>whnf);exact ⟨rfl,rfl,rfl⟩) (jh (j+1) (by omega) (by omega))
  ·obtain rfl:j=S.a.length:=by omega
   clear jh
   rw[List.take_of_length_le (by omega),fillO_full (by omega)]
   rw[show nw.length=nx.length by omega]
   (repeat' (first|(refine CmpP.go (fun hc => ?_) (fun hc => ?_)<;>first|(exfalso;omega)|(conv=>whnf))|(refine OpP.add ?_ ?_;omega;conv=>whnf)|(refine AKM.x ?_;conv=>whnf)))
   refine AKM.back [(32,69),(48,66)] (by (conv=>whnf);exact ⟨rfl,rfl,rfl⟩) (ih (i+1) nx (os++[S.out nw x]) 69 (by omega) ⟨by omega,by rw[hst2],by rw[hos2]⟩)
 ·obtain rfl:i=xs.length:=by omega
  clear ih
  rw[List.take_of_length_le (Nat.le_refl _)]at p2 p3
  rw[←p2,←p3]
  (repeat' (first|(refine CmpP.go (fun hc => ?_) (fun hc => ?_)<;>first|(exfalso;omega)|(conv=>whnf))|(refine SnR.all (fun _=>rfl) rfl ?_ ?_;(first|rfl|simp);conv=>whnf)|(refine AKM.x ?_;conv=>whnf)))
  exact FinP.go rfl (cl_three _ _ _)
theorem Bs.zeros (k n:Nat):Bs k (List.replicate n 0):=fun x hx=>by rw[(List.mem_replicate.1 hx).2];exact Bt.zero k
theorem ev_Impulse (N:SysGLib L) (S:SysQ) (n k c:Nat) (h:S.Ok n k) (hn:n≤64) (hc0:c≤4096) (hK : ∀ i,i≤c→respK n k 0 i<1099511627776) (hk0:k<1099511627776) :
  Ev L 134 [.agg (eS S),.int .i64 (c:Int)] (.tup [.sl false ((S.outs (List.replicate n 0) (impL c)).map eQ),.int .i64 0]):=by
 have hSd:=ev_Sound N S n k h hn
 have hla:=h.la
 have hO:=ev_rational_Of N.toRatGLib 0 (by omega)
 have hI:=ev_rational_Of N.toRatGLib 1 (by omega)
 have hZ:=ev_zeros N n (by omega)
 rw[←hla]at hZ
 have hR:=fun q1 q2=>ev_Respond N S n k 0 h hn (List.replicate S.a.length 0) (impL c) q1 q2 (by simp [hla]) (Bs.zeros _ _) (impL_bs k c) (by rw[impL_len];omega) (by rw[impL_len];exact hK) (by omega) hk0
 rw[←hla]
 refine Ev.x N.network_Impulse rfl rfl ?_
 (repeat' (first|(refine CmpP.go (fun hc => ?_) (fun hc => ?_)<;>first|(exfalso;omega)|(conv=>whnf))|(refine AKM.x ?_;conv=>whnf)|(refine CallP.go (hSd) ?_;conv=>whnf)))
 refine CalP.walk 1000 N.network_zeros rfl rfl ?_
 (repeat' (refine AKM.x ?_;conv=>whnf))
 refine MkR.go (enc:=eO) none c rfl rfl (by omega) ?_
 (conv=>whnf)
 skip
 refine AKM.loop1 (fun i=>c-i) (fun (i:Nat)=>i≤c) (fun i=>[(9,.int .i64 i)]) (fun i=>[(131006,131006,.rw 3 ((fillO (List.replicate i 0) c).map eO))]) [] [] 0 (by first|exact (by (conv=>whnf);exact ⟨rfl,rfl,rfl⟩)|(rw[←fillO_nil];exact (by (conv=>whnf);exact ⟨rfl,rfl,rfl⟩))) (by omega) ?_
 intro i p1 ih
 by_cases hi:i<c
 ·have hl:=fillO_len (l:=List.replicate i (0:Rat)) (m:=c) (by simp;omega)
  have hs:=fillO_set (l:=List.replicate i (0:Rat)) (m:=c) (x:=0) (by simp;omega)
  rw[List.length_replicate]at hs
  (repeat' (first|(refine CmpP.go (fun hc => ?_) (fun hc => ?_)<;>first|(exfalso;omega)|(conv=>whnf))|(refine Req.go ?_ ?_;omega;conv=>whnf)|(refine AKM.x ?_;conv=>whnf)|(refine CallP.go (hO) ?_;conv=>whnf)))
  refine StR.nat (enc:=eO) (some 0) rfl (fun e=>by cases e<;>rfl) (by omega) ?_
  (conv=>whnf)
  (repeat' (refine OpP.add ?_ ?_;omega;conv=>whnf))
  rw[hs]
  rw[show List.replicate i (0:Rat)++[0]=List.replicate (i+1) 0 by rw[List.replicate_succ']]
  exact AKM.back [] (by (conv=>whnf);exact ⟨rfl,rfl,rfl⟩) (ih (i+1) (by omega) (by omega))
 obtain rfl:i=c:=by omega
 clear ih
 rw[fillO_full (by simp)]
 by_cases hc1:i=0
 ·subst hc1
  (repeat' (first|(refine CmpP.go (fun hc => ?_) (fun hc => ?_)<;>first|(exfalso;omega)|(conv=>whnf))|(refine AKM.x ?_;conv=>whnf)))
  refine ⟨rfl,_,rfl,?_⟩
  (conv=>whnf)
  (repeat' (first|(refine CmpP.go (fun hc => ?_) (fun hc => ?_)<;>first|(exfalso;omega)|(conv=>whnf))|(refine LenP.go ?_;conv=>whnf)|(refine SnR.all (fun _=>rfl) rfl ?_ ?_;(first|rfl|simp);conv=>whnf)|(refine CallP.go (hZ) ?_;conv=>whnf)|(refine CallP.go (hR _ _) ?_;conv=>whnf)))
  exact FinP.go rfl (cl_two _ _)
 ·have himp:(List.replicate i (0:Rat)).set 0 1=impL i:=by
   rcases i with _|i
   ·exact absurd rfl hc1
   ·simp [impL,List.replicate_succ]
  (repeat' (first|(refine CmpP.go (fun hc => ?_) (fun hc => ?_)<;>first|(exfalso;omega)|(conv=>whnf))|(refine AKM.x ?_;conv=>whnf)))
  refine ⟨rfl,_,rfl,?_⟩
  (conv=>whnf)
  (repeat' (first|(refine CmpP.go (fun hc => ?_) (fun hc => ?_)<;>first|(exfalso;omega)|(conv=>whnf))|(refine Req.go ?_ ?_;omega;conv=>whnf)|(refine CallP.go (hI) ?_;conv=>whnf)))
  refine StR.at (enc:=eQ) 0 1 rfl rfl (fun _=>rfl) (by simp;omega) ?_
  (conv=>whnf)
  rw[himp]
  (repeat' (first|(refine LenP.go ?_;conv=>whnf)|(refine CallP.go (hZ) ?_;conv=>whnf)))
  refine SnR.all (enc:=eQ) (fun _=>rfl) rfl (impL_len i).symm ?_
  (conv=>whnf)
  (repeat' (refine CallP.go (hR _ _) ?_;conv=>whnf))
  exact FinP.go rfl (cl_two _ _)
end Go.Eng

namespace Go.Eng
def sumQ (vals:List Rat):List (Int × Int)→Rat
 | []=>0
 | t::ts=>(t.2:Rat)*vals.getD t.1.toNat 0+sumQ vals ts
theorem sumQ_snoc (vals:List Rat) (t:Int × Int) : ∀ ts,sumQ vals (ts++[t])=sumQ vals ts+(t.2:Rat)*vals.getD t.1.toNat 0
 | []=>by simp only[List.nil_append,sumQ];grind
 | u::ts=>by simp only[List.cons_append,sumQ];rw[sumQ_snoc vals t ts];grind
theorem sumQ_take {vals:List Rat} {ts:List (Int × Int)} {i:Nat} {t:Int × Int} (h:ts[i]? = some t):sumQ vals (ts.take (i+1))=sumQ vals (ts.take i)+(t.2:Rat)*vals.getD t.1.toNat 0:=by
 rw[List.take_add_one,h,Option.toList_some,sumQ_snoc]
def exS (u:Rat) (ex:Int):Nat→List Rat→List (List (Int × Int))→List Rat
 | _,vals,[]=>vals
 | k,vals,ts::r=>exS u ex (k+1) (vals++[sumQ vals ts/u+(if (k:Int)=ex then 1 else 0)]) r
theorem exS_len (u:Rat) (ex:Int) : ∀ (k:Nat) (vals:List Rat) (l:List (List (Int × Int))),(exS u ex k vals l).length=vals.length+l.length
 | _,_,[]=>rfl
 | k,vals,ts::r=>by rw[exS,exS_len u ex (k+1)];simp;omega
theorem Bs.getD {k:Nat} {l:List Rat} (h:Bs k l) (i:Nat):Bt k (l.getD i 0):=by
 rw[List.getD_eq_getElem?_getD]
 cases e:l[i]? with
 | none=>exact Bt.zero k
 | some x=>exact h.at e
theorem Bs.sum {k j:Nat} {vals:List Rat} (hv:Bs k vals) : ∀ (ts:List (Int × Int)),(∀ t∈ts,Bt j ((t.2:Int):Rat))→Bt (ts.length*(j+k+1)) (sumQ vals ts)
 | [],_=>Bt.zero _
 | t::ts,h=>by
  have h1:=(h t (by simp)).mul (hv.getD t.1.toNat)
  have h2:=Bs.sum hv ts (fun u hu=>h u (by simp [hu]))
  refine (h1.add h2).le ?_
  rw[List.length_cons,Nat.succ_mul];omega
def LinV (C:List (List Rat)) (z vals:List Rat):Prop := ∀ m,m<vals.length→vals.getD m 0=dotQ (C.map fun c=>c.getD m 0) z
theorem dotQ_smul (x:Rat) : ∀ (a z:List Rat),dotQ (a.map fun c=>x*c) z=x*dotQ a z
 | [],z=>by cases z<;>simp [dotQ]
 | p::a,[]=>by simp [dotQ]
 | p::a,q::z=>by
  simp only[List.map_cons,dotQ]
  rw[dotQ_smul x a z];grind
theorem dotQ_mapadd {α:Type} (f g:α→Rat) : ∀ (a:List α) (z:List Rat),dotQ (a.map fun c=>f c+g c) z=dotQ (a.map f) z+dotQ (a.map g) z
 | [],z=>by cases z<;>(simp only[List.map_nil,dotQ];grind)
 | p::a,[]=>by simp only[List.map_cons,dotQ];grind
 | p::a,q::z=>by
  simp only[List.map_cons,dotQ]
  rw[dotQ_mapadd f g a z];grind
theorem dotQ_zero {α:Type} : ∀ (a:List α) (z:List Rat),dotQ (a.map fun _=>(0:Rat)) z=0
 | [],z=>by cases z<;>rfl
 | p::a,[]=>rfl
 | p::a,q::z=>by
  simp only[List.map_cons,dotQ]
  rw[dotQ_zero a z];grind
theorem LinV.sum {C:List (List Rat)} {z vals:List Rat} (h:LinV C z vals) : ∀ (ts:List (Int × Int)),(∀ t∈ts,t.1.toNat<vals.length)→sumQ vals ts=dotQ (C.map fun c=>sumQ c ts) z
 | [],_=>(dotQ_zero C z).symm
 | t::ts,ht=>by
  simp only[sumQ]
  rw[dotQ_mapadd (fun c=>(t.2:Rat)*c.getD t.1.toNat 0) (fun c=>sumQ c ts),←LinV.sum h ts (fun u hu=>ht u (by simp [hu])),h _ (ht t (by simp))]
  have:=dotQ_smul (t.2:Rat) (C.map fun c=>c.getD t.1.toNat 0) z
  rw[List.map_map]at this
  rw[←this];rfl
theorem getD_snoc_lt {l:List Rat} {x:Rat} {m:Nat} (h:m<l.length):(l++[x]).getD m 0=l.getD m 0:=by
 rw[List.getD_eq_getElem?_getD,List.getD_eq_getElem?_getD,List.getElem?_append_left h]
theorem getD_snoc_eq {l:List Rat} {x:Rat} {m:Nat} (h:m=l.length):(l++[x]).getD m 0=x:=by
 subst h
 rw[List.getD_eq_getElem?_getD,List.getElem?_append_right (Nat.le_refl _)];simp
theorem LinV.all {u:Rat} (hu:u≠0) {z:List Rat} : ∀ (l:List (List (Int × Int))) (k:Nat) (C:List (List Rat)) (vals:List Rat),LinV C z vals→(∀ c∈C,c.length=vals.length)→(∀ i ts,l[i]? = some ts → ∀ t∈ts,t.1.toNat<vals.length+i) →
  LinV (C.map fun c=>exS u (-1) k c l) z (exS u (-1) k vals l)
 | [],_,C,vals,h,_,_=>by
  have e:(C.map fun c=>exS u (-1) 0 c [])=C:=by
   simp [exS]
  simpa [exS] using h
 | ts::l,k,C,vals,h,hc,ht=>by
  have hts:=ht 0 ts rfl
  have e0 : ¬ (k:Int) = -1:=by omega
  simp only[exS,if_neg e0,Rat.add_zero]
  have hs:=h.sum ts (fun t h1=>by have:=hts t h1;omega)
  have hstep:LinV (C.map fun c=>c++[sumQ c ts/u]) z (vals++[sumQ vals ts/u]):=by
   intro m hm
   simp only[List.length_append,List.length_cons,List.length_nil]at hm
   rw[List.map_map]
   by_cases hm2:m<vals.length
   ·rw[getD_snoc_lt hm2,h m hm2]
    congr 1
    refine List.map_congr_left fun c hcm => ?_
    simp only[Function.comp]
    rw[getD_snoc_lt (by rw[hc c hcm];exact hm2)]
   ·rw[getD_snoc_eq (by omega)]
    have e1:(C.map ((fun c=>c.getD m 0) ∘ fun c=>c++[sumQ c ts/u]))=C.map fun c=>u⁻¹*sumQ c ts:=by
     refine List.map_congr_left fun c hcm => ?_
     simp only[Function.comp]
     rw[getD_snoc_eq (by rw[hc c hcm];omega),Rat.div_def,Rat.mul_comm]
    rw[e1,hs,Rat.div_def,Rat.mul_comm]
    have:=dotQ_smul u⁻¹ (C.map fun c=>sumQ c ts) z
    rw[List.map_map]at this
    rw[←this];rfl
  have ih:=LinV.all hu l (k+1) (C.map fun c=>c++[sumQ c ts/u]) (vals++[sumQ vals ts/u]) hstep (fun c hcm=>by
   obtain ⟨c0,h0,rfl⟩:=List.mem_map.1 hcm
   simp [hc c0 h0]) (fun i ts2 h2 t h3=>by
   have:=ht (i+1) ts2 h2 t h3
   simp;omega)
  rw[List.map_map]at ih
  exact ih
def gS:Nat→Nat
 | 0=>0
 | i+1=>5*gS i+150
theorem gS_mono (i:Nat):gS i≤gS (i+1):=by rw[gS];omega
theorem Bt.ofInt {k:Nat} {z:Int} (h:z.natAbs≤2^k):Bt k ((z:Int):Rat):=⟨by rw[Rat.num_intCast];exact h,by rw[Rat.den_intCast];exact Nat.one_le_two_pow⟩
theorem Bt.divz {k j:Nat} {x:Rat} {z:Int} (h:Bt k x) (hz:1≤z) (hj:z.natAbs≤2^j):Bt (k+j) (x/(z:Rat)):=by
 obtain ⟨d,rfl⟩:=Int.eq_ofNat_of_zero_le (show 0≤z by omega)
 have e:x/((d:Int):Rat)=x*mkRat 1 d:=by
  rw[Rat.div_def,Rat.mkRat_eq_div,Rat.div_def]
  congr 1
  rw[show ((1:Int):Rat)=1 from rfl,Rat.one_mul];rfl
 rw[e]
 exact h.mul (Bt.mk (by simp;exact Nat.one_le_two_pow) (by simpa using hj))
structure SmallN (l:List (List (Int × Int))):Prop where
 len : ∀ ts∈l,ts.length≤5
 cf : ∀ ts∈l,∀ t∈ts,t.2.natAbs≤2^24
theorem node_bt {ts:List (Int × Int)} {vals:List Rat} {k:Nat} {z:Int} (h1:ts.length≤5) (h2 : ∀ t∈ts,t.2.natAbs≤2^24) (hv:Bs k vals) (hz:1≤z) (hz2:z.natAbs≤2^24) (b:Bool):Bt (5*k+150) (sumQ vals ts/(z:Rat)+(if b=true then 1 else 0)):=by
 have a1:=hv.sum ts (j:=24) (fun t ht=>Bt.ofInt (h2 t ht))
 have a2:Bt (5*(24+k+1)) (sumQ vals ts):=a1.le (Nat.mul_le_mul_right _ h1)
 have a3:=a2.divz hz hz2
 have a4:Bt 0 (if b=true then (1:Rat) else 0):=by cases b<;>first|exact Bt.zero 0|exact Bt.one 0
 exact (a3.add a4).le (by omega)
theorem exS_bs {z ex:Int} (hz:1≤z) (hz2:z.natAbs≤2^24) : ∀ (l:List (List (Int × Int))) (k:Nat) (vals:List Rat),SmallN l→Bs (gS k) vals→Bs (gS (k+l.length)) (exS (z:Rat) ex k vals l)
 | [],k,vals,_,hv=>hv
 | ts::l,k,vals,h,hv=>by
  have h1:=node_bt (h.len ts (by simp)) (h.cf ts (by simp)) hv hz hz2 (decide ((k:Int)=ex))
  simp only[decide_eq_true_eq]at h1
  rw[exS,List.length_cons,show k+(l.length+1)=k+1+l.length by omega]
  refine exS_bs hz hz2 l (k+1) _ ⟨fun t ht=>h.len t (by simp [ht]),fun t ht=>h.cf t (by simp [ht])⟩ ?_
  intro x hx
  rcases List.mem_append.1 hx with hx|hx
  ·exact (hv x hx).le (gS_mono k)
  ·simp only[List.mem_singleton]at hx
   rw[hx]
   exact h1
theorem exS_take (u:Rat) (ex:Int) (vals:List Rat) (l:List (List (Int × Int))) (i:Nat) (ts:List (Int × Int)) (h:l[i]? = some ts):exS u ex 0 vals (l.take (i+1))=exS u ex 0 vals (l.take i)++[sumQ (exS u ex 0 vals (l.take i)) ts/u+(if (i:Int)=ex then 1 else 0)]:=by
 have key : ∀ (l:List (List (Int × Int))) (k:Nat) (vals:List Rat) (ts:List (Int × Int)),exS u ex k vals (l++[ts])=exS u ex k vals l++[sumQ (exS u ex k vals l) ts/u+(if ((k+l.length:Nat):Int)=ex then 1 else 0)]:=by
  intro l
  induction l with
  | nil=>intro k vals ts;simp [exS]
  | cons a l ih =>
   intro k vals ts
   rw[List.cons_append,exS,ih,exS,List.length_cons,show k+1+l.length=k+(l.length+1) by omega]
 have hi:=(List.getElem?_eq_some_iff.1 h).1
 rw[List.take_add_one,h,Option.toList_some,key,List.length_take,Nat.min_eq_left (by omega),Nat.zero_add]
end Go.Eng

namespace Go.Eng
theorem mxB_none (σ:Stp) (k:Nat) : ∀ (n i:Nat),mxB σ k i (List.replicate n none)=List.replicate n [.nil]
 | 0,_=>rfl
 | n+1,i=>by
  rw[List.replicate_succ,List.replicate_succ]
  show [AV.nil]::mxB σ k (i+1) (List.replicate n none)=_
  rw[mxB_none σ k n (i+1)]
theorem AKM.mxN {L:Lib} {kk:List It} {tm:Tm} {M:Mem} {Q:Tm→Mem→Prop} (k s n:Nat) (e:mget M k=some (s,.mx (List.replicate n none))) (h:AKM L kk tm ((k,s,.rw 1 (List.replicate n [.nil]))::M) Q):AKM L kk tm M Q:=by
 intro σ st hr
 have hg : ∀ j t c,mref ((k,s,.rw 1 (List.replicate n [.nil]))::M) j t=some c → ∃ c0,mref M j t=some c0∧c0.blk σ j=c.blk σ j:=by
  intro j t c g
  by_cases hj:j=k
  ·subst hj
   cases t with
   | zero =>
    have h1:mget ((j,s,Cel.rw 1 (List.replicate n [.nil]))::M) j=some (s,.rw 1 (List.replicate n [.nil])):=by simp [mget]
    simp only[mref,h1,Option.some.injEq]at g
    subst g
    refine ⟨.mx (List.replicate n none),by simp only[mref,e],?_⟩
    simp only[Cel.blk,mxB_none]
   | succ i =>
    have h1:mget ((j,s,Cel.rw 1 (List.replicate n [.nil]))::M) j=some (s,.rw 1 (List.replicate n [.nil])):=by simp [mget]
    simp only[mref,h1]at g
    cases g
  ·have h1:mget ((k,s,Cel.rw 1 (List.replicate n [.nil]))::M) j=mget M j:=by
    have hb:Nat.beq j k=false:=by
     cases hbb:Nat.beq j k with
     | false=>rfl
     | true=>exact absurd (Nat.eq_of_beq_eq_true hbb) hj
    simp only[mget,hb,cond_false]
   refine ⟨c,?_,rfl⟩
   simp only[mref,h1]at g ⊢
   exact g
 refine h σ st ⟨hr.tm,⟨?_,?_,?_,?_⟩⟩
 ·intro j s' c g
  by_cases hj:j=k
  ·subst hj
   have h1:mget ((j,s,Cel.rw 1 (List.replicate n [.nil]))::M) j=some (s,.rw 1 (List.replicate n [.nil])):=by simp [mget]
   rw[h1]at g
   simp only[Option.some.injEq,Prod.mk.injEq]at g
   obtain ⟨rfl,_⟩:=g
   exact hr.sat.site _ _ _ e
  ·have h1:mget ((k,s,Cel.rw 1 (List.replicate n [.nil]))::M) j=mget M j:=by
    have hb:Nat.beq j k=false:=by
     cases hbb:Nat.beq j k with
     | false=>rfl
     | true=>exact absurd (Nat.eq_of_beq_eq_true hbb) hj
    simp only[mget,hb,cond_false]
   rw[h1]at g
   exact hr.sat.site _ _ _ g
 ·intro j t c g
  obtain ⟨c0,q1,q2⟩:=hg j t c g
  rw[←q2];exact hr.sat.blk _ _ _ q1
 ·intro j t c g
  obtain ⟨c0,q1,_⟩:=hg j t c g
  exact hr.sat.old _ _ _ q1
 ·intro j t j' t' c c' g g' hσ
  obtain ⟨c0,q1,_⟩:=hg j t c g
  obtain ⟨c1,q2,_⟩:=hg j' t' c' g'
  exact hr.sat.inj _ _ _ _ _ _ q1 q2 hσ
end Go.Eng

namespace Go.Eng
variable {L:Lib}
def RetR (fn:AFn) (z:Nat) (es:List (List AV)) (tm:Tm) (M:Mem):Prop:=match fn.res with
 | [.tmp t]=>match tg tm t with
  | .row k 0 z' 0 n=>match mget M k with
   | some (_,.rw z'' es')=>z'=z∧z''=z∧n=es.length∧es'=es∧CleanLL es
   | _=>False
  | _=>False
 | _=>False
theorem EvR.x {f:Nat} {fn:AFn} {vs:List AV} {z:Nat} {es:List (List AV)} (hL:L f=some fn) (hp:Nat.beq vs.length fn.pars=true) (hd:datAL vs=true) (h:AKM L [.code fn.body] (initTm 0 vs) [] (RetR fn z es)):EvR L f vs z es:=by
 obtain ⟨n,c,st',hr,σ,tm,M,hR,hq⟩:=h (fun _ _=>(0,0)) ⟨initTm 0 vs,Own.emp⟩ ⟨fun j=>Or.inr (by rw[tg_eq];exact datAL_tg hd j),⟨(fun _ _ _ e=>by cases e),(fun _ _ _ e=>by simp [mref,mget]at e),(fun _ _ _ e=>by simp [mref,mget]at e),(fun _ _ _ _ _ _ e=>by simp [mref,mget]at e)⟩⟩
 unfold RetR at hq
 split at hq
 ·rename_i t hres
  split at hq
  ·rename_i k z' m htm
   split at hq
   ·rename_i s z'' es' hM
    obtain ⟨rfl,rfl,rfl,rfl,hcl⟩:=hq
    have hv:tget st'.tm t = .row (σ k 0).1 (σ k 0).2 z'' 0 es'.length:=by
     rcases hR.tm t with e|e
     ·rw[htm]at e;cases e
     ·rw[e,htm];rfl
    have hb:=hR.sat.blk k 0 (.rw z'' es') (by simp only[mref,hM])
    obtain ⟨q,hq⟩:=EvI.intro (r := .row (σ k 0).1 (σ k 0).2 z'' 0 es'.length) (o':=st'.own) hL (beq_iff.1 hp) ⟨n,c,st',hr,by simp [hres,resOf,hv,resTmp,resVal],rfl⟩
    refine ⟨q,?_⟩
    simp only[hq,adoptR,Own.get,hb]
    rw[if_pos (show (Cel.blk σ k (.rw z'' es')).es.length=es'.length∧CleanLL (Cel.blk σ k (.rw z'' es')).es from ⟨rfl,hcl⟩)]
    rfl
   ·exact hq.elim
  ·exact hq.elim
 ·exact hq.elim
theorem CallR.go {α:Type} {enc:α→List AV} {l:List α} {f z:Nat} {vs:List AV} {K:Nat→List (List AV)→Nat→Prop} (n:Nat) (h:EvR L f vs z (l.map enc)) (hn:n=l.length) (hk:K z (l.map enc) n):CallR L f vs K:=⟨z,_,n,h,by simpa using hn,hk⟩
end Go.Eng



namespace Go.Eng
open F
attribute [local irreducible] AKM CmpP Req OpP UnP ConvP RdP LdR StR MkR LenP AppR AppN CpyR RowP SnR Bds SlS CallP CalP FinP pw LdM GetM SetM PutM MkM AppM SnM FlP CallR
set_option maxHeartbeats 4000000
variable {L:Lib}
def tsOf (n:Nt):List (List (Int × Int)):=n.nodes.map Nd.ts
def spreadQ (n:Nt) (src ex:Int):List Rat:=exS ((pw n.c.f:Int):Rat) ex 0 (unitL (1+n.s).toNat src) (tsOf n)
theorem nodesB_at {c:Wd} {s:Int} : ∀ {l:List Nd} {k j:Nat} {nd:Nd},nodesB c s k l=true→l[j]? = some nd→nd.ts.all (termB c s (k+j))=true
 | [],_,_,_,_,h=>by simp at h
 | e::l,k,0,nd,hb,h=>by
  simp only[List.getElem?_cons_zero,Option.some.injEq]at h
  subst h
  simp only[nodesB,Bool.and_eq_true]at hb
  exact hb.1.2
 | e::l,k,j+1,nd,hb,h=>by
  simp only[List.getElem?_cons_succ]at h
  simp only[nodesB,Bool.and_eq_true]at hb
  rw[show k+(j+1)=k+1+j by omega]
  exact nodesB_at hb.2 h
theorem unit_set (m p:Nat):(List.replicate m (0:Rat)).set p 1=unitL m p:=by
 refine List.ext_getElem? fun j => ?_
 simp only[unitL,List.getElem?_set,List.getElem?_map,List.getElem?_replicate,List.length_replicate]
 by_cases h:j<m
 ·rw[List.getElem?_range h]
  by_cases e:p=j
  ·subst e;simp [h]
  ·simp [h,e];intro h3;omega
 ·rw[List.getElem?_eq_none (by simpa using h)]
  simp [h]
  intro e;omega
theorem Bs.unit (k m:Nat) (p:Int):Bs k (unitL m p):=by
 intro x hx
 simp only[unitL,List.mem_map]at hx
 obtain ⟨a,_,rfl⟩:=hx
 split
 ·exact Bt.one k
 ·exact Bt.zero k
theorem ev_zerosR (N:SysGLib L) (m:Nat) (hm:m≤65536):EvR L 131 [.int .i64 (m:Int)] 3 ((List.replicate m (0:Rat)).map eQ):=by
 have hO:=ev_rational_Of N.toRatGLib 0 (by omega)
 refine EvR.x N.network_zeros rfl rfl ?_
 (repeat' (refine AKM.x ?_;conv=>whnf))
 refine MkR.go (enc:=eO) none m rfl rfl (by omega) ?_
 (conv=>whnf)
 skip
 refine AKM.loop1 (fun i=>m-i) (fun (i:Nat)=>i≤m) (fun i=>[(9,.int .i64 i)]) (fun i=>[(131006,131006,.rw 3 ((fillO (List.replicate i 0) m).map eO))]) [] [] 0 (by first|exact (by (conv=>whnf);exact ⟨rfl,rfl,rfl⟩)|(rw[←fillO_nil];exact (by (conv=>whnf);exact ⟨rfl,rfl,rfl⟩))) (by omega) ?_
 intro i p1 ih
 by_cases hi:i<m
 ·have hl:=fillO_len (l:=List.replicate i (0:Rat)) (m:=m) (by simp;omega)
  have hs:=fillO_set (l:=List.replicate i (0:Rat)) (m:=m) (x:=0) (by simp;omega)
  rw[List.length_replicate]at hs
  (repeat' (first|(refine CmpP.go (fun hc => ?_) (fun hc => ?_)<;>first|(exfalso;omega)|(conv=>whnf))|(refine Req.go ?_ ?_;omega;conv=>whnf)|(refine AKM.x ?_;conv=>whnf)|(refine CallP.go (hO) ?_;conv=>whnf)))
  refine StR.nat (enc:=eO) (some 0) rfl (fun e=>by cases e<;>rfl) (by omega) ?_
  (conv=>whnf)
  (repeat' (refine OpP.add ?_ ?_;omega;conv=>whnf))
  rw[hs]
  rw[show List.replicate i (0:Rat)++[0]=List.replicate (i+1) 0 by rw[List.replicate_succ']]
  exact AKM.back [] (by (conv=>whnf);exact ⟨rfl,rfl,rfl⟩) (ih (i+1) (by omega) (by omega))
 obtain rfl:i=m:=by omega
 clear ih
 rw[fillO_full (by simp)]
 (repeat' (first|(refine CmpP.go (fun hc => ?_) (fun hc => ?_)<;>first|(exfalso;omega)|(conv=>whnf))|(refine AKM.x ?_;conv=>whnf)))
 exact ⟨rfl,rfl,by simp,rfl,cl_eQs _⟩
theorem ev_spread (N:LinGLib L) (n:Nt) (src ex:Int) (hv:netB n=true) (hsm:SmallN (tsOf n)) (hnl:n.nodes.length≤4) (hs : -1≤src∧src≤n.s) (hex:InI ex):Ev L 144 [.agg (encN n),.int .i64 src,.int .i64 ex] (.sl false ((spreadQ n src ex).map eQ)):=by
 rw[netB_iff]at hv
 obtain ⟨h1,h2,h3,h4,h5,h6⟩:=hv
 have hwf:0≤n.c.f∧n.c.f≤62:=by unfold WV at h2;omega
 have hP:=ev_rational_Of N.toRatGLib (pw n.c.f) (by have:=pw_pos n.c.f;have:=pw_le62 hwf.2;omega)
 have hO:=ev_rational_Of N.toRatGLib 0 (by omega)
 have hI:=ev_rational_Of N.toRatGLib 1 (by omega)
 refine Ev.x N.network_spread rfl rfl ?_
 (repeat' (first|(refine OpP.add ?_ ?_;omega;conv=>whnf)|(refine AKM.x ?_;conv=>whnf)))
 obtain ⟨m,hm⟩ : ∃ m:Nat,1+n.s=m:=⟨_,(Int.toNat_of_nonneg (by omega)).symm⟩
 rw[hm]
 have hZ:=ev_zerosR N.toSysGLib m (by omega)
 refine CallR.go (enc:=eQ) m hZ (by simp) ?_
 (conv=>whnf)
 have hu1:=pw_pos n.c.f
 have hu2:(pw n.c.f).natAbs≤2^24:=by
  have hf:n.c.f<24:=by unfold WV at h2;omega
  have h9:(2:Nat)^n.c.f.toNat≤2^24:=Nat.pow_le_pow_right (by omega) (by omega)
  rw[pw]
  exact_mod_cast h9
 have hu0:((pw n.c.f:Int):Rat)≠0:=by
  intro e
  have:pw n.c.f=0:=by exact_mod_cast e
  omega
 have hlt:(tsOf n).length=n.nodes.length:=by simp [tsOf]
 have hvals : ∀ j,j≤n.nodes.length→Bs 23400 (exS ((pw n.c.f:Int):Rat) ex 0 (unitL m src) ((tsOf n).take j)):=by
  intro j hj
  have h:=exS_bs (ex:=ex) hu1 hu2 ((tsOf n).take j) 0 (unitL m src) ⟨fun ts h=>hsm.len ts (List.mem_of_mem_take h),fun ts h=>hsm.cf ts (List.mem_of_mem_take h)⟩ (Bs.unit _ _ _)
  have e:0+((tsOf n).take j).length=j:=by rw[List.length_take,hlt];omega
  rw[e]at h
  intro x hx
  refine (h x hx).le ?_
  rcases j with _|_|_|_|_|j
  ·decide
  ·decide
  ·decide
  ·decide
  ·decide
  ·omega
 have hvl : ∀ j,j≤n.nodes.length→(exS ((pw n.c.f:Int):Rat) ex 0 (unitL m src) ((tsOf n).take j)).length=m+j:=by
  intro j hj
  rw[exS_len,unitL_len,List.length_take,hlt];omega
 have hst:=exS_take ((pw n.c.f:Int):Rat) ex (unitL m src) (tsOf n)
 have hfin:spreadQ n src ex=exS ((pw n.c.f:Int):Rat) ex 0 (unitL m src) ((tsOf n).take n.nodes.length):=by
  rw[spreadQ,hm,Int.toNat_natCast,←hlt,List.take_length]
 rw[hfin]
 clear hfin
 (repeat' (first|(refine CmpP.go (fun hc => ?_) (fun hc => ?_)<;>first|(exfalso;omega)|(conv=>whnf))|(refine OpP.shl1 ?_ (fun _ _ => ?_);omega;conv=>whnf)))
 obtain ⟨p,rfl⟩ : ∃ p:Nat,src=p:=⟨_,(Int.toNat_of_nonneg (by omega)).symm⟩
 (repeat' (first|(refine Req.go ?_ ?_;omega;conv=>whnf)|(refine CallP.go (hI) ?_;conv=>whnf)))
 refine StR.at (enc:=eQ) p 1 (by omega) rfl (fun _=>rfl) (by simp;omega) ?_
 (conv=>whnf)
 rw[unit_set]
 rotate_left
 obtain rfl:src = -1:=by omega
 rw[←unitL_neg]
 all_goals
  (repeat' (first|(refine OpP.shl1 ?_ (fun _ _ => ?_);omega;conv=>whnf)|(refine LenP.go ?_;conv=>whnf)|(refine CallP.go (hP) ?_;conv=>whnf)))
  generalize unitL m _=w at *
  refine AKM.loop1 (fun j=>n.nodes.length-j) (fun (j:Nat)=>j≤n.nodes.length) (fun j=>[(34,.int .i64 j),(7,.row 19 0 3 0 (m+j:Nat))]) (fun j=>[(19,19,.rw 3 ((exS ((pw n.c.f:Int):Rat) ex 0 w ((tsOf n).take j)).map eQ))]) [] [] 0 (by (conv=>whnf);exact ⟨rfl,rfl,rfl⟩) (by omega) ?_
  intro j p2 ih
  by_cases hj:j<n.nodes.length
  ·obtain ⟨nd,hnd⟩ : ∃ nd,n.nodes[j]? = some nd:=⟨_,List.getElem?_eq_getElem hj⟩
   have hnd':n.nodes[(j:Int).toNat]? = some nd:=hnd
   have hts:(tsOf n)[j]? = some nd.ts:=by simp [tsOf,hnd]
   have hbv:=hvals j p2
   have hlv:=hvl j p2
   have hstj:=hst j nd.ts hts
   have htm:=nodesB_at h4 hnd
   have hL:nd.ts.length≤5:=hsm.len _ (List.mem_of_getElem? hts)
   have hC:=hsm.cf _ (List.mem_of_getElem? hts)
   generalize hV:exS ((pw n.c.f:Int):Rat) ex 0 w ((tsOf n).take j)=V at *
   (repeat' (first|(refine CmpP.go (fun hc => ?_) (fun hc => ?_)<;>first|(exfalso;omega)|(conv=>whnf))|(refine LenP.go ?_;conv=>whnf)|(refine RdP.at (by assumption) ?_ rfl ?_;omega;conv=>whnf)|(refine AKM.x ?_;conv=>whnf)|(refine CallP.go (hO) ?_;conv=>whnf)))
   refine AKM.loop2 (fun t _=>nd.ts.length-t) (fun (t:Nat) (acc:Rat)=>t≤nd.ts.length∧acc=sumQ V (nd.ts.take t)) (fun t acc=>[(43,.int .i64 t)]) (fun t acc=>[(11,11,.bx (eQ acc))]) [] [] 0 (0:Rat) (by (conv=>whnf);exact ⟨rfl,rfl,rfl⟩) ⟨by omega,rfl⟩ ?_
   intro t acc ⟨p3,p4⟩ jh
   have hsum:Bt 117200 acc:=by
    rw[p4]
    have a1:=hbv.sum (nd.ts.take t) (j:=24) (fun e he=>Bt.ofInt (hC e (List.mem_of_mem_take he)))
    refine a1.le (Nat.le_trans (Nat.mul_le_mul_right _ (show (nd.ts.take t).length≤5 by rw[List.length_take];omega)) (by decide))
   by_cases ht:t<nd.ts.length
   ·obtain ⟨e,he⟩ : ∃ e,nd.ts[t]? = some e:=⟨_,List.getElem?_eq_getElem ht⟩
    have he':nd.ts[(t:Int).toNat]? = some e:=he
    have hme:=List.mem_of_getElem? he
    have hok:=List.all_eq_true.1 htm e hme
    simp only[termB,decide_eq_true_eq]at hok
    have hce:=hC e hme
    obtain ⟨x,hx⟩ : ∃ x,V[e.1.toNat]? = some x:=⟨_,List.getElem?_eq_getElem (by omega)⟩
    have hxd:V.getD e.1.toNat 0=x:=by rw[List.getD_eq_getElem?_getD,hx];rfl
    have hbx:=hbv.at hx
    have hstk:=sumQ_take (vals:=V) he
    rw[hxd]at hstk
    have hSg:=ev_signQ N.toRatGLib hbx (by omega)
    have hE:=ev_rational_Of N.toRatGLib e.2 (by have:(2:Nat)^24=16777216:=rfl;omega)
    have hM:=ev_mulQ N.toRatGLib (Bt.ofInt hce) hbx (by omega) (by omega)
    have hA:=ev_addQ N.toRatGLib hsum ((Bt.ofInt hce).mul hbx) (by omega) (by omega)
    have z1:=sgn_num (x:=x)
    generalize sgn x.num=sx at *
    by_cases q1:e.2=0
    ·(repeat' (first|(refine CmpP.go (fun hc => ?_) (fun hc => ?_)<;>first|(exfalso;omega)|(conv=>whnf))|(refine OpP.add ?_ ?_;omega;conv=>whnf)|(refine RdP.at (by assumption) ?_ rfl ?_;omega;conv=>whnf)|(refine AKM.x ?_;conv=>whnf)))
     exact AKM.back [] (by (conv=>whnf);exact ⟨rfl,rfl,rfl⟩) (jh (t+1) acc (by omega) ⟨by omega,by rw[hstk,q1,show ((0:Int):Rat)=0 from rfl,Rat.zero_mul,Rat.add_zero];exact p4⟩)
    ·by_cases q2:sx=0
     ·have hx0:=z1.1 q2
      (repeat' (first|(refine CmpP.go (fun hc => ?_) (fun hc => ?_)<;>first|(exfalso;omega)|(conv=>whnf))|(refine Req.go ?_ ?_;omega;conv=>whnf)|(refine RdP.at (by assumption) ?_ rfl ?_;omega;conv=>whnf)|(refine LdR.int ?_ (fun _=>rfl) (fun v hv => ?_);omega;conv=>whnf)|(refine AKM.x ?_;conv=>whnf)))
      cases hx.symm.trans hv
      (repeat' (first|(refine CmpP.go (fun hc => ?_) (fun hc => ?_)<;>first|(exfalso;omega)|(conv=>whnf))|(refine OpP.add ?_ ?_;omega;conv=>whnf)|(refine CallP.go (hSg) ?_;conv=>whnf)))
      exact AKM.back [] (by (conv=>whnf);exact ⟨rfl,rfl,rfl⟩) (jh (t+1) acc (by omega) ⟨by omega,by rw[hstk,hx0,Rat.mul_zero,Rat.add_zero];exact p4⟩)
     ·(repeat' (first|(refine CmpP.go (fun hc => ?_) (fun hc => ?_)<;>first|(exfalso;omega)|(conv=>whnf))|(refine Req.go ?_ ?_;omega;conv=>whnf)|(refine RdP.at (by assumption) ?_ rfl ?_;omega;conv=>whnf)|(refine LdR.int ?_ (fun _=>rfl) (fun v hv => ?_);omega;conv=>whnf)|(refine AKM.x ?_;conv=>whnf)))
      cases hx.symm.trans hv
      (repeat' (first|(refine CmpP.go (fun hc => ?_) (fun hc => ?_)<;>first|(exfalso;omega)|(conv=>whnf))|(refine Req.go ?_ ?_;omega;conv=>whnf)|(refine LdR.int ?_ (fun _=>rfl) (fun v hv => ?_);omega;conv=>whnf)|(refine CallP.go (hSg) ?_;conv=>whnf)|(refine CallP.go (hE) ?_;conv=>whnf)))
      cases hx.symm.trans hv
      (repeat' (first|(refine OpP.add ?_ ?_;omega;conv=>whnf)|(refine CallP.go (hM) ?_;conv=>whnf)|(refine CallP.go (hA) ?_;conv=>whnf)))
      exact AKM.back [] (by (conv=>whnf);exact ⟨rfl,rfl,rfl⟩) (jh (t+1) (acc+((e.2:Int):Rat)*x) (by omega) ⟨by omega,by rw[hstk,←p4]⟩)
   ·obtain rfl:t=nd.ts.length:=by omega
    clear jh
    rw[List.take_length]at p4
    have hD:=ev_divQ N.toRatGLib hsum (Bt.ofInt hu2) (by omega) (by omega) hu0
    rw[←p4]at hstj
    by_cases q5:(j:Int)=ex
    ·have hA1:=ev_addQ N.toRatGLib (hsum.divz hu1 hu2) (Bt.ofInt (k:=0) (z:=1) (by decide)) (by omega) (by omega)
     rw[if_pos q5]at hstj
     (repeat' (first|(refine CmpP.go (fun hc => ?_) (fun hc => ?_)<;>first|(exfalso;omega)|(conv=>whnf))|(refine RowP.e1 ?_;conv=>whnf)|(refine AKM.x ?_;conv=>whnf)|(refine CallP.go (hD) ?_;conv=>whnf)|(refine CallP.go (hI) ?_;conv=>whnf)|(refine CallP.go (hA1) ?_;conv=>whnf)))
     refine AppR.one (enc:=eQ) (acc/((pw n.c.f:Int):Rat)+((1:Int):Rat)) rfl hlv.symm rfl (by omega) (by omega) ?_
     rw[show ((1:Int):Rat)=1 from rfl,←hstj,hvl (j+1) (by omega)]
     (repeat' (refine OpP.add ?_ ?_;omega;conv=>whnf))
     exact AKM.back [(19,86)] (by (conv=>whnf);exact ⟨rfl,rfl,rfl⟩) (ih (j+1) (by omega) (by omega))
    ·rw[if_neg q5,Rat.add_zero]at hstj
     (repeat' (first|(refine CmpP.go (fun hc => ?_) (fun hc => ?_)<;>first|(exfalso;omega)|(conv=>whnf))|(refine RowP.e1 ?_;conv=>whnf)|(refine AKM.x ?_;conv=>whnf)|(refine CallP.go (hD) ?_;conv=>whnf)))
     refine AppR.one (enc:=eQ) (acc/((pw n.c.f:Int):Rat)) rfl hlv.symm rfl (by omega) (by omega) ?_
     rw[←hstj,hvl (j+1) (by omega)]
     (repeat' (refine OpP.add ?_ ?_;omega;conv=>whnf))
     exact AKM.back [(19,86)] (by (conv=>whnf);exact ⟨rfl,rfl,rfl⟩) (ih (j+1) (by omega) (by omega))
  ·obtain rfl:j=n.nodes.length:=by omega
   clear ih
   (repeat' (first|(refine CmpP.go (fun hc => ?_) (fun hc => ?_)<;>first|(exfalso;omega)|(conv=>whnf))|(refine AKM.x ?_;conv=>whnf)))
   have hlv:=hvl n.nodes.length p2
   refine SnR.all (enc:=eQ) (fun _=>rfl) rfl (by omega) ?_
   exact FinP.go rfl (by simp only[Clean,true_and];exact cl_eQs _)
end Go.Eng

namespace Go.Eng
open F
attribute [local irreducible] AKM CmpP Req OpP UnP ConvP RdP LdR StR MkR LenP AppR AppN CpyR RowP SnR Bds SlS CallP CalP FinP pw LdM GetM SetM PutM MkM AppM SnM FlP CallR
set_option maxHeartbeats 4000000
variable {L:Lib}
def linQ (n:Nt):SysQ where
 a:=n.next.map fun e=>(List.range n.s.toNat).map fun (j:Nat)=>(spreadQ n ((j:Int)+1) (-1)).getD e.toNat 0
 b:=n.next.map fun e=>(spreadQ n 0 (-1)).getD e.toNat 0
 c:=(List.range n.s.toNat).map fun (j:Nat)=>(spreadQ n ((j:Int)+1) (-1)).getD n.out.toNat 0
 d:=(spreadQ n 0 (-1)).getD n.out.toNat 0
abbrev eC:Option (List Rat)→List AV
 | none=>[.nil]
 | some l=>[.sl false (l.map eQ)]
def fillC (l:List (List Rat)) (m:Nat):List (Option (List Rat)):=l.map some++List.replicate (m-l.length) none
theorem fillC_len {l:List (List Rat)} {m:Nat} (h:l.length≤m):(fillC l m).length=m:=by simp [fillC];omega
theorem fillC_set {l:List (List Rat)} {m:Nat} {x:List Rat} (h:l.length<m):(fillC l m).set l.length (some x)=fillC (l++[x]) m:=by
 unfold fillC
 rw[List.set_append_right _ _ (by simp)]
 obtain ⟨k,hk⟩ : ∃ k,m-l.length=k+1:=⟨m-l.length-1,by omega⟩
 rw[hk,List.length_map,Nat.sub_self,List.replicate_succ,List.set_cons_zero,List.length_append,List.length_singleton,show m-(l.length+1)=k by omega]
 simp
theorem fillM_set {α:Type} (a b:α) {t m:Nat} (_:t≤m) (h:t<m):(List.replicate t a++List.replicate (m-t) b).set t a=List.replicate (t+1) a++List.replicate (m-(t+1)) b:=by
 obtain ⟨k,hk⟩ : ∃ k,m-t=k+1:=⟨m-t-1,by omega⟩
 rw[List.set_append_right _ _ (by simp),hk,List.length_replicate,Nat.sub_self,List.replicate_succ,List.set_cons_zero,show m-(t+1)=k by omega,List.replicate_succ',List.append_assoc]
 rfl
def fz {α:Type} (z:α) (l:List α) (m:Nat):List α:=l++List.replicate (m-l.length) z
theorem fz_len {α:Type} {z:α} {l:List α} {m:Nat} (h:l.length≤m):(fz z l m).length=m:=by simp [fz];omega
theorem fz_len' {α:Type} (z:α) (l:List α) (m:Nat):(fz z l m).length=l.length+(m-l.length):=by simp [fz]
theorem fz_set {α:Type} {z x:α} {l:List α} {m:Nat} (h:l.length<m):(fz z l m).set l.length x=fz z (l++[x]) m:=by
 unfold fz
 obtain ⟨k,hk⟩ : ∃ k,m-l.length=k+1:=⟨m-l.length-1,by omega⟩
 rw[List.set_append_right _ _ (by simp),hk,Nat.sub_self,List.replicate_succ,List.set_cons_zero,List.length_append,List.length_singleton,show m-(l.length+1)=k by omega,List.append_assoc]
 rfl
theorem fz_at {α:Type} {z:α} {l:List α} {m:Nat} (h:l.length<m):(fz z l m)[l.length]? = some z:=by
 unfold fz
 rw[List.getElem?_append_right (by omega),Nat.sub_self,List.getElem?_replicate,if_pos (by omega)]
theorem fz_full {α:Type} {z:α} {l:List α} {m:Nat} (h:l.length=m):fz z l m=l:=by simp [fz,h]
theorem fillC_full (l:List (List Rat)):(fillC l l.length).map eC=l.map fun c=>[AV.sl false (c.map eQ)]:=by
 simp [fillC,Function.comp_def]
def colsQ (n:Nt) (i:Nat):List (List Rat):=(List.range i).map fun (j:Nat)=>spreadQ n (j:Int) (-1)
theorem colsQ_succ (n:Nt) (i:Nat):colsQ n (i+1)=colsQ n i++[spreadQ n (i:Int) (-1)]:=by simp [colsQ,List.range_succ]
theorem colsQ_len (n:Nt) (i:Nat):(colsQ n i).length=i:=by simp [colsQ]
theorem list_set_self {α:Type} {l:List α} {i:Nat} {x:α} (h:l[i]? = some x):l.set i x=l:=by
 refine List.ext_getElem? fun j => ?_
 rw[List.getElem?_set]
 split
 ·rename_i e;subst e
  rw[h];split
  ·rfl
  ·rename_i h2;rw[List.getElem?_eq_none (by omega)]at h;cases h
 ·rfl
theorem take_snocA {α:Type} {l:List α} {i:Nat} {x:α} (h:l[i]? = some x):l.take (i+1)=l.take i++[x]:=by
 rw[List.take_add_one,h];rfl
theorem spreadQ_len (n:Nt) (src ex:Int):(spreadQ n src ex).length=(1+n.s).toNat+n.nodes.length:=by
 simp only[spreadQ,exS_len,unitL_len,tsOf,List.length_map]
theorem spreadQ_bs (n:Nt) (src ex:Int) (h2:WV n.c) (hsm:SmallN (tsOf n)) (hnl:n.nodes.length≤4):Bs 23400 (spreadQ n src ex):=by
 have hlt:(tsOf n).length=n.nodes.length:=by simp [tsOf]
 have hu1:=pw_pos n.c.f
 have hu2:(pw n.c.f).natAbs≤2^24:=by
  have hf:n.c.f<24:=by unfold WV at h2;omega
  have h9:(2:Nat)^n.c.f.toNat≤2^24:=Nat.pow_le_pow_right (by omega) (by omega)
  rw[pw]
  exact_mod_cast h9
 have h:=exS_bs (ex:=ex) hu1 hu2 (tsOf n) 0 (unitL (1+n.s).toNat src) hsm (Bs.unit _ _ _)
 rw[hlt,Nat.zero_add]at h
 intro x hx
 refine (h x hx).le ?_
 generalize n.nodes.length=j at hnl
 rcases j with _|_|_|_|_|j
 ·decide
 ·decide
 ·decide
 ·decide
 ·decide
 ·omega
theorem hcolsat (n:Nt) (t:Nat) (j:Int) (h:0≤j∧j≤t):(colsQ n (t+1))[j.toNat]? = some (spreadQ n j (-1)):=by
 unfold colsQ
 rw[List.getElem?_map,List.getElem?_range (by omega),Option.map_some,Int.toNat_of_nonneg h.1]
theorem ev_Linear (I:FixedLib L) (N:LinGLib L) (n:Nt) (hv:netB n=true) (hsm:SmallN (tsOf n)) (hnl:n.nodes.length≤4):Ev L 146 [.agg (encN n)] (.tup [.agg (eS (linQ n)),.int .i64 0]):=by
 have hV:=ev_network_Valid n I N.toNetLib
 rw[hv]at hV
 have hSp:=fun (j:Int) (h:0≤j∧j≤n.s)=>ev_spread N n j (-1) hv hsm hnl (by omega) (by unfold InI;omega)
 have hO:=ev_rational_Of N.toRatGLib 0 (by omega)
 rw[netB_iff]at hv
 obtain ⟨h1,h2,h3,h4,h5,h6⟩:=hv
 have hnx : ∀ e∈n.next,0≤e∧e≤n.s+n.nodes.length:=fun e he=>by simpa using List.all_eq_true.1 h5 e he
 refine Ev.x N.network_Linear rfl rfl ?_
 (repeat' (first|(refine OpP.add ?_ ?_;omega;conv=>whnf)|(refine AKM.x ?_;conv=>whnf)|(refine CallP.go (hV) ?_;conv=>whnf)))
 obtain ⟨m,hm⟩ : ∃ m:Nat,n.s=m:=⟨n.s.toNat,(Int.toNat_of_nonneg (by omega)).symm⟩
 rw[hm]
 unfold MkM
 refine ⟨⟨by omega,by omega,by simp only[roomMax];omega,by omega⟩,?_⟩
 rw[show ((m:Int)+1).toNat=m+1 by omega]
 (conv=>whnf)
 skip
 refine AKM.mxN 146018 146018 (m+1) rfl ?_
 skip
 rw[show List.replicate (m+1) [AV.nil]=(fillC (colsQ n 0) (m+1)).map eC by simp [fillC,colsQ]]
 refine AKM.loop1 (fun i=>m+1-i) (fun (i:Nat)=>i≤m+1) (fun i=>[(21,.int .i64 i)]) (fun i=>[(146018,146018,.rw 1 ((fillC (colsQ n i) (m+1)).map eC))]) [] [] 0 (by (conv=>whnf);exact ⟨rfl,rfl,rfl⟩) (by omega) ?_
 intro i p1 ih
 by_cases hi:i<m+1
 ·have hl:=fillC_len (l:=colsQ n i) (m:=m+1) (by rw[colsQ_len];omega)
  have hst:=fillC_set (l:=colsQ n i) (m:=m+1) (x:=spreadQ n (i:Int) (-1)) (by rw[colsQ_len];omega)
  rw[colsQ_len,←colsQ_succ]at hst
  have hS:=hSp i (by omega)
  unfold encN at hS
  rw[hm]at hS
  (repeat' (first|(refine CmpP.go (fun hc => ?_) (fun hc => ?_)<;>first|(exfalso;omega)|(conv=>whnf))|(refine Req.go ?_ ?_;omega;conv=>whnf)|(refine AKM.x ?_;conv=>whnf)|(refine CallP.go (hS) ?_;conv=>whnf)))
  refine StR.nat (enc:=eC) (some (spreadQ n (i:Int) (-1))) rfl (fun e=>by cases e<;>rfl) (by omega) ?_
  (conv=>whnf)
  (repeat' (refine OpP.add ?_ ?_;omega;conv=>whnf))
  rw[hst]
  exact AKM.back [] (by (conv=>whnf);exact ⟨rfl,rfl,rfl⟩) (ih (i+1) (by omega) (by omega))
 ·obtain rfl:i=m+1:=by omega
  clear ih
  (repeat' (first|(refine CmpP.go (fun hc => ?_) (fun hc => ?_)<;>first|(exfalso;omega)|(conv=>whnf))|(refine AKM.x ?_;conv=>whnf)))
  refine CalP.walkC 1000 N.network_zero rfl rfl ?_
  (repeat' (refine AKM.x ?_;conv=>whnf))
  unfold MkM
  refine ⟨⟨by omega,by omega,by simp only[roomMax];omega,by omega⟩,?_⟩
  rw[Int.toNat_natCast]
  (conv=>whnf)
  have hZ:=ev_zerosR N.toSysGLib m (by omega)
  refine CallR.go (enc:=eQ) m hZ (by simp) ?_
  (conv=>whnf)
  refine CallR.go (enc:=eQ) m hZ (by simp) ?_
  (conv=>whnf)
  (repeat' (refine CallP.go (hO) ?_;conv=>whnf))
  refine AKM.loop1 (fun t=>m-t) (fun (t:Nat)=>t≤m) (fun t=>[(16,.int .i64 t)]) (fun t=>[(145006,145006,.mx (List.replicate t (some (3,(List.replicate m (0:Rat)).map eQ))++List.replicate (m-t) none))]) [] [] 0 (by (conv=>whnf);exact ⟨rfl,rfl,rfl⟩) (by omega) ?_
  intro t p4 th
  by_cases ht:t<m
  ·(repeat' (first|(refine CmpP.go (fun hc => ?_) (fun hc => ?_)<;>first|(exfalso;omega)|(conv=>whnf))|(refine AKM.x ?_;conv=>whnf)))
   refine CallR.go (enc:=eQ) m hZ (by simp) ?_
   (conv=>whnf)
   (repeat' (first|(refine Req.go ?_ ?_;omega;conv=>whnf)|fail))
   unfold Req SetM
   refine ⟨by simp,by simp;omega,?_⟩
   (conv=>whnf)
   rw[show 0+((t:Int)).toNat=t by omega,fillM_set _ _ p4 ht]
   (repeat' (refine OpP.add ?_ ?_;omega;conv=>whnf))
   exact AKM.back [] (by (conv=>whnf);exact ⟨rfl,rfl,rfl⟩) (th (t+1) (by omega) (by omega))
  obtain rfl:t=m:=by omega
  clear th
  have hcs:=hcolsat n t
  rw[show List.replicate t (some (3,List.map eQ (List.replicate t 0)))++List.replicate (t-t) none=mxR 3 eQ (fz (List.replicate t 0) [] t) by simp [mxR,fz],show List.replicate t (0:Rat)=fz 0 [] t by simp [fz],show (fillC (colsQ n (t+1)) (t+1)).map eC=(colsQ n (t+1)).map fun c=>[AV.sl false (c.map eQ)] by rw[←fillC_full,colsQ_len]]
  (repeat' (first|(refine CmpP.go (fun hc => ?_) (fun hc => ?_)<;>first|(exfalso;omega)|(conv=>whnf))|(refine AKM.x ?_;conv=>whnf)))
  refine ⟨rfl,?_⟩
  (conv=>whnf)
  (repeat' (refine LenP.go ?_;conv=>whnf))
  have hsn:n.s.toNat=t:=by omega
  have hnl2:n.next.length=t:=by omega
  have hcql:=colsQ_len n (t+1)
  refine AKM.loop1 (fun i=>n.next.length-i) (fun (i:Nat)=>i≤n.next.length) (fun i=>[(37,.int .i64 i)]) (fun i=>[(145006,145006,.mx (mxR 3 eQ (fz (List.replicate t 0) ((linQ n).a.take i) t))),(145008,145008,.rw 3 ((fz 0 ((linQ n).b.take i) t).map eQ))]) [] [] 0 (by (conv=>whnf);exact ⟨rfl,rfl,rfl⟩) (by omega) ?_
  intro i q1 ih
  by_cases hi:i<n.next.length
  ·obtain ⟨e,he⟩ : ∃ e,n.next[i]? = some e:=⟨_,List.getElem?_eq_getElem hi⟩
   have hx':n.next[(i:Int).toNat]? = some e:=he
   have hrow:(linQ n).a[i]? = some ((List.range t).map fun (j:Nat)=>(spreadQ n ((j:Int)+1) (-1)).getD e.toNat 0):=by
    rw[←hsn];simp only[linQ,List.getElem?_map,he,Option.map_some]
   have hbe:(linQ n).b[i]? = some ((spreadQ n 0 (-1)).getD e.toNat 0):=by
    simp only[linQ,List.getElem?_map,he,Option.map_some]
   have hal:(linQ n).a.length=t:=by simp [linQ,hnl2]
   have hbl:(linQ n).b.length=t:=by simp [linQ,hnl2]
   have htk:((linQ n).a.take i).length=i:=by rw[List.length_take];omega
   have htb:((linQ n).b.take i).length=i:=by rw[List.length_take];omega
   have hA0:fz (List.replicate t 0) ((linQ n).a.take i) t=(fz (List.replicate t 0) ((linQ n).a.take i) t).set i (fz 0 [] t):=by
    have:=fz_at (z:=List.replicate t (0:Rat)) (l:=(linQ n).a.take i) (m:=t) (by omega)
    rw[htk]at this
    rw[show fz (0:Rat) [] t=List.replicate t 0 by simp [fz]]
    exact (list_set_self this).symm
   have hAs:=fz_set (z:=List.replicate t (0:Rat)) (l:=(linQ n).a.take i) (m:=t) (x:=(List.range t).map fun (j:Nat)=>(spreadQ n ((j:Int)+1) (-1)).getD e.toNat 0) (by omega)
   have hBs:=fz_set (z:=(0:Rat)) (l:=(linQ n).b.take i) (m:=t) (x:=(spreadQ n 0 (-1)).getD e.toNat 0) (by omega)
   rw[htk,←take_snocA hrow]at hAs
   rw[htb,←take_snocA hbe]at hBs
   have hAl:=fz_len (z:=List.replicate t (0:Rat)) (l:=(linQ n).a.take i) (m:=t) (by omega)
   have hBl:=fz_len (z:=(0:Rat)) (l:=(linQ n).b.take i) (m:=t) (by omega)
   have hen:=hnx e (List.mem_of_getElem? he)
   generalize fz (List.replicate t 0) ((linQ n).a.take i) t=A0 at *
   generalize fz (0:Rat) ((linQ n).b.take i) t=B0 at *
   have hA1:A0=A0.set i (fz 0 ((List.range 0).map fun (j:Nat)=>(spreadQ n ((j:Int)+1) (-1)).getD e.toNat 0) t):=hA0
   (repeat' (first|(refine CmpP.go (fun hc => ?_) (fun hc => ?_)<;>first|(exfalso;omega)|(conv=>whnf))|(refine RdP.at (by assumption) ?_ rfl ?_;omega;conv=>whnf)|(refine AKM.x ?_;conv=>whnf)))
   refine AKM.loop1 (fun j=>t-j) (fun (j:Nat)=>j≤t) (fun j=>[(44,.int .i64 j)]) (fun j=>[(145006,145006,.mx (mxR 3 eQ (A0.set i (fz 0 ((List.range j).map fun (j:Nat)=>(spreadQ n ((j:Int)+1) (-1)).getD e.toNat 0) t))))]) [] [] 0 (by first|exact (by (conv=>whnf);exact ⟨rfl,rfl,rfl⟩)|(rw[←hA1];exact (by (conv=>whnf);exact ⟨rfl,rfl,rfl⟩))) (by omega) ?_
   intro j q2 jh
   have hcl:((List.range j).map fun (j:Nat)=>(spreadQ n ((j:Int)+1) (-1)).getD e.toNat 0).length=j:=by simp
   by_cases hj:j<t
   ·have hcol:=hcs ((j:Int)+1) (by omega)
    have hxl:=spreadQ_len n ((j:Int)+1) (-1)
    have hxb:=spreadQ_bs n ((j:Int)+1) (-1) h2 hsm hnl
    obtain ⟨x,hx⟩ : ∃ x,(spreadQ n ((j:Int)+1) (-1))[e.toNat]? = some x:=⟨_,List.getElem?_eq_getElem (by omega)⟩
    have hxd:(spreadQ n ((j:Int)+1) (-1)).getD e.toNat 0=x:=by rw[List.getD_eq_getElem?_getD,hx];rfl
    have hT:=ev_trimQ N.toRatGLib (hxb.at hx) (by omega)
    have hcs2:=fz_set (z:=(0:Rat)) (l:=(List.range j).map fun (j:Nat)=>(spreadQ n ((j:Int)+1) (-1)).getD e.toNat 0) (m:=t) (x:=x) (by omega)
    have hcl2:=fz_len (z:=(0:Rat)) (l:=(List.range j).map fun (j:Nat)=>(spreadQ n ((j:Int)+1) (-1)).getD e.toNat 0) (m:=t) (by omega)
    rw[hcl,show ((List.range j).map fun (j:Nat)=>(spreadQ n ((j:Int)+1) (-1)).getD e.toNat 0)++[x]=(List.range (j+1)).map fun (j:Nat)=>(spreadQ n ((j:Int)+1) (-1)).getD e.toNat 0 by rw[List.range_succ,List.map_append,List.map_singleton,hxd]]at hcs2
    have hrw:(A0.set i (fz 0 ((List.range j).map fun (j:Nat)=>(spreadQ n ((j:Int)+1) (-1)).getD e.toNat 0) t))[i]? = some (fz 0 ((List.range j).map fun (j:Nat)=>(spreadQ n ((j:Int)+1) (-1)).getD e.toNat 0) t):=by
     rw[List.getElem?_set,if_pos rfl,if_pos (by omega)]
    have hsl:(A0.set i (fz 0 ((List.range j).map fun (j:Nat)=>(spreadQ n ((j:Int)+1) (-1)).getD e.toNat 0) t)).length=t:=by rw[List.length_set];omega
    (repeat' (first|(refine CmpP.go (fun hc => ?_) (fun hc => ?_)<;>first|(exfalso;omega)|(conv=>whnf))|(refine Req.go ?_ ?_;omega;conv=>whnf)|(refine OpP.add ?_ ?_;omega;conv=>whnf)|(refine LdR.int ?_ (fun _=>rfl) (fun v hv => ?_);omega;conv=>whnf)|(refine LdM.nat ?_ (fun r hr => ?_);omega;conv=>whnf)|(refine AKM.x ?_;conv=>whnf)))
    cases hrw.symm.trans hr
    cases hcol.symm.trans hv
    (repeat' (first|(refine RdP.at (by assumption) ?_ rfl ?_;omega;conv=>whnf)|(refine CallP.go (hT) ?_;conv=>whnf)))
    refine Req.go (by rw[List.length_map];omega) ?_
    (conv=>whnf)
    (repeat' (refine GetM.ati (by assumption) ?_;conv=>whnf))
    refine StR.nat (enc:=eQ) x rfl (fun _=>rfl) (by omega) ?_
    (conv=>whnf)
    rw[hcs2]
    refine PutM.nat (by simp only[fz_len' , hcl,List.length_map,List.length_range];omega) ?_
    rw[List.set_set]
    (conv=>whnf)
    (repeat' (refine OpP.add ?_ ?_;omega;conv=>whnf))
    exact AKM.back [] (by (conv=>whnf);exact ⟨rfl,rfl,rfl⟩) (jh (j+1) (by omega) (by omega))
   ·obtain rfl:j=t:=by omega
    clear jh
    rw[fz_full hcl,hAs]
    have hcol:=hcs 0 (by omega)
    have hxl:=spreadQ_len n 0 (-1)
    have hxb:=spreadQ_bs n 0 (-1) h2 hsm hnl
    obtain ⟨x,hx⟩ : ∃ x,(spreadQ n 0 (-1))[e.toNat]? = some x:=⟨_,List.getElem?_eq_getElem (by omega)⟩
    have hxd:(spreadQ n 0 (-1)).getD e.toNat 0=x:=by rw[List.getD_eq_getElem?_getD,hx];rfl
    rw[hxd]at hBs
    have hT:=ev_trimQ N.toRatGLib (hxb.at hx) (by omega)
    (repeat' (first|(refine CmpP.go (fun hc => ?_) (fun hc => ?_)<;>first|(exfalso;omega)|(conv=>whnf))|(refine Req.go ?_ ?_;omega;conv=>whnf)|(refine LdR.int ?_ (fun _=>rfl) (fun v hv => ?_);omega;conv=>whnf)|(refine AKM.x ?_;conv=>whnf)))
    cases hcol.symm.trans hv
    (repeat' (first|(refine Req.go ?_ ?_;omega;conv=>whnf)|(refine RdP.at (by assumption) ?_ rfl ?_;omega;conv=>whnf)|(refine CallP.go (hT) ?_;conv=>whnf)))
    refine StR.nat (enc:=eQ) x rfl (fun _=>rfl) (by omega) ?_
    (conv=>whnf)
    rw[hBs]
    (repeat' (refine OpP.add ?_ ?_;omega;conv=>whnf))
    exact AKM.back [] (by (conv=>whnf);exact ⟨rfl,rfl,rfl⟩) (ih (i+1) (by omega) (by omega))
  ·obtain rfl:i=n.next.length:=by omega
   clear ih
   have hal:(linQ n).a.length=t:=by simp [linQ,hnl2]
   have hbl:(linQ n).b.length=t:=by simp [linQ,hnl2]
   rw[List.take_of_length_le (show (linQ n).a.length≤n.next.length by omega),List.take_of_length_le (show (linQ n).b.length≤n.next.length by omega),fz_full hal,fz_full hbl]
   (repeat' (first|(refine CmpP.go (fun hc => ?_) (fun hc => ?_)<;>first|(exfalso;omega)|(conv=>whnf))|(refine AKM.x ?_;conv=>whnf)))
   refine AKM.loop1 (fun j=>t-j) (fun (j:Nat)=>j≤t) (fun j=>[(78,.int .i64 j)]) (fun j=>[(145010,145010,.rw 3 ((fz 0 ((List.range j).map fun (j:Nat)=>(spreadQ n ((j:Int)+1) (-1)).getD n.out.toNat 0) t).map eQ))]) [] [] 0 (by (conv=>whnf);exact ⟨rfl,rfl,rfl⟩) (by omega) ?_
   intro j q2 jh
   have hcl:((List.range j).map fun (j:Nat)=>(spreadQ n ((j:Int)+1) (-1)).getD n.out.toNat 0).length=j:=by simp
   by_cases hj:j<t
   ·have hcol:=hcs ((j:Int)+1) (by omega)
    have hxl:=spreadQ_len n ((j:Int)+1) (-1)
    have hxb:=spreadQ_bs n ((j:Int)+1) (-1) h2 hsm hnl
    obtain ⟨x,hx⟩ : ∃ x,(spreadQ n ((j:Int)+1) (-1))[n.out.toNat]? = some x:=⟨_,List.getElem?_eq_getElem (by omega)⟩
    have hxd:(spreadQ n ((j:Int)+1) (-1)).getD n.out.toNat 0=x:=by rw[List.getD_eq_getElem?_getD,hx];rfl
    have hT:=ev_trimQ N.toRatGLib (hxb.at hx) (by omega)
    have hcs2:=fz_set (z:=(0:Rat)) (l:=(List.range j).map fun (j:Nat)=>(spreadQ n ((j:Int)+1) (-1)).getD n.out.toNat 0) (m:=t) (x:=x) (by omega)
    have hcl2:=fz_len (z:=(0:Rat)) (l:=(List.range j).map fun (j:Nat)=>(spreadQ n ((j:Int)+1) (-1)).getD n.out.toNat 0) (m:=t) (by omega)
    rw[hcl,show ((List.range j).map fun (j:Nat)=>(spreadQ n ((j:Int)+1) (-1)).getD n.out.toNat 0)++[x]=(List.range (j+1)).map fun (j:Nat)=>(spreadQ n ((j:Int)+1) (-1)).getD n.out.toNat 0 by rw[List.range_succ,List.map_append,List.map_singleton,hxd]]at hcs2
    (repeat' (first|(refine CmpP.go (fun hc => ?_) (fun hc => ?_)<;>first|(exfalso;omega)|(conv=>whnf))|(refine Req.go ?_ ?_;omega;conv=>whnf)|(refine OpP.add ?_ ?_;omega;conv=>whnf)|(refine LdR.int ?_ (fun _=>rfl) (fun v hv => ?_);omega;conv=>whnf)|(refine AKM.x ?_;conv=>whnf)))
    cases hcol.symm.trans hv
    (repeat' (first|(refine Req.go ?_ ?_;omega;conv=>whnf)|(refine RdP.at (by assumption) ?_ rfl ?_;omega;conv=>whnf)|(refine CallP.go (hT) ?_;conv=>whnf)))
    refine StR.nat (enc:=eQ) x rfl (fun _=>rfl) (by omega) ?_
    (conv=>whnf)
    rw[hcs2]
    (repeat' (refine OpP.add ?_ ?_;omega;conv=>whnf))
    exact AKM.back [] (by (conv=>whnf);exact ⟨rfl,rfl,rfl⟩) (jh (j+1) (by omega) (by omega))
   ·obtain rfl:j=t:=by omega
    clear jh
    rw[fz_full hcl]
    have hcol:=hcs 0 (by omega)
    have hxl:=spreadQ_len n 0 (-1)
    have hxb:=spreadQ_bs n 0 (-1) h2 hsm hnl
    obtain ⟨x,hx⟩ : ∃ x,(spreadQ n 0 (-1))[n.out.toNat]? = some x:=⟨_,List.getElem?_eq_getElem (by omega)⟩
    have hxd:(spreadQ n 0 (-1)).getD n.out.toNat 0=x:=by rw[List.getD_eq_getElem?_getD,hx];rfl
    have hT:=ev_trimQ N.toRatGLib (hxb.at hx) (by omega)
    have hd:(linQ n).d=x:=hxd
    have hcc:(linQ n).c=(List.range j).map fun (j:Nat)=>(spreadQ n ((j:Int)+1) (-1)).getD n.out.toNat 0:=by rw[linQ,hsn]
    rw[←hcc]
    (repeat' (first|(refine CmpP.go (fun hc => ?_) (fun hc => ?_)<;>first|(exfalso;omega)|(conv=>whnf))|(refine Req.go ?_ ?_;omega;conv=>whnf)|(refine LdR.int ?_ (fun _=>rfl) (fun v hv => ?_);omega;conv=>whnf)|(refine AKM.x ?_;conv=>whnf)))
    cases hcol.symm.trans hv
    (repeat' (first|(refine RdP.at (by assumption) ?_ rfl ?_;omega;conv=>whnf)|(refine CallP.go (hT) ?_;conv=>whnf)))
    have hcn:(linQ n).c.length=j:=by rw[hcc,hcl]
    refine SnM.all (fun _=>rfl) rfl hal.symm ?_
    (conv=>whnf)
    refine SnR.all (enc:=eQ) (fun _=>rfl) rfl hbl.symm ?_
    (conv=>whnf)
    refine SnR.all (enc:=eQ) (fun _=>rfl) rfl hcn.symm ?_
    (conv=>whnf)
    refine FinP.go (by rw[←hd];rfl) ?_
    simp only[Clean,CleanL,and_true]
    exact cl_eS (linQ n)
end Go.Eng

namespace Go.Eng
variable {L:Lib}
end Go.Eng

namespace Go.Eng
open F
attribute [local irreducible] AKM CmpP Req OpP UnP ConvP RdP LdR StR MkR LenP AppR AppN CpyR RowP SnR Bds SlS CallP CalP FinP pw LdM GetM SetM PutM MkM AppM SnM FlP CallR
set_option maxHeartbeats 16000000
variable {L:Lib}
def tfA (S:SysQ) (n:Nat):List Rat:=trimQ (belowQ S.a n n)
def tfB (S:SysQ) (n:Nat):List Rat:=trimQ (addP (aboveQ S n n) (trimQ ((belowQ S.a n n).map (· * S.d))))
def cf (l:List Rat) (prev:List (Option Rat)) (i:Nat):List (Option Rat):=(l.take i).map some++prev.drop i
end Go.Eng

namespace Go.Eng
theorem nextQ_zero (now:List Rat) : ∀ (a:List (List Rat)) (b:List Rat),a.length=b.length→nextQ now 0 a b=mvQ a now
 | [],[],_=>rfl
 | r::a,y::b,h=>by
  show (dotQ r now+y*0)::nextQ now 0 a b=dotQ r now::mvQ a now
  rw[nextQ_zero now a b (by simpa using h),Rat.mul_zero,Rat.add_zero]
theorem nextQ_first (n:Nat) : ∀ (a:List (List Rat)) (b:List Rat),a.length=b.length→nextQ (List.replicate n 0) 1 a b=b
 | [],[],_=>rfl
 | r::a,y::b,h=>by
  show (dotQ r (List.replicate n 0)+y*1)::nextQ (List.replicate n 0) 1 a b=y::b
  rw[nextQ_first n a b (by simpa using h),dotQ_zerosR,Rat.mul_one,Rat.zero_add]
theorem outs_w {S:SysQ} (h:S.a.length=S.b.length) : ∀ (m j:Nat),S.outs (wQ S j) (List.replicate m 0)=(List.range m).map fun i=>dotQ S.c (wQ S (j+i))
 | 0,_=>rfl
 | m+1,j=>by
  have e:S.next (wQ S j) 0=wQ S (j+1):=nextQ_zero _ _ _ h
  rw[List.replicate_succ]
  show (dotQ S.c (wQ S j)+S.d*0)::S.outs (S.next (wQ S j) 0) (List.replicate m 0)=_
  rw[e,outs_w h m (j+1),Rat.mul_zero,Rat.add_zero,List.range_succ_eq_map,List.map_cons,List.map_map]
  congr 1
  refine List.map_congr_left fun i _ => ?_
  simp only[Function.comp]
  rw[show j+1+i=j+(i+1) by omega]
def hQ (S:SysQ):Nat→Rat
 | 0=>S.d
 | j+1=>dotQ S.c (wQ S j)
theorem imp_at {S:SysQ} {n m j:Nat} (h:S.a.length=S.b.length) (hj:j<m):(S.outs (List.replicate n 0) (impL m))[j]? = some (hQ S j):=by
 cases m with
 | zero=>omega
 | succ m =>
  show ((dotQ S.c (List.replicate n 0)+S.d*1)::S.outs (S.next (List.replicate n 0) 1) (List.replicate m 0))[j]? = _
  have e:S.next (List.replicate n 0) 1=wQ S 0:=nextQ_first n _ _ h
  rw[e,outs_w h m 0,dotQ_zerosR,Rat.mul_one,Rat.zero_add]
  cases j with
  | zero=>rfl
  | succ j =>
   rw[List.getElem?_cons_succ,List.getElem?_map,List.getElem?_range (by omega),Option.map_some,Nat.zero_add]
   rfl
theorem cut_zero {l:List Rat} : ∀ {n i:Nat},cutN l n≤i→i<n→l.getD i 0=0
 | 0,i,_,h=>by omega
 | n+1,i,h,hi=>by
  rw[cutN]at h
  split at h
  ·rename_i h0
   by_cases e:i=n
   ·subst e;exact h0
   ·exact cut_zero h (by omega)
  ·omega
theorem trimQ_getD (l:List Rat) (i:Nat):(trimQ l).getD i 0=l.getD i 0:=by
 by_cases h:i<cutN l l.length
 ·have:=cutN_le l l.length
  rw[trimQ,List.getD_eq_getElem?_getD,List.getElem?_take_of_lt h,List.getD_eq_getElem?_getD]
 ·rw[gD_ge (by rw[trimQ_len];omega)]
  by_cases h2:i<l.length
  ·exact (cut_zero (by omega) h2).symm
  ·exact (gD_ge (by omega)).symm
theorem below_getD (a:List (List Rat)) (n i:Nat) (h:i≤n):(belowQ a n n).getD i 0=cfQ a n i:=by
 cases i with
 | zero=>rfl
 | succ i =>
  rw[belowQ,List.getD_cons_succ,List.getD_eq_getElem?_getD,List.getElem?_map,List.getElem?_range (by omega)]
  rfl
theorem addP_getD (p r:List Rat) (h:r.length≤p.length) (i:Nat):(addP p r).getD i 0=p.getD i 0+r.getD i 0:=by
 by_cases hi:i<p.length
 ·exact gD_of (addP_at hi)
 ·rw[gD_ge (by rw[addP_len];omega),gD_ge (by omega),gD_ge (by omega),Rat.add_zero]
theorem smap_getD (l:List Rat) (d:Rat) (i:Nat):(l.map (· * d)).getD i 0=l.getD i 0*d:=by
 rw[List.getD_eq_getElem?_getD,List.getD_eq_getElem?_getD,List.getElem?_map]
 cases l[i]? with
 | none=>simp
 | some x=>rfl
theorem tf_law {S:SysQ} {n k:Nat} (h:S.Ok n k) (hn:n≤4) (K:Nat) (hK:K≤n+2) :
  conv (fun a=>(tfA S n).getD a 0) (hQ S) K (min (tfA S n).length (K+1))=(tfB S n).getD K 0:=by
 have hs:Sq n S.a:=⟨h.la,h.lr⟩
 have hbl:=belowQ_len S.a n n
 have hal:=aboveQ_len S n n
 have hle:(trimQ ((belowQ S.a n n).map (· * S.d))).length≤(aboveQ S n n).length:=by
  rw[trimQ_len]
  have:=cutN_le ((belowQ S.a n n).map (· * S.d)) ((belowQ S.a n n).map (· * S.d)).length
  rw[List.length_map]at this ⊢
  omega
 have hR:(tfB S n).getD K 0=(aboveQ S n n).getD K 0+(belowQ S.a n n).getD K 0*S.d:=by
  rw[tfB,trimQ_getD,addP_getD _ _ hle,trimQ_getD,smap_getD]
 have hL:conv (fun a=>(tfA S n).getD a 0) (hQ S) K (min (tfA S n).length (K+1))=conv (fun a=>(belowQ S.a n n).getD a 0) (hQ S) K (K+1):=by
  have e:conv (fun a=>(tfA S n).getD a 0) (hQ S) K (min (tfA S n).length (K+1))=conv (fun a=>(tfA S n).getD a 0) (hQ S) K (K+1):=by
   by_cases h1:(tfA S n).length≤K+1
   ·rw[Nat.min_eq_left h1]
    have:=conv_more (A:=fun a=>(tfA S n).getD a 0) (h:=hQ S) (K:=K) (m:=(tfA S n).length) (fun a ha=>gD_ge ha) (K+1-(tfA S n).length)
    rw[show (tfA S n).length+(K+1-(tfA S n).length)=K+1 by omega]at this
    exact this.symm
   ·rw[Nat.min_eq_right (by omega)]
  rw[e]
  exact conv_congr (K+1) (fun a _=>trimQ_getD _ a) fun _ _=>rfl
 have hCH:mvQ (flM S.a n n) S.b=List.replicate n 0:=by
  rw[chz_all hs hn,mvQ,List.map_replicate,dotQ_zeros]
 have hbz : ∀ a,n+1≤a→(belowQ S.a n n).getD a 0=0:=fun a ha=>gD_ge (by omega)
 rw[hL,hR]
 by_cases hKn:K≤n
 ·have e1:conv (fun a=>(belowQ S.a n n).getD a 0) (hQ S) K (K+1)=conv (cfQ S.a n) (hQ S) K (K+1):=conv_congr (K+1) (fun a ha=>below_getD _ _ _ (by omega)) fun _ _=>rfl
  rw[e1,below_getD _ _ _ hKn]
  cases K with
  | zero =>
   simp only[conv,Nat.sub_self,hQ,aboveQ,List.getD_cons_zero]
  | succ k =>
   have e2:conv (cfQ S.a n) (hQ S) (k+1) (k+1)=conv (cfQ S.a n) (fun j=>dotQ S.c (wQ S j)) k (k+1):=by
    refine conv_congr (k+1) (fun _ _=>rfl) fun a ha => ?_
    rw[show k+1-a=(k-a)+1 by omega];rfl
   have e3:=fl_conv hs h.lb k S.c h.lc
   rw[conv,e2,←e3,Nat.sub_self]
   congr 1
   rw[aboveQ,List.getD_cons_succ,List.getD_eq_getElem?_getD,List.getElem?_map,List.getElem?_range (by omega)]
   rfl
 ·rw[hbz K (by omega),gD_ge (l:=aboveQ S n n) (by omega),Rat.zero_mul,Rat.zero_add]
  obtain ⟨d,rfl⟩ : ∃ d,K=n+1+d:=⟨K-(n+1),by omega⟩
  have e0:=conv_more (A:=fun a=>(belowQ S.a n n).getD a 0) (h:=hQ S) (K:=n+1+d) (m:=n+1) hbz (d+1)
  rw[show n+1+(d+1)=n+1+d+1 by omega]at e0
  rw[e0]
  have e1:conv (fun a=>(belowQ S.a n n).getD a 0) (hQ S) (n+1+d) (n+1)=conv (cfQ S.a n) (fun j=>dotQ S.c (wQ S (j+d))) n (n+1):=by
   refine conv_congr (n+1) (fun a ha=>below_getD _ _ _ (by omega)) fun a ha => ?_
   rw[show n+1+d-a=(n-a+d)+1 by omega];rfl
  rw[e1]
  have hd:d=0∨d=1:=by omega
  rcases hd with rfl|rfl
  ·have e3:=fl_conv hs h.lb n S.c h.lc
   rw[hCH,dotQ_zerosR]at e3
   exact e3.symm
  ·have e3:=fl_conv hs h.lb n (mulRow S.c S.a n) (mulRow_len _ _ _)
   rw[hCH,dotQ_zerosR]at e3
   rw[e3]
   exact conv_congr (n+1) (fun _ _=>rfl) fun a _=>(dotQ_assoc S.a S.c hs.r).symm
end Go.Eng

namespace Go.Eng
theorem trimQ_last {r:List Rat} (h:trimQ r=r) (hn:r.length≠0):r.getD (r.length-1) 0≠0:=by
 have hl:=trimQ_len r
 rw[h]at hl
 obtain ⟨n,hn'⟩ : ∃ n,r.length=n+1:=⟨r.length-1,by omega⟩
 rw[hn',cutN]at hl
 rw[hn',Nat.add_sub_cancel]
 intro h0
 rw[if_pos h0]at hl
 have:=cutN_le r n
 omega
theorem trimQ_eq {l r:List Rat} (hr:trimQ r=r) (h : ∀ i,l.getD i 0=r.getD i 0):trimQ l=r:=by
 have ht:=trimQ_idem l
 have hg : ∀ i,(trimQ l).getD i 0=r.getD i 0:=fun i=>by rw[trimQ_getD,h]
 generalize trimQ l=t at *
 have hle:t.length=r.length:=by
  by_cases h1:t.length<r.length
  ·exact absurd (by rw[←hg];exact gD_ge (by omega)) (trimQ_last hr (by omega))
  ·by_cases h2:r.length<t.length
   ·exact absurd (by rw[hg];exact gD_ge (by omega)) (trimQ_last ht (by omega))
   ·omega
 refine List.ext_getElem? fun i => ?_
 by_cases hi:i<t.length
 ·have e1:t[i]? = some t[i]:=List.getElem?_eq_getElem hi
  have e2:r[i]? = some (r[i]'(by omega)):=List.getElem?_eq_getElem (by omega)
  have:=hg i
  rw[gD_of e1,gD_of e2]at this
  rw[e1,e2,this]
 ·rw[List.getElem?_eq_none (by omega),List.getElem?_eq_none (by omega)]
def ctlQ (B A:List Rat) (n:Nat):SysQ where
 a:=(List.range n).map fun i=>if i=0 then (List.range n).map fun k => -(A.getD (k+1) 0) else unitL n ((i-1:Nat):Int)
 b:=unitL n 0
 c:=(List.range n).map fun i=>B.getD (i+1) 0-B.getD 0 0*A.getD (i+1) 0
 d:=B.getD 0 0
def obsQ (B A:List Rat) (n:Nat):SysQ where
 a:=(List.range n).map fun i=>colQ (ctlQ B A n).a i
 b:=(ctlQ B A n).c
 c:=(ctlQ B A n).b
 d:=(ctlQ B A n).d
theorem comp1 (p:Rat):flM [[-p]] 1 0=[[1]]∧cofQ [[-p]] 1 0=p:=by
 have g0:flM [[-p]] 1 0=[[1]]:=rfl
 have k0:=cof_inv 1 (by omega) (trQ (mulQ [[-p]] (flM [[-p]] 1 0) 1) 1)
 rw[show trQ (mulQ [[-p]] (flM [[-p]] 1 0) 1) 1*Rat.divInt (-1) ((1:Nat):Int)=cofQ [[-p]] 1 0 from rfl,g0,tr1]at k0
 have e0:cofQ [[-p]] 1 0=p:=by grind
 exact ⟨g0,e0⟩
theorem comp2 (p q:Rat):flM [[-p,-q],[1,0]] 2 0=[[1,0],[0,1]]∧flM [[-p,-q],[1,0]] 2 1=[[0,-q],[1,p]]∧cofQ [[-p,-q],[1,0]] 2 0=p∧cofQ [[-p,-q],[1,0]] 2 1=q:=by
 have g0:flM [[-p,-q],[1,0]] 2 0=[[1,0],[0,1]]:=rfl
 have k0:=cof_inv 1 (by omega) (trQ (mulQ [[-p,-q],[1,0]] (flM [[-p,-q],[1,0]] 2 0) 2) 2)
 rw[show trQ (mulQ [[-p,-q],[1,0]] (flM [[-p,-q],[1,0]] 2 0) 2) 2*Rat.divInt (-1) ((1:Nat):Int)=cofQ [[-p,-q],[1,0]] 2 0 from rfl,g0,tr2]at k0
 have e0:cofQ [[-p,-q],[1,0]] 2 0=p:=by grind
 have g1:flM [[-p,-q],[1,0]] 2 1=[[0,-q],[1,p]]:=by
  have h:flM [[-p,-q],[1,0]] 2 1=addD (mulQ [[-p,-q],[1,0]] (flM [[-p,-q],[1,0]] 2 0) 2) (cofQ [[-p,-q],[1,0]] 2 0) 2:=rfl
  rw[g0,e0,step2]at h
  rw[h]
  clear h
  simp only[List.cons.injEq,and_true]
  refine ⟨⟨?_,?_⟩,⟨?_,?_⟩⟩<;>grind
 have k1:=cof_inv 2 (by omega) (trQ (mulQ [[-p,-q],[1,0]] (flM [[-p,-q],[1,0]] 2 1) 2) 2)
 rw[show trQ (mulQ [[-p,-q],[1,0]] (flM [[-p,-q],[1,0]] 2 1) 2) 2*Rat.divInt (-1) ((2:Nat):Int)=cofQ [[-p,-q],[1,0]] 2 1 from rfl,g1,tr2]at k1
 have e1:cofQ [[-p,-q],[1,0]] 2 1=q:=by grind
 exact ⟨g0,g1,e0,e1⟩
theorem obs2 (p q:Rat):flM [[-p,1],[-q,0]] 2 0=[[1,0],[0,1]]∧flM [[-p,1],[-q,0]] 2 1=[[0,1],[-q,p]]∧cofQ [[-p,1],[-q,0]] 2 0=p∧cofQ [[-p,1],[-q,0]] 2 1=q:=by
 have g0:flM [[-p,1],[-q,0]] 2 0=[[1,0],[0,1]]:=rfl
 have k0:=cof_inv 1 (by omega) (trQ (mulQ [[-p,1],[-q,0]] (flM [[-p,1],[-q,0]] 2 0) 2) 2)
 rw[show trQ (mulQ [[-p,1],[-q,0]] (flM [[-p,1],[-q,0]] 2 0) 2) 2*Rat.divInt (-1) ((1:Nat):Int)=cofQ [[-p,1],[-q,0]] 2 0 from rfl,g0,tr2]at k0
 have e0:cofQ [[-p,1],[-q,0]] 2 0=p:=by grind
 have g1:flM [[-p,1],[-q,0]] 2 1=[[0,1],[-q,p]]:=by
  have h:flM [[-p,1],[-q,0]] 2 1=addD (mulQ [[-p,1],[-q,0]] (flM [[-p,1],[-q,0]] 2 0) 2) (cofQ [[-p,1],[-q,0]] 2 0) 2:=rfl
  rw[g0,e0,step2]at h
  rw[h]
  clear h
  simp only[List.cons.injEq,and_true]
  refine ⟨⟨?_,?_⟩,⟨?_,?_⟩⟩<;>grind
 have k1:=cof_inv 2 (by omega) (trQ (mulQ [[-p,1],[-q,0]] (flM [[-p,1],[-q,0]] 2 1) 2) 2)
 rw[show trQ (mulQ [[-p,1],[-q,0]] (flM [[-p,1],[-q,0]] 2 1) 2) 2*Rat.divInt (-1) ((2:Nat):Int)=cofQ [[-p,1],[-q,0]] 2 1 from rfl,g1,tr2]at k1
 have e1:cofQ [[-p,1],[-q,0]] 2 1=q:=by grind
 exact ⟨g0,g1,e0,e1⟩
theorem comp3 (p q r:Rat):flM [[-p,-q,-r],[1,0,0],[0,1,0]] 3 0=[[1,0,0],[0,1,0],[0,0,1]]∧flM [[-p,-q,-r],[1,0,0],[0,1,0]] 3 1=[[0,-q,-r],[1,p,0],[0,1,p]]∧flM [[-p,-q,-r],[1,0,0],[0,1,0]] 3 2=[[0,-r,0],[0,0,-r],[1,p,q]]∧cofQ [[-p,-q,-r],[1,0,0],[0,1,0]] 3 0=p∧cofQ [[-p,-q,-r],[1,0,0],[0,1,0]] 3 1=q∧cofQ [[-p,-q,-r],[1,0,0],[0,1,0]] 3 2=r:=by
 have g0:flM [[-p,-q,-r],[1,0,0],[0,1,0]] 3 0=[[1,0,0],[0,1,0],[0,0,1]]:=rfl
 have k0:=cof_inv 1 (by omega) (trQ (mulQ [[-p,-q,-r],[1,0,0],[0,1,0]] (flM [[-p,-q,-r],[1,0,0],[0,1,0]] 3 0) 3) 3)
 rw[show trQ (mulQ [[-p,-q,-r],[1,0,0],[0,1,0]] (flM [[-p,-q,-r],[1,0,0],[0,1,0]] 3 0) 3) 3*Rat.divInt (-1) ((1:Nat):Int)=cofQ [[-p,-q,-r],[1,0,0],[0,1,0]] 3 0 from rfl,g0,tr3]at k0
 have e0:cofQ [[-p,-q,-r],[1,0,0],[0,1,0]] 3 0=p:=by grind
 have g1:flM [[-p,-q,-r],[1,0,0],[0,1,0]] 3 1=[[0,-q,-r],[1,p,0],[0,1,p]]:=by
  have h:flM [[-p,-q,-r],[1,0,0],[0,1,0]] 3 1=addD (mulQ [[-p,-q,-r],[1,0,0],[0,1,0]] (flM [[-p,-q,-r],[1,0,0],[0,1,0]] 3 0) 3) (cofQ [[-p,-q,-r],[1,0,0],[0,1,0]] 3 0) 3:=rfl
  rw[g0,e0,step3]at h
  rw[h]
  clear h
  simp only[List.cons.injEq,and_true]
  refine ⟨⟨?_,?_,?_⟩,⟨?_,?_,?_⟩,⟨?_,?_,?_⟩⟩<;>grind
 have k1:=cof_inv 2 (by omega) (trQ (mulQ [[-p,-q,-r],[1,0,0],[0,1,0]] (flM [[-p,-q,-r],[1,0,0],[0,1,0]] 3 1) 3) 3)
 rw[show trQ (mulQ [[-p,-q,-r],[1,0,0],[0,1,0]] (flM [[-p,-q,-r],[1,0,0],[0,1,0]] 3 1) 3) 3*Rat.divInt (-1) ((2:Nat):Int)=cofQ [[-p,-q,-r],[1,0,0],[0,1,0]] 3 1 from rfl,g1,tr3]at k1
 have e1:cofQ [[-p,-q,-r],[1,0,0],[0,1,0]] 3 1=q:=by grind
 have g2:flM [[-p,-q,-r],[1,0,0],[0,1,0]] 3 2=[[0,-r,0],[0,0,-r],[1,p,q]]:=by
  have h:flM [[-p,-q,-r],[1,0,0],[0,1,0]] 3 2=addD (mulQ [[-p,-q,-r],[1,0,0],[0,1,0]] (flM [[-p,-q,-r],[1,0,0],[0,1,0]] 3 1) 3) (cofQ [[-p,-q,-r],[1,0,0],[0,1,0]] 3 1) 3:=rfl
  rw[g1,e1,step3]at h
  rw[h]
  clear h
  simp only[List.cons.injEq,and_true]
  refine ⟨⟨?_,?_,?_⟩,⟨?_,?_,?_⟩,⟨?_,?_,?_⟩⟩<;>grind
 have k2:=cof_inv 3 (by omega) (trQ (mulQ [[-p,-q,-r],[1,0,0],[0,1,0]] (flM [[-p,-q,-r],[1,0,0],[0,1,0]] 3 2) 3) 3)
 rw[show trQ (mulQ [[-p,-q,-r],[1,0,0],[0,1,0]] (flM [[-p,-q,-r],[1,0,0],[0,1,0]] 3 2) 3) 3*Rat.divInt (-1) ((3:Nat):Int)=cofQ [[-p,-q,-r],[1,0,0],[0,1,0]] 3 2 from rfl,g2,tr3]at k2
 have e2:cofQ [[-p,-q,-r],[1,0,0],[0,1,0]] 3 2=r:=by grind
 exact ⟨g0,g1,g2,e0,e1,e2⟩
theorem obs3 (p q r:Rat):flM [[-p,1,0],[-q,0,1],[-r,0,0]] 3 0=[[1,0,0],[0,1,0],[0,0,1]]∧flM [[-p,1,0],[-q,0,1],[-r,0,0]] 3 1=[[0,1,0],[-q,p,1],[-r,0,p]]∧flM [[-p,1,0],[-q,0,1],[-r,0,0]] 3 2=[[0,0,1],[-r,0,p],[0,-r,q]]∧cofQ [[-p,1,0],[-q,0,1],[-r,0,0]] 3 0=p∧cofQ [[-p,1,0],[-q,0,1],[-r,0,0]] 3 1=q∧cofQ [[-p,1,0],[-q,0,1],[-r,0,0]] 3 2=r:=by
 have g0:flM [[-p,1,0],[-q,0,1],[-r,0,0]] 3 0=[[1,0,0],[0,1,0],[0,0,1]]:=rfl
 have k0:=cof_inv 1 (by omega) (trQ (mulQ [[-p,1,0],[-q,0,1],[-r,0,0]] (flM [[-p,1,0],[-q,0,1],[-r,0,0]] 3 0) 3) 3)
 rw[show trQ (mulQ [[-p,1,0],[-q,0,1],[-r,0,0]] (flM [[-p,1,0],[-q,0,1],[-r,0,0]] 3 0) 3) 3*Rat.divInt (-1) ((1:Nat):Int)=cofQ [[-p,1,0],[-q,0,1],[-r,0,0]] 3 0 from rfl,g0,tr3]at k0
 have e0:cofQ [[-p,1,0],[-q,0,1],[-r,0,0]] 3 0=p:=by grind
 have g1:flM [[-p,1,0],[-q,0,1],[-r,0,0]] 3 1=[[0,1,0],[-q,p,1],[-r,0,p]]:=by
  have h:flM [[-p,1,0],[-q,0,1],[-r,0,0]] 3 1=addD (mulQ [[-p,1,0],[-q,0,1],[-r,0,0]] (flM [[-p,1,0],[-q,0,1],[-r,0,0]] 3 0) 3) (cofQ [[-p,1,0],[-q,0,1],[-r,0,0]] 3 0) 3:=rfl
  rw[g0,e0,step3]at h
  rw[h]
  clear h
  simp only[List.cons.injEq,and_true]
  refine ⟨⟨?_,?_,?_⟩,⟨?_,?_,?_⟩,⟨?_,?_,?_⟩⟩<;>grind
 have k1:=cof_inv 2 (by omega) (trQ (mulQ [[-p,1,0],[-q,0,1],[-r,0,0]] (flM [[-p,1,0],[-q,0,1],[-r,0,0]] 3 1) 3) 3)
 rw[show trQ (mulQ [[-p,1,0],[-q,0,1],[-r,0,0]] (flM [[-p,1,0],[-q,0,1],[-r,0,0]] 3 1) 3) 3*Rat.divInt (-1) ((2:Nat):Int)=cofQ [[-p,1,0],[-q,0,1],[-r,0,0]] 3 1 from rfl,g1,tr3]at k1
 have e1:cofQ [[-p,1,0],[-q,0,1],[-r,0,0]] 3 1=q:=by grind
 have g2:flM [[-p,1,0],[-q,0,1],[-r,0,0]] 3 2=[[0,0,1],[-r,0,p],[0,-r,q]]:=by
  have h:flM [[-p,1,0],[-q,0,1],[-r,0,0]] 3 2=addD (mulQ [[-p,1,0],[-q,0,1],[-r,0,0]] (flM [[-p,1,0],[-q,0,1],[-r,0,0]] 3 1) 3) (cofQ [[-p,1,0],[-q,0,1],[-r,0,0]] 3 1) 3:=rfl
  rw[g1,e1,step3]at h
  rw[h]
  clear h
  simp only[List.cons.injEq,and_true]
  refine ⟨⟨?_,?_,?_⟩,⟨?_,?_,?_⟩,⟨?_,?_,?_⟩⟩<;>grind
 have k2:=cof_inv 3 (by omega) (trQ (mulQ [[-p,1,0],[-q,0,1],[-r,0,0]] (flM [[-p,1,0],[-q,0,1],[-r,0,0]] 3 2) 3) 3)
 rw[show trQ (mulQ [[-p,1,0],[-q,0,1],[-r,0,0]] (flM [[-p,1,0],[-q,0,1],[-r,0,0]] 3 2) 3) 3*Rat.divInt (-1) ((3:Nat):Int)=cofQ [[-p,1,0],[-q,0,1],[-r,0,0]] 3 2 from rfl,g2,tr3]at k2
 have e2:cofQ [[-p,1,0],[-q,0,1],[-r,0,0]] 3 2=r:=by grind
 exact ⟨g0,g1,g2,e0,e1,e2⟩
theorem tf_of {S:SysQ} {n:Nat} {B A:List Rat} (hA:trimQ A=A) (hB:trimQ B=B) (lA:A.length≤n+1) (lB:B.length≤n+1) (h0:A.getD 0 0=1) (hd:S.d=B.getD 0 0)
  (h1 : ∀ k,k<n→cofQ S.a n k=A.getD (k+1) 0) (h2 : ∀ k,k<n→dotQ S.c (mvQ (flM S.a n k) S.b)=B.getD (k+1) 0-B.getD 0 0*A.getD (k+1) 0):tfA S n=A∧tfB S n=B:=by
 have hb : ∀ i,(belowQ S.a n n).getD i 0=A.getD i 0:=fun i=>by
  by_cases hi:i≤n
  ·rw[below_getD _ _ _ hi]
   cases i with
   | zero=>exact h0.symm
   | succ i=>exact h1 i (by omega)
  ·rw[gD_ge (by rw[belowQ_len];omega),gD_ge (by omega)]
 have ha : ∀ i,(aboveQ S n n).getD i 0=B.getD i 0-B.getD 0 0*A.getD i 0:=fun i=>by
  cases i with
  | zero =>
   rw[h0]
   show (0:Rat)=_
   grind
  | succ i =>
   by_cases hi:i<n
   ·rw[aboveQ,List.getD_cons_succ,List.getD_eq_getElem?_getD,List.getElem?_map,List.getElem?_range hi]
    exact h2 i hi
   ·rw[gD_ge (by rw[aboveQ_len];omega),gD_ge (l:=B) (i:=i+1) (by omega),gD_ge (l:=A) (by omega)]
    grind
 have hle:(trimQ ((belowQ S.a n n).map (· * S.d))).length≤(aboveQ S n n).length:=by
  rw[trimQ_len,aboveQ_len]
  have:=cutN_le ((belowQ S.a n n).map (· * S.d)) ((belowQ S.a n n).map (· * S.d)).length
  have:=belowQ_len S.a n n
  rw[List.length_map]at *
  omega
 refine ⟨trimQ_eq hA hb,trimQ_eq hB fun i => ?_⟩
 rw[addP_getD _ _ hle,trimQ_getD,smap_getD,ha,hb,hd]
 grind
theorem ctl_tf {B A:List Rat} {n:Nat} (hA:trimQ A=A) (hB:trimQ B=B) (lA:A.length≤n+1) (lB:B.length≤n+1) (h0:A.getD 0 0=1) (hn:n≤3):tfA (ctlQ B A n) n=A∧tfB (ctlQ B A n) n=B:=by
 rcases n with _|_|_|_|n
 ·exact tf_of hA hB lA lB h0 rfl (fun k hk=>absurd hk (by omega)) (fun k hk=>absurd hk (by omega))
 ·obtain ⟨m0,c0⟩:=comp1 (A.getD 1 0)
  refine tf_of hA hB lA lB h0 rfl (fun k hk => ?_) (fun k hk => ?_)
  ·have hk':k=0:=by omega
   subst hk'
   exact c0
  ·have hk':k=0:=by omega
   subst hk'
   show dotQ [B.getD 1 0-B.getD 0 0*A.getD 1 0] (mvQ (flM [[-(A.getD 1 0)]] 1 0) [1])=_
   rw[m0]
   simp only[mvQ,List.map_cons,List.map_nil,dotQ]
   grind
 ·obtain ⟨m0,m1,c0,c1⟩:=comp2 (A.getD 1 0) (A.getD 2 0)
  refine tf_of hA hB lA lB h0 rfl (fun k hk => ?_) (fun k hk => ?_)
  ·have hk':k=0∨k=1:=by omega
   rcases hk' with rfl|rfl
   ·exact c0
   ·exact c1
  ·have hk':k=0∨k=1:=by omega
   rcases hk' with rfl|rfl
   ·show dotQ [B.getD 1 0-B.getD 0 0*A.getD 1 0,B.getD 2 0-B.getD 0 0*A.getD 2 0] (mvQ (flM [[-(A.getD 1 0),-(A.getD 2 0)],[1,0]] 2 0) [1,0])=_
    rw[m0]
    simp only[mvQ,List.map_cons,List.map_nil,dotQ]
    grind
   ·show dotQ [B.getD 1 0-B.getD 0 0*A.getD 1 0,B.getD 2 0-B.getD 0 0*A.getD 2 0] (mvQ (flM [[-(A.getD 1 0),-(A.getD 2 0)],[1,0]] 2 1) [1,0])=_
    rw[m1]
    simp only[mvQ,List.map_cons,List.map_nil,dotQ]
    grind
 ·obtain ⟨m0,m1,m2,c0,c1,c2⟩:=comp3 (A.getD 1 0) (A.getD 2 0) (A.getD 3 0)
  refine tf_of hA hB lA lB h0 rfl (fun k hk => ?_) (fun k hk => ?_)
  ·have hk':k=0∨k=1∨k=2:=by omega
   rcases hk' with rfl|rfl|rfl
   ·exact c0
   ·exact c1
   ·exact c2
  ·have hk':k=0∨k=1∨k=2:=by omega
   rcases hk' with rfl|rfl|rfl
   ·show dotQ [B.getD 1 0-B.getD 0 0*A.getD 1 0,B.getD 2 0-B.getD 0 0*A.getD 2 0,B.getD 3 0-B.getD 0 0*A.getD 3 0] (mvQ (flM [[-(A.getD 1 0),-(A.getD 2 0),-(A.getD 3 0)],[1,0,0],[0,1,0]] 3 0) [1,0,0])=_
    rw[m0]
    simp only[mvQ,List.map_cons,List.map_nil,dotQ]
    grind
   ·show dotQ [B.getD 1 0-B.getD 0 0*A.getD 1 0,B.getD 2 0-B.getD 0 0*A.getD 2 0,B.getD 3 0-B.getD 0 0*A.getD 3 0] (mvQ (flM [[-(A.getD 1 0),-(A.getD 2 0),-(A.getD 3 0)],[1,0,0],[0,1,0]] 3 1) [1,0,0])=_
    rw[m1]
    simp only[mvQ,List.map_cons,List.map_nil,dotQ]
    grind
   ·show dotQ [B.getD 1 0-B.getD 0 0*A.getD 1 0,B.getD 2 0-B.getD 0 0*A.getD 2 0,B.getD 3 0-B.getD 0 0*A.getD 3 0] (mvQ (flM [[-(A.getD 1 0),-(A.getD 2 0),-(A.getD 3 0)],[1,0,0],[0,1,0]] 3 2) [1,0,0])=_
    rw[m2]
    simp only[mvQ,List.map_cons,List.map_nil,dotQ]
    grind
 ·omega
theorem obs_tf {B A:List Rat} {n:Nat} (hA:trimQ A=A) (hB:trimQ B=B) (lA:A.length≤n+1) (lB:B.length≤n+1) (h0:A.getD 0 0=1) (hn:n≤3):tfA (obsQ B A n) n=A∧tfB (obsQ B A n) n=B:=by
 rcases n with _|_|_|_|n
 ·exact tf_of hA hB lA lB h0 rfl (fun k hk=>absurd hk (by omega)) (fun k hk=>absurd hk (by omega))
 ·obtain ⟨m0,c0⟩:=comp1 (A.getD 1 0)
  refine tf_of hA hB lA lB h0 rfl (fun k hk => ?_) (fun k hk => ?_)
  ·have hk':k=0:=by omega
   subst hk'
   exact c0
  ·have hk':k=0:=by omega
   subst hk'
   show dotQ [1] (mvQ (flM [[-(A.getD 1 0)]] 1 0) [B.getD 1 0-B.getD 0 0*A.getD 1 0])=_
   rw[m0]
   simp only[mvQ,List.map_cons,List.map_nil,dotQ]
   grind
 ·obtain ⟨m0,m1,c0,c1⟩:=obs2 (A.getD 1 0) (A.getD 2 0)
  refine tf_of hA hB lA lB h0 rfl (fun k hk => ?_) (fun k hk => ?_)
  ·have hk':k=0∨k=1:=by omega
   rcases hk' with rfl|rfl
   ·exact c0
   ·exact c1
  ·have hk':k=0∨k=1:=by omega
   rcases hk' with rfl|rfl
   ·show dotQ [1,0] (mvQ (flM [[-(A.getD 1 0),1],[-(A.getD 2 0),0]] 2 0) [B.getD 1 0-B.getD 0 0*A.getD 1 0,B.getD 2 0-B.getD 0 0*A.getD 2 0])=_
    rw[m0]
    simp only[mvQ,List.map_cons,List.map_nil,dotQ]
    grind
   ·show dotQ [1,0] (mvQ (flM [[-(A.getD 1 0),1],[-(A.getD 2 0),0]] 2 1) [B.getD 1 0-B.getD 0 0*A.getD 1 0,B.getD 2 0-B.getD 0 0*A.getD 2 0])=_
    rw[m1]
    simp only[mvQ,List.map_cons,List.map_nil,dotQ]
    grind
 ·obtain ⟨m0,m1,m2,c0,c1,c2⟩:=obs3 (A.getD 1 0) (A.getD 2 0) (A.getD 3 0)
  refine tf_of hA hB lA lB h0 rfl (fun k hk => ?_) (fun k hk => ?_)
  ·have hk':k=0∨k=1∨k=2:=by omega
   rcases hk' with rfl|rfl|rfl
   ·exact c0
   ·exact c1
   ·exact c2
  ·have hk':k=0∨k=1∨k=2:=by omega
   rcases hk' with rfl|rfl|rfl
   ·show dotQ [1,0,0] (mvQ (flM [[-(A.getD 1 0),1,0],[-(A.getD 2 0),0,1],[-(A.getD 3 0),0,0]] 3 0) [B.getD 1 0-B.getD 0 0*A.getD 1 0,B.getD 2 0-B.getD 0 0*A.getD 2 0,B.getD 3 0-B.getD 0 0*A.getD 3 0])=_
    rw[m0]
    simp only[mvQ,List.map_cons,List.map_nil,dotQ]
    grind
   ·show dotQ [1,0,0] (mvQ (flM [[-(A.getD 1 0),1,0],[-(A.getD 2 0),0,1],[-(A.getD 3 0),0,0]] 3 1) [B.getD 1 0-B.getD 0 0*A.getD 1 0,B.getD 2 0-B.getD 0 0*A.getD 2 0,B.getD 3 0-B.getD 0 0*A.getD 3 0])=_
    rw[m1]
    simp only[mvQ,List.map_cons,List.map_nil,dotQ]
    grind
   ·show dotQ [1,0,0] (mvQ (flM [[-(A.getD 1 0),1,0],[-(A.getD 2 0),0,1],[-(A.getD 3 0),0,0]] 3 2) [B.getD 1 0-B.getD 0 0*A.getD 1 0,B.getD 2 0-B.getD 0 0*A.getD 2 0,B.getD 3 0-B.getD 0 0*A.getD 3 0])=_
    rw[m2]
    simp only[mvQ,List.map_cons,List.map_nil,dotQ]
    grind
 ·omega
end Go.Eng

namespace Go.Eng
open F
attribute [local irreducible] AKM CmpP Req OpP UnP ConvP RdP LdR StR MkR LenP AppR AppN CpyR RowP SnR Bds SlS CallP CalP FinP pw LdM GetM SetM PutM MkM AppM SnM FlP CallR
set_option maxHeartbeats 1000000
variable {L:Lib} (n:Nt)
def runA:List Int→List Int→Int→List Int→List Int × List Int × Int
 | outs,st,c,[]=>(outs,st,c)
 | outs,st,c,x::xs=>runA (outs++[(compS n (x::st) false n.nodes).1.getD n.out.toNat 0]) (follS n (compS n (x::st) false n.nodes).1) (if (compS n (x::st) false n.nodes).2 then c+1 else c) xs
def rrS (st ins:List Int):List Int × List Int × Int × Int :=
 if netB n then (if ins.length>4096 then ([],[],0,4) else if wrongS n st ins=0 then ((runA n [] st 0 ins).1,(runA n [] st 0 ins).2.1,(runA n [] st 0 ins).2.2,0) else ([],[],0,wrongS n st ins)) else ([],[],0,2)
theorem rrS_inv {st ins:List Int} (h:netB n=false):rrS n st ins=([],[],0,2):=by rw[rrS,h];rfl
theorem rrS_long {st ins:List Int} (h:netB n=true) (h2:ins.length>4096):rrS n st ins=([],[],0,4):=by rw[rrS,if_pos h,if_pos h2]
theorem rrS_wrong {st ins:List Int} (h:netB n=true) (h2 : ¬ ins.length>4096) (h3:wrongS n st ins≠0):rrS n st ins=([],[],0,wrongS n st ins):=by rw[rrS,if_pos h,if_neg h2,if_neg h3]
theorem rrS_ok {st ins:List Int} (h:netB n=true) (h2 : ¬ ins.length>4096) (h3:wrongS n st ins=0):rrS n st ins=((runA n [] st 0 ins).1,(runA n [] st 0 ins).2.1,(runA n [] st 0 ins).2.2,0):=by rw[rrS,if_pos h,if_neg h2,if_pos h3]
theorem ev_network_Run (I:FixedLib L) (J:NetLib L) (R:RunGLib L) (st ins:List Int) (q1 q2:Bool) (hs:st.length<9223372036854775808) (hi:ins.length<9223372036854775808):Ev L 43 [.agg (encN n),.sl q1 (st.map encInt),.sl q2 (ins.map encInt)] (.tup [.sl false ((rrS n st ins).1.map encInt),.sl false ((rrS n st ins).2.1.map encInt),.int .i64 (rrS n st ins).2.2.1,.int .i64 (rrS n st ins).2.2.2]):=by
 refine Ev.x R.network_Run rfl rfl ?_
 (repeat' (first|(refine CmpP.go (fun hc => ?_) (fun hc => ?_)<;>first|(exfalso;omega)|(conv=>whnf))|(refine LenP.go ?_;conv=>whnf)|(refine AKM.x ?_;conv=>whnf)|(refine CallP.B (ev_network_Valid n I J) (fun hf => ?_) (fun hf => ?_)<;>(conv=>whnf))|(refine CallP.go (ev_network_wrong n I J st ins _ _ hs hi) ?_;conv=>whnf)))
 ·rw[rrS_long n hf (by omega)]
  exact FinP.go rfl (by simp [Clean,CleanL,CleanLL])
 ·rw[rrS_wrong n hf (by omega) hc]
  exact FinP.go rfl (by simp [Clean,CleanL,CleanLL])
 ·rw[rrS_ok n hf (by omega) hc]
  have hst:=wrongS_len n hc
  have hv:=(netB_iff n).1 hf
  obtain ⟨g1,g2,g3,g4,g5,g6⟩:=hv
  refine MkR.go (enc:=encInt) 0 st.length rfl rfl (by omega) ?_
  (conv=>whnf)
  refine CpyR.all (enc:=encInt) (by simp) (by simp) (fun _=>rfl) ?_
  (conv=>whnf)
  (repeat' (refine LenP.go ?_;conv=>whnf))
  refine MkR.go (enc:=encInt) 0 0 rfl rfl (by omega) ?_
  (conv=>whnf)
  (repeat' (refine LenP.go ?_;conv=>whnf))
  refine AKM.loop4 (fun i _ _ _=>ins.length-i) (fun (i:Nat) (outs now:List Int) (c:Int)=>i≤ins.length∧outs.length=i∧(now.length:Int)=n.s∧0≤c∧c≤i∧runA n outs now c (ins.drop i)=runA n [] st 0 ins) (fun i outs now c=>[(11,.row 33 0 1 0 now.length),(12,.row 39 0 1 0 outs.length),(13,.int .i64 c),(42,.int .i64 i)]) (fun i outs now c=>[(39,39,.rw 1 (outs.map encInt)),(33,33,.rw 1 (now.map encInt))]) [] [] 0 [] st 0 (by (conv=>whnf);exact ⟨rfl,rfl,rfl⟩) ⟨by omega,rfl,hst,by omega,by omega,rfl⟩ ?_
  intro i outs now c ⟨p1,p2,p3,p4,p5,p6⟩ ih
  (repeat' (first|(refine CmpP.go (fun hc => ?_) (fun hc => ?_)<;>first|(exfalso;omega)|(conv=>whnf))|(refine RdP.nat ?_ (fun _=>rfl) (fun e he => ?_);omega;conv=>whnf)|(refine SnR.all (fun _=>rfl) rfl ?_ ?_;(first|rfl|simp);conv=>whnf)|(refine AKM.x ?_;conv=>whnf)))
  ·have hcl:((compS n (e::now) false n.nodes).1.length:Int)=1+n.s+n.nodes.length:=by rw[comp_len];simp;omega
   rw[drop_cons he,runA]at p6
   (repeat' (first|(refine CallP.go (ev_network_compute n I J now _ _ hf p3) ?_;conv=>whnf)|(refine CallP.go (ev_network_follow n J _ _ hf hcl) ?_;conv=>whnf)))
   refine CpyR.all (enc:=encInt) rfl (by simp [follS];omega) (fun _=>rfl) ?_
   (conv=>whnf)
   (repeat' (first|(refine RdP.go ?_ (fun _=>rfl) (fun e he => ?_);omega;conv=>whnf)|(refine RowP.e1 ?_;conv=>whnf)))
   rename_i x hx
   refine AppR.one (enc:=encInt) e rfl rfl rfl (by omega) (by omega) ?_
   (conv=>whnf)
   skip
   rw[getD_of he]at p6
   cases hov:(compS n (x::now) false n.nodes).2
   all_goals (
    rw[hov]at p6
    (conv=>whnf)
    (repeat' (refine OpP.add ?_ ?_;omega;conv=>whnf))
    refine AKM.back [(39,65)] (by rw[show now.length=(follS n (compS n (x::now) false n.nodes).1).length by simp [follS];omega];exact (by (conv=>whnf);exact ⟨rfl,rfl,rfl⟩)) (ih (i+1) _ _ _ (by omega) ⟨by omega,by simp [p2],by simp [follS];omega,?_,?_,p6⟩)
    all_goals simp;omega)
  ·rw[drop_len (by omega),runA]at p6
   rw[←p6]
   exact FinP.go rfl (by simp [Clean,CleanL,cl_ints])
 ·rw[rrS_inv n hf]
  exact FinP.go rfl (by simp [Clean,CleanL,CleanLL])
end Go.Eng

namespace Go.Eng
open F
attribute [local irreducible] AKM CmpP Req OpP UnP ConvP RdP LdR StR MkR LenP AppR AppN CpyR RowP SnR Bds SlS CallP CalP FinP pw LdM GetM SetM PutM MkM AppM SnM FlP CallR
set_option maxHeartbeats 1000000
variable {L:Lib}
theorem ev_direct_wrong (I:FixedLib L) (D:DirectGLib L) (b a:List Int) (q1 q2:Bool) (d c:Wd) (hd:WV d) (hc:WV c) (l1:1≤b.length∧b.length≤49) (l2:a.length≤8) (hb : ∀ v∈b,FT c v) (ha : ∀ v∈a,FT c v∧FT c (-v)) :
  Ev L 46 [.sl q1 (b.map encInt),.sl q2 (a.map encInt),.agg (encW d),.agg (encW c)] (.int .i64 0):=by
 have hav : ∀ v∈a,-16777216≤v∧v≤16777216:=fun v hv=>by
  obtain ⟨_,e1,e2⟩:=(ha v hv).1
  obtain ⟨h1,h2,h3,h4⟩:=low_high hc
  omega
 refine Ev.x D.direct_wrong rfl rfl ?_
 (repeat' (first|(refine CmpP.go (fun hc => ?_) (fun hc => ?_)<;>first|(exfalso;omega)|(conv=>whnf))|(refine LenP.go ?_;conv=>whnf)|(refine AKM.x ?_;conv=>whnf)|(refine CallP.b (ev_fixed_Valid ⟨_,_,_,_⟩ I) (fun hf => ?_) (fun hf => ?_)<;>(conv=>whnf))))
 all_goals try (exact absurd hd (by assumption))
 all_goals try (exact absurd hc (by assumption))
 refine AKM.loop1 (fun i=>b.length-i) (fun (i:Nat)=>i≤b.length) (fun i=>[(36,.int .i64 i)]) (fun _=>[]) [] [] 0 (by (conv=>whnf);exact ⟨rfl,rfl,rfl⟩) (by omega) ?_
 intro i p1 ih
 (repeat' (first|(refine CmpP.go (fun hc => ?_) (fun hc => ?_)<;>first|(exfalso;omega)|(conv=>whnf))|(refine OpP.add ?_ ?_;omega;conv=>whnf)|(refine LenP.go ?_;conv=>whnf)|(refine RdP.nat ?_ (fun _=>rfl) (fun e he => ?_);omega;conv=>whnf)|(refine AKM.x ?_;conv=>whnf)|(refine CallP.b (ev_fixed_Fits ⟨_,_,_,_⟩ I _) (fun hf => ?_) (fun hf => ?_)<;>(conv=>whnf))))
 ·exact AKM.back [] (by (conv=>whnf);exact ⟨rfl,rfl,rfl⟩) (ih (i+1) (by omega) (by omega))
 ·exact absurd (hb _ (List.mem_of_getElem? he)) hf
 refine AKM.loop1 (fun i=>a.length-i) (fun (i:Nat)=>i≤a.length) (fun i=>[(47,.int .i64 i)]) (fun _=>[]) [] [] 0 (by (conv=>whnf);exact ⟨rfl,rfl,rfl⟩) (by omega) ?_
 intro i p1 ih
 (repeat' (first|(refine CmpP.go (fun hc => ?_) (fun hc => ?_)<;>first|(exfalso;omega)|(conv=>whnf))|(refine RdP.nat ?_ (fun _=>rfl) (fun e he => ?_);omega;conv=>whnf)|(refine AKM.x ?_;conv=>whnf)|(refine CallP.b (ev_fixed_Fits ⟨_,_,_,_⟩ I _) (fun hf => ?_) (fun hf => ?_)<;>(conv=>whnf))))
 ·have hfe:=hav _ (List.mem_of_getElem? he)
  (repeat' (first|(refine OpP.add ?_ ?_;omega;conv=>whnf)|(refine UnP.neg ?_ ?_;omega;conv=>whnf)|(refine CallP.b (ev_fixed_Fits ⟨_,_,_,_⟩ I _) (fun hf => ?_) (fun hf => ?_)<;>(conv=>whnf))))
  ·exact AKM.back [] (by (conv=>whnf);exact ⟨rfl,rfl,rfl⟩) (ih (i+1) (by omega) (by omega))
  ·exact absurd (ha _ (List.mem_of_getElem? he)).2 hf
 ·exact absurd (ha _ (List.mem_of_getElem? he)).1 hf
 ·exact FinP.i rfl
theorem cl_ts (ts:List (Int × Int)):CleanLL (ts.map encT):=cleanLL_map (fun _=>by simp [CleanL,Clean]) ts
def rowD (l:List Int) (sg fr:Int):List (Int × Int):=(List.range l.length).map fun i:Nat=>(fr+i,sg*l.getD i 0)
theorem rowD_len (l:List Int) (sg fr:Int):(rowD l sg fr).length=l.length:=by simp [rowD]
theorem rowD_at {l:List Int} {i:Nat} {v:Int} (sg fr:Int) (h:l[i]? = some v):(rowD l sg fr)[i]? = some (fr+i,sg*v):=by
 have hi:=(List.getElem?_eq_some_iff.1 h).1
 simp only[rowD,List.getElem?_map,List.getElem?_range hi,Option.map_some,List.getD_eq_getElem?_getD,h,Option.getD_some]
theorem ev_direct_row (D:DirectGLib L) (l:List Int) (q:Bool) (sg fr:Int) (hl:l.length≤1000000) (hs:sg=1∨sg = -1) (hf:0≤fr∧fr≤1000000) (hv : ∀ v∈l,-1000000000000≤v∧v≤1000000000000):Ev L 47 [.sl q (l.map encInt),.int .i64 sg,.int .i64 fr] (.sl false ((rowD l sg fr).map encT)):=by
 have hF:=rowD_len l sg fr
 refine Ev.x D.direct_row rfl rfl ?_
 (repeat' (first|(refine LenP.go ?_;conv=>whnf)|(refine AKM.x ?_;conv=>whnf)))
 refine MkR.go (enc:=encT) (0,0) l.length rfl rfl (by omega) ?_
 (conv=>whnf)
 (repeat' (refine LenP.go ?_;conv=>whnf))
 refine AKM.loop2 (fun i _=>l.length-i) (fun (i:Nat) (o:List (Int × Int))=>i≤l.length∧o.length=(rowD l sg fr).length∧o.take i=(rowD l sg fr).take i) (fun i o=>[(7,.row 12 0 2 0 o.length),(15,.int .i64 i)]) (fun i o=>[(12,12,.rw 2 (o.map encT))]) [] [] 0 (List.replicate l.length (0,0)) (by rw[List.length_replicate];exact (by (conv=>whnf);exact ⟨rfl,rfl,rfl⟩)) ⟨by omega,by simp [hF],by simp⟩ ?_
 intro i o ⟨p1,p2,p3⟩ ih
 by_cases hi:i<l.length
 ·obtain ⟨v,hvi⟩ : ∃ v,l[i]? = some v:=⟨_,List.getElem?_eq_getElem hi⟩
  have hvr:=hv v (List.mem_of_getElem? hvi)
  have hmul : -1000000000000≤sg*v∧sg*v≤1000000000000:=by rcases hs with rfl|rfl<;>omega
  obtain ⟨f1,f2⟩:=fill_step p2 p3 (rowD_at sg fr hvi)
  (repeat' (first|(refine CmpP.go (fun hc => ?_) (fun hc => ?_)<;>first|(exfalso;omega)|(conv=>whnf))|(refine Req.go ?_ ?_;omega;conv=>whnf)|(refine OpP.add ?_ ?_;omega;conv=>whnf)|(refine OpP.mul ?_ ?_;omega;conv=>whnf)|(refine RdP.at (by assumption) ?_ rfl ?_;omega;conv=>whnf)|(refine AKM.x ?_;conv=>whnf)))
  refine StR.nat (enc:=encT) (fr+i,sg*v) rfl (fun _=>rfl) (by omega) ?_
  (conv=>whnf)
  (repeat' (refine OpP.add ?_ ?_;omega;conv=>whnf))
  exact AKM.back [] (by rw[List.length_set];exact (by (conv=>whnf);exact ⟨rfl,rfl,rfl⟩)) (ih (i+1) (o.set i (fr+i,sg*v)) (by omega) ⟨by omega,f1,f2⟩)
 ·have ho:=fill_done p2 p3 (by omega)
  (repeat' (first|(refine CmpP.go (fun hc => ?_) (fun hc => ?_)<;>first|(exfalso;omega)|(conv=>whnf))|(refine SnR.all (fun _=>rfl) rfl ?_ ?_;(first|rfl|simp);conv=>whnf)|(refine AKM.x ?_;conv=>whnf)))
  exact FinP.go (by rw[ho]) (by simp [Clean,cl_ts])
def joinD (l:List Nd):List (Int × Int):=l.flatMap fun n=>n.ts
theorem ev_direct_join (D:DirectGLib L) (l:List Nd) (q:Bool) (hl1:(joinD l).length≤1000000) (hl:l.length≤1000000):Ev L 48 [.sl q (l.map encNd)] (.sl false ((joinD l).map encT)):=by
 refine Ev.x D.direct_join rfl rfl ?_
 (repeat' (first|(refine LenP.go ?_;conv=>whnf)|(refine AKM.x ?_;conv=>whnf)))
 refine AKM.loop2 (fun i _=>l.length-i) (fun (i:Nat) (o:List (Int × Int))=>i≤l.length∧o=joinD (l.take i)) (fun i o=>[(3,.row 3 0 2 0 o.length),(8,.int .i64 i)]) (fun i o=>[(3,3,.rw 2 (o.map encT))]) [] [] 0 [] (by (conv=>whnf);exact ⟨rfl,rfl,rfl⟩) ⟨by omega,rfl⟩ ?_
 intro i o ⟨p1,p2⟩ ih
 (repeat' (first|(refine CmpP.go (fun hc => ?_) (fun hc => ?_)<;>first|(exfalso;omega)|(conv=>whnf))|(refine RdP.nat ?_ (fun _=>rfl) (fun e he => ?_);omega;conv=>whnf)|(refine SnR.all (fun _=>rfl) rfl ?_ ?_;(first|rfl|simp);conv=>whnf)|(refine AKM.x ?_;conv=>whnf)))
 ·have hj:joinD (l.take (i+1))=o++e.ts:=by
   rw[List.take_add_one,he,p2];simp [joinD]
  have hle:o.length+e.ts.length≤1000000:=by
   have:joinD l=joinD (l.take (i+1))++joinD (l.drop (i+1)):=by
    unfold joinD
    rw[←List.flatMap_append,List.take_append_drop]
   rw[this,hj]at hl1
   simp at hl1
   omega
  refine AppR.many (enc:=encT) rfl (fun _=>rfl) (by omega) (by omega) ?_
  (conv=>whnf)
  (repeat' (refine OpP.add ?_ ?_;omega;conv=>whnf))
  exact AKM.back [(3,14)] (by (conv=>whnf);exact ⟨rfl,rfl,rfl⟩) (ih (i+1) _ (by omega) ⟨by omega,hj.symm⟩)
 ·rw[List.take_of_length_le (by omega)]at p2
  exact FinP.go (by rw[p2]) (by simp [Clean,cl_ts])
theorem cl_nds : ∀ (l:List Nd),(∀ n∈l,n.q=false)→CleanLL (l.map encNd)
 | [],_=>by simp [CleanLL]
 | n::r,h=>by
  simp only[List.map_cons,CleanLL,CleanL,Clean,and_true]
  exact ⟨⟨h n (by simp),cl_ts _⟩,cl_nds r fun m hm=>h m (List.mem_cons_of_mem _ hm)⟩
theorem encN_clean (n:Nt) (h1:n.qn=false) (h2:n.qx=false) (h3 : ∀ m∈n.nodes,m.q=false):CleanL (encN n):=by
 simp only[CleanL,Clean,true_and,and_true]
 exact ⟨⟨h1,cl_nds _ h3⟩,h2,cl_ints _⟩
theorem netE_clean (n:Nt) (h1:n.qn=false) (h2:n.qx=false) (h3 : ∀ m∈n.nodes,m.q=false):Clean (.tup [.agg (encN n),.int .i64 0]):=by
 have h:=encN_clean n h1 h2 h3
 simp only[Clean,CleanL,and_true,true_and]at h ⊢
 exact h
def delayS (n:Nat) (first source:Int):List Int:=(List.range n).map fun i:Nat=>if i=0 then source else first+i-1
theorem delayS_at {n i:Nat} {first source:Int} (h:i<n):(delayS n first source)[i]? = some (if i=0 then source else first+i-1):=by
 simp only[delayS,List.getElem?_map,List.getElem?_range h,Option.map_some]
theorem FT_rng {c:Wd} (hc:WV c) {v:Int} (h:FT c v) : -1000000000000≤v∧v≤1000000000000:=by
 obtain ⟨_,e1,e2⟩:=h
 obtain ⟨h1,h2,h3,h4⟩:=low_high hc
 omega
def formOneS (b a:List Int) (d c:Wd):Nt :=
 ⟨d,c,((b.length-1+a.length:Nat):Int),false,[⟨false,rowD b 1 0++rowD a (-1) b.length⟩],false,delayS (b.length-1) 1 0++delayS a.length b.length ((b.length+a.length:Nat):Int),((b.length+a.length:Nat):Int)⟩
theorem ev_direct_FormOne (I:FixedLib L) (D:DirectGLib L) (b a:List Int) (q1 q2:Bool) (d c:Wd) (hd:WV d) (hc:WV c) (l1:1≤b.length∧b.length≤49) (l2:a.length≤8) (hb : ∀ v∈b,FT c v) (ha : ∀ v∈a,FT c v∧FT c (-v)) :
  Ev L 50 [.sl q1 (b.map encInt),.sl q2 (a.map encInt),.agg (encW d),.agg (encW c)] (.tup [.agg (encN (formOneS b a d c)),.int .i64 0]):=by
 have hw:=fun q q'=>ev_direct_wrong I D b a q q' d c hd hc l1 l2 hb ha
 have r1:=fun q=>ev_direct_row D b q 1 0 (by omega) (Or.inl rfl) (by omega) (fun v hv=>FT_rng hc (hb v hv))
 have r2:=fun q=>ev_direct_row D a q (-1) ((b.length:Int)-1+1) (by omega) (Or.inr rfl) (by omega) (fun v hv=>FT_rng hc (ha v hv).1)
 have r3:=fun q q' q''=>ev_direct_join D [⟨q,rowD b 1 0⟩,⟨q',rowD a (-1) ((b.length:Int)-1+1)⟩] q'' (by simp [joinD,rowD_len];omega) (by simp)
 generalize hF:delayS (b.length-1) 1 0++delayS a.length b.length ((b.length+a.length:Nat):Int)=F
 have hFl:F.length=b.length-1+a.length:=by rw[←hF];simp [delayS]
 have hF1 : ∀ i:Nat,i<b.length-1→F[i]? = some (if i=0 then (0:Int) else 1+i-1):=fun i hi=>by
  rw[←hF,List.getElem?_append_left (by simp [delayS];omega)]
  exact delayS_at hi
 have hF2 : ∀ i:Nat,i<a.length→F[b.length-1+i]? = some (if i=0 then ((b.length+a.length:Nat):Int) else b.length+i-1):=fun i hi=>by
  rw[←hF,List.getElem?_append_right (by simp [delayS])]
  have:b.length-1+i-(delayS (b.length-1) 1 0).length=i:=by simp [delayS]
  rw[this]
  exact delayS_at hi
 refine Ev.x D.direct_FormOne rfl rfl ?_
 (repeat' (first|(refine CmpP.go (fun hc => ?_) (fun hc => ?_)<;>first|(exfalso;omega)|(conv=>whnf))|(refine OpP.add ?_ ?_;omega;conv=>whnf)|(refine OpP.sub ?_ ?_;omega;conv=>whnf)|(refine LenP.go ?_;conv=>whnf)|(refine AKM.x ?_;conv=>whnf)|(refine CallP.go (hw _ _) ?_;conv=>whnf)))
 refine MkR.go (enc:=encInt) 0 (b.length-1+a.length) rfl (by omega) (by omega) ?_
 (conv=>whnf)
 (repeat' (first|(refine OpP.add ?_ ?_;omega;conv=>whnf)|(refine SnR.e2 rfl rfl ?_;conv=>whnf)|(refine CallP.go (r1 _) ?_;conv=>whnf)|(refine CallP.go (r2 _) ?_;conv=>whnf)|(refine CallP.go (r3 _ _ _) ?_;conv=>whnf)))
 refine Bds.up (b.length-1) (by omega) (by omega) ?_
 (conv=>whnf)
 refine CalP.walk 1000 D.direct_delay rfl rfl ?_
 (repeat' (refine AKM.x ?_;conv=>whnf))
 refine AKM.loop2 (fun i _=>b.length-1-i) (fun (i:Nat) (o:List Int)=>i≤b.length-1∧o.length=F.length∧o.take i=F.take i) (fun i o=>[(9,.int .i64 i)]) (fun i o=>[(34,34,.rw 1 (o.map encInt))]) [] [] 0 (List.replicate (b.length-1+a.length) 0) (by (conv=>whnf);exact ⟨rfl,rfl,rfl⟩) ⟨by omega,by simp [hFl],by simp⟩ ?_
 intro i o ⟨p1,p2,p3⟩ ih
 (repeat' (first|(refine CmpP.go (fun hc => ?_) (fun hc => ?_)<;>first|(exfalso;omega)|(conv=>whnf))|(refine Req.go ?_ ?_;omega;conv=>whnf)|(refine OpP.add ?_ ?_;omega;conv=>whnf)|(refine OpP.sub ?_ ?_;omega;conv=>whnf)|(refine AKM.x ?_;conv=>whnf)))
 ·obtain ⟨f1,f2⟩:=fill_step p2 p3 (hF1 i (by omega))
  refine StR.at i (if i=0 then (0:Int) else 1+i-1) (by omega) (by rw[if_pos (by omega)]) (fun _=>rfl) (by omega) ?_
  (conv=>whnf)
  (repeat' (refine OpP.add ?_ ?_;omega;conv=>whnf))
  exact AKM.back [] (by (conv=>whnf);exact ⟨rfl,rfl,rfl⟩) (ih (i+1) _ (by omega) ⟨by omega,f1,f2⟩)
 ·obtain ⟨f1,f2⟩:=fill_step p2 p3 (hF1 i (by omega))
  refine StR.at i (if i=0 then (0:Int) else 1+i-1) (by omega) (by rw[if_neg (by omega)]) (fun _=>rfl) (by omega) ?_
  (conv=>whnf)
  (repeat' (refine OpP.add ?_ ?_;omega;conv=>whnf))
  exact AKM.back [] (by (conv=>whnf);exact ⟨rfl,rfl,rfl⟩) (ih (i+1) _ (by omega) ⟨by omega,f1,f2⟩)
 obtain rfl:i=b.length-1:=by omega
 refine ⟨rfl,_,rfl,?_⟩
 (conv=>whnf)
 skip
 refine Bds.dn (b.length-1) (by omega) (by omega) ?_
 (conv=>whnf)
 (repeat' (refine OpP.add ?_ ?_;omega;conv=>whnf))
 refine CalP.walk 1000 D.direct_delay rfl rfl ?_
 (repeat' (refine AKM.x ?_;conv=>whnf))
 refine AKM.loop2 (fun i _=>a.length-i) (fun (i:Nat) (o:List Int)=>i≤a.length∧o.length=F.length∧o.take (b.length-1+i)=F.take (b.length-1+i)) (fun i o=>[(9,.int .i64 i)]) (fun i o=>[(34,34,.rw 1 (o.map encInt))]) [] [] 0 o (by (conv=>whnf);exact ⟨rfl,rfl,rfl⟩) ⟨by omega,p2,p3⟩ ?_
 clear p1 p2 p3 ih
 intro i o ⟨p1,p2,p3⟩ ih
 (repeat' (first|(refine CmpP.go (fun hc => ?_) (fun hc => ?_)<;>first|(exfalso;omega)|(conv=>whnf))|(refine Req.go ?_ ?_;omega;conv=>whnf)|(refine OpP.add ?_ ?_;omega;conv=>whnf)|(refine OpP.sub ?_ ?_;omega;conv=>whnf)|(refine AKM.x ?_;conv=>whnf)))
 ·obtain ⟨f1,f2⟩:=fill_step p2 p3 (hF2 i (by omega))
  refine StR.at (b.length-1+i) (if i=0 then ((b.length+a.length:Nat):Int) else b.length+i-1) (by omega) (by rw[if_pos (by omega)];simp only[List.cons.injEq,AV.int.injEq,true_and,and_true];omega) (fun _=>rfl) (by omega) ?_
  (conv=>whnf)
  (repeat' (refine OpP.add ?_ ?_;omega;conv=>whnf))
  exact AKM.back [] (by (conv=>whnf);exact ⟨rfl,rfl,rfl⟩) (ih (i+1) _ (by omega) ⟨by omega,f1,f2⟩)
 ·obtain ⟨f1,f2⟩:=fill_step p2 p3 (hF2 i (by omega))
  refine StR.at (b.length-1+i) (if i=0 then ((b.length+a.length:Nat):Int) else b.length+i-1) (by omega) (by rw[if_neg (by omega)];simp only[List.cons.injEq,AV.int.injEq,true_and,and_true];omega) (fun _=>rfl) (by omega) ?_
  (conv=>whnf)
  (repeat' (refine OpP.add ?_ ?_;omega;conv=>whnf))
  exact AKM.back [] (by (conv=>whnf);exact ⟨rfl,rfl,rfl⟩) (ih (i+1) _ (by omega) ⟨by omega,f1,f2⟩)
 have ho:=fill_done p2 p3 (by omega)
 subst ho
 refine ⟨rfl,_,rfl,?_⟩
 (conv=>whnf)
 (repeat' (refine SnR.e1 rfl ?_;conv=>whnf))
 refine SnR.all (enc:=encInt) (fun _=>rfl) rfl hFl.symm ?_
 (conv=>whnf)
 skip
 have e1:(b.length:Int)-1+1=b.length:=by omega
 have e2:(b.length:Int)-1+a.length=((b.length-1+a.length:Nat):Int):=by omega
 have e3:(b.length:Int)-1+a.length+1=((b.length+a.length:Nat):Int):=by omega
 refine FinP.go ?_ ?_
 ·rw[e1,e3,e2]
  simp only[formOneS,hF,List.map_cons,List.map_nil,joinD,List.flatMap_cons,List.flatMap_nil,List.append_nil]
  rfl
 ·exact netE_clean (formOneS b a d c) rfl rfl (by simp [formOneS])
end Go.Eng

namespace Go.Eng
open F
attribute [local irreducible] AKM CmpP Req OpP UnP ConvP RdP LdR StR MkR LenP AppR AppN CpyR RowP SnR Bds SlS CallP CalP FinP pw LdM GetM SetM PutM MkM AppM SnM FlP CallR
set_option maxHeartbeats 1000000
variable {L:Lib}
def k23:Nt:=formOneS [8] [-4] ⟨8,0,1,1⟩ ⟨8,4,1,1⟩
theorem k23_run:rrS k23 [0] [16,0,0]=([8,2,0],[0],0,0):=by decide +kernel
theorem ev_law23_known (I:FixedLib L) (J:NetLib L) (R:RunGLib L) (D:DirectGLib L):Ev L 54 [] (.bool true):=by
 have h:=fun q q'=>ev_direct_FormOne I D [8] [-4] q q' ⟨8,0,1,1⟩ ⟨8,4,1,1⟩ (by decide +kernel) (by decide +kernel) (by simp) (by simp) (by decide +kernel) (by decide +kernel)
 have h2:=fun q q'=>ev_network_Run k23 I J R [0] [16,0,0] q q' (by simp) (by simp)
 have h3:=fun q q'=>ev_ref21_SameInts I [8,2,0] [8,2,0] q q' (by simp) (by simp)
 rw[k23_run]at h2
 refine Ev.x D.law23_known rfl rfl ?_
 (repeat' (first|(refine SnR.e1 rfl ?_;conv=>whnf)|(refine AKM.x ?_;conv=>whnf)|(refine CallP.go (h _ _) ?_;conv=>whnf)))
 refine SnR.all (enc:=encInt) (l:=[16,0,0]) (fun _=>rfl) rfl rfl ?_
 (conv=>whnf)
 (repeat' (first|(refine CmpP.go (fun hc => ?_) (fun hc => ?_)<;>first|(exfalso;omega)|(conv=>whnf))|(refine CallP.go (h2 _ _) ?_;conv=>whnf)))
 all_goals try (exact absurd rfl hc)
 refine SnR.all (enc:=encInt) (l:=[8,2,0]) (fun _=>rfl) rfl rfl ?_
 (conv=>whnf)
 (repeat' (refine CallP.b (h3 _ _) (fun hf => ?_) (fun hf => ?_)<;>(conv=>whnf)))
 all_goals first|exact FinP.b rfl|(exfalso;exact hf rfl)
end Go.Eng

namespace Go.Eng
open F
attribute [local irreducible] AKM CmpP Req OpP UnP ConvP RdP LdR StR MkR LenP AppR AppN CpyR RowP SnR Bds SlS CallP CalP FinP pw LdM GetM SetM PutM MkM AppM SnM FlP CallR
set_option maxHeartbeats 1000000
variable {L:Lib}
def maxN (b a:List Int):Nat:=max (b.length-1) a.length
def formTwoS (b a:List Int) (d c:Wd):Nt :=
 ⟨d,c,(maxN b a:Int),false,[⟨false,rowD [pw c.f] 1 0++rowD a (-1) 1⟩,⟨false,rowD (b.take 1) 1 (maxN b a+1)++rowD (b.drop 1) 1 1⟩],false,delayS (maxN b a) 1 (maxN b a+1),maxN b a+1+1⟩
theorem ev_direct_FormTwo (I:FixedLib L) (D:DirectGLib L) (b a:List Int) (q1 q2:Bool) (d c:Wd) (hd:WV d) (hc:WV c) (l1:1≤b.length∧b.length≤49) (l2:a.length≤8) (hb : ∀ v∈b,FT c v) (ha : ∀ v∈a,FT c v∧FT c (-v)) :
  Ev L 51 [.sl q1 (b.map encInt),.sl q2 (a.map encInt),.agg (encW d),.agg (encW c)] (.tup [.agg (encN (formTwoS b a d c)),.int .i64 0]):=by
 have hw:=fun q q'=>ev_direct_wrong I D b a q q' d c hd hc l1 l2 hb ha
 have hc':=hc
 unfold WV at hc'
 have hpl:=pw_le (n:=c.f) (m:=23) (by omega)
 have hp23:pw 23=8388608:=by unfold pw;rfl
 have hpp:=pw_pos c.f
 have r1:=fun q=>ev_direct_row D [pw c.f] q 1 0 (by simp) (Or.inl rfl) (by omega) (by simp;omega)
 have r2:=fun q=>ev_direct_row D a q (-1) 1 (by omega) (Or.inr rfl) (by omega) (fun v hv=>FT_rng hc (ha v hv).1)
 have r3:=fun q=>ev_direct_row D (b.take 1) q 1 (maxN b a+1) (by simp;omega) (Or.inl rfl) (by unfold maxN;omega) (fun v hv=>FT_rng hc (hb v (List.mem_of_mem_take hv)))
 have r4:=fun q=>ev_direct_row D (b.drop 1) q 1 1 (by simp;omega) (Or.inl rfl) (by omega) (fun v hv=>FT_rng hc (hb v (List.mem_of_mem_drop hv)))
 have j1:=fun q q' q''=>ev_direct_join D [⟨q,rowD [pw c.f] 1 0⟩,⟨q',rowD a (-1) 1⟩] q'' (by simp [joinD,rowD_len];omega) (by simp)
 have j2:=fun q q' q''=>ev_direct_join D [⟨q,rowD (b.take 1) 1 (maxN b a+1)⟩,⟨q',rowD (b.drop 1) 1 1⟩] q'' (by simp [joinD,rowD_len];omega) (by simp)
 generalize hF:delayS (maxN b a) 1 ((maxN b a:Int)+1)=F
 have hFl:F.length=maxN b a:=by rw[←hF];simp [delayS]
 have hF1 : ∀ i:Nat,i<maxN b a→F[i]? = some (if i=0 then ((maxN b a:Int)+1) else 1+i-1):=fun i hi=>by
  rw[←hF];exact delayS_at hi
 have hmx:(maxN b a:Int)≤1000:=by unfold maxN;omega
 refine Ev.x D.direct_FormTwo rfl rfl ?_
 (repeat' (first|(refine CmpP.go (fun hc => ?_) (fun hc => ?_)<;>first|(exfalso;omega)|(conv=>whnf))|(refine OpP.add ?_ ?_;omega;conv=>whnf)|(refine OpP.sub ?_ ?_;omega;conv=>whnf)|(refine LenP.go ?_;conv=>whnf)|(refine AKM.x ?_;conv=>whnf)|(refine CallP.go (hw _ _) ?_;conv=>whnf)))
 all_goals first|rw[show (a.length:Int)=(maxN b a:Int) by unfold maxN;omega]|rw[show (b.length:Int)-1=(maxN b a:Int) by unfold maxN;omega]
 all_goals (
  generalize hmm:maxN b a=mx at *
  refine MkR.go (enc:=encInt) 0 mx rfl rfl (by omega) ?_
  (conv=>whnf)
  (repeat' (first|(refine OpP.add ?_ ?_;omega;conv=>whnf)|(refine OpP.shl1 ?_ (fun _ _ => ?_);omega;conv=>whnf)|(refine SnR.e1 rfl ?_;conv=>whnf)|(refine SnR.e2 rfl rfl ?_;conv=>whnf)|(refine CallP.go (r1 _) ?_;conv=>whnf)|(refine CallP.go (r2 _) ?_;conv=>whnf)|(refine CallP.go (j1 _ _ _) ?_;conv=>whnf)))
  refine SlS.to (k:=1) (fun _=>rfl) (by omega) ?_
  (conv=>whnf)
  (repeat' (refine CallP.go (r3 _) ?_;conv=>whnf))
  refine SlS.off (k:=1) (fun _=>rfl) (by omega) ?_
  (conv=>whnf)
  (repeat' (first|(refine SnR.e2 rfl rfl ?_;conv=>whnf)|(refine CallP.go (r4 _) ?_;conv=>whnf)|(refine CallP.go (j2 _ _ _) ?_;conv=>whnf)))
  refine CalP.walk 1000 D.direct_delay rfl rfl ?_
  (repeat' (refine AKM.x ?_;conv=>whnf))
  refine AKM.loop2 (fun i _=>mx-i) (fun (i:Nat) (o:List Int)=>i≤mx∧o.length=F.length∧o.take i=F.take i) (fun i o=>[(9,.int .i64 i)]) (fun i o=>[(36,36,.rw 1 (o.map encInt))]) [] [] 0 (List.replicate mx 0) (by (conv=>whnf);exact ⟨rfl,rfl,rfl⟩) ⟨by omega,by simp [hFl],by simp⟩ ?_
  intro i o ⟨p1,p2,p3⟩ ih
  (repeat' (first|(refine CmpP.go (fun hc => ?_) (fun hc => ?_)<;>first|(exfalso;omega)|(conv=>whnf))|(refine Req.go ?_ ?_;omega;conv=>whnf)|(refine OpP.add ?_ ?_;omega;conv=>whnf)|(refine OpP.sub ?_ ?_;omega;conv=>whnf)|(refine AKM.x ?_;conv=>whnf)))
  ·obtain ⟨f1,f2⟩:=fill_step p2 p3 (hF1 i (by omega))
   refine StR.at i (if i=0 then ((mx:Int)+1) else 1+i-1) (by omega) (by rw[if_pos (by omega)]) (fun _=>rfl) (by omega) ?_
   (conv=>whnf)
   (repeat' (refine OpP.add ?_ ?_;omega;conv=>whnf))
   exact AKM.back [] (by (conv=>whnf);exact ⟨rfl,rfl,rfl⟩) (ih (i+1) _ (by omega) ⟨by omega,f1,f2⟩)
  ·obtain ⟨f1,f2⟩:=fill_step p2 p3 (hF1 i (by omega))
   refine StR.at i (if i=0 then ((mx:Int)+1) else 1+i-1) (by omega) (by rw[if_neg (by omega)]) (fun _=>rfl) (by omega) ?_
   (conv=>whnf)
   (repeat' (refine OpP.add ?_ ?_;omega;conv=>whnf))
   exact AKM.back [] (by (conv=>whnf);exact ⟨rfl,rfl,rfl⟩) (ih (i+1) _ (by omega) ⟨by omega,f1,f2⟩)
  have ho:=fill_done p2 p3 (by omega)
  subst ho
  refine ⟨rfl,_,rfl,?_⟩
  (conv=>whnf)
  (repeat' (refine SnR.e2 rfl rfl ?_;conv=>whnf))
  refine SnR.all (enc:=encInt) (fun _=>rfl) rfl hFl.symm ?_
  (conv=>whnf)
  refine FinP.go ?_ ?_
  ·simp only[formTwoS,hF,hmm,List.map_cons,List.map_nil,joinD,List.flatMap_cons,List.flatMap_nil,List.append_nil]
   rfl
  ·exact netE_clean (formTwoS b a d c) rfl rfl (by simp [formTwoS]))
end Go.Eng
