/-
  The law StatespaceForms.
-/
import Derived.Test.YtdgodemmncmlaaaGreatB11
import Derived.Test.YtdgodemmncmlaaaGreatB10
import Derived.Test.YtdgodemmncmlaaaGreatB4
import Derived.Test.YtdgodemmncmlaaaGreatB3
import Derived.ProofKit
import Derived.OpenShut
import Derived.ChangeOld
import Derived.WalkKit
import Derived.WideShapes
import Derived.ChangeArms
set_option linter.unusedSimpArgs false
set_option linter.unusedVariables false
set_option linter.unnecessarySimpa false
namespace Go.Eng
open F
attribute [local irreducible] AKM CmpP Req OpP UnP ConvP RdP LdR StR MkR LenP AppR AppN CpyR RowP SnR Bds SlS CallP CalP FinP pw LdM GetM SetM PutM MkM AppM SnM FlP CallR
set_option maxHeartbeats 8000000
variable {L:Lib}
theorem ev_SameSysT (N:ModGLib L) (S:SysQ) (n k:Nat) (q:Bool) (h:S.Ok n k) (hn:n≤64) (hk:k<2199023255552) :
  Ev L 167 [.agg ([.sl false (S.a.map fun r=>[AV.sl false (r.map eQ)]),.sl false (S.b.map eQ),.sl false (S.c.map eQ)]++eQ S.d),.agg ([.sl q (S.a.map fun r=>[AV.sl q (r.map eQ)]),.sl q (S.b.map eQ),.sl q (S.c.map eQ)]++eQ S.d)] (.bool true):=by
 have hD:=ev_cmp3 N.toRefGLib h.bd h.bd hk hk
 rw[sgn_sub.2 rfl]at hD
 have hB:=ev_SameRats N.toRefGLib S.b S.b false q k h.bb h.bb hk (by have:=h.lb;omega)
 have hC:=ev_SameRats N.toRefGLib S.c S.c false q k h.bc h.bc hk (by have:=h.lc;omega)
 rw[decide_eq_true rfl]at hB hC
 have hla:=h.la
 refine Ev.x N.ref22_SameSystems rfl rfl ?_
 (repeat' (first|(refine CmpP.go (fun hc => ?_) (fun hc => ?_)<;>first|(exfalso;omega)|(conv=>whnf))|(refine LenP.go ?_;conv=>whnf)|(refine AKM.x ?_;conv=>whnf)|(refine CallP.go (hB) ?_;conv=>whnf)|(refine CallP.go (hC) ?_;conv=>whnf)|(refine CallP.go (hD) ?_;conv=>whnf)))
 refine AKM.loop1 (fun i=>S.a.length-i) (fun (i:Nat)=>i≤S.a.length) (fun i=>[(5,.int .i64 i)]) (fun _=>[]) [] [] 0 (by (conv=>whnf);exact ⟨rfl,rfl,rfl⟩) (by omega) ?_
 intro i p1 ih
 by_cases hi:i<S.a.length
 ·obtain ⟨r,hr⟩ : ∃ r,S.a[i]? = some r:=⟨_,List.getElem?_eq_getElem hi⟩
  have hr':S.a[(i:Int).toNat]? = some r:=hr
  have hrb:=h.ba r (List.mem_of_getElem? hr)
  have hrl:=h.lr r (List.mem_of_getElem? hr)
  have hR:=ev_SameRats N.toRefGLib r r false q k hrb hrb hk (by omega)
  rw[decide_eq_true rfl]at hR
  (repeat' (first|(refine CmpP.go (fun hc => ?_) (fun hc => ?_)<;>first|(exfalso;omega)|(conv=>whnf))|(refine OpP.add ?_ ?_;omega;conv=>whnf)|(refine LenP.go ?_;conv=>whnf)|(refine RdP.at (by assumption) ?_ rfl ?_;omega;conv=>whnf)|(refine AKM.x ?_;conv=>whnf)|(refine CallP.go (hR) ?_;conv=>whnf)))
  exact AKM.back [] (by (conv=>whnf);exact ⟨rfl,rfl,rfl⟩) (ih (i+1) (by omega) (by omega))
 ·obtain rfl:i=S.a.length:=by omega
  clear ih
  (repeat' (first|(refine CmpP.go (fun hc => ?_) (fun hc => ?_)<;>first|(exfalso;omega)|(conv=>whnf))|(refine LenP.go ?_;conv=>whnf)|(refine AKM.x ?_;conv=>whnf)))
  exact FinP.b rfl
theorem Bt.ng {k:Nat} {x:Rat} (h:Bt k x):Bt k (-x):=⟨by simpa using h.1,by simpa using h.2⟩
theorem ctl_ok {B A:List Rat} {n:Nat} (hB:Bs 4 B) (hA:Bs 4 A):(ctlQ B A n).Ok n 64:=by
 have hs : ∀ i,Bt 64 (B.getD i 0-B.getD 0 0*A.getD i 0):=fun i=>by
  rw[Rat.sub_eq_add_neg]
  exact ((getD_bt hB i).add ((getD_bt hB 0).mul (getD_bt hA i)).ng).le (by omega)
 have hu : ∀ j,Bs 64 (unitL n j):=fun j x hx=>by
  simp only[unitL,List.mem_map]at hx
  obtain ⟨i,_,rfl⟩:=hx
  split
  ·exact Bt.one _
  ·exact Bt.zero _
 refine ⟨ctl_al B A n,ctl_row,unitL_len _ _,ctl_cl B A n,?_,hu 0,?_,(getD_bt hB 0).le (by omega)⟩
 ·intro r hr
  simp only[ctlQ,List.mem_map]at hr
  obtain ⟨i,_,rfl⟩:=hr
  split
  ·intro x hx
   obtain ⟨j,_,rfl⟩:=List.mem_map.1 hx
   exact (getD_bt hA _).ng.le (by omega)
  ·exact hu _
 ·intro x hx
  simp only[ctlQ,List.mem_map]at hx
  obtain ⟨i,_,rfl⟩:=hx
  exact hs _
theorem obs_ok {B A:List Rat} {n:Nat} (h:(ctlQ B A n).Ok n 64):(obsQ B A n).Ok n 64:=by
 refine ⟨by simp [obsQ],?_,h.lc,h.lb,?_,h.bc,h.bb,h.bd⟩
 ·intro r hr
  simp only[obsQ,List.mem_map]at hr
  obtain ⟨i,_,rfl⟩:=hr
  simp [colQ,ctl_al]
 ·intro r hr
  simp only[obsQ,List.mem_map]at hr
  obtain ⟨i,_,rfl⟩:=hr
  intro x hx
  simp only[colQ,List.mem_map]at hx
  obtain ⟨r,hr,rfl⟩:=hx
  exact getD_bt (h.ba r hr) i
theorem cutN_pos {l:List Rat} (h:l.getD 0 0≠0) : ∀ n,0<n→0<cutN l n
 | 1,_=>by rw[cutN,if_neg h];omega
 | n+2,_=>by
  rw[cutN]
  split
  ·exact cutN_pos h (n+1) (by omega)
  ·omega
theorem trim_one (l:List Rat):(trimQ (1::l))[0]? = some 1:=by
 have:=cutN_pos (l:=1::l) (show (1:Rat)≠0 by decide) (1::l).length (by simp)
 rw[trimQ,List.getElem?_take_of_lt this];rfl
def filB (b:List Int):List Rat:=trimQ (ratsL b (withS b.length 5).toNat)
def filA (a:List Int):List Rat:=trimQ (1::ratsL a (withS a.length 4).toNat)
theorem Bs.cons1 {k:Nat} {l:List Rat} (h:Bs k l):Bs k (1::l):=by
 intro x hx
 rcases List.mem_cons.1 hx with rfl|hx
 ·exact Bt.one k
 ·exact h x hx
theorem ev_filter27 (W:WorldLib L) (N:LawFLib L) (b a:List Int) (q1 q2:Bool) (hb : ∀ v∈b,InI v) (ha : ∀ v∈a,InI v) (lb:b.length<9223372036854775808) (la:a.length<9223372036854775808) :
  Ev L 214 [.sl q1 (b.map encInt),.sl q2 (a.map encInt)] (.agg [.sl false ((filB b).map eQ),.sl false ((filA a).map eQ)]):=by
 have T:RatsGLib L:=N.toRatsGLib
 have A:StGLib L:=N.toStGLib
 have hW1:=ev_world_Within W (b.length:Int) 5 ⟨by omega,by omega⟩ (by omega)
 have hW2:=ev_world_Within W (a.length:Int) 4 ⟨by omega,by omega⟩ (by omega)
 obtain ⟨g1,g2⟩:=with_range (v:=(b.length:Int)) (m:=5) (by omega)
 obtain ⟨g3,g4⟩:=with_range (v:=(a.length:Int)) (m:=4) (by omega)
 obtain ⟨n,hn⟩:=Int.eq_ofNat_of_zero_le g1
 obtain ⟨m,hm⟩:=Int.eq_ofNat_of_zero_le g3
 unfold filB filA
 rw[hn]at hW1 g2 ⊢
 rw[hm]at hW2 g4 ⊢
 rw[Int.toNat_natCast,Int.toNat_natCast]
 have hR1:=fun q=>ev_Rats T b q n hb (by omega)
 have hR2:=fun q=>ev_Rats T a q m ha (by omega)
 have hO:=ev_r3_Of A.toRefGLib 1 (by omega)
 have l1:=ratsL_len b n
 have l2:=ratsL_len a m
 have b1:=ratsL_bs b n
 have b2:=ratsL_bs a m
 have hT1:=fun q=>ev_r5_Trim A.toR05GLib q (ratsL b n) 4 b1 (by omega) (by omega)
 have hT2:=fun q=>ev_r5_Trim A.toR05GLib q (1::ratsL a m) 4 b2.cons1 (by omega) (by simp;omega)
 generalize ratsL b n=X at *
 generalize ratsL a m=Y at *
 refine Ev.x N.law27_filter rfl rfl ?_
 (repeat' (first|(refine LenP.go ?_;conv=>whnf)|(refine AKM.x ?_;conv=>whnf)|(refine CallP.go (hW1) ?_;conv=>whnf)|(refine CallP.go (hR1 _) ?_;conv=>whnf)|(refine CallP.go (hT1 _) ?_;conv=>whnf)|(refine CallP.go (hO) ?_;conv=>whnf)|(refine CallP.go (hW2) ?_;conv=>whnf)|(refine CallP.go (hR2 _) ?_;conv=>whnf)))
 refine AppR.many (enc:=eQ) (l:=[((1:Int):Rat)]) rfl (fun _=>rfl) (by simp;omega) (by simp;omega) ?_
 rw[show [((1:Int):Rat)]++Y=1::Y from rfl]
 (conv=>whnf)
 (repeat' (first|(refine SnR.all (fun _=>rfl) rfl ?_ ?_;(first|rfl|simp);conv=>whnf)|(refine CallP.go (hT2 _) ?_;conv=>whnf)))
 exact FinP.go rfl (by
  simp only[Clean,CleanL,true_and,and_true]
  exact ⟨cl_eQs _,cl_eQs _⟩)
theorem half_bt:Bt 4 (Rat.divInt 1 2):=(Bt.mk (k:=4) (z:=1) (d:=2) (by decide) (by decide))
theorem ev_known27 (N:LawFLib L):Ev L 215 [] (.bool true):=by
 have A:StGLib L:=N.toStGLib
 have hO:=ev_r3_Of A.toRefGLib 1 (by omega)
 have hF:=ev_r3_Frac A.toRefGLib 1 2 (by omega) (by omega)
 have hh:=half_bt
 have hne : -(Rat.divInt 1 2)≠0:=by decide
 generalize Rat.divInt 1 2=h at *
 have hN:=ev_neg3 A.toRefHLib hh (by omega)
 have hA:Bs 4 [1,-h]:=fun x hx=>by
  rcases List.mem_cons.1 hx with rfl|hx
  ·exact Bt.one 4
  ·obtain rfl:=List.mem_singleton.1 hx
   exact hh.ng
 have hB:Bs 4 [(1:Rat)]:=fun x hx=>by
  obtain rfl:=List.mem_singleton.1 hx
  exact Bt.one 4
 have tB:trimQ [(1:Rat)]=[1]:=by decide
 have tA:trimQ [1,-h]=[1,-h]:=by
  show List.take (if -h=0 then _ else 2) [1,-h]=_
  rw[if_neg hne]
  rfl
 have hC:=ev_Controller A true true [1] [1,-h] 1 4 tB tA hB hA (by simp) (by simp) rfl rfl (by omega)
 have hok:(ctlQ [1] [1,-h] 1).Ok 1 64:=ctl_ok hB hA
 have e:ctlQ [1] [1,-h] 1=⟨[[h]],[1],[h],1⟩:=by
  have:ctlQ [1] [1,-h] 1=⟨[[- -h]],[1],[0-1 * -h],1⟩:=rfl
  rw[this,Rat.neg_neg,show 0-1 * -h=h by grind]
 rw[e]at hC hok
 have hS:=ev_SameSysT N.toModGLib ⟨[[h]],[1],[h],1⟩ 1 64 true hok (by omega) (by omega)
 refine Ev.x N.law27_known rfl rfl ?_
 (repeat' (first|(refine CmpP.go (fun hc => ?_) (fun hc => ?_)<;>first|(exfalso;omega)|(conv=>whnf))|(refine SnR.e1 rfl ?_;conv=>whnf)|(refine SnR.e2 rfl rfl ?_;conv=>whnf)|(refine AKM.x ?_;conv=>whnf)|(refine CallP.go (hO) ?_;conv=>whnf)|(refine CallP.go (hF) ?_;conv=>whnf)|(refine CallP.go (hN) ?_;conv=>whnf)|(refine CallP.go (hC) ?_;conv=>whnf)))
 refine Req.go rfl ?_
 (conv=>whnf)
 (repeat' (first|(refine SnR.e1 rfl ?_;conv=>whnf)|(refine CallP.go (hS) ?_;conv=>whnf)))
 exact FinP.b rfl
theorem ev_law27_StatespaceForms (W:WorldLib L) (N:LawFLib L) (b a:List Int) (q1 q2:Bool) (hb : ∀ v∈b,InI v) (ha : ∀ v∈a,InI v) (lb:b.length<9223372036854775808) (la:a.length<9223372036854775808) :
  Ev L 216 [.sl q1 (b.map encInt),.sl q2 (a.map encInt)] (.bool true):=by
 have A:StGLib L:=N.toStGLib
 have hkn:=ev_known27 N
 have hF:=fun q1 q2=>ev_filter27 W N b a q1 q2 hb ha lb la
 obtain ⟨g1,g2⟩:=with_range (v:=(b.length:Int)) (m:=5) (by omega)
 obtain ⟨g3,g4⟩:=with_range (v:=(a.length:Int)) (m:=4) (by omega)
 have tB:trimQ (filB b)=filB b:=trimQ_idem _
 have tA:trimQ (filA a)=filA a:=trimQ_idem _
 have bB:Bs 4 (filB b):=(ratsL_bs _ _).trim
 have bA:Bs 4 (filA a):=(ratsL_bs _ _).cons1.trim
 have h0:(filA a)[0]? = some 1:=trim_one _
 have lB:(filB b).length≤4:=by
  have h1:=trimQ_len (ratsL b (withS b.length 5).toNat)
  have h2:=cutN_le (ratsL b (withS b.length 5).toNat) (ratsL b (withS b.length 5).toNat).length
  rw[ratsL_len]at h1 h2
  unfold filB
  rw[h1]
  omega
 have lA:(filA a).length≤4:=by
  have h1:=trimQ_len (1::ratsL a (withS a.length 4).toNat)
  have h2:=cutN_le (1::ratsL a (withS a.length 4).toNat) (1::ratsL a (withS a.length 4).toNat).length
  rw[List.length_cons,ratsL_len]at h1 h2
  unfold filA
  rw[h1]
  omega
 generalize filB b=P at *
 generalize filA a=Q at *
 obtain ⟨n,hn⟩ : ∃ n,max (P.length-1) (Q.length-1)=n:=⟨_,rfl⟩
 have hC1:=ev_Controller A false false P Q n 4 tB tA bB bA (by omega) (by omega) h0 hn (by omega)
 have hC2:=ev_Controller27 A P Q n 4 tB tA bB bA (by omega) (by omega) h0 hn (by omega)
 have hO1:=ev_Observer A P Q n 4 tB tA bB bA (by omega) (by omega) h0 hn (by omega)
 have hO2:=ev_Observer27 A P Q n 4 tB tA bB bA (by omega) (by omega) h0 hn (by omega)
 have k1:(ctlQ P Q n).Ok n 64:=ctl_ok bB bA
 have k2:(obsQ P Q n).Ok n 64:=obs_ok k1
 have hQl:0<Q.length:=(List.getElem?_eq_some_iff.1 h0).1
 obtain ⟨t1,t2⟩:=ctl_tf (n:=n) tA tB (by omega) (by omega) (gD_of h0) (by omega)
 obtain ⟨t3,t4⟩:=obs_tf (n:=n) tA tB (by omega) (by omega) (gD_of h0) (by omega)
 have hT1:=ev_Transfer A.toTrGLib (ctlQ P Q n) n k1 (by omega)
 have hT2:=ev_Transfer A.toTrGLib (obsQ P Q n) n k2 (by omega)
 rw[t1,t2]at hT1
 rw[t3,t4]at hT2
 have hS1:=ev_SameSysT N.toModGLib (ctlQ P Q n) n 64 false k1 (by omega) (by omega)
 have hS2:=ev_SameSysT N.toModGLib (obsQ P Q n) n 64 false k2 (by omega) (by omega)
 have hSF:=ev_SameFilters N.toBldGLib P Q 4 bB bA (by omega) (by omega) (by omega)
 generalize ctlQ P Q n=S1 at *
 generalize obsQ P Q n=S2 at *
 refine Ev.x N.law27_StatespaceForms rfl rfl ?_
 (repeat' (first|(refine CmpP.go (fun hc => ?_) (fun hc => ?_)<;>first|(exfalso;omega)|(conv=>whnf))|(refine AKM.x ?_;conv=>whnf)|(refine CallP.go (hF _ _) ?_;conv=>whnf)|(refine CallP.go (hC1) ?_;conv=>whnf)|(refine CallP.go (hC2) ?_;conv=>whnf)|(refine CallP.go (hO1) ?_;conv=>whnf)|(refine CallP.go (hO2) ?_;conv=>whnf)|(refine CallP.go (hT1) ?_;conv=>whnf)|(refine CallP.go (hT2) ?_;conv=>whnf)|(refine CallP.go (hkn) ?_;conv=>whnf)|(refine CallP.go (hS1) ?_;conv=>whnf)|(refine CallP.go (hS2) ?_;conv=>whnf)|(refine CallP.go (hSF) ?_;conv=>whnf)))
 exact FinP.b rfl
end Go.Eng
namespace Go.Eng
open Go.ChangeShapes Go.WideShapes Go.ChangeAt Go.RowKit
inductive Ty where
 | int (k:IntKind)
 | bool
 | sl (e:Ty)
 | nil
 | cons (a r:Ty)
def Ty.cells:Ty→Nat
 | .int _=>1 | .bool=>1 | .sl _=>1
 | .nil=>0
 | .cons a r=>a.cells+r.cells
def HasL:Ty→List AV→Prop
 | .int k,cs => ∃ n,cs=[.int k n]∧(Lit.int k n).wf=true
 | .bool,cs => ∃ b,cs=[.bool b]
 | .sl e,cs => ∃ es,cs=[.sl true es]∧es.length≤maxLen ∧ ∀ x∈es,HasL e x
 | .nil,cs=>cs=[]
 | .cons a r,cs => ∃ x y,cs=x++y∧HasL a x∧HasL r y
theorem HasL.len : ∀ {ty:Ty} {cs:List AV},HasL ty cs→cs.length=ty.cells
 | .int _,cs,h=>by obtain ⟨n,rfl,_⟩:=h;rfl
 | .bool,cs,h=>by obtain ⟨n,rfl⟩:=h;rfl
 | .sl _,cs,h=>by obtain ⟨n,rfl,_⟩:=h;rfl
 | .nil,cs,h=>by rw[show cs=[] from h];rfl
 | .cons a r,cs,h=>by obtain ⟨x,y,rfl,h1,h2⟩:=h;simp [Ty.cells,HasL.len h1,HasL.len h2]
def okTy (P:Program):Nat→TypeId→Ty→Bool
 | 0,_,_=>false
 | n+1,t,ty=>match P.underlying t,ty with
  | some (.int k),.int k'=>decide (k=k')
  | some .bool,.bool=>true
  | some (.slice e),.sl ty'=>okTy P n e ty'&&(P.cellsOf e == ty'.cells&&decide (0<ty'.cells))
  | some (.struct fs),ty=>go (okTy P n) fs.toList 0 ty&&P.cellsOf t == ty.cells
  | _,_=>false
where
 go (ok:TypeId→Ty→Bool):List Field→Nat→Ty→Bool
  | [],_,.nil=>true
  | f::fs,off,.cons a r=>(f.offset == off&&(ok f.type a&&P.cellsOf f.type == a.cells))&&go ok fs (off+a.cells) r
  | _,_,_=>false
section
variable {H:Type} {enc:TypeId × Value→H} {P:Program} {w:World} {base:Nat} {spare:Nat→Bool} {held:Bool} {R:Bool→Nat→Prop}
def RdL (w:World) (R:Bool→Nat→Prop) (as:List AV) (cs:List Value):Prop:=as.length=cs.length ∧ ∀ (j:Nat) (a:AV) (c:Value),as[j]? = some a→cs[j]? = some c→Rd w R a c
theorem RdL.one {a:AV} {c:Value} (h:Rd w R a c):RdL w R [a] [c]:=by
 refine ⟨rfl,fun j a' c' h1 h2 => ?_⟩
 cases j with
 | zero=>simp at h1 h2;subst h1 h2;exact h
 | succ j=>simp at h1
theorem RdL.append {as bs:List AV} {cs ds:List Value} (h1:RdL w R as cs) (h2:RdL w R bs ds):RdL w R (as++bs) (cs++ds):=by
 refine ⟨by simp [h1.1,h2.1],fun j a c ha hc => ?_⟩
 by_cases hj:j<as.length
 ·rw[List.getElem?_append_left hj]at ha
  rw[List.getElem?_append_left (by rw[←h1.1];exact hj)]at hc
  exact h1.2 j a c ha hc
 ·rw[List.getElem?_append_right (by omega)]at ha
  rw[List.getElem?_append_right (by rw[←h1.1];omega),←h1.1]at hc
  exact h2.2 _ a c ha hc
theorem add_off (a:Addr) (i:Nat) (h:a.spot=none):a.add i=⟨a.block,a.off+i,none⟩:=by
 obtain ⟨b,o,s⟩:=a
 simp only at h
 subst h
 exact add_none b o i
theorem open_go (hR : ∀ b,b<w.heap.size→R true b) (m:Nat) (ih : ∀ (ty:Ty) (t:TypeId) (cs:List Value) (fuel:Nat) (x:DataW H × List MemPlace),okTy P m t ty=true→DataW.trod enc P w base spare held fuel t cs=some x → ∃ as,HasL ty as∧RdL w R as cs)
  (n:Nat) (cs:List Value) : ∀ (fs:List Field) (off:Nat) (ty:Ty),okTy.go P (okTy P m) fs off ty=true→(∀ f∈fs,∃ y,DataW.trod enc P w base spare held n f.type ((cs.drop f.offset).take (P.cellsOf f.type))=some y)→off+ty.cells=cs.length → ∃ as,HasL ty as∧RdL w R as (cs.drop off)
 | [],off,ty,hok,_,hl=>by
  cases ty<;>simp only[okTy.go,Bool.false_eq_true]at hok
  simp only[Ty.cells]at hl
  exact ⟨[],rfl,by rw[List.drop_of_length_le (by omega)];exact ⟨rfl,fun j a c h=>by simp at h⟩⟩
 | f::fs,off,ty,hok,hf,hl=>by
  cases ty<;>simp only[okTy.go,Bool.false_eq_true,Bool.and_eq_true,beq_iff_eq]at hok
  rename_i a r
  obtain ⟨⟨h1,h2,h3⟩,h4⟩:=hok
  simp only[Ty.cells]at hl
  obtain ⟨y,hy⟩:=hf f List.mem_cons_self
  rw[h1,h3]at hy
  obtain ⟨as1,g1,g2⟩:=ih a f.type _ n y h2 hy
  obtain ⟨as2,g3,g4⟩:=open_go hR m ih n cs fs (off+a.cells) r h4 (fun f' h'=>hf f' (List.mem_cons_of_mem _ h')) (by omega)
  refine ⟨as1++as2,⟨as1,as2,rfl,g1,g3⟩,?_⟩
  have:=g2.append g4
  rwa [show (cs.drop off).take a.cells++cs.drop (off+a.cells)=cs.drop off by rw[←List.drop_drop,List.take_append_drop]]at this
theorem open_any (hR : ∀ b,b<w.heap.size→R true b) : ∀ (m:Nat) (ty:Ty) (t:TypeId) (cs:List Value) (fuel:Nat) (x:DataW H × List MemPlace),okTy P m t ty=true→DataW.trod enc P w base spare held fuel t cs=some x → ∃ as,HasL ty as∧RdL w R as cs
 | 0,_,_,_,_,_,h,_=>by simp [okTy]at h
 | m+1,ty,t,cs,fuel,x,hok,h=>by
  have ih:=open_any hR m
  simp only[okTy]at hok
  split at hok
  ·rename_i k k' hu
   obtain rfl:k=k':=by simpa using hok
   obtain ⟨n,rfl,_,hw⟩:=DataW.trod_int hu h
   exact ⟨[.int k n],⟨n,rfl,hw⟩,RdL.one (.int k n)⟩
  ·rename_i hu
   cases fuel with
   | zero=>simp [DataW.trod]at h
   | succ fuel =>
    unfold DataW.trod at h
    rw[hu]at h
    split at h<;>simp_all
    exact ⟨_,⟨_,rfl⟩,RdL.one (.bool _)⟩
  ·rename_i e ty' hu
   simp only[Bool.and_eq_true,beq_iff_eq,decide_eq_true_eq]at hok
   obtain ⟨h1,h2,h3⟩:=hok
   rcases DataW.trod_slice hu h with ⟨rfl,_⟩|⟨a,len,cap,elems,rest,n,_,rfl,_,hb,hl,hm,hlen,hel,_,_⟩
   ·exact ⟨[.sl true []],⟨[],rfl,by simp,by simp⟩,RdL.one (.sl0 true none 0)⟩
   ·have each : ∀ i,i<len → ∃ as cs',HasL ty' as∧RdL w R as cs'∧cs'.length=ty'.cells ∧ ∀ j,j<ty'.cells→w.cell? ((a.add (i*ty'.cells)).add j)=cs'[j]? := by
     intro i hi
     have:=hel i hi
     rw[h2,List.getElem?_eq_getElem (by omega),Option.bind_eq_some_iff]at this
     obtain ⟨cs',hc,ht⟩:=this
     obtain ⟨as,g1,g2⟩:=ih ty' e cs' n _ h1 ht
     obtain ⟨_,q1,q2⟩:=World.cells?_some hc
     exact ⟨as,cs',g1,g2,q1,q2⟩
    by_cases h0:len=0
    ·subst h0
     exact ⟨[.sl true []],⟨[],rfl,by simp,by simp⟩,RdL.one (.sl0 true (some a) cap)⟩
    ·have hspot:a.spot=none:=by
      obtain ⟨as,cs',_,_,q1,q2⟩:=each 0 (by omega)
      have:=q2 0 h3
      rw[List.getElem?_eq_getElem (by omega)]at this
      simpa [Addr.add] using World.cell?_spot this
     have hblk:a.block<w.heap.size:=by
      obtain ⟨as,cs',_,_,q1,q2⟩:=each 0 (by omega)
      have:=q2 0 h3
      rw[List.getElem?_eq_getElem (by omega)]at this
      simpa [Addr.add] using cell_lt this
     have pick : ∃ f:Nat→List AV × List Value,∀ i,i<len→HasL ty' (f i).1∧RdL w R (f i).1 (f i).2∧(f i).2.length=ty'.cells ∧ ∀ j,j<ty'.cells→w.cell? ((a.add (i*ty'.cells)).add j)=(f i).2[j]? := by
      refine ⟨fun i=>if hi:i<len then (Classical.choose (each i hi),Classical.choose (Classical.choose_spec (each i hi))) else ([],[]),fun i hi => ?_⟩
      simp only[hi,dif_pos]
      exact Classical.choose_spec (Classical.choose_spec (each i hi))
     obtain ⟨f,hf⟩:=pick
     have hget : ∀ i e',((List.range len).map fun i=>(f i).1)[i]? = some e'→i<len∧e'=(f i).1:=by
      intro i e' he
      rw[List.getElem?_map]at he
      by_cases hi:i<len
      ·rw[List.getElem?_range hi]at he
       simp at he
       exact ⟨hi,he.symm⟩
      ·rw[List.getElem?_eq_none (by simpa using hi)]at he
       cases he
     refine ⟨[.sl true ((List.range len).map fun i=>(f i).1)],⟨_,rfl,by simp;omega,fun x hx => ?_⟩,RdL.one ?_⟩
     ·obtain ⟨i,hi,rfl⟩:=List.mem_map.1 hx
      exact (hf i (List.mem_range.1 hi)).1
     ·obtain ⟨ab,ao,as⟩:=a
      simp only at hspot
      subst hspot
      have hlen':((List.range len).map fun i=>(f i).1).length=len:=by simp
      have:=Rd.sl (w:=w) (R:=R) true ((List.range len).map fun i=>(f i).1) ab ao ty'.cells cap (fun i j=>((f i).2[j]?).getD default) (by intro e;have:=congrArg List.length e;simp at this;omega) h3 (hR ab hblk) (by rw[hlen'];exact hl)
       (fun e' he=>by
        obtain ⟨i,hi,rfl⟩:=List.mem_map.1 he
        exact (hf i (List.mem_range.1 hi)).1.len)
       (fun i e' he j c hc=>by
        obtain ⟨hi,rfl⟩:=hget i e' he
        obtain ⟨g1,g2,g3,g4⟩:=hf i hi
        have hj:j<ty'.cells:=by
         have:=(List.getElem?_eq_some_iff.1 hc).1
         rwa [g1.len]at this
        have h5:=g4 j hj
        rw[add_off ⟨ab,ao,none⟩ (i*ty'.cells) rfl,add_off _ _ rfl]at h5
        simp only at h5
        rw[show ao+(i*ty'.cells+j)=ao+i*ty'.cells+j by omega,h5,List.getElem?_eq_getElem (by omega)]
        rfl)
       (fun i e' he j c hc=>by
        obtain ⟨hi,rfl⟩:=hget i e' he
        obtain ⟨g1,g2,g3,g4⟩:=hf i hi
        have hj:j<ty'.cells:=by
         have:=(List.getElem?_eq_some_iff.1 hc).1
         rwa [g1.len]at this
        have h6:(f i).2[j]? = some ((f i).2[j]'(by omega)):=List.getElem?_eq_getElem _
        rw[h6]
        exact g2.2 j c _ hc h6)
      rwa [hlen']at this
  ·rename_i fs hu
   simp only[Bool.and_eq_true,beq_iff_eq]at hok
   obtain ⟨h1,h2⟩:=hok
   obtain ⟨xs,n,_,_,hl,hlen,hf⟩:=DataW.trod_struct hu h
   have:=open_go hR m ih n cs fs.toList 0 _ h1 (fun f hf'=>by
    obtain ⟨i,hi,rfl⟩:=List.getElem_of_mem hf'
    have h5:=hf i fs.toList[i] (by simp)
    rw[h5,List.getElem?_eq_getElem (by simpa [hlen] using hi)]
    exact ⟨_,rfl⟩) (by rw[hl,h2];omega)
   simpa using this
  ·exact absurd hok (by simp)
theorem open_cell {S:Nat→Prop} {ty:Ty} {t:TypeId} {v:Value} {d:DataW H} {ps:List MemPlace} {m:Nat} (hok:okTy P m t ty=true) (hv:v.cells.toList=[v]) (h:DataW.Trod enc P w base spare held t v d ps) :
  ∃ a,HasL ty [a]∧CA w.heap.size S ⟨fun _ _=>none,Own.emp,w⟩ a v:=by
 obtain ⟨fuel,hf⟩:=h
 rw[hv]at hf
 obtain ⟨as,h1,h2⟩:=open_any (R:=safe w.heap.size S ⟨fun _ _=>none,Own.emp,w⟩) (fun b hb=>Or.inr (Or.inr ⟨rfl,hb⟩)) m ty t [v] fuel _ hok hf
 obtain ⟨a,rfl⟩ : ∃ a,as=[a]:=by
  have:=h2.1
  match as,this with
  | [a],_=>exact ⟨a,rfl⟩
 exact ⟨a,h1,.one (.rd (h2.2 0 a v rfl rfl))⟩
end
theorem args_nil {B:Nat} {S:Nat→Prop} {m:M} : ∀ (j:Nat) (c:AV) (v:Value),([]:List AV)[j]? = some c→([]:List Value)[j]? = some v→CA B S m c v:=fun j c v h=>by simp at h
theorem args_cons {B:Nat} {S:Nat→Prop} {m:M} {a:AV} {u:Value} {as:List AV} {us:List Value} (h:CA B S m a u) (hr : ∀ (j:Nat) (c:AV) (v:Value),as[j]? = some c→us[j]? = some v→CA B S m c v) :
  ∀ (j:Nat) (c:AV) (v:Value),(a::as)[j]? = some c→(u::us)[j]? = some v→CA B S m c v
 | 0,c,v,h1,h2=>by simp at h1 h2;subst h1 h2;exact h
 | j+1,c,v,h1,h2=>hr j c v (by simpa using h1) (by simpa using h2)
theorem law_calls {P:Program} {num:Nat→Nat} {L:Lib} (hP:ProgOK P num L) {f:Nat} {vs:List AV} (h:Ev L f vs (.bool true)) {S:Nat→Prop} {w:World} {us:List Value} (hl:vs.length=us.length)
  (ha : ∀ (j:Nat) (c:AV) (v:Value),vs[j]? = some c→us[j]? = some v→CA w.heap.size S ⟨fun _ _=>none,Own.emp,w⟩ c v) :
  Calls P (num f) us.toArray w fun e w'=>e = .returned (.bool true)∧Below w.heap.size w w':=by
 obtain ⟨n,hn⟩:=h
 refine ((calls_ok hP n).pure f vs _ hn S w us hl ha).mono ?_
 rintro e w' ⟨u,rfl,hb,hcv,_⟩
 refine ⟨?_,hb⟩
 cases hcv with
 | ca hca=>cases hca with
  | one hcc=>cases hcc with
   | rd hrd=>cases hrd;rfl
end Go.Eng

namespace Go.Eng
abbrev tI:Ty := .int .i64
end Go.Eng

namespace Go.Eng
theorem list_ofR {α:Type} {enc:α→List AV} {p:α→Prop} : ∀ {es:List (List AV)},(∀ x∈es,∃ y,x=enc y∧p y) → ∃ l:List α,es=l.map enc ∧ ∀ y∈l,p y
 | [],_=>⟨[],rfl,by simp⟩
 | e::es,h=>by
  obtain ⟨y,rfl,hy⟩:=h e List.mem_cons_self
  obtain ⟨l,rfl,hl⟩:=list_ofR (enc:=enc) (p:=p) fun x hx=>h x (List.mem_cons_of_mem _ hx)
  exact ⟨y::l,rfl,by simpa using ⟨hy,hl⟩⟩
theorem has_slR {α:Type} {enc:α→List AV} {p:α→Prop} {e:Ty} {cs:List AV} (he : ∀ x,HasL e x → ∃ y,x=enc y∧p y) (h:HasL (.sl e) cs) : ∃ l:List α,cs=[.sl true (l.map enc)]∧l.length<9223372036854775808 ∧ ∀ y∈l,p y:=by
 obtain ⟨es,rfl,hl,hx⟩:=h
 obtain ⟨l,rfl,hp⟩:=list_ofR (enc:=enc) (p:=p) fun x hm=>he x (hx x hm)
 refine ⟨l,rfl,?_,hp⟩
 have:maxLen=9223372036854775807:=rfl
 simp at hl
 omega
theorem wf_InR {n:Int} (h:(Lit.int .i64 n).wf=true):InI n:=by
 simp only[Lit.wf,Bool.and_eq_true,decide_eq_true_eq]at h
 have h1:IntKind.i64.min = -9223372036854775808:=rfl
 have h2:IntKind.i64.max=9223372036854775807:=rfl
 rw[h1,h2]at h
 unfold InI
 constructor<;>omega
theorem has_iR {cs:List AV} (h:HasL tI cs) : ∃ n,cs=encInt n∧InI n:=by obtain ⟨n,rfl,hw⟩:=h;exact ⟨n,rfl,wf_InR hw⟩
theorem has_intsR {cs:List AV} (h:HasL (.sl tI) cs) : ∃ l:List Int,cs=[.sl true (l.map encInt)]∧l.length<9223372036854775808 ∧ ∀ v∈l,InI v:=has_slR (fun _=>has_iR) h
end Go.Eng
