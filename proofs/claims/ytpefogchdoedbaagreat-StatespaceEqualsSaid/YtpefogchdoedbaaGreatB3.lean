/-
  One operation in its region, and a region in the order of its text.
-/
import Derived.Test.YtpefogchdoedbaaGreatB2
import Derived.Orders
import Derived.Test.YtpefogchdoedbaaGreatB1
set_option linter.unusedSimpArgs false
set_option linter.unusedVariables false
set_option linter.unnecessarySimpa false
namespace Go.Eng
open Go.RowKit
def ED (T:Nat->AV):AQ->AV
 | .t n=>T n
 | .c v=>v
def I2 (T:Nat->AV) (d:Option Nat) (v:AV):Nat->AV:=fun j=>if d=some j then v else T j
def M5 (T:Nat->AV):Option (Nat × Bool)->Option Bool
 | none=>some true
 | some (g,want)=>match T g with
  | .bool b=>some (b == want)
  | .tup []=>some false
  | _=>none
theorem kD (st:St):st.ev=ED (tget st.tm):=by funext x;cases x<;>rfl
theorem AbT (st:St) (g:Option (Nat × Bool)):FF st g=M5 (tget st.tm) g:=rfl
theorem jJ (st:St) (d:Option Nat) (v:AV):tget (st.dst d v).tm=I2 (tget st.tm) d v:=by
 cases d with
 | none=>funext j;simp [St.dst,I2]
 | some d =>
  funext j
  simp only[St.dst,I2,VG]
  by_cases h:j=d
  ·simp [h]
  ·simp [h,Ne.symm h]
theorem wT (st:St) (d:Option Nat) (E:CP):tget (st.app d E).tm=I2 (tget st.tm) d (E.valOf st.own):=by
 cases E<;>simp only[St.app,CP.valOf]<;>exact jJ st d _
theorem jK (st:St) (d:Option Nat) (v:AV):(st.dst d v).own=st.own:=by cases d<;>rfl
theorem wS (st:St) (d:Option Nat) (E:CP):(st.app d E).own=E.ownOf st.own:=by
 cases E with
 | val v=>simp only[St.app,CP.ownOf];exact jK st d v
 | _=>rfl
section
variable {B:Nat} {S:Nat->Prop} {w0:World} {m0:M} {N:Nat}
variable {P:Program} {num:Nat->Nat} {C:Cl} {Q:Exit->Act->World->Prop}
structure FC (B:Nat) (S:Nat->Prop) (w0:World) (m0:M) (N:Nat) (T:Nat->AV) (m:M) (a:Act):Prop where
 mem:BR B S w0 m
 ext:DD B S m0 m
 tm : ∀ i,CV B S m (T i) (a.tmps.getD i undef)
 size:a.tmps.size=N
 defers:a.defers=[]
theorem FC.put {T:Nat->AV} {m m':M} {a:Act} (h:FC B S w0 m0 N T m a) (d:Option Nat) (hd : ∀ k,d=some k->k<N) {v:AV} {u:Value} (hm:BR B S w0 m') (he:DD B S m m') (hc:CV B S m' v u):FC B S w0 m0 N (I2 T d v) m' (a.put d u):=by
 refine ⟨hm,h.ext.trans he,fun i => ?_,?_,?_⟩
 ·cases d with
  | none=>simpa [I2,Act.put] using he.cv (h.tm i)
  | some k =>
   have hk:k<a.tmps.size:=by rw[h.size];exact hd k rfl
   by_cases hik:i=k
   ·subst hik
    simp only[I2,if_true,Act.put]
    simpa [Array.getD,hk] using hc
   ·have hne : ¬ (some k=some i):=fun e=>hik (by simpa using e.symm)
    simp only[I2,if_neg hne,Act.put]
    have:(a.tmps.setIfInBounds k u).getD i undef=a.tmps.getD i undef:=by
     simp [Array.getElem?_setIfInBounds_ne (Ne.symm hik)]
    rw[this]
    exact he.cv (h.tm i)
 ·cases d<;>simp [Act.put,h.size]
 ·cases d<;>simpa [Act.put] using h.defers
theorem FC.says {T:Nat->AV} {m:M} {a:Act} (h:FC B S w0 m0 N T m a):CS B S m (ED T) a.eval:=Agm (fun _=>rfl) (fun _=>rfl) h.tm
theorem Ag3 {T:Nat->AV} {m:M} {a:Act} (h:FC B S w0 m0 N T m a) {ops:Array Oper} {o:Oper} {g':Option (Nat × Bool)} (hg:UP ops o.guard g'=true) {g:Bool} (hgt:M5 T g'=some g):Region.wanted o (yielded ops a.tmps)=g:=by
 unfold Region.wanted
 cases hog:o.guard with
 | none =>
  cases g' with
  | none=>simp [M5]at hgt;simp [hgt]
  | some _=>simp [UP,hog]at hg
 | some jw =>
  obtain ⟨j,want⟩:=jw
  cases g' with
  | none=>simp [UP,hog]at hg
  | some tw =>
   obtain ⟨t,want'⟩:=tw
   simp only[UP,hog,Bool.and_eq_true,beq_iff_eq]at hg
   obtain ⟨rfl,hg⟩:=hg
   split at hg
   ·rename_i oj hoj
    have hdst:oj.dst=some t:=by simpa using hg
    have hcv:=h.tm t
    simp only[M5]at hgt
    unfold yielded
    simp only[hoj,Option.bind_some,hdst]
    split at hgt
    ·rename_i b hb
     rw[hb]at hcv
     have hv:=QC hcv
     have hget:a.tmps[t]? = some (.bool b):=by
      cases ht:a.tmps[t]? with
      | none=>simp [ht,undef]at hv
      | some x=>simp [ht]at hv;rw[hv]
     simp only[hget]
     simp at hgt
     rw[<-hgt]
     cases b<;>cases want<;>rfl
    ·rename_i hb
     rw[hb]at hcv
     obtain ⟨vs,hv,hl,_⟩:=ZA hcv
     have:vs=[]:=List.eq_nil_of_length_eq_zero (by simpa using hl.symm)
     subst this
     simp at hgt
     subst hgt
     cases ht:a.tmps[t]? with
     | none=>rfl
     | some x =>
      simp [ht]at hv
      subst hv
      rfl
    ·cases hgt
   ·cases hg
theorem sJ (hC:HH P num C) {ops:Array Oper} {i:Nat} {o:Oper} {ai:AI} (hi:ops[i]? = some o) (hok:XD P num N ops o ai=true) {T:Nat->AV} {m:M} {a:Act} (hf:FC B S w0 m0 N T m a) {g:Bool} (hg:M5 T ai.guard=some g) {E:CP}
  (hE:g=true->eff C ai.ban (ED T) m.own ai.op=some E) {K:Act->World->Prop} (hK : ∀ m' a',m'.own=(if g then E.ownOf m.own else m.own)->FC B S w0 m0 N (I2 T ai.dst (if g then E.valOf m.own else .tup [])) m' a'->K a' m'.w):wpOp P ops Q i K a m.w:=by
 simp only[XD,Bool.and_eq_true,beq_iff_eq]at hok
 obtain ⟨⟨⟨h1,h2⟩,h3⟩,h4⟩:=hok
 have hd : ∀ k,o.dst=some k->k<N:=fun k hk=>by
  rw[h1]at hk
  rw[hk]at h2
  simpa using h2
 unfold wpOp
 simp only[hi,Ag3 hf h3 hg]
 cases g with
 | true =>
  simp only[if_true]
  refine .inl (AaG hC hf.mem hf.says h4 (hE rfl) K Q fun u m' hown hm' hext hcv => ?_)
  refine hK m' _ (by simpa using hown) ?_
  rw[<-h1]
  exact hf.put o.dst hd hm' hext hcv
 | false =>
  simp only[Bool.false_eq_true,if_false]
  refine hK m _ (by simp) ?_
  rw[<-h1]
  exact hf.put o.dst hd hf.mem (DD.refl m) nQ
theorem rH {o:AI} {st st':St} (h:DB C o st=some st') : ∃ g E,M5 (tget st.tm) o.guard=some g/\(g=true->eff C o.ban (ED (tget st.tm)) st.own o.op=some E)/\tget st'.tm=I2 (tget st.tm) o.dst (if g then E.valOf st.own else .tup [])/\st'.own=(if g then E.ownOf st.own else st.own):=by
 unfold DB at h
 rw[AbT]at h
 cases hg:M5 (tget st.tm) o.guard with
 | none=>simp [hg]at h
 | some g =>
  cases g with
  | true =>
   simp only[hg,Option.map_eq_some_iff]at h
   obtain ⟨E,hE,rfl⟩:=h
   rw[kD]at hE
   exact ⟨true,E,rfl,fun _=>hE,wT st o.dst E,wS st o.dst E⟩
  | false =>
   simp only[hg,Option.some.injEq]at h
   subst h
   exact ⟨false,.val .any,rfl,fun h=>(by cases h),jJ st o.dst _,jK st o.dst _⟩
theorem UQ {ops:Array Oper} : ∀ {os:List Oper} {l:List AI},OR P num N ops os l=true->os.length=l.length /\ ∀ (i:Nat) (o:Oper) (x:AI),os[i]? = some o->l[i]? = some x->XD P num N ops o x=true
 | [],[],_=>⟨rfl,fun i o x h=>by simp at h⟩
 | o::r,x::l,h=>by
  simp only[OR,Bool.and_eq_true]at h
  obtain ⟨h1,h2⟩:=UQ h.2
  refine ⟨by simp [h1],fun i o' x' ho hx => ?_⟩
  cases i with
  | zero=>simp at ho hx;subst ho hx;exact h.1
  | succ i=>exact h2 i o' x' (by simpa using ho) (by simpa using hx)
 | [],_::_,h=>by simp [OR]at h
 | _::_,[],h=>by simp [OR]at h
theorem sK (hC:HH P num C) {ops:Array Oper} {l:List AI} (hok:OR P num N ops ops.toList l=true) : ∀ (n k:Nat) (st st':St) (m:M) (a:Act),n+k=ops.size->DC C (l.drop k) st=some st'->m.own=st.own->FC B S w0 m0 N (tget st.tm) m a ->
  (∀ m' a',m'.own=st'.own->FC B S w0 m0 N (tget st'.tm) m' a'->Q .normal a' m'.w)->wpOps P ops Q (List.range' k n) a m.w
 | 0,k,st,st',m,a,hk,hs,hown,hf,hQ=>by
  have hl:=(UQ hok).1
  simp at hl
  rw[List.drop_eq_nil_of_le (by omega)]at hs
  simp only[DC,Option.some.injEq]at hs
  subst hs
  simpa [wpOps] using hQ m a hown hf
 | n+1,k,st,st',m,a,hk,hs,hown,hf,hQ=>by
  obtain ⟨hl,hg⟩:=UQ hok
  simp at hl
  have hkl:k<l.length:=by omega
  have hko:k<ops.size:=by omega
  rw[List.drop_eq_getElem_cons hkl]at hs
  simp only[DC]at hs
  cases hst:DB C l[k] st with
  | none=>simp [hst]at hs
  | some BD =>
   simp only[hst]at hs
   obtain ⟨g,E,h1,h2,h3,h4⟩:=rH hst
   rw[List.range'_succ,wpOps_cons]
   have hoi:ops[k]? = some ops[k]:=Array.getElem?_eq_getElem hko
   refine sJ hC hoi (hg k ops[k] l[k] (by simp [hko]) (zE hkl)) hf h1 (fun hg'=>by rw[hown];exact h2 hg') fun m' a' hown' hf' => ?_
   refine sK hC hok n (k+1) BD st' m' a' (by omega) hs ?_ ?_ hQ
   ·rw[hown',hown,h4]
   ·rw[hown]at hf'
    rw[h3]
    exact hf'
end
end Go.Eng
namespace Go.Eng
open Go.RowKit
section
variable {T T':Nat->AV} {C:Cl} {ban:List Nat} {own:AH}
theorem C0 {x:AQ} (h : ∀ t∈CQ x,T t=T' t):ED T x=ED T' x:=by
 cases x with
 | t n=>exact h n (by simp [CQ])
 | c v=>rfl
theorem QU {xs:List AQ} (h : ∀ t∈xs.flatMap CQ,T t=T' t):xs.map (ED T)=xs.map (ED T') :=
 List.map_congr_left fun x hx=>C0 fun t ht=>h t (List.mem_flatMap.2 ⟨x,hx,ht⟩)
theorem oW {x:Option AQ} (h : ∀ t∈cF x,T t=T' t) {y:AQ} (hy:x=some y):ED T y=ED T' y:=by
 subst hy
 exact C0 h
theorem AaB {op:D7} (h : ∀ t∈FN op,T t=T' t):eff C ban (ED T) own op=eff C ban (ED T') own op:=by
 cases op with
 | build z ps =>
  simp only[eff]
  congr 2
  refine List.map_congr_left fun p hp => ?_
  rw[C0 (x:=p.2.2) fun t ht=>h t (by simp only[FN];exact List.mem_flatMap.2 ⟨p,hp,ht⟩)]
 | bslice s esz ps =>
  have hm:ps.mapM (fun x=>cellsOf (ED T x))=ps.mapM (fun x=>cellsOf (ED T' x)):=by
   have e : ∀ l:List AQ,(∀ x∈l,ED T x=ED T' x)->l.mapM (fun x=>cellsOf (ED T x))=l.mapM (fun x=>cellsOf (ED T' x)):=by
    intro l
    induction l with
    | nil=>intro _;rfl
    | cons x r ih=>intro hl;simp only[List.mapM_cons];rw[hl x (by simp),ih fun y hy=>hl y (by simp [hy])]
   exact e ps fun x hx=>C0 fun t ht=>h t (by simp only[FN];exact List.mem_flatMap.2 ⟨x,hx,ht⟩)
  simp only[eff,hm]
 | mm mx xs=>simp only[eff];rw[QU (xs:=xs) h]
 | call f xs=>simp only[eff];rw[QU (xs:=xs) h]
 | calli f xs=>simp only[eff];rw[QU (xs:=xs) h]
 | isn ne x=>simp only[eff];rw[C0 (x:=x) h]
 | bad=>rfl
 | nck x=>simp only[eff];rw[C0 (x:=x) h]
 | capn x=>simp only[eff];rw[C0 (x:=x) h]
 | apz s esz bytes x y =>
  simp only[FN,List.mem_append]at h
  simp only[eff]
  rw[C0 (x:=x) fun t ht=>h t (.inl ht),C0 (x:=y) fun t ht=>h t (.inr ht)]
 | apd s esz bytes x y =>
  simp only[FN,List.mem_append]at h
  simp only[eff]
  rw[C0 (x:=x) fun t ht=>h t (.inl ht),C0 (x:=y) fun t ht=>h t (.inr ht)]
 | sidx tb x=>simp only[eff];rw[C0 (x:=x) h]
 | mkf p f xs =>
  have e : ∀ l:List AQ,(∀ x∈l,ED T x=ED T' x)->l.mapM (fun x=>GW (ED T x))=l.mapM (fun x=>GW (ED T' x)):=by
   intro l
   induction l with
   | nil=>intro _;rfl
   | cons x r ih=>intro hl;simp only[List.mapM_cons];rw[hl x (by simp),ih fun y hy=>hl y (by simp [hy])]
  simp only[eff]
  rw[e xs fun x hx=>C0 fun t ht=>h t (by simp only[FN];exact List.mem_flatMap.2 ⟨x,hx,ht⟩)]
 | callq f xs=>simp only[eff];rw[QU (xs:=xs) h]
 | callr s f xs=>simp only[eff];rw[QU (xs:=xs) h]
 | cals s f xs=>simp only[eff];rw[QU (xs:=xs) h]
 | sto s n x v =>
  simp only[FN,List.mem_append]at h
  simp only[eff]
  rw[C0 (x:=x) fun t ht=>h t (.inl ht),C0 (x:=v) fun t ht=>h t (.inr ht)]
 | callv x xs =>
  simp only[FN,List.mem_append]at h
  simp only[eff]
  rw[C0 (x:=x) fun t ht=>h t (.inl ht),QU (xs:=xs) fun t ht=>h t (.inr ht)]
 | slc esz x lo hi =>
  simp only[FN,List.mem_append]at h
  have hx:ED T x=ED T' x:=C0 fun t ht=>h t (.inl (.inl ht))
  have hlo : ∀ y,lo=some y->ED T y=ED T' y:=fun y hy=>oW (fun t ht=>h t (.inl (.inr ht))) hy
  have hhi : ∀ y,hi=some y->ED T y=ED T' y:=fun y hy=>oW (fun t ht=>h t (.inr ht)) hy
  simp only[eff,hx]
  cases lo with
  | none=>cases hi with
   | none=>rfl
   | some y=>simp only[hhi y rfl]
  | some z=>cases hi with
   | none=>simp only[hlo z rfl]
   | some y=>simp only[hlo z rfl,hhi y rfl]
 | vrow=>rfl
 | alloc=>rfl
 | mov x=>simp only[eff];rw[C0 (x:=x) h]
 | un f x=>simp only[eff];rw[C0 (x:=x) h]
 | conv k x=>simp only[eff];rw[C0 (x:=x) h]
 | box s x=>simp only[eff];rw[C0 (x:=x) h]
 | fadr x off=>simp only[eff];rw[C0 (x:=x) h]
 | fld x off n agg=>simp only[eff];rw[C0 (x:=x) h]
 | ld agg n x=>simp only[eff];rw[C0 (x:=x) h]
 | ext x i=>simp only[eff];rw[C0 (x:=x) h]
 | len x=>simp only[eff];rw[C0 (x:=x) h]
 | pick c x y =>
  simp only[FN,List.mem_append]at h
  simp only[eff]
  rw[C0 (x:=c) fun t ht=>h t (.inl (.inl ht)),C0 (x:=x) fun t ht=>h t (.inl (.inr ht)),C0 (x:=y) fun t ht=>h t (.inr ht)]
 | bin f x y =>
  simp only[FN,List.mem_append]at h
  simp only[eff]
  rw[C0 (x:=x) fun t ht=>h t (.inl ht),C0 (x:=y) fun t ht=>h t (.inr ht)]
 | aeq ne n x y =>
  simp only[FN,List.mem_append]at h
  simp only[eff]
  rw[C0 (x:=x) fun t ht=>h t (.inl ht),C0 (x:=y) fun t ht=>h t (.inr ht)]
 | beq ne x y =>
  simp only[FN,List.mem_append]at h
  simp only[eff]
  rw[C0 (x:=x) fun t ht=>h t (.inl ht),C0 (x:=y) fun t ht=>h t (.inr ht)]
 | iadr arr esz x i =>
  simp only[FN,List.mem_append]at h
  simp only[eff]
  rw[C0 (x:=x) fun t ht=>h t (.inl ht),C0 (x:=i) fun t ht=>h t (.inr ht)]
 | idx len esz agg x i =>
  simp only[FN,List.mem_append]at h
  simp only[eff]
  rw[C0 (x:=x) fun t ht=>h t (.inl ht),C0 (x:=i) fun t ht=>h t (.inr ht)]
 | st n x v =>
  simp only[FN,List.mem_append]at h
  simp only[eff]
  rw[C0 (x:=x) fun t ht=>h t (.inl ht),C0 (x:=v) fun t ht=>h t (.inr ht)]
 | mk s esz bytes z l c =>
  simp only[FN,List.mem_append]at h
  simp only[eff]
  rw[C0 (x:=l) fun t ht=>h t (.inl ht),C0 (x:=c) fun t ht=>h t (.inr ht)]
 | app s esz bytes x y =>
  simp only[FN,List.mem_append]at h
  simp only[eff]
  rw[C0 (x:=x) fun t ht=>h t (.inl ht),C0 (x:=y) fun t ht=>h t (.inr ht)]
 | appo s esz bytes x y =>
  simp only[FN,List.mem_append]at h
  simp only[eff]
  rw[C0 (x:=x) fun t ht=>h t (.inl ht),C0 (x:=y) fun t ht=>h t (.inr ht)]
 | cpy esz x y =>
  simp only[FN,List.mem_append]at h
  simp only[eff]
  rw[C0 (x:=x) fun t ht=>h t (.inl ht),C0 (x:=y) fun t ht=>h t (.inr ht)]
theorem mK (o:AH) (l:List Nat) (s:Nat):o.hide l s=if s∈l then ⟨0,fun _=>none⟩ else o s:=by
 induction l with
 | nil=>simp [AH.hide]
 | cons x r ih =>
  simp only[AH.hide,List.mem_cons]
  by_cases h:s=x
  ·simp [h]
  ·rw[if_neg h,ih]
   simp [h]
theorem Acf {o o':AH} {l:List Nat} (h : ∀ s,s ∉ l->o s=o' s):o.hide l=o'.hide l:=by
 funext s
 rw[mK,mK]
 split
 ·rfl
 ·rename_i hs;exact h s hs
end
section
variable {ops:Array Oper}
def inner (acc:Array Nat) (o:Oper):Nat:=o.after.foldl (fun s e=>if Region.binds .any e then s ||| 2^e.on ||| acc.getD e.on 0 else s) 0
theorem Acq (acc:Array Nat) (o:Oper) (j:Nat) (h:(inner acc o).testBit j=true) : ∃ e∈o.after,Region.binds .any e=true/\(e.on=j\/(acc.getD e.on 0).testBit j=true):=by
 unfold inner at h
 rw[<-Array.foldl_toList]at h
 have key : ∀ (l:List Edge) (s:Nat),(l.foldl (fun s e=>if Region.binds .any e then s ||| 2^e.on ||| acc.getD e.on 0 else s) s).testBit j=true->s.testBit j=true \/ ∃ e∈l,Region.binds .any e=true/\(e.on=j\/(acc.getD e.on 0).testBit j=true):=by
  intro l
  induction l with
  | nil=>intro s hs;exact .inl hs
  | cons e r ih =>
   intro s hs
   simp only[List.foldl_cons]at hs
   rcases ih _ hs with h1|⟨e',he',h2⟩
   ·by_cases hb:Region.binds .any e=true
    ·simp only[hb,if_true,Nat.testBit_or,Bool.or_eq_true,Nat.testBit_two_pow,decide_eq_true_eq]at h1
     rcases h1 with (h1|h1)|h1
     ·exact .inl h1
     ·exact .inr ⟨e,by simp,hb,.inl h1⟩
     ·exact .inr ⟨e,by simp,hb,.inr h1⟩
    ·simp only[hb,Bool.false_eq_true,if_false]at h1
     exact .inl h1
   ·exact .inr ⟨e',by simp [he'],h2⟩
 rcases key _ _ h with h|⟨e,he,h⟩
 ·simp at h
 ·exact ⟨e,by simpa using he,h⟩
theorem wV (i j:Nat) (h:((Region.before ops).getD i 0).testBit j=true) : ∃ o,ops[i]? = some o /\ ∃ e∈o.after,Region.binds .any e=true/\(e.on=j\/(e.on<i/\((Region.before ops).getD e.on 0).testBit j=true)):=by
 have key : ∀ (rest:List Oper) (done:List Oper) (acc:Array Nat),acc.size=done.length ->
   (∀ i j,(acc.getD i 0).testBit j=true -> ∃ o,done[i]? = some o /\ ∃ e∈o.after,Region.binds .any e=true/\(e.on=j\/(e.on<i/\(acc.getD e.on 0).testBit j=true))) ->
   ∀ i j,((rest.foldl (fun acc o=>acc.push (inner acc o)) acc).getD i 0).testBit j=true -> ∃ o,(done++rest)[i]? = some o /\ ∃ e∈o.after,Region.binds .any e=true/\(e.on=j\/(e.on<i/\((rest.foldl (fun acc o=>acc.push (inner acc o)) acc).getD e.on 0).testBit j=true)):=by
  intro rest
  induction rest with
  | nil=>intro done acc hs hinv i j hj;simpa using hinv i j hj
  | cons o r ih =>
   intro done acc hs hinv i j hj
   simp only[List.foldl_cons]at hj ⊢
   have:=ih (done++[o]) (acc.push (inner acc o)) (by simp [hs]) (fun i j hij => ?_) i j hj
   ·simpa using this
   ·have hget : ∀ k,k<acc.size->(acc.push (inner acc o)).getD k 0=acc.getD k 0:=fun k hk=>by
     simp [Array.getD,hk,Nat.lt_succ_of_lt hk,Array.getElem_push_lt hk]
    by_cases hi:i<acc.size
    ·rw[hget i hi]at hij
     obtain ⟨o',ho',e,he,hb,hor⟩:=hinv i j hij
     refine ⟨o',by rw[List.getElem?_append_left (by omega)];exact ho',e,he,hb,hor.imp id fun ⟨h1,h2⟩=>⟨h1,by rw[hget e.on (by omega)];exact h2⟩⟩
    ·have hie:i=acc.size:=by
      rcases Nat.lt_or_ge i (acc.push (inner acc o)).size with h1|h1
      ·simp at h1;omega
      ·have:(acc.push (inner acc o)).getD i 0=0:=by simp [Array.getD];intro h2;simp at h1;omega
       rw[this]at hij
       simp at hij
     subst hie
     have hnew:(acc.push (inner acc o)).getD acc.size 0=inner acc o:=by simp [Array.getD]
     rw[hnew]at hij
     obtain ⟨e,he,hb,hor⟩:=Acq acc o j hij
     refine ⟨o,by rw[hs];simp,e,he,hb,hor.imp id fun h2 => ?_⟩
     have hlt:e.on<acc.size:=by
      rcases Nat.lt_or_ge e.on acc.size with h3|h3
      ·exact h3
      ·have:acc.getD e.on 0=0:=by simp [Array.getD];omega
       rw[this]at h2
       simp at h2
     exact ⟨hlt,by rw[hget e.on hlt];exact h2⟩
 have hb:Region.before ops=ops.toList.foldl (fun acc o=>acc.push (inner acc o)) #[]:=by
  unfold Region.before
  rw[<-Array.foldl_toList]
  rfl
 rw[hb]at h ⊢
 have:=key ops.toList [] #[] rfl (fun i j hij=>by simp at hij) i j h
 simpa using this
def RF (ops:Array Oper) (X:Nat->Bool):Prop := ∀ j o,X j=true->ops[j]? = some o -> ∀ e∈o.after,Region.binds .any e=true->X e.on=true
theorem anc {X:Nat->Bool} (hX:RF ops X) : ∀ (i:Nat),(∀ o,ops[i]? = some o -> ∀ e∈o.after,Region.binds .any e=true->X e.on=true) -> ∀ j,((Region.before ops).getD i 0).testBit j=true->X j=true:=by
 intro i
 induction i using Nat.strongRecOn with
 | ind i ih =>
  intro hi j hj
  obtain ⟨o,ho,e,he,hb,hor⟩:=wV i j hj
  have hx:=hi o ho e he hb
  rcases hor with h|⟨hlt,h⟩
  ·rw[<-h];exact hx
  ·exact ih e.on hlt (fun o' ho' e' he' hb'=>hX e.on o' hx ho' e' he' hb') j h
theorem AfL {X:Nat->Bool} (hX:RF ops X) {i j:Nat} (hi : ∀ o,ops[i]? = some o -> ∀ e∈o.after,Region.binds .any e=true->X e.on=true) (hlt:j<i) (h:H2 (Region.before ops) i j=true):X j=true:=by
 unfold H2 at h
 rw[Nat.max_eq_left (by omega),Nat.min_eq_right (by omega)]at h
 exact anc hX i hi j h
theorem oY {X:Nat->Bool} (hX:RF ops X) {i j:Nat} (hj:X j=true) (hlt:i<j) (h:H2 (Region.before ops) i j=true):X i=true:=by
 unfold H2 at h
 rw[Nat.max_eq_right (by omega),Nat.min_eq_left (by omega)]at h
 exact anc hX j (fun o ho e he hb=>hX j o hj ho e he hb) i h
end
section
variable {C:Cl}
abbrev D:=(Nat->AV) × AH
structure DR where
 d:Option Nat
 g:Bool
 E:CP
 v:AV
def DR.own (r:DR) (o:AH):AH:=if r.g then r.E.ownOf o else o
def DR.act (r:DR) (x:D):D:=(I2 x.1 r.d r.v,r.own x.2)
structure RH (C:Cl) (x:AI) (r:DR) (s s':St):Prop where
 d:r.d=x.dst
 g:M5 (tget s.tm) x.guard=some r.g
 E:r.g=true->eff C x.ban (ED (tget s.tm)) s.own x.op=some r.E
 v:r.v=(if r.g then r.E.valOf s.own else .tup [])
 act:(tget s'.tm,s'.own)=r.act (tget s.tm,s.own)
theorem trace : ∀ {l:List AI} {st st':St},DC C l st=some st' -> ∃ (σ:Nat->St) (rs:List DR),σ 0=st/\σ l.length=st'/\rs.length=l.length /\ ∀ (k:Nat) (x:AI) (r:DR),l[k]? = some x->rs[k]? = some r->RH C x r (σ k) (σ (k+1))
 | [],st,st',h=>by
  simp only[DC,Option.some.injEq]at h
  subst h
  exact ⟨fun _=>st,[],rfl,rfl,rfl,fun k x r hx=>by simp at hx⟩
 | o::q,st,st',h=>by
  simp only[DC]at h
  cases hs:DB C o st with
  | none=>simp [hs]at h
  | some BD =>
   simp only[hs]at h
   obtain ⟨σ,rs,h0,h1,hl,h2⟩:=trace h
   obtain ⟨g,E,e1,e2,e3,e4⟩:=rH hs
   refine ⟨fun k=>match k with|0=>st|k+1=>σ k,⟨o.dst,g,E,if g then E.valOf st.own else .tup []⟩::rs,rfl,h1,by simp [hl],fun k x r hx hr => ?_⟩
   cases k with
   | zero =>
    simp at hx hr
    subst hx hr
    refine ⟨rfl,e1,e2,rfl,?_⟩
    show (tget (σ 0).tm,(σ 0).own)=_
    rw[h0,e3,e4]
    rfl
   | succ k=>exact h2 k x r (by simpa using hx) (by simpa using hr)
def DL (X:Nat->Bool):List DR->Nat->D->D
 | [],_,x=>x
 | r::rs,k,x=>DL X rs (k+1) (if X k then r.act x else x)
theorem aH (X:Nat->Bool) : ∀ (l l':List DR) (k:Nat) (x:D),DL X (l++l') k x=DL X l' (k+l.length) (DL X l k x)
 | [],l',k,x=>by simp [DL]
 | r::rs,l',k,x=>by
  simp only[List.cons_append,DL,List.length_cons]
  rw[aH X rs l' (k+1)]
  congr 1;omega
theorem lT {X Y:Nat->Bool} {t:Nat} : ∀ (l:List DR) (k:Nat) (x y:D),x.1 t=y.1 t->(∀ i r,l[i]? = some r->r.d=some t->X (k+i)=Y (k+i))->(DL X l k x).1 t=(DL Y l k y).1 t
 | [],k,x,y,h,_=>h
 | r::rs,k,x,y,h,hXY=>by
  simp only[DL]
  refine lT rs (k+1) _ _ ?_ fun i r' hr hd=>by
   have:=hXY (i+1) r' (by simpa using hr) hd
   rw[show k+1+i=k+(i+1) by omega];exact this
  by_cases hd:r.d=some t
  ·have hx:X k=Y k:=by simpa using hXY 0 r rfl hd
   rw[hx]
   cases Y k
   ·simpa using h
   ·simp [DR.act,I2,hd]
  ·have e1 : ∀ z:D,(r.act z).1 t=z.1 t:=fun z=>by simp [DR.act,I2,hd]
   cases X k<;>cases Y k<;>simp [e1,h]
theorem AfQ (E:CP) (s:Nat) (o o':AH) (h:o s=o' s):E.ownOf o s=E.ownOf o' s:=by
 cases E with
 | val v=>exact h
 | new s' b v =>
  simp only[CP.ownOf,AH.put]
  by_cases hs:s=s'
  ·subst hs;simp [h]
  ·simp [hs,h]
 | vir s' b v =>
  simp only[CP.ownOf,AH.put]
  by_cases hs:s=s'
  ·subst hs;simp [h]
  ·simp [hs,h]
 | tur v o2=>rfl
 | upn s' x v =>
  simp only[CP.ownOf,AH.put]
  by_cases hs:s=s'
  ·simp [hs]
  ·simp [hs,h]
 | upd s' x =>
  simp only[CP.ownOf,AH.put]
  by_cases hs:s=s'
  ·simp [hs]
  ·simp [hs,h]
theorem lS {X Y:Nat->Bool} {s:Nat} : ∀ (l:List DR) (k:Nat) (x y:D),x.2 s=y.2 s->(∀ i r,l[i]? = some r->X (k+i)=Y (k+i) \/ ∀ o,r.own o s=o s)->(DL X l k x).2 s=(DL Y l k y).2 s
 | [],k,x,y,h,_=>h
 | r::rs,k,x,y,h,hXY=>by
  simp only[DL]
  refine lS rs (k+1) _ _ ?_ fun i r' hr=>by
   have:=hXY (i+1) r' (by simpa using hr)
   rw[show k+1+i=k+(i+1) by omega];exact this
  rcases hXY 0 r rfl with hx|hx
  ·simp only[Nat.add_zero]at hx
   rw[hx]
   cases Y k
   ·simpa using h
   ·simp only[if_true,DR.act,DR.own]
    cases r.g
    ·simpa using h
    ·simpa using AfQ r.E s _ _ h
  ·have e1 : ∀ z:D,(r.act z).2 s=z.2 s:=fun z=>hx z.2
   cases X k<;>cases Y k<;>simp [e1,h]
theorem aI {X:Nat->Bool} (q:DR) : ∀ (l:List DR) (k:Nat) (x:D),(∀ i r,l[i]? = some r->X (k+i)=true -> ∀ z,r.act (q.act z)=q.act (r.act z))->DL X l k (q.act x)=q.act (DL X l k x)
 | [],k,x,_=>rfl
 | r::rs,k,x,h=>by
  simp only[DL]
  have hrest : ∀ i r',rs[i]? = some r'->X (k+1+i)=true -> ∀ z,r'.act (q.act z)=q.act (r'.act z):=fun i r' hr hX=>h (i+1) r' (by simpa using hr) (by rw[show k+(i+1)=k+1+i by omega];exact hX)
  cases hk:X k
  ·simp only[Bool.false_eq_true,if_false]
   exact aI q rs (k+1) x hrest
  ·simp only[if_true]
   rw[h 0 r rfl (by simpa using hk)]
   exact aI q rs (k+1) _ hrest
theorem WY {X Y:Nat->Bool} : ∀ (l:List DR) (k:Nat) (x:D),(∀ i,i<l.length->X (k+i)=Y (k+i))->DL X l k x=DL Y l k x
 | [],_,_,_=>rfl
 | r::rs,k,x,h=>by
  simp only[DL]
  rw[show X k=Y k by simpa using h 0 (by simp)]
  exact WY rs (k+1) _ fun i hi=>by
   have:=h (i+1) (by simpa using hi)
   rw[show k+1+i=k+(i+1) by omega];exact this
theorem lR {X X':Nat->Bool} {l:List DR} {i:Nat} {q:DR} (hq:l[i]? = some q) (hXi:X i=false) (hX' : ∀ j,X' j=(decide (j=i)||X j)) (x:D) (hcomm : ∀ j r,l[j]? = some r->i<j->X j=true -> ∀ z,r.act (q.act z)=q.act (r.act z)) :
  DL X' l 0 x=q.act (DL X l 0 x):=by
 have hil:i<l.length:=(zS hq).1
 have hli:l=l.take i++(q::l.drop (i+1)):=by
  have:l.drop i=q::l.drop (i+1):=by
   rw[List.drop_eq_getElem_cons hil]
   congr 1
   have:=(zS hq).2
   exact this
  rw[<-this,List.take_append_drop]
 have htl:(l.take i).length=i:=by simp;omega
 rw[hli,aH,aH,htl,Nat.zero_add]
 simp only[DL,hXi,Bool.false_eq_true,if_false]
 rw[show X' i=true by rw[hX'];simp]
 simp only[if_true]
 rw[WY (X:=X') (Y:=X) (l.take i) 0 x (fun j hj=>by rw[hX'];simp;omega)]
 rw[WY (X:=X') (Y:=X) (l.drop (i+1)) (i+1) _ (fun j hj=>by rw[hX'];simp;omega)]
 refine aI q _ _ _ fun j r hr hXj => ?_
 rw[List.getElem?_drop]at hr
 exact hcomm (i+1+j) r hr (by omega) hXj
end
end Go.Eng

namespace Go.Eng
open Go.RowKit
section
variable {C:Cl} {ban:List Nat} {ρ:AQ->AV}
theorem AaE {op:D7} (o o':AH) (ht:F7 op=false) (hr:UY op=true->o.hide ban=o'.hide ban) (hst : ∀ s,EA op=some s->o s=o' s):eff C ban ρ o op=eff C ban ρ o' op:=by
 cases op with
 | sto s n x v =>
  have h1:=hst s rfl
  have h2 : ∀ t i j vs,(o.stp s t i j vs).map (fun q=>CP.upd s (q s))=(o'.stp s t i j vs).map (fun q=>CP.upd s (q s)):=fun t i j vs=>by
   have hg:o.get s t=o'.get s t:=by unfold AH.get;rw[h1]
   unfold AH.stp
   rw[hg]
   cases o'.get s t with
   | none=>rfl
   | some b =>
    simp only
    cases b.es[i]? with
    | none=>rfl
    | some cs =>
     simp only
     split
     ·simp only[Option.map_some,AH.put_same,h1]
     ·rfl
  simp only[eff,h2]
 | appo s esz bytes x y =>
  have h1:=hst s rfl
  have hg : ∀ t,o.get s t=o'.get s t:=fun t=>by unfold AH.get;rw[h1]
  simp only[eff,hg,AH.cnt,h1]
 | ld agg n x=>have:=hr rfl;simp only[eff,this]
 | call f xs=>have:=hr rfl;simp only[eff,this]
 | callr s f xs=>have:=hr rfl;simp only[eff,this]
 | cals s f xs=>have h1:=hst s rfl;simp only[eff,h1]
 | st=>simp [F7]at ht
 | app=>simp [F7]at ht
 | cpy=>simp [F7]at ht
 | calli=>simp [F7]at ht
 | callv=>simp [F7]at ht
 | _=>rfl
theorem jP {op:D7} {o:AH} {E:CP} (h:eff C ban ρ o op=some E) {s:Nat} (hs:EA op=some s):(∃ b v,E = .new s b v\/E = .vir s b v) \/ ∃ x v,E = .upd s x\/E = .upn s x v:=by
 cases op with
 | appo s' esz bytes x y =>
  simp only[EA,Option.some.injEq]at hs;subst hs
  simp only[eff]at h
  split at h
  ·split at h
   ·split at h
    ·simp only[Option.some.injEq]at h;exact .inr ⟨_,_,.inr h.symm⟩
    ·cases h
   ·cases h
  ·cases h
 | sto s' n x v =>
  simp only[EA,Option.some.injEq]at hs;subst hs
  simp only[eff]at h
  split at h
  ·split at h
   ·simp only[Option.map_eq_some_iff]at h
    obtain ⟨q,_,rfl⟩:=h
    exact .inr ⟨_,.any,.inl rfl⟩
   ·cases h
  ·cases h
 | callr s' f xs =>
  simp only[EA,Option.some.injEq]at hs;subst hs
  simp only[eff]at h
  split at h
  ·simp only[Option.map_eq_some_iff]at h
   obtain ⟨r,_,rfl⟩:=h
   exact .inl ⟨_,_,.inl rfl⟩
  ·cases h
 | apz s' esz bytes x y =>
  simp only[EA,Option.some.injEq]at hs;subst hs
  simp only[eff]at h
  split at h
  ·split at h
   ·simp only[Option.some.injEq]at h;exact .inl ⟨_,_,.inl h.symm⟩
   ·cases h
  ·cases h
 | cals s' f xs =>
  simp only[EA,Option.some.injEq]at hs;subst hs
  simp only[eff,Option.map_eq_some_iff]at h
  obtain ⟨p,_,rfl⟩:=h
  exact .inr ⟨_,_,.inr rfl⟩
 | apd s' esz bytes x y =>
  simp only[EA,Option.some.injEq]at hs;subst hs
  simp only[eff]at h
  split at h
  ·split at h
   ·simp only[Option.some.injEq]at h;exact .inl ⟨_,_,.inl h.symm⟩
   ·cases h
  ·cases h
 | vrow s' z =>
  simp only[EA,Option.some.injEq]at hs;subst hs
  simp only[eff,Option.some.injEq]at h
  exact .inl ⟨_,_,.inr h.symm⟩
 | box s' x =>
  simp only[EA,Option.some.injEq]at hs;subst hs
  simp only[eff]at h
  split at h
  ·simp only[Option.some.injEq]at h;exact .inl ⟨_,_,.inl h.symm⟩
  ·cases h
 | alloc s' z =>
  simp only[EA,Option.some.injEq]at hs;subst hs
  simp only[eff,Option.some.injEq]at h
  exact .inl ⟨_,_,.inl h.symm⟩
 | bslice s' esz ps =>
  simp only[EA,Option.some.injEq]at hs;subst hs
  simp only[eff]at h
  split at h
  ·split at h
   ·simp only[Option.some.injEq]at h;exact .inl ⟨_,_,.inl h.symm⟩
   ·cases h
  ·cases h
 | mk s' esz bytes z l c =>
  simp only[EA,Option.some.injEq]at hs;subst hs
  simp only[eff]at h
  split at h
  ·split at h
   ·simp only[Option.some.injEq]at h;exact .inl ⟨_,_,.inl h.symm⟩
   ·cases h
  ·cases h
 | _=>simp [EA]at hs
theorem bK {α:Type} {x:Option α} {f:α->AV} {E:CP} (h:x.map (fun y=>CP.val (f y))=some E) : ∃ v,E = .val v:=by
 cases x with
 | none=>cases h
 | some y=>simp only[Option.map_some,Option.some.injEq]at h;exact ⟨_,h.symm⟩
theorem jQ {op:D7} {o:AH} {E:CP} (h:eff C ban ρ o op=some E) (ht:F7 op=false) (hs:EA op=none) : ∃ v,E = .val v:=by
 cases op<;>first|(simp [F7]at ht;done)|(simp [EA]at hs;done)|skip
 all_goals simp only[eff]at h
 all_goals
  first
   | (simp only[Option.some.injEq]at h;exact ⟨_,h.symm⟩)
   | exact bK (f:=id) h
   | skip
 all_goals (repeat' split at h)
 all_goals
  first
   | (cases h;done)
   | (simp only[Option.some.injEq]at h;exact ⟨_,h.symm⟩)
   | exact bK (f:=id) h
   | exact bK (f:=AV.agg) h
   | (simp only[Option.map_eq_some_iff]at h;obtain ⟨cs,_,rfl⟩:=h;exact ⟨_,rfl⟩)
theorem Q0 {x:AI} {r:DR} {s s':St} (h:RH C x r s s') (ht:F7 x.op=false) (hs:EA x.op=none) (o:AH):r.own o=o:=by
 unfold DR.own
 cases hg:r.g with
 | false=>rfl
 | true =>
  obtain ⟨v,hv⟩:=jQ (h.E hg) ht hs
  simp [hv,CP.ownOf]
theorem cP {x:AI} {r:DR} {s s':St} (h:RH C x r s s') {q:Nat} (hs:EA x.op=some q):(∀ o,r.own o=o) \/ ∃ F:CO->CO,∀ o:AH,r.own o=o.put q (F (o q)):=by
 unfold DR.own
 cases hg:r.g with
 | false=>exact .inl fun _=>rfl
 | true =>
  rcases jP (h.E hg) hs with ⟨b,v,hv|hv⟩|⟨x,v,hv|hv⟩
  ·exact .inr ⟨fun q=>q.new b,fun o=>by simp [hv,CP.ownOf]⟩
  ·exact .inr ⟨fun q=>q.new b,fun o=>by simp [hv,CP.ownOf]⟩
  ·exact .inr ⟨fun _=>x,fun o=>by simp [hv,CP.ownOf]⟩
  ·exact .inr ⟨fun _=>x,fun o=>by simp [hv,CP.ownOf]⟩
theorem pK {x:AI} {r:DR} {s s':St} (h:RH C x r s s') {q:Nat} (hs:EA x.op=some q) {p:Nat} (hp:p≠q) (o:AH):r.own o p=o p:=by
 rcases cP h hs with h1|⟨b,h1⟩
 ·rw[h1]
 ·rw[h1];simp [AH.put,hp]
theorem oX (b:Array Nat) (i j:Nat):H2 b i j=H2 b j i:=by unfold H2;rw[Nat.max_comm,Nat.min_comm]
theorem QH {ops:Array Oper} {l:List AI} (h:QG ops l=true) {i j:Nat} {x y:AI} (hx:l[i]? = some x) (hy:l[j]? = some y) (hne:i≠j) :
  (H2 (Region.before ops) i j=true\/((∀ t,y.dst=some t->t ∉ SC x)/\(F7 x.op=false\/MQ y.op=false)/\(UY x.op=true -> ∀ s,EA y.op=some s->s∈x.ban))) /\
  (H2 (Region.before ops) i j=true \/ ∀ s s',EA x.op=some s->EA y.op=some s'->s≠s'):=by
 simp only[QG,Bool.and_eq_true]at h
 have h1:=h.1.1
 rw[List.all_eq_true]at h1
 have hxm:(x,i)∈l.zipIdx:=List.mem_zipIdx_iff_getElem?.2 hx
 have hym:(y,j)∈l.zipIdx:=List.mem_zipIdx_iff_getElem?.2 hy
 have h2:=h1 (x,i) hxm
 simp only at h2
 rw[List.all_eq_true]at h2
 have h3:=h2 (y,j) hym
 simp only[Bool.and_eq_true,Bool.or_eq_true,beq_iff_eq,hne,false_or]at h3
 obtain ⟨h4,h5⟩:=h3
 refine ⟨?_,h5.imp id fun h5 s s' hs hs' => ?_⟩
 ·unfold pD at h4
  simp only[Bool.or_eq_true,beq_iff_eq,hne,false_or]at h4
  refine h4.imp id fun h6 => ?_
  simp only[Bool.and_eq_true,Bool.or_eq_true,Bool.not_eq_true']at h6
  obtain ⟨⟨h7,h8⟩,h9⟩:=h6
  refine ⟨fun t ht => ?_,h8,fun hr s hs => ?_⟩
  ·rw[ht]at h7
   simpa using h7
  ·rw[hr,hs]at h9
   simpa using h9
 ·rw[hs,hs']at h5
  simpa using h5
structure VM (C:Cl) (ops:Array Oper) (l:List AI) (σ:Nat->St) (rs:List DR):Prop where
 ok:QG ops l=true
 len:rs.length=l.length
 fits : ∀ (k:Nat) (x:AI) (r:DR),l[k]? = some x->rs[k]? = some r->RH C x r (σ k) (σ (k+1))
variable {ops:Array Oper} {l:List AI} {σ:Nat->St} {rs:List DR}
theorem aJ {X:Nat->Bool} : ∀ (l:List DR) (k:Nat) (x:D),(∀ i,i<l.length->X (k+i)=false)->DL X l k x=x
 | [],_,_,_=>rfl
 | r::q,k,x,h=>by
  simp only[DL]
  rw[show X k=false by simpa using h 0 (by simp)]
  exact aJ q (k+1) _ fun i hi=>by
   have:=h (i+1) (by simpa using hi)
   rw[show k+1+i=k+(i+1) by omega];exact this
def d0 (σ:Nat->St):D:=(tget (σ 0).tm,(σ 0).own)
theorem ZO (h:VM C ops l σ rs) : ∀ k,k<=l.length->DL (fun j=>decide (j<k)) rs 0 (d0 σ)=(tget (σ k).tm,(σ k).own)
 | 0,_=>aJ rs 0 _ fun i _=>by simp
 | k+1,hk=>by
  have hkl:k<l.length:=by omega
  have hkr:k<rs.length:=by rw[h.len];exact hkl
  have hr:rs[k]? = some rs[k]:=zE hkr
  have hf:=h.fits k l[k] rs[k] (zE hkl) hr
  rw[lR (X:=fun j=>decide (j<k)) (X':=fun j=>decide (j<k+1)) hr (by simp) (fun j=>by
   by_cases h1:j=k
   ·simp [h1]
   ·simp [h1];omega) _ (fun j r' _ hlt hX=>by simp at hX;omega),ZO h k (by omega)]
  exact hf.act.symm
section
variable {X:Nat->Bool} {i:Nat} {x:AI} {r:DR}
theorem oZ (hX:RF ops X) (hXi:X i=false) (hready : ∀ o,ops[i]? = some o -> ∀ e∈o.after,Region.binds .any e=true->X e.on=true) {j:Nat} (hne:i≠j) (ho:H2 (Region.before ops) i j=true):X j=decide (j<i):=by
 rcases Nat.lt_or_gt_of_ne hne with hlt|hgt
 ·have:X j=false:=by
   cases hj:X j with
   | false=>rfl
   | true=>have:=oY hX hj hlt ho;rw[hXi]at this;cases this
  rw[this];simp;omega
 ·rw[AfL hX hready hgt ho];simp;omega
theorem Aaw (h:VM C ops l σ rs) (hx:l[i]? = some x) (hr:rs[i]? = some r) (hX:RF ops X) (hXi:X i=false) (hready : ∀ o,ops[i]? = some o -> ∀ e∈o.after,Region.binds .any e=true->X e.on=true) :
  M5 (DL X rs 0 (d0 σ)).1 x.guard=some r.g/\(r.g=true->eff C x.ban (ED (DL X rs 0 (d0 σ)).1) (DL X rs 0 (d0 σ)).2 x.op=some r.E) /\
  (if r.g then r.E.valOf (DL X rs 0 (d0 σ)).2 else .tup [])=r.v /\
  ∀ X':Nat->Bool,(∀ j,X' j=(decide (j=i)||X j))->DL X' rs 0 (d0 σ)=r.act (DL X rs 0 (d0 σ)):=by
 have hil:i<l.length:=(zS hx).1
 have hf:=h.fits i x r hx hr
 have htext:=ZO h i (by omega)
 generalize hT:DL X rs 0 (d0 σ)=TX
 have hat : ∀ (j:Nat) (r':DR),rs[j]? = some r' -> ∃ y,l[j]? = some y/\RH C y r' (σ j) (σ (j+1)):=fun j r' hj=>by
  have hjl:j<l.length:=by rw[<-h.len];exact (zS hj).1
  exact ⟨l[j],zE hjl,h.fits j _ _ (zE hjl) hj⟩
 have hslot : ∀ t∈SC x,TX.1 t=tget (σ i).tm t:=fun t ht=>by
  have:=lT (X:=X) (Y:=fun j=>decide (j<i)) (t:=t) rs 0 (d0 σ) (d0 σ) rfl (fun j r' hj hd=>by
   simp only[Nat.zero_add]
   by_cases hne:i=j
   ·subst hne;simp [hXi]
   ·obtain ⟨y,hy,hfy⟩:=hat j r' hj
    rcases (QH h.ok hx hy hne).1 with ho|⟨h1,_⟩
    ·exact oZ hX hXi hready hne ho
    ·exact absurd ht (h1 t (by rw[<-hfy.d];exact hd)))
  rw[hT,htext]at this
  exact this
 have huses : ∀ t∈FN x.op,TX.1 t=tget (σ i).tm t:=fun t ht=>hslot t (by simp [SC,ht])
 have hsite : ∀ s,(∀ (j:Nat) (y:AI) (r':DR),i≠j->l[j]? = some y->rs[j]? = some r'->H2 (Region.before ops) i j=true \/ ∀ o,r'.own o s=o s)->TX.2 s=(σ i).own s:=fun s hs=>by
  have:=lS (X:=X) (Y:=fun j=>decide (j<i)) (s:=s) rs 0 (d0 σ) (d0 σ) rfl (fun j r' hj=>by
   simp only[Nat.zero_add]
   by_cases hne:i=j
   ·subst hne;left;simp [hXi]
   ·obtain ⟨y,hy,hfy⟩:=hat j r' hj
    rcases hs j y r' hne hy hj with ho|ho
    ·exact .inl (oZ hX hXi hready hne ho)
    ·exact .inr ho)
  rw[hT,htext]at this
  exact this
 have hidle : ∀ (j:Nat) (y:AI) (r':DR),l[j]? = some y->rs[j]? = some r'->MQ y.op=false -> ∀ o,r'.own o=o:=fun j y r' hy hj hm o=>by
  simp only[MQ,Bool.or_eq_false_iff]at hm
  exact Q0 (h.fits j y r' hy hj) hm.1.1 (by simpa using hm.2) o
 have hrev : ∀ (j:Nat) (y:AI),i≠j->l[j]? = some y->F7 y.op=true->MQ x.op=true->H2 (Region.before ops) i j=true:=fun j y hne hy ht hmx=>by
  rcases (QH h.ok hy hx (Ne.symm hne)).1 with ho|⟨_,h2,_⟩
  ·rw[oX];exact ho
  ·rw[ht,hmx]at h2;simp at h2
 have hg:M5 TX.1 x.guard=some r.g:=by
  rw[<-hf.g]
  cases hgd:x.guard with
  | none=>rfl
  | some gw =>
   obtain ⟨g,w⟩:=gw
   simp only[M5]
   rw[hslot g (by simp [SC,hgd])]
 have hturn:F7 x.op=true->TX.2=(σ i).own:=fun ht=>by
  funext s
  refine hsite s fun j y r' hne hy hj => ?_
  cases hm:MQ y.op with
  | false=>exact .inr fun o=>by rw[hidle j y r' hy hj hm o]
  | true =>
   rcases (QH h.ok hx hy hne).1 with ho|⟨_,h2,_⟩
   ·exact .inl ho
   ·rw[ht,hm]at h2;simp at h2
 have hread:UY x.op=true->TX.2.hide x.ban=(σ i).own.hide x.ban:=fun hrd=>by
  refine Acf fun s hs=>hsite s fun j y r' hne hy hj => ?_
  have hmx:MQ x.op=true:=by simp [MQ,hrd]
  cases ht:F7 y.op with
  | true=>exact .inl (hrev j y hne hy ht hmx)
  | false =>
   cases hsy:EA y.op with
   | none=>exact .inr fun o=>by rw[Q0 (h.fits j y r' hy hj) ht hsy o]
   | some q =>
    rcases (QH h.ok hx hy hne).1 with ho|⟨_,_,h3⟩
    ·exact .inl ho
    ·exact .inr fun o=>pK (h.fits j y r' hy hj) hsy (p:=s) (fun e=>hs (by rw[e];exact h3 hrd q hsy)) o
 have hsame : ∀ s,EA x.op=some s->TX.2 s=(σ i).own s:=fun s hsx=>by
  have hmx:MQ x.op=true:=by simp [MQ,hsx]
  exact hsite s fun j y r' hne hy hj=>by
   cases ht:F7 y.op with
   | true=>exact .inl (hrev j y hne hy ht hmx)
   | false =>
    cases hsy:EA y.op with
    | none=>exact .inr fun o=>by rw[Q0 (h.fits j y r' hy hj) ht hsy o]
    | some q =>
     rcases (QH h.ok hx hy hne).2 with ho|hss
     ·exact .inl ho
     ·exact .inr fun o=>pK (h.fits j y r' hy hj) hsy (hss s q hsx hsy) o
 have heff:r.g=true->eff C x.ban (ED TX.1) TX.2 x.op=some r.E:=fun hg'=>by
  rw[AaB huses,<-hf.E hg']
  cases ht:F7 x.op with
  | true=>rw[hturn ht]
  | false=>exact AaE _ _ ht hread hsame
 have hval:(if r.g then r.E.valOf TX.2 else .tup [])=r.v:=by
  rw[hf.v]
  cases hgv:r.g with
  | false=>rfl
  | true =>
   simp only[if_true]
   cases hsx:EA x.op with
   | none =>
    cases ht:F7 x.op with
    | true=>rw[hturn ht]
    | false =>
     obtain ⟨v,hv⟩:=jQ (hf.E hgv) ht hsx
     rw[hv];rfl
   | some s =>
    have hss:=hsame s hsx
    rcases jP (hf.E hgv) hsx with ⟨b,v,hv|hv⟩|⟨x,v,hv|hv⟩<;>rw[hv]<;>simp only[CP.valOf,AH.cnt,hss]
 refine ⟨hg,heff,hval,fun X' hX' => ?_⟩
 rw[<-hT]
 refine lR hr hXi hX' _ fun j r' hj hlt hXj z => ?_
 obtain ⟨y,hy,hfy⟩:=hat j r' hj
 have hne:i≠j:=by omega
 have hno : ¬ H2 (Region.before ops) i j=true:=fun ho=>by
  have:=oY hX hXj hlt ho
  rw[hXi]at this;cases this
 obtain ⟨hp1,hp2⟩:=QH h.ok hx hy hne
 obtain ⟨hq1,hq2⟩:=QH h.ok hy hx (Ne.symm hne)
 have hp:=hp1.resolve_left hno
 have hq:=hq1.resolve_left (by rw[oX];exact hno)
 unfold DR.act
 refine Prod.ext ?_ ?_
 ·funext t
  simp only[I2]
  by_cases h1:r'.d=some t<;>by_cases h2:r.d=some t
  ·exact absurd (by rw[hf.d]at h2;simp [SC,h2]) (hp.1 t (by rw[<-hfy.d];exact h1))
  ·simp [h1,h2]
  ·simp [h1,h2]
  ·simp [h1,h2]
 ·show r'.own (r.own z.2)=r.own (r'.own z.2)
  cases hmx:MQ x.op with
  | false=>rw[hidle i x r hx hr hmx,hidle i x r hx hr hmx]
  | true =>
   cases hmy:MQ y.op with
   | false=>rw[hidle j y r' hy hj hmy,hidle j y r' hy hj hmy]
   | true =>
    have htx:F7 x.op=false:=by
     rcases hp.2.1 with h1|h1
     ·exact h1
     ·rw[hmy]at h1;cases h1
    have hty:F7 y.op=false:=by
     rcases hq.2.1 with h1|h1
     ·exact h1
     ·rw[hmx]at h1;cases h1
    cases hsx:EA x.op with
    | none=>rw[Q0 hf htx hsx,Q0 hf htx hsx]
    | some s =>
     cases hsy:EA y.op with
     | none=>rw[Q0 hfy hty hsy,Q0 hfy hty hsy]
     | some s' =>
      have hss:=(hp2.resolve_left hno) s s' hsx hsy
      rcases cP hf hsx with h1|⟨b,h1⟩
      ·rw[h1,h1]
      ·rcases cP hfy hsy with h2|⟨b',h2⟩
       ·rw[h2,h2]
       ·rw[h1,h2,h2,h1]
        funext q
        simp only[AH.put]
        by_cases hqs:q=s<;>by_cases hqs':q=s'
        ·exact absurd (hqs.symm.trans hqs') hss
        ·simp [hqs,hss]
        ·simp [hqs',Ne.symm hss]
        ·simp [hqs,hqs']
end
end
end Go.Eng

namespace Go.Eng
open Go.RowKit
section
variable {ops:Array Oper} {md:Region.Mode}
theorem wZ {e:Edge} (h:Region.binds .any e=true) (md:Region.Mode):Region.binds md e=true:=by
 unfold Region.binds at *
 split at h<;>simp_all
theorem nD (ops:Array Oper) (md:Region.Mode) : ∀ (fuel t:Nat) (listed:Array Bool),listed.size=ops.size -> ∀ (k i:Nat),(Region.linearise.go md ops fuel t listed [])[k]? = some i ->
  ∃ o,ops[i]? = some o /\ ∀ e∈o.after,Region.binds md e=true->listed.getD e.on false=true\/e.on∈(Region.linearise.go md ops fuel t listed []).take k
 | 0,t,listed,hs,k,i,h=>by simp [Region.linearise.go]at h
 | fuel+1,t,listed,hs,k,i,h=>by
  have hgo:Region.linearise.go md ops (fuel+1) t listed []=match (Region.ready md ops listed)[t%(Region.ready md ops listed).length]? with
   | some i=>i::Region.linearise.go md ops fuel (t/(Region.ready md ops listed).length) (listed.setIfInBounds i true) []
   | none=>[]:=by
   simp only[Region.linearise.go]
   change (match (Region.ready md ops listed)[t%(Region.ready md ops listed).length]? with
    | some i=>Region.linearise.go md ops fuel (t/(Region.ready md ops listed).length) (listed.setIfInBounds i true) [i]
    | none=>[].reverse)=_
   cases (Region.ready md ops listed)[t%(Region.ready md ops listed).length]? with
   | none=>rfl
   | some i=>simp only[];rw[linearise_go_acc];rfl
  rw[hgo]at h ⊢
  cases hr:(Region.ready md ops listed)[t%(Region.ready md ops listed).length]? with
  | none=>rw[hr]at h;simp at h
  | some q =>
   rw[hr]at h
   simp only at h ⊢
   obtain ⟨_,oq,hoq,hq⟩:=mem_ready.1 (zM hr)
   cases k with
   | zero =>
    simp at h
    subst h
    exact ⟨oq,hoq,fun e he hb => .inl (hq e he hb)⟩
   | succ k =>
    simp at h
    obtain ⟨o,ho,hh⟩:=nD ops md fuel _ _ (by simpa using hs) k i h
    refine ⟨o,ho,fun e he hb => ?_⟩
    rcases hh e he hb with h1|h1
    ·by_cases heq:e.on=q
     ·right;simp [heq]
     ·left
      rw[getD_set_ne false (Ne.symm heq)]at h1
      exact h1
    ·right;simp [h1]
theorem aD {p:Nat->Bool} : ∀ (l:List Nat),(∃ i∈l,p i=false) -> ∃ k i,l[k]? = some i/\p i=false /\ ∀ j∈l.take k,p j=true
 | [],⟨i,hi,_⟩=>by simp at hi
 | x::r,⟨i,hi,hp⟩=>by
  cases hx:p x with
  | false=>exact ⟨0,x,rfl,hx,by simp⟩
  | true =>
   have : ∃ i∈r,p i=false:=by
    rcases List.mem_cons.1 hi with h|h
    ·subst h;rw[hx]at hp;cases hp
    ·exact ⟨i,h,hp⟩
   obtain ⟨k,j,h1,h2,h3⟩:=aD r this
   refine ⟨k+1,j,by simpa using h1,h2,fun q hq => ?_⟩
   simp only[List.take_succ_cons,List.mem_cons]at hq
   rcases hq with h|h
   ·subst h;exact hx
   ·exact h3 q h
theorem progress {l:List AI} (hd:QG ops l=true) (hmd:md = .gc->Region.departs ops=true) {listed:Array Bool} (hs:listed.size=ops.size) (hr:Region.ready md ops listed=[]) : ∀ j,j<ops.size->listed.getD j false=true:=by
 intro j hj
 cases hjl:listed.getD j false with
 | true=>rfl
 | false =>
  exfalso
  simp only[QG,Bool.and_eq_true]at hd
  obtain ⟨⟨_,hback⟩,hline⟩:=hd
  have notready : ∀ i,i<ops.size->listed.getD i false=false -> ¬ ∀ o,ops[i]? = some o -> ∀ e∈o.after,Region.binds md e=true->listed.getD e.on false=true:=fun i hi hl hall=>by
   have:i∈Region.ready md ops listed:=mem_ready.2 ⟨by
    have:i<listed.size:=by omega
    simp [Array.getD,this]at hl ⊢
    exact hl,ops[i],Array.getElem?_eq_getElem hi,fun e he hb=>hall ops[i] (Array.getElem?_eq_getElem hi) e he hb⟩
   rw[hr]at this
   simp at this
  by_cases hgc:md = .gc
  ·subst hgc
   rw[hmd rfl]at hline
   simp only[Bool.not_true,Bool.false_or,List.all_eq_true,List.mem_range,List.contains_iff_mem]at hline
   obtain ⟨k,i,h1,h2,h3⟩:=aD (p:=fun q=>listed.getD q false) (Region.linearise .gc ops 0) ⟨j,hline j hj,hjl⟩
   obtain ⟨o,ho,hh⟩:=nD ops .gc ops.size 0 (Array.replicate ops.size false) (by simp) k i h1
   have hi:i<ops.size:=(Array.getElem?_eq_some_iff.1 ho).1
   refine notready i hi h2 fun o' ho' e he hb => ?_
   rw[ho]at ho'
   obtain rfl:o=o':=by simpa using ho'
   rcases hh e he hb with h4|h4
   ·simp [Array.getD]at h4
   ·exact h3 e.on h4
  ·obtain ⟨k,i,h1,h2,h3⟩:=aD (p:=fun q=>listed.getD q false) (List.range ops.size) ⟨j,by simpa using hj,hjl⟩
   have hik:i=k:=by
    have hkl:k<ops.size:=by have:=(zS h1).1;simpa using this
    rw[List.getElem?_range hkl]at h1
    simpa using h1.symm
   subst hik
   have hi:i<ops.size:=by have:=(zS h1).1;simpa using this
   refine notready i hi h2 fun o ho e he hb => ?_
   rw[List.all_eq_true]at hback
   have hmem:(o,i)∈ops.toList.zipIdx:=List.mem_zipIdx_iff_getElem?.2 (by simpa using ho)
   have h4:=hback (o,i) hmem
   simp only[Array.all_eq_true_iff_forall_mem,Bool.or_eq_true,decide_eq_true_eq]at h4
   rcases h4 e he with h5|h5
   ·exact h3 e.on (by rw[List.take_range];simp;omega)
   ·exfalso
    unfold Region.binds at hb
    split at h5
    ·rename_i row hrow
     rw[hrow]at hb
     simp at hb
     exact hgc hb
    ·cases h5
variable {B:Nat} {S:Nat->Prop} {w0:World} {m0:M} {N:Nat}
variable {P:Program} {num:Nat->Nat} {C:Cl} {Q:Exit->Act->World->Prop}
def Q8 (listed:Array Bool) (n:Nat):Nat:=(List.range n).countP (fun j => !listed.getD j false)
theorem gZ {α:Type} {p q:α->Bool} : ∀ {l:List α} {x:α},(∀ y∈l,q y=true->p y=true)->x∈l->p x=true->q x=false->l.countP q<l.countP p
 | [],x,_,hx,_,_=>by simp at hx
 | y::r,x,h,hx,hp,hq=>by
  have hle:r.countP q<=r.countP p:=List.countP_mono_left fun z hz hqz=>h z (by simp [hz]) hqz
  rw[List.countP_cons,List.countP_cons]
  rcases List.mem_cons.1 hx with rfl|hx
  ·simp only[hp,hq,if_true,Bool.false_eq_true,if_false]
   omega
  ·have:=gZ (l:=r) (fun z hz=>h z (by simp [hz])) hx hp hq
   by_cases hqy:q y=true
   ·simp only[hqy,h y (by simp) hqy,if_true];omega
   ·simp only[hqy,Bool.false_eq_true,if_false]
    split<;>omega
theorem Ag6 (hC:HH P num C) {l:List AI} (hok:OR P num N ops ops.toList l=true) {σ:Nat->St} {rs:List DR} (h:VM C ops l σ rs) (hmd:md = .gc->Region.departs ops=true)
  (hQ : ∀ m' a',m'.own=(σ l.length).own->FC B S w0 m0 N (tget (σ l.length).tm) m' a'->Q .normal a' m'.w) :
  ∀ (fuel:Nat) (listed:Array Bool) (a:Act) (m:M),listed.size=ops.size->Q8 listed ops.size<=fuel->RF ops (fun j=>listed.getD j false)->m.own=(DL (fun j=>listed.getD j false) rs 0 (d0 σ)).2->FC B S w0 m0 N (DL (fun j=>listed.getD j false) rs 0 (d0 σ)).1 m a->wpAny P md ops Q fuel listed a m.w:=by
 have hlen:ops.size=l.length:=by have:=(UQ hok).1;simpa using this
 have final : ∀ (listed:Array Bool) (a:Act) (m:M),(∀ j,j<ops.size->listed.getD j false=true)->m.own=(DL (fun j=>listed.getD j false) rs 0 (d0 σ)).2->FC B S w0 m0 N (DL (fun j=>listed.getD j false) rs 0 (d0 σ)).1 m a->Q .normal a m.w:=fun listed a m hall hown hf=>by
  have:DL (fun j=>listed.getD j false) rs 0 (d0 σ)=(tget (σ l.length).tm,(σ l.length).own):=by
   rw[<-ZO h l.length (Nat.le_refl _)]
   refine WY rs 0 _ fun i hi => ?_
   simp only[Nat.zero_add]
   rw[hall i (by rw[hlen,<-h.len];exact hi)]
   simp;rw[<-h.len];exact hi
  rw[this]at hown hf
  exact hQ m a hown hf
 have all0 : ∀ listed:Array Bool,Q8 listed ops.size<=0 -> ∀ j,j<ops.size->listed.getD j false=true:=fun listed h0 j hj=>by
  have h1:Q8 listed ops.size=0:=by omega
  unfold Q8 at h1
  rw[List.countP_eq_zero]at h1
  simpa using h1 j (by simpa using hj)
 intro fuel
 induction fuel with
 | zero =>
  intro listed a m hsz hn hdn hown hf
  refine ⟨?_,final listed a m (all0 listed hn) hown hf⟩
  cases hr:Region.ready md ops listed with
  | nil=>rfl
  | cons i r =>
   obtain ⟨h1,o,ho,_⟩:=mem_ready.1 (show i∈Region.ready md ops listed by rw[hr];simp)
   have hi:i<ops.size:=(Array.getElem?_eq_some_iff.1 ho).1
   have h2:=all0 listed hn i hi
   have hil:i<listed.size:=by omega
   simp [Array.getD,hil]at h1 h2
   rw[h1]at h2;cases h2
 | succ fuel ih =>
  intro listed a m hsz hn hdn hown hf
  refine ⟨fun hr=>final listed a m (progress h.ok hmd hsz hr) hown hf,fun i hi => ?_⟩
  obtain ⟨h1,o,ho,hedges⟩:=mem_ready.1 hi
  have hio:i<ops.size:=(Array.getElem?_eq_some_iff.1 ho).1
  have hil:i<listed.size:=by omega
  have hi0:listed.getD i false=false:=by
   simp [Array.getD,hil]at h1 ⊢
   exact h1
  have hll:i<l.length:=by omega
  have hrl:i<rs.length:=by rw[h.len];exact hll
  have hx:l[i]? = some l[i]:=zE hll
  have hr:rs[i]? = some rs[i]:=zE hrl
  have hready : ∀ o',ops[i]? = some o' -> ∀ e∈o'.after,Region.binds .any e=true->listed.getD e.on false=true:=fun o' ho' e he hb=>by
   rw[ho]at ho'
   obtain rfl:o=o':=by simpa using ho'
   exact hedges e he (wZ hb md)
  obtain ⟨g1,g2,g3,g4⟩:=Aaw h hx hr hdn hi0 hready
  have hoki:=(UQ hok).2 i o l[i] (by simpa using ho) hx
  have hX' : ∀ j,(listed.setIfInBounds i true).getD j false=(decide (j=i)||listed.getD j false):=fun j=>by
   by_cases hji:j=i
   ·subst hji;simp [Array.getD,hil]
   ·rw[getD_set_ne false (Ne.symm hji)];simp [hji]
  refine sJ hC ho hoki hf g1 (fun hg=>by rw[hown];exact g2 hg) fun m' a' hown' hf' => ?_
  have hnew:=g4 _ hX'
  refine ih (listed.setIfInBounds i true) a' m' (by simpa using hsz) ?_ ?_ ?_ ?_
  ·have hlt:Q8 (listed.setIfInBounds i true) ops.size<Q8 listed ops.size:=by
    refine gZ (x:=i) (fun j _ hj => ?_) (by simpa using hio) (by simp [hi0]) (by rw[hX'];simp)
    rw[hX']at hj
    simp at hj ⊢
    exact hj.2
   omega
  ·intro j oj hj hoj e he hb
   change (listed.setIfInBounds i true).getD j false=true at hj
   show (listed.setIfInBounds i true).getD e.on false=true
   rw[hX']at hj ⊢
   simp only[Bool.or_eq_true,decide_eq_true_eq]at hj ⊢
   rcases hj with rfl|hj
   ·exact .inr (hready oj hoj e he hb)
   ·exact .inr (hdn j oj hj hoj e he hb)
  ·rw[hnew,hown',hown]
   rfl
  ·rw[hnew]
   rw[hown,g3]at hf'
   have hd:(l[i]).dst=(rs[i]).d:=(h.fits i _ _ hx hr).d.symm
   rw[hd]at hf'
   exact hf'
theorem Ag7 (hC:HH P num C) {id:Nat} {l:List AI} (hok:OR P num N ops ops.toList l=true) (hd:QG ops l=true) {st st':St} (hst:DC C l st=some st') {m:M} {a:Act} (hown:m.own=st.own) (hf:FC B S w0 m0 N (tget st.tm) m a)
  (hQ : ∀ m' a',m'.own=st'.own->FC B S w0 m0 N (tget st'.tm) m' a'->Q .normal a' m'.w):(Code.region id ops true).wp P Q a m.w:=by
 obtain ⟨σ,rs,h0,h1,hl,h2⟩:=trace hst
 have hD:VM C ops l σ rs:=⟨hd,hl,h2⟩
 obtain ⟨hm1,he1⟩:=grow hf.mem ((Below.refl m.w.heap.size m.w).drew)
 have hf1:FC B S w0 m0 N (tget st.tm) ⟨m.ν,m.own,m.w.drew⟩ a:=⟨hm1,hf.ext.trans he1,fun i=>he1.cv (hf.tm i),hf.size,hf.defers⟩
 have h00:DL (fun j=>(Array.replicate ops.size false).getD j false) rs 0 (d0 σ)=d0 σ:=aJ rs 0 _ fun i _=>by simp [Array.getD]
 have key : ∀ md:Region.Mode,(md = .gc->Region.departs ops=true) -> ∀ t,wpOps P ops Q (Region.linearise md ops t) a m.w.drew:=fun md hmd t=>by
  refine wpAny_sound ops.size t (Array.replicate ops.size false) a m.w.drew ?_
  refine Ag6 hC hok hD hmd (by rw[h1];exact hQ) ops.size _ a ⟨m.ν,m.own,m.w.drew⟩ (by simp) ?_ ?_ ?_ ?_
  ·unfold Q8
   exact Nat.le_trans List.countP_le_length (by simp)
  ·intro j o hj
   simp [Array.getD]at hj
  ·rw[h00];simp [d0,h0,hown]
  ·rw[h00];simpa [d0,h0] using hf1
 refine wp_region_draw fun t => ?_
 change wpOps P ops Q _ a m.w.drew
 unfold Region.schedule
 split
 ·exact key .any (fun h=>by cases h) t
 ·rename_i hdep
  have hdp:Region.departs ops=true:=by simp at hdep;exact hdep.2
  split
  ·exact key .text (fun _=>hdp) _
  ·exact key .gc (fun _=>hdp) _
end
end Go.Eng

namespace Go.Eng
open Go.RowKit
section
variable {B:Nat} {S:Nat->Prop} {w0:World} {m0:M} {N:Nat}
variable {P:Program} {num:Nat->Nat} {C:Cl}
theorem AgS (m:Tm) (l:List Nat) (j:Nat):tget (tdrop m l) j=tget m j\/tget (tdrop m l) j = .any:=by
 induction m with
 | nil=>exact .inl rfl
 | cons x r ih =>
  obtain ⟨i,v⟩:=x
  simp only[tdrop]
  split
  ·by_cases h:j=i
   ·subst h
    rename_i hc
    right
    clear ih
    induction r with
    | nil=>rfl
    | cons y q ih =>
     obtain ⟨k,u⟩:=y
     simp only[tdrop]
     split
     ·exact ih
     ·rename_i hk
      have : ¬ j=k:=fun e=>by subst e;exact hk hc
      simp only[tget,if_neg this]
      exact ih
   ·rcases ih with h1|h1
    ·left;simp only[tget,if_neg h];exact h1
    ·right;exact h1
  ·by_cases h:j=i
   ·left;simp [tget,h]
   ·simp only[tget,if_neg h]
    exact ih
inductive HT (P:Program) (num:Nat->Nat) (N:Nat):List It->List Item->Prop
 | nil:HT P num N [] []
 | code {c:Code} {a:AL} {k:List It} {t:List Item} (h:EQ P num N c a=true) (hk:HT P num N k t):HT P num N (.code a::k) (.code c::t)
 | drop {ts ss:List Nat} {k:List It} {t:List Item} (hk:HT P num N k t):HT P num N (.drp ts ss::k) t
 | blk {id:Nat} {k:List It} {t:List Item} (hk:HT P num N k t):HT P num N (.blk id::k) (.inBlock id::t)
 | lp {c:Code} {a:AL} {k:List It} {t:List Item} (h:EQ P num N c a=true) (hk:HT P num N k t):HT P num N (.lp a::k) (.inLoop c::t)
 | scope {c:Code} {k:List It} {t:List Item} (hk:HT P num N k t):HT P num N k (.inScope c::t)
theorem rK {b:Frame} {a:Act} {k:List Item} {cs:List Frame} {w:World} {c:Code}:step P (lone (b.at a (.inScope c::k)) cs w) = .next (lone (b.at a k) cs w) :=
 step_lone_go (by simp [stepG,stepG.exec,Frame.at])
theorem AgH {b:Frame} {a:Act} {k:List Item} {cs:List Frame} {w:World} {c:Code}:step P (lone (b.at a (.code (.scope c)::k)) cs w) = .next (lone (b.at a (.code c :: .inScope c::k)) cs w) :=
 step_lone_go (by simp [stepG,stepG.exec,Frame.at])
theorem R6 {id:Nat} : ∀ {k:List It} {t:List Item},HT P num N k t -> ∀ {k':List It},DP id k=some k' -> ∃ t',exitTo id t=some t'/\HT P num N k' t'
 | _,_,.nil,k',h=>by simp [DP]at h
 | _,_,.code h0 hk,k',h=>by
  simp only[DP]at h
  obtain ⟨t',h1,h2⟩:=R6 hk h
  exact ⟨t',by simpa [exitTo] using h1,h2⟩
 | _,_,.drop hk,k',h=>by
  simp only[DP]at h
  exact R6 hk h
 | _,_,.blk (id:=id') hk,k',h=>by
  simp only[DP]at h
  split at h
  ·rename_i he
   subst he
   simp only[Option.some.injEq]at h
   subst h
   exact ⟨_,by simp [exitTo],hk⟩
  ·rename_i he
   obtain ⟨t',h1,h2⟩:=R6 hk h
   exact ⟨t',by simpa [exitTo,he] using h1,h2⟩
 | _,_,.lp h0 hk,k',h=>by
  simp only[DP]at h
  obtain ⟨t',h1,h2⟩:=R6 hk h
  exact ⟨t',by simpa [exitTo] using h1,h2⟩
 | _,_,.scope hk,k',h=>by
  obtain ⟨t',h1,h2⟩:=R6 hk h
  exact ⟨t',by simpa [exitTo] using h1,h2⟩
def eE (B:Nat) (S:Nat->Prop) (w0:World) (m0:M) (N:Nat) (P:Program) (b:Frame) (cs:List Frame) (mach:Machine) (st':St):Prop :=
 ∃ a' m' todo',Steps P mach (lone { b.at a' todo' with mode := .returning } cs m'.w)/\m'.own=st'.own/\FC B S w0 m0 N (tget st'.tm) m' a'
theorem Agj (hC:HH P num C) (b:Frame) (cs:List Frame) : ∀ (n:Nat) (k:List It) (st st':St),run C n k st=some st' -> ∀ (t:List Item),HT P num N k t -> ∀ (m:M) (a:Act),m.own=st.own->FC B S w0 m0 N (tget st.tm) m a ->
  eE B S w0 m0 N P b cs (lone (b.at a t) cs m.w) st':=by
 intro n
 induction n with
 | zero=>intro k st st' h;simp [run]at h
 | succ n ih =>
  intro k st st' h t ht
  have fin : ∀ (t:List Item),HT P num N [] t -> ∀ (m:M) (a:Act),m.own=st.own->FC B S w0 m0 N (tget st.tm) m a->st=st'->eE B S w0 m0 N P b cs (lone (b.at a t) cs m.w) st':=by
   intro t ht
   generalize hk:([]:List It)=kk at ht
   induction ht with
   | nil =>
    intro m a hown hf he
    subst he
    exact ⟨a,m,[],.one step_end,hown,hf⟩
   | scope hk' ih2 =>
    intro m a hown hf he
    obtain ⟨a',m',todo',h1,h2⟩:=ih2 hk m a hown hf he
    exact ⟨a',m',todo',.head rK h1,h2⟩
   | code=>cases hk
   | drop=>cases hk
   | blk=>cases hk
   | lp=>cases hk
  cases k with
  | nil =>
   intro m a hown hf
   simp only[run,Option.some.injEq]at h
   exact fin t ht m a hown hf h
  | cons it k =>
   generalize hkk:it::k=kk at ht
   induction ht with
   | nil=>cases hkk
   | scope hk' ih2 =>
    intro m a hown hf
    obtain ⟨a',m',todo',h1,h2⟩:=ih2 hkk m a hown hf
    exact ⟨a',m',todo',.head rK h1,h2⟩
   | @blk id k2 t2 hk' ih2 =>
    intro m a hown hf
    obtain ⟨rfl,rfl⟩:it = .blk id/\k=k2:=by simpa using hkk
    simp only[run]at h
    obtain ⟨a',m',todo',h1,h2⟩:=ih k st st' h t2 hk' m a hown hf
    exact ⟨a',m',todo',.head step_inBlock h1,h2⟩
   | @lp c ac k2 t2 hok hk' ih2 =>
    intro m a hown hf
    obtain ⟨rfl,rfl⟩:it = .lp ac/\k=k2:=by simpa using hkk
    simp only[run]at h
    obtain ⟨a',m',todo',h1,h2⟩:=ih _ st st' h (.code c :: .inLoop c::t2) (.code hok (.lp hok hk')) m a hown hf
    exact ⟨a',m',todo',.head step_inLoop h1,h2⟩
   | @drop ts ss k2 t2 hk' ih2 =>
    intro m a hown hf
    obtain ⟨rfl,rfl⟩:it = .drp ts ss/\k=k2:=by simpa using hkk
    simp only[run]at h
    obtain ⟨hm',he⟩:=Aax hf.mem ss
    have hf':FC B S w0 m0 N (tget (tdrop st.tm ts)) ⟨m.ν,m.own.drop ss,m.w⟩ a:=⟨hm',hf.ext.trans he,fun i=>by
     rcases AgS st.tm ts i with h1|h1
     ·rw[h1];exact he.cv (hf.tm i)
     ·rw[h1];exact .any _,hf.size,hf.defers⟩
    obtain ⟨a',m',todo',h1,h2,h3⟩:=ih k ⟨tdrop st.tm ts,st.own.drop ss⟩ st' h t2 hk' ⟨m.ν,m.own.drop ss,m.w⟩ a (by simp [hown]) hf'
    exact ⟨a',m',todo',h1,h2,h3⟩
   | @code c ac k2 t2 hok hk' ih2 =>
    obtain ⟨rfl,rfl⟩:it = .code ac/\k=k2:=by simpa using hkk
    clear ih2 hkk
    intro m a hown hf
    cases ac with
    | dr ac ts ss =>
     simp only[EQ]at hok
     simp only[run]at h
     exact ih _ st st' h _ (.code hok (.drop hk')) m a hown hf
    | skip =>
     simp only[run]at h
     cases c with
     | skip =>
      obtain ⟨a',m',todo',h1,h2⟩:=ih _ st st' h _ hk' m a hown hf
      exact ⟨a',m',todo',.head step_skip h1,h2⟩
     | label =>
      obtain ⟨a',m',todo',h1,h2⟩:=ih _ st st' h _ hk' m a hown hf
      exact ⟨a',m',todo',.head step_label h1,h2⟩
     | _=>simp [EQ]at hok
    | scope ac =>
     simp only[run]at h
     cases c with
     | scope c =>
      simp only[EQ]at hok
      obtain ⟨a',m',todo',h1,h2⟩:=ih _ st st' h _ (.code hok (.scope (c:=c) hk')) m a hown hf
      exact ⟨a',m',todo',.head AgH h1,h2⟩
     | _=>simp [EQ]at hok
    | seq a1 a2 =>
     simp only[run]at h
     cases c with
     | seq c1 c2 =>
      simp only[EQ,Bool.and_eq_true]at hok
      obtain ⟨a',m',todo',h1,h2⟩:=ih _ st st' h _ (.code hok.1 (.code hok.2 hk')) m a hown hf
      exact ⟨a',m',todo',.head step_seq h1,h2⟩
     | _=>simp [EQ]at hok
    | cond x a1 a2 =>
     simp only[run]at h
     cases c with
     | cond xc c1 c2 =>
      simp only[EQ,Bool.and_eq_true]at hok
      have hcv:CV B S m (st.ev x) (a.eval xc):=by rw[kD];exact hf.says xc x hok.1.1
      split at h
      ·rename_i hx
       rw[hx]at hcv
       obtain ⟨a',m',todo',h1,h2⟩:=ih _ st st' h _ (.code hok.1.2 hk') m a hown hf
       exact ⟨a',m',todo',.head (step_cond (QC hcv)) h1,h2⟩
      ·rename_i hx
       rw[hx]at hcv
       obtain ⟨a',m',todo',h1,h2⟩:=ih _ st st' h _ (.code hok.2 hk') m a hown hf
       exact ⟨a',m',todo',.head (step_cond (QC hcv)) h1,h2⟩
      ·cases h
     | _=>simp [EQ]at hok
    | block id ac =>
     simp only[run]at h
     cases c with
     | block id' c =>
      simp only[EQ,Bool.and_eq_true,beq_iff_eq]at hok
      obtain ⟨rfl,hok⟩:=hok
      obtain ⟨a',m',todo',h1,h2⟩:=ih _ st st' h _ (.code hok (.blk hk')) m a hown hf
      exact ⟨a',m',todo',.head step_block h1,h2⟩
     | _=>simp [EQ]at hok
    | loop ac =>
     simp only[run]at h
     cases c with
     | loop c =>
      simp only[EQ]at hok
      obtain ⟨a',m',todo',h1,h2⟩:=ih _ st st' h _ (.code hok (.lp hok hk')) m a hown hf
      exact ⟨a',m',todo',.head step_loop h1,h2⟩
     | _=>simp [EQ]at hok
    | exit id =>
     simp only[run]at h
     cases c with
     | exit id' =>
      simp only[EQ,beq_iff_eq]at hok
      subst hok
      split at h
      ·rename_i k' hk2
       obtain ⟨t',e1,e2⟩:=R6 hk' hk2
       obtain ⟨a',m',todo',h1,h2⟩:=ih _ st st' h _ e2 m a hown hf
       exact ⟨a',m',todo',.head (step_exit e1) h1,h2⟩
      ·cases h
     | _=>simp [EQ]at hok
    | ret =>
     simp only[run,Option.some.injEq]at h
     subst h
     cases c with
     | ret=>exact ⟨a,m,.code .ret::t2,.one step_ret,hown,hf⟩
     | _=>simp [EQ]at hok
    | ops l draw =>
     simp only[run]at h
     split at h
     ·rename_i BD hst1
      cases c with
      | region id ops draw' =>
       simp only[EQ,Bool.and_eq_true,beq_iff_eq]at hok
       obtain ⟨⟨rfl,hokl⟩,hdr⟩:=hok
       have hwp:(Code.region id ops draw').wp P (fun e a' w'=>e = .normal /\ ∃ m',m'.w=w'/\m'.own=BD.own/\FC B S w0 m0 N (tget BD.tm) m' a') a m.w:=by
        cases draw' with
        | true=>exact Ag7 hC hokl (by simpa using hdr) hst1 hown hf fun m' a' h1 h2=>⟨rfl,m',rfl,h1,h2⟩
        | false =>
         refine wp_region ?_
         rw[List.range_eq_range']
         exact sK hC hokl ops.size 0 st BD m a (by omega) (by simpa using hst1) hown hf fun m' a' h1 h2=>⟨rfl,m',rfl,h1,h2⟩
       obtain ⟨e,a1,w1,⟨rfl,m1,rfl,hown1,hf1⟩,harr⟩:=hwp b t2 cs
       obtain ⟨a',m',todo',h1,h2,h3⟩:=ih _ BD st' h _ hk' m1 a1 hown1 hf1
       exact ⟨a',m',todo',Steps.trans harr h1,h2,h3⟩
      | _=>simp [EQ]at hok
     ·cases h
end
end Go.Eng

namespace Go.Eng
open Go.RowKit
section
variable {P:Program} {num:Nat->Nat} {L:Lib}
def ProgOK (P : Program) (num : Nat → Nat) (L : Lib) : Prop := (∀ f fa, L f = some fa → ∃ fn, P.funcs[num f]? = some fn ∧ okFn P num fn fa = true ∧ (fn.name == "runtime.NumGoroutine") = false) ∧ L.num = num
theorem mN : ∀ (args:List AV) (k i:Nat),tget (CZ k args) i=if k<=i then (match args[i-k]? with|some v=>v|none => .any) else .any
 | [],k,i=>by simp [CZ,tget]
 | v::r,k,i=>by
  simp only[CZ,tget]
  by_cases h:i=k
  ·subst h;simp
  ·rw[if_neg h,mN r (k+1) i]
   by_cases h2:k<=i
   ·rw[if_pos h2,if_pos (by omega)]
    have:i-k=(i-(k+1))+1:=by omega
    rw[this]
    simp
   ·rw[if_neg h2,if_neg (by omega)]
section
variable {B:Nat} {S:Nat->Prop} {w0:World} {m0:M} {N:Nat}
def XM (tmps:Array Value):ResultVar->Sem Value
 | .tmp t=>pure (tmps.getD t undef)
 | .cell x t=>do loadVar t (<-asAddr (tmps.getD x undef))
theorem xB {m:M} {x v:AV} {u:Value} (h:IZ x=some v) (hcv:CV B S m x u):CA B S m v u:=by
 cases hcv with
 | any=>simp [IZ]at h
 | tup=>simp [IZ]at h
 | ca hc =>
  have:x=v:=by
   cases hc with
   | one hc=>cases hc with
    | rd hr=>cases hr<;>simpa [IZ] using h
    | _=>simpa [IZ] using h
   | fn=>simpa [IZ] using h
   | agg=>simpa [IZ] using h
  subst this
  exact hc
theorem cT {m:M} {a:Act} {st:St} (hf:FC B S w0 m0 N (tget st.tm) m a) (hown:m.own=st.own) : ∀ {rv:List ResultVar} {ra:List I4} {vs:List AV},NC P rv ra=true->ra.mapM (E0 st)=some vs ->
  ∃ us:List Value,(rv.mapM (XM a.tmps)).run P m.w = .ok us m.w/\vs.length=us.length /\ ∀ (j:Nat) (c:AV) (v:Value),vs[j]? = some c->us[j]? = some v->CA B S m c v
 | [],[],vs,_,h=>by
  simp at h;subst h
  exact ⟨[],by simp,rfl,fun j c v hc=>by simp at hc⟩
 | .tmp t::r,.tmp t'::l,vs,hok,h=>by
  simp only[NC,Bool.and_eq_true,beq_iff_eq]at hok
  obtain ⟨rfl,hok⟩:=hok
  simp only[List.mapM_cons,Option.bind_eq_bind,Option.pure_def]at h
  cases hv:E0 st (.tmp t) with
  | none=>simp [hv]at h
  | some v =>
   cases hr:l.mapM (E0 st) with
   | none=>simp [hv,hr]at h
   | some vr =>
    simp [hv,hr]at h
    subst h
    obtain ⟨us,h1,h2,h3⟩:=cT hf hown hok hr
    have hcv:=hf.tm t
    have hca:CA B S m v (a.tmps.getD t undef):=xB hv hcv
    refine ⟨a.tmps.getD t undef::us,?_,by simp [h2],fun j c u hc hu => ?_⟩
    ·simp only[List.mapM_cons,Sem.run_bind,XM,Sem.run_pure,Result.andThen_ok,h1]
    ·cases j with
     | zero =>
      obtain rfl:v=c:=by simpa using hc
      obtain rfl:a.tmps.getD t undef=u:=Option.some.inj hu
      exact hca
     | succ j=>exact h3 j c u (by simpa using hc) (by simpa using hu)
 | .cell x t::r,.cell x' agg n::l,vs,hok,h=>by
  simp only[NC,Bool.and_eq_true,beq_iff_eq]at hok
  obtain ⟨⟨⟨rfl,hagg⟩,hn⟩,hok⟩:=hok
  simp only[List.mapM_cons,Option.bind_eq_bind,Option.pure_def]at h
  cases hv:E0 st (.cell x agg n) with
  | none=>simp [hv]at h
  | some v =>
   cases hr:l.mapM (E0 st) with
   | none=>simp [hv,hr]at h
   | some vr =>
    simp [hv,hr]at h
    subst h
    obtain ⟨us,h1,h2,h3⟩:=cT hf hown hok hr
    have hcv:=hf.tm x
    simp only[E0]at hv
    split at hv
    ·rename_i s u i j hx
     rw[hx]at hcv
     split at hv
     ·rename_i cs hcs
      rw[<-hown]at hcs
      obtain ⟨ad,hev,ht,hb⟩:=RU hcv
      obtain ⟨b,g,arr,e,hget,hg,vs',hvl,hcl,hvs⟩:=pC hf.mem hcs
      obtain ⟨hcv',hone⟩:=UO hv hcl
      have hld:=cV (P:=P) t agg n (V2 (by simpa using hagg)) (by
       cases agg
       ·simpa using hn
       ·exact I3 (by simpa using hn)) ad vs' hvl m.w (fun q u' hq=>by
       have hlt:q<vs'.length:=(zS hq).1
       obtain ⟨hg1,hg2⟩:=hg (by omega)
       obtain ⟨g',hg',rfl⟩:=hb b hget
       obtain rfl:g=g':=by rw[hg1]at hg';simpa using hg'
       rw[G4,V9 hg2]
       exact hvs q u' hq)
      have hld':(XM a.tmps (.cell x t)).run P m.w = .ok (if agg then .agg vs'.toArray else vs'.getD 0 undef) m.w:=by
       show (do loadVar t (<-asAddr (a.tmps.getD x undef)):Sem Value).run P m.w=_
       rw[hev]
       simpa [asAddr,Instr.loadAt,Instr.sureAddr] using hld
      have hca:CA B S m v (if agg then .agg vs'.toArray else vs'.getD 0 undef):=by
       unfold IY at hv
       cases agg with
       | true =>
        simp only[if_true,Option.some.injEq]at hv
        subst hv
        exact .agg cs vs' hcl
       | false =>
        simp only[Bool.false_eq_true,if_false]at hv ⊢
        split at hv
        ·rename_i c
         simp only[Option.some.injEq]at hv
         subst hv
         obtain ⟨u',hu',hcc⟩:=RS hcl (j:=0) (c:=c) rfl
         simp only[List.getD,hu',Option.getD_some]
         exact .one hcc
        ·cases hv
      refine ⟨(if agg then .agg vs'.toArray else vs'.getD 0 undef)::us,?_,by simp [h2],fun j' c u' hc hu => ?_⟩
      ·rw[List.mapM_cons,Sem.run_bind,hld',Result.andThen_ok,Sem.run_bind,h1,Result.andThen_ok]
       rfl
      ·cases j' with
       | zero =>
        obtain rfl:v=c:=by simpa using hc
        obtain rfl:=Option.some.inj hu
        exact hca
       | succ j'=>exact h3 j' c u' (by simpa using hc) (by simpa using hu)
     ·cases hv
    ·cases hv
 | [],_::_,_,hok,_=>by simp [NC]at hok
 | .tmp _::_,[],_,hok,_=>by simp [NC]at hok
 | .cell _ _::_,[],_,hok,_=>by simp [NC]at hok
 | .tmp _::_,.cell _ _ _::_,_,hok,_=>by simp [NC]at hok
 | .cell _ _::_,.tmp _::_,_,hok,_=>by simp [NC]at hok
end
theorem gB (hP:ProgOK P num L) {f:Nat} {fa:AFn} (hL:L f=some fa) (us:Array Value) (w:World):(callFunc (num f) us).run P w = .ok (.enter (num f) us) w:=by
 obtain ⟨fn,h1,h2,h3⟩:=hP.1 f fa hL
 have hb:fn.body.isNone=false:=by
  simp only[okFn,Bool.and_eq_true]at h2
  cases hbd:fn.body with
  | none=>rw[hbd]at h2;simp at h2
  | some c=>rfl
 unfold callFunc
 simp only[Sem.run_bind,run_program,Result.andThen_ok,h1,h3,hb,Bool.false_eq_true,if_false,Sem.run_pure]
theorem mO (hP:ProgOK P num L) {n:Nat} (hC:HH P num (C5 L n)) {f:Nat} {vs:List AV} {own:AH} {r:AV} {own':AH} (h:DK L (n+1) f vs own=some (r,own')) (B:Nat) (S:Nat->Prop) (w0:World) (m:M) (us:List Value) (hown:m.own=own) (hm:BR B S w0 m) (hl:vs.length=us.length)
  (hcv : ∀ (j:Nat) (c:AV) (v:Value),vs[j]? = some c->us[j]? = some v->CV B S m c v) :
  Calls P (num f) us.toArray m.w fun e w' => ∃ u m',e = .returned u/\m'.w=w'/\m'.own=own'/\BR B S w0 m'/\DD B S m m'/\CV B S m' r u:=by
 rw[TV]at h
 cases hL:L f with
 | none=>simp [hL]at h
 | some fa =>
  simp only[hL]at h
  split at h
  ·rename_i hpars
   split at h
   ·rename_i st hrun
    split at h
    ·rename_i rvs hres
     simp only[Option.some.injEq,Prod.mk.injEq]at h
     obtain ⟨rfl,rfl⟩:=h
     obtain ⟨fn,h1,h2,h3⟩:=hP.1 f fa hL
     simp only[okFn,Bool.and_eq_true,beq_iff_eq,decide_eq_true_eq]at h2
     obtain ⟨⟨⟨h4,h5⟩,h6⟩,h7⟩:=h2
     split at h7
     ·rename_i c hc
      intro cs
      have henter:Frame.enter P (num f) us.toArray .normal=({ (default:Frame) with fn:=num f,kind := .normal }:Frame).at { tmps:=us.toArray++Array.replicate (fn.ntmps-us.toArray.size) undef,defers:=[] } [.code c]:=by
       simp [Frame.enter,Frame.at,h1,hc]
      have hsz:us.length=fa.pars:=by rw[<-hl];exact hpars
      have hf0:FC B S w0 m fn.ntmps (tget (CZ 0 vs)) m { tmps:=us.toArray++Array.replicate (fn.ntmps-us.toArray.size) undef,defers:=[] }:=by
       refine ⟨hm,DD.refl m,fun i => ?_,by simp;omega,rfl⟩
       rw[mN]
       simp only[Nat.zero_le,if_true,Nat.sub_zero]
       cases hvi:vs[i]? with
       | none=>exact .any _
       | some v =>
        have hi:i<us.length:=by rw[<-hl];exact (zS hvi).1
        have hget:(us.toArray++Array.replicate (fn.ntmps-us.toArray.size) undef).getD i undef=us[i]:=by
         rw[Array.getD_eq_getD_getElem?,Array.getElem?_append_left (by simpa using hi)]
         simp [hi]
        simp only[hget]
        exact hcv i v us[i] hvi (zE hi)
      obtain ⟨a',m',todo',hsteps,hown',hf'⟩:=Agj (m0:=m) hC { (default:Frame) with fn:=num f,kind := .normal } cs n [.code fa.body] ⟨CZ 0 vs,own⟩ st hrun [.code c] (.code h7 .nil) m _ hown hf0
      obtain ⟨uvs,hu1,hu2,hu3⟩:=cT (P:=P) hf' hown' h6 hres
      have hresult:(results fn a'.tmps).run P m'.w = .ok (if h:uvs.length=1 then uvs[0] else .tuple uvs.toArray) m'.w:=by
       have hr:results fn a'.tmps=(do let vs <-fn.results.mapM (XM a'.tmps);pure (if h:vs.size=1 then vs[0] else .tuple vs)):=rfl
       rw[hr,Sem.run_bind,Array.mapM_eq_mapM_toList]
       simp [hu1]
      refine ⟨.returned (if h:uvs.length=1 then uvs[0] else .tuple uvs.toArray),m'.w,_,⟨_,m',rfl,rfl,hown',hf'.mem,hf'.ext,?_⟩,by rw[henter];exact hsteps,rfl,rfl,hf'.defers,rfl,fn,h1,hresult⟩
      unfold HP
      split
      ·rename_i v
       have h1':uvs.length=1:=by rw[<-hu2];rfl
       rw[dif_pos h1']
       exact .ca (hu3 0 v uvs[0] rfl (zE (by omega)))
      ·rename_i hne
       have h1' : ¬ uvs.length=1:=fun e=>by
        rw[<-hu2]at e
        cases rvs with
        | nil=>simp at e
        | cons q qs=>cases qs with
         | nil=>exact hne q rfl
         | cons=>simp at e
       rw[dif_neg h1']
       exact .tup rvs uvs hu2 hu3
     ·cases h7
    ·cases h
   ·cases h
  ·cases h
theorem Adh (S:Nat->Prop) (w:World):BR w.heap.size S w ⟨fun _ _=>none,AH.emp,w⟩ :=
 ⟨Below.refl _ _,Nat.le_refl _,fun _ _ _=>rfl,fun s t b h=>by simp [AH.get,AH.emp]at h,fun s t s' t' b b' g h=>by simp [AH.get,AH.emp]at h⟩
theorem jU {n f:Nat} {vs:List AV} {own:AH} {r:AV × AH} (h:DK L n f vs own=some r) : ∃ fa,L f=some fa:=by
 cases n with
 | zero=>simp [DK]at h
 | succ n =>
  rw[TV]at h
  cases hL:L f with
  | none=>simp [hL]at h
  | some fa=>exact ⟨fa,rfl⟩
theorem cG {n f:Nat} {vs:List AV} {r:AV} (h:H4 (fun vs=>DK L n f vs AH.emp) vs=some r) : ∃ r0 o,DK L n f vs AH.emp=some (r0,o)/\PQ o false r0=some r/\A9 r:=by
 unfold H4 at h
 cases he:DK L n f vs AH.emp with
 | none=>simp [he]at h
 | some x =>
  obtain ⟨r0,o⟩:=x
  simp only[he]at h
  split at h
  ·rename_i r' hr
   split at h
   ·rename_i hc
    simp only[Option.some.injEq]at h
    subst h
    exact ⟨r0,o,rfl,hr,hc⟩
   ·cases h
  ·cases h
theorem ZS {n f:Nat} {vs:List AV} {r:AV} (h:HL L n f vs=some r) : ∃ vs',∃ x,DK L n f vs' AH.emp=some x:=by
 unfold HL MT at h
 split at h
 ·split at h
  ·rename_i r1 r2 h1 h2
   obtain ⟨r0,o,h3,_⟩:=cG h1
   exact ⟨_,_,h3⟩
  ·cases h
 ·obtain ⟨r0,o,h3,_⟩:=cG h
  exact ⟨_,_,h3⟩
theorem cH (hP:ProgOK P num L) {n:Nat} (ih:HH P num (C5 L n)) {f:Nat} {vs:List AV} {r:AV} (h:H4 (fun vs=>DK L (n+1) f vs AH.emp) vs=some r) (S:Nat->Prop) (w:World) (us:List Value) (hl:vs.length=us.length)
  (hca : ∀ (j:Nat) (c:AV) (v:Value),vs[j]? = some c->us[j]? = some v->CA w.heap.size S ⟨fun _ _=>none,AH.emp,w⟩ c v) :
  Calls P (num f) us.toArray w fun e w' => ∃ u,e = .returned u/\Below w.heap.size w w'/\CV w.heap.size S ⟨fun _ _=>none,AH.emp,w'⟩ r u/\A9 r:=by
 obtain ⟨r0,o,h1,h2,h3⟩:=cG (L:=L) h
 refine Calls.mono (mO hP ih h1 w.heap.size S w ⟨fun _ _=>none,AH.emp,w⟩ us rfl (Adh S w) hl fun j c v hc hv => .ca (hca j c v hc hv)) fun e w' ⟨u,m',he,hw,hown,hm',_,hcv⟩ => ?_
 subst hw
 refine ⟨u,he,hm'.below,?_,h3⟩
 refine DV.cv (m:=⟨fun _ _=>none,AH.emp,m'.w⟩) (Agz hm' false (safe w.heap.size S ⟨fun _ _=>none,AH.emp,m'.w⟩) (fun l b hb hs => ?_) (fun s t g hlv hg => ?_) (by rw[hown];exact h2) hcv)
 ·rcases hs with h|⟨h,_⟩|h
  ·exact .inl h
  ·exact .inr (.inl ⟨h,fun s t hlv=>by simp [AH.get,AH.emp]at hlv⟩)
  ·exact .inr (.inr h)
 ·exact .inr (.inl ⟨(hm'.ge hlv hg).1,fun s t hlv=>by simp [AH.get,AH.emp]at hlv⟩)
theorem xC (hP:ProgOK P num L) : ∀ n,HH P num (C5 L n):=by
 intro n
 induction n with
 | zero =>
  exact ⟨fun f vs r h=>by obtain ⟨vs',x,h1⟩:=ZS (L:=L) (n:=0) (f:=f) (vs:=vs) (r:=r) h;simp [DK]at h1,fun f vs own r h=>by change DK L 0 f vs own=some r at h;simp [DK]at h,
   fun f vs r h=>by obtain ⟨vs',x,h1⟩:=ZS (L:=L) (n:=0) (f:=f) (vs:=vs) (r:=r) h;simp [DK]at h1,fun f vs own r own' h=>by change DK L 0 f vs own=_ at h;simp [DK]at h,hP.2⟩
 | succ n ih =>
  refine ⟨fun f vs r h us w => ?_,fun f vs own r h us w => ?_,fun f vs r h S w us hl hca => ?_,fun f vs own r own' h B S w0 m us hown hm hl hcv=>mO hP ih h B S w0 m us hown hm hl hcv,hP.2⟩
  ·obtain ⟨vs',x,h1⟩:=ZS (L:=L) h
   obtain ⟨fa,hL⟩:=jU h1
   exact gB hP hL us w
  ·obtain ⟨fa,hL⟩:=jU (L:=L) h
   exact gB hP hL us w
  ·have h:MT (L.spl f) (fun vs=>DK L (n+1) f vs AH.emp) vs=some r:=h
   unfold MT at h
   split at h
   ·rename_i q vs' _ _
    split at h
    ·rename_i r1 r2 h1 h2
     split at h
     ·rename_i e
      subst e
      obtain rfl:=Option.some.inj h
      cases us with
      | nil=>simp at hl
      | cons u us =>
       have h0:=hca 0 _ u rfl rfl
       have hu : ∃ a cap,u = .slice a 0 cap:=by
        cases h0 with
        | one h0=>cases h0 with
         | rd h0=>cases h0 with
          | sl0 l a cap=>exact ⟨a,cap,rfl⟩
          | sl l es b o esz cap u hne=>exact absurd rfl hne
       obtain ⟨a,cap,rfl⟩:=hu
       have key : ∀ b,a.isNone=b -> ∀ (j:Nat) (c:AV) (v:Value),(AV.con (.bool b)::vs')[j]? = some c->(Value.slice a 0 cap::us)[j]? = some v->CA w.heap.size S ⟨fun _ _=>none,AH.emp,w⟩ c v:=fun b hb j c v hc hv=>by
        cases j with
        | zero =>
         obtain rfl:=Option.some.inj hc
         obtain rfl:=Option.some.inj hv
         exact .one (.rd (.emp b a cap hb))
        | succ j=>exact hca (j+1) c v hc hv
       cases hb:a.isNone with
       | true=>exact cH hP ih h1 S w _ (by simpa using hl) (key true hb)
       | false=>exact cH hP ih h2 S w _ (by simpa using hl) (key false hb)
     ·cases h
    ·cases h
   ·exact cH hP ih h S w us hl hca
end
end Go.Eng
namespace Go.Eng
theorem progOK_of {P : Program} {num : Nat → Nat} (l : List (Nat × AFn)) (h : ∀ p ∈ l, ∃ fn, P.funcs[num p.1]? = some fn ∧ okFn P num fn p.2 = true ∧ (fn.name == "runtime.NumGoroutine") = false) : ProgOK P num ⟨fun f => l.lookup f, num⟩ := by
 refine ⟨?_,rfl⟩
 intro f fa hf
 have hm:(f,fa)∈l:=by
  clear h
  change l.lookup f=some fa at hf
  induction l with
  | nil=>simp at hf
  | cons x r ih =>
   obtain ⟨k,v⟩:=x
   rw[List.lookup_cons]at hf
   cases hk:(f == k) with
   | true =>
    rw[hk]at hf
    have:f=k:=by simpa using hk
    subst this
    simp at hf
    simp [hf]
   | false =>
    rw[hk]at hf
    exact List.mem_cons_of_mem _ (ih hf)
 exact h (f,fa) hm
end Go.Eng

namespace Go.Eng.F
open C
structure FixedLib (L:Lib):Prop where
end Go.Eng.F

namespace Go.Eng.F
open C
namespace JA
def r0:List AI:=[o 2 (.mov (.c (.bool false)))]
def r1:List AI:=[m 3 0,m 4 0,o 5 (.bin .neq 3 4),m 2 5]
def c:AL:=(.seq (.dr (.ops r0 false) [2] []) (.seq (.dr (.ops r1 false) [0,3,4,5] []) .ret))
end JA
def JA:AFn:=⟨1,JA.c,[.tmp 2],false⟩
namespace JB
def r0:List AI:=[o 2 (.mov (.c (.bool false)))]
def r1:List AI:=[m 3 0,m 4 0,o 5 (.bin .neq 3 4),m 2 5]
def c:AL:=(.seq (.dr (.ops r0 false) [2] []) (.seq (.dr (.ops r1 false) [0,3,4,5] []) .ret))
end JB
def JB:AFn:=⟨1,JB.c,[.tmp 2],false⟩
namespace I8
def r0:List AI:=[o 4 (.mov (k 0))]
def r1:List AI:=[m 7 0,o 8 (.call 58 [7]),m 5 8]
def r2:List AI:=[m 9 1,o 10 (.call 58 [9]),m 6 10]
def r3:List AI:=[m 11 5]
def r4:List AI:=[m 12 6]
def r5:List AI:=[o 4 (.mov (k 0))]
def r6:List AI:=[o 4 (.mov (k (-1)))]
def r7:List AI:=[m 13 6]
def r8:List AI:=[o 4 (.mov (k 1))]
def r9:List AI:=[m 14 0,m 15 1,o 16 (.bin .lss 14 15)]
def CH:List AI:=[o 4 (.mov (k (-1)))]
def CM:List AI:=[m 17 0,m 18 1,o 19 (.bin .gtr 17 18)]
def r12:List AI:=[o 4 (.mov (k 1))]
def C1:List AI:=[o 4 (.mov (k 0))]
def c:AL:=(.seq (.dr (.ops r0 false) [4] []) (.seq (.dr (.ops r1 false) [7,8] []) (.seq (.dr (.ops r2 false) [9,10] []) (.seq (.seq (.dr (.ops r3 false) [5] []) (.cond 11 (.seq (.seq (.dr (.ops r4 false) [0,1,6,11] []) (.cond 12 (.seq (.dr (.ops r5 false) [12] []) .ret) .skip)) (.seq (.dr (.ops r6 false) [12] []) .ret)) .skip)) (.seq (.seq (.dr (.ops r7 false) [6,11] []) (.cond 13 (.seq (.dr (.ops r8 false) [0,1,13] []) .ret) .skip)) (.seq (.seq (.dr (.ops r9 false) [13,14,15] []) (.cond 16 (.seq (.dr (.ops CH false) [0,1,16] []) .ret) .skip)) (.seq (.seq (.dr (.ops CM false) [0,1,16,17,18] []) (.cond 19 (.seq (.dr (.ops r12 false) [19] []) .ret) .skip)) (.seq (.dr (.ops C1 false) [19] []) .ret))))))))
end I8
def I8:AFn:=⟨2,I8.c,[.tmp 4],false⟩
namespace I9
def r0:List AI:=[o 4 (.mov (k 0))]
def r1:List AI:=[m 7 0,o 8 (.call 59 [7]),m 5 8]
def r2:List AI:=[m 9 1,o 10 (.call 59 [9]),m 6 10]
def r3:List AI:=[m 11 5]
def r4:List AI:=[m 12 6]
def r5:List AI:=[o 4 (.mov (k 0))]
def r6:List AI:=[o 4 (.mov (k (-1)))]
def r7:List AI:=[m 13 6]
def r8:List AI:=[o 4 (.mov (k 1))]
def r9:List AI:=[m 14 0,m 15 1,o 16 (.bin .lss 14 15)]
def CH:List AI:=[o 4 (.mov (k (-1)))]
def CM:List AI:=[m 17 0,m 18 1,o 19 (.bin .gtr 17 18)]
def r12:List AI:=[o 4 (.mov (k 1))]
def C1:List AI:=[o 4 (.mov (k 0))]
def c:AL:=(.seq (.dr (.ops r0 false) [4] []) (.seq (.dr (.ops r1 false) [7,8] []) (.seq (.dr (.ops r2 false) [9,10] []) (.seq (.seq (.dr (.ops r3 false) [5] []) (.cond 11 (.seq (.seq (.dr (.ops r4 false) [0,1,6,11] []) (.cond 12 (.seq (.dr (.ops r5 false) [12] []) .ret) .skip)) (.seq (.dr (.ops r6 false) [12] []) .ret)) .skip)) (.seq (.seq (.dr (.ops r7 false) [6,11] []) (.cond 13 (.seq (.dr (.ops r8 false) [0,1,13] []) .ret) .skip)) (.seq (.seq (.dr (.ops r9 false) [13,14,15] []) (.cond 16 (.seq (.dr (.ops CH false) [0,1,16] []) .ret) .skip)) (.seq (.seq (.dr (.ops CM false) [0,1,16,17,18] []) (.cond 19 (.seq (.dr (.ops r12 false) [19] []) .ret) .skip)) (.seq (.dr (.ops C1 false) [19] []) .ret))))))))
end I9
def I9:AFn:=⟨2,I9.c,[.tmp 4],false⟩
namespace GO
def r0:List AI:=[o 2 (.mov (.c .nil))]
def r1:List AI:=[m 3 0,o 4 (.isn false 3)]
def r2:List AI:=[o 2 (.mov (.c .nil))]
def r3:List AI:=[o 5 (.bslice 5 1 []),m 6 0,o 7 (.app 7 1 4 5 6),m 2 7]
def c:AL:=(.seq (.dr (.ops r0 false) [2] []) (.seq (.seq (.dr (.ops r1 false) [3] []) (.cond 4 (.seq (.dr (.ops r2 false) [0,4] []) .ret) .skip)) (.seq (.dr (.ops r3 false) [0,4,5,6,7] []) .ret)))
end GO
def GO:AFn:=⟨1,GO.c,[.tmp 2],true⟩
namespace JO
def r0:List AI:=[o 2 (.mov (k 0))]
def r1:List AI:=[m 3 0,o 4 (.bin .geq 3 (.c (.int .u32 (65536))))]
def r2:List AI:=[m 5 0,o 6 (.bin .shr 5 (.c (.int .u64 (16)))),m 0 6]
def r3:List AI:=[o 2 (.mov (k 16))]
def r4:List AI:=[m 7 0,o 8 (.bin .geq 7 (.c (.int .u32 (256))))]
def r5:List AI:=[m 9 0,o 10 (.bin .shr 9 (.c (.int .u64 (8)))),m 0 10]
def r6:List AI:=[m 11 2,o 12 (.bin .add 11 (k 8)),m 2 12]
def r7:List AI:=[m 13 2,m 14 0,o 15 (.conv .u8 14),
 o 16 (.sidx (List.replicate 1 0++List.replicate 1 1++List.replicate 2 2++List.replicate 4 3++List.replicate 8 4++List.replicate 16 5++List.replicate 32 6++List.replicate 64 7++List.replicate 128 8) 15),
 o 17 (.conv .i64 16),o 18 (.bin .add 13 17),m 2 18]
def c:AL:=(.seq (.ops r0 false) (.seq (.seq (.dr (.ops r1 false) [3] []) (.cond 4 (.seq (.dr (.ops r2 false) [2,4,5,6] []) (.ops r3 false)) .skip)) (.seq (.seq (.dr (.ops r4 false) [4,7] []) (.cond 8 (.seq (.dr (.ops r5 false) [8,9,10] []) (.dr (.ops r6 false) [11,12] [])) .skip)) (.seq (.dr (.ops r7 false) [0,8,13,14,15,16,17,18] []) .ret))))
end JO
def JO:AFn:=⟨1,JO.c,[.tmp 2],false⟩
namespace JN
def r0:List AI:=[o 2 (.mov (k 0))]
def r1:List AI:=[m 3 0,o 4 (.call 63 [3]),o 5 (.bin .sub (k 32) 4),m 2 5]
def c:AL:=(.seq (.dr (.ops r0 false) [2] []) (.seq (.dr (.ops r1 false) [0,3,4,5] []) .ret))
end JN
def JN:AFn:=⟨1,JN.c,[.tmp 2],false⟩
namespace E4
def r0:List AI:=[o 2 (.mov (.c .nil))]
def r1:List AI:=[m 4 0,o 5 (.len 4),m 3 5]
def r2:List AI:=[m 6 3,o 7 (.bin .gtr 6 (k 0)),m 8 7,g 9 8 true (.mov 0),g 10 8 true (.mov 3),g 11 8 true (.bin .sub 10 (k 1)),g 12 8 true (.iadr none 1 9 11),
 g 13 8 true (.ld false 1 12),g 14 8 true (.bin .eql 13 (.c (.int .u32 (0)))),o 15 (.pick 8 14 (.c (.bool false)))]
def r3:List AI:=[m 16 3,o 17 (.bin .sub 16 (k 1)),m 3 17]
def r4:List AI:=[m 18 0,m 19 3,o 20 (.slc 1 18 none (some 19)),m 2 20]
def l1:AL:=(.seq (.seq (.dr (.ops r2 false) [6,7,8,9,10,11,12,13,14] []) (.cond 15 .skip (.exit 0))) (.block 1 (.dr (.ops r3 false) [15,16,17] [])))
def c:AL:=(.seq (.dr (.ops r0 false) [2] []) (.seq (.dr (.ops r1 false) [4,5] []) (.seq (.block 0 (.loop l1)) (.seq (.dr (.ops r4 false) [0,3,15,18,19,20] []) .ret))))
end E4
def E4:AFn:=⟨1,E4.c,[.tmp 2],false⟩
namespace JU
def r0:List AI:=[o 2 (.mov (.c .nil))]
def r1:List AI:=[m 3 0,o 4 (.calli 65 [3]),o 5 (.call 62 [4]),m 2 5]
def c:AL:=(.seq (.dr (.ops r0 false) [2] []) (.seq (.dr (.ops r1 false) [0,3,4,5] []) .ret))
end JU
def JU:AFn:=⟨1,JU.c,[.tmp 2],false⟩
namespace JQ
def r0:List AI:=[o 4 (.mov (k 0))]
def r1:List AI:=[m 8 0,o 9 (.calli 65 [8]),m 10 1,o 11 (.calli 65 [10]),m 5 9,m 6 11]
def r2:List AI:=[m 12 5,o 13 (.len 12),m 14 6,o 15 (.len 14),o 16 (.bin .neq 13 15)]
def r3:List AI:=[m 17 5,o 18 (.len 17),m 19 6,o 20 (.len 19),o 21 (.call 60 [18,20]),m 4 21]
def r4:List AI:=[m 22 5,o 23 (.len 22),o 24 (.bin .sub 23 (k 1)),m 7 24]
def r5:List AI:=[m 25 7,o 26 (.bin .geq 25 (k 0))]
def r7:List AI:=[m 29 5,m 30 7,o 31 (.iadr none 1 29 30),o 32 (.ld false 1 31),m 33 6,m 34 7,o 35 (.iadr none 1 33 34),o 36 (.ld false 1 35),o 37 (.bin .neq 32 36)]
def r8:List AI:=[m 38 5,m 39 7,o 40 (.iadr none 1 38 39),o 41 (.ld false 1 40),m 42 6,m 43 7,o 44 (.iadr none 1 42 43),o 45 (.ld false 1 44),o 46 (.call 61 [41,45]),
 m 4 46]
def r6:List AI:=[m 27 7,o 28 (.bin .sub 27 (k 1)),m 7 28]
def r9:List AI:=[o 4 (.mov (k 0))]
def l1:AL:=(.seq (.seq (.dr (.ops r5 false) [25] []) (.cond 26 .skip (.exit 0))) (.seq (.block 1 (.seq (.dr (.ops r7 true) [26,29,30,31,32,33,34,35,36] []) (.cond 37 (.seq (.dr (.ops r8 true) [5,6,7,37,38,39,40,41,42,43,44,45,46] []) .ret) .skip))) (.dr (.ops r6 false) [27,28,37] [])))
def c:AL:=(.seq (.dr (.ops r0 false) [4] []) (.seq (.dr (.ops r1 false) [0,1,8,9,10,11] []) (.seq (.seq (.dr (.ops r2 false) [12,13,14,15] []) (.cond 16 (.seq (.dr (.ops r3 false) [5,6,16,17,18,19,20,21] []) .ret) .skip)) (.seq (.seq (.dr (.ops r4 false) [16,22,23,24] []) (.block 0 (.loop l1))) (.seq (.dr (.ops r9 false) [5,6,7,26] []) .ret)))))
end JQ
def JQ:AFn:=⟨2,JQ.c,[.tmp 4],false⟩
namespace JP
def r0:List AI:=[o 4 (.mov (.c .nil))]
def r1:List AI:=[m 12 0,o 13 (.calli 65 [12]),m 14 1,o 15 (.calli 65 [14]),m 5 13,m 6 15]
def r2:List AI:=[m 16 5,o 17 (.len 16),m 18 6,o 19 (.len 18),o 20 (.bin .lss 17 19)]
def r3:List AI:=[m 21 6,m 22 5,m 5 21,m 6 22]
def r4:List AI:=[m 23 5,o 24 (.len 23),o 25 (.bin .add 24 (k 1)),o 26 (.mk 26 1 4 [(.int .u32 (0))] 25 25),m 7 26]
def r5:List AI:=[o 8 (.mov (.c (.int .u64 (0))))]
def r6:List AI:=[m 27 5,o 28 (.len 27),o 29 (.mov (k 0))]
def r7:List AI:=[o 30 (.bin .lss 29 28)]
def r8:List AI:=[m 31 29,o 32 (.iadr none 1 27 29),o 33 (.ld false 1 32),m 9 31,m 10 33]
def r9:List AI:=[m 34 10,o 35 (.conv .u64 34),m 36 8,o 37 (.bin .add 35 36),m 11 37]
def CH:List AI:=[m 38 9,m 39 6,o 40 (.len 39),o 41 (.bin .lss 38 40)]
def CM:List AI:=[m 42 11,m 43 6,m 44 9,o 45 (.iadr none 1 43 44),o 46 (.ld false 1 45),o 47 (.conv .u64 46),o 48 (.bin .add 42 47),m 11 48]
def r12:List AI:=[m 49 7,m 50 9,m 51 11,o 52 (.conv .u32 51),o 53 (.iadr none 1 49 50),n (.st 1 53 52)]
def C1:List AI:=[m 54 11,o 55 (.bin .shr 54 (.c (.int .u64 (32)))),m 8 55]
def r14:List AI:=[o 56 (.bin .add 29 (k 1)),m 29 56]
def r15:List AI:=[m 57 7,m 58 5,o 59 (.len 58),m 60 8,o 61 (.conv .u32 60),o 62 (.iadr none 1 57 59),n (.st 1 62 61)]
def r16:List AI:=[m 63 7,o 64 (.calli 65 [63]),m 4 64]
def l1:AL:=(.seq (.ops r7 false) (.seq (.cond 30 .skip (.exit 0)) (.seq (.block 1 (.seq (.dr (.ops r8 false) [30,31,32,33] []) (.seq (.dr (.ops r9 false) [8,10,34,35,36,37] []) (.seq (.seq (.dr (.ops CH false) [38,39,40] []) (.cond 41 (.dr (.ops CM false) [41,42,43,44,45,46,47,48] []) .skip)) (.seq (.dr (.ops r12 false) [9,41,49,50,51,52,53] []) (.dr (.ops C1 false) [11,54,55] [])))))) (.dr (.ops r14 false) [56] []))))
def c:AL:=(.seq (.dr (.ops r0 false) [4] []) (.seq (.dr (.ops r1 false) [0,1,12,13,14,15] []) (.seq (.seq (.dr (.ops r2 false) [16,17,18,19] []) (.cond 20 (.dr (.ops r3 false) [20,21,22] []) .skip)) (.seq (.dr (.ops r4 false) [20,23,24,25,26] []) (.seq (.ops r5 false) (.seq (.seq (.ops r6 false) (.block 0 (.loop l1))) (.seq (.dr (.ops r15 false) [5,6,8,27,28,29,30,57,58,59,60,61,62] []) (.seq (.dr (.ops r16 false) [7,63,64] []) .ret))))))))
end JP
def JP:AFn:=⟨2,JP.c,[.tmp 4],false⟩
namespace JT
def r0:List AI:=[o 4 (.mov (.c .nil))]
def r1:List AI:=[m 12 0,m 13 1,o 14 (.call 67 [12,13]),o 15 (.bin .leq 14 (k 0))]
def r2:List AI:=[o 4 (.mov (.c .nil))]
def r3:List AI:=[m 16 0,o 17 (.calli 65 [16]),m 18 1,o 19 (.calli 65 [18]),m 5 17,m 6 19]
def r4:List AI:=[m 20 5,o 21 (.len 20),o 22 (.mk 22 1 4 [(.int .u32 (0))] 21 21),m 7 22]
def r5:List AI:=[o 8 (.mov (.c (.int .u64 (0))))]
def r6:List AI:=[m 23 5,o 24 (.len 23),o 25 (.mov (k 0))]
def r7:List AI:=[o 26 (.bin .lss 25 24)]
def r8:List AI:=[m 27 25,o 28 (.iadr none 1 23 25),o 29 (.ld false 1 28),m 9 27,m 10 29]
def r9:List AI:=[m 30 10,o 31 (.conv .u64 30),m 32 8,o 33 (.bin .sub 31 32),m 11 33]
def CH:List AI:=[m 34 9,m 35 6,o 36 (.len 35),o 37 (.bin .lss 34 36)]
def CM:List AI:=[m 38 11,m 39 6,m 40 9,o 41 (.iadr none 1 39 40),o 42 (.ld false 1 41),o 43 (.conv .u64 42),o 44 (.bin .sub 38 43),m 11 44]
def r12:List AI:=[m 45 7,m 46 9,m 47 11,o 48 (.conv .u32 47),o 49 (.iadr none 1 45 46),n (.st 1 49 48)]
def C1:List AI:=[m 50 11,o 51 (.bin .shr 50 (.c (.int .u64 (63)))),m 8 51]
def r14:List AI:=[o 52 (.bin .add 25 (k 1)),m 25 52]
def r15:List AI:=[m 53 7,o 54 (.calli 65 [53]),m 4 54]
def l1:AL:=(.seq (.ops r7 false) (.seq (.cond 26 .skip (.exit 0)) (.seq (.block 1 (.seq (.dr (.ops r8 false) [26,27,28,29] []) (.seq (.dr (.ops r9 false) [8,10,30,31,32,33] []) (.seq (.seq (.dr (.ops CH false) [34,35,36] []) (.cond 37 (.dr (.ops CM false) [37,38,39,40,41,42,43,44] []) .skip)) (.seq (.dr (.ops r12 false) [9,37,45,46,47,48,49] []) (.dr (.ops C1 false) [11,50,51] [])))))) (.dr (.ops r14 false) [52] []))))
def c:AL:=(.seq (.dr (.ops r0 false) [4] []) (.seq (.seq (.dr (.ops r1 false) [12,13,14] []) (.cond 15 (.seq (.dr (.ops r2 false) [0,1,15] []) .ret) .skip)) (.seq (.dr (.ops r3 false) [0,1,15,16,17,18,19] []) (.seq (.dr (.ops r4 false) [20,21,22] []) (.seq (.ops r5 false) (.seq (.seq (.dr (.ops r6 false) [5] []) (.block 0 (.loop l1))) (.seq (.dr (.ops r15 false) [6,7,8,23,24,25,26,53,54] []) .ret)))))))
end JT
def JT:AFn:=⟨2,JT.c,[.tmp 4],false⟩
namespace JS
def r0:List AI:=[o 4 (.mov (.c .nil))]
def r1:List AI:=[m 14 0,o 15 (.calli 65 [14]),m 16 1,o 17 (.calli 65 [16]),m 5 15,m 6 17]
def r2:List AI:=[m 18 5,o 19 (.len 18),o 20 (.bin .eql 19 (k 0)),m 21 20,g 22 21 false (.mov 6),g 23 21 false (.len 22),g 24 21 false (.bin .eql 23 (k 0)),
 o 25 (.pick 21 (.c (.bool true)) 24)]
def r3:List AI:=[o 4 (.mov (.c .nil))]
def r4:List AI:=[m 26 5,o 27 (.len 26),m 28 6,o 29 (.len 28),o 30 (.bin .add 27 29),o 31 (.mk 31 1 4 [(.int .u32 (0))] 30 30),m 7 31]
def r5:List AI:=[m 32 5,o 33 (.len 32),o 34 (.mov (k 0))]
def r6:List AI:=[o 35 (.bin .lss 34 33)]
def r7:List AI:=[m 36 34,o 37 (.iadr none 1 32 34),o 38 (.ld false 1 37),m 8 36,m 9 38]
def r8:List AI:=[m 39 9,o 40 (.bin .eql 39 (.c (.int .u32 (0))))]
def r9:List AI:=[o 10 (.mov (.c (.int .u64 (0))))]
def CH:List AI:=[m 41 6,o 42 (.len 41),o 43 (.mov (k 0))]
def CM:List AI:=[o 44 (.bin .lss 43 42)]
def r12:List AI:=[m 45 43,o 46 (.iadr none 1 41 43),o 47 (.ld false 1 46),m 11 45,m 12 47]
def C1:List AI:=[m 48 9,o 49 (.conv .u64 48),m 50 12,o 51 (.conv .u64 50),o 52 (.bin .mul 49 51),m 53 7,m 54 8,m 55 11,o 56 (.bin .add 54 55),o 57 (.iadr none 1 53 56),
 o 58 (.ld false 1 57),o 59 (.conv .u64 58),o 60 (.bin .add 52 59),m 61 10,o 62 (.bin .add 60 61),m 13 62]
def r14:List AI:=[m 63 7,m 64 8,m 65 11,o 66 (.bin .add 64 65),m 67 13,o 68 (.conv .u32 67),o 69 (.iadr none 1 63 66),n (.st 1 69 68)]
def r15:List AI:=[m 70 13,o 71 (.bin .shr 70 (.c (.int .u64 (32)))),m 10 71]
def r16:List AI:=[o 72 (.bin .add 43 (k 1)),m 43 72]
def EU:List AI:=[m 73 7,m 74 8,m 75 6,o 76 (.len 75),o 77 (.bin .add 74 76),m 78 10,o 79 (.conv .u32 78),o 80 (.iadr none 1 73 77),n (.st 1 80 79)]
def r18:List AI:=[o 81 (.bin .add 34 (k 1)),m 34 81]
def r19:List AI:=[m 82 7,o 83 (.calli 65 [82]),m 4 83]
def l2:AL:=(.seq (.ops CM false) (.seq (.cond 44 .skip (.exit 2)) (.seq (.block 3 (.seq (.dr (.ops r12 false) [44,45,46,47] []) (.seq (.dr (.ops C1 false) [10,12,48,49,50,51,52,53,54,55,56,57,58,59,60,61,62] []) (.seq (.dr (.ops r14 false) [11,63,64,65,66,67,68,69] []) (.dr (.ops r15 false) [13,70,71] []))))) (.dr (.ops r16 false) [72] []))))
def l1:AL:=(.seq (.ops r6 false) (.seq (.cond 35 .skip (.exit 0)) (.seq (.block 1 (.seq (.dr (.ops r7 false) [35,36,37,38] []) (.seq (.seq (.dr (.ops r8 false) [39] []) (.cond 40 (.exit 1) .skip)) (.seq (.dr (.ops r9 false) [40] []) (.seq (.seq (.ops CH false) (.block 2 (.loop l2))) (.dr (.ops EU false) [8,9,10,41,42,43,44,73,74,75,76,77,78,79,80] [])))))) (.dr (.ops r18 false) [8,9,40,81] []))))
def c:AL:=(.seq (.dr (.ops r0 false) [4] []) (.seq (.dr (.ops r1 false) [0,1,14,15,16,17] []) (.seq (.seq (.dr (.ops r2 false) [18,19,20,21,22,23,24] []) (.cond 25 (.seq (.dr (.ops r3 false) [5,6,25] []) .ret) .skip)) (.seq (.dr (.ops r4 false) [25,26,27,28,29,30,31] []) (.seq (.seq (.dr (.ops r5 false) [5] []) (.block 0 (.loop l1))) (.seq (.dr (.ops r19 false) [6,7,32,33,34,35,82,83] []) .ret))))))
end JS
def JS:AFn:=⟨2,JS.c,[.tmp 4],false⟩
namespace H1
def r0:List AI:=[o 6 (.mov (.c .nil))]
def r1:List AI:=[m 11 2,o 12 (.mk 71012 1 4 [(.int .u32 (0))] 11 11),m 7 12]
def r2:List AI:=[o 8 (.mov (.c (.int .u32 (0))))]
def r3:List AI:=[m 13 0,o 14 (.len 13),o 15 (.mov (k 0))]
def r4:List AI:=[o 16 (.bin .lss 15 14)]
def r5:List AI:=[m 17 15,o 18 (.iadr none 1 13 15),o 19 (.ld false 1 18),m 9 17,m 10 19]
def r6:List AI:=[m 20 7,m 21 9,m 22 10,m 23 1,o 24 (.bin .shl 22 23),m 25 8,o 26 (.bin .or 24 25),o 27 (.iadr none 1 20 21),n (.st 1 27 26)]
def r7:List AI:=[m 28 10,o 29 (.conv .u64 28),m 30 1,o 31 (.bin .shl 29 30),o 32 (.bin .shr 31 (.c (.int .u64 (32)))),o 33 (.conv .u32 32),m 8 33]
def r8:List AI:=[o 34 (.bin .add 15 (k 1)),m 15 34]
def r9:List AI:=[m 35 2,m 36 0,o 37 (.len 36),o 38 (.bin .gtr 35 37)]
def CH:List AI:=[m 39 7,m 40 0,o 41 (.len 40),m 42 8,o 43 (.iadr none 1 39 41),n (.st 1 43 42)]
def CM:List AI:=[m 44 7,m 6 44]
def l1:AL:=(.seq (.ops r4 false) (.seq (.cond 16 .skip (.exit 0)) (.seq (.block 1 (.seq (.dr (.ops r5 false) [16,17,18,19] []) (.seq (.dr (.ops r6 false) [8,9,20,21,22,23,24,25,26,27] []) (.dr (.ops r7 false) [10,28,29,30,31,32,33] [])))) (.dr (.ops r8 false) [34] []))))
def c:AL:=(.seq (.dr (.ops r0 false) [6] []) (.seq (.dr (.ops r1 false) [11,12] []) (.seq (.ops r2 false) (.seq (.seq (.ops r3 false) (.block 0 (.loop l1))) (.seq (.seq (.dr (.ops r9 false) [1,2,13,14,15,16,35,36,37] []) (.cond 38 (.dr (.ops CH false) [0,8,38,39,40,41,42,43] []) .skip)) (.seq (.dr (.ops CM false) [0,7,8,38,44] []) .ret))))))
end H1
def H1:AFn:=⟨3,H1.c,[.tmp 6],false⟩
namespace JZ
def r0:List AI:=[o 4 (.mov (.c .nil))]
def r1:List AI:=[m 8 0,o 9 (.len 8),o 10 (.mk 10 1 4 [(.int .u32 (0))] 9 9),m 5 10]
def r2:List AI:=[o 6 (.mov (.c (.int .u32 (0))))]
def r3:List AI:=[m 11 0,o 12 (.len 11),o 13 (.bin .sub 12 (k 1)),m 7 13]
def r4:List AI:=[m 14 7,o 15 (.bin .geq 14 (k 0))]
def r6:List AI:=[m 18 5,m 19 7,m 20 0,m 21 7,o 22 (.iadr none 1 20 21),o 23 (.ld false 1 22),m 24 1,o 25 (.bin .shr 23 24),m 26 6,o 27 (.bin .or 25 26),
 o 28 (.iadr none 1 18 19),n (.st 1 28 27)]
def r7:List AI:=[m 29 0,m 30 7,o 31 (.iadr none 1 29 30),o 32 (.ld false 1 31),o 33 (.conv .u64 32),m 34 1,o 35 (.bin .sub (.c (.int .u64 (32))) 34),
 o 36 (.bin .shl 33 35),o 37 (.conv .u32 36),m 6 37]
def r5:List AI:=[m 16 7,o 17 (.bin .sub 16 (k 1)),m 7 17]
def r8:List AI:=[m 38 5,m 4 38]
def l1:AL:=(.seq (.seq (.dr (.ops r4 false) [14] []) (.cond 15 .skip (.exit 0))) (.seq (.block 1 (.seq (.dr (.ops r6 false) [6,15,18,19,20,21,22,23,24,25,26,27,28] []) (.dr (.ops r7 false) [29,30,31,32,33,34,35,36,37] []))) (.dr (.ops r5 false) [16,17] [])))
def c:AL:=(.seq (.dr (.ops r0 false) [4] []) (.seq (.dr (.ops r1 false) [8,9,10] []) (.seq (.ops r2 false) (.seq (.seq (.dr (.ops r3 false) [11,12,13] []) (.block 0 (.loop l1))) (.seq (.dr (.ops r8 false) [0,1,5,6,7,15,38] []) .ret)))))
end JZ
def JZ:AFn:=⟨2,JZ.c,[.tmp 4],false⟩
namespace FB
def r0:List AI:=[o 4 (.mov (.c (.int .u32 (0))))]
def r1:List AI:=[m 19 1,o 20 (.len 19),m 5 20]
def r2:List AI:=[m 21 0,m 22 5,o 23 (.iadr none 1 21 22),o 24 (.ld false 1 23),o 25 (.conv .u64 24),o 26 (.bin .shl 25 (.c (.int .u64 (32)))),m 27 0,m 28 5,
 o 29 (.bin .sub 28 (k 1)),o 30 (.iadr none 1 27 29),o 31 (.ld false 1 30),o 32 (.conv .u64 31),o 33 (.bin .or 26 32),m 6 33]
def r3:List AI:=[m 34 6,m 35 1,m 36 5,o 37 (.bin .sub 36 (k 1)),o 38 (.iadr none 1 35 37),o 39 (.ld false 1 38),o 40 (.conv .u64 39),o 41 (.bin .quo 34 40),m 42 6,
 m 43 1,m 44 5,o 45 (.bin .sub 44 (k 1)),o 46 (.iadr none 1 43 45),o 47 (.ld false 1 46),o 48 (.conv .u64 47),o 49 (.bin .rem 42 48),m 7 41,m 8 49]
def r4:List AI:=[m 50 7,o 51 (.bin .geq 50 (.c (.int .u64 (4294967296)))),m 52 51,g 53 52 false (.mov 7),g 54 52 false (.mov 1),g 55 52 false (.mov 5),
 g 56 52 false (.bin .sub 55 (k 2)),g 57 52 false (.iadr none 1 54 56),g 58 52 false (.ld false 1 57),g 59 52 false (.conv .u64 58),
 g 60 52 false (.bin .mul 53 59),g 61 52 false (.mov 8),g 62 52 false (.bin .shl 61 (.c (.int .u64 (32)))),g 63 52 false (.mov 0),g 64 52 false (.mov 5),
 g 65 52 false (.bin .sub 64 (k 2)),g 66 52 false (.iadr none 1 63 65),g 67 52 false (.ld false 1 66),g 68 52 false (.conv .u64 67),
 g 69 52 false (.bin .or 62 68),g 70 52 false (.bin .gtr 60 69),o 71 (.pick 52 (.c (.bool true)) 70)]
def r5:List AI:=[m 72 7,o 73 (.bin .sub 72 (.c (.int .u64 (1)))),m 7 73]
def r6:List AI:=[m 74 8,m 75 1,m 76 5,o 77 (.bin .sub 76 (k 1)),o 78 (.iadr none 1 75 77),o 79 (.ld false 1 78),o 80 (.conv .u64 79),o 81 (.bin .add 74 80),m 8 81]
def r7:List AI:=[m 82 8,o 83 (.bin .geq 82 (.c (.int .u64 (4294967296))))]
def r8:List AI:=[o 9 (.mov (.c (.int .u64 (0)))),o 10 (.mov (.c (.int .u64 (0))))]
def r9:List AI:=[m 84 1,o 85 (.len 84),o 86 (.mov (k 0))]
def CH:List AI:=[o 87 (.bin .lss 86 85)]
def CM:List AI:=[m 88 86,o 89 (.iadr none 1 84 86),o 90 (.ld false 1 89),m 11 88,m 12 90]
def r12:List AI:=[m 91 7,m 92 12,o 93 (.conv .u64 92),o 94 (.bin .mul 91 93),m 95 9,o 96 (.bin .add 94 95),m 13 96]
def C1:List AI:=[m 97 13,o 98 (.bin .shr 97 (.c (.int .u64 (32)))),m 9 98]
def r14:List AI:=[m 99 0,m 100 11,o 101 (.iadr none 1 99 100),o 102 (.ld false 1 101),o 103 (.conv .u64 102),m 104 13,o 105 (.conv .u32 104),o 106 (.conv .u64 105),
 o 107 (.bin .sub 103 106),m 108 10,o 109 (.bin .sub 107 108),m 14 109]
def r15:List AI:=[m 110 0,m 111 11,m 112 14,o 113 (.conv .u32 112),o 114 (.iadr none 1 110 111),n (.st 1 114 113)]
def r16:List AI:=[m 115 14,o 116 (.bin .shr 115 (.c (.int .u64 (63)))),m 10 116]
def EU:List AI:=[o 117 (.bin .add 86 (k 1)),m 86 117]
def r18:List AI:=[m 118 0,m 119 5,o 120 (.iadr none 1 118 119),o 121 (.ld false 1 120),o 122 (.conv .u64 121),m 123 9,o 124 (.bin .sub 122 123),m 125 10,
 o 126 (.bin .sub 124 125),m 15 126]
def r19:List AI:=[m 127 0,m 128 5,m 129 15,o 130 (.conv .u32 129),o 131 (.iadr none 1 127 128),n (.st 1 131 130)]
def r20:List AI:=[m 132 15,o 133 (.bin .shr 132 (.c (.int .u64 (63)))),o 134 (.bin .eql 133 (.c (.int .u64 (0))))]
def r21:List AI:=[m 135 7,o 136 (.conv .u32 135),m 4 136]
def r22:List AI:=[o 9 (.mov (.c (.int .u64 (0))))]
def r23:List AI:=[m 137 1,o 138 (.len 137),o 139 (.mov (k 0))]
def KI:List AI:=[o 140 (.bin .lss 139 138)]
def NE:List AI:=[m 141 139,o 142 (.iadr none 1 137 139),o 143 (.ld false 1 142),m 16 141,m 17 143]
def OS:List AI:=[m 144 0,m 145 16,o 146 (.iadr none 1 144 145),o 147 (.ld false 1 146),o 148 (.conv .u64 147),m 149 17,o 150 (.conv .u64 149),o 151 (.bin .add 148 150),
 m 152 9,o 153 (.bin .add 151 152),m 18 153]
def QX:List AI:=[m 154 0,m 155 16,m 156 18,o 157 (.conv .u32 156),o 158 (.iadr none 1 154 155),n (.st 1 158 157)]
def QY:List AI:=[m 159 18,o 160 (.bin .shr 159 (.c (.int .u64 (32)))),m 9 160]
def QZ:List AI:=[o 161 (.bin .add 139 (k 1)),m 139 161]
def r30:List AI:=[m 162 0,m 163 5,o 164 (.iadr none 1 162 163),o 165 (.ld false 1 164),m 166 9,o 167 (.conv .u32 166),o 168 (.bin .add 165 167),
 o 169 (.iadr none 1 162 163),n (.st 1 169 168)]
def r31:List AI:=[m 170 7,o 171 (.bin .sub 170 (.c (.int .u64 (1)))),o 172 (.conv .u32 171),m 4 172]
def l1:AL:=(.seq (.seq (.dr (.ops r4 true) [50,51,52,53,54,55,56,57,58,59,60,61,62,63,64,65,66,67,68,69,70,83] []) (.cond 71 .skip (.exit 0))) (.block 1 (.seq (.dr (.ops r5 false) [71,72,73] []) (.seq (.dr (.ops r6 false) [74,75,76,77,78,79,80,81] []) (.seq (.dr (.ops r7 false) [82] []) (.cond 83 (.exit 0) .skip))))))
def l2:AL:=(.seq (.ops CH false) (.seq (.cond 87 .skip (.exit 2)) (.seq (.block 3 (.seq (.dr (.ops CM false) [87,88,89,90] []) (.seq (.dr (.ops r12 false) [9,12,91,92,93,94,95,96] []) (.seq (.dr (.ops C1 false) [97,98] []) (.seq (.dr (.ops r14 false) [10,13,99,100,101,102,103,104,105,106,107,108,109] []) (.seq (.dr (.ops r15 false) [11,110,111,112,113,114] []) (.dr (.ops r16 false) [14,115,116] []))))))) (.dr (.ops EU false) [117] []))))
def l3:AL:=(.seq (.ops KI false) (.seq (.cond 140 .skip (.exit 4)) (.seq (.block 5 (.seq (.dr (.ops NE false) [140,141,142,143] []) (.seq (.dr (.ops OS false) [9,17,144,145,146,147,148,149,150,151,152,153] []) (.seq (.dr (.ops QX false) [16,154,155,156,157,158] []) (.dr (.ops QY false) [18,159,160] []))))) (.dr (.ops QZ false) [161] []))))
def c:AL:=(.seq (.dr (.ops r0 false) [4] []) (.seq (.dr (.ops r1 false) [19,20] []) (.seq (.dr (.ops r2 true) [21,22,23,24,25,26,27,28,29,30,31,32,33] []) (.seq (.dr (.ops r3 true) [6,34,35,36,37,38,39,40,41,42,43,44,45,46,47,48,49] []) (.seq (.block 0 (.loop l1)) (.seq (.dr (.ops r8 false) [8,71,83] []) (.seq (.seq (.ops r9 false) (.block 2 (.loop l2))) (.seq (.dr (.ops r18 false) [9,10,84,85,86,87,118,119,120,121,122,123,124,125,126] []) (.seq (.dr (.ops r19 false) [127,128,129,130,131] []) (.seq (.seq (.dr (.ops r20 false) [15,132,133] []) (.cond 134 (.seq (.dr (.ops r21 false) [0,1,5,7,134,135,136] []) .ret) .skip)) (.seq (.dr (.ops r22 false) [134] []) (.seq (.seq (.dr (.ops r23 false) [1] []) (.block 4 (.loop l3))) (.seq (.dr (.ops r30 false) [0,5,9,137,138,139,140,162,163,164,165,166,167,168,169] []) (.seq (.dr (.ops r31 false) [7,170,171,172] []) .ret))))))))))))))
end FB
def FB:AFn:=⟨2,FB.c,[.tmp 4],false⟩
namespace JX
def r0:List AI:=[o 4 (.mov (.c .nil)),o 5 (.mov (.c .nil))]
def r1:List AI:=[m 15 0,m 16 1,o 17 (.call 67 [15,16]),o 18 (.bin .lss 17 (k 0))]
def r2:List AI:=[m 19 0,o 20 (.call 62 [19]),o 4 (.mov (.c .nil)),m 5 20]
def r3:List AI:=[m 21 1,o 22 (.len 21),m 6 22]
def r4:List AI:=[m 23 0,o 24 (.len 23),m 25 6,o 26 (.bin .sub 24 25),o 27 (.bin .add 26 (k 1)),o 28 (.mk 28 1 4 [(.int .u32 (0))] 27 27),m 7 28]
def r5:List AI:=[m 29 6,o 30 (.bin .eql 29 (k 1))]
def r6:List AI:=[o 8 (.mov (.c (.int .u64 (0))))]
def r7:List AI:=[m 31 0,o 32 (.len 31),o 33 (.bin .sub 32 (k 1)),m 9 33]
def r8:List AI:=[m 34 9,o 35 (.bin .geq 34 (k 0))]
def CH:List AI:=[m 38 8,o 39 (.bin .shl 38 (.c (.int .u64 (32)))),m 40 0,m 41 9,o 42 (.iadr none 1 40 41),o 43 (.ld false 1 42),o 44 (.conv .u64 43),
 o 45 (.bin .or 39 44),m 10 45]
def CM:List AI:=[m 46 7,m 47 9,m 48 10,m 49 1,o 50 (.iadr none 1 49 (k 0)),o 51 (.ld false 1 50),o 52 (.conv .u64 51),o 53 (.bin .quo 48 52),o 54 (.conv .u32 53),
 o 55 (.iadr none 1 46 47),n (.st 1 55 54)]
def r12:List AI:=[m 56 10,m 57 1,o 58 (.iadr none 1 57 (k 0)),o 59 (.ld false 1 58),o 60 (.conv .u64 59),o 61 (.bin .rem 56 60),m 8 61]
def r9:List AI:=[m 36 9,o 37 (.bin .sub 36 (k 1)),m 9 37]
def C1:List AI:=[m 62 7,o 63 (.calli 65 [62]),m 64 8,o 65 (.conv .u32 64),o 66 (.bslice 66 1 [65]),o 67 (.calli 65 [66]),m 4 63,m 5 67]
def r14:List AI:=[m 68 1,m 69 6,o 70 (.bin .sub 69 (k 1)),o 71 (.iadr none 1 68 70),o 72 (.ld false 1 71),o 73 (.call 64 [72]),o 74 (.conv .u64 73),m 11 74]
def r15:List AI:=[m 75 0,m 76 11,m 77 0,o 78 (.len 77),o 79 (.bin .add 78 (k 1)),o 80 (.calli 71 [75,76,79]),m 81 1,m 82 11,m 83 6,o 84 (.call 71 [81,82,83]),
 m 12 80,m 13 84]
def r16:List AI:=[m 85 0,o 86 (.len 85),m 87 6,o 88 (.bin .sub 86 87),m 14 88]
def EU:List AI:=[m 89 14,o 90 (.bin .geq 89 (k 0))]
def r19:List AI:=[m 93 7,m 94 14,m 95 12,m 96 14,m 97 14,m 98 6,o 99 (.bin .add 97 98),o 100 (.bin .add 99 (k 1)),o 101 (.slc 1 95 (some 96) (some 100)),m 102 13,
 o 103 (.calli 73 [101,102]),o 104 (.iadr none 1 93 94),n (.st 1 104 103)]
def r18:List AI:=[m 91 14,o 92 (.bin .sub 91 (k 1)),m 14 92]
def r20:List AI:=[m 105 7,o 106 (.calli 65 [105]),m 107 12,m 108 6,o 109 (.slc 1 107 none (some 108)),m 110 11,o 111 (.call 72 [109,110]),o 112 (.calli 65 [111]),
 m 4 106,m 5 112]
def l1:AL:=(.seq (.seq (.dr (.ops r8 false) [34] []) (.cond 35 .skip (.exit 0))) (.seq (.block 1 (.seq (.dr (.ops CH false) [8,35,38,39,40,41,42,43,44,45] []) (.seq (.dr (.ops CM false) [46,47,48,49,50,51,52,53,54,55] []) (.dr (.ops r12 false) [10,56,57,58,59,60,61] [])))) (.dr (.ops r9 false) [36,37] [])))
def l2:AL:=(.seq (.seq (.dr (.ops EU false) [89] []) (.cond 90 .skip (.exit 2))) (.seq (.block 3 (.dr (.ops r19 false) [90,93,94,95,96,97,98,99,100,101,102,103,104] [])) (.dr (.ops r18 false) [91,92] [])))
def c:AL:=(.seq (.dr (.ops r0 false) [4,5] []) (.seq (.seq (.dr (.ops r1 false) [15,16,17] []) (.cond 18 (.seq (.dr (.ops r2 false) [0,1,18,19,20] []) .ret) .skip)) (.seq (.dr (.ops r3 false) [18,21,22] []) (.seq (.dr (.ops r4 false) [23,24,25,26,27,28] []) (.seq (.seq (.dr (.ops r5 false) [29] []) (.cond 30 (.seq (.dr (.ops r6 false) [6,30] []) (.seq (.seq (.dr (.ops r7 false) [31,32,33] []) (.block 0 (.loop l1))) (.seq (.dr (.ops C1 false) [0,1,7,8,9,35,62,63,64,65,66,67] []) .ret))) .skip)) (.seq (.dr (.ops r14 false) [30,68,69,70,71,72,73,74] []) (.seq (.dr (.ops r15 false) [1,75,76,77,78,79,80,81,82,83,84] []) (.seq (.seq (.dr (.ops r16 false) [0,85,86,87,88] []) (.block 2 (.loop l2))) (.seq (.dr (.ops r20 true) [6,7,11,12,13,14,90,105,106,107,108,109,110,111,112] []) .ret)))))))))
end JX
def JX:AFn:=⟨2,JX.c,[.tmp 4,.tmp 5],false⟩
namespace JR
def r0:List AI:=[o 4 (.mov (.c .nil)),o 5 (.mov (.c .nil)),o 6 (.mov (k 0))]
def r1:List AI:=[m 10 1,o 11 (.calli 65 [10]),m 7 11]
def r2:List AI:=[m 12 7,o 13 (.len 12),o 14 (.bin .eql 13 (k 0))]
def r3:List AI:=[o 4 (.mov (.c .nil)),o 5 (.mov (.c .nil)),o 6 (.mov (k 3))]
def r4:List AI:=[m 16 0,o 17 (.calli 65 [16]),m 18 7,o 19 (.call 74 [17,18]),m 15 19,o 20 (.ext 15 0),o 21 (.ext 15 1),m 8 20,m 9 21]
def r5:List AI:=[m 22 8,m 23 9,m 4 22,m 5 23,o 6 (.mov (k 0))]
def c:AL:=(.seq (.dr (.ops r0 false) [4,5,6] []) (.seq (.dr (.ops r1 false) [1,10,11] []) (.seq (.seq (.dr (.ops r2 false) [12,13] []) (.cond 14 (.seq (.dr (.ops r3 false) [0,7,14] []) .ret) .skip)) (.seq (.dr (.ops r4 false) [0,7,14,15,16,17,18,19,20,21] []) (.seq (.dr (.ops r5 false) [8,9,22,23] []) .ret)))))
end JR
def JR:AFn:=⟨2,JR.c,[.tmp 4,.tmp 5,.tmp 6],false⟩
namespace J1
def r0:List AI:=[o 2 (.mov (.c (.int .u64 (0))))]
def r1:List AI:=[o 3 (.mov (.c (.int .u64 (0))))]
def r2:List AI:=[m 6 0,o 7 (.len 6),o 8 (.mov (k 0))]
def r3:List AI:=[o 9 (.bin .lss 8 7)]
def r4:List AI:=[m 10 8,o 11 (.iadr none 1 6 8),o 12 (.ld false 1 11),m 4 10,m 5 12]
def r5:List AI:=[m 13 3,m 14 5,o 15 (.conv .u64 14),m 16 4,o 17 (.bin .mul (k 32) 16),o 18 (.bin .shl 15 17),o 19 (.bin .or 13 18),m 3 19]
def r6:List AI:=[o 20 (.bin .add 8 (k 1)),m 8 20]
def r7:List AI:=[m 21 3,m 2 21]
def l1:AL:=(.seq (.ops r3 false) (.seq (.cond 9 .skip (.exit 0)) (.seq (.block 1 (.seq (.dr (.ops r4 false) [9,10,11,12] []) (.dr (.ops r5 false) [4,5,13,14,15,16,17,18,19] []))) (.dr (.ops r6 false) [20] []))))
def c:AL:=(.seq (.dr (.ops r0 false) [2] []) (.seq (.ops r1 false) (.seq (.seq (.dr (.ops r2 false) [0] []) (.block 0 (.loop l1))) (.seq (.dr (.ops r7 false) [3,6,7,8,9,21] []) .ret))))
end J1
def J1:AFn:=⟨1,J1.c,[.tmp 2],false⟩
namespace G9
def r0:List AI:=[o 3 (.mov (.c (.int .u64 (0))))]
def r1:List AI:=[m 4 0,o 5 (.ld false 1 1),o 6 (.len 5),o 7 (.bin .lss 4 6)]
def r2:List AI:=[o 8 (.ld false 1 1),m 9 0,o 10 (.iadr none 1 8 9),o 11 (.ld false 1 10),o 12 (.conv .u64 11),m 3 12]
def r3:List AI:=[o 3 (.mov (.c (.int .u64 (0))))]
def c:AL:=(.seq (.dr (.ops r0 false) [3] []) (.seq (.seq (.dr (.ops r1 false) [4,5,6] []) (.cond 7 (.seq (.dr (.ops r2 false) [0,1,7,8,9,10,11,12] []) .ret) .skip)) (.seq (.dr (.ops r3 false) [0,1,7] []) .ret)))
end G9
def G9:AFn:=⟨2,G9.c,[.tmp 3],false⟩
namespace JY
def r0:List AI:=[o 3 (.box 3 0),o 6 (.mov (k 0))]
def r1:List AI:=[o 9 (.mkf false 77 [3]),m 7 9]
def r2:List AI:=[m 10 7,m 11 1,o 12 (.bin .sub 11 (k 1)),o 13 (.callv 10 [12]),o 14 (.bin .shl 13 (.c (.int .u64 (32)))),m 15 7,m 16 1,o 17 (.bin .sub 16 (k 2)),
 o 18 (.callv 15 [17]),o 19 (.bin .or 14 18),m 20 2,o 21 (.bin .shl 19 20),m 8 21]
def r3:List AI:=[m 22 8,m 23 7,m 24 1,o 25 (.bin .sub 24 (k 3)),o 26 (.callv 23 [25]),m 27 2,o 28 (.bin .shl 26 27),o 29 (.bin .shr 28 (.c (.int .u64 (32)))),
 o 30 (.bin .or 22 29),m 8 30]
def r4:List AI:=[m 31 8,o 32 (.bin .shr 31 (.c (.int .u64 (2)))),o 33 (.conv .i64 32),m 6 33]
def c:AL:=(.seq (.dr (.ops r0 false) [0,6] []) (.seq (.dr (.ops r1 false) [3,9] []) (.seq (.dr (.ops r2 false) [10,11,12,13,14,15,16,17,18,19,20,21] []) (.seq (.dr (.ops r3 false) [1,2,7,22,23,24,25,26,27,28,29,30] []) (.seq (.dr (.ops r4 false) [8,31,32,33] []) .ret)))))
end JY
def JY:AFn:=⟨3,JY.c,[.tmp 6],false⟩
namespace JV
def r0:List AI:=[o 4 (.mov (k 0)),o 5 (.mov (k 0)),o 6 (.mov (k 0)),o 7 (.mov (k 0))]
def r1:List AI:=[o 4 (.mov (k 1)),o 7 (.mov (k 1))]
def r2:List AI:=[m 11 1,m 12 6,o 13 (.bin .add 11 12),o 14 (.bin .neq 13 (k 0)),m 15 14,g 16 15 true (.mov 1),g 17 15 true (.mov 7),g 18 15 true (.bin .add 16 17),
 g 19 15 true (.bin .neq 18 (k 0)),o 20 (.pick 15 19 (.c (.bool false)))]
def r3:List AI:=[m 21 0,m 22 4,o 23 (.bin .add 21 22),m 24 1,m 25 6,o 26 (.bin .add 24 25),o 27 (.bin .quo 23 26),m 8 27]
def r4:List AI:=[m 28 8,m 29 0,m 30 5,o 31 (.bin .add 29 30),m 32 1,m 33 7,o 34 (.bin .add 32 33),o 35 (.bin .quo 31 34),o 36 (.bin .neq 28 35),m 37 36,
 g 38 37 false (.mov 8),g 39 37 false (.bin .gtr 38 (k 2147483647)),o 40 (.pick 37 (.c (.bool true)) 39)]
def r5:List AI:=[m 41 4,m 42 8,m 43 6,o 44 (.bin .mul 42 43),o 45 (.bin .sub 41 44),m 46 5,m 47 8,m 48 7,o 49 (.bin .mul 47 48),o 50 (.bin .sub 46 49),m 9 45,m 10 50]
def r6:List AI:=[m 51 9,m 52 9,o 53 (.un .neg 52),m 54 10,m 55 10,o 56 (.un .neg 55),o 57 (.mm true [51,53,54,56]),o 58 (.bin .gtr 57 (k 2147483647))]
def r7:List AI:=[m 59 6,m 60 7,m 61 9,m 62 10,m 4 59,m 5 60,m 6 61,m 7 62]
def r8:List AI:=[m 63 1,m 64 0,m 65 8,m 66 1,o 67 (.bin .mul 65 66),o 68 (.bin .sub 64 67),m 0 63,m 1 68]
def r9:List AI:=[m 69 4,m 70 5,m 71 6,m 72 7,m 4 69,m 5 70,m 6 71,m 7 72]
def l1:AL:=(.seq (.seq (.dr (.ops r2 false) [11,12,13,14,15,16,17,18,19] []) (.cond 20 .skip (.exit 0))) (.block 1 (.seq (.dr (.ops r3 false) [20,21,22,23,24,25,26,27] []) (.seq (.seq (.dr (.ops r4 false) [28,29,30,31,32,33,34,35,36,37,38,39] []) (.cond 40 (.exit 0) .skip)) (.seq (.dr (.ops r5 false) [40,41,42,43,44,45,46,47,48,49,50] []) (.seq (.seq (.dr (.ops r6 false) [51,52,53,54,55,56,57] []) (.cond 58 (.exit 0) .skip)) (.seq (.dr (.ops r7 false) [9,10,58,59,60,61,62] []) (.dr (.ops r8 false) [8,63,64,65,66,67,68] []))))))))
def c:AL:=(.seq (.dr (.ops r0 false) [4,7] []) (.seq (.ops r1 false) (.seq (.block 0 (.loop l1)) (.seq (.dr (.ops r9 false) [0,1,8,9,10,20,40,58,69,70,71,72] []) .ret))))
end JV
def JV:AFn:=⟨2,JV.c,[.tmp 4,.tmp 5,.tmp 6,.tmp 7],false⟩
namespace JW
def r0:List AI:=[o 8 (.mov (.c .nil))]
def r1:List AI:=[m 14 0,o 15 (.len 14),o 16 (.mk 16 1 4 [(.int .u32 (0))] 15 15),m 9 16]
def r2:List AI:=[o 10 (.mov (k 0))]
def r3:List AI:=[m 17 0,o 18 (.len 17),o 19 (.mov (k 0))]
def r4:List AI:=[o 20 (.bin .lss 19 18)]
def r5:List AI:=[m 21 19,o 22 (.iadr none 1 17 19),o 23 (.ld false 1 22),m 11 21,m 12 23]
def r6:List AI:=[m 24 2,m 25 12,o 26 (.conv .i64 25),o 27 (.bin .mul 24 26),m 28 10,o 29 (.bin .add 27 28),m 13 29]
def r7:List AI:=[m 30 11,m 31 1,o 32 (.len 31),o 33 (.bin .lss 30 32)]
def r8:List AI:=[m 34 13,m 35 3,m 36 1,m 37 11,o 38 (.iadr none 1 36 37),o 39 (.ld false 1 38),o 40 (.conv .i64 39),o 41 (.bin .mul 35 40),o 42 (.bin .add 34 41),
 m 13 42]
def r9:List AI:=[m 43 9,m 44 11,m 45 13,o 46 (.conv .u32 45),o 47 (.iadr none 1 43 44),n (.st 1 47 46)]
def CH:List AI:=[m 48 13,o 49 (.bin .shr 48 (.c (.int .u64 (32)))),m 10 49]
def CM:List AI:=[o 50 (.bin .add 19 (k 1)),m 19 50]
def r12:List AI:=[m 51 9,o 52 (.calli 65 [51]),m 8 52]
def l1:AL:=(.seq (.ops r4 false) (.seq (.cond 20 .skip (.exit 0)) (.seq (.block 1 (.seq (.dr (.ops r5 false) [20,21,22,23] []) (.seq (.dr (.ops r6 false) [10,12,24,25,26,27,28,29] []) (.seq (.seq (.dr (.ops r7 false) [30,31,32] []) (.cond 33 (.dr (.ops r8 false) [33,34,35,36,37,38,39,40,41,42] []) .skip)) (.seq (.dr (.ops r9 false) [11,33,43,44,45,46,47] []) (.dr (.ops CH false) [13,48,49] [])))))) (.dr (.ops CM false) [50] []))))
def c:AL:=(.seq (.dr (.ops r0 false) [8] []) (.seq (.dr (.ops r1 false) [14,15,16] []) (.seq (.ops r2 false) (.seq (.seq (.dr (.ops r3 false) [0] []) (.block 0 (.loop l1))) (.seq (.dr (.ops r12 false) [1,2,3,9,10,17,18,19,20,51,52] []) .ret)))))
end JW
def JW:AFn:=⟨4,JW.c,[.tmp 8],false⟩
namespace J0
def r0:List AI:=[o 4 (.mov (.c .nil)),o 5 (.mov (.c .nil))]
def r1:List AI:=[m 14 0,o 15 (.len 14),m 6 15]
def r2:List AI:=[m 16 0,m 17 6,o 18 (.bin .sub 17 (k 1)),o 19 (.iadr none 1 16 18),o 20 (.ld false 1 19),o 21 (.call 64 [20]),o 22 (.conv .u64 21),m 7 22]
def r3:List AI:=[m 24 0,m 25 6,m 26 7,o 27 (.call 78 [24,25,26]),m 28 1,m 29 6,m 30 7,o 31 (.call 78 [28,29,30]),o 32 (.call 79 [27,31]),m 23 32,o 33 (.ext 23 0),
 o 34 (.ext 23 1),o 35 (.ext 23 2),o 36 (.ext 23 3),m 8 33,m 9 34,m 10 35,m 11 36]
def r4:List AI:=[m 37 9,o 38 (.bin .eql 37 (k 0))]
def r5:List AI:=[m 40 0,m 41 1,o 42 (.call 74 [40,41]),m 39 42,o 43 (.ext 39 0),o 44 (.ext 39 1),m 12 43,m 13 44]
def r6:List AI:=[m 45 1,m 46 13,m 4 45,m 5 46]
def r7:List AI:=[m 47 0,m 48 1,m 49 8,m 50 9,o 51 (.call 80 [47,48,49,50]),m 52 0,m 53 1,m 54 10,m 55 11,o 56 (.call 80 [52,53,54,55]),m 4 51,m 5 56]
def c:AL:=(.seq (.dr (.ops r0 false) [4,5] []) (.seq (.dr (.ops r1 false) [14,15] []) (.seq (.dr (.ops r2 false) [16,17,18,19,20,21,22] []) (.seq (.dr (.ops r3 false) [6,7,23,24,25,26,27,28,29,30,31,32,33,34,35,36] []) (.seq (.seq (.dr (.ops r4 false) [37] []) (.cond 38 (.seq (.dr (.ops r5 false) [0,8,9,10,11,12,38,39,40,41,42,43,44] []) (.seq (.dr (.ops r6 false) [1,13,45,46] []) .ret)) .skip)) (.seq (.dr (.ops r7 false) [0,1,8,9,10,11,38,47,48,49,50,51,52,53,54,55,56] []) .ret))))))
end J0
def J0:AFn:=⟨2,J0.c,[.tmp 4,.tmp 5],false⟩
namespace FV
def r0:List AI:=[o 4 (.mov (.c .nil))]
def r1:List AI:=[m 11 0,o 12 (.call 66 [11]),m 13 1,o 14 (.call 66 [13]),m 5 12,m 6 14]
def r2:List AI:=[m 15 5,m 16 6,o 17 (.call 67 [15,16]),o 18 (.bin .lss 17 (k 0))]
def r3:List AI:=[m 19 6,m 20 5,m 5 19,m 6 20]
def r4:List AI:=[m 21 6,o 22 (.len 21),o 23 (.bin .gtr 22 (k 2))]
def r5:List AI:=[m 25 5,m 26 6,o 27 (.call 81 [25,26]),m 24 27,o 28 (.ext 24 0),o 29 (.ext 24 1),m 5 28,m 6 29]
def r6:List AI:=[m 30 6,o 31 (.len 30),o 32 (.bin .eql 31 (k 0))]
def r7:List AI:=[m 33 5,m 4 33]
def r8:List AI:=[m 35 5,m 36 6,o 37 (.call 74 [35,36]),m 34 37,o 38 (.ext 34 0),o 39 (.ext 34 1),m 7 38,m 8 39]
def r9:List AI:=[m 40 6,o 41 (.call 76 [40]),m 42 8,o 43 (.call 76 [42]),m 9 41,m 10 43]
def CH:List AI:=[m 44 10,o 45 (.bin .neq 44 (.c (.int .u64 (0))))]
def CM:List AI:=[m 46 10,m 47 9,m 48 10,o 49 (.bin .rem 47 48),m 9 46,m 10 49]
def r12:List AI:=[m 50 9,o 51 (.conv .u32 50),m 52 9,o 53 (.bin .shr 52 (.c (.int .u64 (32)))),o 54 (.conv .u32 53),o 55 (.bslice 55 1 [51,54]),o 56 (.calli 65 [55]),
 m 4 56]
def l1:AL:=(.seq (.seq (.dr (.ops r4 false) [18,21,22] []) (.cond 23 .skip (.exit 0))) (.block 1 (.dr (.ops r5 false) [23,24,25,26,27,28,29] [])))
def l2:AL:=(.seq (.seq (.dr (.ops CH false) [44] []) (.cond 45 .skip (.exit 2))) (.block 3 (.dr (.ops CM true) [45,46,47,48,49] [])))
def c:AL:=(.seq (.dr (.ops r0 false) [4] []) (.seq (.dr (.ops r1 false) [0,1,11,12,13,14] []) (.seq (.seq (.dr (.ops r2 false) [15,16,17] []) (.cond 18 (.dr (.ops r3 false) [18,19,20] []) .skip)) (.seq (.block 0 (.loop l1)) (.seq (.seq (.dr (.ops r6 false) [23,30,31] []) (.cond 32 (.seq (.dr (.ops r7 false) [5,6,32,33] []) .ret) .skip)) (.seq (.dr (.ops r8 false) [5,7,32,34,35,36,37,38,39] []) (.seq (.dr (.ops r9 false) [6,8,40,41,42,43] []) (.seq (.block 2 (.loop l2)) (.seq (.dr (.ops r12 false) [9,10,45,50,51,52,53,54,55,56] []) .ret)))))))))
end FV
def FV:AFn:=⟨2,FV.c,[.tmp 4],false⟩
structure NatGLib (L:Lib):Prop where
 JA:L 58=some F.JA
 JB:L 59=some F.JB
 I8:L 60=some F.I8
 I9:L 61=some F.I9
 GO:L 62=some F.GO
 JO:L 63=some F.JO
 JN:L 64=some F.JN
 E4:L 65=some F.E4
 JU:L 66=some F.JU
 JQ:L 67=some F.JQ
 JP:L 68=some F.JP
 JT:L 69=some F.JT
 JS:L 70=some F.JS
 H1:L 71=some F.H1
 JZ:L 72=some F.JZ
 FB:L 73=some F.FB
 JX:L 74=some F.JX
 JR:L 75=some F.JR
 J1:L 76=some F.J1
 G9:L 77=some F.G9
 JY:L 78=some F.JY
 JV:L 79=some F.JV
 JW:L 80=some F.JW
 J0:L 81=some F.J0
 FV:L 82=some F.FV
end Go.Eng.F
