/-
  One operation in its region, and a region in the order of its text.
-/
import Derived.Test.YtgdojcofnobpeaaGreatB2
import Derived.Orders
import Derived.Test.YtgdojcofnobpeaaGreatB1
set_option linter.unusedSimpArgs false
set_option linter.unusedVariables false
set_option linter.unnecessarySimpa false
namespace Go.Eng
open Go.RowKit
def HA (T:Nat->AV):B8->AV
 | .t n=>T n
 | .c v=>v
def MJ (T:Nat->AV) (d:Option Nat) (v:AV):Nat->AV:=λ j=>if d=some j then v else T j
def OX (T:Nat->AV):Option (Nat × Bool)->Option Bool
 | none=>some true
 | some (g,want)=>match T g with
  | .bool b=>some (b == want)
  | .tup []=>some false
  | _=>none
theorem xF (st:St):st.ev=HA (c9 st.tm):=by funext x;cases x<;>rfl
theorem Yn (st:St) (g:Option (Nat × Bool)):IL st g=OX (c9 st.tm) g:=rfl
theorem wJ (st:St) (d:Option Nat) (v:AV):c9 (st.dst d v).tm=MJ (c9 st.tm) d v:=by
 cases d with
 | none=>funext j;simp [St.dst,MJ]
 | some d =>
  funext j
  simp only[St.dst,MJ,dW];by_cases h:j=d
  ·simp [h]
  ·simp [h,Ne.symm h]
theorem Oq (st:St) (d:Option Nat) (E:ED):c9 (st.app d E).tm=MJ (c9 st.tm) d (E.valOf st.own):=by
 cases E<;>simp only[St.app,ED.valOf]<;>exact wJ st d _
theorem wK (st:St) (d:Option Nat) (v:AV):(st.dst d v).own=st.own:=by cases d<;>rfl
theorem Oo (st:St) (d:Option Nat) (E:ED):(st.app d E).own=E.s8 st.own:=by
 cases E with
 | val v=>simp only[St.app,ED.s8];exact wK st d v
 | _=>rfl
section
variable {B:Nat} {S:Nat->Prop} {w0:World} {m0:M} {N:Nat}
variable {P:Program} {num:Nat->Nat} {C:Cl} {Q:Exit->Act->World->Prop}
structure IH (B:Nat) (S:Nat->Prop) (w0:World) (m0:M) (N:Nat) (T:Nat->AV) (m:M) (a:Act):Prop where
 mem:DJ B S w0 m
 ext:FX B S m0 m
 tm : ∀ i,CV B S m (T i) (a.tmps.getD i undef)
 size:a.tmps.size=N
 defers:a.defers=[]
theorem IH.put {T:Nat->AV} {m m':M} {a:Act} (h:IH B S w0 m0 N T m a) (d:Option Nat) (hd : ∀ k,d=some k->k<N) {v:AV} {u:Value} (hm:DJ B S w0 m') (he:FX B S m m') (hc:CV B S m' v u):IH B S w0 m0 N (MJ T d v) m' (a.put d u):=by
 refine ⟨hm,h.ext.trans he,λ i => ?_,?_,?_⟩
 ·cases d with
  | none=>simpa [MJ,Act.put] using he.cv (h.tm i)
  | some k =>
   have hk:k<a.tmps.size:=by rw[h.size];exact hd k rfl
   by_cases hik:i=k
   ·subst hik
    simp only[MJ,if_true,Act.put];simpa [Array.getD,hk] using hc
   ·have hne : ¬ (some k=some i):=λ e=>hik (by simpa using e.symm)
    simp only[MJ,if_neg hne,Act.put];have:(a.tmps.setIfInBounds k u).getD i undef=a.tmps.getD i undef:=by
     simp [Array.getElem?_setIfInBounds_ne (Ne.symm hik)]
    rw[this];exact he.cv (h.tm i)
 ·cases d<;>simp [Act.put,h.size]
 ·cases d<;>simpa [Act.put] using h.defers
theorem IH.says {T:Nat->AV} {m:M} {a:Act} (h:IH B S w0 m0 N T m a):EI B S m (HA T) a.eval:=AkD (λ_=>rfl) (λ_=>rfl) h.tm
theorem Alr {T:Nat->AV} {m:M} {a:Act} (h:IH B S w0 m0 N T m a) {ops:Array Oper} {o:Oper} {g':Option (Nat × Bool)} (hg:cT ops o.guard g'=true) {g:Bool} (jv:OX T g'=some g):Region.wanted o (yielded ops a.tmps)=g:=by
 unfold Region.wanted;cases Aq:o.guard with
 | none =>
  cases g' with
  | none=>simp [OX]at jv;simp [jv]
  | some _=>simp [cT,Aq]at hg
 | some jw =>
  obtain ⟨j,want⟩:=jw;cases g' with
  | none=>simp [cT,Aq]at hg
  | some tw =>
   obtain ⟨t,Kp⟩:=tw;simp only[cT,Aq,Bool.and_eq_true,beq_iff_eq]at hg;obtain ⟨rfl,hg⟩:=hg;split at hg
   ·rename_i oj yf
    have Aa:oj.dst=some t:=by simpa using hg
    have q5:=h.tm t;simp only[OX]at jv;unfold yielded;simp only[yf,Option.bind_some,Aa];split at jv
    ·rename_i b hb
     rw[hb]at q5;have hv:=XB q5;have l7:a.tmps[t]? = some (.bool b):=by
      cases ht:a.tmps[t]? with
      | none=>simp [ht,undef]at hv
      | some x=>simp [ht]at hv;rw[hv]
     simp only[l7];simp at jv;rw[<-jv];cases b<;>cases want<;>rfl
    ·rename_i hb
     rw[hb]at q5;obtain ⟨vs,hv,hl,_⟩:=lK q5;have:vs=[]:=List.eq_nil_of_length_eq_zero (by simpa using hl.symm)
     subst this;simp at jv;subst jv;cases ht:a.tmps[t]? with
     | none=>rfl
     | some x =>
      simp [ht]at hv;subst hv;rfl
    ·cases jv
   ·cases hg
theorem Hd (hC:KX P num C) {ops:Array Oper} {i:Nat} {o:Oper} {ai:AI} (hi:ops[i]? = some o) (hok:iP P num N ops o ai=true) {T:Nat->AV} {m:M} {a:Act} (hf:IH B S w0 m0 N T m a) {g:Bool} (hg:OX T ai.guard=some g) {E:ED}
  (hE:g=true->c7 C ai.b9 (HA T) m.own ai.op=some E) {K:Act->World->Prop} (hK : ∀ m' a',m'.own=(if g then E.s8 m.own else m.own)->IH B S w0 m0 N (MJ T ai.dst (if g then E.valOf m.own else .tup [])) m' a'->K a' m'.w):wpOp P ops Q i K a m.w:=by
 simp only[iP,Bool.and_eq_true,beq_iff_eq]at hok;obtain ⟨⟨⟨h1,h2⟩,h3⟩,h4⟩:=hok;have hd : ∀ k,o.dst=some k->k<N:=λ k hk=>by
  rw[h1]at hk;rw[hk]at h2;simpa using h2
 unfold wpOp;simp only[hi,Alr hf h3 hg];cases g with
 | true =>
  simp only[if_true];refine .inl (Te hC hf.mem hf.says h4 (hE rfl) K Q λ u m' e8 fr cg q5 => ?_);refine hK m' _ (by simpa using e8) ?_;rw[<-h1];exact hf.put o.dst hd fr cg q5
 | false =>
  simp only[Bool.false_eq_true,if_false];refine hK m _ (by simp) ?_;rw[<-h1];exact hf.put o.dst hd hf.mem (FX.refl m) Ek
theorem Hp {o:AI} {st e9:St} (h:FO C o st=some e9) : ∃ g E,OX (c9 st.tm) o.guard=some g/\(g=true->c7 C o.b9 (HA (c9 st.tm)) st.own o.op=some E)/\c9 e9.tm=MJ (c9 st.tm) o.dst (if g then E.valOf st.own else .tup [])/\e9.own=(if g then E.s8 st.own else st.own):=by
 unfold FO at h;rw[Yn]at h;cases hg:OX (c9 st.tm) o.guard with
 | none=>simp [hg]at h
 | some g =>
  cases g with
  | true =>
   simp only[hg,Option.map_eq_some_iff]at h;obtain ⟨E,hE,rfl⟩:=h;rw[xF]at hE;exact ⟨true,E,rfl,λ_=>hE,Oq st o.dst E,Oo st o.dst E⟩
  | false =>
   simp only[hg,Option.some.injEq]at h;subst h;exact ⟨false,.val .any,rfl,λ h=>(by cases h),wJ st o.dst _,wK st o.dst _⟩
theorem cU {ops:Array Oper} : ∀ {os:List Oper} {l:List AI},VF P num N ops os l=true->os.length=l.length /\ ∀ (i:Nat) (o:Oper) (x:AI),os[i]? = some o->l[i]? = some x->iP P num N ops o x=true
 | [],[],_=>⟨rfl,λ i o x h=>by simp at h⟩
 | o::r,x::l,h=>by
  simp only[VF,Bool.and_eq_true]at h;obtain ⟨h1,h2⟩:=cU h.2;refine ⟨by simp [h1],λ i o' x' ho hx => ?_⟩;cases i with
  | zero=>simp at ho hx;subst ho hx;exact h.1
  | succ i=>exact h2 i o' x' (by simpa using ho) (by simpa using hx)
 | [],_::_,h=>by simp [VF]at h
 | _::_,[],h=>by simp [VF]at h
theorem He (hC:KX P num C) {ops:Array Oper} {l:List AI} (hok:VF P num N ops ops.toList l=true) : ∀ (n k:Nat) (st e9:St) (m:M) (a:Act),n+k=ops.size->FP C (l.drop k) st=some e9->m.own=st.own->IH B S w0 m0 N (c9 st.tm) m a ->
  (∀ m' a',m'.own=e9.own->IH B S w0 m0 N (c9 e9.tm) m' a'->Q .normal a' m'.w)->wpOps P ops Q (List.range' k n) a m.w
 | 0,k,st,e9,m,a,hk,hs,e8,hf,hQ=>by
  have hl:=(cU hok).1;simp at hl;rw[List.drop_eq_nil_of_le (by omega)]at hs;simp only[FP,Option.some.injEq]at hs;subst hs;simpa [wpOps] using hQ m a e8 hf
 | n+1,k,st,e9,m,a,hk,hs,e8,hf,hQ=>by
  obtain ⟨hl,hg⟩:=cU hok;simp at hl;have hkl:k<l.length:=by omega
  have Jc:k<ops.size:=by omega
  rw[List.drop_eq_getElem_cons hkl]at hs;simp only[FP]at hs;cases hst:FO C l[k] st with
  | none=>simp [hst]at hs
  | some CZ =>
   simp only[hst]at hs;obtain ⟨g,E,h1,h2,h3,h4⟩:=Hp hst;rw[List.range'_succ,wpOps_cons];have hoi:ops[k]? = some ops[k]:=Array.getElem?_eq_getElem Jc;refine Hd hC hoi (hg k ops[k] l[k] (by simp [Jc]) (zE hkl)) hf h1 (λ ae=>by rw[e8];exact h2 ae) λ m' a' fc ga => ?_
   refine He hC hok n (k+1) CZ e9 m' a' (by omega) hs ?_ ?_ hQ
   ·rw[fc,e8,h4]
   ·rw[e8]at ga
    rw[h3];exact ga
end
end Go.Eng
namespace Go.Eng
open Go.RowKit
section
variable {T T':Nat->AV} {C:Cl} {b9:List Nat} {own:BT}
theorem EW {x:B8} (h : ∀ t∈EE x,T t=T' t):HA T x=HA T' x:=by
 cases x with
 | t n=>exact h n (by simp [EE])
 | c v=>rfl
theorem X3 {xs:List B8} (h : ∀ t∈xs.flatMap EE,T t=T' t):xs.map (HA T)=xs.map (HA T') :=
 List.map_congr_left λ x hx=>EW λ t ht=>h t (List.mem_flatMap.2 ⟨x,hx,ht⟩)
theorem Cd {x:Option B8} (h : ∀ t∈oW x,T t=T' t) {y:B8} (hy:x=some y):HA T y=HA T' y:=by
 subst hy;exact EW h
theorem Sz {op:GN} (h : ∀ t∈IZ op,T t=T' t):c7 C b9 (HA T) own op=c7 C b9 (HA T') own op:=by
 cases op with
 | build z ps =>
  simp only[c7];congr 2;refine List.map_congr_left λ p hp => ?_
  rw[EW (x:=p.2.2) λ t ht=>h t (by simp only[IZ];exact List.mem_flatMap.2 ⟨p,hp,ht⟩)]
 | c4 s a6 ps =>
  have hm:ps.mapM (λ x=>cellsOf (HA T x))=ps.mapM (λ x=>cellsOf (HA T' x)):=by
   have e : ∀ l:List B8,(∀ x∈l,HA T x=HA T' x)->l.mapM (λ x=>cellsOf (HA T x))=l.mapM (λ x=>cellsOf (HA T' x)):=by
    intro l;induction l with
    | nil=>intro _;rfl
    | cons x r ih=>intro hl;simp only[List.mapM_cons];rw[hl x (by simp),ih λ y hy=>hl y (by simp [hy])]
   exact e ps λ x hx=>EW λ t ht=>h t (by simp only[IZ];exact List.mem_flatMap.2 ⟨x,hx,ht⟩)
  simp only[c7,hm]
 | mm mx xs=>simp only[c7];rw[X3 (xs:=xs) h]
 | call f xs=>simp only[c7];rw[X3 (xs:=xs) h]
 | c8 f xs=>simp only[c7];rw[X3 (xs:=xs) h]
 | jz ne x=>simp only[c7];rw[EW (x:=x) h]
 | bad=>rfl
 | kj x=>simp only[c7];rw[EW (x:=x) h]
 | bh x=>simp only[c7];rw[EW (x:=x) h]
 | gv s a6 bytes x y =>
  simp only[IZ,List.mem_append]at h;simp only[c7];rw[EW (x:=x) λ t ht=>h t (.inl ht),EW (x:=y) λ t ht=>h t (.inr ht)]
 | il s a6 bytes x y =>
  simp only[IZ,List.mem_append]at h;simp only[c7];rw[EW (x:=x) λ t ht=>h t (.inl ht),EW (x:=y) λ t ht=>h t (.inr ht)]
 | cr tb x=>simp only[c7];rw[EW (x:=x) h]
 | jc p f xs =>
  have e : ∀ l:List B8,(∀ x∈l,HA T x=HA T' x)->l.mapM (λ x=>KB (HA T x))=l.mapM (λ x=>KB (HA T' x)):=by
   intro l;induction l with
   | nil=>intro _;rfl
   | cons x r ih=>intro hl;simp only[List.mapM_cons];rw[hl x (by simp),ih λ y hy=>hl y (by simp [hy])]
  simp only[c7];rw[e xs λ x hx=>EW λ t ht=>h t (by simp only[IZ];exact List.mem_flatMap.2 ⟨x,hx,ht⟩)]
 | l9 f xs=>simp only[c7];rw[X3 (xs:=xs) h]
 | o0 s f xs=>simp only[c7];rw[X3 (xs:=xs) h]
 | x9 s f xs=>simp only[c7];rw[X3 (xs:=xs) h]
 | gu s n x v =>
  simp only[IZ,List.mem_append]at h;simp only[c7];rw[EW (x:=x) λ t ht=>h t (.inl ht),EW (x:=v) λ t ht=>h t (.inr ht)]
 | n8 x xs =>
  simp only[IZ,List.mem_append]at h;simp only[c7];rw[EW (x:=x) λ t ht=>h t (.inl ht),X3 (xs:=xs) λ t ht=>h t (.inr ht)]
 | ay a6 x lo hi =>
  simp only[IZ,List.mem_append]at h;have hx:HA T x=HA T' x:=EW λ t ht=>h t (.inl (.inl ht))
  have ib : ∀ y,lo=some y->HA T y=HA T' y:=λ y hy=>Cd (λ t ht=>h t (.inl (.inr ht))) hy
  have xv : ∀ y,hi=some y->HA T y=HA T' y:=λ y hy=>Cd (λ t ht=>h t (.inr ht)) hy
  simp only[c7,hx];cases lo with
  | none=>cases hi with
   | none=>rfl
   | some y=>simp only[xv y rfl]
  | some z=>cases hi with
   | none=>simp only[ib z rfl]
   | some y=>simp only[ib z rfl,xv y rfl]
 | q7=>rfl
 | alloc=>rfl
 | a8 x=>simp only[c7];rw[EW (x:=x) h]
 | un f x=>simp only[c7];rw[EW (x:=x) h]
 | conv k x=>simp only[c7];rw[EW (x:=x) h]
 | box s x=>simp only[c7];rw[EW (x:=x) h]
 | a7 x off=>simp only[c7];rw[EW (x:=x) h]
 | gx x off n agg=>simp only[c7];rw[EW (x:=x) h]
 | ld agg n x=>simp only[c7];rw[EW (x:=x) h]
 | ext x i=>simp only[c7];rw[EW (x:=x) h]
 | len x=>simp only[c7];rw[EW (x:=x) h]
 | pick c x y =>
  simp only[IZ,List.mem_append]at h;simp only[c7];rw[EW (x:=c) λ t ht=>h t (.inl (.inl ht)),EW (x:=x) λ t ht=>h t (.inl (.inr ht)),EW (x:=y) λ t ht=>h t (.inr ht)]
 | bin f x y =>
  simp only[IZ,List.mem_append]at h;simp only[c7];rw[EW (x:=x) λ t ht=>h t (.inl ht),EW (x:=y) λ t ht=>h t (.inr ht)]
 | ke ne n x y =>
  simp only[IZ,List.mem_append]at h;simp only[c7];rw[EW (x:=x) λ t ht=>h t (.inl ht),EW (x:=y) λ t ht=>h t (.inr ht)]
 | beq ne x y =>
  simp only[IZ,List.mem_append]at h;simp only[c7];rw[EW (x:=x) λ t ht=>h t (.inl ht),EW (x:=y) λ t ht=>h t (.inr ht)]
 | a4 arr a6 x i =>
  simp only[IZ,List.mem_append]at h;simp only[c7];rw[EW (x:=x) λ t ht=>h t (.inl ht),EW (x:=i) λ t ht=>h t (.inr ht)]
 | idx len a6 agg x i =>
  simp only[IZ,List.mem_append]at h;simp only[c7];rw[EW (x:=x) λ t ht=>h t (.inl ht),EW (x:=i) λ t ht=>h t (.inr ht)]
 | st n x v =>
  simp only[IZ,List.mem_append]at h;simp only[c7];rw[EW (x:=x) λ t ht=>h t (.inl ht),EW (x:=v) λ t ht=>h t (.inr ht)]
 | mk s a6 bytes z l c =>
  simp only[IZ,List.mem_append]at h;simp only[c7];rw[EW (x:=l) λ t ht=>h t (.inl ht),EW (x:=c) λ t ht=>h t (.inr ht)]
 | app s a6 bytes x y =>
  simp only[IZ,List.mem_append]at h;simp only[c7];rw[EW (x:=x) λ t ht=>h t (.inl ht),EW (x:=y) λ t ht=>h t (.inr ht)]
 | al s a6 bytes x y =>
  simp only[IZ,List.mem_append]at h;simp only[c7];rw[EW (x:=x) λ t ht=>h t (.inl ht),EW (x:=y) λ t ht=>h t (.inr ht)]
 | iq a6 x y =>
  simp only[IZ,List.mem_append]at h;simp only[c7];rw[EW (x:=x) λ t ht=>h t (.inl ht),EW (x:=y) λ t ht=>h t (.inr ht)]
theorem zO (o:BT) (l:List Nat) (s:Nat):o.m4 l s=if s∈l then ⟨0,λ_=>none⟩ else o s:=by
 induction l with
 | nil=>simp [BT.m4]
 | cons x r ih =>
  simp only[BT.m4,List.mem_cons];by_cases h:s=x
  ·simp [h]
  ·rw[if_neg h,ih]
   simp [h]
theorem Xo {o o':BT} {l:List Nat} (h : ∀ s,s ∉ l->o s=o' s):o.m4 l=o'.m4 l:=by
 funext s
 rw[zO,zO];split
 ·rfl
 ·rename_i hs;exact h s hs
end
section
variable {ops:Array Oper}
def inner (acc:Array Nat) (o:Oper):Nat:=o.after.foldl (λ s e=>if Region.binds .any e then s ||| 2^e.on ||| acc.getD e.on 0 else s) 0
theorem Xw (acc:Array Nat) (o:Oper) (j:Nat) (h:(inner acc o).testBit j=true) : ∃ e∈o.after,Region.binds .any e=true/\(e.on=j\/(acc.getD e.on 0).testBit j=true):=by
 unfold inner at h;rw[<-Array.foldl_toList]at h;have key : ∀ (l:List Edge) (s:Nat),(l.foldl (λ s e=>if Region.binds .any e then s ||| 2^e.on ||| acc.getD e.on 0 else s) s).testBit j=true->s.testBit j=true \/ ∃ e∈l,Region.binds .any e=true/\(e.on=j\/(acc.getD e.on 0).testBit j=true):=by
  intro l;induction l with
  | nil=>intro s hs;exact .inl hs
  | cons e r ih =>
   intro s hs;simp only[List.foldl_cons]at hs;rcases ih _ hs with h1|⟨e',eb,h2⟩
   ·by_cases hb:Region.binds .any e=true
    ·simp only[hb,if_true,Nat.testBit_or,Bool.or_eq_true,Nat.testBit_two_pow,decide_eq_true_eq]at h1
     rcases h1 with (h1|h1)|h1
     ·exact .inl h1
     ·exact .inr ⟨e,by simp,hb,.inl h1⟩
     ·exact .inr ⟨e,by simp,hb,.inr h1⟩
    ·simp only[hb,Bool.false_eq_true,if_false]at h1
     exact .inl h1
   ·exact .inr ⟨e',by simp [eb],h2⟩
 rcases key _ _ h with h|⟨e,he,h⟩
 ·simp at h
 ·exact ⟨e,by simpa using he,h⟩
theorem Ou (i j:Nat) (h:((Region.before ops).getD i 0).testBit j=true) : ∃ o,ops[i]? = some o /\ ∃ e∈o.after,Region.binds .any e=true/\(e.on=j\/(e.on<i/\((Region.before ops).getD e.on 0).testBit j=true)):=by
 have key : ∀ (rest:List Oper) (done:List Oper) (acc:Array Nat),acc.size=done.length ->
   (∀ i j,(acc.getD i 0).testBit j=true -> ∃ o,done[i]? = some o /\ ∃ e∈o.after,Region.binds .any e=true/\(e.on=j\/(e.on<i/\(acc.getD e.on 0).testBit j=true))) ->
   ∀ i j,((rest.foldl (λ acc o=>acc.push (inner acc o)) acc).getD i 0).testBit j=true -> ∃ o,(done++rest)[i]? = some o /\ ∃ e∈o.after,Region.binds .any e=true/\(e.on=j\/(e.on<i/\((rest.foldl (λ acc o=>acc.push (inner acc o)) acc).getD e.on 0).testBit j=true)):=by
  intro rest;induction rest with
  | nil=>intro done acc hs hinv i j hj;simpa using hinv i j hj
  | cons o r ih =>
   intro done acc hs hinv i j hj;simp only[List.foldl_cons]at hj ⊢;have:=ih (done++[o]) (acc.push (inner acc o)) (by simp [hs]) (λ i j mu => ?_) i j hj
   ·simpa using this
   ·have l7 : ∀ k,k<acc.size->(acc.push (inner acc o)).getD k 0=acc.getD k 0:=λ k hk=>by
     simp [Array.getD,hk,Nat.lt_succ_of_lt hk,Array.getElem_push_lt hk]
    by_cases hi:i<acc.size
    ·rw[l7 i hi]at mu
     obtain ⟨o',nr,e,he,hb,hor⟩:=hinv i j mu;refine ⟨o',by rw[List.getElem?_append_left (by omega)];exact nr,e,he,hb,hor.imp id λ⟨h1,h2⟩=>⟨h1,by rw[l7 e.on (by omega)];exact h2⟩⟩
    ·have Ag:i=acc.size:=by
      rcases Nat.lt_or_ge i (acc.push (inner acc o)).size with h1|h1
      ·simp at h1;omega
      ·have:(acc.push (inner acc o)).getD i 0=0:=by simp [Array.getD];intro h2;simp at h1;omega
       rw[this]at mu;simp at mu
     subst Ag;have fg:(acc.push (inner acc o)).getD acc.size 0=inner acc o:=by simp [Array.getD]
     rw[fg]at mu;obtain ⟨e,he,hb,hor⟩:=Xw acc o j mu;refine ⟨o,by rw[hs];simp,e,he,hb,hor.imp id λ h2 => ?_⟩;have l6:e.on<acc.size:=by
      rcases Nat.lt_or_ge e.on acc.size with h3|h3
      ·exact h3
      ·have:acc.getD e.on 0=0:=by simp [Array.getD];omega
       rw[this]at h2;simp at h2
     exact ⟨l6,by rw[l7 e.on l6];exact h2⟩
 have hb:Region.before ops=ops.toList.foldl (λ acc o=>acc.push (inner acc o)) #[]:=by
  unfold Region.before;rw[<-Array.foldl_toList];rfl
 rw[hb]at h ⊢;have:=key ops.toList [] #[] rfl (λ i j mu=>by simp at mu) i j h
 simpa using this
def Y2 (ops:Array Oper) (X:Nat->Bool):Prop := ∀ j o,X j=true->ops[j]? = some o -> ∀ e∈o.after,Region.binds .any e=true->X e.on=true
theorem Ic {X:Nat->Bool} (hX:Y2 ops X) : ∀ (i:Nat),(∀ o,ops[i]? = some o -> ∀ e∈o.after,Region.binds .any e=true->X e.on=true) -> ∀ j,((Region.before ops).getD i 0).testBit j=true->X j=true:=by
 intro i;induction i using Nat.strongRecOn with
 | ind i ih =>
  intro hi j hj;obtain ⟨o,ho,e,he,hb,hor⟩:=Ou i j hj;have hx:=hi o ho e he hb;rcases hor with h|⟨l6,h⟩
  ·rw[<-h];exact hx
  ·exact ih e.on l6 (λ o' nr e' eb g7=>hX e.on o' hx nr e' eb g7) j h
theorem Zk {X:Nat->Bool} (hX:Y2 ops X) {i j:Nat} (hi : ∀ o,ops[i]? = some o -> ∀ e∈o.after,Region.binds .any e=true->X e.on=true) (l6:j<i) (h:LM (Region.before ops) i j=true):X j=true:=by
 unfold LM at h;rw[Nat.max_eq_left (by omega),Nat.min_eq_right (by omega)]at h;exact Ic hX i hi j h
theorem Cf {X:Nat->Bool} (hX:Y2 ops X) {i j:Nat} (hj:X j=true) (l6:i<j) (h:LM (Region.before ops) i j=true):X i=true:=by
 unfold LM at h;rw[Nat.max_eq_right (by omega),Nat.min_eq_left (by omega)]at h;exact Ic hX j (λ o ho e he hb=>hX j o hj ho e he hb) i h
end
section
variable {C:Cl}
abbrev D:=(Nat->AV) × BT
structure GO where
 d:Option Nat
 g:Bool
 E:ED
 v:AV
def GO.own (r:GO) (o:BT):BT:=if r.g then r.E.s8 o else o
def GO.act (r:GO) (x:D):D:=(MJ x.1 r.d r.v,r.own x.2)
structure Y3 (C:Cl) (x:AI) (r:GO) (s s':St):Prop where
 d:r.d=x.dst
 g:OX (c9 s.tm) x.guard=some r.g
 E:r.g=true->c7 C x.b9 (HA (c9 s.tm)) s.own x.op=some r.E
 v:r.v=(if r.g then r.E.valOf s.own else .tup [])
 act:(c9 s'.tm,s'.own)=r.act (c9 s.tm,s.own)
theorem trace : ∀ {l:List AI} {st e9:St},FP C l st=some e9 -> ∃ (σ:Nat->St) (rs:List GO),σ 0=st/\σ l.length=e9/\rs.length=l.length /\ ∀ (k:Nat) (x:AI) (r:GO),l[k]? = some x->rs[k]? = some r->Y3 C x r (σ k) (σ (k+1))
 | [],st,e9,h=>by
  simp only[FP,Option.some.injEq]at h;subst h;exact ⟨λ_=>st,[],rfl,rfl,rfl,λ k x r hx=>by simp at hx⟩
 | o::q,st,e9,h=>by
  simp only[FP]at h;cases hs:FO C o st with
  | none=>simp [hs]at h
  | some CZ =>
   simp only[hs]at h;obtain ⟨σ,rs,h0,h1,hl,h2⟩:=trace h;obtain ⟨g,E,e1,e2,e3,e4⟩:=Hp hs;refine ⟨λ k=>match k with|0=>st|k+1=>σ k,⟨o.dst,g,E,if g then E.valOf st.own else .tup []⟩::rs,rfl,h1,by simp [hl],λ k x r hx hr => ?_⟩;cases k with
   | zero =>
    simp at hx hr;subst hx hr;refine ⟨rfl,e1,e2,rfl,?_⟩;show (c9 (σ 0).tm,(σ 0).own)=_;rw[h0,e3,e4];rfl
   | succ k=>exact h2 k x r (by simpa using hx) (by simpa using hr)
def GF (X:Nat->Bool):List GO->Nat->D->D
 | [],_,x=>x
 | r::rs,k,x=>GF X rs (k+1) (if X k then r.act x else x)
theorem nI (X:Nat->Bool) : ∀ (l l':List GO) (k:Nat) (x:D),GF X (l++l') k x=GF X l' (k+l.length) (GF X l k x)
 | [],l',k,x=>by simp [GF]
 | r::rs,l',k,x=>by
  simp only[List.cons_append,GF,List.length_cons];rw[nI X rs l' (k+1)];congr 1;omega
theorem yT {X Y:Nat->Bool} {t:Nat} : ∀ (l:List GO) (k:Nat) (x y:D),x.1 t=y.1 t->(∀ i r,l[i]? = some r->r.d=some t->X (k+i)=Y (k+i))->(GF X l k x).1 t=(GF Y l k y).1 t
 | [],k,x,y,h,_=>h
 | r::rs,k,x,y,h,ku=>by
  simp only[GF];refine yT rs (k+1) _ _ ?_ λ i r' hr hd=>by
   have:=ku (i+1) r' (by simpa using hr) hd
   rw[show k+1+i=k+(i+1) by omega];exact this
  by_cases hd:r.d=some t
  ·have hx:X k=Y k:=by simpa using ku 0 r rfl hd
   rw[hx];cases Y k
   ·simpa using h
   ·simp [GO.act,MJ,hd]
  ·have e1 : ∀ z:D,(r.act z).1 t=z.1 t:=λ z=>by simp [GO.act,MJ,hd]
   cases X k<;>cases Y k<;>simp [e1,h]
theorem Zl (E:ED) (s:Nat) (o o':BT) (h:o s=o' s):E.s8 o s=E.s8 o' s:=by
 cases E with
 | val v=>exact h
 | new s' b v =>
  simp only[ED.s8,BT.put];by_cases hs:s=s'
  ·subst hs;simp [h]
  ·simp [hs,h]
 | oi s' b v =>
  simp only[ED.s8,BT.put];by_cases hs:s=s'
  ·subst hs;simp [h]
  ·simp [hs,h]
 | af v o2=>rfl
 | km s' x v =>
  simp only[ED.s8,BT.put];by_cases hs:s=s'
  ·simp [hs]
  ·simp [hs,h]
 | n7 s' x =>
  simp only[ED.s8,BT.put];by_cases hs:s=s'
  ·simp [hs]
  ·simp [hs,h]
theorem yS {X Y:Nat->Bool} {s:Nat} : ∀ (l:List GO) (k:Nat) (x y:D),x.2 s=y.2 s->(∀ i r,l[i]? = some r->X (k+i)=Y (k+i) \/ ∀ o,r.own o s=o s)->(GF X l k x).2 s=(GF Y l k y).2 s
 | [],k,x,y,h,_=>h
 | r::rs,k,x,y,h,ku=>by
  simp only[GF];refine yS rs (k+1) _ _ ?_ λ i r' hr=>by
   have:=ku (i+1) r' (by simpa using hr)
   rw[show k+1+i=k+(i+1) by omega];exact this
  rcases ku 0 r rfl with hx|hx
  ·simp only[Nat.add_zero]at hx
   rw[hx];cases Y k
   ·simpa using h
   ·simp only[if_true,GO.act,GO.own]
    cases r.g
    ·simpa using h
    ·simpa using Zl r.E s _ _ h
  ·have e1 : ∀ z:D,(r.act z).2 s=z.2 s:=λ z=>hx z.2
   cases X k<;>cases Y k<;>simp [e1,h]
theorem nJ {X:Nat->Bool} (q:GO) : ∀ (l:List GO) (k:Nat) (x:D),(∀ i r,l[i]? = some r->X (k+i)=true -> ∀ z,r.act (q.act z)=q.act (r.act z))->GF X l k (q.act x)=q.act (GF X l k x)
 | [],k,x,_=>rfl
 | r::rs,k,x,h=>by
  simp only[GF];have aj : ∀ i r',rs[i]? = some r'->X (k+1+i)=true -> ∀ z,r'.act (q.act z)=q.act (r'.act z):=λ i r' hr hX=>h (i+1) r' (by simpa using hr) (by rw[show k+(i+1)=k+1+i by omega];exact hX)
  cases hk:X k
  ·simp only[Bool.false_eq_true,if_false]
   exact nJ q rs (k+1) x aj
  ·simp only[if_true]
   rw[h 0 r rfl (by simpa using hk)];exact nJ q rs (k+1) _ aj
theorem gV {X Y:Nat->Bool} : ∀ (l:List GO) (k:Nat) (x:D),(∀ i,i<l.length->X (k+i)=Y (k+i))->GF X l k x=GF Y l k x
 | [],_,_,_=>rfl
 | r::rs,k,x,h=>by
  simp only[GF];rw[show X k=Y k by simpa using h 0 (by simp)];exact gV rs (k+1) _ λ i hi=>by
   have:=h (i+1) (by simpa using hi)
   rw[show k+1+i=k+(i+1) by omega];exact this
theorem yR {X X':Nat->Bool} {l:List GO} {i:Nat} {q:GO} (hq:l[i]? = some q) (fq:X i=false) (mq : ∀ j,X' j=(decide (j=i)||X j)) (x:D) (uq : ∀ j r,l[j]? = some r->i<j->X j=true -> ∀ z,r.act (q.act z)=q.act (r.act z)) :
  GF X' l 0 x=q.act (GF X l 0 x):=by
 have hil:i<l.length:=(zS hq).1;have Je:l=l.take i++(q::l.drop (i+1)):=by
  have:l.drop i=q::l.drop (i+1):=by
   rw[List.drop_eq_getElem_cons hil];congr 1;have:=(zS hq).2
   exact this
  rw[<-this,List.take_append_drop]
 have htl:(l.take i).length=i:=by simp;omega
 rw[Je,nI,nI,htl,Nat.zero_add];simp only[GF,fq,Bool.false_eq_true,if_false];rw[show X' i=true by rw[mq];simp];simp only[if_true];rw[gV (X:=X') (Y:=X) (l.take i) 0 x (λ j hj=>by rw[mq];simp;omega)];rw[gV (X:=X') (Y:=X) (l.drop (i+1)) (i+1) _ (λ j hj=>by rw[mq];simp;omega)];refine nJ q _ _ _ λ j r hr zn => ?_
 rw[List.getElem?_drop]at hr;exact uq (i+1+j) r hr (by omega) zn
end
end Go.Eng

namespace Go.Eng
open Go.RowKit
section
variable {C:Cl} {b9:List Nat} {ρ:B8->AV}
theorem Tc {op:GN} (o o':BT) (ht:JI op=false) (hr:dF op=true->o.m4 b9=o'.m4 b9) (hst : ∀ s,G6 op=some s->o s=o' s):c7 C b9 ρ o op=c7 C b9 ρ o' op:=by
 cases op with
 | gu s n x v =>
  have h1:=hst s rfl;have h2 : ∀ t i j vs,(o.fm s t i j vs).map (λ q=>ED.n7 s (q s))=(o'.fm s t i j vs).map (λ q=>ED.n7 s (q s)):=λ t i j vs=>by
   have hg:o.get s t=o'.get s t:=by unfold BT.get;rw[h1]
   unfold BT.fm;rw[hg];cases o'.get s t with
   | none=>rfl
   | some b =>
    simp only;cases b.es[i]? with
    | none=>rfl
    | some cs =>
     simp only;split
     ·simp only[Option.map_some,BT.e7,h1]
     ·rfl
  simp only[c7,h2]
 | al s a6 bytes x y =>
  have h1:=hst s rfl;have hg : ∀ t,o.get s t=o'.get s t:=λ t=>by unfold BT.get;rw[h1]
  simp only[c7,hg,BT.e5,h1]
 | ld agg n x=>have:=hr rfl;simp only[c7,this]
 | call f xs=>have:=hr rfl;simp only[c7,this]
 | o0 s f xs=>have:=hr rfl;simp only[c7,this]
 | x9 s f xs=>have h1:=hst s rfl;simp only[c7,h1]
 | st=>simp [JI]at ht
 | app=>simp [JI]at ht
 | iq=>simp [JI]at ht
 | c8=>simp [JI]at ht
 | n8=>simp [JI]at ht
 | _=>rfl
theorem wO {op:GN} {o:BT} {E:ED} (h:c7 C b9 ρ o op=some E) {s:Nat} (hs:G6 op=some s):(∃ b v,E = .new s b v\/E = .oi s b v) \/ ∃ x v,E = .n7 s x\/E = .km s x v:=by
 cases op with
 | al s' a6 bytes x y =>
  simp only[G6,Option.some.injEq]at hs;subst hs;simp only[c7]at h;split at h
  ·split at h
   ·split at h
    ·simp only[Option.some.injEq]at h;exact .inr ⟨_,_,.inr h.symm⟩
    ·cases h
   ·cases h
  ·cases h
 | gu s' n x v =>
  simp only[G6,Option.some.injEq]at hs;subst hs;simp only[c7]at h;split at h
  ·split at h
   ·simp only[Option.map_eq_some_iff]at h
    obtain ⟨q,_,rfl⟩:=h;exact .inr ⟨_,.any,.inl rfl⟩
   ·cases h
  ·cases h
 | o0 s' f xs =>
  simp only[G6,Option.some.injEq]at hs;subst hs;simp only[c7]at h;split at h
  ·simp only[Option.map_eq_some_iff]at h
   obtain ⟨r,_,rfl⟩:=h;exact .inl ⟨_,_,.inl rfl⟩
  ·cases h
 | gv s' a6 bytes x y =>
  simp only[G6,Option.some.injEq]at hs;subst hs;simp only[c7]at h;split at h
  ·split at h
   ·simp only[Option.some.injEq]at h;exact .inl ⟨_,_,.inl h.symm⟩
   ·cases h
  ·cases h
 | x9 s' f xs =>
  simp only[G6,Option.some.injEq]at hs;subst hs;simp only[c7,Option.map_eq_some_iff]at h;obtain ⟨p,_,rfl⟩:=h;exact .inr ⟨_,_,.inr rfl⟩
 | il s' a6 bytes x y =>
  simp only[G6,Option.some.injEq]at hs;subst hs;simp only[c7]at h;split at h
  ·split at h
   ·simp only[Option.some.injEq]at h;exact .inl ⟨_,_,.inl h.symm⟩
   ·cases h
  ·cases h
 | q7 s' z =>
  simp only[G6,Option.some.injEq]at hs;subst hs;simp only[c7,Option.some.injEq]at h;exact .inl ⟨_,_,.inr h.symm⟩
 | box s' x =>
  simp only[G6,Option.some.injEq]at hs;subst hs;simp only[c7]at h;split at h
  ·simp only[Option.some.injEq]at h;exact .inl ⟨_,_,.inl h.symm⟩
  ·cases h
 | alloc s' z =>
  simp only[G6,Option.some.injEq]at hs;subst hs;simp only[c7,Option.some.injEq]at h;exact .inl ⟨_,_,.inl h.symm⟩
 | c4 s' a6 ps =>
  simp only[G6,Option.some.injEq]at hs;subst hs;simp only[c7]at h;split at h
  ·split at h
   ·simp only[Option.some.injEq]at h;exact .inl ⟨_,_,.inl h.symm⟩
   ·cases h
  ·cases h
 | mk s' a6 bytes z l c =>
  simp only[G6,Option.some.injEq]at hs;subst hs;simp only[c7]at h;split at h
  ·split at h
   ·simp only[Option.some.injEq]at h;exact .inl ⟨_,_,.inl h.symm⟩
   ·cases h
  ·cases h
 | _=>simp [G6]at hs
theorem oF {α:Type} {x:Option α} {f:α->AV} {E:ED} (h:x.map (λ y=>ED.val (f y))=some E) : ∃ v,E = .val v:=by
 cases x with
 | none=>cases h
 | some y=>simp only[Option.map_some,Option.some.injEq]at h;exact ⟨_,h.symm⟩
theorem wP {op:GN} {o:BT} {E:ED} (h:c7 C b9 ρ o op=some E) (ht:JI op=false) (hs:G6 op=none) : ∃ v,E = .val v:=by
 cases op<;>first|(simp [JI]at ht;done)|(simp [G6]at hs;done)|skip
 all_goals simp only[c7]at h
 all_goals
  first
   | (simp only[Option.some.injEq]at h;exact ⟨_,h.symm⟩)
   | exact oF (f:=id) h
   | skip
 all_goals (repeat' split at h)
 all_goals
  first
   | (cases h;done)
   | (simp only[Option.some.injEq]at h;exact ⟨_,h.symm⟩)
   | exact oF (f:=id) h
   | exact oF (f:=AV.agg) h
   | (simp only[Option.map_eq_some_iff]at h;obtain ⟨cs,_,rfl⟩:=h;exact ⟨_,rfl⟩)
theorem YD {x:AI} {r:GO} {s s':St} (h:Y3 C x r s s') (ht:JI x.op=false) (hs:G6 x.op=none) (o:BT):r.own o=o:=by
 unfold GO.own;cases hg:r.g with
 | false=>rfl
 | true =>
  obtain ⟨v,hv⟩:=wP (h.E hg) ht hs;simp [hv,ED.s8]
theorem pH {x:AI} {r:GO} {s s':St} (h:Y3 C x r s s') {q:Nat} (hs:G6 x.op=some q):(∀ o,r.own o=o) \/ ∃ F:D9->D9,∀ o:BT,r.own o=o.put q (F (o q)):=by
 unfold GO.own;cases hg:r.g with
 | false=>exact .inl λ_=>rfl
 | true =>
  rcases wO (h.E hg) hs with ⟨b,v,hv|hv⟩|⟨x,v,hv|hv⟩
  ·exact .inr ⟨λ q=>q.new b,λ o=>by simp [hv,ED.s8]⟩
  ·exact .inr ⟨λ q=>q.new b,λ o=>by simp [hv,ED.s8]⟩
  ·exact .inr ⟨λ_=>x,λ o=>by simp [hv,ED.s8]⟩
  ·exact .inr ⟨λ_=>x,λ o=>by simp [hv,ED.s8]⟩
theorem Ft {x:AI} {r:GO} {s s':St} (h:Y3 C x r s s') {q:Nat} (hs:G6 x.op=some q) {p:Nat} (hp:p≠q) (o:BT):r.own o p=o p:=by
 rcases pH h hs with h1|⟨b,h1⟩
 ·rw[h1]
 ·rw[h1];simp [BT.put,hp]
theorem Ce (b:Array Nat) (i j:Nat):LM b i j=LM b j i:=by unfold LM;rw[Nat.max_comm,Nat.min_comm]
theorem XH {ops:Array Oper} {l:List AI} (h:XG ops l=true) {i j:Nat} {x y:AI} (hx:l[i]? = some x) (hy:l[j]? = some y) (hne:i≠j) :
  (LM (Region.before ops) i j=true\/((∀ t,y.dst=some t->t ∉ ZW x)/\(JI x.op=false\/N6 y.op=false)/\(dF x.op=true -> ∀ s,G6 y.op=some s->s∈x.b9))) /\
  (LM (Region.before ops) i j=true \/ ∀ s s',G6 x.op=some s->G6 y.op=some s'->s≠s'):=by
 simp only[XG,Bool.and_eq_true]at h;have h1:=h.1.1;rw[List.all_eq_true]at h1;have hxm:(x,i)∈l.zipIdx:=List.mem_zipIdx_iff_getElem?.2 hx;have hym:(y,j)∈l.zipIdx:=List.mem_zipIdx_iff_getElem?.2 hy;have h2:=h1 (x,i) hxm;simp only at h2;rw[List.all_eq_true]at h2;have h3:=h2 (y,j) hym;simp only[Bool.and_eq_true,Bool.or_eq_true,beq_iff_eq,hne,false_or]at h3;obtain ⟨h4,h5⟩:=h3;refine ⟨?_,h5.imp id λ h5 s s' hs hs' => ?_⟩
 ·unfold Cn at h4
  simp only[Bool.or_eq_true,beq_iff_eq,hne,false_or]at h4;refine h4.imp id λ h6 => ?_
  simp only[Bool.and_eq_true,Bool.or_eq_true,Bool.not_eq_true']at h6;obtain ⟨⟨h7,h8⟩,h9⟩:=h6;refine ⟨λ t ht => ?_,h8,λ hr s hs => ?_⟩
  ·rw[ht]at h7
   simpa using h7
  ·rw[hr,hs]at h9
   simpa using h9
 ·rw[hs,hs']at h5
  simpa using h5
structure eA (C:Cl) (ops:Array Oper) (l:List AI) (σ:Nat->St) (rs:List GO):Prop where
 ok:XG ops l=true
 len:rs.length=l.length
 fits : ∀ (k:Nat) (x:AI) (r:GO),l[k]? = some x->rs[k]? = some r->Y3 C x r (σ k) (σ (k+1))
variable {ops:Array Oper} {l:List AI} {σ:Nat->St} {rs:List GO}
theorem nK {X:Nat->Bool} : ∀ (l:List GO) (k:Nat) (x:D),(∀ i,i<l.length->X (k+i)=false)->GF X l k x=x
 | [],_,_,_=>rfl
 | r::q,k,x,h=>by
  simp only[GF];rw[show X k=false by simpa using h 0 (by simp)];exact nK q (k+1) _ λ i hi=>by
   have:=h (i+1) (by simpa using hi)
   rw[show k+1+i=k+(i+1) by omega];exact this
def d0 (σ:Nat->St):D:=(c9 (σ 0).tm,(σ 0).own)
theorem lW (h:eA C ops l σ rs) : ∀ k,k<=l.length->GF (λ j=>decide (j<k)) rs 0 (d0 σ)=(c9 (σ k).tm,(σ k).own)
 | 0,_=>nK rs 0 _ λ i _=>by simp
 | k+1,hk=>by
  have hkl:k<l.length:=by omega
  have hkr:k<rs.length:=by rw[h.len];exact hkl
  have hr:rs[k]? = some rs[k]:=zE hkr;have hf:=h.fits k l[k] rs[k] (zE hkl) hr;rw[yR (X:=λ j=>decide (j<k)) (X':=λ j=>decide (j<k+1)) hr (by simp) (λ j=>by
   by_cases h1:j=k
   ·simp [h1]
   ·simp [h1];omega) _ (λ j r' _ l6 hX=>by simp at hX;omega),lW h k (by omega)]
  exact hf.act.symm
section
variable {X:Nat->Bool} {i:Nat} {x:AI} {r:GO}
theorem Cg (hX:Y2 ops X) (fq:X i=false) (au : ∀ o,ops[i]? = some o -> ∀ e∈o.after,Region.binds .any e=true->X e.on=true) {j:Nat} (hne:i≠j) (ho:LM (Region.before ops) i j=true):X j=decide (j<i):=by
 rcases Nat.lt_or_gt_of_ne hne with l6|jv
 ·have:X j=false:=by
   cases hj:X j with
   | false=>rfl
   | true=>have:=Cf hX hj l6 ho;rw[fq]at this;cases this
  rw[this];simp;omega
 ·rw[Zk hX au jv ho];simp;omega
theorem Uu (h:eA C ops l σ rs) (hx:l[i]? = some x) (hr:rs[i]? = some r) (hX:Y2 ops X) (fq:X i=false) (au : ∀ o,ops[i]? = some o -> ∀ e∈o.after,Region.binds .any e=true->X e.on=true) :
  OX (GF X rs 0 (d0 σ)).1 x.guard=some r.g/\(r.g=true->c7 C x.b9 (HA (GF X rs 0 (d0 σ)).1) (GF X rs 0 (d0 σ)).2 x.op=some r.E) /\
  (if r.g then r.E.valOf (GF X rs 0 (d0 σ)).2 else .tup [])=r.v /\
  ∀ X':Nat->Bool,(∀ j,X' j=(decide (j=i)||X j))->GF X' rs 0 (d0 σ)=r.act (GF X rs 0 (d0 σ)):=by
 have hil:i<l.length:=(zS hx).1;have hf:=h.fits i x r hx hr;have pk:=lW h i (by omega);generalize hT:GF X rs 0 (d0 σ)=TX;have hat : ∀ (j:Nat) (r':GO),rs[j]? = some r' -> ∃ y,l[j]? = some y/\Y3 C y r' (σ j) (σ (j+1)):=λ j r' hj=>by
  have hjl:j<l.length:=by rw[<-h.len];exact (zS hj).1
  exact ⟨l[j],zE hjl,h.fits j _ _ (zE hjl) hj⟩
 have pg : ∀ t∈ZW x,TX.1 t=c9 (σ i).tm t:=λ t ht=>by
  have:=yT (X:=X) (Y:=λ j=>decide (j<i)) (t:=t) rs 0 (d0 σ) (d0 σ) rfl (λ j r' hj hd=>by
   simp only[Nat.zero_add];by_cases hne:i=j
   ·subst hne;simp [fq]
   ·obtain ⟨y,hy,cu⟩:=hat j r' hj
    rcases (XH h.ok hx hy hne).1 with ho|⟨h1,_⟩
    ·exact Cg hX fq au hne ho
    ·exact absurd ht (h1 t (by rw[<-cu.d];exact hd)))
  rw[hT,pk]at this;exact this
 have wm : ∀ t∈IZ x.op,TX.1 t=c9 (σ i).tm t:=λ t ht=>pg t (by simp [ZW,ht])
 have bp : ∀ s,(∀ (j:Nat) (y:AI) (r':GO),i≠j->l[j]? = some y->rs[j]? = some r'->LM (Region.before ops) i j=true \/ ∀ o,r'.own o s=o s)->TX.2 s=(σ i).own s:=λ s hs=>by
  have:=yS (X:=X) (Y:=λ j=>decide (j<i)) (s:=s) rs 0 (d0 σ) (d0 σ) rfl (λ j r' hj=>by
   simp only[Nat.zero_add];by_cases hne:i=j
   ·subst hne;left;simp [fq]
   ·obtain ⟨y,hy,cu⟩:=hat j r' hj
    rcases hs j y r' hne hy hj with ho|ho
    ·exact .inl (Cg hX fq au hne ho)
    ·exact .inr ho)
  rw[hT,pk]at this;exact this
 have gd : ∀ (j:Nat) (y:AI) (r':GO),l[j]? = some y->rs[j]? = some r'->N6 y.op=false -> ∀ o,r'.own o=o:=λ j y r' hy hj hm o=>by
  simp only[N6,Bool.or_eq_false_iff]at hm;exact YD (h.fits j y r' hy hj) hm.1.1 (by simpa using hm.2) o
 have vz : ∀ (j:Nat) (y:AI),i≠j->l[j]? = some y->JI y.op=true->N6 x.op=true->LM (Region.before ops) i j=true:=λ j y hne hy ht ek=>by
  rcases (XH h.ok hy hx (Ne.symm hne)).1 with ho|⟨_,h2,_⟩
  ·rw[Ce];exact ho
  ·rw[ht,ek]at h2;simp at h2
 have hg:OX TX.1 x.guard=some r.g:=by
  rw[<-hf.g];cases tc:x.guard with
  | none=>rfl
  | some gw =>
   obtain ⟨g,w⟩:=gw;simp only[OX];rw[pg g (by simp [ZW,tc])]
 have po:JI x.op=true->TX.2=(σ i).own:=λ ht=>by
  funext s
  refine bp s λ j y r' hne hy hj => ?_
  cases hm:N6 y.op with
  | false=>exact .inr λ o=>by rw[gd j y r' hy hj hm o]
  | true =>
   rcases (XH h.ok hx hy hne).1 with ho|⟨_,h2,_⟩
   ·exact .inl ho
   ·rw[ht,hm]at h2;simp at h2
 have vt:dF x.op=true->TX.2.m4 x.b9=(σ i).own.m4 x.b9:=λ iy=>by
  refine Xo λ s hs=>bp s λ j y r' hne hy hj => ?_
  have ek:N6 x.op=true:=by simp [N6,iy]
  cases ht:JI y.op with
  | true=>exact .inl (vz j y hne hy ht ek)
  | false =>
   cases ft:G6 y.op with
   | none=>exact .inr λ o=>by rw[YD (h.fits j y r' hy hj) ht ft o]
   | some q =>
    rcases (XH h.ok hx hy hne).1 with ho|⟨_,_,h3⟩
    ·exact .inl ho
    ·exact .inr λ o=>Ft (h.fits j y r' hy hj) ft (p:=s) (λ e=>hs (by rw[e];exact h3 iy q ft)) o
 have pe : ∀ s,G6 x.op=some s->TX.2 s=(σ i).own s:=λ s mf=>by
  have ek:N6 x.op=true:=by simp [N6,mf]
  exact bp s λ j y r' hne hy hj=>by
   cases ht:JI y.op with
   | true=>exact .inl (vz j y hne hy ht ek)
   | false =>
    cases ft:G6 y.op with
    | none=>exact .inr λ o=>by rw[YD (h.fits j y r' hy hj) ht ft o]
    | some q =>
     rcases (XH h.ok hx hy hne).2 with ho|ru
     ·exact .inl ho
     ·exact .inr λ o=>Ft (h.fits j y r' hy hj) ft (ru s q mf ft) o
 have Ad:r.g=true->c7 C x.b9 (HA TX.1) TX.2 x.op=some r.E:=λ ae=>by
  rw[Sz wm,<-hf.E ae];cases ht:JI x.op with
  | true=>rw[po ht]
  | false=>exact Tc _ _ ht vt pe
 have hval:(if r.g then r.E.valOf TX.2 else .tup [])=r.v:=by
  rw[hf.v];cases Ix:r.g with
  | false=>rfl
  | true =>
   simp only[if_true];cases mf:G6 x.op with
   | none =>
    cases ht:JI x.op with
    | true=>rw[po ht]
    | false =>
     obtain ⟨v,hv⟩:=wP (hf.E Ix) ht mf;rw[hv];rfl
   | some s =>
    have ru:=pe s mf;rcases wO (hf.E Ix) mf with ⟨b,v,hv|hv⟩|⟨x,v,hv|hv⟩<;>rw[hv]<;>simp only[ED.valOf,BT.e5,ru]
 refine ⟨hg,Ad,hval,λ X' mq => ?_⟩;rw[<-hT];refine yR hr fq mq _ λ j r' hj l6 zn z => ?_
 obtain ⟨y,hy,cu⟩:=hat j r' hj;have hne:i≠j:=by omega
 have Ao : ¬ LM (Region.before ops) i j=true:=λ ho=>by
  have:=Cf hX zn l6 ho
  rw[fq]at this;cases this
 obtain ⟨As,tf⟩:=XH h.ok hx hy hne;obtain ⟨nv,tj⟩:=XH h.ok hy hx (Ne.symm hne);have hp:=As.resolve_left Ao;have hq:=nv.resolve_left (by rw[Ce];exact Ao);unfold GO.act;refine Prod.ext ?_ ?_
 ·funext t
  simp only[MJ];by_cases h1:r'.d=some t<;>by_cases h2:r.d=some t
  ·exact absurd (by rw[hf.d]at h2;simp [ZW,h2]) (hp.1 t (by rw[<-cu.d];exact h1))
  ·simp [h1,h2]
  ·simp [h1,h2]
  ·simp [h1,h2]
 ·show r'.own (r.own z.2)=r.own (r'.own z.2)
  cases ek:N6 x.op with
  | false=>rw[gd i x r hx hr ek,gd i x r hx hr ek]
  | true =>
   cases np:N6 y.op with
   | false=>rw[gd j y r' hy hj np,gd j y r' hy hj np]
   | true =>
    have yi:JI x.op=false:=by
     rcases hp.2.1 with h1|h1
     ·exact h1
     ·rw[np]at h1;cases h1
    have Jm:JI y.op=false:=by
     rcases hq.2.1 with h1|h1
     ·exact h1
     ·rw[ek]at h1;cases h1
    cases mf:G6 x.op with
    | none=>rw[YD hf yi mf,YD hf yi mf]
    | some s =>
     cases ft:G6 y.op with
     | none=>rw[YD cu Jm ft,YD cu Jm ft]
     | some s' =>
      have ru:=(tf.resolve_left Ao) s s' mf ft;rcases pH hf mf with h1|⟨b,h1⟩
      ·rw[h1,h1]
      ·rcases pH cu ft with h2|⟨b',h2⟩
       ·rw[h2,h2]
       ·rw[h1,h2,h2,h1]
        funext q
        simp only[BT.put];by_cases Aw:q=s<;>by_cases rl:q=s'
        ·exact absurd (Aw.symm.trans rl) ru
        ·simp [Aw,ru]
        ·simp [rl,Ne.symm ru]
        ·simp [Aw,rl]
end
end
end Go.Eng

namespace Go.Eng
open Go.RowKit
section
variable {ops:Array Oper} {md:Region.Mode}
theorem Oy {e:Edge} (h:Region.binds .any e=true) (md:Region.Mode):Region.binds md e=true:=by
 unfold Region.binds at *;split at h<;>simp_all
theorem Ec (ops:Array Oper) (md:Region.Mode) : ∀ (fuel t:Nat) (b8:Array Bool),b8.size=ops.size -> ∀ (k i:Nat),(Region.linearise.go md ops fuel t b8 [])[k]? = some i ->
  ∃ o,ops[i]? = some o /\ ∀ e∈o.after,Region.binds md e=true->b8.getD e.on false=true\/e.on∈(Region.linearise.go md ops fuel t b8 []).take k
 | 0,t,b8,hs,k,i,h=>by simp [Region.linearise.go]at h
 | fuel+1,t,b8,hs,k,i,h=>by
  have jn:Region.linearise.go md ops (fuel+1) t b8 []=match (Region.ready md ops b8)[t%(Region.ready md ops b8).length]? with
   | some i=>i::Region.linearise.go md ops fuel (t/(Region.ready md ops b8).length) (b8.setIfInBounds i true) []
   | none=>[]:=by
   simp only[Region.linearise.go];change (match (Region.ready md ops b8)[t%(Region.ready md ops b8).length]? with
    | some i=>Region.linearise.go md ops fuel (t/(Region.ready md ops b8).length) (b8.setIfInBounds i true) [i]
    | none=>[].reverse)=_
   cases (Region.ready md ops b8)[t%(Region.ready md ops b8).length]? with
   | none=>rfl
   | some i=>simp only[];rw[linearise_go_acc];rfl
  rw[jn]at h ⊢;cases hr:(Region.ready md ops b8)[t%(Region.ready md ops b8).length]? with
  | none=>rw[hr]at h;simp at h
  | some q =>
   rw[hr]at h;simp only at h ⊢;obtain ⟨_,oq,hoq,hq⟩:=mem_ready.1 (zM hr);cases k with
   | zero =>
    simp at h;subst h;exact ⟨oq,hoq,λ e he hb => .inl (hq e he hb)⟩
   | succ k =>
    simp at h;obtain ⟨o,ho,hh⟩:=Ec ops md fuel _ _ (by simpa using hs) k i h;refine ⟨o,ho,λ e he hb => ?_⟩;rcases hh e he hb with h1|h1
    ·by_cases heq:e.on=q
     ·right;simp [heq]
     ·left
      rw[getD_set_ne false (Ne.symm heq)]at h1;exact h1
    ·right;simp [h1]
theorem nE {p:Nat->Bool} : ∀ (l:List Nat),(∃ i∈l,p i=false) -> ∃ k i,l[k]? = some i/\p i=false /\ ∀ j∈l.take k,p j=true
 | [],⟨i,hi,_⟩=>by simp at hi
 | x::r,⟨i,hi,hp⟩=>by
  cases hx:p x with
  | false=>exact ⟨0,x,rfl,hx,by simp⟩
  | true =>
   have : ∃ i∈r,p i=false:=by
    rcases List.mem_cons.1 hi with h|h
    ·subst h;rw[hx]at hp;cases hp
    ·exact ⟨i,h,hp⟩
   obtain ⟨k,j,h1,h2,h3⟩:=nE r this;refine ⟨k+1,j,by simpa using h1,h2,λ q hq => ?_⟩;simp only[List.take_succ_cons,List.mem_cons]at hq;rcases hq with h|h
   ·subst h;exact hx
   ·exact h3 q h
theorem progress {l:List AI} (hd:XG ops l=true) (vg:md = .gc->Region.departs ops=true) {b8:Array Bool} (hs:b8.size=ops.size) (hr:Region.ready md ops b8=[]) : ∀ j,j<ops.size->b8.getD j false=true:=by
 intro j hj;cases hjl:b8.getD j false with
 | true=>rfl
 | false =>
  exfalso;simp only[XG,Bool.and_eq_true]at hd;obtain ⟨⟨_,fx⟩,lq⟩:=hd;have gq : ∀ i,i<ops.size->b8.getD i false=false -> ¬ ∀ o,ops[i]? = some o -> ∀ e∈o.after,Region.binds md e=true->b8.getD e.on false=true:=λ i hi hl qp=>by
   have:i∈Region.ready md ops b8:=mem_ready.2 ⟨by
    have:i<b8.size:=by omega
    simp [Array.getD,this]at hl ⊢;exact hl,ops[i],Array.getElem?_eq_getElem hi,λ e he hb=>qp ops[i] (Array.getElem?_eq_getElem hi) e he hb⟩
   rw[hr]at this;simp at this
  by_cases ta:md = .gc
  ·subst ta
   rw[vg rfl]at lq;simp only[Bool.not_true,Bool.false_or,List.all_eq_true,List.mem_range,List.contains_iff_mem]at lq;obtain ⟨k,i,h1,h2,h3⟩:=nE (p:=λ q=>b8.getD q false) (Region.linearise .gc ops 0) ⟨j,lq j hj,hjl⟩;obtain ⟨o,ho,hh⟩:=Ec ops .gc ops.size 0 (Array.replicate ops.size false) (by simp) k i h1;have hi:i<ops.size:=(Array.getElem?_eq_some_iff.1 ho).1;refine gq i hi h2 λ o' nr e he hb => ?_
   rw[ho]at nr;obtain rfl:o=o':=by simpa using nr
   rcases hh e he hb with h4|h4
   ·simp [Array.getD]at h4
   ·exact h3 e.on h4
  ·obtain ⟨k,i,h1,h2,h3⟩:=nE (p:=λ q=>b8.getD q false) (List.range ops.size) ⟨j,by simpa using hj,hjl⟩
   have hik:i=k:=by
    have hkl:k<ops.size:=by have:=(zS h1).1;simpa using this
    rw[List.getElem?_range hkl]at h1;simpa using h1.symm
   subst hik;have hi:i<ops.size:=by have:=(zS h1).1;simpa using this
   refine gq i hi h2 λ o ho e he hb => ?_
   rw[List.all_eq_true]at fx;have jx:(o,i)∈ops.toList.zipIdx:=List.mem_zipIdx_iff_getElem?.2 (by simpa using ho);have h4:=fx (o,i) jx;simp only[Array.all_eq_true_iff_forall_mem,Bool.or_eq_true,decide_eq_true_eq]at h4;rcases h4 e he with h5|h5
   ·exact h3 e.on (by rw[List.take_range];simp;omega)
   ·exfalso
    unfold Region.binds at hb;split at h5
    ·rename_i row o9
     rw[o9]at hb;simp at hb;exact ta hb
    ·cases h5
variable {B:Nat} {S:Nat->Prop} {w0:World} {m0:M} {N:Nat}
variable {P:Program} {num:Nat->Nat} {C:Cl} {Q:Exit->Act->World->Prop}
def YQ (b8:Array Bool) (n:Nat):Nat:=(List.range n).countP (λ j => !b8.getD j false)
theorem uV {α:Type} {p q:α->Bool} : ∀ {l:List α} {x:α},(∀ y∈l,q y=true->p y=true)->x∈l->p x=true->q x=false->l.countP q<l.countP p
 | [],x,_,hx,_,_=>by simp at hx
 | y::r,x,h,hx,hp,hq=>by
  have hle:r.countP q<=r.countP p:=List.countP_mono_left λ z hz hqz=>h z (by simp [hz]) hqz
  rw[List.countP_cons,List.countP_cons];rcases List.mem_cons.1 hx with rfl|hx
  ·simp only[hp,hq,if_true,Bool.false_eq_true,if_false]
   omega
  ·have:=uV (l:=r) (λ z hz=>h z (by simp [hz])) hx hp hq
   by_cases Ax:q y=true
   ·simp only[Ax,h y (by simp) Ax,if_true];omega
   ·simp only[Ax,Bool.false_eq_true,if_false]
    split<;>omega
theorem Alw (hC:KX P num C) {l:List AI} (hok:VF P num N ops ops.toList l=true) {σ:Nat->St} {rs:List GO} (h:eA C ops l σ rs) (vg:md = .gc->Region.departs ops=true)
  (hQ : ∀ m' a',m'.own=(σ l.length).own->IH B S w0 m0 N (c9 (σ l.length).tm) m' a'->Q .normal a' m'.w) :
  ∀ (fuel:Nat) (b8:Array Bool) (a:Act) (m:M),b8.size=ops.size->YQ b8 ops.size<=fuel->Y2 ops (λ j=>b8.getD j false)->m.own=(GF (λ j=>b8.getD j false) rs 0 (d0 σ)).2->IH B S w0 m0 N (GF (λ j=>b8.getD j false) rs 0 (d0 σ)).1 m a->wpAny P md ops Q fuel b8 a m.w:=by
 have hlen:ops.size=l.length:=by have:=(cU hok).1;simpa using this
 have final : ∀ (b8:Array Bool) (a:Act) (m:M),(∀ j,j<ops.size->b8.getD j false=true)->m.own=(GF (λ j=>b8.getD j false) rs 0 (d0 σ)).2->IH B S w0 m0 N (GF (λ j=>b8.getD j false) rs 0 (d0 σ)).1 m a->Q .normal a m.w:=λ b8 a m qp e8 hf=>by
  have:GF (λ j=>b8.getD j false) rs 0 (d0 σ)=(c9 (σ l.length).tm,(σ l.length).own):=by
   rw[<-lW h l.length (Nat.le_refl _)];refine gV rs 0 _ λ i hi => ?_
   simp only[Nat.zero_add];rw[qp i (by rw[hlen,<-h.len];exact hi)];simp;rw[<-h.len];exact hi
  rw[this]at e8 hf;exact hQ m a e8 hf
 have ua : ∀ b8:Array Bool,YQ b8 ops.size<=0 -> ∀ j,j<ops.size->b8.getD j false=true:=λ b8 h0 j hj=>by
  have h1:YQ b8 ops.size=0:=by omega
  unfold YQ at h1;rw[List.countP_eq_zero]at h1;simpa using h1 j (by simpa using hj)
 intro fuel;induction fuel with
 | zero =>
  intro b8 a m o7 hn zz e8 hf;refine ⟨?_,final b8 a m (ua b8 hn) e8 hf⟩;cases hr:Region.ready md ops b8 with
  | nil=>rfl
  | cons i r =>
   obtain ⟨h1,o,ho,_⟩:=mem_ready.1 (show i∈Region.ready md ops b8 by rw[hr];simp);have hi:i<ops.size:=(Array.getElem?_eq_some_iff.1 ho).1;have h2:=ua b8 hn i hi;have hil:i<b8.size:=by omega
   simp [Array.getD,hil]at h1 h2;rw[h1]at h2;cases h2
 | succ fuel ih =>
  intro b8 a m o7 hn zz e8 hf;refine ⟨λ hr=>final b8 a m (progress h.ok vg o7 hr) e8 hf,λ i hi => ?_⟩;obtain ⟨h1,o,ho,rb⟩:=mem_ready.1 hi;have hio:i<ops.size:=(Array.getElem?_eq_some_iff.1 ho).1;have hil:i<b8.size:=by omega
  have ia:b8.getD i false=false:=by
   simp [Array.getD,hil]at h1 ⊢;exact h1
  have nn:i<l.length:=by omega
  have hrl:i<rs.length:=by rw[h.len];exact nn
  have hx:l[i]? = some l[i]:=zE nn;have hr:rs[i]? = some rs[i]:=zE hrl;have au : ∀ o',ops[i]? = some o' -> ∀ e∈o'.after,Region.binds .any e=true->b8.getD e.on false=true:=λ o' nr e he hb=>by
   rw[ho]at nr;obtain rfl:o=o':=by simpa using nr
   exact rb e he (Oy hb md)
  obtain ⟨g1,g2,g3,g4⟩:=Uu h hx hr zz ia au;have Ar:=(cU hok).2 i o l[i] (by simpa using ho) hx;have mq : ∀ j,(b8.setIfInBounds i true).getD j false=(decide (j=i)||b8.getD j false):=λ j=>by
   by_cases Ai:j=i
   ·subst Ai;simp [Array.getD,hil]
   ·rw[getD_set_ne false (Ne.symm Ai)];simp [Ai]
  refine Hd hC ho Ar hf g1 (λ hg=>by rw[e8];exact g2 hg) λ m' a' fc ga => ?_
  have fg:=g4 _ mq;refine ih (b8.setIfInBounds i true) a' m' (by simpa using o7) ?_ ?_ ?_ ?_
  ·have l6:YQ (b8.setIfInBounds i true) ops.size<YQ b8 ops.size:=by
    refine uV (x:=i) (λ j _ hj => ?_) (by simpa using hio) (by simp [ia]) (by rw[mq];simp);rw[mq]at hj;simp at hj ⊢;exact hj.2
   omega
  ·intro j oj hj yf e he hb
   change (b8.setIfInBounds i true).getD j false=true at hj;show (b8.setIfInBounds i true).getD e.on false=true;rw[mq]at hj ⊢;simp only[Bool.or_eq_true,decide_eq_true_eq]at hj ⊢;rcases hj with rfl|hj
   ·exact .inr (au oj yf e he hb)
   ·exact .inr (zz j oj hj yf e he hb)
  ·rw[fg,fc,e8]
   rfl
  ·rw[fg]
   rw[e8,g3]at ga;have hd:(l[i]).dst=(rs[i]).d:=(h.fits i _ _ hx hr).d.symm;rw[hd]at ga;exact ga
theorem Alx (hC:KX P num C) {id:Nat} {l:List AI} (hok:VF P num N ops ops.toList l=true) (hd:XG ops l=true) {st e9:St} (hst:FP C l st=some e9) {m:M} {a:Act} (e8:m.own=st.own) (hf:IH B S w0 m0 N (c9 st.tm) m a)
  (hQ : ∀ m' a',m'.own=e9.own->IH B S w0 m0 N (c9 e9.tm) m' a'->Q .normal a' m'.w):(Code.region id ops true).wp P Q a m.w:=by
 obtain ⟨σ,rs,h0,h1,hl,h2⟩:=trace hst;have hD:eA C ops l σ rs:=⟨hd,hl,h2⟩;obtain ⟨dm,he1⟩:=grow hf.mem ((Below.refl m.w.heap.size m.w).drew);have kz:IH B S w0 m0 N (c9 st.tm) ⟨m.ν,m.own,m.w.drew⟩ a:=⟨dm,hf.ext.trans he1,λ i=>he1.cv (hf.tm i),hf.size,hf.defers⟩;have Ik:GF (λ j=>(Array.replicate ops.size false).getD j false) rs 0 (d0 σ)=d0 σ:=nK rs 0 _ λ i _=>by simp [Array.getD]
 have key : ∀ md:Region.Mode,(md = .gc->Region.departs ops=true) -> ∀ t,wpOps P ops Q (Region.linearise md ops t) a m.w.drew:=λ md vg t=>by
  refine wpAny_sound ops.size t (Array.replicate ops.size false) a m.w.drew ?_;refine Alw hC hok hD vg (by rw[h1];exact hQ) ops.size _ a ⟨m.ν,m.own,m.w.drew⟩ (by simp) ?_ ?_ ?_ ?_
  ·unfold YQ
   exact Nat.le_trans List.countP_le_length (by simp)
  ·intro j o hj
   simp [Array.getD]at hj
  ·rw[Ik];simp [d0,h0,e8]
  ·rw[Ik];simpa [d0,h0] using kz
 refine wp_region_draw λ t => ?_
 change wpOps P ops Q _ a m.w.drew;unfold Region.schedule;split
 ·exact key .any (λ h=>by cases h) t
 ·rename_i ux
  have Is:Region.departs ops=true:=by simp at ux;exact ux.2
  split
  ·exact key .text (λ_=>Is) _
  ·exact key .gc (λ_=>Is) _
end
end Go.Eng

namespace Go.Eng
open Go.RowKit
section
variable {B:Nat} {S:Nat->Prop} {w0:World} {m0:M} {N:Nat}
variable {P:Program} {num:Nat->Nat} {C:Cl}
theorem Ale (m:Tm) (l:List Nat) (j:Nat):c9 (u7 m l) j=c9 m j\/c9 (u7 m l) j = .any:=by
 induction m with
 | nil=>exact .inl rfl
 | cons x r ih =>
  obtain ⟨i,v⟩:=x;simp only[u7];split
  ·by_cases h:j=i
   ·subst h
    rename_i hc;right
    clear ih;induction r with
    | nil=>rfl
    | cons y q ih =>
     obtain ⟨k,u⟩:=y;simp only[u7];split
     ·exact ih
     ·rename_i hk
      have : ¬ j=k:=λ e=>by subst e;exact hk hc
      simp only[c9,if_neg this];exact ih
   ·rcases ih with h1|h1
    ·left;simp only[c9,if_neg h];exact h1
    ·right;exact h1
  ·by_cases h:j=i
   ·left;simp [c9,h]
   ·simp only[c9,if_neg h]
    exact ih
inductive LE (P:Program) (num:Nat->Nat) (N:Nat):List It->List Item->Prop
 | nil:LE P num N [] []
 | code {c:Code} {a:C1} {k:List It} {t:List Item} (h:HN P num N c a=true) (hk:LE P num N k t):LE P num N (.code a::k) (.code c::t)
 | drop {ts ss:List Nat} {k:List It} {t:List Item} (hk:LE P num N k t):LE P num N (.er ts ss::k) t
 | blk {id:Nat} {k:List It} {t:List Item} (hk:LE P num N k t):LE P num N (.blk id::k) (.inBlock id::t)
 | lp {c:Code} {a:C1} {k:List It} {t:List Item} (h:HN P num N c a=true) (hk:LE P num N k t):LE P num N (.lp a::k) (.inLoop c::t)
 | scope {c:Code} {k:List It} {t:List Item} (hk:LE P num N k t):LE P num N k (.inScope c::t)
theorem Hs {b:Frame} {a:Act} {k:List Item} {cs:List Frame} {w:World} {c:Code}:step P (lone (b.at a (.inScope c::k)) cs w) = .next (lone (b.at a k) cs w) :=
 step_lone_go (by simp [stepG,stepG.exec,Frame.at])
theorem Ak1 {b:Frame} {a:Act} {k:List Item} {cs:List Frame} {w:World} {c:Code}:step P (lone (b.at a (.code (.scope c)::k)) cs w) = .next (lone (b.at a (.code c :: .inScope c::k)) cs w) :=
 step_lone_go (by simp [stepG,stepG.exec,Frame.at])
theorem ZR {id:Nat} : ∀ {k:List It} {t:List Item},LE P num N k t -> ∀ {k':List It},GJ id k=some k' -> ∃ t',exitTo id t=some t'/\LE P num N k' t'
 | _,_,.nil,k',h=>by simp [GJ]at h
 | _,_,.code h0 hk,k',h=>by
  simp only[GJ]at h;obtain ⟨t',h1,h2⟩:=ZR hk h;exact ⟨t',by simpa [exitTo] using h1,h2⟩
 | _,_,.drop hk,k',h=>by
  simp only[GJ]at h;exact ZR hk h
 | _,_,.blk (id:=yo) hk,k',h=>by
  simp only[GJ]at h;split at h
  ·rename_i he
   subst he;simp only[Option.some.injEq]at h;subst h;exact ⟨_,by simp [exitTo],hk⟩
  ·rename_i he
   obtain ⟨t',h1,h2⟩:=ZR hk h;exact ⟨t',by simpa [exitTo,he] using h1,h2⟩
 | _,_,.lp h0 hk,k',h=>by
  simp only[GJ]at h;obtain ⟨t',h1,h2⟩:=ZR hk h;exact ⟨t',by simpa [exitTo] using h1,h2⟩
 | _,_,.scope hk,k',h=>by
  obtain ⟨t',h1,h2⟩:=ZR hk h;exact ⟨t',by simpa [exitTo] using h1,h2⟩
def rY (B:Nat) (S:Nat->Prop) (w0:World) (m0:M) (N:Nat) (P:Program) (b:Frame) (cs:List Frame) (Bz:Machine) (e9:St):Prop :=
 ∃ a' m' m6,Steps P Bz (lone { b.at a' m6 with mode := .returning } cs m'.w)/\m'.own=e9.own/\IH B S w0 m0 N (c9 e9.tm) m' a'
theorem AkA (hC:KX P num C) (b:Frame) (cs:List Frame) : ∀ (n:Nat) (k:List It) (st e9:St),run C n k st=some e9 -> ∀ (t:List Item),LE P num N k t -> ∀ (m:M) (a:Act),m.own=st.own->IH B S w0 m0 N (c9 st.tm) m a ->
  rY B S w0 m0 N P b cs (lone (b.at a t) cs m.w) e9:=by
 intro n;induction n with
 | zero=>intro k st e9 h;simp [run]at h
 | succ n ih =>
  intro k st e9 h t ht;have fin : ∀ (t:List Item),LE P num N [] t -> ∀ (m:M) (a:Act),m.own=st.own->IH B S w0 m0 N (c9 st.tm) m a->st=e9->rY B S w0 m0 N P b cs (lone (b.at a t) cs m.w) e9:=by
   intro t ht;generalize hk:([]:List It)=kk at ht;induction ht with
   | nil =>
    intro m a e8 hf he;subst he;exact ⟨a,m,[],.one step_end,e8,hf⟩
   | scope dc ig =>
    intro m a e8 hf he;obtain ⟨a',m',m6,h1,h2⟩:=ig hk m a e8 hf he;exact ⟨a',m',m6,.head Hs h1,h2⟩
   | code=>cases hk
   | drop=>cases hk
   | blk=>cases hk
   | lp=>cases hk
  cases k with
  | nil =>
   intro m a e8 hf;simp only[run,Option.some.injEq]at h;exact fin t ht m a e8 hf h
  | cons it k =>
   generalize hkk:it::k=kk at ht;induction ht with
   | nil=>cases hkk
   | scope dc ig =>
    intro m a e8 hf;obtain ⟨a',m',m6,h1,h2⟩:=ig hkk m a e8 hf;exact ⟨a',m',m6,.head Hs h1,h2⟩
   | @blk id k2 t2 dc ig =>
    intro m a e8 hf;obtain ⟨rfl,rfl⟩:it = .blk id/\k=k2:=by simpa using hkk
    simp only[run]at h;obtain ⟨a',m',m6,h1,h2⟩:=ih k st e9 h t2 dc m a e8 hf;exact ⟨a',m',m6,.head step_inBlock h1,h2⟩
   | @lp c ac k2 t2 hok dc ig =>
    intro m a e8 hf;obtain ⟨rfl,rfl⟩:it = .lp ac/\k=k2:=by simpa using hkk
    simp only[run]at h;obtain ⟨a',m',m6,h1,h2⟩:=ih _ st e9 h (.code c :: .inLoop c::t2) (.code hok (.lp hok dc)) m a e8 hf;exact ⟨a',m',m6,.head step_inLoop h1,h2⟩
   | @drop ts ss k2 t2 dc ig =>
    intro m a e8 hf;obtain ⟨rfl,rfl⟩:it = .er ts ss/\k=k2:=by simpa using hkk
    simp only[run]at h;obtain ⟨fr,he⟩:=Sv hf.mem ss;have ga:IH B S w0 m0 N (c9 (u7 st.tm ts)) ⟨m.ν,m.own.drop ss,m.w⟩ a:=⟨fr,hf.ext.trans he,λ i=>by
     rcases Ale st.tm ts i with h1|h1
     ·rw[h1];exact he.cv (hf.tm i)
     ·rw[h1];exact .any _,hf.size,hf.defers⟩
    obtain ⟨a',m',m6,h1,h2,h3⟩:=ih k ⟨u7 st.tm ts,st.own.drop ss⟩ e9 h t2 dc ⟨m.ν,m.own.drop ss,m.w⟩ a (by simp [e8]) ga;exact ⟨a',m',m6,h1,h2,h3⟩
   | @code c ac k2 t2 hok dc ig =>
    obtain ⟨rfl,rfl⟩:it = .code ac/\k=k2:=by simpa using hkk
    clear ig hkk;intro m a e8 hf;cases ac with
    | dr ac ts ss =>
     simp only[HN]at hok;simp only[run]at h;exact ih _ st e9 h _ (.code hok (.drop dc)) m a e8 hf
    | skip =>
     simp only[run]at h;cases c with
     | skip =>
      obtain ⟨a',m',m6,h1,h2⟩:=ih _ st e9 h _ dc m a e8 hf;exact ⟨a',m',m6,.head step_skip h1,h2⟩
     | label =>
      obtain ⟨a',m',m6,h1,h2⟩:=ih _ st e9 h _ dc m a e8 hf;exact ⟨a',m',m6,.head step_label h1,h2⟩
     | _=>simp [HN]at hok
    | scope ac =>
     simp only[run]at h;cases c with
     | scope c =>
      simp only[HN]at hok;obtain ⟨a',m',m6,h1,h2⟩:=ih _ st e9 h _ (.code hok (.scope (c:=c) dc)) m a e8 hf;exact ⟨a',m',m6,.head Ak1 h1,h2⟩
     | _=>simp [HN]at hok
    | seq a1 a2 =>
     simp only[run]at h;cases c with
     | seq c1 c2 =>
      simp only[HN,Bool.and_eq_true]at hok;obtain ⟨a',m',m6,h1,h2⟩:=ih _ st e9 h _ (.code hok.1 (.code hok.2 dc)) m a e8 hf;exact ⟨a',m',m6,.head step_seq h1,h2⟩
     | _=>simp [HN]at hok
    | cond x a1 a2 =>
     simp only[run]at h;cases c with
     | cond xc c1 c2 =>
      simp only[HN,Bool.and_eq_true]at hok;have q5:CV B S m (st.ev x) (a.eval xc):=by rw[xF];exact hf.says xc x hok.1.1
      split at h
      ·rename_i hx
       rw[hx]at q5;obtain ⟨a',m',m6,h1,h2⟩:=ih _ st e9 h _ (.code hok.1.2 dc) m a e8 hf;exact ⟨a',m',m6,.head (step_cond (XB q5)) h1,h2⟩
      ·rename_i hx
       rw[hx]at q5;obtain ⟨a',m',m6,h1,h2⟩:=ih _ st e9 h _ (.code hok.2 dc) m a e8 hf;exact ⟨a',m',m6,.head (step_cond (XB q5)) h1,h2⟩
      ·cases h
     | _=>simp [HN]at hok
    | block id ac =>
     simp only[run]at h;cases c with
     | block yo c =>
      simp only[HN,Bool.and_eq_true,beq_iff_eq]at hok;obtain ⟨rfl,hok⟩:=hok;obtain ⟨a',m',m6,h1,h2⟩:=ih _ st e9 h _ (.code hok (.blk dc)) m a e8 hf;exact ⟨a',m',m6,.head step_block h1,h2⟩
     | _=>simp [HN]at hok
    | loop ac =>
     simp only[run]at h;cases c with
     | loop c =>
      simp only[HN]at hok;obtain ⟨a',m',m6,h1,h2⟩:=ih _ st e9 h _ (.code hok (.lp hok dc)) m a e8 hf;exact ⟨a',m',m6,.head step_loop h1,h2⟩
     | _=>simp [HN]at hok
    | exit id =>
     simp only[run]at h;cases c with
     | exit yo =>
      simp only[HN,beq_iff_eq]at hok;subst hok;split at h
      ·rename_i k' hk2
       obtain ⟨t',e1,e2⟩:=ZR dc hk2;obtain ⟨a',m',m6,h1,h2⟩:=ih _ st e9 h _ e2 m a e8 hf;exact ⟨a',m',m6,.head (step_exit e1) h1,h2⟩
      ·cases h
     | _=>simp [HN]at hok
    | ret =>
     simp only[run,Option.some.injEq]at h;subst h;cases c with
     | ret=>exact ⟨a,m,.code .ret::t2,.one step_ret,e8,hf⟩
     | _=>simp [HN]at hok
    | ops l draw =>
     simp only[run]at h;split at h
     ·rename_i CZ wi
      cases c with
      | region id ops jk =>
       simp only[HN,Bool.and_eq_true,beq_iff_eq]at hok;obtain ⟨⟨rfl,vi⟩,ix⟩:=hok;have hwp:(Code.region id ops jk).wp P (λ e a' w'=>e = .normal /\ ∃ m',m'.w=w'/\m'.own=CZ.own/\IH B S w0 m0 N (c9 CZ.tm) m' a') a m.w:=by
        cases jk with
        | true=>exact Alx hC vi (by simpa using ix) wi e8 hf λ m' a' h1 h2=>⟨rfl,m',rfl,h1,h2⟩
        | false =>
         refine wp_region ?_;rw[List.range_eq_range'];exact He hC vi ops.size 0 st CZ m a (by omega) (by simpa using wi) e8 hf λ m' a' h1 h2=>⟨rfl,m',rfl,h1,h2⟩
       obtain ⟨e,a1,w1,⟨rfl,m1,rfl,vj,kz⟩,zt⟩:=hwp b t2 cs;obtain ⟨a',m',m6,h1,h2,h3⟩:=ih _ CZ e9 h _ dc m1 a1 vj kz;exact ⟨a',m',m6,Steps.trans zt h1,h2,h3⟩
      | _=>simp [HN]at hok
     ·cases h
end
end Go.Eng

namespace Go.Eng
open Go.RowKit
section
variable {P:Program} {num:Nat->Nat} {L:Lib}
def ProgOK (P : Program) (num : Nat → Nat) (L : Lib) : Prop := (∀ f fa, L f = some fa → ∃ fn, P.funcs[num f]? = some fn ∧ okFn P num fn fa = true ∧ (fn.name == "runtime.NumGoroutine") = false) ∧ L.num = num
theorem zQ : ∀ (args:List AV) (k i:Nat),c9 (ET k args) i=if k<=i then (match args[i-k]? with|some v=>v|none => .any) else .any
 | [],k,i=>by simp [ET,c9]
 | v::r,k,i=>by
  simp only[ET,c9];by_cases h:i=k
  ·subst h;simp
  ·rw[if_neg h,zQ r (k+1) i]
   by_cases h2:k<=i
   ·rw[if_pos h2,if_pos (by omega)]
    have:i-k=(i-(k+1))+1:=by omega
    rw[this];simp
   ·rw[if_neg h2,if_neg (by omega)]
section
variable {B:Nat} {S:Nat->Prop} {w0:World} {m0:M} {N:Nat}
def iW (tmps:Array Value):ResultVar->Sem Value
 | .tmp t=>pure (tmps.getD t undef)
 | .cell x t=>do loadVar t (<-asAddr (tmps.getD x undef))
theorem Nk {m:M} {x v:AV} {u:Value} (h:MH x=some v) (q5:CV B S m x u):CA B S m v u:=by
 cases q5 with
 | any=>simp [MH]at h
 | tup=>simp [MH]at h
 | ca hc =>
  have:x=v:=by
   cases hc with
   | one hc=>cases hc with
    | rd hr=>cases hr<;>simpa [MH] using h
    | _=>simpa [MH] using h
   | fn=>simpa [MH] using h
   | agg=>simpa [MH] using h
  subst this;exact hc
theorem pL {m:M} {a:Act} {st:St} (hf:IH B S w0 m0 N (c9 st.tm) m a) (e8:m.own=st.own) : ∀ {rv:List ResultVar} {ra:List ML} {vs:List AV},QC P rv ra=true->ra.mapM (H2 st)=some vs ->
  ∃ us:List Value,(rv.mapM (iW a.tmps)).run P m.w = .ok us m.w/\vs.length=us.length /\ ∀ (j:Nat) (c:AV) (v:Value),vs[j]? = some c->us[j]? = some v->CA B S m c v
 | [],[],vs,_,h=>by
  simp at h;subst h;exact ⟨[],by simp,rfl,λ j c v hc=>by simp at hc⟩
 | .tmp t::r,.tmp t'::l,vs,hok,h=>by
  simp only[QC,Bool.and_eq_true,beq_iff_eq]at hok;obtain ⟨rfl,hok⟩:=hok;simp only[List.mapM_cons,Option.bind_eq_bind,Option.pure_def]at h;cases hv:H2 st (.tmp t) with
  | none=>simp [hv]at h
  | some v =>
   cases hr:l.mapM (H2 st) with
   | none=>simp [hv,hr]at h
   | some vr =>
    simp [hv,hr]at h;subst h;obtain ⟨us,h1,h2,h3⟩:=pL hf e8 hok hr;have q5:=hf.tm t;have hca:CA B S m v (a.tmps.getD t undef):=Nk hv q5;refine ⟨a.tmps.getD t undef::us,?_,by simp [h2],λ j c u hc hu => ?_⟩
    ·simp only[List.mapM_cons,Sem.run_bind,iW,Sem.run_pure,Result.andThen_ok,h1]
    ·cases j with
     | zero =>
      obtain rfl:v=c:=by simpa using hc
      obtain rfl:a.tmps.getD t undef=u:=Option.some.inj hu;exact hca
     | succ j=>exact h3 j c u (by simpa using hc) (by simpa using hu)
 | .cell x t::r,.cell x' agg n::l,vs,hok,h=>by
  simp only[QC,Bool.and_eq_true,beq_iff_eq]at hok;obtain ⟨⟨⟨rfl,bz⟩,hn⟩,hok⟩:=hok;simp only[List.mapM_cons,Option.bind_eq_bind,Option.pure_def]at h;cases hv:H2 st (.cell x agg n) with
  | none=>simp [hv]at h
  | some v =>
   cases hr:l.mapM (H2 st) with
   | none=>simp [hv,hr]at h
   | some vr =>
    simp [hv,hr]at h;subst h;obtain ⟨us,h1,h2,h3⟩:=pL hf e8 hok hr;have q5:=hf.tm x;simp only[H2]at hv;split at hv
    ·rename_i s u i j hx
     rw[hx]at q5;split at hv
     ·rename_i cs hcs
      rw[<-e8]at hcs;obtain ⟨ad,u5,ht,hb⟩:=ZH q5;obtain ⟨b,g,arr,e,l7,hg,w6,hvl,hcl,dw⟩:=Cm hf.mem hcs;obtain ⟨AnW,cj⟩:=cS hv hcl;have hld:=pO (P:=P) t agg n (fD (by simpa using bz)) (by
       cases agg
       ·simpa using hn
       ·exact MK (by simpa using hn)) ad w6 hvl m.w (λ q u' hq=>by
       have l6:q<w6.length:=(zS hq).1;obtain ⟨rh,fb⟩:=hg (by omega);obtain ⟨g',ae,rfl⟩:=hb b l7;obtain rfl:g=g':=by rw[rh]at ae;simpa using ae
       rw[KJ,fP fb];exact dw q u' hq)
      have Ak:(iW a.tmps (.cell x t)).run P m.w = .ok (if agg then .agg w6.toArray else w6.getD 0 undef) m.w:=by
       show (do loadVar t (<-asAddr (a.tmps.getD x undef)):Sem Value).run P m.w=_;rw[u5];simpa [asAddr,Instr.loadAt,Instr.sureAddr] using hld
      have hca:CA B S m v (if agg then .agg w6.toArray else w6.getD 0 undef):=by
       unfold ME at hv;cases agg with
       | true =>
        simp only[if_true,Option.some.injEq]at hv;subst hv;exact .agg cs w6 hcl
       | false =>
        simp only[Bool.false_eq_true,if_false]at hv ⊢;split at hv
        ·rename_i c
         simp only[Option.some.injEq]at hv;subst hv;obtain ⟨u',bf,hcc⟩:=ZF hcl (j:=0) (c:=c) rfl;simp only[List.getD,bf,Option.getD_some];exact .one hcc
        ·cases hv
      refine ⟨(if agg then .agg w6.toArray else w6.getD 0 undef)::us,?_,by simp [h2],λ j' c u' hc hu => ?_⟩
      ·rw[List.mapM_cons,Sem.run_bind,Ak,Result.andThen_ok,Sem.run_bind,h1,Result.andThen_ok]
       rfl
      ·cases j' with
       | zero =>
        obtain rfl:v=c:=by simpa using hc
        obtain rfl:=Option.some.inj hu;exact hca
       | succ j'=>exact h3 j' c u' (by simpa using hc) (by simpa using hu)
     ·cases hv
    ·cases hv
 | [],_::_,_,hok,_=>by simp [QC]at hok
 | .tmp _::_,[],_,hok,_=>by simp [QC]at hok
 | .cell _ _::_,[],_,hok,_=>by simp [QC]at hok
 | .tmp _::_,.cell _ _ _::_,_,hok,_=>by simp [QC]at hok
 | .cell _ _::_,.tmp _::_,_,hok,_=>by simp [QC]at hok
end
theorem tK (hP:ProgOK P num L) {f:Nat} {fa:AFn} (hL:L f=some fa) (us:Array Value) (w:World):(callFunc (num f) us).run P w = .ok (.enter (num f) us) w:=by
 obtain ⟨fn,h1,h2,h3⟩:=hP.1 f fa hL;have hb:fn.body.isNone=false:=by
  simp only[okFn,Bool.and_eq_true]at h2;cases hbd:fn.body with
  | none=>rw[hbd]at h2;simp at h2
  | some c=>rfl
 unfold callFunc;simp only[Sem.run_bind,run_program,Result.andThen_ok,h1,h3,hb,Bool.false_eq_true,if_false,Sem.run_pure]
theorem zU (hP:ProgOK P num L) {n:Nat} (hC:KX P num (FH L n)) {f:Nat} {vs:List AV} {own:BT} {r:AV} {l8:BT} (h:GA L (n+1) f vs own=some (r,l8)) (B:Nat) (S:Nat->Prop) (w0:World) (m:M) (us:List Value) (e8:m.own=own) (hm:DJ B S w0 m) (hl:vs.length=us.length)
  (q5 : ∀ (j:Nat) (c:AV) (v:Value),vs[j]? = some c->us[j]? = some v->CV B S m c v) :
  Calls P (num f) us.toArray m.w λ e w' => ∃ u m',e = .returned u/\m'.w=w'/\m'.own=l8/\DJ B S w0 m'/\FX B S m m'/\CV B S m' r u:=by
 rw[bZ]at h;cases hL:L f with
 | none=>simp [hL]at h
 | some fa =>
  simp only[hL]at h;split at h
  ·rename_i vn
   split at h
   ·rename_i st m7
    split at h
    ·rename_i Km iz
     simp only[Option.some.injEq,Prod.mk.injEq]at h;obtain ⟨rfl,rfl⟩:=h;obtain ⟨fn,h1,h2,h3⟩:=hP.1 f fa hL;simp only[okFn,Bool.and_eq_true,beq_iff_eq,decide_eq_true_eq]at h2;obtain ⟨⟨⟨h4,h5⟩,h6⟩,h7⟩:=h2;split at h7
     ·rename_i c hc
      intro cs;have re:Frame.enter P (num f) us.toArray .normal=({ (default:Frame) with fn:=num f,kind := .normal }:Frame).at { tmps:=us.toArray++Array.replicate (fn.ntmps-us.toArray.size) undef,defers:=[] } [.code c]:=by
       simp [Frame.enter,Frame.at,h1,hc]
      have o7:us.length=fa.v8:=by rw[<-hl];exact vn
      have hf0:IH B S w0 m fn.ntmps (c9 (ET 0 vs)) m { tmps:=us.toArray++Array.replicate (fn.ntmps-us.toArray.size) undef,defers:=[] }:=by
       refine ⟨hm,FX.refl m,λ i => ?_,by simp;omega,rfl⟩;rw[zQ];simp only[Nat.zero_le,if_true,Nat.sub_zero];cases Jq:vs[i]? with
       | none=>exact .any _
       | some v =>
        have hi:i<us.length:=by rw[<-hl];exact (zS Jq).1
        have l7:(us.toArray++Array.replicate (fn.ntmps-us.toArray.size) undef).getD i undef=us[i]:=by
         rw[Array.getD_eq_getD_getElem?,Array.getElem?_append_left (by simpa using hi)];simp [hi]
        simp only[l7];exact q5 i v us[i] Jq (zE hi)
      obtain ⟨a',m',m6,ry,fc,ga⟩:=AkA (m0:=m) hC { (default:Frame) with fn:=num f,kind := .normal } cs n [.code fa.body] ⟨ET 0 vs,own⟩ st m7 [.code c] (.code h7 .nil) m _ e8 hf0;obtain ⟨nc,hu1,tn,Jn⟩:=pL (P:=P) ga fc h6 iz;have nw:(results fn a'.tmps).run P m'.w = .ok (if h:nc.length=1 then nc[0] else .tuple nc.toArray) m'.w:=by
       have hr:results fn a'.tmps=(do let vs <-fn.results.mapM (iW a'.tmps);pure (if h:vs.size=1 then vs[0] else .tuple vs)):=rfl;rw[hr,Sem.run_bind,Array.mapM_eq_mapM_toList];simp [hu1]
      refine ⟨.returned (if h:nc.length=1 then nc[0] else .tuple nc.toArray),m'.w,_,⟨_,m',rfl,rfl,fc,ga.mem,ga.ext,?_⟩,by rw[re];exact ry,rfl,rfl,ga.defers,rfl,fn,h1,nw⟩;unfold K8;split
      ·rename_i v
       have h1':nc.length=1:=by rw[<-tn];rfl
       rw[dif_pos h1'];exact .ca (Jn 0 v nc[0] rfl (zE (by omega)))
      ·rename_i hne
       have h1' : ¬ nc.length=1:=λ e=>by
        rw[<-tn]at e;cases Km with
        | nil=>simp at e
        | cons q qs=>cases qs with
         | nil=>exact hne q rfl
         | cons=>simp at e
       rw[dif_neg h1'];exact .tup Km nc tn Jn
     ·cases h7
    ·cases h
   ·cases h
  ·cases h
theorem Zx (S:Nat->Prop) (w:World):DJ w.heap.size S w ⟨λ_ _=>none,BT.emp,w⟩ :=
 ⟨Below.refl _ _,Nat.le_refl _,λ_ _ _=>rfl,λ s t b h=>by simp [BT.get,BT.emp]at h,λ s t s' t' b b' g h=>by simp [BT.get,BT.emp]at h⟩
theorem wW {n f:Nat} {vs:List AV} {own:BT} {r:AV × BT} (h:GA L n f vs own=some r) : ∃ fa,L f=some fa:=by
 cases n with
 | zero=>simp [GA]at h
 | succ n =>
  rw[bZ]at h;cases hL:L f with
  | none=>simp [hL]at h
  | some fa=>exact ⟨fa,rfl⟩
theorem oY {n f:Nat} {vs:List AV} {r:AV} (h:LO (λ vs=>GA L n f vs BT.emp) vs=some r) : ∃ r0 o,GA L n f vs BT.emp=some (r0,o)/\WK o false r0=some r/\CS r:=by
 unfold LO at h;cases he:GA L n f vs BT.emp with
 | none=>simp [he]at h
 | some x =>
  obtain ⟨r0,o⟩:=x;simp only[he]at h;split at h
  ·rename_i r' hr
   split at h
   ·rename_i hc
    simp only[Option.some.injEq]at h;subst h;exact ⟨r0,o,rfl,hr,hc⟩
   ·cases h
  ·cases h
theorem mF {n f:Nat} {vs:List AV} {r:AV} (h:K2 L n f vs=some r) : ∃ w6,∃ x,GA L n f w6 BT.emp=some x:=by
 unfold K2 OC at h;split at h
 ·split at h
  ·rename_i r1 r2 h1 h2
   obtain ⟨r0,o,h3,_⟩:=oY h1;exact ⟨_,_,h3⟩
  ·cases h
 ·obtain ⟨r0,o,h3,_⟩:=oY h
  exact ⟨_,_,h3⟩
theorem oZ (hP:ProgOK P num L) {n:Nat} (ih:KX P num (FH L n)) {f:Nat} {vs:List AV} {r:AV} (h:LO (λ vs=>GA L (n+1) f vs BT.emp) vs=some r) (S:Nat->Prop) (w:World) (us:List Value) (hl:vs.length=us.length)
  (hca : ∀ (j:Nat) (c:AV) (v:Value),vs[j]? = some c->us[j]? = some v->CA w.heap.size S ⟨λ_ _=>none,BT.emp,w⟩ c v) :
  Calls P (num f) us.toArray w λ e w' => ∃ u,e = .returned u/\Below w.heap.size w w'/\CV w.heap.size S ⟨λ_ _=>none,BT.emp,w'⟩ r u/\CS r:=by
 obtain ⟨r0,o,h1,h2,h3⟩:=oY (L:=L) h;refine Calls.mono (zU hP ih h1 w.heap.size S w ⟨λ_ _=>none,BT.emp,w⟩ us rfl (Zx S w) hl λ j c v hc hv => .ca (hca j c v hc hv)) λ e w' ⟨u,m',he,hw,e8,fr,_,q5⟩ => ?_
 subst hw;refine ⟨u,he,fr.below,?_,h3⟩;refine DV.cv (m:=⟨λ_ _=>none,BT.emp,m'.w⟩) (AkR fr false (safe w.heap.size S ⟨λ_ _=>none,BT.emp,m'.w⟩) (λ l b hb hs => ?_) (λ s t g eg hg => ?_) (by rw[e8];exact h2) q5)
 ·rcases hs with h|⟨h,_⟩|h
  ·exact .inl h
  ·exact .inr (.inl ⟨h,λ s t eg=>by simp [BT.get,BT.emp]at eg⟩)
  ·exact .inr (.inr h)
 ·exact .inr (.inl ⟨(fr.ge eg hg).1,λ s t eg=>by simp [BT.get,BT.emp]at eg⟩)
theorem Nl (hP:ProgOK P num L) : ∀ n,KX P num (FH L n):=by
 intro n;induction n with
 | zero =>
  exact ⟨λ f vs r h=>by obtain ⟨w6,x,h1⟩:=mF (L:=L) (n:=0) (f:=f) (vs:=vs) (r:=r) h;simp [GA]at h1,λ f vs own r h=>by change GA L 0 f vs own=some r at h;simp [GA]at h,
   λ f vs r h=>by obtain ⟨w6,x,h1⟩:=mF (L:=L) (n:=0) (f:=f) (vs:=vs) (r:=r) h;simp [GA]at h1,λ f vs own r l8 h=>by change GA L 0 f vs own=_ at h;simp [GA]at h,hP.2⟩
 | succ n ih =>
  refine ⟨λ f vs r h us w => ?_,λ f vs own r h us w => ?_,λ f vs r h S w us hl hca => ?_,λ f vs own r l8 h B S w0 m us e8 hm hl q5=>zU hP ih h B S w0 m us e8 hm hl q5,hP.2⟩
  ·obtain ⟨w6,x,h1⟩:=mF (L:=L) h
   obtain ⟨fa,hL⟩:=wW h1;exact tK hP hL us w
  ·obtain ⟨fa,hL⟩:=wW (L:=L) h
   exact tK hP hL us w
  ·have h:OC (L.jf f) (λ vs=>GA L (n+1) f vs BT.emp) vs=some r:=h
   unfold OC at h;split at h
   ·rename_i q w6 _ _
    split at h
    ·rename_i r1 r2 h1 h2
     split at h
     ·rename_i e
      subst e;obtain rfl:=Option.some.inj h;cases us with
      | nil=>simp at hl
      | cons u us =>
       have h0:=hca 0 _ u rfl rfl;have hu : ∃ a cap,u = .slice a 0 cap:=by
        cases h0 with
        | one h0=>cases h0 with
         | rd h0=>cases h0 with
          | eo l a cap=>exact ⟨a,cap,rfl⟩
          | sl l es b o a6 cap u hne=>exact absurd rfl hne
       obtain ⟨a,cap,rfl⟩:=hu;have key : ∀ b,a.isNone=b -> ∀ (j:Nat) (c:AV) (v:Value),(AV.z9 (.bool b)::w6)[j]? = some c->(Value.slice a 0 cap::us)[j]? = some v->CA w.heap.size S ⟨λ_ _=>none,BT.emp,w⟩ c v:=λ b hb j c v hc hv=>by
        cases j with
        | zero =>
         obtain rfl:=Option.some.inj hc;obtain rfl:=Option.some.inj hv;exact .one (.rd (.emp b a cap hb))
        | succ j=>exact hca (j+1) c v hc hv
       cases hb:a.isNone with
       | true=>exact oZ hP ih h1 S w _ (by simpa using hl) (key true hb)
       | false=>exact oZ hP ih h2 S w _ (by simpa using hl) (key false hb)
     ·cases h
    ·cases h
   ·exact oZ hP ih h S w us hl hca
end
end Go.Eng
namespace Go.Eng
theorem progOK_of {P : Program} {num : Nat → Nat} (l : List (Nat × AFn)) (h : ∀ p ∈ l, ∃ fn, P.funcs[num p.1]? = some fn ∧ okFn P num fn p.2 = true ∧ (fn.name == "runtime.NumGoroutine") = false) : ProgOK P num ⟨λ f => l.lookup f, num⟩ := by
 refine ⟨?_,rfl⟩;intro f fa hf;have hm:(f,fa)∈l:=by
  clear h;change l.lookup f=some fa at hf;induction l with
  | nil=>simp at hf
  | cons x r ih =>
   obtain ⟨k,v⟩:=x;rw[List.lookup_cons]at hf;cases hk:(f == k) with
   | true =>
    rw[hk]at hf;have:f=k:=by simpa using hk
    subst this;simp at hf;simp [hf]
   | false =>
    rw[hk]at hf;exact List.mem_cons_of_mem _ (ih hf)
 exact h (f,fa) hm
end Go.Eng

namespace Go.Eng.F
open C
namespace OS
def r0:=[o 2 (.a8 (.c (.bool false)))]
def r1:=[m 3 0,m 4 0,o 5 (.bin .neq 3 4),m 2 5]
def c:=(s (d r0 [2]) (s (d r1 [0,3,4,5]) .ret))
end OS
def OS:AFn:=⟨1,OS.c,[.tmp 2],false⟩
namespace OU
def r0:=[o 2 (.a8 (.c (.bool false)))]
def r1:=[m 3 0,m 4 0,o 5 (.bin .neq 3 4),m 2 5]
def c:=(s (d r0 [2]) (s (d r1 [0,3,4,5]) .ret))
end OU
def OU:AFn:=⟨1,OU.c,[.tmp 2],false⟩
namespace OP
def r0:=[o 4 (.a8 (k 0))]
def r1:=[m 7 0,o 8 (.call 58 [7]),m 5 8]
def r2:=[m 9 1,o 10 (.call 58 [9]),m 6 10]
def r3:=[m 11 5]
def r4:=[m 12 6]
def r5:=[o 4 (.a8 (k 0))]
def r6:=[o 4 (.a8 (k (-1)))]
def r7:=[m 13 6]
def r8:=[o 4 (.a8 (k 1))]
def r9:=[m 14 0,m 15 1,o 16 (.bin .lss 14 15)]
def DQ:=[o 4 (.a8 (k (-1)))]
def DW:=[m 17 0,m 18 1,o 19 (.bin .gtr 17 18)]
def q6:=[o 4 (.a8 (k 1))]
def EJ:=[o 4 (.a8 (k 0))]
def c:=(s (d r0 [4]) (s (d r1 [7,8]) (s (d r2 [9,10]) (s (s (d r3 [5]) (i 11 (s (s (d r4 [0,1,6,11]) (i 12 (s (d r5 [12]) .ret) .skip)) (s (d r6 [12]) .ret)) .skip)) (s (s (d r7 [6,11]) (i 13 (s (d r8 [0,1,13]) .ret) .skip)) (s (s (d r9 [13,14,15]) (i 16 (s (d DQ [0,1,16]) .ret) .skip)) (s (s (d DW [0,1,16,17,18]) (i 19 (s (d q6 [19]) .ret) .skip)) (s (d EJ [19]) .ret))))))))
end OP
def OP:AFn:=⟨2,OP.c,[.tmp 4],false⟩
namespace OR
def r0:=[o 4 (.a8 (k 0))]
def r1:=[m 7 0,o 8 (.call 59 [7]),m 5 8]
def r2:=[m 9 1,o 10 (.call 59 [9]),m 6 10]
def r3:=[m 11 5]
def r4:=[m 12 6]
def r5:=[o 4 (.a8 (k 0))]
def r6:=[o 4 (.a8 (k (-1)))]
def r7:=[m 13 6]
def r8:=[o 4 (.a8 (k 1))]
def r9:=[m 14 0,m 15 1,o 16 (.bin .lss 14 15)]
def DQ:=[o 4 (.a8 (k (-1)))]
def DW:=[m 17 0,m 18 1,o 19 (.bin .gtr 17 18)]
def q6:=[o 4 (.a8 (k 1))]
def EJ:=[o 4 (.a8 (k 0))]
def c:=(s (d r0 [4]) (s (d r1 [7,8]) (s (d r2 [9,10]) (s (s (d r3 [5]) (i 11 (s (s (d r4 [0,1,6,11]) (i 12 (s (d r5 [12]) .ret) .skip)) (s (d r6 [12]) .ret)) .skip)) (s (s (d r7 [6,11]) (i 13 (s (d r8 [0,1,13]) .ret) .skip)) (s (s (d r9 [13,14,15]) (i 16 (s (d DQ [0,1,16]) .ret) .skip)) (s (s (d DW [0,1,16,17,18]) (i 19 (s (d q6 [19]) .ret) .skip)) (s (d EJ [19]) .ret))))))))
end OR
def OR:AFn:=⟨2,OR.c,[.tmp 4],false⟩
namespace KW
def r0:=[o 2 (.a8 (.c .nil))]
def r1:=[m 3 0,o 4 (.jz false 3)]
def r2:=[o 2 (.a8 (.c .nil))]
def r3:=[o 5 (.c4 5 1 []),m 6 0,o 7 (.app 7 1 4 5 6),m 2 7]
def c:=(s (d r0 [2]) (s (s (d r1 [3]) (i 4 (s (d r2 [0,4]) .ret) .skip)) (s (d r3 [0,4,5,6,7]) .ret)))
end KW
def KW:AFn:=⟨1,KW.c,[.tmp 2],true⟩
namespace PJ
def r0:=[o 2 (.a8 (k 0))]
def r1:=[m 3 0,o 4 (.bin .geq 3 (.c (.int .u32 (65536))))]
def r2:=[m 5 0,o 6 (.bin .shr 5 (.c (.int .u64 (16)))),m 0 6]
def r3:=[o 2 (.a8 (k 16))]
def r4:=[m 7 0,o 8 (.bin .geq 7 (.c (.int .u32 (256))))]
def r5:=[m 9 0,o 10 (.bin .shr 9 (.c (.int .u64 (8)))),m 0 10]
def r6:=[m 11 2,o 12 (.bin .add 11 (k 8)),m 2 12]
def r7:=[m 13 2,m 14 0,o 15 (.conv .u8 14),
 o 16 (.cr (List.replicate 1 0++List.replicate 1 1++List.replicate 2 2++List.replicate 4 3++List.replicate 8 4++List.replicate 16 5++List.replicate 32 6++List.replicate 64 7++List.replicate 128 8) 15),
 o 17 (.conv .i64 16),o 18 (.bin .add 13 17),m 2 18]
def c:=(s (p r0) (s (s (d r1 [3]) (i 4 (s (d r2 [2,4,5,6]) (p r3)) .skip)) (s (s (d r4 [4,7]) (i 8 (s (d r5 [8,9,10]) (d r6 [11,12])) .skip)) (s (d r7 [0,8,13,14,15,16,17,18]) .ret))))
end PJ
def PJ:AFn:=⟨1,PJ.c,[.tmp 2],false⟩
namespace PI
def r0:=[o 2 (.a8 (k 0))]
def r1:=[m 3 0,o 4 (.call 63 [3]),o 5 (.bin .sub (k 32) 4),m 2 5]
def c:=(s (d r0 [2]) (s (d r1 [0,3,4,5]) .ret))
end PI
def PI:AFn:=⟨1,PI.c,[.tmp 2],false⟩
namespace IM
def r0:=[o 2 (.a8 (.c .nil))]
def r1:=[m 4 0,o 5 (.len 4),m 3 5]
def r2:=[m 6 3,o 7 (.bin .gtr 6 (k 0)),m 8 7,g 9 8 true (.a8 0),g 10 8 true (.a8 3),g 11 8 true (.bin .sub 10 (k 1)),g 12 8 true (.a4 none 1 9 11),
 g 13 8 true (.ld false 1 12),g 14 8 true (.bin .eql 13 (.c (.int .u32 (0)))),o 15 (.pick 8 14 (.c (.bool false)))]
def r3:=[m 16 3,o 17 (.bin .sub 16 (k 1)),m 3 17]
def r4:=[m 18 0,m 19 3,o 20 (.ay 1 18 none (some 19)),m 2 20]
def l1:=(s (s (d r2 [6,7,8,9,10,11,12,13,14]) (i 15 .skip (x 0))) (b 1 (d r3 [15,16,17])))
def c:=(s (d r0 [2]) (s (d r1 [4,5]) (s (b 0 (w l1)) (s (d r4 [0,3,15,18,19,20]) .ret))))
end IM
def IM:AFn:=⟨1,IM.c,[.tmp 2],false⟩
namespace PU
def r0:=[o 2 (.a8 (.c .nil))]
def r1:=[m 3 0,o 4 (.c8 65 [3]),o 5 (.call 62 [4]),m 2 5]
def c:=(s (d r0 [2]) (s (d r1 [0,3,4,5]) .ret))
end PU
def PU:AFn:=⟨1,PU.c,[.tmp 2],false⟩
namespace PO
def r0:=[o 4 (.a8 (k 0))]
def r1:=[m 8 0,o 9 (.c8 65 [8]),m 10 1,o 11 (.c8 65 [10]),m 5 9,m 6 11]
def r2:=[m 12 5,o 13 (.len 12),m 14 6,o 15 (.len 14),o 16 (.bin .neq 13 15)]
def r3:=[m 17 5,o 18 (.len 17),m 19 6,o 20 (.len 19),o 21 (.call 60 [18,20]),m 4 21]
def r4:=[m 22 5,o 23 (.len 22),o 24 (.bin .sub 23 (k 1)),m 7 24]
def r5:=[m 25 7,o 26 (.bin .geq 25 (k 0))]
def r7:=[m 29 5,m 30 7,o 31 (.a4 none 1 29 30),o 32 (.ld false 1 31),m 33 6,m 34 7,o 35 (.a4 none 1 33 34),o 36 (.ld false 1 35),o 37 (.bin .neq 32 36)]
def r8:=[m 38 5,m 39 7,o 40 (.a4 none 1 38 39),o 41 (.ld false 1 40),m 42 6,m 43 7,o 44 (.a4 none 1 42 43),o 45 (.ld false 1 44),o 46 (.call 61 [41,45]),
 m 4 46]
def r6:=[m 27 7,o 28 (.bin .sub 27 (k 1)),m 7 28]
def r9:=[o 4 (.a8 (k 0))]
def l1:=(s (s (d r5 [25]) (i 26 .skip (x 0))) (s (b 1 (s (e r7 [26,29,30,31,32,33,34,35,36]) (i 37 (s (e r8 [5,6,7,37,38,39,40,41,42,43,44,45,46]) .ret) .skip))) (d r6 [27,28,37])))
def c:=(s (d r0 [4]) (s (d r1 [0,1,8,9,10,11]) (s (s (d r2 [12,13,14,15]) (i 16 (s (d r3 [5,6,16,17,18,19,20,21]) .ret) .skip)) (s (s (d r4 [16,22,23,24]) (b 0 (w l1))) (s (d r9 [5,6,7,26]) .ret)))))
end PO
def PO:AFn:=⟨2,PO.c,[.tmp 4],false⟩
namespace PN
def r0:=[o 4 (.a8 (.c .nil))]
def r1:=[m 12 0,o 13 (.c8 65 [12]),m 14 1,o 15 (.c8 65 [14]),m 5 13,m 6 15]
def r2:=[m 16 5,o 17 (.len 16),m 18 6,o 19 (.len 18),o 20 (.bin .lss 17 19)]
def r3:=[m 21 6,m 22 5,m 5 21,m 6 22]
def r4:=[m 23 5,o 24 (.len 23),o 25 (.bin .add 24 (k 1)),o 26 (.mk 26 1 4 [(.int .u32 (0))] 25 25),m 7 26]
def r5:=[o 8 (.a8 (.c (.int .u64 (0))))]
def r6:=[m 27 5,o 28 (.len 27),o 29 (.a8 (k 0))]
def r7:=[o 30 (.bin .lss 29 28)]
def r8:=[m 31 29,o 32 (.a4 none 1 27 29),o 33 (.ld false 1 32),m 9 31,m 10 33]
def r9:=[m 34 10,o 35 (.conv .u64 34),m 36 8,o 37 (.bin .add 35 36),m 11 37]
def DQ:=[m 38 9,m 39 6,o 40 (.len 39),o 41 (.bin .lss 38 40)]
def DW:=[m 42 11,m 43 6,m 44 9,o 45 (.a4 none 1 43 44),o 46 (.ld false 1 45),o 47 (.conv .u64 46),o 48 (.bin .add 42 47),m 11 48]
def q6:=[m 49 7,m 50 9,m 51 11,o 52 (.conv .u32 51),o 53 (.a4 none 1 49 50),n (.st 1 53 52)]
def EJ:=[m 54 11,o 55 (.bin .shr 54 (.c (.int .u64 (32)))),m 8 55]
def v3:=[o 56 (.bin .add 29 (k 1)),m 29 56]
def v5:=[m 57 7,m 58 5,o 59 (.len 58),m 60 8,o 61 (.conv .u32 60),o 62 (.a4 none 1 57 59),n (.st 1 62 61)]
def x7:=[m 63 7,o 64 (.c8 65 [63]),m 4 64]
def l1:=(s (p r7) (s (i 30 .skip (x 0)) (s (b 1 (s (d r8 [30,31,32,33]) (s (d r9 [8,10,34,35,36,37]) (s (s (d DQ [38,39,40]) (i 41 (d DW [41,42,43,44,45,46,47,48]) .skip)) (s (d q6 [9,41,49,50,51,52,53]) (d EJ [11,54,55])))))) (d v3 [56]))))
def c:=(s (d r0 [4]) (s (d r1 [0,1,12,13,14,15]) (s (s (d r2 [16,17,18,19]) (i 20 (d r3 [20,21,22]) .skip)) (s (d r4 [20,23,24,25,26]) (s (p r5) (s (s (p r6) (b 0 (w l1))) (s (d v5 [5,6,8,27,28,29,30,57,58,59,60,61,62]) (s (d x7 [7,63,64]) .ret))))))))
end PN
def PN:AFn:=⟨2,PN.c,[.tmp 4],false⟩
namespace PS
def r0:=[o 4 (.a8 (.c .nil))]
def r1:=[m 12 0,m 13 1,o 14 (.call 67 [12,13]),o 15 (.bin .leq 14 (k 0))]
def r2:=[o 4 (.a8 (.c .nil))]
def r3:=[m 16 0,o 17 (.c8 65 [16]),m 18 1,o 19 (.c8 65 [18]),m 5 17,m 6 19]
def r4:=[m 20 5,o 21 (.len 20),o 22 (.mk 22 1 4 [(.int .u32 (0))] 21 21),m 7 22]
def r5:=[o 8 (.a8 (.c (.int .u64 (0))))]
def r6:=[m 23 5,o 24 (.len 23),o 25 (.a8 (k 0))]
def r7:=[o 26 (.bin .lss 25 24)]
def r8:=[m 27 25,o 28 (.a4 none 1 23 25),o 29 (.ld false 1 28),m 9 27,m 10 29]
def r9:=[m 30 10,o 31 (.conv .u64 30),m 32 8,o 33 (.bin .sub 31 32),m 11 33]
def DQ:=[m 34 9,m 35 6,o 36 (.len 35),o 37 (.bin .lss 34 36)]
def DW:=[m 38 11,m 39 6,m 40 9,o 41 (.a4 none 1 39 40),o 42 (.ld false 1 41),o 43 (.conv .u64 42),o 44 (.bin .sub 38 43),m 11 44]
def q6:=[m 45 7,m 46 9,m 47 11,o 48 (.conv .u32 47),o 49 (.a4 none 1 45 46),n (.st 1 49 48)]
def EJ:=[m 50 11,o 51 (.bin .shr 50 (.c (.int .u64 (63)))),m 8 51]
def v3:=[o 52 (.bin .add 25 (k 1)),m 25 52]
def v5:=[m 53 7,o 54 (.c8 65 [53]),m 4 54]
def l1:=(s (p r7) (s (i 26 .skip (x 0)) (s (b 1 (s (d r8 [26,27,28,29]) (s (d r9 [8,10,30,31,32,33]) (s (s (d DQ [34,35,36]) (i 37 (d DW [37,38,39,40,41,42,43,44]) .skip)) (s (d q6 [9,37,45,46,47,48,49]) (d EJ [11,50,51])))))) (d v3 [52]))))
def c:=(s (d r0 [4]) (s (s (d r1 [12,13,14]) (i 15 (s (d r2 [0,1,15]) .ret) .skip)) (s (d r3 [0,1,15,16,17,18,19]) (s (d r4 [20,21,22]) (s (p r5) (s (s (d r6 [5]) (b 0 (w l1))) (s (d v5 [6,7,8,23,24,25,26,53,54]) .ret)))))))
end PS
def PS:AFn:=⟨2,PS.c,[.tmp 4],false⟩
namespace PR
def r0:=[o 4 (.a8 (.c .nil))]
def r1:=[m 14 0,o 15 (.c8 65 [14]),m 16 1,o 17 (.c8 65 [16]),m 5 15,m 6 17]
def r2:=[m 18 5,o 19 (.len 18),o 20 (.bin .eql 19 (k 0)),m 21 20,g 22 21 false (.a8 6),g 23 21 false (.len 22),g 24 21 false (.bin .eql 23 (k 0)),
 o 25 (.pick 21 (.c (.bool true)) 24)]
def r3:=[o 4 (.a8 (.c .nil))]
def r4:=[m 26 5,o 27 (.len 26),m 28 6,o 29 (.len 28),o 30 (.bin .add 27 29),o 31 (.mk 31 1 4 [(.int .u32 (0))] 30 30),m 7 31]
def r5:=[m 32 5,o 33 (.len 32),o 34 (.a8 (k 0))]
def r6:=[o 35 (.bin .lss 34 33)]
def r7:=[m 36 34,o 37 (.a4 none 1 32 34),o 38 (.ld false 1 37),m 8 36,m 9 38]
def r8:=[m 39 9,o 40 (.bin .eql 39 (.c (.int .u32 (0))))]
def r9:=[o 10 (.a8 (.c (.int .u64 (0))))]
def DQ:=[m 41 6,o 42 (.len 41),o 43 (.a8 (k 0))]
def DW:=[o 44 (.bin .lss 43 42)]
def q6:=[m 45 43,o 46 (.a4 none 1 41 43),o 47 (.ld false 1 46),m 11 45,m 12 47]
def EJ:=[m 48 9,o 49 (.conv .u64 48),m 50 12,o 51 (.conv .u64 50),o 52 (.bin .mul 49 51),m 53 7,m 54 8,m 55 11,o 56 (.bin .add 54 55),o 57 (.a4 none 1 53 56),
 o 58 (.ld false 1 57),o 59 (.conv .u64 58),o 60 (.bin .add 52 59),m 61 10,o 62 (.bin .add 60 61),m 13 62]
def v3:=[m 63 7,m 64 8,m 65 11,o 66 (.bin .add 64 65),m 67 13,o 68 (.conv .u32 67),o 69 (.a4 none 1 63 66),n (.st 1 69 68)]
def v5:=[m 70 13,o 71 (.bin .shr 70 (.c (.int .u64 (32)))),m 10 71]
def x7:=[o 72 (.bin .add 43 (k 1)),m 43 72]
def GQ:=[m 73 7,m 74 8,m 75 6,o 76 (.len 75),o 77 (.bin .add 74 76),m 78 10,o 79 (.conv .u32 78),o 80 (.a4 none 1 73 77),n (.st 1 80 79)]
def x8:=[o 81 (.bin .add 34 (k 1)),m 34 81]
def r19:=[m 82 7,o 83 (.c8 65 [82]),m 4 83]
def l2:=(s (p DW) (s (i 44 .skip (x 2)) (s (b 3 (s (d q6 [44,45,46,47]) (s (d EJ [10,12,48,49,50,51,52,53,54,55,56,57,58,59,60,61,62]) (s (d v3 [11,63,64,65,66,67,68,69]) (d v5 [13,70,71]))))) (d x7 [72]))))
def l1:=(s (p r6) (s (i 35 .skip (x 0)) (s (b 1 (s (d r7 [35,36,37,38]) (s (s (d r8 [39]) (i 40 (x 1) .skip)) (s (d r9 [40]) (s (s (p DQ) (b 2 (w l2))) (d GQ [8,9,10,41,42,43,44,73,74,75,76,77,78,79,80])))))) (d x8 [8,9,40,81]))))
def c:=(s (d r0 [4]) (s (d r1 [0,1,14,15,16,17]) (s (s (d r2 [18,19,20,21,22,23,24]) (i 25 (s (d r3 [5,6,25]) .ret) .skip)) (s (d r4 [25,26,27,28,29,30,31]) (s (s (d r5 [5]) (b 0 (w l1))) (s (d r19 [6,7,32,33,34,35,82,83]) .ret))))))
end PR
def PR:AFn:=⟨2,PR.c,[.tmp 4],false⟩
namespace M3
def r0:=[o 6 (.a8 (.c .nil))]
def r1:=[m 11 2,o 12 (.mk 71012 1 4 [(.int .u32 (0))] 11 11),m 7 12]
def r2:=[o 8 (.a8 (.c (.int .u32 (0))))]
def r3:=[m 13 0,o 14 (.len 13),o 15 (.a8 (k 0))]
def r4:=[o 16 (.bin .lss 15 14)]
def r5:=[m 17 15,o 18 (.a4 none 1 13 15),o 19 (.ld false 1 18),m 9 17,m 10 19]
def r6:=[m 20 7,m 21 9,m 22 10,m 23 1,o 24 (.bin .shl 22 23),m 25 8,o 26 (.bin .or 24 25),o 27 (.a4 none 1 20 21),n (.st 1 27 26)]
def r7:=[m 28 10,o 29 (.conv .u64 28),m 30 1,o 31 (.bin .shl 29 30),o 32 (.bin .shr 31 (.c (.int .u64 (32)))),o 33 (.conv .u32 32),m 8 33]
def r8:=[o 34 (.bin .add 15 (k 1)),m 15 34]
def r9:=[m 35 2,m 36 0,o 37 (.len 36),o 38 (.bin .gtr 35 37)]
def DQ:=[m 39 7,m 40 0,o 41 (.len 40),m 42 8,o 43 (.a4 none 1 39 41),n (.st 1 43 42)]
def DW:=[m 44 7,m 6 44]
def l1:=(s (p r4) (s (i 16 .skip (x 0)) (s (b 1 (s (d r5 [16,17,18,19]) (s (d r6 [8,9,20,21,22,23,24,25,26,27]) (d r7 [10,28,29,30,31,32,33])))) (d r8 [34]))))
def c:=(s (d r0 [6]) (s (d r1 [11,12]) (s (p r2) (s (s (p r3) (b 0 (w l1))) (s (s (d r9 [1,2,13,14,15,16,35,36,37]) (i 38 (d DQ [0,8,38,39,40,41,42,43]) .skip)) (s (d DW [0,7,8,38,44]) .ret))))))
end M3
def M3:AFn:=⟨3,M3.c,[.tmp 6],false⟩
namespace PZ
def r0:=[o 4 (.a8 (.c .nil))]
def r1:=[m 8 0,o 9 (.len 8),o 10 (.mk 10 1 4 [(.int .u32 (0))] 9 9),m 5 10]
def r2:=[o 6 (.a8 (.c (.int .u32 (0))))]
def r3:=[m 11 0,o 12 (.len 11),o 13 (.bin .sub 12 (k 1)),m 7 13]
def r4:=[m 14 7,o 15 (.bin .geq 14 (k 0))]
def r6:=[m 18 5,m 19 7,m 20 0,m 21 7,o 22 (.a4 none 1 20 21),o 23 (.ld false 1 22),m 24 1,o 25 (.bin .shr 23 24),m 26 6,o 27 (.bin .or 25 26),
 o 28 (.a4 none 1 18 19),n (.st 1 28 27)]
def r7:=[m 29 0,m 30 7,o 31 (.a4 none 1 29 30),o 32 (.ld false 1 31),o 33 (.conv .u64 32),m 34 1,o 35 (.bin .sub (.c (.int .u64 (32))) 34),
 o 36 (.bin .shl 33 35),o 37 (.conv .u32 36),m 6 37]
def r5:=[m 16 7,o 17 (.bin .sub 16 (k 1)),m 7 17]
def r8:=[m 38 5,m 4 38]
def l1:=(s (s (d r4 [14]) (i 15 .skip (x 0))) (s (b 1 (s (d r6 [6,15,18,19,20,21,22,23,24,25,26,27,28]) (d r7 [29,30,31,32,33,34,35,36,37]))) (d r5 [16,17])))
def c:=(s (d r0 [4]) (s (d r1 [8,9,10]) (s (p r2) (s (s (d r3 [11,12,13]) (b 0 (w l1))) (s (d r8 [0,1,5,6,7,15,38]) .ret)))))
end PZ
def PZ:AFn:=⟨2,PZ.c,[.tmp 4],false⟩
namespace IV
def r0:=[o 4 (.a8 (.c (.int .u32 (0))))]
def r1:=[m 19 1,o 20 (.len 19),m 5 20]
def r2:=[m 21 0,m 22 5,o 23 (.a4 none 1 21 22),o 24 (.ld false 1 23),o 25 (.conv .u64 24),o 26 (.bin .shl 25 (.c (.int .u64 (32)))),m 27 0,m 28 5,
 o 29 (.bin .sub 28 (k 1)),o 30 (.a4 none 1 27 29),o 31 (.ld false 1 30),o 32 (.conv .u64 31),o 33 (.bin .or 26 32),m 6 33]
def r3:=[m 34 6,m 35 1,m 36 5,o 37 (.bin .sub 36 (k 1)),o 38 (.a4 none 1 35 37),o 39 (.ld false 1 38),o 40 (.conv .u64 39),o 41 (.bin .quo 34 40),m 42 6,
 m 43 1,m 44 5,o 45 (.bin .sub 44 (k 1)),o 46 (.a4 none 1 43 45),o 47 (.ld false 1 46),o 48 (.conv .u64 47),o 49 (.bin .rem 42 48),m 7 41,m 8 49]
def r4:=[m 50 7,o 51 (.bin .geq 50 (.c (.int .u64 (4294967296)))),m 52 51,g 53 52 false (.a8 7),g 54 52 false (.a8 1),g 55 52 false (.a8 5),
 g 56 52 false (.bin .sub 55 (k 2)),g 57 52 false (.a4 none 1 54 56),g 58 52 false (.ld false 1 57),g 59 52 false (.conv .u64 58),
 g 60 52 false (.bin .mul 53 59),g 61 52 false (.a8 8),g 62 52 false (.bin .shl 61 (.c (.int .u64 (32)))),g 63 52 false (.a8 0),g 64 52 false (.a8 5),
 g 65 52 false (.bin .sub 64 (k 2)),g 66 52 false (.a4 none 1 63 65),g 67 52 false (.ld false 1 66),g 68 52 false (.conv .u64 67),
 g 69 52 false (.bin .or 62 68),g 70 52 false (.bin .gtr 60 69),o 71 (.pick 52 (.c (.bool true)) 70)]
def r5:=[m 72 7,o 73 (.bin .sub 72 (.c (.int .u64 (1)))),m 7 73]
def r6:=[m 74 8,m 75 1,m 76 5,o 77 (.bin .sub 76 (k 1)),o 78 (.a4 none 1 75 77),o 79 (.ld false 1 78),o 80 (.conv .u64 79),o 81 (.bin .add 74 80),m 8 81]
def r7:=[m 82 8,o 83 (.bin .geq 82 (.c (.int .u64 (4294967296))))]
def r8:=[o 9 (.a8 (.c (.int .u64 (0)))),o 10 (.a8 (.c (.int .u64 (0))))]
def r9:=[m 84 1,o 85 (.len 84),o 86 (.a8 (k 0))]
def DQ:=[o 87 (.bin .lss 86 85)]
def DW:=[m 88 86,o 89 (.a4 none 1 84 86),o 90 (.ld false 1 89),m 11 88,m 12 90]
def q6:=[m 91 7,m 92 12,o 93 (.conv .u64 92),o 94 (.bin .mul 91 93),m 95 9,o 96 (.bin .add 94 95),m 13 96]
def EJ:=[m 97 13,o 98 (.bin .shr 97 (.c (.int .u64 (32)))),m 9 98]
def v3:=[m 99 0,m 100 11,o 101 (.a4 none 1 99 100),o 102 (.ld false 1 101),o 103 (.conv .u64 102),m 104 13,o 105 (.conv .u32 104),o 106 (.conv .u64 105),
 o 107 (.bin .sub 103 106),m 108 10,o 109 (.bin .sub 107 108),m 14 109]
def v5:=[m 110 0,m 111 11,m 112 14,o 113 (.conv .u32 112),o 114 (.a4 none 1 110 111),n (.st 1 114 113)]
def x7:=[m 115 14,o 116 (.bin .shr 115 (.c (.int .u64 (63)))),m 10 116]
def GQ:=[o 117 (.bin .add 86 (k 1)),m 86 117]
def x8:=[m 118 0,m 119 5,o 120 (.a4 none 1 118 119),o 121 (.ld false 1 120),o 122 (.conv .u64 121),m 123 9,o 124 (.bin .sub 122 123),m 125 10,
 o 126 (.bin .sub 124 125),m 15 126]
def r19:=[m 127 0,m 128 5,m 129 15,o 130 (.conv .u32 129),o 131 (.a4 none 1 127 128),n (.st 1 131 130)]
def bg:=[m 132 15,o 133 (.bin .shr 132 (.c (.int .u64 (63)))),o 134 (.bin .eql 133 (.c (.int .u64 (0))))]
def da:=[m 135 7,o 136 (.conv .u32 135),m 4 136]
def de:=[o 9 (.a8 (.c (.int .u64 (0))))]
def fu:=[m 137 1,o 138 (.len 137),o 139 (.a8 (k 0))]
def LP:=[o 140 (.bin .lss 139 138)]
def QJ:=[m 141 139,o 142 (.a4 none 1 137 139),o 143 (.ld false 1 142),m 16 141,m 17 143]
def VH:=[m 144 0,m 145 16,o 146 (.a4 none 1 144 145),o 147 (.ld false 1 146),o 148 (.conv .u64 147),m 149 17,o 150 (.conv .u64 149),o 151 (.bin .add 148 150),
 m 152 9,o 153 (.bin .add 151 152),m 18 153]
def VI:=[m 154 0,m 155 16,m 156 18,o 157 (.conv .u32 156),o 158 (.a4 none 1 154 155),n (.st 1 158 157)]
def X8:=[m 159 18,o 160 (.bin .shr 159 (.c (.int .u64 (32)))),m 9 160]
def X9:=[o 161 (.bin .add 139 (k 1)),m 139 161]
def r30:=[m 162 0,m 163 5,o 164 (.a4 none 1 162 163),o 165 (.ld false 1 164),m 166 9,o 167 (.conv .u32 166),o 168 (.bin .add 165 167),
 o 169 (.a4 none 1 162 163),n (.st 1 169 168)]
def px:=[m 170 7,o 171 (.bin .sub 170 (.c (.int .u64 (1)))),o 172 (.conv .u32 171),m 4 172]
def l1:=(s (s (e r4 [50,51,52,53,54,55,56,57,58,59,60,61,62,63,64,65,66,67,68,69,70,83]) (i 71 .skip (x 0))) (b 1 (s (d r5 [71,72,73]) (s (d r6 [74,75,76,77,78,79,80,81]) (s (d r7 [82]) (i 83 (x 0) .skip))))))
def l2:=(s (p DQ) (s (i 87 .skip (x 2)) (s (b 3 (s (d DW [87,88,89,90]) (s (d q6 [9,12,91,92,93,94,95,96]) (s (d EJ [97,98]) (s (d v3 [10,13,99,100,101,102,103,104,105,106,107,108,109]) (s (d v5 [11,110,111,112,113,114]) (d x7 [14,115,116]))))))) (d GQ [117]))))
def l3:=(s (p LP) (s (i 140 .skip (x 4)) (s (b 5 (s (d QJ [140,141,142,143]) (s (d VH [9,17,144,145,146,147,148,149,150,151,152,153]) (s (d VI [16,154,155,156,157,158]) (d X8 [18,159,160]))))) (d X9 [161]))))
def c:=(s (d r0 [4]) (s (d r1 [19,20]) (s (e r2 [21,22,23,24,25,26,27,28,29,30,31,32,33]) (s (e r3 [6,34,35,36,37,38,39,40,41,42,43,44,45,46,47,48,49]) (s (b 0 (w l1)) (s (d r8 [8,71,83]) (s (s (p r9) (b 2 (w l2))) (s (d x8 [9,10,84,85,86,87,118,119,120,121,122,123,124,125,126]) (s (d r19 [127,128,129,130,131]) (s (s (d bg [15,132,133]) (i 134 (s (d da [0,1,5,7,134,135,136]) .ret) .skip)) (s (d de [134]) (s (s (d fu [1]) (b 4 (w l3))) (s (d r30 [0,5,9,137,138,139,140,162,163,164,165,166,167,168,169]) (s (d px [7,170,171,172]) .ret))))))))))))))
end IV
def IV:AFn:=⟨2,IV.c,[.tmp 4],false⟩
namespace PX
def r0:=[o 4 (.a8 (.c .nil)),o 5 (.a8 (.c .nil))]
def r1:=[m 15 0,m 16 1,o 17 (.call 67 [15,16]),o 18 (.bin .lss 17 (k 0))]
def r2:=[m 19 0,o 20 (.call 62 [19]),o 4 (.a8 (.c .nil)),m 5 20]
def r3:=[m 21 1,o 22 (.len 21),m 6 22]
def r4:=[m 23 0,o 24 (.len 23),m 25 6,o 26 (.bin .sub 24 25),o 27 (.bin .add 26 (k 1)),o 28 (.mk 28 1 4 [(.int .u32 (0))] 27 27),m 7 28]
def r5:=[m 29 6,o 30 (.bin .eql 29 (k 1))]
def r6:=[o 8 (.a8 (.c (.int .u64 (0))))]
def r7:=[m 31 0,o 32 (.len 31),o 33 (.bin .sub 32 (k 1)),m 9 33]
def r8:=[m 34 9,o 35 (.bin .geq 34 (k 0))]
def DQ:=[m 38 8,o 39 (.bin .shl 38 (.c (.int .u64 (32)))),m 40 0,m 41 9,o 42 (.a4 none 1 40 41),o 43 (.ld false 1 42),o 44 (.conv .u64 43),
 o 45 (.bin .or 39 44),m 10 45]
def DW:=[m 46 7,m 47 9,m 48 10,m 49 1,o 50 (.a4 none 1 49 (k 0)),o 51 (.ld false 1 50),o 52 (.conv .u64 51),o 53 (.bin .quo 48 52),o 54 (.conv .u32 53),
 o 55 (.a4 none 1 46 47),n (.st 1 55 54)]
def q6:=[m 56 10,m 57 1,o 58 (.a4 none 1 57 (k 0)),o 59 (.ld false 1 58),o 60 (.conv .u64 59),o 61 (.bin .rem 56 60),m 8 61]
def r9:=[m 36 9,o 37 (.bin .sub 36 (k 1)),m 9 37]
def EJ:=[m 62 7,o 63 (.c8 65 [62]),m 64 8,o 65 (.conv .u32 64),o 66 (.c4 66 1 [65]),o 67 (.c8 65 [66]),m 4 63,m 5 67]
def v3:=[m 68 1,m 69 6,o 70 (.bin .sub 69 (k 1)),o 71 (.a4 none 1 68 70),o 72 (.ld false 1 71),o 73 (.call 64 [72]),o 74 (.conv .u64 73),m 11 74]
def v5:=[m 75 0,m 76 11,m 77 0,o 78 (.len 77),o 79 (.bin .add 78 (k 1)),o 80 (.c8 71 [75,76,79]),m 81 1,m 82 11,m 83 6,o 84 (.call 71 [81,82,83]),
 m 12 80,m 13 84]
def x7:=[m 85 0,o 86 (.len 85),m 87 6,o 88 (.bin .sub 86 87),m 14 88]
def GQ:=[m 89 14,o 90 (.bin .geq 89 (k 0))]
def r19:=[m 93 7,m 94 14,m 95 12,m 96 14,m 97 14,m 98 6,o 99 (.bin .add 97 98),o 100 (.bin .add 99 (k 1)),o 101 (.ay 1 95 (some 96) (some 100)),m 102 13,
 o 103 (.c8 73 [101,102]),o 104 (.a4 none 1 93 94),n (.st 1 104 103)]
def x8:=[m 91 14,o 92 (.bin .sub 91 (k 1)),m 14 92]
def bg:=[m 105 7,o 106 (.c8 65 [105]),m 107 12,m 108 6,o 109 (.ay 1 107 none (some 108)),m 110 11,o 111 (.call 72 [109,110]),o 112 (.c8 65 [111]),
 m 4 106,m 5 112]
def l1:=(s (s (d r8 [34]) (i 35 .skip (x 0))) (s (b 1 (s (d DQ [8,35,38,39,40,41,42,43,44,45]) (s (d DW [46,47,48,49,50,51,52,53,54,55]) (d q6 [10,56,57,58,59,60,61])))) (d r9 [36,37])))
def l2:=(s (s (d GQ [89]) (i 90 .skip (x 2))) (s (b 3 (d r19 [90,93,94,95,96,97,98,99,100,101,102,103,104])) (d x8 [91,92])))
def c:=(s (d r0 [4,5]) (s (s (d r1 [15,16,17]) (i 18 (s (d r2 [0,1,18,19,20]) .ret) .skip)) (s (d r3 [18,21,22]) (s (d r4 [23,24,25,26,27,28]) (s (s (d r5 [29]) (i 30 (s (d r6 [6,30]) (s (s (d r7 [31,32,33]) (b 0 (w l1))) (s (d EJ [0,1,7,8,9,35,62,63,64,65,66,67]) .ret))) .skip)) (s (d v3 [30,68,69,70,71,72,73,74]) (s (d v5 [1,75,76,77,78,79,80,81,82,83,84]) (s (s (d x7 [0,85,86,87,88]) (b 2 (w l2))) (s (e bg [6,7,11,12,13,14,90,105,106,107,108,109,110,111,112]) .ret)))))))))
end PX
def PX:AFn:=⟨2,PX.c,[.tmp 4,.tmp 5],false⟩
namespace PP
def r0:=[o 4 (.a8 (.c .nil)),o 5 (.a8 (.c .nil)),o 6 (.a8 (k 0))]
def r1:=[m 10 1,o 11 (.c8 65 [10]),m 7 11]
def r2:=[m 12 7,o 13 (.len 12),o 14 (.bin .eql 13 (k 0))]
def r3:=[o 4 (.a8 (.c .nil)),o 5 (.a8 (.c .nil)),o 6 (.a8 (k 3))]
def r4:=[m 16 0,o 17 (.c8 65 [16]),m 18 7,o 19 (.call 74 [17,18]),m 15 19,o 20 (.ext 15 0),o 21 (.ext 15 1),m 8 20,m 9 21]
def r5:=[m 22 8,m 23 9,m 4 22,m 5 23,o 6 (.a8 (k 0))]
def c:=(s (d r0 [4,5,6]) (s (d r1 [1,10,11]) (s (s (d r2 [12,13]) (i 14 (s (d r3 [0,7,14]) .ret) .skip)) (s (d r4 [0,7,14,15,16,17,18,19,20,21]) (s (d r5 [8,9,22,23]) .ret)))))
end PP
def PP:AFn:=⟨2,PP.c,[.tmp 4,.tmp 5,.tmp 6],false⟩
namespace P1
def r0:=[o 2 (.a8 (.c (.int .u64 (0))))]
def r1:=[o 3 (.a8 (.c (.int .u64 (0))))]
def r2:=[m 6 0,o 7 (.len 6),o 8 (.a8 (k 0))]
def r3:=[o 9 (.bin .lss 8 7)]
def r4:=[m 10 8,o 11 (.a4 none 1 6 8),o 12 (.ld false 1 11),m 4 10,m 5 12]
def r5:=[m 13 3,m 14 5,o 15 (.conv .u64 14),m 16 4,o 17 (.bin .mul (k 32) 16),o 18 (.bin .shl 15 17),o 19 (.bin .or 13 18),m 3 19]
def r6:=[o 20 (.bin .add 8 (k 1)),m 8 20]
def r7:=[m 21 3,m 2 21]
def l1:=(s (p r3) (s (i 9 .skip (x 0)) (s (b 1 (s (d r4 [9,10,11,12]) (d r5 [4,5,13,14,15,16,17,18,19]))) (d r6 [20]))))
def c:=(s (d r0 [2]) (s (p r1) (s (s (d r2 [0]) (b 0 (w l1))) (s (d r7 [3,6,7,8,9,21]) .ret))))
end P1
def P1:AFn:=⟨1,P1.c,[.tmp 2],false⟩
namespace LL
def r0:=[o 3 (.a8 (.c (.int .u64 (0))))]
def r1:=[m 4 0,o 5 (.ld false 1 1),o 6 (.len 5),o 7 (.bin .lss 4 6)]
def r2:=[o 8 (.ld false 1 1),m 9 0,o 10 (.a4 none 1 8 9),o 11 (.ld false 1 10),o 12 (.conv .u64 11),m 3 12]
def r3:=[o 3 (.a8 (.c (.int .u64 (0))))]
def c:=(s (d r0 [3]) (s (s (d r1 [4,5,6]) (i 7 (s (d r2 [0,1,7,8,9,10,11,12]) .ret) .skip)) (s (d r3 [0,1,7]) .ret)))
end LL
def LL:AFn:=⟨2,LL.c,[.tmp 3],false⟩
namespace PY
def r0:=[o 3 (.box 3 0),o 6 (.a8 (k 0))]
def r1:=[o 9 (.jc false 77 [3]),m 7 9]
def r2:=[m 10 7,m 11 1,o 12 (.bin .sub 11 (k 1)),o 13 (.n8 10 [12]),o 14 (.bin .shl 13 (.c (.int .u64 (32)))),m 15 7,m 16 1,o 17 (.bin .sub 16 (k 2)),
 o 18 (.n8 15 [17]),o 19 (.bin .or 14 18),m 20 2,o 21 (.bin .shl 19 20),m 8 21]
def r3:=[m 22 8,m 23 7,m 24 1,o 25 (.bin .sub 24 (k 3)),o 26 (.n8 23 [25]),m 27 2,o 28 (.bin .shl 26 27),o 29 (.bin .shr 28 (.c (.int .u64 (32)))),
 o 30 (.bin .or 22 29),m 8 30]
def r4:=[m 31 8,o 32 (.bin .shr 31 (.c (.int .u64 (2)))),o 33 (.conv .i64 32),m 6 33]
def c:=(s (d r0 [0,6]) (s (d r1 [3,9]) (s (d r2 [10,11,12,13,14,15,16,17,18,19,20,21]) (s (d r3 [1,2,7,22,23,24,25,26,27,28,29,30]) (s (d r4 [8,31,32,33]) .ret)))))
end PY
def PY:AFn:=⟨3,PY.c,[.tmp 6],false⟩
namespace PV
def r0:=[o 4 (.a8 (k 0)),o 5 (.a8 (k 0)),o 6 (.a8 (k 0)),o 7 (.a8 (k 0))]
def r1:=[o 4 (.a8 (k 1)),o 7 (.a8 (k 1))]
def r2:=[m 11 1,m 12 6,o 13 (.bin .add 11 12),o 14 (.bin .neq 13 (k 0)),m 15 14,g 16 15 true (.a8 1),g 17 15 true (.a8 7),g 18 15 true (.bin .add 16 17),
 g 19 15 true (.bin .neq 18 (k 0)),o 20 (.pick 15 19 (.c (.bool false)))]
def r3:=[m 21 0,m 22 4,o 23 (.bin .add 21 22),m 24 1,m 25 6,o 26 (.bin .add 24 25),o 27 (.bin .quo 23 26),m 8 27]
def r4:=[m 28 8,m 29 0,m 30 5,o 31 (.bin .add 29 30),m 32 1,m 33 7,o 34 (.bin .add 32 33),o 35 (.bin .quo 31 34),o 36 (.bin .neq 28 35),m 37 36,
 g 38 37 false (.a8 8),g 39 37 false (.bin .gtr 38 (k 2147483647)),o 40 (.pick 37 (.c (.bool true)) 39)]
def r5:=[m 41 4,m 42 8,m 43 6,o 44 (.bin .mul 42 43),o 45 (.bin .sub 41 44),m 46 5,m 47 8,m 48 7,o 49 (.bin .mul 47 48),o 50 (.bin .sub 46 49),m 9 45,m 10 50]
def r6:=[m 51 9,m 52 9,o 53 (.un .neg 52),m 54 10,m 55 10,o 56 (.un .neg 55),o 57 (.mm true [51,53,54,56]),o 58 (.bin .gtr 57 (k 2147483647))]
def r7:=[m 59 6,m 60 7,m 61 9,m 62 10,m 4 59,m 5 60,m 6 61,m 7 62]
def r8:=[m 63 1,m 64 0,m 65 8,m 66 1,o 67 (.bin .mul 65 66),o 68 (.bin .sub 64 67),m 0 63,m 1 68]
def r9:=[m 69 4,m 70 5,m 71 6,m 72 7,m 4 69,m 5 70,m 6 71,m 7 72]
def l1:=(s (s (d r2 [11,12,13,14,15,16,17,18,19]) (i 20 .skip (x 0))) (b 1 (s (d r3 [20,21,22,23,24,25,26,27]) (s (s (d r4 [28,29,30,31,32,33,34,35,36,37,38,39]) (i 40 (x 0) .skip)) (s (d r5 [40,41,42,43,44,45,46,47,48,49,50]) (s (s (d r6 [51,52,53,54,55,56,57]) (i 58 (x 0) .skip)) (s (d r7 [9,10,58,59,60,61,62]) (d r8 [8,63,64,65,66,67,68]))))))))
def c:=(s (d r0 [4,7]) (s (p r1) (s (b 0 (w l1)) (s (d r9 [0,1,8,9,10,20,40,58,69,70,71,72]) .ret))))
end PV
def PV:AFn:=⟨2,PV.c,[.tmp 4,.tmp 5,.tmp 6,.tmp 7],false⟩
namespace PW
def r0:=[o 8 (.a8 (.c .nil))]
def r1:=[m 14 0,o 15 (.len 14),o 16 (.mk 16 1 4 [(.int .u32 (0))] 15 15),m 9 16]
def r2:=[o 10 (.a8 (k 0))]
def r3:=[m 17 0,o 18 (.len 17),o 19 (.a8 (k 0))]
def r4:=[o 20 (.bin .lss 19 18)]
def r5:=[m 21 19,o 22 (.a4 none 1 17 19),o 23 (.ld false 1 22),m 11 21,m 12 23]
def r6:=[m 24 2,m 25 12,o 26 (.conv .i64 25),o 27 (.bin .mul 24 26),m 28 10,o 29 (.bin .add 27 28),m 13 29]
def r7:=[m 30 11,m 31 1,o 32 (.len 31),o 33 (.bin .lss 30 32)]
def r8:=[m 34 13,m 35 3,m 36 1,m 37 11,o 38 (.a4 none 1 36 37),o 39 (.ld false 1 38),o 40 (.conv .i64 39),o 41 (.bin .mul 35 40),o 42 (.bin .add 34 41),
 m 13 42]
def r9:=[m 43 9,m 44 11,m 45 13,o 46 (.conv .u32 45),o 47 (.a4 none 1 43 44),n (.st 1 47 46)]
def DQ:=[m 48 13,o 49 (.bin .shr 48 (.c (.int .u64 (32)))),m 10 49]
def DW:=[o 50 (.bin .add 19 (k 1)),m 19 50]
def q6:=[m 51 9,o 52 (.c8 65 [51]),m 8 52]
def l1:=(s (p r4) (s (i 20 .skip (x 0)) (s (b 1 (s (d r5 [20,21,22,23]) (s (d r6 [10,12,24,25,26,27,28,29]) (s (s (d r7 [30,31,32]) (i 33 (d r8 [33,34,35,36,37,38,39,40,41,42]) .skip)) (s (d r9 [11,33,43,44,45,46,47]) (d DQ [13,48,49])))))) (d DW [50]))))
def c:=(s (d r0 [8]) (s (d r1 [14,15,16]) (s (p r2) (s (s (d r3 [0]) (b 0 (w l1))) (s (d q6 [1,2,3,9,10,17,18,19,20,51,52]) .ret)))))
end PW
def PW:AFn:=⟨4,PW.c,[.tmp 8],false⟩
namespace P0
def r0:=[o 4 (.a8 (.c .nil)),o 5 (.a8 (.c .nil))]
def r1:=[m 14 0,o 15 (.len 14),m 6 15]
def r2:=[m 16 0,m 17 6,o 18 (.bin .sub 17 (k 1)),o 19 (.a4 none 1 16 18),o 20 (.ld false 1 19),o 21 (.call 64 [20]),o 22 (.conv .u64 21),m 7 22]
def r3:=[m 24 0,m 25 6,m 26 7,o 27 (.call 78 [24,25,26]),m 28 1,m 29 6,m 30 7,o 31 (.call 78 [28,29,30]),o 32 (.call 79 [27,31]),m 23 32,o 33 (.ext 23 0),
 o 34 (.ext 23 1),o 35 (.ext 23 2),o 36 (.ext 23 3),m 8 33,m 9 34,m 10 35,m 11 36]
def r4:=[m 37 9,o 38 (.bin .eql 37 (k 0))]
def r5:=[m 40 0,m 41 1,o 42 (.call 74 [40,41]),m 39 42,o 43 (.ext 39 0),o 44 (.ext 39 1),m 12 43,m 13 44]
def r6:=[m 45 1,m 46 13,m 4 45,m 5 46]
def r7:=[m 47 0,m 48 1,m 49 8,m 50 9,o 51 (.call 80 [47,48,49,50]),m 52 0,m 53 1,m 54 10,m 55 11,o 56 (.call 80 [52,53,54,55]),m 4 51,m 5 56]
def c:=(s (d r0 [4,5]) (s (d r1 [14,15]) (s (d r2 [16,17,18,19,20,21,22]) (s (d r3 [6,7,23,24,25,26,27,28,29,30,31,32,33,34,35,36]) (s (s (d r4 [37]) (i 38 (s (d r5 [0,8,9,10,11,12,38,39,40,41,42,43,44]) (s (d r6 [1,13,45,46]) .ret)) .skip)) (s (d r7 [0,1,8,9,10,11,38,47,48,49,50,51,52,53,54,55,56]) .ret))))))
end P0
def P0:AFn:=⟨2,P0.c,[.tmp 4,.tmp 5],false⟩
namespace JO
def r0:=[o 4 (.a8 (.c .nil))]
def r1:=[m 11 0,o 12 (.call 66 [11]),m 13 1,o 14 (.call 66 [13]),m 5 12,m 6 14]
def r2:=[m 15 5,m 16 6,o 17 (.call 67 [15,16]),o 18 (.bin .lss 17 (k 0))]
def r3:=[m 19 6,m 20 5,m 5 19,m 6 20]
def r4:=[m 21 6,o 22 (.len 21),o 23 (.bin .gtr 22 (k 2))]
def r5:=[m 25 5,m 26 6,o 27 (.call 81 [25,26]),m 24 27,o 28 (.ext 24 0),o 29 (.ext 24 1),m 5 28,m 6 29]
def r6:=[m 30 6,o 31 (.len 30),o 32 (.bin .eql 31 (k 0))]
def r7:=[m 33 5,m 4 33]
def r8:=[m 35 5,m 36 6,o 37 (.call 74 [35,36]),m 34 37,o 38 (.ext 34 0),o 39 (.ext 34 1),m 7 38,m 8 39]
def r9:=[m 40 6,o 41 (.call 76 [40]),m 42 8,o 43 (.call 76 [42]),m 9 41,m 10 43]
def DQ:=[m 44 10,o 45 (.bin .neq 44 (.c (.int .u64 (0))))]
def DW:=[m 46 10,m 47 9,m 48 10,o 49 (.bin .rem 47 48),m 9 46,m 10 49]
def q6:=[m 50 9,o 51 (.conv .u32 50),m 52 9,o 53 (.bin .shr 52 (.c (.int .u64 (32)))),o 54 (.conv .u32 53),o 55 (.c4 55 1 [51,54]),o 56 (.c8 65 [55]),
 m 4 56]
def l1:=(s (s (d r4 [18,21,22]) (i 23 .skip (x 0))) (b 1 (d r5 [23,24,25,26,27,28,29])))
def l2:=(s (s (d DQ [44]) (i 45 .skip (x 2))) (b 3 (e DW [45,46,47,48,49])))
def c:=(s (d r0 [4]) (s (d r1 [0,1,11,12,13,14]) (s (s (d r2 [15,16,17]) (i 18 (d r3 [18,19,20]) .skip)) (s (b 0 (w l1)) (s (s (d r6 [23,30,31]) (i 32 (s (d r7 [5,6,32,33]) .ret) .skip)) (s (d r8 [5,7,32,34,35,36,37,38,39]) (s (d r9 [6,8,40,41,42,43]) (s (b 2 (w l2)) (s (d q6 [9,10,45,50,51,52,53,54,55,56]) .ret)))))))))
end JO
def JO:AFn:=⟨2,JO.c,[.tmp 4],false⟩
structure c6 (L:Lib):Prop where
 OS:L 58=some F.OS
 OU:L 59=some F.OU
 OP:L 60=some F.OP
 OR:L 61=some F.OR
 KW:L 62=some F.KW
 PJ:L 63=some F.PJ
 PI:L 64=some F.PI
 IM:L 65=some F.IM
 PU:L 66=some F.PU
 PO:L 67=some F.PO
 PN:L 68=some F.PN
 PS:L 69=some F.PS
 PR:L 70=some F.PR
 M3:L 71=some F.M3
 PZ:L 72=some F.PZ
 IV:L 73=some F.IV
 PX:L 74=some F.PX
 PP:L 75=some F.PP
 P1:L 76=some F.P1
 LL:L 77=some F.LL
 PY:L 78=some F.PY
 PV:L 79=some F.PV
 PW:L 80=some F.PW
 P0:L 81=some F.P0
 JO:L 82=some F.JO
end Go.Eng.F

namespace Go.Eng.F
open C
namespace FU
def r0:=[o 4 (.alloc 83004 [(.bool false),.nil])]
def r1:=[m 5 0,m 6 5,g 7 6 true (.a8 1),g 8 6 true (.len 7),g 9 6 true (.bin .gtr 8 (k 0)),o 10 (.pick 6 9 (.c (.bool false))),m 11 1,
 o 12 (.build [(.bool false),.nil] [(0,1,10),(1,1,11)]),n (.st 2 4 12)]
def c:=(s (p r0) (s (d r1 [0,1,5,6,7,8,9,10,11,12]) .ret))
end FU
def FU:AFn:=⟨2,FU.c,[.cell 4 true 2],false⟩
namespace O4
def r0:=[o 1 (.box 1 0),o 2 (.alloc 2 [(.bool false),.nil])]
def r1:=[o 3 (.a7 1 0),o 4 (.ld false 1 3),o 5 (.a7 1 1),o 6 (.ld false 1 5),o 7 (.call 66 [6]),o 8 (.c8 83 [4,7]),n (.st 2 2 8)]
def c:=(s (d r0 [0]) (s (e r1 [1,3,4,5,6,7,8]) .ret))
end O4
def O4:AFn:=⟨1,O4.c,[.cell 2 true 2],false⟩
namespace O2
def r0:=[o 2 (.alloc 2 [(.bool false),.nil])]
def r1:=[m 4 0,o 5 (.conv .u64 4),m 3 5]
def r2:=[m 6 0,o 7 (.bin .lss 6 (k 0))]
def r3:=[m 8 3,o 9 (.un .neg 8),m 3 9]
def r4:=[m 10 0,o 11 (.bin .lss 10 (k 0)),m 12 3,o 13 (.conv .u32 12),m 14 3,o 15 (.bin .shr 14 (.c (.int .u64 (32)))),o 16 (.conv .u32 15),
 o 17 (.c4 17 1 [13,16]),o 18 (.call 66 [17]),o 19 (.c8 83 [11,18]),n (.st 2 2 19)]
def c:=(s (p r0) (s (d r1 [4,5]) (s (s (d r2 [6]) (i 7 (d r3 [7,8,9]) .skip)) (s (d r4 [0,3,7,10,11,12,13,14,15,16,17,18,19]) .ret))))
end O2
def O2:AFn:=⟨1,O2.c,[.cell 2 true 2],false⟩
namespace O3
def r0:=[o 1 (.box 1 0),o 2 (.a8 (k 0))]
def r1:=[o 4 (.a7 1 1),o 5 (.ld false 1 4),o 6 (.call 67 [5,(.c .nil)]),o 7 (.bin .eql 6 (k 0)),m 3 7]
def r2:=[o 2 (.a8 (k 0))]
def r3:=[o 9 (.a7 1 0),o 10 (.ld false 1 9),m 8 10]
def r4:=[o 2 (.a8 (k (-1)))]
def r5:=[o 2 (.a8 (k 1))]
def c:=(s (d r0 [0,2]) (s (b 0 (s (d r1 [4,5,6,7]) (i 3 (s (d r2 [1,3]) .ret) (s (d r3 [1,3,9,10]) (i 8 (s (d r4 [8]) .ret) .skip))))) (s (d r5 [8]) .ret)))
end O3
def O3:AFn:=⟨1,O3.c,[.tmp 2],false⟩
namespace OY
def r0:=[o 2 (.box 2 0),o 3 (.box 3 1),o 4 (.alloc 4 [(.bool false),.nil])]
def r1:=[o 5 (.a7 2 0),o 6 (.ld false 1 5),o 7 (.a7 3 0),o 8 (.ld false 1 7),o 9 (.beq false 6 8)]
def r2:=[o 10 (.a7 2 0),o 11 (.ld false 1 10),o 12 (.a7 2 1),o 13 (.ld false 1 12),o 14 (.a7 3 1),o 15 (.ld false 1 14),o 16 (.call 68 [13,15]),
 o 17 (.c8 83 [11,16]),n (.st 2 4 17)]
def r3:=[o 18 (.a7 2 1),o 19 (.ld false 1 18),o 20 (.a7 3 1),o 21 (.ld false 1 20),o 22 (.call 67 [19,21]),o 23 (.bin .eql 22 (k (-1)))]
def r4:=[o 24 (.a7 3 0),o 25 (.ld false 1 24),o 26 (.a7 3 1),o 27 (.ld false 1 26),o 28 (.a7 2 1),o 29 (.ld false 1 28),o 30 (.call 69 [27,29]),
 o 31 (.c8 83 [25,30]),n (.st 2 4 31)]
def r5:=[o 32 (.a7 2 0),o 33 (.ld false 1 32),o 34 (.a7 2 1),o 35 (.ld false 1 34),o 36 (.a7 3 1),o 37 (.ld false 1 36),o 38 (.call 69 [35,37]),
 o 39 (.c8 83 [33,38]),n (.st 2 4 39)]
def c:=(s (d r0 [0,1]) (s (s (d r1 [5,6,7,8]) (i 9 (s (e r2 [2,3,9,10,11,12,13,14,15,16,17]) .ret) .skip)) (s (s (d r3 [9,18,19,20,21,22]) (i 23 (s (e r4 [2,3,23,24,25,26,27,28,29,30,31]) .ret) .skip)) (s (e r5 [2,3,23,32,33,34,35,36,37,38,39]) .ret))))
end OY
def OY:AFn:=⟨2,OY.c,[.cell 4 true 2],false⟩
namespace O1
def r0:=[o 2 (.box 2 0),o 3 (.box 3 1),o 4 (.alloc 4 [(.bool false),.nil])]
def r1:=[o 5 (.a7 2 0),o 6 (.ld false 1 5),o 7 (.a7 3 0),o 8 (.ld false 1 7),o 9 (.beq true 6 8),o 10 (.a7 2 1),o 11 (.ld false 1 10),o 12 (.a7 3 1),
 o 13 (.ld false 1 12),o 14 (.call 70 [11,13]),o 15 (.c8 83 [9,14]),n (.st 2 4 15)]
def c:=(s (d r0 [0,1]) (s (e r1 [2,3,5,6,7,8,9,10,11,12,13,14,15]) .ret))
end O1
def O1:AFn:=⟨2,O1.c,[.cell 4 true 2],false⟩
namespace LR
def r0:=[o 1 (.box 1 0),o 2 (.alloc 2 [(.bool false),.nil,.nil,(.bool false)])]
def r1:=[o 3 (.a7 1 2),o 4 (.ld false 1 3),o 5 (.len 4),o 6 (.bin .eql 5 (k 1)),m 7 6,g 8 7 true (.a7 1 2),g 9 7 true (.ld false 1 8),
 g 10 7 true (.a4 none 1 9 (k 0)),g 11 7 true (.ld false 1 10),g 12 7 true (.bin .eql 11 (.c (.int .u32 (1)))),o 13 (.pick 7 12 (.c (.bool false)))]
def r2:=[o 14 (.a7 1 0),o 15 (.ld true 2 14),o 16 (.a7 1 2),o 17 (.ld false 1 16),o 18 (.build [(.bool false),.nil,.nil] [(0,2,15),(2,1,17)]),
 o 19 (.build [(.bool false),.nil,.nil,(.bool false)] [(0,3,18),(3,1,(.c (.bool true)))]),n (.st 4 2 19)]
def r3:=[o 20 (.a7 1 2),o 21 (.ld false 1 20),o 22 (.call 67 [21,(.c .nil)]),o 23 (.bin .eql 22 (k 0))]
def r4:=[o 24 (.build [(.bool false),.nil] []),o 25 (.c4 25 1 [(.c (.int .u32 (1)))]),o 26 (.build [(.bool false),.nil,.nil] [(0,2,24),(2,1,25)]),
 o 27 (.build [(.bool false),.nil,.nil,(.bool false)] [(0,3,26),(3,1,(.c (.bool true)))]),n (.st 4 2 27)]
def r5:=[o 28 (.a7 1 0),o 29 (.ld true 2 28),o 30 (.a7 1 2),o 31 (.ld false 1 30),o 32 (.build [(.bool false),.nil,.nil] [(0,2,29),(2,1,31)]),
 o 33 (.build [(.bool false),.nil,.nil,(.bool false)] [(0,3,32),(3,1,(.c (.bool false)))]),n (.st 4 2 33)]
def c:=(s (d r0 [0]) (s (s (d r1 [3,4,5,6,7,8,9,10,11,12]) (i 13 (s (d r2 [1,13,14,15,16,17,18,19]) .ret) .skip)) (s (s (d r3 [13,20,21,22]) (i 23 (s (d r4 [1,23,24,25,26,27]) .ret) .skip)) (s (d r5 [1,23,28,29,30,31,32,33]) .ret))))
end LR
def LR:AFn:=⟨1,LR.c,[.cell 2 true 4],false⟩
namespace QU
def r0:=[o 2 (.a8 (.c (.bool false)))]
def r1:=[m 3 0,o 4 (.len 3),o 5 (.bin .eql 4 (k 1)),m 6 5,g 7 6 true (.a8 0),g 8 6 true (.a4 none 1 7 (k 0)),g 9 6 true (.ld false 1 8),
 g 10 6 true (.bin .eql 9 (.c (.int .u32 (1)))),o 11 (.pick 6 10 (.c (.bool false))),m 2 11]
def c:=(s (d r0 [2]) (s (d r1 [0,3,4,5,6,7,8,9,10,11]) .ret))
end QU
def QU:AFn:=⟨1,QU.c,[.tmp 2],false⟩
namespace QV
def r0:=[o 2 (.alloc 2 [(.bool false),.nil])]
def r1:=[m 3 0,o 4 (.build [(.bool false),.nil] [(1,1,3)]),n (.st 2 2 4)]
def c:=(s (p r0) (s (d r1 [0,3,4]) .ret))
end QV
def QV:AFn:=⟨1,QV.c,[.cell 2 true 2],false⟩
namespace KS
def r0:=[o 1 (.box 92001 0),o 2 (.alloc 92002 [(.bool false),.nil,.nil])]
def r1:=[o 3 (.ld true 2 1),o 4 (.c4 92004 1 [(.c (.int .u32 (1)))]),o 5 (.build [(.bool false),.nil,.nil] [(0,2,3),(2,1,4)]),n (.st 3 2 5)]
def c:=(s (d r0 [0]) (s (d r1 [1,3,4,5]) .ret))
end KS
def KS:AFn:=⟨1,KS.c,[.cell 2 true 3],false⟩
namespace M7
def r0:=[o 2 (.box 93002 0),o 3 (.box 93003 1),o 4 (.alloc 93004 [(.bool false),.nil,.nil])]
def r1:=[o 5 (.a7 2 0),o 6 (.ld false 1 5),o 7 (.a7 3 0),o 8 (.ld false 1 7),o 9 (.beq true 6 8),o 10 (.a7 2 1),o 11 (.ld false 1 10),
 o 12 (.build [(.bool false),.nil] [(0,1,9),(1,1,11)]),o 13 (.a7 3 1),o 14 (.ld false 1 13),
 o 15 (.build [(.bool false),.nil,.nil] [(0,2,12),(2,1,14)]),n (.st 3 4 15)]
def c:=(s (d r0 [0,1]) (s (d r1 [2,3,5,6,7,8,9,10,11,12,13,14,15]) .ret))
end M7
def M7:AFn:=⟨2,M7.c,[.cell 4 true 3],false⟩
namespace QW
def r0:=[o 1 (.box 1 0),o 2 (.alloc 2 [(.bool false),.nil,.nil])]
def r1:=[o 14 (.a7 1 0),o 15 (.a7 14 1),o 16 (.ld false 1 15),o 17 (.a7 1 2),o 18 (.ld false 1 17),o 19 (.call 75 [16,18]),m 13 19,o 20 (.ext 13 0),
 o 21 (.ext 13 1),o 22 (.ext 13 2),m 3 20,m 4 21,m 5 22]
def r2:=[m 23 4,o 24 (.len 23),o 25 (.bin .eql 24 (k 0))]
def r3:=[o 26 (.a7 1 0),o 27 (.a7 26 0),o 28 (.ld false 1 27),m 29 3,o 30 (.build [(.bool false),.nil] [(0,1,28),(1,1,29)]),o 31 (.call 84 [30]),
 o 32 (.c8 92 [31]),n (.st 3 2 32)]
def r4:=[o 33 (.a7 1 2),o 34 (.ld false 1 33),m 35 4,o 36 (.call 82 [34,35]),m 6 36]
def r5:=[m 37 6,o 38 (.call 90 [37])]
def r6:=[o 39 (.a7 1 0),o 40 (.ld true 2 39),o 41 (.call 84 [40]),o 42 (.a7 1 2),o 43 (.ld false 1 42),o 44 (.call 66 [43]),
 o 45 (.build [(.bool false),.nil,.nil] [(0,2,41),(2,1,44)]),n (.st 3 2 45)]
def r7:=[o 47 (.a7 1 0),o 48 (.a7 47 1),o 49 (.ld false 1 48),m 50 6,o 51 (.call 75 [49,50]),m 46 51,o 52 (.ext 46 0),o 53 (.ext 46 1),o 54 (.ext 46 2),
 m 7 52,m 8 53,m 9 54]
def r8:=[o 56 (.a7 1 2),o 57 (.ld false 1 56),m 58 6,o 59 (.call 75 [57,58]),m 55 59,o 60 (.ext 55 0),o 61 (.ext 55 1),o 62 (.ext 55 2),m 10 60,m 11 61,
 m 12 62]
def r9:=[o 63 (.a7 1 0),o 64 (.a7 63 0),o 65 (.ld false 1 64),m 66 7,o 67 (.build [(.bool false),.nil] [(0,1,65),(1,1,66)]),m 68 10,
 o 69 (.build [(.bool false),.nil,.nil] [(0,2,67),(2,1,68)]),n (.st 3 2 69)]
def c:=(s (d r0 [0]) (s (d r1 [5,13,14,15,16,17,18,19,20,21,22]) (s (s (d r2 [23,24]) (i 25 (s (d r3 [1,3,4,25,26,27,28,29,30,31,32]) .ret) .skip)) (s (d r4 [3,4,25,33,34,35,36]) (s (s (d r5 [37]) (i 38 (s (e r6 [1,6,38,39,40,41,42,43,44,45]) .ret) .skip)) (s (d r7 [8,9,38,46,47,48,49,50,51,52,53,54]) (s (d r8 [6,11,12,55,56,57,58,59,60,61,62]) (s (d r9 [1,7,10,63,64,65,66,67,68,69]) .ret))))))))
end QW
def QW:AFn:=⟨1,QW.c,[.cell 2 true 3],false⟩
namespace QS
def r0:=[o 1 (.box 1 0),o 2 (.alloc 2 [(.bool false),.nil,.nil])]
def r1:=[o 3 (.ld true 3 1),o 4 (.l9 89 [3]),o 5 (.gx 4 0 3 true),o 6 (.call 94 [5]),n (.st 3 2 6)]
def c:=(s (d r0 [0]) (s (d r1 [1,3,4,5,6]) .ret))
end QS
def QS:AFn:=⟨1,QS.c,[.cell 2 true 3],false⟩
namespace QP
def r0:=[o 2 (.alloc 2 [(.bool false),.nil,.nil])]
def r1:=[m 3 0,o 4 (.call 85 [3]),o 5 (.c8 92 [4]),n (.st 3 2 5)]
def c:=(s (p r0) (s (d r1 [0,3,4,5]) .ret))
end QP
def QP:AFn:=⟨1,QP.c,[.cell 2 true 3],false⟩
namespace QQ
def r0:=[o 1 (.box 1 0),o 2 (.a8 (k 0))]
def r1:=[o 3 (.ld true 3 1),o 4 (.l9 89 [3]),o 5 (.gx 4 0 3 true),o 6 (.gx 5 0 2 true),o 7 (.call 86 [6]),m 2 7]
def c:=(s (d r0 [0,2]) (s (d r1 [1,3,4,5,6,7]) .ret))
end QQ
def QQ:AFn:=⟨1,QQ.c,[.tmp 2],false⟩
namespace LQ
def r0:=[o 2 (.box 2 0),o 3 (.box 3 1),o 4 (.alloc 4 [(.bool false),.nil,.nil])]
def r1:=[q 8 [5,6] (.ld true 3 2),q 9 [5,6] (.l9 89 [8]),q 10 [5,6] (.ld true 3 3),q 11 [5,6] (.l9 89 [10]),
 o 5 (.alloc 5 [(.bool false),.nil,.nil,(.bool false)]),o 6 (.alloc 6 [(.bool false),.nil,.nil,(.bool false)]),n (.st 4 5 9),n (.st 4 6 11)]
def r2:=[o 12 (.a7 5 3),o 13 (.ld false 1 12),m 14 13,g 15 14 true (.a7 6 3),g 16 14 true (.ld false 1 15),o 17 (.pick 14 16 (.c (.bool false)))]
def r3:=[o 18 (.a7 5 0),o 19 (.a7 18 0),o 20 (.ld true 2 19),o 21 (.a7 6 0),o 22 (.a7 21 0),o 23 (.ld true 2 22),o 24 (.call 87 [20,23]),
 o 25 (.c8 92 [24]),n (.st 3 4 25)]
def r4:=[o 26 (.a7 5 0),o 27 (.a7 26 2),o 28 (.ld false 1 27),o 29 (.a7 6 0),o 30 (.a7 29 2),o 31 (.ld false 1 30),o 32 (.call 67 [28,31]),
 o 33 (.bin .eql 32 (k 0))]
def r5:=[o 34 (.a7 5 0),o 35 (.a7 34 0),o 36 (.ld true 2 35),o 37 (.a7 6 0),o 38 (.a7 37 0),o 39 (.ld true 2 38),o 40 (.call 87 [36,39]),
 o 41 (.a7 5 0),o 42 (.a7 41 2),o 43 (.ld false 1 42),o 44 (.build [(.bool false),.nil,.nil] [(0,2,40),(2,1,43)]),o 45 (.call 94 [44]),
 n (.st 3 4 45)]
def r6:=[o 46 (.a7 5 0),o 47 (.a7 46 0),q 48 [7] (.ld true 2 47),o 49 (.a7 6 0),o 50 (.a7 49 2),q 51 [7] (.ld false 1 50),
 q 52 [7] (.l9 91 [51]),q 53 [7] (.call 88 [48,52]),o 54 (.a7 6 0),o 55 (.a7 54 0),q 56 [7] (.ld true 2 55),
 o 57 (.a7 5 0),o 58 (.a7 57 2),q 59 [7] (.ld false 1 58),q 60 [7] (.l9 91 [59]),q 61 [7] (.call 88 [56,60]),
 q 62 [7] (.call 87 [53,61]),o 7 (.alloc 7 [(.bool false),.nil]),n (.st 2 7 62)]
def r7:=[o 63 (.ld true 2 7),o 64 (.a7 5 0),o 65 (.a7 64 2),o 66 (.ld false 1 65),o 67 (.a7 6 0),o 68 (.a7 67 2),o 69 (.ld false 1 68),
 o 70 (.call 70 [66,69]),o 71 (.build [(.bool false),.nil,.nil] [(0,2,63),(2,1,70)]),o 72 (.call 94 [71]),n (.st 3 4 72)]
def c:=(s (d r0 [0,1]) (s (e r1 [2,3,8,9,10,11]) (s (s (d r2 [12,13,14,15,16]) (i 17 (s (d r3 [5,6,17,18,19,20,21,22,23,24,25]) .ret) .skip)) (s (s (d r4 [17,26,27,28,29,30,31,32]) (i 33 (s (e r5 [5,6,33,34,35,36,37,38,39,40,41,42,43,44,45]) .ret) .skip)) (s (e r6 [33,46,47,48,49,50,51,52,53,54,55,56,57,58,59,60,61,62]) (s (e r7 [5,6,7,63,64,65,66,67,68,69,70,71,72]) .ret))))))
end LQ
def LQ:AFn:=⟨2,LQ.c,[.cell 4 true 3],false⟩
namespace M6
def r0:=[o 2 (.box 2 0),o 3 (.box 3 1),o 4 (.alloc 4 [(.bool false),.nil,.nil])]
def r1:=[q 8 [5,6] (.ld true 3 2),q 9 [5,6] (.l9 89 [8]),q 10 [5,6] (.ld true 3 3),q 11 [5,6] (.l9 89 [10]),
 o 5 (.alloc 5 [(.bool false),.nil,.nil,(.bool false)]),o 6 (.alloc 6 [(.bool false),.nil,.nil,(.bool false)]),n (.st 4 5 9),n (.st 4 6 11)]
def r2:=[o 12 (.a7 5 0),o 13 (.a7 12 0),o 14 (.ld true 2 13),o 15 (.a7 6 0),o 16 (.a7 15 0),o 17 (.ld true 2 16),o 18 (.call 88 [14,17]),
 o 7 (.alloc 7 [(.bool false),.nil]),n (.st 2 7 18)]
def r3:=[o 19 (.a7 5 3),o 20 (.ld false 1 19),m 21 20,g 22 21 true (.a7 6 3),g 23 21 true (.ld false 1 22),o 24 (.pick 21 23 (.c (.bool false)))]
def r4:=[o 25 (.ld true 2 7),o 26 (.c8 92 [25]),n (.st 3 4 26)]
def r5:=[o 27 (.ld true 2 7),o 28 (.a7 5 0),o 29 (.a7 28 2),o 30 (.ld false 1 29),o 31 (.a7 6 0),o 32 (.a7 31 2),o 33 (.ld false 1 32),
 o 34 (.call 70 [30,33]),o 35 (.build [(.bool false),.nil,.nil] [(0,2,27),(2,1,34)]),o 36 (.call 94 [35]),n (.st 3 4 36)]
def c:=(s (d r0 [0,1]) (s (e r1 [2,3,8,9,10,11]) (s (d r2 [12,13,14,15,16,17,18]) (s (s (d r3 [19,20,21,22,23]) (i 24 (s (d r4 [5,6,7,24,25,26]) .ret) .skip)) (s (e r5 [5,6,7,24,27,28,29,30,31,32,33,34,35,36]) .ret)))))
end M6
def M6:AFn:=⟨2,M6.c,[.cell 4 true 3],false⟩
namespace QK
def r0:=[o 2 (.box 2 0),o 3 (.box 3 1),o 4 (.alloc 4 [(.bool false),.nil,.nil]),o 5 (.a8 (k 0))]
def r1:=[q 10 [6,7] (.ld true 3 2),q 11 [6,7] (.l9 89 [10]),q 12 [6,7] (.ld true 3 3),q 13 [6,7] (.l9 89 [12]),
 o 6 (.alloc 6 [(.bool false),.nil,.nil,(.bool false)]),o 7 (.alloc 7 [(.bool false),.nil,.nil,(.bool false)]),n (.st 4 6 11),n (.st 4 7 13)]
def r2:=[o 14 (.a7 7 0),o 15 (.a7 14 0),o 16 (.ld true 2 15),o 17 (.call 86 [16]),o 18 (.bin .eql 17 (k 0))]
def r3:=[o 19 (.build [(.bool false),.nil,.nil] []),n (.st 3 4 19),o 5 (.a8 (k 3))]
def r4:=[o 20 (.a7 6 0),o 21 (.a7 20 0),q 22 [8] (.ld true 2 21),o 23 (.a7 7 0),o 24 (.a7 23 2),q 25 [8] (.ld false 1 24),
 q 26 [8] (.l9 91 [25]),q 27 [8] (.call 88 [22,26]),o 8 (.alloc 8 [(.bool false),.nil]),n (.st 2 8 27)]
def r5:=[o 28 (.a7 6 0),o 29 (.a7 28 2),q 30 [9] (.ld false 1 29),q 31 [9] (.l9 91 [30]),o 32 (.a7 7 0),o 33 (.a7 32 0),
 q 34 [9] (.ld true 2 33),q 35 [9] (.call 88 [31,34]),o 9 (.alloc 9 [(.bool false),.nil]),n (.st 2 9 35)]
def r6:=[o 36 (.ld true 2 8),o 37 (.ld true 2 9),o 38 (.c8 93 [36,37]),o 39 (.call 94 [38]),n (.st 3 4 39),o 5 (.a8 (k 0))]
def c:=(s (d r0 [0,1,5]) (s (e r1 [2,3,10,11,12,13]) (s (s (d r2 [14,15,16,17]) (i 18 (s (d r3 [6,7,18,19]) .ret) .skip)) (s (e r4 [18,20,21,22,23,24,25,26,27]) (s (e r5 [6,7,28,29,30,31,32,33,34,35]) (s (d r6 [8,9,36,37,38,39]) .ret))))))
end QK
def QK:AFn:=⟨2,QK.c,[.cell 4 true 3,.tmp 5],false⟩
structure a5 (L:Lib):Prop extends c6 L where
 FU:L 83=some F.FU
 O4:L 84=some F.O4
 O2:L 85=some F.O2
 O3:L 86=some F.O3
 OY:L 87=some F.OY
 O1:L 88=some F.O1
 LR:L 89=some F.LR
 QU:L 90=some F.QU
 QV:L 91=some F.QV
 KS:L 92=some F.KS
 M7:L 93=some F.M7
 QW:L 94=some F.QW
 QS:L 95=some F.QS
 QP:L 96=some F.QP
 QQ:L 97=some F.QQ
 LQ:L 98=some F.LQ
 M6:L 99=some F.M6
 QK:L 100=some F.QK
end Go.Eng.F
