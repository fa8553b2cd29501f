/-
  A region that draws its order: whatever the order, what the order of the text gives.
-/
import Derived.Test.YtdehnieflanifaaGreatB2
import Derived.Test.YtdehnieflanifaaGreatB1
set_option linter.unusedSimpArgs false
set_option linter.unusedVariables false
set_option linter.unnecessarySimpa false
namespace Go.Eng
open Go.RowKit
section
variable {T T':Nat→AV} {C:Cl} {ban:List Nat} {own:Own}
theorem opd_congr {x:Opd} (h : ∀ t∈opdT x,T t=T' t):evT T x=evT T' x:=by
 cases x with
 | t n=>exact h n (by simp [opdT])
 | c v=>rfl
theorem opds_congr {xs:List Opd} (h : ∀ t∈xs.flatMap opdT,T t=T' t):xs.map (evT T)=xs.map (evT T') :=
 List.map_congr_left fun x hx=>opd_congr fun t ht=>h t (List.mem_flatMap.2 ⟨x,hx,ht⟩)
theorem opt_congr {x:Option Opd} (h : ∀ t∈optT x,T t=T' t) {y:Opd} (hy:x=some y):evT T y=evT T' y:=by
 subst hy
 exact opd_congr h
theorem eff_congr {op:AOp} (h : ∀ t∈usesA op,T t=T' t):eff C ban (evT T) own op=eff C ban (evT T') own op:=by
 cases op with
 | build z ps =>
  simp only[eff]
  congr 2
  refine List.map_congr_left fun p hp => ?_
  rw[opd_congr (x:=p.2.2) fun t ht=>h t (by simp only[usesA];exact List.mem_flatMap.2 ⟨p,hp,ht⟩)]
 | bslice s esz ps =>
  have hm:ps.mapM (fun x=>cellsOf (evT T x))=ps.mapM (fun x=>cellsOf (evT T' x)):=by
   have e : ∀ l:List Opd,(∀ x∈l,evT T x=evT T' x)→l.mapM (fun x=>cellsOf (evT T x))=l.mapM (fun x=>cellsOf (evT T' x)):=by
    intro l
    induction l with
    | nil=>intro _;rfl
    | cons x r ih=>intro hl;simp only[List.mapM_cons];rw[hl x (by simp),ih fun y hy=>hl y (by simp [hy])]
   exact e ps fun x hx=>opd_congr fun t ht=>h t (by simp only[usesA];exact List.mem_flatMap.2 ⟨x,hx,ht⟩)
  simp only[eff,hm]
 | mm mx xs=>simp only[eff];rw[opds_congr (xs:=xs) h]
 | call f xs=>simp only[eff];rw[opds_congr (xs:=xs) h]
 | calli f xs=>simp only[eff];rw[opds_congr (xs:=xs) h]
 | isn ne x=>simp only[eff];rw[opd_congr (x:=x) h]
 | sidx tb x=>simp only[eff];rw[opd_congr (x:=x) h]
 | mkf p f xs =>
  have e : ∀ l:List Opd,(∀ x∈l,evT T x=evT T' x)→l.mapM (fun x=>oneA (evT T x))=l.mapM (fun x=>oneA (evT T' x)):=by
   intro l
   induction l with
   | nil=>intro _;rfl
   | cons x r ih=>intro hl;simp only[List.mapM_cons];rw[hl x (by simp),ih fun y hy=>hl y (by simp [hy])]
  simp only[eff]
  rw[e xs fun x hx=>opd_congr fun t ht=>h t (by simp only[usesA];exact List.mem_flatMap.2 ⟨x,hx,ht⟩)]
 | callq f xs=>simp only[eff];rw[opds_congr (xs:=xs) h]
 | callr s f xs=>simp only[eff];rw[opds_congr (xs:=xs) h]
 | sto s n x v =>
  simp only[usesA,List.mem_append]at h
  simp only[eff]
  rw[opd_congr (x:=x) fun t ht=>h t (.inl ht),opd_congr (x:=v) fun t ht=>h t (.inr ht)]
 | callv x xs =>
  simp only[usesA,List.mem_append]at h
  simp only[eff]
  rw[opd_congr (x:=x) fun t ht=>h t (.inl ht),opds_congr (xs:=xs) fun t ht=>h t (.inr ht)]
 | slc esz x lo hi =>
  simp only[usesA,List.mem_append]at h
  have hx:evT T x=evT T' x:=opd_congr fun t ht=>h t (.inl (.inl ht))
  have hlo : ∀ y,lo=some y→evT T y=evT T' y:=fun y hy=>opt_congr (fun t ht=>h t (.inl (.inr ht))) hy
  have hhi : ∀ y,hi=some y→evT T y=evT T' y:=fun y hy=>opt_congr (fun t ht=>h t (.inr ht)) hy
  simp only[eff,hx]
  cases lo with
  | none=>cases hi with
   | none=>rfl
   | some y=>simp only[hhi y rfl]
  | some z=>cases hi with
   | none=>simp only[hlo z rfl]
   | some y=>simp only[hlo z rfl,hhi y rfl]
 | vrow=>rfl
 | alloc=>rfl
 | mov x=>simp only[eff];rw[opd_congr (x:=x) h]
 | un f x=>simp only[eff];rw[opd_congr (x:=x) h]
 | conv k x=>simp only[eff];rw[opd_congr (x:=x) h]
 | box s x=>simp only[eff];rw[opd_congr (x:=x) h]
 | fadr x off=>simp only[eff];rw[opd_congr (x:=x) h]
 | fld x off n agg=>simp only[eff];rw[opd_congr (x:=x) h]
 | ld agg n x=>simp only[eff];rw[opd_congr (x:=x) h]
 | ext x i=>simp only[eff];rw[opd_congr (x:=x) h]
 | len x=>simp only[eff];rw[opd_congr (x:=x) h]
 | pick c x y =>
  simp only[usesA,List.mem_append]at h
  simp only[eff]
  rw[opd_congr (x:=c) fun t ht=>h t (.inl (.inl ht)),opd_congr (x:=x) fun t ht=>h t (.inl (.inr ht)),opd_congr (x:=y) fun t ht=>h t (.inr ht)]
 | bin f x y =>
  simp only[usesA,List.mem_append]at h
  simp only[eff]
  rw[opd_congr (x:=x) fun t ht=>h t (.inl ht),opd_congr (x:=y) fun t ht=>h t (.inr ht)]
 | aeq ne n x y =>
  simp only[usesA,List.mem_append]at h
  simp only[eff]
  rw[opd_congr (x:=x) fun t ht=>h t (.inl ht),opd_congr (x:=y) fun t ht=>h t (.inr ht)]
 | beq ne x y =>
  simp only[usesA,List.mem_append]at h
  simp only[eff]
  rw[opd_congr (x:=x) fun t ht=>h t (.inl ht),opd_congr (x:=y) fun t ht=>h t (.inr ht)]
 | iadr arr esz x i =>
  simp only[usesA,List.mem_append]at h
  simp only[eff]
  rw[opd_congr (x:=x) fun t ht=>h t (.inl ht),opd_congr (x:=i) fun t ht=>h t (.inr ht)]
 | idx len esz agg x i =>
  simp only[usesA,List.mem_append]at h
  simp only[eff]
  rw[opd_congr (x:=x) fun t ht=>h t (.inl ht),opd_congr (x:=i) fun t ht=>h t (.inr ht)]
 | st n x v =>
  simp only[usesA,List.mem_append]at h
  simp only[eff]
  rw[opd_congr (x:=x) fun t ht=>h t (.inl ht),opd_congr (x:=v) fun t ht=>h t (.inr ht)]
 | mk s esz bytes z l c =>
  simp only[usesA,List.mem_append]at h
  simp only[eff]
  rw[opd_congr (x:=l) fun t ht=>h t (.inl ht),opd_congr (x:=c) fun t ht=>h t (.inr ht)]
 | app s esz bytes x y =>
  simp only[usesA,List.mem_append]at h
  simp only[eff]
  rw[opd_congr (x:=x) fun t ht=>h t (.inl ht),opd_congr (x:=y) fun t ht=>h t (.inr ht)]
 | appo s esz bytes x y =>
  simp only[usesA,List.mem_append]at h
  simp only[eff]
  rw[opd_congr (x:=x) fun t ht=>h t (.inl ht),opd_congr (x:=y) fun t ht=>h t (.inr ht)]
 | cpy esz x y =>
  simp only[usesA,List.mem_append]at h
  simp only[eff]
  rw[opd_congr (x:=x) fun t ht=>h t (.inl ht),opd_congr (x:=y) fun t ht=>h t (.inr ht)]
theorem hide_eq (o:Own) (l:List Nat) (s:Nat):o.hide l s=if s∈l then ⟨0,fun _=>none⟩ else o s:=by
 induction l with
 | nil=>simp [Own.hide]
 | cons x r ih =>
  simp only[Own.hide,List.mem_cons]
  by_cases h:s=x
  ·simp [h]
  ·rw[if_neg h,ih]
   simp [h]
theorem hide_congr {o o':Own} {l:List Nat} (h : ∀ s,s ∉ l→o s=o' s):o.hide l=o'.hide l:=by
 funext s
 rw[hide_eq,hide_eq]
 split
 ·rfl
 ·rename_i hs;exact h s hs
end
section
variable {ops:Array Oper}
def inner (acc:Array Nat) (o:Oper):Nat:=o.after.foldl (fun s e=>if Region.binds .any e then s ||| 2^e.on ||| acc.getD e.on 0 else s) 0
theorem inner_bit (acc:Array Nat) (o:Oper) (j:Nat) (h:(inner acc o).testBit j=true) : ∃ e∈o.after,Region.binds .any e=true∧(e.on=j∨(acc.getD e.on 0).testBit j=true):=by
 unfold inner at h
 rw[←Array.foldl_toList]at h
 have key : ∀ (l:List Edge) (s:Nat),(l.foldl (fun s e=>if Region.binds .any e then s ||| 2^e.on ||| acc.getD e.on 0 else s) s).testBit j=true→s.testBit j=true ∨ ∃ e∈l,Region.binds .any e=true∧(e.on=j∨(acc.getD e.on 0).testBit j=true):=by
  intro l
  induction l with
  | nil=>intro s hs;exact .inl hs
  | cons e r ih =>
   intro s hs
   simp only[List.foldl_cons]at hs
   rcases ih _ hs with h1|⟨e',he',h2⟩
   ·by_cases hb:Region.binds .any e=true
    ·simp only[hb,if_true,Nat.testBit_or,Bool.or_eq_true,Nat.testBit_two_pow,decide_eq_true_eq]at h1
     rcases h1 with (h1|h1)|h1
     ·exact .inl h1
     ·exact .inr ⟨e,by simp,hb,.inl h1⟩
     ·exact .inr ⟨e,by simp,hb,.inr h1⟩
    ·simp only[hb,Bool.false_eq_true,if_false]at h1
     exact .inl h1
   ·exact .inr ⟨e',by simp [he'],h2⟩
 rcases key _ _ h with h|⟨e,he,h⟩
 ·simp at h
 ·exact ⟨e,by simpa using he,h⟩
theorem before_bit (i j:Nat) (h:((Region.before ops).getD i 0).testBit j=true) : ∃ o,ops[i]? = some o ∧ ∃ e∈o.after,Region.binds .any e=true∧(e.on=j∨(e.on<i∧((Region.before ops).getD e.on 0).testBit j=true)):=by
 have key : ∀ (rest:List Oper) (done:List Oper) (acc:Array Nat),acc.size=done.length →
   (∀ i j,(acc.getD i 0).testBit j=true → ∃ o,done[i]? = some o ∧ ∃ e∈o.after,Region.binds .any e=true∧(e.on=j∨(e.on<i∧(acc.getD e.on 0).testBit j=true))) →
   ∀ i j,((rest.foldl (fun acc o=>acc.push (inner acc o)) acc).getD i 0).testBit j=true → ∃ o,(done++rest)[i]? = some o ∧ ∃ e∈o.after,Region.binds .any e=true∧(e.on=j∨(e.on<i∧((rest.foldl (fun acc o=>acc.push (inner acc o)) acc).getD e.on 0).testBit j=true)):=by
  intro rest
  induction rest with
  | nil=>intro done acc hs hinv i j hj;simpa using hinv i j hj
  | cons o r ih =>
   intro done acc hs hinv i j hj
   simp only[List.foldl_cons]at hj ⊢
   have:=ih (done++[o]) (acc.push (inner acc o)) (by simp [hs]) (fun i j hij => ?_) i j hj
   ·simpa using this
   ·have hget : ∀ k,k<acc.size→(acc.push (inner acc o)).getD k 0=acc.getD k 0:=fun k hk=>by
     simp [Array.getD,hk,Nat.lt_succ_of_lt hk,Array.getElem_push_lt hk]
    by_cases hi:i<acc.size
    ·rw[hget i hi]at hij
     obtain ⟨o',ho',e,he,hb,hor⟩:=hinv i j hij
     refine ⟨o',by rw[List.getElem?_append_left (by omega)];exact ho',e,he,hb,hor.imp id fun ⟨h1,h2⟩=>⟨h1,by rw[hget e.on (by omega)];exact h2⟩⟩
    ·have hie:i=acc.size:=by
      rcases Nat.lt_or_ge i (acc.push (inner acc o)).size with h1|h1
      ·simp at h1;omega
      ·have:(acc.push (inner acc o)).getD i 0=0:=by simp [Array.getD];intro h2;simp at h1;omega
       rw[this]at hij
       simp at hij
     subst hie
     have hnew:(acc.push (inner acc o)).getD acc.size 0=inner acc o:=by simp [Array.getD]
     rw[hnew]at hij
     obtain ⟨e,he,hb,hor⟩:=inner_bit acc o j hij
     refine ⟨o,by rw[hs];simp,e,he,hb,hor.imp id fun h2 => ?_⟩
     have hlt:e.on<acc.size:=by
      rcases Nat.lt_or_ge e.on acc.size with h3|h3
      ·exact h3
      ·have:acc.getD e.on 0=0:=by simp [Array.getD];omega
       rw[this]at h2
       simp at h2
     exact ⟨hlt,by rw[hget e.on hlt];exact h2⟩
 have hb:Region.before ops=ops.toList.foldl (fun acc o=>acc.push (inner acc o)) #[]:=by
  unfold Region.before
  rw[←Array.foldl_toList]
  rfl
 rw[hb]at h ⊢
 have:=key ops.toList [] #[] rfl (fun i j hij=>by simp at hij) i j h
 simpa using this
def Down (ops:Array Oper) (X:Nat→Bool):Prop := ∀ j o,X j=true→ops[j]? = some o → ∀ e∈o.after,Region.binds .any e=true→X e.on=true
theorem anc {X:Nat→Bool} (hX:Down ops X) : ∀ (i:Nat),(∀ o,ops[i]? = some o → ∀ e∈o.after,Region.binds .any e=true→X e.on=true) → ∀ j,((Region.before ops).getD i 0).testBit j=true→X j=true:=by
 intro i
 induction i using Nat.strongRecOn with
 | ind i ih =>
  intro hi j hj
  obtain ⟨o,ho,e,he,hb,hor⟩:=before_bit i j hj
  have hx:=hi o ho e he hb
  rcases hor with h|⟨hlt,h⟩
  ·rw[←h];exact hx
  ·exact ih e.on hlt (fun o' ho' e' he' hb'=>hX e.on o' hx ho' e' he' hb') j h
theorem ord_lt {X:Nat→Bool} (hX:Down ops X) {i j:Nat} (hi : ∀ o,ops[i]? = some o → ∀ e∈o.after,Region.binds .any e=true→X e.on=true) (hlt:j<i) (h:ordB (Region.before ops) i j=true):X j=true:=by
 unfold ordB at h
 rw[Nat.max_eq_left (by omega),Nat.min_eq_right (by omega)]at h
 exact anc hX i hi j h
theorem ord_gt {X:Nat→Bool} (hX:Down ops X) {i j:Nat} (hj:X j=true) (hlt:i<j) (h:ordB (Region.before ops) i j=true):X i=true:=by
 unfold ordB at h
 rw[Nat.max_eq_right (by omega),Nat.min_eq_left (by omega)]at h
 exact anc hX j (fun o ho e he hb=>hX j o hj ho e he hb) i h
end
section
variable {C:Cl}
abbrev D:=(Nat→AV) × Own
structure Rcd where
 d:Option Nat
 g:Bool
 E:Eff
 v:AV
def Rcd.own (r:Rcd) (o:Own):Own:=if r.g then r.E.ownOf o else o
def Rcd.act (r:Rcd) (x:D):D:=(setF x.1 r.d r.v,r.own x.2)
structure Fits (C:Cl) (x:AI) (r:Rcd) (s s':St):Prop where
 d:r.d=x.dst
 g:guardT (tget s.tm) x.guard=some r.g
 E:r.g=true→eff C x.ban (evT (tget s.tm)) s.own x.op=some r.E
 v:r.v=(if r.g then r.E.valOf s.own else .tup [])
 act:(tget s'.tm,s'.own)=r.act (tget s.tm,s.own)
theorem trace : ∀ {l:List AI} {st st':St},stepL C l st=some st' → ∃ (σ:Nat→St) (rs:List Rcd),σ 0=st∧σ l.length=st'∧rs.length=l.length ∧ ∀ (k:Nat) (x:AI) (r:Rcd),l[k]? = some x→rs[k]? = some r→Fits C x r (σ k) (σ (k+1))
 | [],st,st',h=>by
  simp only[stepL,Option.some.injEq]at h
  subst h
  exact ⟨fun _=>st,[],rfl,rfl,rfl,fun k x r hx=>by simp at hx⟩
 | o::q,st,st',h=>by
  simp only[stepL]at h
  cases hs:stepI C o st with
  | none=>simp [hs]at h
  | some st1 =>
   simp only[hs]at h
   obtain ⟨σ,rs,h0,h1,hl,h2⟩:=trace h
   obtain ⟨g,E,e1,e2,e3,e4⟩:=stepI_inv hs
   refine ⟨fun k=>match k with|0=>st|k+1=>σ k,⟨o.dst,g,E,if g then E.valOf st.own else .tup []⟩::rs,rfl,h1,by simp [hl],fun k x r hx hr => ?_⟩
   cases k with
   | zero =>
    simp at hx hr
    subst hx hr
    refine ⟨rfl,e1,e2,rfl,?_⟩
    show (tget (σ 0).tm,(σ 0).own)=_
    rw[h0,e3,e4]
    rfl
   | succ k=>exact h2 k x r (by simpa using hx) (by simpa using hr)
def foldX (X:Nat→Bool):List Rcd→Nat→D→D
 | [],_,x=>x
 | r::rs,k,x=>foldX X rs (k+1) (if X k then r.act x else x)
theorem foldX_append (X:Nat→Bool) : ∀ (l l':List Rcd) (k:Nat) (x:D),foldX X (l++l') k x=foldX X l' (k+l.length) (foldX X l k x)
 | [],l',k,x=>by simp [foldX]
 | r::rs,l',k,x=>by
  simp only[List.cons_append,foldX,List.length_cons]
  rw[foldX_append X rs l' (k+1)]
  congr 1;omega
theorem foldX_slot {X Y:Nat→Bool} {t:Nat} : ∀ (l:List Rcd) (k:Nat) (x y:D),x.1 t=y.1 t→(∀ i r,l[i]? = some r→r.d=some t→X (k+i)=Y (k+i))→(foldX X l k x).1 t=(foldX Y l k y).1 t
 | [],k,x,y,h,_=>h
 | r::rs,k,x,y,h,hXY=>by
  simp only[foldX]
  refine foldX_slot rs (k+1) _ _ ?_ fun i r' hr hd=>by
   have:=hXY (i+1) r' (by simpa using hr) hd
   rw[show k+1+i=k+(i+1) by omega];exact this
  by_cases hd:r.d=some t
  ·have hx:X k=Y k:=by simpa using hXY 0 r rfl hd
   rw[hx]
   cases Y k
   ·simpa using h
   ·simp [Rcd.act,setF,hd]
  ·have e1 : ∀ z:D,(r.act z).1 t=z.1 t:=fun z=>by simp [Rcd.act,setF,hd]
   cases X k<;>cases Y k<;>simp [e1,h]
theorem ownOf_local (E:Eff) (s:Nat) (o o':Own) (h:o s=o' s):E.ownOf o s=E.ownOf o' s:=by
 cases E with
 | val v=>exact h
 | new s' b v =>
  simp only[Eff.ownOf,Own.put]
  by_cases hs:s=s'
  ·subst hs;simp [h]
  ·simp [hs,h]
 | vir s' b v =>
  simp only[Eff.ownOf,Own.put]
  by_cases hs:s=s'
  ·subst hs;simp [h]
  ·simp [hs,h]
 | tur v o2=>rfl
 | upn s' x v =>
  simp only[Eff.ownOf,Own.put]
  by_cases hs:s=s'
  ·simp [hs]
  ·simp [hs,h]
 | upd s' x =>
  simp only[Eff.ownOf,Own.put]
  by_cases hs:s=s'
  ·simp [hs]
  ·simp [hs,h]
theorem foldX_site {X Y:Nat→Bool} {s:Nat} : ∀ (l:List Rcd) (k:Nat) (x y:D),x.2 s=y.2 s→(∀ i r,l[i]? = some r→X (k+i)=Y (k+i) ∨ ∀ o,r.own o s=o s)→(foldX X l k x).2 s=(foldX Y l k y).2 s
 | [],k,x,y,h,_=>h
 | r::rs,k,x,y,h,hXY=>by
  simp only[foldX]
  refine foldX_site rs (k+1) _ _ ?_ fun i r' hr=>by
   have:=hXY (i+1) r' (by simpa using hr)
   rw[show k+1+i=k+(i+1) by omega];exact this
  rcases hXY 0 r rfl with hx|hx
  ·simp only[Nat.add_zero]at hx
   rw[hx]
   cases Y k
   ·simpa using h
   ·simp only[if_true,Rcd.act,Rcd.own]
    cases r.g
    ·simpa using h
    ·simpa using ownOf_local r.E s _ _ h
  ·have e1 : ∀ z:D,(r.act z).2 s=z.2 s:=fun z=>hx z.2
   cases X k<;>cases Y k<;>simp [e1,h]
theorem foldX_comm {X:Nat→Bool} (q:Rcd) : ∀ (l:List Rcd) (k:Nat) (x:D),(∀ i r,l[i]? = some r→X (k+i)=true → ∀ z,r.act (q.act z)=q.act (r.act z))→foldX X l k (q.act x)=q.act (foldX X l k x)
 | [],k,x,_=>rfl
 | r::rs,k,x,h=>by
  simp only[foldX]
  have hrest : ∀ i r',rs[i]? = some r'→X (k+1+i)=true → ∀ z,r'.act (q.act z)=q.act (r'.act z):=fun i r' hr hX=>h (i+1) r' (by simpa using hr) (by rw[show k+(i+1)=k+1+i by omega];exact hX)
  cases hk:X k
  ·simp only[Bool.false_eq_true,if_false]
   exact foldX_comm q rs (k+1) x hrest
  ·simp only[if_true]
   rw[h 0 r rfl (by simpa using hk)]
   exact foldX_comm q rs (k+1) _ hrest
theorem foldX_congr {X Y:Nat→Bool} : ∀ (l:List Rcd) (k:Nat) (x:D),(∀ i,i<l.length→X (k+i)=Y (k+i))→foldX X l k x=foldX Y l k x
 | [],_,_,_=>rfl
 | r::rs,k,x,h=>by
  simp only[foldX]
  rw[show X k=Y k by simpa using h 0 (by simp)]
  exact foldX_congr rs (k+1) _ fun i hi=>by
   have:=h (i+1) (by simpa using hi)
   rw[show k+1+i=k+(i+1) by omega];exact this
theorem foldX_insert {X X':Nat→Bool} {l:List Rcd} {i:Nat} {q:Rcd} (hq:l[i]? = some q) (hXi:X i=false) (hX' : ∀ j,X' j=(decide (j=i)||X j)) (x:D) (hcomm : ∀ j r,l[j]? = some r→i<j→X j=true → ∀ z,r.act (q.act z)=q.act (r.act z)) :
  foldX X' l 0 x=q.act (foldX X l 0 x):=by
 have hil:i<l.length:=(List.getElem?_eq_some_iff.1 hq).1
 have hli:l=l.take i++(q::l.drop (i+1)):=by
  have:l.drop i=q::l.drop (i+1):=by
   rw[List.drop_eq_getElem_cons hil]
   congr 1
   have:=(List.getElem?_eq_some_iff.1 hq).2
   exact this
  rw[←this,List.take_append_drop]
 have htl:(l.take i).length=i:=by simp;omega
 rw[hli,foldX_append,foldX_append,htl,Nat.zero_add]
 simp only[foldX,hXi,Bool.false_eq_true,if_false]
 rw[show X' i=true by rw[hX'];simp]
 simp only[if_true]
 rw[foldX_congr (X:=X') (Y:=X) (l.take i) 0 x (fun j hj=>by rw[hX'];simp;omega)]
 rw[foldX_congr (X:=X') (Y:=X) (l.drop (i+1)) (i+1) _ (fun j hj=>by rw[hX'];simp;omega)]
 refine foldX_comm q _ _ _ fun j r hr hXj => ?_
 rw[List.getElem?_drop]at hr
 exact hcomm (i+1+j) r hr (by omega) hXj
end
end Go.Eng
namespace Go.Eng
open Go.RowKit
section
variable {C:Cl} {ban:List Nat} {ρ:Opd→AV}
theorem eff_own {op:AOp} (o o':Own) (ht:turnsMem op=false) (hr:readsMem op=true→o.hide ban=o'.hide ban) (hst : ∀ s,siteOf op=some s→o s=o' s):eff C ban ρ o op=eff C ban ρ o' op:=by
 cases op with
 | sto s n x v =>
  have h1:=hst s rfl
  have h2 : ∀ t i j vs,(o.stp s t i j vs).map (fun q=>Eff.upd s (q s))=(o'.stp s t i j vs).map (fun q=>Eff.upd s (q s)):=fun t i j vs=>by
   have hg:o.get s t=o'.get s t:=by unfold Own.get;rw[h1]
   unfold Own.stp
   rw[hg]
   cases o'.get s t with
   | none=>rfl
   | some b =>
    simp only
    cases b.es[i]? with
    | none=>rfl
    | some cs =>
     simp only
     split
     ·simp only[Option.map_some,Own.put_same,h1]
     ·rfl
  simp only[eff,h2]
 | appo s esz bytes x y =>
  have h1:=hst s rfl
  have hg : ∀ t,o.get s t=o'.get s t:=fun t=>by unfold Own.get;rw[h1]
  simp only[eff,hg,Own.cnt,h1]
 | ld agg n x=>have:=hr rfl;simp only[eff,this]
 | call f xs=>have:=hr rfl;simp only[eff,this]
 | callr s f xs=>have:=hr rfl;simp only[eff,this]
 | st=>simp [turnsMem]at ht
 | app=>simp [turnsMem]at ht
 | cpy=>simp [turnsMem]at ht
 | calli=>simp [turnsMem]at ht
 | callv=>simp [turnsMem]at ht
 | _=>rfl
theorem eff_site {op:AOp} {o:Own} {E:Eff} (h:eff C ban ρ o op=some E) {s:Nat} (hs:siteOf op=some s):(∃ b v,E = .new s b v∨E = .vir s b v) ∨ ∃ x v,E = .upd s x∨E = .upn s x v:=by
 cases op with
 | appo s' esz bytes x y =>
  simp only[siteOf,Option.some.injEq]at hs;subst hs
  simp only[eff]at h
  split at h
  ·split at h
   ·split at h
    ·simp only[Option.some.injEq]at h;exact .inr ⟨_,_,.inr h.symm⟩
    ·cases h
   ·cases h
  ·cases h
 | sto s' n x v =>
  simp only[siteOf,Option.some.injEq]at hs;subst hs
  simp only[eff]at h
  split at h
  ·split at h
   ·simp only[Option.map_eq_some_iff]at h
    obtain ⟨q,_,rfl⟩:=h
    exact .inr ⟨_,.any,.inl rfl⟩
   ·cases h
  ·cases h
 | callr s' f xs =>
  simp only[siteOf,Option.some.injEq]at hs;subst hs
  simp only[eff]at h
  split at h
  ·simp only[Option.map_eq_some_iff]at h
   obtain ⟨r,_,rfl⟩:=h
   exact .inl ⟨_,_,.inl rfl⟩
  ·cases h
 | vrow s' z =>
  simp only[siteOf,Option.some.injEq]at hs;subst hs
  simp only[eff,Option.some.injEq]at h
  exact .inl ⟨_,_,.inr h.symm⟩
 | box s' x =>
  simp only[siteOf,Option.some.injEq]at hs;subst hs
  simp only[eff]at h
  split at h
  ·simp only[Option.some.injEq]at h;exact .inl ⟨_,_,.inl h.symm⟩
  ·cases h
 | alloc s' z =>
  simp only[siteOf,Option.some.injEq]at hs;subst hs
  simp only[eff,Option.some.injEq]at h
  exact .inl ⟨_,_,.inl h.symm⟩
 | bslice s' esz ps =>
  simp only[siteOf,Option.some.injEq]at hs;subst hs
  simp only[eff]at h
  split at h
  ·split at h
   ·simp only[Option.some.injEq]at h;exact .inl ⟨_,_,.inl h.symm⟩
   ·cases h
  ·cases h
 | mk s' esz bytes z l c =>
  simp only[siteOf,Option.some.injEq]at hs;subst hs
  simp only[eff]at h
  split at h
  ·split at h
   ·simp only[Option.some.injEq]at h;exact .inl ⟨_,_,.inl h.symm⟩
   ·cases h
  ·cases h
 | _=>simp [siteOf]at hs
theorem map_val {α:Type} {x:Option α} {f:α→AV} {E:Eff} (h:x.map (fun y=>Eff.val (f y))=some E) : ∃ v,E = .val v:=by
 cases x with
 | none=>cases h
 | some y=>simp only[Option.map_some,Option.some.injEq]at h;exact ⟨_,h.symm⟩
theorem eff_val {op:AOp} {o:Own} {E:Eff} (h:eff C ban ρ o op=some E) (ht:turnsMem op=false) (hs:siteOf op=none) : ∃ v,E = .val v:=by
 cases op<;>first|(simp [turnsMem]at ht;done)|(simp [siteOf]at hs;done)|skip
 all_goals simp only[eff]at h
 all_goals
  first
   | (simp only[Option.some.injEq]at h;exact ⟨_,h.symm⟩)
   | exact map_val (f:=id) h
   | skip
 all_goals (repeat' split at h)
 all_goals
  first
   | (cases h;done)
   | (simp only[Option.some.injEq]at h;exact ⟨_,h.symm⟩)
   | exact map_val (f:=id) h
   | exact map_val (f:=AV.agg) h
   | (simp only[Option.map_eq_some_iff]at h;obtain ⟨cs,_,rfl⟩:=h;exact ⟨_,rfl⟩)
theorem rcd_id {x:AI} {r:Rcd} {s s':St} (h:Fits C x r s s') (ht:turnsMem x.op=false) (hs:siteOf x.op=none) (o:Own):r.own o=o:=by
 unfold Rcd.own
 cases hg:r.g with
 | false=>rfl
 | true =>
  obtain ⟨v,hv⟩:=eff_val (h.E hg) ht hs
  simp [hv,Eff.ownOf]
theorem rcd_site {x:AI} {r:Rcd} {s s':St} (h:Fits C x r s s') {q:Nat} (hs:siteOf x.op=some q):(∀ o,r.own o=o) ∨ ∃ F:Site→Site,∀ o:Own,r.own o=o.put q (F (o q)):=by
 unfold Rcd.own
 cases hg:r.g with
 | false=>exact .inl fun _=>rfl
 | true =>
  rcases eff_site (h.E hg) hs with ⟨b,v,hv|hv⟩|⟨x,v,hv|hv⟩
  ·exact .inr ⟨fun q=>q.new b,fun o=>by simp [hv,Eff.ownOf]⟩
  ·exact .inr ⟨fun q=>q.new b,fun o=>by simp [hv,Eff.ownOf]⟩
  ·exact .inr ⟨fun _=>x,fun o=>by simp [hv,Eff.ownOf]⟩
  ·exact .inr ⟨fun _=>x,fun o=>by simp [hv,Eff.ownOf]⟩
theorem rcd_far {x:AI} {r:Rcd} {s s':St} (h:Fits C x r s s') {q:Nat} (hs:siteOf x.op=some q) {p:Nat} (hp:p≠q) (o:Own):r.own o p=o p:=by
 rcases rcd_site h hs with h1|⟨b,h1⟩
 ·rw[h1]
 ·rw[h1];simp [Own.put,hp]
theorem ordB_comm (b:Array Nat) (i j:Nat):ordB b i j=ordB b j i:=by unfold ordB;rw[Nat.max_comm,Nat.min_comm]
theorem draw_pair {ops:Array Oper} {l:List AI} (h:drawOk ops l=true) {i j:Nat} {x y:AI} (hx:l[i]? = some x) (hy:l[j]? = some y) (hne:i≠j) :
  (ordB (Region.before ops) i j=true∨((∀ t,y.dst=some t→t ∉ looksA x)∧(turnsMem x.op=false∨meetsMem y.op=false)∧(readsMem x.op=true → ∀ s,siteOf y.op=some s→s∈x.ban))) ∧
  (ordB (Region.before ops) i j=true ∨ ∀ s s',siteOf x.op=some s→siteOf y.op=some s'→s≠s'):=by
 simp only[drawOk,Bool.and_eq_true]at h
 have h1:=h.1.1
 rw[List.all_eq_true]at h1
 have hxm:(x,i)∈l.zipIdx:=List.mem_zipIdx_iff_getElem?.2 hx
 have hym:(y,j)∈l.zipIdx:=List.mem_zipIdx_iff_getElem?.2 hy
 have h2:=h1 (x,i) hxm
 simp only at h2
 rw[List.all_eq_true]at h2
 have h3:=h2 (y,j) hym
 simp only[Bool.and_eq_true,Bool.or_eq_true,beq_iff_eq,hne,false_or]at h3
 obtain ⟨h4,h5⟩:=h3
 refine ⟨?_,h5.imp id fun h5 s s' hs hs' => ?_⟩
 ·unfold pairOk at h4
  simp only[Bool.or_eq_true,beq_iff_eq,hne,false_or]at h4
  refine h4.imp id fun h6 => ?_
  simp only[Bool.and_eq_true,Bool.or_eq_true,Bool.not_eq_true']at h6
  obtain ⟨⟨h7,h8⟩,h9⟩:=h6
  refine ⟨fun t ht => ?_,h8,fun hr s hs => ?_⟩
  ·rw[ht]at h7
   simpa using h7
  ·rw[hr,hs]at h9
   simpa using h9
 ·rw[hs,hs']at h5
  simpa using h5
structure Drawn (C:Cl) (ops:Array Oper) (l:List AI) (σ:Nat→St) (rs:List Rcd):Prop where
 ok:drawOk ops l=true
 len:rs.length=l.length
 fits : ∀ (k:Nat) (x:AI) (r:Rcd),l[k]? = some x→rs[k]? = some r→Fits C x r (σ k) (σ (k+1))
variable {ops:Array Oper} {l:List AI} {σ:Nat→St} {rs:List Rcd}
theorem foldX_none {X:Nat→Bool} : ∀ (l:List Rcd) (k:Nat) (x:D),(∀ i,i<l.length→X (k+i)=false)→foldX X l k x=x
 | [],_,_,_=>rfl
 | r::q,k,x,h=>by
  simp only[foldX]
  rw[show X k=false by simpa using h 0 (by simp)]
  exact foldX_none q (k+1) _ fun i hi=>by
   have:=h (i+1) (by simpa using hi)
   rw[show k+1+i=k+(i+1) by omega];exact this
def d0 (σ:Nat→St):D:=(tget (σ 0).tm,(σ 0).own)
theorem drawn_text (h:Drawn C ops l σ rs) : ∀ k,k≤l.length→foldX (fun j=>decide (j<k)) rs 0 (d0 σ)=(tget (σ k).tm,(σ k).own)
 | 0,_=>foldX_none rs 0 _ fun i _=>by simp
 | k+1,hk=>by
  have hkl:k<l.length:=by omega
  have hkr:k<rs.length:=by rw[h.len];exact hkl
  have hr:rs[k]? = some rs[k]:=List.getElem?_eq_getElem hkr
  have hf:=h.fits k l[k] rs[k] (List.getElem?_eq_getElem hkl) hr
  rw[foldX_insert (X:=fun j=>decide (j<k)) (X':=fun j=>decide (j<k+1)) hr (by simp) (fun j=>by
   by_cases h1:j=k
   ·simp [h1]
   ·simp [h1];omega) _ (fun j r' _ hlt hX=>by simp at hX;omega),drawn_text h k (by omega)]
  exact hf.act.symm
section
variable {X:Nat→Bool} {i:Nat} {x:AI} {r:Rcd}
theorem ord_iff (hX:Down ops X) (hXi:X i=false) (hready : ∀ o,ops[i]? = some o → ∀ e∈o.after,Region.binds .any e=true→X e.on=true) {j:Nat} (hne:i≠j) (ho:ordB (Region.before ops) i j=true):X j=decide (j<i):=by
 rcases Nat.lt_or_gt_of_ne hne with hlt|hgt
 ·have:X j=false:=by
   cases hj:X j with
   | false=>rfl
   | true=>have:=ord_gt hX hj hlt ho;rw[hXi]at this;cases this
  rw[this];simp;omega
 ·rw[ord_lt hX hready hgt ho];simp;omega
theorem drawn_step (h:Drawn C ops l σ rs) (hx:l[i]? = some x) (hr:rs[i]? = some r) (hX:Down ops X) (hXi:X i=false) (hready : ∀ o,ops[i]? = some o → ∀ e∈o.after,Region.binds .any e=true→X e.on=true) :
  guardT (foldX X rs 0 (d0 σ)).1 x.guard=some r.g∧(r.g=true→eff C x.ban (evT (foldX X rs 0 (d0 σ)).1) (foldX X rs 0 (d0 σ)).2 x.op=some r.E) ∧
  (if r.g then r.E.valOf (foldX X rs 0 (d0 σ)).2 else .tup [])=r.v ∧
  ∀ X':Nat→Bool,(∀ j,X' j=(decide (j=i)||X j))→foldX X' rs 0 (d0 σ)=r.act (foldX X rs 0 (d0 σ)):=by
 have hil:i<l.length:=(List.getElem?_eq_some_iff.1 hx).1
 have hf:=h.fits i x r hx hr
 have htext:=drawn_text h i (by omega)
 generalize hT:foldX X rs 0 (d0 σ)=TX
 have hat : ∀ (j:Nat) (r':Rcd),rs[j]? = some r' → ∃ y,l[j]? = some y∧Fits C y r' (σ j) (σ (j+1)):=fun j r' hj=>by
  have hjl:j<l.length:=by rw[←h.len];exact (List.getElem?_eq_some_iff.1 hj).1
  exact ⟨l[j],List.getElem?_eq_getElem hjl,h.fits j _ _ (List.getElem?_eq_getElem hjl) hj⟩
 have hslot : ∀ t∈looksA x,TX.1 t=tget (σ i).tm t:=fun t ht=>by
  have:=foldX_slot (X:=X) (Y:=fun j=>decide (j<i)) (t:=t) rs 0 (d0 σ) (d0 σ) rfl (fun j r' hj hd=>by
   simp only[Nat.zero_add]
   by_cases hne:i=j
   ·subst hne;simp [hXi]
   ·obtain ⟨y,hy,hfy⟩:=hat j r' hj
    rcases (draw_pair h.ok hx hy hne).1 with ho|⟨h1,_⟩
    ·exact ord_iff hX hXi hready hne ho
    ·exact absurd ht (h1 t (by rw[←hfy.d];exact hd)))
  rw[hT,htext]at this
  exact this
 have huses : ∀ t∈usesA x.op,TX.1 t=tget (σ i).tm t:=fun t ht=>hslot t (by simp [looksA,ht])
 have hsite : ∀ s,(∀ (j:Nat) (y:AI) (r':Rcd),i≠j→l[j]? = some y→rs[j]? = some r'→ordB (Region.before ops) i j=true ∨ ∀ o,r'.own o s=o s)→TX.2 s=(σ i).own s:=fun s hs=>by
  have:=foldX_site (X:=X) (Y:=fun j=>decide (j<i)) (s:=s) rs 0 (d0 σ) (d0 σ) rfl (fun j r' hj=>by
   simp only[Nat.zero_add]
   by_cases hne:i=j
   ·subst hne;left;simp [hXi]
   ·obtain ⟨y,hy,hfy⟩:=hat j r' hj
    rcases hs j y r' hne hy hj with ho|ho
    ·exact .inl (ord_iff hX hXi hready hne ho)
    ·exact .inr ho)
  rw[hT,htext]at this
  exact this
 have hidle : ∀ (j:Nat) (y:AI) (r':Rcd),l[j]? = some y→rs[j]? = some r'→meetsMem y.op=false → ∀ o,r'.own o=o:=fun j y r' hy hj hm o=>by
  simp only[meetsMem,Bool.or_eq_false_iff]at hm
  exact rcd_id (h.fits j y r' hy hj) hm.1.1 (by simpa using hm.2) o
 have hrev : ∀ (j:Nat) (y:AI),i≠j→l[j]? = some y→turnsMem y.op=true→meetsMem x.op=true→ordB (Region.before ops) i j=true:=fun j y hne hy ht hmx=>by
  rcases (draw_pair h.ok hy hx (Ne.symm hne)).1 with ho|⟨_,h2,_⟩
  ·rw[ordB_comm];exact ho
  ·rw[ht,hmx]at h2;simp at h2
 have hg:guardT TX.1 x.guard=some r.g:=by
  rw[←hf.g]
  cases hgd:x.guard with
  | none=>rfl
  | some gw =>
   obtain ⟨g,w⟩:=gw
   simp only[guardT]
   rw[hslot g (by simp [looksA,hgd])]
 have hturn:turnsMem x.op=true→TX.2=(σ i).own:=fun ht=>by
  funext s
  refine hsite s fun j y r' hne hy hj => ?_
  cases hm:meetsMem y.op with
  | false=>exact .inr fun o=>by rw[hidle j y r' hy hj hm o]
  | true =>
   rcases (draw_pair h.ok hx hy hne).1 with ho|⟨_,h2,_⟩
   ·exact .inl ho
   ·rw[ht,hm]at h2;simp at h2
 have hread:readsMem x.op=true→TX.2.hide x.ban=(σ i).own.hide x.ban:=fun hrd=>by
  refine hide_congr fun s hs=>hsite s fun j y r' hne hy hj => ?_
  have hmx:meetsMem x.op=true:=by simp [meetsMem,hrd]
  cases ht:turnsMem y.op with
  | true=>exact .inl (hrev j y hne hy ht hmx)
  | false =>
   cases hsy:siteOf y.op with
   | none=>exact .inr fun o=>by rw[rcd_id (h.fits j y r' hy hj) ht hsy o]
   | some q =>
    rcases (draw_pair h.ok hx hy hne).1 with ho|⟨_,_,h3⟩
    ·exact .inl ho
    ·exact .inr fun o=>rcd_far (h.fits j y r' hy hj) hsy (p:=s) (fun e=>hs (by rw[e];exact h3 hrd q hsy)) o
 have hsame : ∀ s,siteOf x.op=some s→TX.2 s=(σ i).own s:=fun s hsx=>by
  have hmx:meetsMem x.op=true:=by simp [meetsMem,hsx]
  exact hsite s fun j y r' hne hy hj=>by
   cases ht:turnsMem y.op with
   | true=>exact .inl (hrev j y hne hy ht hmx)
   | false =>
    cases hsy:siteOf y.op with
    | none=>exact .inr fun o=>by rw[rcd_id (h.fits j y r' hy hj) ht hsy o]
    | some q =>
     rcases (draw_pair h.ok hx hy hne).2 with ho|hss
     ·exact .inl ho
     ·exact .inr fun o=>rcd_far (h.fits j y r' hy hj) hsy (hss s q hsx hsy) o
 have heff:r.g=true→eff C x.ban (evT TX.1) TX.2 x.op=some r.E:=fun hg'=>by
  rw[eff_congr huses,←hf.E hg']
  cases ht:turnsMem x.op with
  | true=>rw[hturn ht]
  | false=>exact eff_own _ _ ht hread hsame
 have hval:(if r.g then r.E.valOf TX.2 else .tup [])=r.v:=by
  rw[hf.v]
  cases hgv:r.g with
  | false=>rfl
  | true =>
   simp only[if_true]
   cases hsx:siteOf x.op with
   | none =>
    cases ht:turnsMem x.op with
    | true=>rw[hturn ht]
    | false =>
     obtain ⟨v,hv⟩:=eff_val (hf.E hgv) ht hsx
     rw[hv];rfl
   | some s =>
    have hss:=hsame s hsx
    rcases eff_site (hf.E hgv) hsx with ⟨b,v,hv|hv⟩|⟨x,v,hv|hv⟩<;>rw[hv]<;>simp only[Eff.valOf,Own.cnt,hss]
 refine ⟨hg,heff,hval,fun X' hX' => ?_⟩
 rw[←hT]
 refine foldX_insert hr hXi hX' _ fun j r' hj hlt hXj z => ?_
 obtain ⟨y,hy,hfy⟩:=hat j r' hj
 have hne:i≠j:=by omega
 have hno : ¬ ordB (Region.before ops) i j=true:=fun ho=>by
  have:=ord_gt hX hXj hlt ho
  rw[hXi]at this;cases this
 obtain ⟨hp1,hp2⟩:=draw_pair h.ok hx hy hne
 obtain ⟨hq1,hq2⟩:=draw_pair h.ok hy hx (Ne.symm hne)
 have hp:=hp1.resolve_left hno
 have hq:=hq1.resolve_left (by rw[ordB_comm];exact hno)
 unfold Rcd.act
 refine Prod.ext ?_ ?_
 ·funext t
  simp only[setF]
  by_cases h1:r'.d=some t<;>by_cases h2:r.d=some t
  ·exact absurd (by rw[hf.d]at h2;simp [looksA,h2]) (hp.1 t (by rw[←hfy.d];exact h1))
  ·simp [h1,h2]
  ·simp [h1,h2]
  ·simp [h1,h2]
 ·show r'.own (r.own z.2)=r.own (r'.own z.2)
  cases hmx:meetsMem x.op with
  | false=>rw[hidle i x r hx hr hmx,hidle i x r hx hr hmx]
  | true =>
   cases hmy:meetsMem y.op with
   | false=>rw[hidle j y r' hy hj hmy,hidle j y r' hy hj hmy]
   | true =>
    have htx:turnsMem x.op=false:=by
     rcases hp.2.1 with h1|h1
     ·exact h1
     ·rw[hmy]at h1;cases h1
    have hty:turnsMem y.op=false:=by
     rcases hq.2.1 with h1|h1
     ·exact h1
     ·rw[hmx]at h1;cases h1
    cases hsx:siteOf x.op with
    | none=>rw[rcd_id hf htx hsx,rcd_id hf htx hsx]
    | some s =>
     cases hsy:siteOf y.op with
     | none=>rw[rcd_id hfy hty hsy,rcd_id hfy hty hsy]
     | some s' =>
      have hss:=(hp2.resolve_left hno) s s' hsx hsy
      rcases rcd_site hf hsx with h1|⟨b,h1⟩
      ·rw[h1,h1]
      ·rcases rcd_site hfy hsy with h2|⟨b',h2⟩
       ·rw[h2,h2]
       ·rw[h1,h2,h2,h1]
        funext q
        simp only[Own.put]
        by_cases hqs:q=s<;>by_cases hqs':q=s'
        ·exact absurd (hqs.symm.trans hqs') hss
        ·simp [hqs,hss]
        ·simp [hqs',Ne.symm hss]
        ·simp [hqs,hqs']
end
end
end Go.Eng

namespace Go.Eng
open Go.RowKit
section
variable {ops:Array Oper} {md:Region.Mode}
theorem binds_any {e:Edge} (h:Region.binds .any e=true) (md:Region.Mode):Region.binds md e=true:=by
 unfold Region.binds at *
 split at h<;>simp_all
theorem line_topo (ops:Array Oper) (md:Region.Mode) : ∀ (fuel t:Nat) (listed:Array Bool),listed.size=ops.size → ∀ (k i:Nat),(Region.linearise.go md ops fuel t listed [])[k]? = some i →
  ∃ o,ops[i]? = some o ∧ ∀ e∈o.after,Region.binds md e=true→listed.getD e.on false=true∨e.on∈(Region.linearise.go md ops fuel t listed []).take k
 | 0,t,listed,hs,k,i,h=>by simp [Region.linearise.go]at h
 | fuel+1,t,listed,hs,k,i,h=>by
  have hgo:Region.linearise.go md ops (fuel+1) t listed []=match (Region.ready md ops listed)[t%(Region.ready md ops listed).length]? with
   | some i=>i::Region.linearise.go md ops fuel (t/(Region.ready md ops listed).length) (listed.setIfInBounds i true) []
   | none=>[]:=by
   simp only[Region.linearise.go]
   change (match (Region.ready md ops listed)[t%(Region.ready md ops listed).length]? with
    | some i=>Region.linearise.go md ops fuel (t/(Region.ready md ops listed).length) (listed.setIfInBounds i true) [i]
    | none=>[].reverse)=_
   cases (Region.ready md ops listed)[t%(Region.ready md ops listed).length]? with
   | none=>rfl
   | some i=>simp only[];rw[linearise_go_acc];rfl
  rw[hgo]at h ⊢
  cases hr:(Region.ready md ops listed)[t%(Region.ready md ops listed).length]? with
  | none=>rw[hr]at h;simp at h
  | some q =>
   rw[hr]at h
   simp only at h ⊢
   obtain ⟨_,oq,hoq,hq⟩:=mem_ready.1 (List.mem_of_getElem? hr)
   cases k with
   | zero =>
    simp at h
    subst h
    exact ⟨oq,hoq,fun e he hb => .inl (hq e he hb)⟩
   | succ k =>
    simp at h
    obtain ⟨o,ho,hh⟩:=line_topo ops md fuel _ _ (by simpa using hs) k i h
    refine ⟨o,ho,fun e he hb => ?_⟩
    rcases hh e he hb with h1|h1
    ·by_cases heq:e.on=q
     ·right;simp [heq]
     ·left
      rw[getD_set_ne false (Ne.symm heq)]at h1
      exact h1
    ·right;simp [h1]
theorem first_not {p:Nat→Bool} : ∀ (l:List Nat),(∃ i∈l,p i=false) → ∃ k i,l[k]? = some i∧p i=false ∧ ∀ j∈l.take k,p j=true
 | [],⟨i,hi,_⟩=>by simp at hi
 | x::r,⟨i,hi,hp⟩=>by
  cases hx:p x with
  | false=>exact ⟨0,x,rfl,hx,by simp⟩
  | true =>
   have : ∃ i∈r,p i=false:=by
    rcases List.mem_cons.1 hi with h|h
    ·subst h;rw[hx]at hp;cases hp
    ·exact ⟨i,h,hp⟩
   obtain ⟨k,j,h1,h2,h3⟩:=first_not r this
   refine ⟨k+1,j,by simpa using h1,h2,fun q hq => ?_⟩
   simp only[List.take_succ_cons,List.mem_cons]at hq
   rcases hq with h|h
   ·subst h;exact hx
   ·exact h3 q h
theorem progress {l:List AI} (hd:drawOk ops l=true) (hmd:md = .gc→Region.departs ops=true) {listed:Array Bool} (hs:listed.size=ops.size) (hr:Region.ready md ops listed=[]) : ∀ j,j<ops.size→listed.getD j false=true:=by
 intro j hj
 cases hjl:listed.getD j false with
 | true=>rfl
 | false =>
  exfalso
  simp only[drawOk,Bool.and_eq_true]at hd
  obtain ⟨⟨_,hback⟩,hline⟩:=hd
  have notready : ∀ i,i<ops.size→listed.getD i false=false → ¬ ∀ o,ops[i]? = some o → ∀ e∈o.after,Region.binds md e=true→listed.getD e.on false=true:=fun i hi hl hall=>by
   have:i∈Region.ready md ops listed:=mem_ready.2 ⟨by
    have:i<listed.size:=by omega
    simp [Array.getD,this]at hl ⊢
    exact hl,ops[i],Array.getElem?_eq_getElem hi,fun e he hb=>hall ops[i] (Array.getElem?_eq_getElem hi) e he hb⟩
   rw[hr]at this
   simp at this
  by_cases hgc:md = .gc
  ·subst hgc
   rw[hmd rfl]at hline
   simp only[Bool.not_true,Bool.false_or,List.all_eq_true,List.mem_range,List.contains_iff_mem]at hline
   obtain ⟨k,i,h1,h2,h3⟩:=first_not (p:=fun q=>listed.getD q false) (Region.linearise .gc ops 0) ⟨j,hline j hj,hjl⟩
   obtain ⟨o,ho,hh⟩:=line_topo ops .gc ops.size 0 (Array.replicate ops.size false) (by simp) k i h1
   have hi:i<ops.size:=(Array.getElem?_eq_some_iff.1 ho).1
   refine notready i hi h2 fun o' ho' e he hb => ?_
   rw[ho]at ho'
   obtain rfl:o=o':=by simpa using ho'
   rcases hh e he hb with h4|h4
   ·simp [Array.getD]at h4
   ·exact h3 e.on h4
  ·obtain ⟨k,i,h1,h2,h3⟩:=first_not (p:=fun q=>listed.getD q false) (List.range ops.size) ⟨j,by simpa using hj,hjl⟩
   have hik:i=k:=by
    have hkl:k<ops.size:=by have:=(List.getElem?_eq_some_iff.1 h1).1;simpa using this
    rw[List.getElem?_range hkl]at h1
    simpa using h1.symm
   subst hik
   have hi:i<ops.size:=by have:=(List.getElem?_eq_some_iff.1 h1).1;simpa using this
   refine notready i hi h2 fun o ho e he hb => ?_
   rw[List.all_eq_true]at hback
   have hmem:(o,i)∈ops.toList.zipIdx:=List.mem_zipIdx_iff_getElem?.2 (by simpa using ho)
   have h4:=hback (o,i) hmem
   simp only[Array.all_eq_true_iff_forall_mem,Bool.or_eq_true,decide_eq_true_eq]at h4
   rcases h4 e he with h5|h5
   ·exact h3 e.on (by rw[List.take_range];simp;omega)
   ·exfalso
    unfold Region.binds at hb
    split at h5
    ·rename_i row hrow
     rw[hrow]at hb
     simp at hb
     exact hgc hb
    ·cases h5
variable {B:Nat} {S:Nat→Prop} {w0:World} {m0:M} {N:Nat}
variable {P:Program} {num:Nat→Nat} {C:Cl} {Q:Exit→Act→World→Prop}
def todoN (listed:Array Bool) (n:Nat):Nat:=(List.range n).countP (fun j => !listed.getD j false)
theorem countP_lt {α:Type} {p q:α→Bool} : ∀ {l:List α} {x:α},(∀ y∈l,q y=true→p y=true)→x∈l→p x=true→q x=false→l.countP q<l.countP p
 | [],x,_,hx,_,_=>by simp at hx
 | y::r,x,h,hx,hp,hq=>by
  have hle:r.countP q≤r.countP p:=List.countP_mono_left fun z hz hqz=>h z (by simp [hz]) hqz
  rw[List.countP_cons,List.countP_cons]
  rcases List.mem_cons.1 hx with rfl|hx
  ·simp only[hp,hq,if_true,Bool.false_eq_true,if_false]
   omega
  ·have:=countP_lt (l:=r) (fun z hz=>h z (by simp [hz])) hx hp hq
   by_cases hqy:q y=true
   ·simp only[hqy,h y (by simp) hqy,if_true];omega
   ·simp only[hqy,Bool.false_eq_true,if_false]
    split<;>omega
theorem wp_any (hC:CallsOK P num C) {l:List AI} (hok:okL P num N ops ops.toList l=true) {σ:Nat→St} {rs:List Rcd} (h:Drawn C ops l σ rs) (hmd:md = .gc→Region.departs ops=true)
  (hQ : ∀ m' a',m'.own=(σ l.length).own→FrOK B S w0 m0 N (tget (σ l.length).tm) m' a'→Q .normal a' m'.w) :
  ∀ (fuel:Nat) (listed:Array Bool) (a:Act) (m:M),listed.size=ops.size→todoN listed ops.size≤fuel→Down ops (fun j=>listed.getD j false)→m.own=(foldX (fun j=>listed.getD j false) rs 0 (d0 σ)).2→FrOK B S w0 m0 N (foldX (fun j=>listed.getD j false) rs 0 (d0 σ)).1 m a→wpAny P md ops Q fuel listed a m.w:=by
 have hlen:ops.size=l.length:=by have:=(okL_get hok).1;simpa using this
 have final : ∀ (listed:Array Bool) (a:Act) (m:M),(∀ j,j<ops.size→listed.getD j false=true)→m.own=(foldX (fun j=>listed.getD j false) rs 0 (d0 σ)).2→FrOK B S w0 m0 N (foldX (fun j=>listed.getD j false) rs 0 (d0 σ)).1 m a→Q .normal a m.w:=fun listed a m hall hown hf=>by
  have:foldX (fun j=>listed.getD j false) rs 0 (d0 σ)=(tget (σ l.length).tm,(σ l.length).own):=by
   rw[←drawn_text h l.length (Nat.le_refl _)]
   refine foldX_congr rs 0 _ fun i hi => ?_
   simp only[Nat.zero_add]
   rw[hall i (by rw[hlen,←h.len];exact hi)]
   simp;rw[←h.len];exact hi
  rw[this]at hown hf
  exact hQ m a hown hf
 have all0 : ∀ listed:Array Bool,todoN listed ops.size≤0 → ∀ j,j<ops.size→listed.getD j false=true:=fun listed h0 j hj=>by
  have h1:todoN listed ops.size=0:=by omega
  unfold todoN at h1
  rw[List.countP_eq_zero]at h1
  simpa using h1 j (by simpa using hj)
 intro fuel
 induction fuel with
 | zero =>
  intro listed a m hsz hn hdn hown hf
  refine ⟨?_,final listed a m (all0 listed hn) hown hf⟩
  cases hr:Region.ready md ops listed with
  | nil=>rfl
  | cons i r =>
   obtain ⟨h1,o,ho,_⟩:=mem_ready.1 (show i∈Region.ready md ops listed by rw[hr];simp)
   have hi:i<ops.size:=(Array.getElem?_eq_some_iff.1 ho).1
   have h2:=all0 listed hn i hi
   have hil:i<listed.size:=by omega
   simp [Array.getD,hil]at h1 h2
   rw[h1]at h2;cases h2
 | succ fuel ih =>
  intro listed a m hsz hn hdn hown hf
  refine ⟨fun hr=>final listed a m (progress h.ok hmd hsz hr) hown hf,fun i hi => ?_⟩
  obtain ⟨h1,o,ho,hedges⟩:=mem_ready.1 hi
  have hio:i<ops.size:=(Array.getElem?_eq_some_iff.1 ho).1
  have hil:i<listed.size:=by omega
  have hi0:listed.getD i false=false:=by
   simp [Array.getD,hil]at h1 ⊢
   exact h1
  have hll:i<l.length:=by omega
  have hrl:i<rs.length:=by rw[h.len];exact hll
  have hx:l[i]? = some l[i]:=List.getElem?_eq_getElem hll
  have hr:rs[i]? = some rs[i]:=List.getElem?_eq_getElem hrl
  have hready : ∀ o',ops[i]? = some o' → ∀ e∈o'.after,Region.binds .any e=true→listed.getD e.on false=true:=fun o' ho' e he hb=>by
   rw[ho]at ho'
   obtain rfl:o=o':=by simpa using ho'
   exact hedges e he (binds_any hb md)
  obtain ⟨g1,g2,g3,g4⟩:=drawn_step h hx hr hdn hi0 hready
  have hoki:=(okL_get hok).2 i o l[i] (by simpa using ho) hx
  have hX' : ∀ j,(listed.setIfInBounds i true).getD j false=(decide (j=i)||listed.getD j false):=fun j=>by
   by_cases hji:j=i
   ·subst hji;simp [Array.getD,hil]
   ·rw[getD_set_ne false (Ne.symm hji)];simp [hji]
  refine wpOp_do hC ho hoki hf g1 (fun hg=>by rw[hown];exact g2 hg) fun m' a' hown' hf' => ?_
  have hnew:=g4 _ hX'
  refine ih (listed.setIfInBounds i true) a' m' (by simpa using hsz) ?_ ?_ ?_ ?_
  ·have hlt:todoN (listed.setIfInBounds i true) ops.size<todoN listed ops.size:=by
    refine countP_lt (x:=i) (fun j _ hj => ?_) (by simpa using hio) (by simp [hi0]) (by rw[hX'];simp)
    rw[hX']at hj
    simp at hj ⊢
    exact hj.2
   omega
  ·intro j oj hj hoj e he hb
   change (listed.setIfInBounds i true).getD j false=true at hj
   show (listed.setIfInBounds i true).getD e.on false=true
   rw[hX']at hj ⊢
   simp only[Bool.or_eq_true,decide_eq_true_eq]at hj ⊢
   rcases hj with rfl|hj
   ·exact .inr (hready oj hoj e he hb)
   ·exact .inr (hdn j oj hj hoj e he hb)
  ·rw[hnew,hown',hown]
   rfl
  ·rw[hnew]
   rw[hown,g3]at hf'
   have hd:(l[i]).dst=(rs[i]).d:=(h.fits i _ _ hx hr).d.symm
   rw[hd]at hf'
   exact hf'
theorem wp_draw (hC:CallsOK P num C) {id:Nat} {l:List AI} (hok:okL P num N ops ops.toList l=true) (hd:drawOk ops l=true) {st st':St} (hst:stepL C l st=some st') {m:M} {a:Act} (hown:m.own=st.own) (hf:FrOK B S w0 m0 N (tget st.tm) m a)
  (hQ : ∀ m' a',m'.own=st'.own→FrOK B S w0 m0 N (tget st'.tm) m' a'→Q .normal a' m'.w):(Code.region id ops true).wp P Q a m.w:=by
 obtain ⟨σ,rs,h0,h1,hl,h2⟩:=trace hst
 have hD:Drawn C ops l σ rs:=⟨hd,hl,h2⟩
 obtain ⟨hm1,he1⟩:=grow hf.mem ((Below.refl m.w.heap.size m.w).drew)
 have hf1:FrOK B S w0 m0 N (tget st.tm) ⟨m.ν,m.own,m.w.drew⟩ a:=⟨hm1,hf.ext.trans he1,fun i=>he1.cv (hf.tm i),hf.size,hf.defers⟩
 have h00:foldX (fun j=>(Array.replicate ops.size false).getD j false) rs 0 (d0 σ)=d0 σ:=foldX_none rs 0 _ fun i _=>by simp [Array.getD]
 have key : ∀ md:Region.Mode,(md = .gc→Region.departs ops=true) → ∀ t,wpOps P ops Q (Region.linearise md ops t) a m.w.drew:=fun md hmd t=>by
  refine wpAny_sound ops.size t (Array.replicate ops.size false) a m.w.drew ?_
  refine wp_any hC hok hD hmd (by rw[h1];exact hQ) ops.size _ a ⟨m.ν,m.own,m.w.drew⟩ (by simp) ?_ ?_ ?_ ?_
  ·unfold todoN
   exact Nat.le_trans List.countP_le_length (by simp)
  ·intro j o hj
   simp [Array.getD]at hj
  ·rw[h00];simp [d0,h0,hown]
  ·rw[h00];simpa [d0,h0] using hf1
 refine wp_region_draw fun t => ?_
 change wpOps P ops Q _ a m.w.drew
 unfold Region.schedule
 split
 ·exact key .any (fun h=>by cases h) t
 ·rename_i hdep
  have hdp:Region.departs ops=true:=by simp at hdep;exact hdep.2
  split
  ·exact key .text (fun _=>hdp) _
  ·exact key .gc (fun _=>hdp) _
end
end Go.Eng

namespace Go.Eng
open Go.RowKit
section
variable {B:Nat} {S:Nat→Prop} {w0:World} {m0:M} {N:Nat}
variable {P:Program} {num:Nat→Nat} {C:Cl}
theorem tget_drop (m:Tm) (l:List Nat) (j:Nat):tget (tdrop m l) j=tget m j∨tget (tdrop m l) j = .any:=by
 induction m with
 | nil=>exact .inl rfl
 | cons x r ih =>
  obtain ⟨i,v⟩:=x
  simp only[tdrop]
  split
  ·by_cases h:j=i
   ·subst h
    rename_i hc
    right
    clear ih
    induction r with
    | nil=>rfl
    | cons y q ih =>
     obtain ⟨k,u⟩:=y
     simp only[tdrop]
     split
     ·exact ih
     ·rename_i hk
      have : ¬ j=k:=fun e=>by subst e;exact hk hc
      simp only[tget,if_neg this]
      exact ih
   ·rcases ih with h1|h1
    ·left;simp only[tget,if_neg h];exact h1
    ·right;exact h1
  ·by_cases h:j=i
   ·left;simp [tget,h]
   ·simp only[tget,if_neg h]
    exact ih
inductive Todo (P:Program) (num:Nat→Nat) (N:Nat):List It→List Item→Prop
 | nil:Todo P num N [] []
 | code {c:Code} {a:ACode} {k:List It} {t:List Item} (h:okCode P num N c a=true) (hk:Todo P num N k t):Todo P num N (.code a::k) (.code c::t)
 | drop {ts ss:List Nat} {k:List It} {t:List Item} (hk:Todo P num N k t):Todo P num N (.drp ts ss::k) t
 | blk {id:Nat} {k:List It} {t:List Item} (hk:Todo P num N k t):Todo P num N (.blk id::k) (.inBlock id::t)
 | lp {c:Code} {a:ACode} {k:List It} {t:List Item} (h:okCode P num N c a=true) (hk:Todo P num N k t):Todo P num N (.lp a::k) (.inLoop c::t)
 | scope {c:Code} {k:List It} {t:List Item} (hk:Todo P num N k t):Todo P num N k (.inScope c::t)
theorem step_inScope {b:Frame} {a:Act} {k:List Item} {cs:List Frame} {w:World} {c:Code}:step P (lone (b.at a (.inScope c::k)) cs w) = .next (lone (b.at a k) cs w) :=
 step_lone_go (by simp [stepG,stepG.exec,Frame.at])
theorem step_scope {b:Frame} {a:Act} {k:List Item} {cs:List Frame} {w:World} {c:Code}:step P (lone (b.at a (.code (.scope c)::k)) cs w) = .next (lone (b.at a (.code c :: .inScope c::k)) cs w) :=
 step_lone_go (by simp [stepG,stepG.exec,Frame.at])
theorem exit_todo {id:Nat} : ∀ {k:List It} {t:List Item},Todo P num N k t → ∀ {k':List It},exitA id k=some k' → ∃ t',exitTo id t=some t'∧Todo P num N k' t'
 | _,_,.nil,k',h=>by simp [exitA]at h
 | _,_,.code h0 hk,k',h=>by
  simp only[exitA]at h
  obtain ⟨t',h1,h2⟩:=exit_todo hk h
  exact ⟨t',by simpa [exitTo] using h1,h2⟩
 | _,_,.drop hk,k',h=>by
  simp only[exitA]at h
  exact exit_todo hk h
 | _,_,.blk (id:=id') hk,k',h=>by
  simp only[exitA]at h
  split at h
  ·rename_i he
   subst he
   simp only[Option.some.injEq]at h
   subst h
   exact ⟨_,by simp [exitTo],hk⟩
  ·rename_i he
   obtain ⟨t',h1,h2⟩:=exit_todo hk h
   exact ⟨t',by simpa [exitTo,he] using h1,h2⟩
 | _,_,.lp h0 hk,k',h=>by
  simp only[exitA]at h
  obtain ⟨t',h1,h2⟩:=exit_todo hk h
  exact ⟨t',by simpa [exitTo] using h1,h2⟩
 | _,_,.scope hk,k',h=>by
  obtain ⟨t',h1,h2⟩:=exit_todo hk h
  exact ⟨t',by simpa [exitTo] using h1,h2⟩
def Comes' (B:Nat) (S:Nat→Prop) (w0:World) (m0:M) (N:Nat) (P:Program) (b:Frame) (cs:List Frame) (mach:Machine) (st':St):Prop :=
 ∃ a' m' todo',Steps P mach (lone { b.at a' todo' with mode := .returning } cs m'.w)∧m'.own=st'.own∧FrOK B S w0 m0 N (tget st'.tm) m' a'
theorem run_sound (hC:CallsOK P num C) (b:Frame) (cs:List Frame) : ∀ (n:Nat) (k:List It) (st st':St),run C n k st=some st' → ∀ (t:List Item),Todo P num N k t → ∀ (m:M) (a:Act),m.own=st.own→FrOK B S w0 m0 N (tget st.tm) m a →
  Comes' B S w0 m0 N P b cs (lone (b.at a t) cs m.w) st':=by
 intro n
 induction n with
 | zero=>intro k st st' h;simp [run]at h
 | succ n ih =>
  intro k st st' h t ht
  have fin : ∀ (t:List Item),Todo P num N [] t → ∀ (m:M) (a:Act),m.own=st.own→FrOK B S w0 m0 N (tget st.tm) m a→st=st'→Comes' B S w0 m0 N P b cs (lone (b.at a t) cs m.w) st':=by
   intro t ht
   generalize hk:([]:List It)=kk at ht
   induction ht with
   | nil =>
    intro m a hown hf he
    subst he
    exact ⟨a,m,[],.one step_end,hown,hf⟩
   | scope hk' ih2 =>
    intro m a hown hf he
    obtain ⟨a',m',todo',h1,h2⟩:=ih2 hk m a hown hf he
    exact ⟨a',m',todo',.head step_inScope h1,h2⟩
   | code=>cases hk
   | drop=>cases hk
   | blk=>cases hk
   | lp=>cases hk
  cases k with
  | nil =>
   intro m a hown hf
   simp only[run,Option.some.injEq]at h
   exact fin t ht m a hown hf h
  | cons it k =>
   generalize hkk:it::k=kk at ht
   induction ht with
   | nil=>cases hkk
   | scope hk' ih2 =>
    intro m a hown hf
    obtain ⟨a',m',todo',h1,h2⟩:=ih2 hkk m a hown hf
    exact ⟨a',m',todo',.head step_inScope h1,h2⟩
   | @blk id k2 t2 hk' ih2 =>
    intro m a hown hf
    obtain ⟨rfl,rfl⟩:it = .blk id∧k=k2:=by simpa using hkk
    simp only[run]at h
    obtain ⟨a',m',todo',h1,h2⟩:=ih k st st' h t2 hk' m a hown hf
    exact ⟨a',m',todo',.head step_inBlock h1,h2⟩
   | @lp c ac k2 t2 hok hk' ih2 =>
    intro m a hown hf
    obtain ⟨rfl,rfl⟩:it = .lp ac∧k=k2:=by simpa using hkk
    simp only[run]at h
    obtain ⟨a',m',todo',h1,h2⟩:=ih _ st st' h (.code c :: .inLoop c::t2) (.code hok (.lp hok hk')) m a hown hf
    exact ⟨a',m',todo',.head step_inLoop h1,h2⟩
   | @drop ts ss k2 t2 hk' ih2 =>
    intro m a hown hf
    obtain ⟨rfl,rfl⟩:it = .drp ts ss∧k=k2:=by simpa using hkk
    simp only[run]at h
    obtain ⟨hm',he⟩:=drop_ok hf.mem ss
    have hf':FrOK B S w0 m0 N (tget (tdrop st.tm ts)) ⟨m.ν,m.own.drop ss,m.w⟩ a:=⟨hm',hf.ext.trans he,fun i=>by
     rcases tget_drop st.tm ts i with h1|h1
     ·rw[h1];exact he.cv (hf.tm i)
     ·rw[h1];exact .any _,hf.size,hf.defers⟩
    obtain ⟨a',m',todo',h1,h2,h3⟩:=ih k ⟨tdrop st.tm ts,st.own.drop ss⟩ st' h t2 hk' ⟨m.ν,m.own.drop ss,m.w⟩ a (by simp [hown]) hf'
    exact ⟨a',m',todo',h1,h2,h3⟩
   | @code c ac k2 t2 hok hk' ih2 =>
    obtain ⟨rfl,rfl⟩:it = .code ac∧k=k2:=by simpa using hkk
    clear ih2 hkk
    intro m a hown hf
    cases ac with
    | dr ac ts ss =>
     simp only[okCode]at hok
     simp only[run]at h
     exact ih _ st st' h _ (.code hok (.drop hk')) m a hown hf
    | skip =>
     simp only[run]at h
     cases c with
     | skip =>
      obtain ⟨a',m',todo',h1,h2⟩:=ih _ st st' h _ hk' m a hown hf
      exact ⟨a',m',todo',.head step_skip h1,h2⟩
     | label =>
      obtain ⟨a',m',todo',h1,h2⟩:=ih _ st st' h _ hk' m a hown hf
      exact ⟨a',m',todo',.head step_label h1,h2⟩
     | _=>simp [okCode]at hok
    | scope ac =>
     simp only[run]at h
     cases c with
     | scope c =>
      simp only[okCode]at hok
      obtain ⟨a',m',todo',h1,h2⟩:=ih _ st st' h _ (.code hok (.scope (c:=c) hk')) m a hown hf
      exact ⟨a',m',todo',.head step_scope h1,h2⟩
     | _=>simp [okCode]at hok
    | seq a1 a2 =>
     simp only[run]at h
     cases c with
     | seq c1 c2 =>
      simp only[okCode,Bool.and_eq_true]at hok
      obtain ⟨a',m',todo',h1,h2⟩:=ih _ st st' h _ (.code hok.1 (.code hok.2 hk')) m a hown hf
      exact ⟨a',m',todo',.head step_seq h1,h2⟩
     | _=>simp [okCode]at hok
    | cond x a1 a2 =>
     simp only[run]at h
     cases c with
     | cond xc c1 c2 =>
      simp only[okCode,Bool.and_eq_true]at hok
      have hcv:CV B S m (st.ev x) (a.eval xc):=by rw[ev_eq];exact hf.says xc x hok.1.1
      split at h
      ·rename_i hx
       rw[hx]at hcv
       obtain ⟨a',m',todo',h1,h2⟩:=ih _ st st' h _ (.code hok.1.2 hk') m a hown hf
       exact ⟨a',m',todo',.head (step_cond (cv_bool hcv)) h1,h2⟩
      ·rename_i hx
       rw[hx]at hcv
       obtain ⟨a',m',todo',h1,h2⟩:=ih _ st st' h _ (.code hok.2 hk') m a hown hf
       exact ⟨a',m',todo',.head (step_cond (cv_bool hcv)) h1,h2⟩
      ·cases h
     | _=>simp [okCode]at hok
    | block id ac =>
     simp only[run]at h
     cases c with
     | block id' c =>
      simp only[okCode,Bool.and_eq_true,beq_iff_eq]at hok
      obtain ⟨rfl,hok⟩:=hok
      obtain ⟨a',m',todo',h1,h2⟩:=ih _ st st' h _ (.code hok (.blk hk')) m a hown hf
      exact ⟨a',m',todo',.head step_block h1,h2⟩
     | _=>simp [okCode]at hok
    | loop ac =>
     simp only[run]at h
     cases c with
     | loop c =>
      simp only[okCode]at hok
      obtain ⟨a',m',todo',h1,h2⟩:=ih _ st st' h _ (.code hok (.lp hok hk')) m a hown hf
      exact ⟨a',m',todo',.head step_loop h1,h2⟩
     | _=>simp [okCode]at hok
    | exit id =>
     simp only[run]at h
     cases c with
     | exit id' =>
      simp only[okCode,beq_iff_eq]at hok
      subst hok
      split at h
      ·rename_i k' hk2
       obtain ⟨t',e1,e2⟩:=exit_todo hk' hk2
       obtain ⟨a',m',todo',h1,h2⟩:=ih _ st st' h _ e2 m a hown hf
       exact ⟨a',m',todo',.head (step_exit e1) h1,h2⟩
      ·cases h
     | _=>simp [okCode]at hok
    | ret =>
     simp only[run,Option.some.injEq]at h
     subst h
     cases c with
     | ret=>exact ⟨a,m,.code .ret::t2,.one step_ret,hown,hf⟩
     | _=>simp [okCode]at hok
    | ops l draw =>
     simp only[run]at h
     split at h
     ·rename_i st1 hst1
      cases c with
      | region id ops draw' =>
       simp only[okCode,Bool.and_eq_true,beq_iff_eq]at hok
       obtain ⟨⟨rfl,hokl⟩,hdr⟩:=hok
       have hwp:(Code.region id ops draw').wp P (fun e a' w'=>e = .normal ∧ ∃ m',m'.w=w'∧m'.own=st1.own∧FrOK B S w0 m0 N (tget st1.tm) m' a') a m.w:=by
        cases draw' with
        | true=>exact wp_draw hC hokl (by simpa using hdr) hst1 hown hf fun m' a' h1 h2=>⟨rfl,m',rfl,h1,h2⟩
        | false =>
         refine wp_region ?_
         rw[List.range_eq_range']
         exact wp_text hC hokl ops.size 0 st st1 m a (by omega) (by simpa using hst1) hown hf fun m' a' h1 h2=>⟨rfl,m',rfl,h1,h2⟩
       obtain ⟨e,a1,w1,⟨rfl,m1,rfl,hown1,hf1⟩,harr⟩:=hwp b t2 cs
       obtain ⟨a',m',todo',h1,h2,h3⟩:=ih _ st1 st' h _ hk' m1 a1 hown1 hf1
       exact ⟨a',m',todo',Steps.trans harr h1,h2,h3⟩
      | _=>simp [okCode]at hok
     ·cases h
end
end Go.Eng

namespace Go.Eng
open Go.RowKit
section
variable {P:Program} {num:Nat→Nat} {L:Lib}
def ProgOK (P : Program) (num : Nat → Nat) (L : Lib) : Prop := (∀ f fa, L f = some fa → ∃ fn, P.funcs[num f]? = some fn ∧ okFn P num fn fa = true ∧ (fn.name == "runtime.NumGoroutine") = false) ∧ L.num = num
theorem initTm_get : ∀ (args:List AV) (k i:Nat),tget (initTm k args) i=if k≤i then (match args[i-k]? with|some v=>v|none => .any) else .any
 | [],k,i=>by simp [initTm,tget]
 | v::r,k,i=>by
  simp only[initTm,tget]
  by_cases h:i=k
  ·subst h;simp
  ·rw[if_neg h,initTm_get r (k+1) i]
   by_cases h2:k≤i
   ·rw[if_pos h2,if_pos (by omega)]
    have:i-k=(i-(k+1))+1:=by omega
    rw[this]
    simp
   ·rw[if_neg h2,if_neg (by omega)]
section
variable {B:Nat} {S:Nat→Prop} {w0:World} {m0:M} {N:Nat}
def resSem (tmps:Array Value):ResultVar→Sem Value
 | .tmp t=>pure (tmps.getD t undef)
 | .cell x t=>do loadVar t (←asAddr (tmps.getD x undef))
theorem ca_of_res {m:M} {x v:AV} {u:Value} (h:resTmp x=some v) (hcv:CV B S m x u):CA B S m v u:=by
 cases hcv with
 | any=>simp [resTmp]at h
 | tup=>simp [resTmp]at h
 | ca hc =>
  have:x=v:=by
   cases hc with
   | one hc=>cases hc with
    | rd hr=>cases hr<;>simpa [resTmp] using h
    | _=>simpa [resTmp] using h
   | fn=>simpa [resTmp] using h
   | agg=>simpa [resTmp] using h
  subst this
  exact hc
theorem results_ok {m:M} {a:Act} {st:St} (hf:FrOK B S w0 m0 N (tget st.tm) m a) (hown:m.own=st.own) : ∀ {rv:List ResultVar} {ra:List ARes} {vs:List AV},okRes P rv ra=true→ra.mapM (resOf st)=some vs →
  ∃ us:List Value,(rv.mapM (resSem a.tmps)).run P m.w = .ok us m.w∧vs.length=us.length ∧ ∀ (j:Nat) (c:AV) (v:Value),vs[j]? = some c→us[j]? = some v→CA B S m c v
 | [],[],vs,_,h=>by
  simp at h;subst h
  exact ⟨[],by simp,rfl,fun j c v hc=>by simp at hc⟩
 | .tmp t::r,.tmp t'::l,vs,hok,h=>by
  simp only[okRes,Bool.and_eq_true,beq_iff_eq]at hok
  obtain ⟨rfl,hok⟩:=hok
  simp only[List.mapM_cons,Option.bind_eq_bind,Option.pure_def]at h
  cases hv:resOf st (.tmp t) with
  | none=>simp [hv]at h
  | some v =>
   cases hr:l.mapM (resOf st) with
   | none=>simp [hv,hr]at h
   | some vr =>
    simp [hv,hr]at h
    subst h
    obtain ⟨us,h1,h2,h3⟩:=results_ok hf hown hok hr
    have hcv:=hf.tm t
    have hca:CA B S m v (a.tmps.getD t undef):=ca_of_res hv hcv
    refine ⟨a.tmps.getD t undef::us,?_,by simp [h2],fun j c u hc hu => ?_⟩
    ·simp only[List.mapM_cons,Sem.run_bind,resSem,Sem.run_pure,Result.andThen_ok,h1]
    ·cases j with
     | zero =>
      obtain rfl:v=c:=by simpa using hc
      obtain rfl:a.tmps.getD t undef=u:=Option.some.inj hu
      exact hca
     | succ j=>exact h3 j c u (by simpa using hc) (by simpa using hu)
 | .cell x t::r,.cell x' agg n::l,vs,hok,h=>by
  simp only[okRes,Bool.and_eq_true,beq_iff_eq]at hok
  obtain ⟨⟨⟨rfl,hagg⟩,hn⟩,hok⟩:=hok
  simp only[List.mapM_cons,Option.bind_eq_bind,Option.pure_def]at h
  cases hv:resOf st (.cell x agg n) with
  | none=>simp [hv]at h
  | some v =>
   cases hr:l.mapM (resOf st) with
   | none=>simp [hv,hr]at h
   | some vr =>
    simp [hv,hr]at h
    subst h
    obtain ⟨us,h1,h2,h3⟩:=results_ok hf hown hok hr
    have hcv:=hf.tm x
    simp only[resOf]at hv
    split at hv
    ·rename_i s u i j hx
     rw[hx]at hcv
     split at hv
     ·rename_i cs hcs
      rw[←hown]at hcs
      obtain ⟨ad,hev,ht,hb⟩:=cv_ptr hcv
      obtain ⟨b,g,arr,e,hget,hg,vs',hvl,hcl,hvs⟩:=own_cells hf.mem hcs
      obtain ⟨hcv',hone⟩:=ofCells_ok hv hcl
      have hld:=run_loadAt (P:=P) t agg n (aggOf_inv (by simpa using hagg)) (by
       cases agg
       ·simpa using hn
       ·exact sizeIs_inv (by simpa using hn)) ad vs' hvl m.w (fun q u' hq=>by
       have hlt:q<vs'.length:=(List.getElem?_eq_some_iff.1 hq).1
       obtain ⟨hg1,hg2⟩:=hg (by omega)
       obtain ⟨g',hg',rfl⟩:=hb b hget
       obtain rfl:g=g':=by rw[hg1]at hg';simpa using hg'
       rw[add_none,cell_at hg2]
       exact hvs q u' hq)
      have hld':(resSem a.tmps (.cell x t)).run P m.w = .ok (if agg then .agg vs'.toArray else vs'.getD 0 undef) m.w:=by
       show (do loadVar t (←asAddr (a.tmps.getD x undef)):Sem Value).run P m.w=_
       rw[hev]
       simpa [asAddr,Instr.loadAt,Instr.sureAddr] using hld
      have hca:CA B S m v (if agg then .agg vs'.toArray else vs'.getD 0 undef):=by
       unfold ofCells at hv
       cases agg with
       | true =>
        simp only[if_true,Option.some.injEq]at hv
        subst hv
        exact .agg cs vs' hcl
       | false =>
        simp only[Bool.false_eq_true,if_false]at hv ⊢
        split at hv
        ·rename_i c
         simp only[Option.some.injEq]at hv
         subst hv
         obtain ⟨u',hu',hcc⟩:=cl_get hcl (j:=0) (c:=c) rfl
         simp only[List.getD,hu',Option.getD_some]
         exact .one hcc
        ·cases hv
      refine ⟨(if agg then .agg vs'.toArray else vs'.getD 0 undef)::us,?_,by simp [h2],fun j' c u' hc hu => ?_⟩
      ·rw[List.mapM_cons,Sem.run_bind,hld',Result.andThen_ok,Sem.run_bind,h1,Result.andThen_ok]
       rfl
      ·cases j' with
       | zero =>
        obtain rfl:v=c:=by simpa using hc
        obtain rfl:=Option.some.inj hu
        exact hca
       | succ j'=>exact h3 j' c u' (by simpa using hc) (by simpa using hu)
     ·cases hv
    ·cases hv
 | [],_::_,_,hok,_=>by simp [okRes]at hok
 | .tmp _::_,[],_,hok,_=>by simp [okRes]at hok
 | .cell _ _::_,[],_,hok,_=>by simp [okRes]at hok
 | .tmp _::_,.cell _ _ _::_,_,hok,_=>by simp [okRes]at hok
 | .cell _ _::_,.tmp _::_,_,hok,_=>by simp [okRes]at hok
end
theorem callFunc_enter (hP:ProgOK P num L) {f:Nat} {fa:AFn} (hL:L f=some fa) (us:Array Value) (w:World):(callFunc (num f) us).run P w = .ok (.enter (num f) us) w:=by
 obtain ⟨fn,h1,h2,h3⟩:=hP.1 f fa hL
 have hb:fn.body.isNone=false:=by
  simp only[okFn,Bool.and_eq_true]at h2
  cases hbd:fn.body with
  | none=>rw[hbd]at h2;simp at h2
  | some c=>rfl
 unfold callFunc
 simp only[Sem.run_bind,run_program,Result.andThen_ok,h1,h3,hb,Bool.false_eq_true,if_false,Sem.run_pure]
theorem inn_sound (hP:ProgOK P num L) {n:Nat} (hC:CallsOK P num (clAt L n)) {f:Nat} {vs:List AV} {own:Own} {r:AV} {own':Own} (h:evI L (n+1) f vs own=some (r,own')) (B:Nat) (S:Nat→Prop) (w0:World) (m:M) (us:List Value) (hown:m.own=own) (hm:MemOK B S w0 m) (hl:vs.length=us.length)
  (hcv : ∀ (j:Nat) (c:AV) (v:Value),vs[j]? = some c→us[j]? = some v→CV B S m c v) :
  Calls P (num f) us.toArray m.w fun e w' => ∃ u m',e = .returned u∧m'.w=w'∧m'.own=own'∧MemOK B S w0 m'∧Ext B S m m'∧CV B S m' r u:=by
 rw[evI_succ]at h
 cases hL:L f with
 | none=>simp [hL]at h
 | some fa =>
  simp only[hL]at h
  split at h
  ·rename_i hpars
   split at h
   ·rename_i st hrun
    split at h
    ·rename_i rvs hres
     simp only[Option.some.injEq,Prod.mk.injEq]at h
     obtain ⟨rfl,rfl⟩:=h
     obtain ⟨fn,h1,h2,h3⟩:=hP.1 f fa hL
     simp only[okFn,Bool.and_eq_true,beq_iff_eq,decide_eq_true_eq]at h2
     obtain ⟨⟨⟨h4,h5⟩,h6⟩,h7⟩:=h2
     split at h7
     ·rename_i c hc
      intro cs
      have henter:Frame.enter P (num f) us.toArray .normal=({ (default:Frame) with fn:=num f,kind := .normal }:Frame).at { tmps:=us.toArray++Array.replicate (fn.ntmps-us.toArray.size) undef,defers:=[] } [.code c]:=by
       simp [Frame.enter,Frame.at,h1,hc]
      have hsz:us.length=fa.pars:=by rw[←hl];exact hpars
      have hf0:FrOK B S w0 m fn.ntmps (tget (initTm 0 vs)) m { tmps:=us.toArray++Array.replicate (fn.ntmps-us.toArray.size) undef,defers:=[] }:=by
       refine ⟨hm,Ext.refl m,fun i => ?_,by simp;omega,rfl⟩
       rw[initTm_get]
       simp only[Nat.zero_le,if_true,Nat.sub_zero]
       cases hvi:vs[i]? with
       | none=>exact .any _
       | some v =>
        have hi:i<us.length:=by rw[←hl];exact (List.getElem?_eq_some_iff.1 hvi).1
        have hget:(us.toArray++Array.replicate (fn.ntmps-us.toArray.size) undef).getD i undef=us[i]:=by
         rw[Array.getD_eq_getD_getElem?,Array.getElem?_append_left (by simpa using hi)]
         simp [hi]
        simp only[hget]
        exact hcv i v us[i] hvi (List.getElem?_eq_getElem hi)
      obtain ⟨a',m',todo',hsteps,hown',hf'⟩:=run_sound (m0:=m) hC { (default:Frame) with fn:=num f,kind := .normal } cs n [.code fa.body] ⟨initTm 0 vs,own⟩ st hrun [.code c] (.code h7 .nil) m _ hown hf0
      obtain ⟨uvs,hu1,hu2,hu3⟩:=results_ok (P:=P) hf' hown' h6 hres
      have hresult:(results fn a'.tmps).run P m'.w = .ok (if h:uvs.length=1 then uvs[0] else .tuple uvs.toArray) m'.w:=by
       have hr:results fn a'.tmps=(do let vs ←fn.results.mapM (resSem a'.tmps);pure (if h:vs.size=1 then vs[0] else .tuple vs)):=rfl
       rw[hr,Sem.run_bind,Array.mapM_eq_mapM_toList]
       simp [hu1]
      refine ⟨.returned (if h:uvs.length=1 then uvs[0] else .tuple uvs.toArray),m'.w,_,⟨_,m',rfl,rfl,hown',hf'.mem,hf'.ext,?_⟩,by rw[henter];exact hsteps,rfl,rfl,hf'.defers,rfl,fn,h1,hresult⟩
      unfold resVal
      split
      ·rename_i v
       have h1':uvs.length=1:=by rw[←hu2];rfl
       rw[dif_pos h1']
       exact .ca (hu3 0 v uvs[0] rfl (List.getElem?_eq_getElem (by omega)))
      ·rename_i hne
       have h1' : ¬ uvs.length=1:=fun e=>by
        rw[←hu2]at e
        cases rvs with
        | nil=>simp at e
        | cons q qs=>cases qs with
         | nil=>exact hne q rfl
         | cons=>simp at e
       rw[dif_neg h1']
       exact .tup rvs uvs hu2 hu3
     ·cases h7
    ·cases h
   ·cases h
  ·cases h
theorem memOK_start (S:Nat→Prop) (w:World):MemOK w.heap.size S w ⟨fun _ _=>none,Own.emp,w⟩ :=
 ⟨Below.refl _ _,Nat.le_refl _,fun _ _ _=>rfl,fun s t b h=>by simp [Own.get,Own.emp]at h,fun s t s' t' b b' g h=>by simp [Own.get,Own.emp]at h⟩
theorem evI_none_of_lib {n f:Nat} {vs:List AV} {own:Own} {r:AV × Own} (h:evI L n f vs own=some r) : ∃ fa,L f=some fa:=by
 cases n with
 | zero=>simp [evI]at h
 | succ n =>
  rw[evI_succ]at h
  cases hL:L f with
  | none=>simp [hL]at h
  | some fa=>exact ⟨fa,rfl⟩
theorem pureP_inv {n f:Nat} {vs:List AV} {r:AV} (h:pureP (fun vs=>evI L n f vs Own.emp) vs=some r) : ∃ r0 o,evI L n f vs Own.emp=some (r0,o)∧snapR o false r0=some r∧Clean r:=by
 unfold pureP at h
 cases he:evI L n f vs Own.emp with
 | none=>simp [he]at h
 | some x =>
  obtain ⟨r0,o⟩:=x
  simp only[he]at h
  split at h
  ·rename_i r' hr
   split at h
   ·rename_i hc
    simp only[Option.some.injEq]at h
    subst h
    exact ⟨r0,o,rfl,hr,hc⟩
   ·cases h
  ·cases h
theorem evP_lib {n f:Nat} {vs:List AV} {r:AV} (h:evP L n f vs=some r) : ∃ vs',∃ x,evI L n f vs' Own.emp=some x:=by
 unfold evP pureS at h
 split at h
 ·split at h
  ·rename_i r1 r2 h1 h2
   obtain ⟨r0,o,h3,_⟩:=pureP_inv h1
   exact ⟨_,_,h3⟩
  ·cases h
 ·obtain ⟨r0,o,h3,_⟩:=pureP_inv h
  exact ⟨_,_,h3⟩
theorem pureP_ok (hP:ProgOK P num L) {n:Nat} (ih:CallsOK P num (clAt L n)) {f:Nat} {vs:List AV} {r:AV} (h:pureP (fun vs=>evI L (n+1) f vs Own.emp) vs=some r) (S:Nat→Prop) (w:World) (us:List Value) (hl:vs.length=us.length)
  (hca : ∀ (j:Nat) (c:AV) (v:Value),vs[j]? = some c→us[j]? = some v→CA w.heap.size S ⟨fun _ _=>none,Own.emp,w⟩ c v) :
  Calls P (num f) us.toArray w fun e w' => ∃ u,e = .returned u∧Below w.heap.size w w'∧CV w.heap.size S ⟨fun _ _=>none,Own.emp,w'⟩ r u∧Clean r:=by
 obtain ⟨r0,o,h1,h2,h3⟩:=pureP_inv (L:=L) h
 refine Calls.mono (inn_sound hP ih h1 w.heap.size S w ⟨fun _ _=>none,Own.emp,w⟩ us rfl (memOK_start S w) hl fun j c v hc hv => .ca (hca j c v hc hv)) fun e w' ⟨u,m',he,hw,hown,hm',_,hcv⟩ => ?_
 subst hw
 refine ⟨u,he,hm'.below,?_,h3⟩
 refine DV.cv (m:=⟨fun _ _=>none,Own.emp,m'.w⟩) (snapR_dv hm' false (safe w.heap.size S ⟨fun _ _=>none,Own.emp,m'.w⟩) (fun l b hb hs => ?_) (fun s t g hlv hg => ?_) (by rw[hown];exact h2) hcv)
 ·rcases hs with h|⟨h,_⟩|h
  ·exact .inl h
  ·exact .inr (.inl ⟨h,fun s t hlv=>by simp [Own.get,Own.emp]at hlv⟩)
  ·exact .inr (.inr h)
 ·exact .inr (.inl ⟨(hm'.ge hlv hg).1,fun s t hlv=>by simp [Own.get,Own.emp]at hlv⟩)
theorem calls_ok (hP:ProgOK P num L) : ∀ n,CallsOK P num (clAt L n):=by
 intro n
 induction n with
 | zero =>
  exact ⟨fun f vs r h=>by obtain ⟨vs',x,h1⟩:=evP_lib (L:=L) (n:=0) (f:=f) (vs:=vs) (r:=r) h;simp [evI]at h1,fun f vs own r h=>by change evI L 0 f vs own=some r at h;simp [evI]at h,
   fun f vs r h=>by obtain ⟨vs',x,h1⟩:=evP_lib (L:=L) (n:=0) (f:=f) (vs:=vs) (r:=r) h;simp [evI]at h1,fun f vs own r own' h=>by change evI L 0 f vs own=_ at h;simp [evI]at h,hP.2⟩
 | succ n ih =>
  refine ⟨fun f vs r h us w => ?_,fun f vs own r h us w => ?_,fun f vs r h S w us hl hca => ?_,fun f vs own r own' h B S w0 m us hown hm hl hcv=>inn_sound hP ih h B S w0 m us hown hm hl hcv,hP.2⟩
  ·obtain ⟨vs',x,h1⟩:=evP_lib (L:=L) h
   obtain ⟨fa,hL⟩:=evI_none_of_lib h1
   exact callFunc_enter hP hL us w
  ·obtain ⟨fa,hL⟩:=evI_none_of_lib (L:=L) h
   exact callFunc_enter hP hL us w
  ·have h:pureS (L.spl f) (fun vs=>evI L (n+1) f vs Own.emp) vs=some r:=h
   unfold pureS at h
   split at h
   ·rename_i q vs' _ _
    split at h
    ·rename_i r1 r2 h1 h2
     split at h
     ·rename_i e
      subst e
      obtain rfl:=Option.some.inj h
      cases us with
      | nil=>simp at hl
      | cons u us =>
       have h0:=hca 0 _ u rfl rfl
       have hu : ∃ a cap,u = .slice a 0 cap:=by
        cases h0 with
        | one h0=>cases h0 with
         | rd h0=>cases h0 with
          | sl0 l a cap=>exact ⟨a,cap,rfl⟩
          | sl l es b o esz cap u hne=>exact absurd rfl hne
       obtain ⟨a,cap,rfl⟩:=hu
       have key : ∀ b,a.isNone=b → ∀ (j:Nat) (c:AV) (v:Value),(AV.con (.bool b)::vs')[j]? = some c→(Value.slice a 0 cap::us)[j]? = some v→CA w.heap.size S ⟨fun _ _=>none,Own.emp,w⟩ c v:=fun b hb j c v hc hv=>by
        cases j with
        | zero =>
         obtain rfl:=Option.some.inj hc
         obtain rfl:=Option.some.inj hv
         exact .one (.rd (.emp b a cap hb))
        | succ j=>exact hca (j+1) c v hc hv
       cases hb:a.isNone with
       | true=>exact pureP_ok hP ih h1 S w _ (by simpa using hl) (key true hb)
       | false=>exact pureP_ok hP ih h2 S w _ (by simpa using hl) (key false hb)
     ·cases h
    ·cases h
   ·exact pureP_ok hP ih h S w us hl hca
end
end Go.Eng
namespace Go.Eng
theorem progOK_of {P : Program} {num : Nat → Nat} (l : List (Nat × AFn)) (h : ∀ p ∈ l, ∃ fn, P.funcs[num p.1]? = some fn ∧ okFn P num fn p.2 = true ∧ (fn.name == "runtime.NumGoroutine") = false) : ProgOK P num ⟨fun f => l.lookup f, num⟩ := by
 refine ⟨?_,rfl⟩
 intro f fa hf
 have hm:(f,fa)∈l:=by
  clear h
  change l.lookup f=some fa at hf
  induction l with
  | nil=>simp at hf
  | cons x r ih =>
   obtain ⟨k,v⟩:=x
   rw[List.lookup_cons]at hf
   cases hk:(f == k) with
   | true =>
    rw[hk]at hf
    have:f=k:=by simpa using hk
    subst this
    simp at hf
    simp [hf]
   | false =>
    rw[hk]at hf
    exact List.mem_cons_of_mem _ (ih hf)
 exact h (f,fa) hm
end Go.Eng

namespace Go.Eng.F
open C
namespace fixed_mode
def r0:List AI:=[o 2 (.mov (.c (.bool false)))]
def r1:List AI:=[m 3 0,o 4 (.bin .geq 3 (k 1)),m 5 4,g 6 5 true (.mov 0),g 7 5 true (.bin .leq 6 (k 3)),o 8 (.pick 5 7 (.c (.bool false))),m 2 8]
def c:ACode:=(.seq (.dr (.ops r0 false) [2] []) (.seq (.dr (.ops r1 false) [0,3,4,5,6,7,8] []) .ret))
end fixed_mode
def fixed_mode:AFn:=⟨1,fixed_mode.c,[.tmp 2],false⟩
namespace fixed_Valid
def r0:List AI:=[o 1 (.box 1 0),o 2 (.mov (.c (.bool false)))]
def r1:List AI:=[o 3 (.fadr 1 0),o 4 (.ld false 1 3),o 5 (.bin .lss 4 (k 4)),m 6 5,g 7 6 false (.fadr 1 0),g 8 6 false (.ld false 1 7),g 9 6 false (.bin .gtr 8 (k 24)),
 o 10 (.pick 6 (.c (.bool true)) 9),m 11 10,g 12 11 false (.fadr 1 1),g 13 11 false (.ld false 1 12),g 14 11 false (.bin .lss 13 (k 0)),
 o 15 (.pick 11 (.c (.bool true)) 14),m 16 15,g 17 16 false (.fadr 1 1),g 18 16 false (.ld false 1 17),g 19 16 false (.fadr 1 0),
 g 20 16 false (.ld false 1 19),g 21 16 false (.bin .geq 18 20),o 22 (.pick 16 (.c (.bool true)) 21)]
def r2:List AI:=[o 2 (.mov (.c (.bool false)))]
def r3:List AI:=[o 23 (.fadr 1 2),o 24 (.ld false 1 23),o 25 (.call 1 [24]),m 26 25,g 27 26 true (.fadr 1 3),g 28 26 true (.ld false 1 27),
 g 29 26 true (.bin .eql 28 (k 1)),g 30 26 true (.mov 29),g 31 30 false (.fadr 1 3),g 32 30 false (.ld false 1 31),g 33 30 false (.bin .eql 32 (k 2)),
 g 34 26 true (.pick 30 (.c (.bool true)) 33),o 35 (.pick 26 34 (.c (.bool false))),m 2 35]
def c:ACode:=(.seq (.dr (.ops r0 false) [0,2] []) (.seq (.seq (.dr (.ops r1 false) [3,4,5,6,7,8,9,10,11,12,13,14,15,16,17,18,19,20,21] []) (.cond 22 (.seq (.dr (.ops r2 false) [1,22] []) .ret) .skip)) (.seq (.dr (.ops r3 false) [1,22,23,24,25,26,27,28,29,30,31,32,33,34,35] []) .ret)))
end fixed_Valid
def fixed_Valid:AFn:=⟨1,fixed_Valid.c,[.tmp 2],false⟩
namespace fixed_Low
def r0:List AI:=[o 1 (.box 1 0),o 2 (.mov (k 0))]
def r1:List AI:=[o 3 (.ld true 4 1),o 4 (.call 2 [3]),o 5 (.un .not 4)]
def r2:List AI:=[o 2 (.mov (k 0))]
def r3:List AI:=[o 6 (.fadr 1 0),o 7 (.ld false 1 6),o 8 (.bin .sub 7 (k 1)),o 9 (.bin .shl (k 1) 8),o 10 (.un .neg 9),m 2 10]
def c:ACode:=(.seq (.dr (.ops r0 false) [0,2] []) (.seq (.seq (.dr (.ops r1 false) [3,4] []) (.cond 5 (.seq (.dr (.ops r2 false) [1,5] []) .ret) .skip)) (.seq (.dr (.ops r3 false) [1,5,6,7,8,9,10] []) .ret)))
end fixed_Low
def fixed_Low:AFn:=⟨1,fixed_Low.c,[.tmp 2],false⟩
namespace fixed_High
def r0:List AI:=[o 1 (.box 1 0),o 2 (.mov (k 0))]
def r1:List AI:=[o 3 (.ld true 4 1),o 4 (.call 2 [3]),o 5 (.un .not 4)]
def r2:List AI:=[o 2 (.mov (k 0))]
def r3:List AI:=[o 6 (.fadr 1 0),o 7 (.ld false 1 6),o 8 (.bin .sub 7 (k 1)),o 9 (.bin .shl (k 1) 8),o 10 (.bin .sub 9 (k 1)),m 2 10]
def c:ACode:=(.seq (.dr (.ops r0 false) [0,2] []) (.seq (.seq (.dr (.ops r1 false) [3,4] []) (.cond 5 (.seq (.dr (.ops r2 false) [1,5] []) .ret) .skip)) (.seq (.dr (.ops r3 false) [1,5,6,7,8,9,10] []) .ret)))
end fixed_High
def fixed_High:AFn:=⟨1,fixed_High.c,[.tmp 2],false⟩
namespace fixed_Fits
def r0:List AI:=[o 2 (.box 2 0),o 4 (.mov (.c (.bool false)))]
def r1:List AI:=[o 5 (.ld true 4 2),o 6 (.call 2 [5]),m 7 6,g 8 7 true (.mov 1),g 9 7 true (.ld true 4 2),g 10 7 true (.call 3 [9]),g 11 7 true (.bin .geq 8 10),
 o 12 (.pick 7 11 (.c (.bool false))),m 13 12,g 14 13 true (.mov 1),g 15 13 true (.ld true 4 2),g 16 13 true (.call 4 [15]),g 17 13 true (.bin .leq 14 16),
 o 18 (.pick 13 17 (.c (.bool false))),m 4 18]
def c:ACode:=(.seq (.dr (.ops r0 false) [0,4] []) (.seq (.dr (.ops r1 false) [1,2,5,6,7,8,9,10,11,12,13,14,15,16,17,18] []) .ret))
end fixed_Fits
def fixed_Fits:AFn:=⟨2,fixed_Fits.c,[.tmp 4],false⟩
namespace fixed_Shift
def r0:List AI:=[o 6 (.mov (k 0))]
def r1:List AI:=[m 9 1,o 10 (.bin .lss 9 (k 0)),m 11 10,g 12 11 false (.mov 1),g 13 11 false (.bin .gtr 12 (k 62)),o 14 (.pick 11 (.c (.bool true)) 13),m 15 14,
 g 16 15 false (.mov 2),g 17 15 false (.call 1 [16]),g 18 15 false (.un .not 17),o 19 (.pick 15 (.c (.bool true)) 18)]
def r2:List AI:=[o 6 (.mov (k 0))]
def r3:List AI:=[m 20 1,o 21 (.bin .eql 20 (k 0))]
def r4:List AI:=[m 22 0,m 6 22]
def r5:List AI:=[m 23 0,m 24 1,o 25 (.bin .shr 23 24),m 7 25]
def r6:List AI:=[m 26 7,m 27 7,m 28 0,m 29 1,o 30 (.bin .sub 29 (k 1)),o 31 (.bin .shr 28 30),o 32 (.bin .and 31 (k 1)),o 33 (.bin .add 27 32),m 34 7,
 o 35 (.build [z,z,z] [(0,1,26),(1,1,33),(2,1,34)]),o 8 (.alloc 8 [z,z,z]),n (.st 3 8 35)]
def r7:List AI:=[m 36 0,o 37 (.bin .lss 36 (k 0)),m 38 37,g 39 38 true (.mov 0),g 40 38 true (.mov 1),g 41 38 true (.bin .shl (k 1) 40),g 42 38 true (.bin .sub 41 (k 1)),
 g 43 38 true (.bin .and 39 42),g 44 38 true (.bin .neq 43 (k 0)),o 45 (.pick 38 44 (.c (.bool false)))]
def r8:List AI:=[o 46 (.iadr (some 3) 1 8 (k 2)),o 47 (.ld false 1 46),o 48 (.bin .add 47 (k 1)),o 49 (.iadr (some 3) 1 8 (k 2)),n (.st 1 49 48)]
def r9:List AI:=[m 50 2,o 51 (.bin .sub 50 (k 1)),o 52 (.iadr (some 3) 1 8 51),o 53 (.ld false 1 52),m 6 53]
def c:ACode:=(.seq (.dr (.ops r0 false) [6] []) (.seq (.seq (.dr (.ops r1 false) [9,10,11,12,13,14,15,16,17,18] []) (.cond 19 (.seq (.dr (.ops r2 false) [0,1,2,19] []) .ret) .skip)) (.seq (.seq (.dr (.ops r3 false) [19,20] []) (.cond 21 (.seq (.dr (.ops r4 false) [0,1,2,21,22] []) .ret) .skip)) (.seq (.dr (.ops r5 false) [21,23,24,25] []) (.seq (.dr (.ops r6 false) [7,26,27,28,29,30,31,32,33,34,35] []) (.seq (.seq (.dr (.ops r7 false) [0,1,36,37,38,39,40,41,42,43,44] []) (.cond 45 (.dr (.ops r8 false) [45,46,47,48,49] []) .skip)) (.seq (.dr (.ops r9 false) [2,8,45,50,51,52,53] []) .ret)))))))
end fixed_Shift
def fixed_Shift:AFn:=⟨3,fixed_Shift.c,[.tmp 6],false⟩
namespace fixed_Wrap
def r0:List AI:=[o 4 (.mov (k 0))]
def r1:List AI:=[m 6 0,o 7 (.bin .lss 6 (k 1)),m 8 7,g 9 8 false (.mov 0),g 10 8 false (.bin .gtr 9 (k 62)),o 11 (.pick 8 (.c (.bool true)) 10)]
def r2:List AI:=[o 4 (.mov (k 0))]
def r3:List AI:=[m 12 1,m 13 0,o 14 (.bin .shl (k 1) 13),o 15 (.bin .sub 14 (k 1)),o 16 (.bin .and 12 15),m 5 16]
def r4:List AI:=[m 17 5,m 18 0,o 19 (.bin .sub 18 (k 1)),o 20 (.bin .shl (k 1) 19),o 21 (.bin .geq 17 20)]
def r5:List AI:=[m 22 5,m 23 0,o 24 (.bin .shl (k 1) 23),o 25 (.bin .sub 22 24),m 5 25]
def r6:List AI:=[m 26 5,m 4 26]
def c:ACode:=(.seq (.dr (.ops r0 false) [4] []) (.seq (.seq (.dr (.ops r1 false) [6,7,8,9,10] []) (.cond 11 (.seq (.dr (.ops r2 false) [0,1,11] []) .ret) .skip)) (.seq (.dr (.ops r3 false) [1,11,12,13,14,15,16] []) (.seq (.seq (.dr (.ops r4 false) [17,18,19,20] []) (.cond 21 (.dr (.ops r5 false) [0,21,22,23,24,25] []) .skip)) (.seq (.dr (.ops r6 false) [0,5,21,26] []) .ret)))))
end fixed_Wrap
def fixed_Wrap:AFn:=⟨2,fixed_Wrap.c,[.tmp 4],false⟩
namespace fixed_Saturate
def r0:List AI:=[o 2 (.box 2 0),o 4 (.mov (k 0))]
def r1:List AI:=[m 5 1,o 6 (.ld true 4 2),o 7 (.call 3 [6]),o 8 (.mm true [5,7]),o 9 (.ld true 4 2),o 10 (.call 4 [9]),o 11 (.mm false [8,10]),m 4 11]
def c:ACode:=(.seq (.dr (.ops r0 false) [0,4] []) (.seq (.dr (.ops r1 true) [1,2,5,6,7,8,9,10,11] []) .ret))
end fixed_Saturate
def fixed_Saturate:AFn:=⟨2,fixed_Saturate.c,[.tmp 4],false⟩
namespace fixed_Reduce
def r0:List AI:=[o 2 (.box 2 0),o 4 (.mov (k 0))]
def r1:List AI:=[o 5 (.ld true 4 2),o 6 (.call 2 [5]),o 7 (.un .not 6)]
def r2:List AI:=[o 4 (.mov (k 0))]
def r3:List AI:=[o 8 (.fadr 2 3),o 9 (.ld false 1 8),o 10 (.bin .eql 9 (k 2))]
def r4:List AI:=[o 11 (.fadr 2 0),o 12 (.ld false 1 11),m 13 1,o 14 (.call 7 [12,13]),m 4 14]
def r5:List AI:=[o 15 (.ld true 4 2),m 16 1,o 17 (.call 8 [15,16]),m 4 17]
def c:ACode:=(.seq (.dr (.ops r0 false) [0,4] []) (.seq (.seq (.dr (.ops r1 false) [5,6] []) (.cond 7 (.seq (.dr (.ops r2 false) [1,2,7] []) .ret) .skip)) (.seq (.seq (.dr (.ops r3 false) [7,8,9] []) (.cond 10 (.seq (.dr (.ops r4 false) [1,2,10,11,12,13,14] []) .ret) .skip)) (.seq (.dr (.ops r5 false) [1,2,10,15,16,17] []) .ret))))
end fixed_Reduce
def fixed_Reduce:AFn:=⟨2,fixed_Reduce.c,[.tmp 4],false⟩
namespace ref21_In
def r0:List AI:=[o 6 (.mov (.c (.bool false)))]
def r1:List AI:=[m 7 0,m 8 1,o 9 (.bin .geq 7 8),m 10 9,g 11 10 true (.mov 0),g 12 10 true (.mov 2),g 13 10 true (.bin .leq 11 12),o 14 (.pick 10 13 (.c (.bool false))),
 m 6 14]
def c:ACode:=(.seq (.dr (.ops r0 false) [6] []) (.seq (.dr (.ops r1 false) [0,1,2,7,8,9,10,11,12,13,14] []) .ret))
end ref21_In
def ref21_In:AFn:=⟨3,ref21_In.c,[.tmp 6],false⟩
namespace ref21_Valid
def r0:List AI:=[o 1 (.box 1 0),o 2 (.mov (.c (.bool false)))]
def r1:List AI:=[o 3 (.fadr 1 0),o 4 (.ld false 1 3),o 5 (.call 10 [4,(k 4),(k 24)]),m 6 5,g 7 6 true (.fadr 1 1),g 8 6 true (.ld false 1 7),g 9 6 true (.fadr 1 0),
 g 10 6 true (.ld false 1 9),g 11 6 true (.bin .sub 10 (k 1)),g 12 6 true (.call 10 [8,(k 0),11]),o 13 (.pick 6 12 (.c (.bool false))),m 14 13,
 g 15 14 true (.fadr 1 2),g 16 14 true (.ld false 1 15),g 17 14 true (.call 10 [16,(k 1),(k 3)]),o 18 (.pick 14 17 (.c (.bool false))),m 19 18,
 g 20 19 true (.fadr 1 3),g 21 19 true (.ld false 1 20),g 22 19 true (.call 10 [21,(k 1),(k 2)]),o 23 (.pick 19 22 (.c (.bool false))),m 2 23]
def c:ACode:=(.seq (.dr (.ops r0 false) [0,2] []) (.seq (.dr (.ops r1 false) [1,3,4,5,6,7,8,9,10,11,12,13,14,15,16,17,18,19,20,21,22,23] []) .ret))
end ref21_Valid
def ref21_Valid:AFn:=⟨1,ref21_Valid.c,[.tmp 2],false⟩
namespace ref21_Low
def r0:List AI:=[o 1 (.box 1 0),o 2 (.mov (k 0))]
def r1:List AI:=[o 3 (.ld true 4 1),o 4 (.call 11 [3]),o 5 (.un .not 4)]
def r2:List AI:=[o 2 (.mov (k 0))]
def r3:List AI:=[o 6 (.fadr 1 0),o 7 (.ld false 1 6),o 8 (.bin .sub 7 (k 1)),o 9 (.conv .u64 8),o 10 (.bin .shl (k 1) 9),o 11 (.un .neg 10),m 2 11]
def c:ACode:=(.seq (.dr (.ops r0 false) [0,2] []) (.seq (.seq (.dr (.ops r1 false) [3,4] []) (.cond 5 (.seq (.dr (.ops r2 false) [1,5] []) .ret) .skip)) (.seq (.dr (.ops r3 false) [1,5,6,7,8,9,10,11] []) .ret)))
end ref21_Low
def ref21_Low:AFn:=⟨1,ref21_Low.c,[.tmp 2],false⟩
namespace ref21_High
def r0:List AI:=[o 1 (.box 1 0),o 2 (.mov (k 0))]
def r1:List AI:=[o 3 (.ld true 4 1),o 4 (.call 11 [3]),o 5 (.un .not 4)]
def r2:List AI:=[o 2 (.mov (k 0))]
def r3:List AI:=[o 6 (.fadr 1 0),o 7 (.ld false 1 6),o 8 (.bin .sub 7 (k 1)),o 9 (.conv .u64 8),o 10 (.bin .shl (k 1) 9),o 11 (.bin .sub 10 (k 1)),m 2 11]
def c:ACode:=(.seq (.dr (.ops r0 false) [0,2] []) (.seq (.seq (.dr (.ops r1 false) [3,4] []) (.cond 5 (.seq (.dr (.ops r2 false) [1,5] []) .ret) .skip)) (.seq (.dr (.ops r3 false) [1,5,6,7,8,9,10,11] []) .ret)))
end ref21_High
def ref21_High:AFn:=⟨1,ref21_High.c,[.tmp 2],false⟩
structure FixedLib (L:Lib):Prop where
 fixed_mode:L 1=some F.fixed_mode
 fixed_Valid:L 2=some F.fixed_Valid
 fixed_Low:L 3=some F.fixed_Low
 fixed_High:L 4=some F.fixed_High
 fixed_Fits:L 5=some F.fixed_Fits
 fixed_Shift:L 6=some F.fixed_Shift
 fixed_Wrap:L 7=some F.fixed_Wrap
 fixed_Saturate:L 8=some F.fixed_Saturate
 fixed_Reduce:L 9=some F.fixed_Reduce
 ref21_In:L 10=some F.ref21_In
 ref21_Valid:L 11=some F.ref21_Valid
 ref21_Low:L 12=some F.ref21_Low
 ref21_High:L 13=some F.ref21_High
end Go.Eng.F

namespace Go.Eng.F
open C
namespace network_Valid
def r0:List AI:=[o 1 (.box 1 0),o 2 (.mov (.c (.bool false)))]
def r1:List AI:=[o 10 (.fadr 1 0),o 11 (.ld true 4 10),o 12 (.call 2 [11]),o 13 (.un .not 12),m 14 13,g 15 14 false (.fadr 1 4),g 16 14 false (.ld true 4 15),
 g 17 14 false (.call 2 [16]),g 18 14 false (.un .not 17),o 19 (.pick 14 (.c (.bool true)) 18)]
def r2:List AI:=[o 2 (.mov (.c (.bool false)))]
def r3:List AI:=[o 20 (.fadr 1 8),o 21 (.ld false 1 20),o 22 (.bin .lss 21 (k 0)),m 23 22,g 24 23 false (.fadr 1 8),g 25 23 false (.ld false 1 24),
 g 26 23 false (.bin .gtr 25 (k 64)),o 27 (.pick 23 (.c (.bool true)) 26),m 28 27,g 29 28 false (.fadr 1 9),g 30 28 false (.ld false 1 29),
 g 31 28 false (.len 30),g 32 28 false (.bin .gtr 31 (k 64)),o 33 (.pick 28 (.c (.bool true)) 32),m 34 33,g 35 34 false (.fadr 1 10),
 g 36 34 false (.ld false 1 35),g 37 34 false (.len 36),g 38 34 false (.fadr 1 8),g 39 34 false (.ld false 1 38),g 40 34 false (.bin .neq 37 39),
 o 41 (.pick 34 (.c (.bool true)) 40)]
def r4:List AI:=[o 2 (.mov (.c (.bool false)))]
def r5:List AI:=[o 42 (.fadr 1 9),o 43 (.ld false 1 42),o 44 (.len 43),o 45 (.mov (k 0))]
def r6:List AI:=[o 46 (.bin .lss 45 44)]
def r7:List AI:=[m 47 45,o 48 (.iadr none 1 43 45),o 49 (.ld true 1 48),o 4 (.alloc 4 [.nil]),m 3 47,n (.st 1 4 49)]
def r8:List AI:=[o 50 (.fadr 4 0),o 51 (.ld false 1 50),o 52 (.len 51),o 53 (.bin .gtr 52 (k 64))]
def r9:List AI:=[o 2 (.mov (.c (.bool false)))]
def r10:List AI:=[o 54 (.fadr 4 0),o 55 (.ld false 1 54),o 56 (.len 55),o 57 (.mov (k 0))]
def r11:List AI:=[o 58 (.bin .lss 57 56)]
def r12:List AI:=[o 59 (.iadr none 2 55 57),o 60 (.ld true 2 59),o 6 (.alloc 6 [z,z]),n (.st 2 6 60)]
def r13:List AI:=[o 61 (.fadr 6 0),o 62 (.ld false 1 61),o 63 (.bin .lss 62 (k 0)),m 64 63,g 65 64 false (.fadr 6 0),g 66 64 false (.ld false 1 65),
 g 67 64 false (.fadr 1 8),g 68 64 false (.ld false 1 67),g 69 64 false (.mov 3),g 70 64 false (.bin .add 68 69),g 71 64 false (.bin .gtr 66 70),
 o 72 (.pick 64 (.c (.bool true)) 71)]
def r14:List AI:=[o 2 (.mov (.c (.bool false)))]
def r15:List AI:=[o 73 (.fadr 6 1),o 74 (.ld false 1 73),o 75 (.fadr 1 4),o 76 (.fadr 75 1),o 77 (.ld false 1 76),o 78 (.bin .shl (k 1) 77),o 79 (.bin .neq 74 78),m 80 79,
 g 81 80 true (.fadr 1 4),g 82 80 true (.ld true 4 81),g 83 80 true (.fadr 6 1),g 84 80 true (.ld false 1 83),g 85 80 true (.call 5 [82,84]),
 g 86 80 true (.un .not 85),o 87 (.pick 80 86 (.c (.bool false)))]
def r16:List AI:=[o 2 (.mov (.c (.bool false)))]
def r17:List AI:=[o 88 (.bin .add 57 (k 1)),m 57 88]
def r18:List AI:=[o 89 (.bin .add 45 (k 1)),m 45 89]
def r19:List AI:=[o 90 (.fadr 1 8),o 91 (.ld false 1 90),o 92 (.fadr 1 9),o 93 (.ld false 1 92),o 94 (.len 93),o 95 (.bin .add 91 94),m 7 95]
def r20:List AI:=[o 96 (.fadr 1 10),o 97 (.ld false 1 96),o 98 (.len 97),o 99 (.mov (k 0))]
def r21:List AI:=[o 100 (.bin .lss 99 98)]
def r22:List AI:=[o 101 (.iadr none 1 97 99),o 102 (.ld false 1 101),m 9 102]
def r23:List AI:=[m 103 9,o 104 (.bin .lss 103 (k 0)),m 105 104,g 106 105 false (.mov 9),g 107 105 false (.mov 7),g 108 105 false (.bin .gtr 106 107),
 o 109 (.pick 105 (.c (.bool true)) 108)]
def r24:List AI:=[o 2 (.mov (.c (.bool false)))]
def r25:List AI:=[o 110 (.bin .add 99 (k 1)),m 99 110]
def r26:List AI:=[o 111 (.fadr 1 11),o 112 (.ld false 1 111),o 113 (.bin .geq 112 (k 0)),m 114 113,g 115 114 true (.fadr 1 11),g 116 114 true (.ld false 1 115),
 g 117 114 true (.mov 7),g 118 114 true (.bin .leq 116 117),o 119 (.pick 114 118 (.c (.bool false))),m 2 119]
def l2:ACode:=(.seq (.ops r11 false) (.seq (.cond 58 .skip (.exit 2)) (.seq (.block 3 (.seq (.dr (.ops r12 false) [58,59,60] []) (.seq (.seq (.dr (.ops r13 false) [61,62,63,64,65,66,67,68,69,70,71] []) (.cond 72 (.seq (.dr (.ops r14 false) [1,3,6,43,44,45,55,56,57,72] []) .ret) .skip)) (.seq (.dr (.ops r15 true) [6,72,73,74,75,76,77,78,79,80,81,82,83,84,85,86] []) (.cond 87 (.seq (.dr (.ops r16 false) [1,3,43,44,45,55,56,57,87] []) .ret) .skip))))) (.dr (.ops r17 false) [87,88] []))))
def l1:ACode:=(.seq (.ops r6 false) (.seq (.cond 46 .skip (.exit 0)) (.seq (.block 1 (.seq (.dr (.ops r7 false) [46,47,48,49] []) (.seq (.seq (.dr (.ops r8 false) [50,51,52] []) (.cond 53 (.seq (.dr (.ops r9 false) [1,3,4,43,44,45,53] []) .ret) .skip)) (.seq (.dr (.ops r10 false) [4,53,54] []) (.block 2 (.loop l2)))))) (.dr (.ops r18 false) [3,55,56,57,58,89] []))))
def l3:ACode:=(.seq (.ops r21 false) (.seq (.cond 100 .skip (.exit 4)) (.seq (.block 5 (.seq (.dr (.ops r22 false) [100,101,102] []) (.seq (.dr (.ops r23 false) [9,103,104,105,106,107,108] []) (.cond 109 (.seq (.dr (.ops r24 false) [1,7,97,98,99,109] []) .ret) .skip)))) (.dr (.ops r25 false) [109,110] []))))
def c:ACode:=(.seq (.dr (.ops r0 false) [0,2] []) (.seq (.seq (.dr (.ops r1 false) [10,11,12,13,14,15,16,17,18] []) (.cond 19 (.seq (.dr (.ops r2 false) [1,19] []) .ret) .skip)) (.seq (.seq (.dr (.ops r3 false) [19,20,21,22,23,24,25,26,27,28,29,30,31,32,33,34,35,36,37,38,39,40] []) (.cond 41 (.seq (.dr (.ops r4 false) [1,41] []) .ret) .skip)) (.seq (.seq (.dr (.ops r5 false) [41,42] []) (.block 0 (.loop l1))) (.seq (.dr (.ops r19 false) [43,44,45,46,90,91,92,93,94,95] []) (.seq (.seq (.dr (.ops r20 false) [96] []) (.block 4 (.loop l3))) (.seq (.dr (.ops r26 false) [1,7,97,98,99,100,111,112,113,114,115,116,117,118,119] []) .ret)))))))
end network_Valid
def network_Valid:AFn:=⟨1,network_Valid.c,[.tmp 2],false⟩
namespace network_wrong
def r0:List AI:=[o 3 (.box 3 0),o 6 (.mov (k 0))]
def r1:List AI:=[m 11 1,o 12 (.len 11),o 13 (.fadr 3 8),o 14 (.ld false 1 13),o 15 (.bin .neq 12 14)]
def r2:List AI:=[o 6 (.mov (k 1))]
def r3:List AI:=[m 16 1,o 17 (.len 16),o 18 (.mov (k 0))]
def r4:List AI:=[o 19 (.bin .lss 18 17)]
def r5:List AI:=[o 20 (.iadr none 1 16 18),o 21 (.ld false 1 20),m 8 21]
def r6:List AI:=[o 22 (.fadr 3 0),o 23 (.ld true 4 22),m 24 8,o 25 (.call 5 [23,24]),o 26 (.un .not 25)]
def r7:List AI:=[o 6 (.mov (k 17))]
def r8:List AI:=[o 27 (.bin .add 18 (k 1)),m 18 27]
def r9:List AI:=[m 28 2,o 29 (.len 28),o 30 (.mov (k 0))]
def r10:List AI:=[o 31 (.bin .lss 30 29)]
def r11:List AI:=[o 32 (.iadr none 1 28 30),o 33 (.ld false 1 32),m 10 33]
def r12:List AI:=[o 34 (.fadr 3 0),o 35 (.ld true 4 34),m 36 10,o 37 (.call 5 [35,36]),o 38 (.un .not 37)]
def r13:List AI:=[o 6 (.mov (k 17))]
def r14:List AI:=[o 39 (.bin .add 30 (k 1)),m 30 39]
def r15:List AI:=[o 6 (.mov (k 0))]
def l1:ACode:=(.seq (.ops r4 false) (.seq (.cond 19 .skip (.exit 0)) (.seq (.block 1 (.seq (.dr (.ops r5 false) [19,20,21] []) (.seq (.dr (.ops r6 false) [8,22,23,24,25] []) (.cond 26 (.seq (.dr (.ops r7 false) [2,3,16,17,18,26] []) .ret) .skip)))) (.dr (.ops r8 false) [26,27] []))))
def l2:ACode:=(.seq (.ops r10 false) (.seq (.cond 31 .skip (.exit 2)) (.seq (.block 3 (.seq (.dr (.ops r11 false) [31,32,33] []) (.seq (.dr (.ops r12 false) [10,34,35,36,37] []) (.cond 38 (.seq (.dr (.ops r13 false) [3,28,29,30,38] []) .ret) .skip)))) (.dr (.ops r14 false) [38,39] []))))
def c:ACode:=(.seq (.dr (.ops r0 false) [0,6] []) (.seq (.seq (.dr (.ops r1 false) [11,12,13,14] []) (.cond 15 (.seq (.dr (.ops r2 false) [1,2,3,15] []) .ret) .skip)) (.seq (.seq (.dr (.ops r3 false) [1,15] []) (.block 0 (.loop l1))) (.seq (.seq (.dr (.ops r9 false) [2,16,17,18,19] []) (.block 2 (.loop l2))) (.seq (.dr (.ops r15 false) [3,28,29,30,31] []) .ret)))))
end network_wrong
def network_wrong:AFn:=⟨3,network_wrong.c,[.tmp 6],false⟩
namespace network_compute
def r0:List AI:=[o 3 (.box 3 0),o 6 (.mov (.c .nil)),o 7 (.mov (.c (.bool false)))]
def r1:List AI:=[o 16 (.fadr 3 8),o 17 (.ld false 1 16),o 18 (.bin .add (k 1) 17),o 19 (.fadr 3 9),o 20 (.ld false 1 19),o 21 (.len 20),o 22 (.bin .add 18 21),
 o 23 (.mk 23 1 8 [z] (k 0) 22),m 8 23]
def r2:List AI:=[m 24 8,m 25 2,o 26 (.bslice 26 1 [25]),o 27 (.app 27 1 8 24 26),m 8 27]
def r3:List AI:=[m 28 8,m 29 1,o 30 (.app 30 1 8 28 29),m 8 30]
def r4:List AI:=[o 9 (.mov (.c (.bool false)))]
def r5:List AI:=[o 31 (.fadr 3 9),o 32 (.ld false 1 31),o 33 (.len 32),o 34 (.mov (k 0))]
def r6:List AI:=[o 35 (.bin .lss 34 33)]
def r7:List AI:=[o 36 (.iadr none 1 32 34),o 37 (.ld true 1 36),o 11 (.alloc 11 [.nil]),n (.st 1 11 37)]
def r8:List AI:=[o 12 (.mov (k 0))]
def r9:List AI:=[o 38 (.fadr 11 0),o 39 (.ld false 1 38),o 40 (.len 39),o 41 (.mov (k 0))]
def r10:List AI:=[o 42 (.bin .lss 41 40)]
def r11:List AI:=[o 43 (.iadr none 2 39 41),o 44 (.ld true 2 43),o 14 (.alloc 14 [z,z]),n (.st 2 14 44)]
def r12:List AI:=[m 45 12,o 46 (.fadr 14 1),o 47 (.ld false 1 46),m 48 8,o 49 (.fadr 14 0),o 50 (.ld false 1 49),o 51 (.iadr none 1 48 50),o 52 (.ld false 1 51),
 o 53 (.bin .mul 47 52),o 54 (.bin .add 45 53),m 12 54]
def r13:List AI:=[o 55 (.bin .add 41 (k 1)),m 41 55]
def r14:List AI:=[m 56 12,o 57 (.fadr 3 4),o 58 (.fadr 57 1),o 59 (.ld false 1 58),o 60 (.fadr 3 0),o 61 (.fadr 60 2),o 62 (.ld false 1 61),o 63 (.call 6 [56,59,62]),
 m 15 63]
def r15:List AI:=[m 64 9,m 65 64,g 66 65 false (.fadr 3 0),g 67 65 false (.ld true 4 66),g 68 65 false (.mov 15),g 69 65 false (.call 5 [67,68]),
 g 70 65 false (.un .not 69),o 71 (.pick 65 (.c (.bool true)) 70),m 9 71]
def r16:List AI:=[m 72 8,o 73 (.fadr 3 0),o 74 (.ld true 4 73),m 75 15,o 76 (.call 9 [74,75]),o 77 (.bslice 77 1 [76]),o 78 (.app 78 1 8 72 77),m 8 78]
def r17:List AI:=[o 79 (.bin .add 34 (k 1)),m 34 79]
def r18:List AI:=[m 80 8,m 81 9,m 6 80,m 7 81]
def l2:ACode:=(.seq (.ops r10 false) (.seq (.cond 42 .skip (.exit 2)) (.seq (.block 3 (.seq (.dr (.ops r11 false) [42,43,44] []) (.dr (.ops r12 true) [14,45,46,47,48,49,50,51,52,53,54] []))) (.dr (.ops r13 false) [55] []))))
def l1:ACode:=(.seq (.ops r6 false) (.seq (.cond 35 .skip (.exit 0)) (.seq (.block 1 (.seq (.dr (.ops r7 false) [35,36,37] []) (.seq (.ops r8 false) (.seq (.seq (.dr (.ops r9 false) [11,38] []) (.block 2 (.loop l2))) (.seq (.dr (.ops r14 false) [12,39,40,41,42,56,57,58,59,60,61,62,63] []) (.seq (.dr (.ops r15 false) [64,65,66,67,68,69,70,71] []) (.dr (.ops r16 false) [15,72,73,74,75,76,77,78] []))))))) (.dr (.ops r17 false) [79] []))))
def c:ACode:=(.seq (.dr (.ops r0 false) [0,6,7] []) (.seq (.dr (.ops r1 false) [16,17,18,19,20,21,22,23] []) (.seq (.dr (.ops r2 false) [2,24,25,26,27] []) (.seq (.dr (.ops r3 false) [1,28,29,30] []) (.seq (.ops r4 false) (.seq (.seq (.dr (.ops r5 false) [31] []) (.block 0 (.loop l1))) (.seq (.dr (.ops r18 false) [3,8,9,32,33,34,35,80,81] []) .ret)))))))
end network_compute
def network_compute:AFn:=⟨3,network_compute.c,[.tmp 6,.tmp 7],false⟩
namespace network_Values
def r0:List AI:=[o 3 (.box 3 0),o 6 (.mov (.c .nil)),o 7 (.mov (.c (.bool false))),o 8 (.mov (k 0))]
def r1:List AI:=[o 12 (.ld true 12 3),o 13 (.call 21 [12]),o 14 (.un .not 13)]
def r2:List AI:=[o 6 (.mov (.c .nil)),o 7 (.mov (.c (.bool false))),o 8 (.mov (k 2))]
def r3:List AI:=[o 15 (.ld true 12 3),m 16 1,m 17 2,o 18 (.bslice 18 1 [17]),o 19 (.call 22 [15,16,18]),m 9 19]
def r4:List AI:=[m 20 9,o 21 (.bin .neq 20 (k 0))]
def r5:List AI:=[m 22 9,o 6 (.mov (.c .nil)),o 7 (.mov (.c (.bool false))),m 8 22]
def r6:List AI:=[o 24 (.ld true 12 3),m 25 1,m 26 2,o 27 (.call 23 [24,25,26]),m 23 27,o 28 (.ext 23 0),o 29 (.ext 23 1),m 10 28,m 11 29]
def r7:List AI:=[m 30 10,m 31 11,m 6 30,m 7 31,o 8 (.mov (k 0))]
def c:ACode:=(.seq (.dr (.ops r0 false) [0,6,7,8] []) (.seq (.seq (.dr (.ops r1 false) [12,13] []) (.cond 14 (.seq (.dr (.ops r2 false) [1,2,3,14] []) .ret) .skip)) (.seq (.seq (.dr (.ops r3 false) [14,15,16,17,18,19] []) (.seq (.dr (.ops r4 false) [20] []) (.cond 21 (.seq (.dr (.ops r5 false) [1,2,3,9,21,22] []) .ret) .skip))) (.seq (.dr (.ops r6 false) [1,2,3,9,21,23,24,25,26,27,28,29] []) (.seq (.dr (.ops r7 false) [10,11,30,31] []) .ret)))))
end network_Values
def network_Values:AFn:=⟨3,network_Values.c,[.tmp 6,.tmp 7,.tmp 8],false⟩
namespace network_follow
def r0:List AI:=[o 2 (.box 2 0),o 4 (.mov (.c .nil))]
def r1:List AI:=[o 8 (.fadr 2 8),o 9 (.ld false 1 8),o 10 (.mk 10 1 8 [z] 9 9),m 5 10]
def r2:List AI:=[o 11 (.fadr 2 10),o 12 (.ld false 1 11),o 13 (.len 12),o 14 (.mov (k 0))]
def r3:List AI:=[o 15 (.bin .lss 14 13)]
def r4:List AI:=[m 16 14,o 17 (.iadr none 1 12 14),o 18 (.ld false 1 17),m 6 16,m 7 18]
def r5:List AI:=[m 19 5,m 20 6,m 21 1,m 22 7,o 23 (.iadr none 1 21 22),o 24 (.ld false 1 23),o 25 (.iadr none 1 19 20),n (.st 1 25 24)]
def r6:List AI:=[o 26 (.bin .add 14 (k 1)),m 14 26]
def r7:List AI:=[m 27 5,m 4 27]
def l1:ACode:=(.seq (.ops r3 false) (.seq (.cond 15 .skip (.exit 0)) (.seq (.block 1 (.seq (.dr (.ops r4 false) [15,16,17,18] []) (.dr (.ops r5 false) [6,7,19,20,21,22,23,24,25] []))) (.dr (.ops r6 false) [26] []))))
def c:ACode:=(.seq (.dr (.ops r0 false) [0,4] []) (.seq (.dr (.ops r1 false) [8,9,10] []) (.seq (.seq (.dr (.ops r2 false) [2,11] []) (.block 0 (.loop l1))) (.seq (.dr (.ops r7 false) [1,5,12,13,14,15,27] []) .ret))))
end network_follow
def network_follow:AFn:=⟨2,network_follow.c,[.tmp 4],false⟩
namespace network_Step
def r0:List AI:=[o 3 (.box 3 0),o 6 (.mov (.c .nil)),o 7 (.mov (k 0)),o 8 (.mov (.c (.bool false))),o 9 (.mov (k 0))]
def r1:List AI:=[o 14 (.ld true 12 3),m 15 1,m 16 2,o 17 (.call 24 [14,15,16]),m 13 17,o 18 (.ext 13 0),o 19 (.ext 13 1),o 20 (.ext 13 2),m 10 18,m 11 19,m 12 20]
def r2:List AI:=[m 21 12,o 22 (.bin .neq 21 (k 0))]
def r3:List AI:=[m 23 12,o 6 (.mov (.c .nil)),o 7 (.mov (k 0)),o 8 (.mov (.c (.bool false))),m 9 23]
def r4:List AI:=[o 24 (.ld true 12 3),m 25 10,o 26 (.call 25 [24,25]),m 27 10,o 28 (.fadr 3 11),o 29 (.ld false 1 28),o 30 (.iadr none 1 27 29),o 31 (.ld false 1 30),
 m 32 11,m 6 26,m 7 31,m 8 32,o 9 (.mov (k 0))]
def c:ACode:=(.seq (.dr (.ops r0 false) [0,6,7,8,9] []) (.seq (.dr (.ops r1 false) [1,2,13,14,15,16,17,18,19,20] []) (.seq (.seq (.dr (.ops r2 false) [21] []) (.cond 22 (.seq (.dr (.ops r3 false) [3,10,11,12,22,23] []) .ret) .skip)) (.seq (.dr (.ops r4 true) [3,10,11,12,22,24,25,26,27,28,29,30,31,32] []) .ret))))
end network_Step
def network_Step:AFn:=⟨3,network_Step.c,[.tmp 6,.tmp 7,.tmp 8,.tmp 9],false⟩
namespace law22_known
def r0:List AI:=[o 0 (.mov (.c (.bool false)))]
def r1:List AI:=[o 7 (.build [z,z,z,z] [(0,1,(k 8)),(1,1,(k 0)),(2,1,(k 1)),(3,1,(k 1))]),o 1 (.alloc 1 [z,z,z,z]),n (.st 4 1 7)]
def r2:List AI:=[o 8 (.build [z,z,z,z] [(0,1,(k 8)),(1,1,(k 1)),(2,1,(k 1)),(3,1,(k 1))]),o 2 (.alloc 2 [z,z,z,z]),n (.st 4 2 8)]
def r3:List AI:=[o 9 (.ld true 4 1),o 10 (.ld true 4 2),o 11 (.build [z,z] [(1,1,(k 3))]),o 12 (.bslice 12 2 [11]),o 13 (.build [.nil] [(0,1,12)]),
 o 14 (.bslice 14 1 [13]),o 15 (.build [z,z,z,z,z,z,z,z,z,.nil,.nil,z] [(0,4,9),(4,4,10),(9,1,14),(11,1,(k 1))]),
 o 3 (.alloc 3 [z,z,z,z,z,z,z,z,z,.nil,.nil,z]),n (.st 12 3 15)]
def r4:List AI:=[o 17 (.ld true 12 3),o 18 (.call 24 [17,(.c .nil),(k 5)]),m 16 18,o 19 (.ext 16 0),o 20 (.ext 16 1),o 21 (.ext 16 2),m 4 19,m 5 20,m 6 21]
def r5:List AI:=[m 22 6,o 23 (.bin .eql 22 (k 0)),m 24 23,g 25 24 true (.mov 5),g 26 24 true (.un .not 25),o 27 (.pick 24 26 (.c (.bool false))),m 28 27,
 g 29 28 true (.mov 4),g 30 28 true (.len 29),g 31 28 true (.bin .eql 30 (k 2)),o 32 (.pick 28 31 (.c (.bool false))),m 33 32,g 34 33 true (.mov 4),
 g 35 33 true (.iadr none 1 34 (k 1)),g 36 33 true (.ld false 1 35),g 37 33 true (.bin .eql 36 (k 7)),o 38 (.pick 33 37 (.c (.bool false))),m 0 38]
def c:ACode:=(.seq (.dr (.ops r0 false) [0] []) (.seq (.dr (.ops r1 false) [7] []) (.seq (.dr (.ops r2 false) [8] []) (.seq (.dr (.ops r3 false) [1,2,9,10,11,12,13,14,15] []) (.seq (.dr (.ops r4 false) [3,16,17,18,19,20,21] []) (.seq (.dr (.ops r5 false) [4,5,6,22,23,24,25,26,27,28,29,30,31,32,33,34,35,36,37,38] []) .ret))))))
end law22_known
def law22_known:AFn:=⟨0,law22_known.c,[.tmp 0],false⟩
structure NetLib (L:Lib):Prop extends FixedLib L where
 network_Valid:L 21=some F.network_Valid
 network_wrong:L 22=some F.network_wrong
 network_compute:L 23=some F.network_compute
 network_Values:L 24=some F.network_Values
 network_follow:L 25=some F.network_follow
 network_Step:L 26=some F.network_Step
 law22_known:L 32=some F.law22_known
end Go.Eng.F

namespace Go.Eng.F
open C
namespace world_Within
def r0:List AI:=[o 4 (.mov (k 0))]
def r1:List AI:=[m 5 1,o 6 (.bin .lss 5 (k 1))]
def r2:List AI:=[o 4 (.mov (k 0))]
def r3:List AI:=[m 7 0,m 8 1,o 9 (.bin .rem 7 8),m 0 9]
def r4:List AI:=[m 10 0,o 11 (.bin .lss 10 (k 0))]
def r5:List AI:=[m 12 0,m 13 1,o 14 (.bin .add 12 13),m 0 14]
def r6:List AI:=[m 15 0,m 4 15]
def c:ACode:=(.seq (.dr (.ops r0 false) [4] []) (.seq (.seq (.dr (.ops r1 false) [5] []) (.cond 6 (.seq (.dr (.ops r2 false) [0,1,6] []) .ret) .skip)) (.seq (.dr (.ops r3 false) [6,7,8,9] []) (.seq (.seq (.dr (.ops r4 false) [10] []) (.cond 11 (.dr (.ops r5 false) [1,11,12,13,14] []) .skip)) (.seq (.dr (.ops r6 false) [0,1,11,15] []) .ret)))))
end world_Within
def world_Within:AFn:=⟨2,world_Within.c,[.tmp 4],false⟩
namespace world_At
def r0:List AI:=[o 4 (.mov (k 0))]
def r1:List AI:=[m 5 1,o 6 (.bin .geq 5 (k 0)),m 7 6,g 8 7 true (.mov 1),g 9 7 true (.mov 0),g 10 7 true (.len 9),g 11 7 true (.bin .lss 8 10),
 o 12 (.pick 7 11 (.c (.bool false)))]
def r2:List AI:=[m 13 0,m 14 1,o 15 (.iadr none 1 13 14),o 16 (.ld false 1 15),m 4 16]
def r3:List AI:=[o 4 (.mov (k 0))]
def c:ACode:=(.seq (.dr (.ops r0 false) [4] []) (.seq (.seq (.dr (.ops r1 false) [5,6,7,8,9,10,11] []) (.cond 12 (.seq (.dr (.ops r2 false) [0,1,12,13,14,15,16] []) .ret) .skip)) (.seq (.dr (.ops r3 false) [0,1,12] []) .ret)))
end world_At
def world_At:AFn:=⟨2,world_At.c,[.tmp 4],false⟩
namespace world_Word
def r0:List AI:=[o 8 (.alloc 8 [z,z,z,z])]
def r1:List AI:=[m 10 0,o 11 (.call 34 [10,(k 1099511627776)]),m 0 11]
def r2:List AI:=[m 12 1,m 13 0,m 14 2,m 15 1,o 16 (.bin .sub 14 15),o 17 (.bin .add 16 (k 1)),o 18 (.bin .rem 13 17),o 19 (.bin .add 12 18),
 o 20 (.build [z,z,z,z] [(0,1,19)]),o 9 (.alloc 9 [z,z,z,z]),n (.st 4 9 20)]
def r3:List AI:=[m 21 0,m 22 2,m 23 1,o 24 (.bin .sub 22 23),o 25 (.bin .add 24 (k 1)),o 26 (.bin .quo 21 25),m 0 26]
def r4:List AI:=[o 27 (.fadr 9 0),o 28 (.ld false 1 27),o 29 (.bin .sub 28 (k 1)),m 30 3,o 31 (.bin .sub 29 30),m 32 0,o 33 (.bin .rem 32 (k 2)),o 34 (.bin .sub 31 33),
 o 35 (.fadr 9 1),n (.st 1 35 34)]
def r5:List AI:=[m 36 0,o 37 (.bin .quo 36 (k 2)),m 0 37]
def r6:List AI:=[o 38 (.fadr 9 1),o 39 (.ld false 1 38),o 40 (.mm true [39,(k 0)]),o 41 (.fadr 9 1),n (.st 1 41 40)]
def r7:List AI:=[m 42 0,o 43 (.bin .rem 42 (k 3)),o 44 (.bin .add (k 1) 43),m 45 0,o 46 (.bin .quo 45 (k 3)),o 47 (.bin .rem 46 (k 2)),o 48 (.bin .add (k 1) 47),
 o 49 (.fadr 9 2),n (.st 1 49 44),o 50 (.fadr 9 3),n (.st 1 50 48)]
def r8:List AI:=[o 51 (.ld true 4 9),n (.st 4 8 51)]
def c:ACode:=(.seq (.ops r0 false) (.seq (.dr (.ops r1 false) [10,11] []) (.seq (.dr (.ops r2 false) [12,13,14,15,16,17,18,19,20] []) (.seq (.dr (.ops r3 false) [1,2,21,22,23,24,25,26] []) (.seq (.dr (.ops r4 false) [3,27,28,29,30,31,32,33,34,35] []) (.seq (.dr (.ops r5 false) [36,37] []) (.seq (.dr (.ops r6 false) [38,39,40,41] []) (.seq (.dr (.ops r7 false) [0,42,43,44,45,46,47,48,49,50] []) (.seq (.dr (.ops r8 false) [9,51] []) .ret)))))))))
end world_Word
def world_Word:AFn:=⟨4,world_Word.c,[.cell 8 true 4],false⟩
namespace world_Data
def r0:List AI:=[o 2 (.alloc 2 [z,z,z,z])]
def r1:List AI:=[m 3 0,o 4 (.call 36 [3,(k 6),(k 12),(k 2)]),n (.st 4 2 4)]
def c:ACode:=(.seq (.ops r0 false) (.seq (.dr (.ops r1 false) [0,3,4] []) .ret))
end world_Data
def world_Data:AFn:=⟨1,world_Data.c,[.cell 2 true 4],false⟩
namespace world_Coef
def r0:List AI:=[o 2 (.alloc 2 [z,z,z,z])]
def r1:List AI:=[m 3 0,o 4 (.call 36 [3,(k 6),(k 9),(k 1)]),n (.st 4 2 4)]
def c:ACode:=(.seq (.ops r0 false) (.seq (.dr (.ops r1 false) [0,3,4] []) .ret))
end world_Coef
def world_Coef:AFn:=⟨1,world_Coef.c,[.cell 2 true 4],false⟩
namespace world_Words
def r0:List AI:=[o 3 (.box 3 0),o 6 (.mov (.c .nil))]
def r1:List AI:=[o 7 (.vrow 7 1)]
def r2:List AI:=[o 8 (.mov (k 0))]
def r3:List AI:=[m 9 8,m 10 2,o 11 (.bin .lss 9 10)]
def r5:List AI:=[m 14 7,o 15 (.ld true 4 3),o 16 (.call 12 [15]),m 17 1,m 18 8,o 19 (.call 35 [17,18]),o 20 (.ld true 4 3),o 21 (.call 12 [20]),o 22 (.bin .sub 19 21),
 o 23 (.ld true 4 3),o 24 (.call 13 [23]),o 25 (.ld true 4 3),o 26 (.call 12 [25]),o 27 (.bin .sub 24 26),o 28 (.bin .add 27 (k 1)),
 o 29 (.call 34 [22,28]),o 30 (.bin .add 16 29),o 31 (.bslice 31 1 [30]),o 32 (.app 32 1 8 14 31),m 7 32]
def r4:List AI:=[m 12 8,o 13 (.bin .add 12 (k 1)),m 8 13]
def r6:List AI:=[m 33 7,m 6 33]
def l1:ACode:=(.seq (.seq (.dr (.ops r3 false) [9,10] []) (.cond 11 .skip (.exit 0))) (.seq (.block 1 (.dr (.ops r5 true) [11,14,15,16,17,18,19,20,21,22,23,24,25,26,27,28,29,30,31,32] [])) (.dr (.ops r4 false) [12,13] [])))
def c:ACode:=(.seq (.dr (.ops r0 false) [0,6] []) (.seq (.ops r1 false) (.seq (.seq (.ops r2 false) (.block 0 (.loop l1))) (.seq (.dr (.ops r6 false) [1,2,3,7,8,11,33] []) .ret))))
end world_Words
def world_Words:AFn:=⟨3,world_Words.c,[.tmp 6],false⟩
structure WorldLib (L:Lib):Prop extends FixedLib L where
 world_Within:L 34=some F.world_Within
 world_At:L 35=some F.world_At
 world_Word:L 36=some F.world_Word
 world_Data:L 37=some F.world_Data
 world_Coef:L 38=some F.world_Coef
 world_Words:L 39=some F.world_Words
end Go.Eng.F
