/-
  A region that draws its order: whatever the order, what the order of the text gives.
-/
import Derived.Test.YtfnglkabkfmjcaaGreatB2
import Derived.Test.YtfnglkabkfmjcaaGreatB1
set_option linter.unusedSimpArgs false
set_option linter.unusedVariables false
set_option linter.unnecessarySimpa false
namespace Go.e9
open Go.RowKit
section
variable {T T':Nat->AV} {C:Cl} {g9:List Nat} {own:AH}
theorem DM {x:AP} (h : ∀ t∈C4 x,T t=T' t):EP T x=EP T' x:=by
 cases x with
 | t n=>exact h n (by simp [C4])
 | c v=>rfl
theorem iE {xs:List AP} (h : ∀ t∈xs.flatMap C4,T t=T' t):xs.map (EP T)=xs.map (EP T') :=
 List.map_congr_left λ x hx=>DM λ t ht=>h t (List.mem_flatMap.2 ⟨x,hx,ht⟩)
theorem Ae3 {x:Option AP} (h : ∀ t∈zY x,T t=T' t) {y:AP} (hy:x=some y):EP T y=EP T' y:=by
 subst hy;exact DM h
theorem Ala {op:D8} (h : ∀ t∈HS op,T t=T' t):m6 C g9 (EP T) own op=m6 C g9 (EP T') own op:=by
 cases op with
 | build z ps =>
  simp only[m6];congr 2;refine List.map_congr_left λ p hp => ?_
  rw[DM (x:=p.2.2) λ t ht=>h t (by simp only[HS];exact List.mem_flatMap.2 ⟨p,hp,ht⟩)]
 | m4 s c7 ps =>
  have hm:ps.mapM (λ x=>cellsOf (EP T x))=ps.mapM (λ x=>cellsOf (EP T' x)):=by
   have e : ∀ l:List AP,(∀ x∈l,EP T x=EP T' x)->l.mapM (λ x=>cellsOf (EP T x))=l.mapM (λ x=>cellsOf (EP T' x)):=by
    intro l;induction l with
    | nil=>intro _;rfl
    | cons x r ih=>intro hl;simp only[List.mapM_cons];rw[hl x (by simp),ih λ y hy=>hl y (by simp [hy])]
   exact e ps λ x hx=>DM λ t ht=>h t (by simp only[HS];exact List.mem_flatMap.2 ⟨x,hx,ht⟩)
  simp only[m6,hm]
 | mm mx xs=>simp only[m6];rw[iE (xs:=xs) h]
 | call f xs=>simp only[m6];rw[iE (xs:=xs) h]
 | m7 f xs=>simp only[m6];rw[iE (xs:=xs) h]
 | xm ne x=>simp only[m6];rw[DM (x:=x) h]
 | bad=>rfl
 | ju x=>simp only[m6];rw[DM (x:=x) h]
 | ru s c7 bytes x y =>
  simp only[HS,List.mem_append]at h;simp only[m6];rw[DM (x:=x) λ t ht=>h t (.inl ht),DM (x:=y) λ t ht=>h t (.inr ht)]
 | lu tb x=>simp only[m6];rw[DM (x:=x) h]
 | um p f xs =>
  have e : ∀ l:List AP,(∀ x∈l,EP T x=EP T' x)->l.mapM (λ x=>G4 (EP T x))=l.mapM (λ x=>G4 (EP T' x)):=by
   intro l;induction l with
   | nil=>intro _;rfl
   | cons x r ih=>intro hl;simp only[List.mapM_cons];rw[hl x (by simp),ih λ y hy=>hl y (by simp [hy])]
  simp only[m6];rw[e xs λ x hx=>DM λ t ht=>h t (by simp only[HS];exact List.mem_flatMap.2 ⟨x,hx,ht⟩)]
 | wi f x=>simp only[m6];rw[DM (x:=x) h]
 | w9 f xs=>simp only[m6];rw[iE (xs:=xs) h]
 | bm s f xs=>simp only[m6];rw[iE (xs:=xs) h]
 | gj s f xs=>simp only[m6];rw[iE (xs:=xs) h]
 | rm s n x v =>
  simp only[HS,List.mem_append]at h;simp only[m6];rw[DM (x:=x) λ t ht=>h t (.inl ht),DM (x:=v) λ t ht=>h t (.inr ht)]
 | y7 x xs =>
  simp only[HS,List.mem_append]at h;simp only[m6];rw[DM (x:=x) λ t ht=>h t (.inl ht),iE (xs:=xs) λ t ht=>h t (.inr ht)]
 | ke c7 x lo hi =>
  simp only[HS,List.mem_append]at h;have hx:EP T x=EP T' x:=DM λ t ht=>h t (.inl (.inl ht))
  have sj : ∀ y,lo=some y->EP T y=EP T' y:=λ y hy=>Ae3 (λ t ht=>h t (.inl (.inr ht))) hy
  have Ln : ∀ y,hi=some y->EP T y=EP T' y:=λ y hy=>Ae3 (λ t ht=>h t (.inr ht)) hy
  simp only[m6,hx];cases lo with
  | none=>cases hi with
   | none=>rfl
   | some y=>simp only[Ln y rfl]
  | some z=>cases hi with
   | none=>simp only[sj z rfl]
   | some y=>simp only[sj z rfl,Ln y rfl]
 | ff=>rfl
 | alloc=>rfl
 | c6 x=>simp only[m6];rw[DM (x:=x) h]
 | un f x=>simp only[m6];rw[DM (x:=x) h]
 | conv k x=>simp only[m6];rw[DM (x:=x) h]
 | box s x=>simp only[m6];rw[DM (x:=x) h]
 | a7 x off=>simp only[m6];rw[DM (x:=x) h]
 | ry x off n agg=>simp only[m6];rw[DM (x:=x) h]
 | ld agg n x=>simp only[m6];rw[DM (x:=x) h]
 | ext x i=>simp only[m6];rw[DM (x:=x) h]
 | len x=>simp only[m6];rw[DM (x:=x) h]
 | pick c x y =>
  simp only[HS,List.mem_append]at h;simp only[m6];rw[DM (x:=c) λ t ht=>h t (.inl (.inl ht)),DM (x:=x) λ t ht=>h t (.inl (.inr ht)),DM (x:=y) λ t ht=>h t (.inr ht)]
 | bin f x y =>
  simp only[HS,List.mem_append]at h;simp only[m6];rw[DM (x:=x) λ t ht=>h t (.inl ht),DM (x:=y) λ t ht=>h t (.inr ht)]
 | wk ne n x y =>
  simp only[HS,List.mem_append]at h;simp only[m6];rw[DM (x:=x) λ t ht=>h t (.inl ht),DM (x:=y) λ t ht=>h t (.inr ht)]
 | beq ne x y =>
  simp only[HS,List.mem_append]at h;simp only[m6];rw[DM (x:=x) λ t ht=>h t (.inl ht),DM (x:=y) λ t ht=>h t (.inr ht)]
 | b9 arr c7 x i =>
  simp only[HS,List.mem_append]at h;simp only[m6];rw[DM (x:=x) λ t ht=>h t (.inl ht),DM (x:=i) λ t ht=>h t (.inr ht)]
 | st n x v =>
  simp only[HS,List.mem_append]at h;simp only[m6];rw[DM (x:=x) λ t ht=>h t (.inl ht),DM (x:=v) λ t ht=>h t (.inr ht)]
 | mk s c7 bytes z l c =>
  simp only[HS,List.mem_append]at h;simp only[m6];rw[DM (x:=l) λ t ht=>h t (.inl ht),DM (x:=c) λ t ht=>h t (.inr ht)]
 | app s c7 bytes x y =>
  simp only[HS,List.mem_append]at h;simp only[m6];rw[DM (x:=x) λ t ht=>h t (.inl ht),DM (x:=y) λ t ht=>h t (.inr ht)]
theorem Ad3 (o:AH) (l:List Nat) (s:Nat):o.z0 l s=if s∈l then ⟨0,λ_=>none⟩ else o s:=by
 induction l with
 | nil=>simp [AH.z0]
 | cons x r ih =>
  simp only[AH.z0,List.mem_cons];by_cases h:s=x
  ·simp [h]
  ·rw[if_neg h,ih]
   simp [h]
theorem Anm {o o':AH} {l:List Nat} (h : ∀ s,s ∉ l->o s=o' s):o.z0 l=o'.z0 l:=by
 funext s
 rw[Ad3,Ad3];split
 ·rfl
 ·rename_i hs;exact h s hs
end
section
variable {ops:Array Oper}
def inner (acc:Array Nat) (o:Oper):Nat:=o.after.foldl (λ s e=>if Region.binds .any e then s ||| 2^e.on ||| acc.getD e.on 0 else s) 0
theorem Anp (acc:Array Nat) (o:Oper) (j:Nat) (h:(inner acc o).testBit j=true) : ∃ e∈o.after,Region.binds .any e=true/\(e.on=j\/(acc.getD e.on 0).testBit j=true):=by
 unfold inner at h;rw[<-Array.foldl_toList]at h;have key : ∀ (l:List Edge) (s:Nat),(l.foldl (λ s e=>if Region.binds .any e then s ||| 2^e.on ||| acc.getD e.on 0 else s) s).testBit j=true->s.testBit j=true \/ ∃ e∈l,Region.binds .any e=true/\(e.on=j\/(acc.getD e.on 0).testBit j=true):=by
  intro l;induction l with
  | nil=>intro s hs;exact .inl hs
  | cons e r ih =>
   intro s hs;simp only[List.foldl_cons]at hs;rcases ih _ hs with h1|⟨e',kt,h2⟩
   ·by_cases hb:Region.binds .any e=true
    ·simp only[hb,if_true,Nat.testBit_or,Bool.or_eq_true,Nat.testBit_two_pow,decide_eq_true_eq]at h1
     rcases h1 with (h1|h1)|h1
     ·exact .inl h1
     ·exact .inr ⟨e,by simp,hb,.inl h1⟩
     ·exact .inr ⟨e,by simp,hb,.inr h1⟩
    ·simp only[hb,Bool.false_eq_true,if_false]at h1
     exact .inl h1
   ·exact .inr ⟨e',by simp [kt],h2⟩
 rcases key _ _ h with h|⟨e,he,h⟩
 ·simp at h
 ·exact ⟨e,by simpa using he,h⟩
theorem AiK (i j:Nat) (h:((Region.before ops).getD i 0).testBit j=true) : ∃ o,ops[i]? = some o /\ ∃ e∈o.after,Region.binds .any e=true/\(e.on=j\/(e.on<i/\((Region.before ops).getD e.on 0).testBit j=true)):=by
 have key : ∀ (rest:List Oper) (done:List Oper) (acc:Array Nat),acc.size=done.length ->
   (∀ i j,(acc.getD i 0).testBit j=true -> ∃ o,done[i]? = some o /\ ∃ e∈o.after,Region.binds .any e=true/\(e.on=j\/(e.on<i/\(acc.getD e.on 0).testBit j=true))) ->
   ∀ i j,((rest.foldl (λ acc o=>acc.push (inner acc o)) acc).getD i 0).testBit j=true -> ∃ o,(done++rest)[i]? = some o /\ ∃ e∈o.after,Region.binds .any e=true/\(e.on=j\/(e.on<i/\((rest.foldl (λ acc o=>acc.push (inner acc o)) acc).getD e.on 0).testBit j=true)):=by
  intro rest;induction rest with
  | nil=>intro done acc hs hinv i j hj;simpa using hinv i j hj
  | cons o r ih =>
   intro done acc hs hinv i j hj;simp only[List.foldl_cons]at hj ⊢;have:=ih (done++[o]) (acc.push (inner acc o)) (by simp [hs]) (λ i j iw => ?_) i j hj
   ·simpa using this
   ·have ak : ∀ k,k<acc.size->(acc.push (inner acc o)).getD k 0=acc.getD k 0:=λ k hk=>by
     simp [Array.getD,hk,Nat.lt_succ_of_lt hk,Array.getElem_push_lt hk]
    by_cases hi:i<acc.size
    ·rw[ak i hi]at iw
     obtain ⟨o',Br,e,he,hb,fx⟩:=hinv i j iw;refine ⟨o',by rw[List.getElem?_append_left (by omega)];exact Br,e,he,hb,fx.imp id λ⟨h1,h2⟩=>⟨h1,by rw[ak e.on (by omega)];exact h2⟩⟩
    ·have Rr:i=acc.size:=by
      rcases Nat.lt_or_ge i (acc.push (inner acc o)).size with h1|h1
      ·simp at h1;omega
      ·have:(acc.push (inner acc o)).getD i 0=0:=by simp [Array.getD];intro h2;simp at h1;omega
       rw[this]at iw;simp at iw
     subst Rr;have pn:(acc.push (inner acc o)).getD acc.size 0=inner acc o:=by simp [Array.getD]
     rw[pn]at iw;obtain ⟨e,he,hb,fx⟩:=Anp acc o j iw;refine ⟨o,by rw[hs];simp,e,he,hb,fx.imp id λ h2 => ?_⟩;have v9:e.on<acc.size:=by
      rcases Nat.lt_or_ge e.on acc.size with h3|h3
      ·exact h3
      ·have:acc.getD e.on 0=0:=by simp [Array.getD];omega
       rw[this]at h2;simp at h2
     exact ⟨v9,by rw[ak e.on v9];exact h2⟩
 have hb:Region.before ops=ops.toList.foldl (λ acc o=>acc.push (inner acc o)) #[]:=by
  unfold Region.before;rw[<-Array.foldl_toList];rfl
 rw[hb]at h ⊢;have:=key ops.toList [] #[] rfl (λ i j iw=>by simp at iw) i j h
 simpa using this
def iZ (ops:Array Oper) (X:Nat->Bool):Prop := ∀ j o,X j=true->ops[j]? = some o -> ∀ e∈o.after,Region.binds .any e=true->X e.on=true
theorem anc {X:Nat->Bool} (hX:iZ ops X) : ∀ (i:Nat),(∀ o,ops[i]? = some o -> ∀ e∈o.after,Region.binds .any e=true->X e.on=true) -> ∀ j,((Region.before ops).getD i 0).testBit j=true->X j=true:=by
 intro i;induction i using Nat.strongRecOn with
 | ind i ih =>
  intro hi j hj;obtain ⟨o,ho,e,he,hb,fx⟩:=AiK i j hj;have hx:=hi o ho e he hb;rcases fx with h|⟨v9,h⟩
  ·rw[<-h];exact hx
  ·exact ih e.on v9 (λ o' Br e' kt s9=>hX e.on o' hx Br e' kt s9) j h
theorem AoW {X:Nat->Bool} (hX:iZ ops X) {i j:Nat} (hi : ∀ o,ops[i]? = some o -> ∀ e∈o.after,Region.binds .any e=true->X e.on=true) (v9:j<i) (h:J8 (Region.before ops) i j=true):X j=true:=by
 unfold J8 at h;rw[Nat.max_eq_left (by omega),Nat.min_eq_right (by omega)]at h;exact anc hX i hi j h
theorem Ae5 {X:Nat->Bool} (hX:iZ ops X) {i j:Nat} (hj:X j=true) (v9:i<j) (h:J8 (Region.before ops) i j=true):X i=true:=by
 unfold J8 at h;rw[Nat.max_eq_right (by omega),Nat.min_eq_left (by omega)]at h;exact anc hX j (λ o ho e he hb=>hX j o hj ho e he hb) i h
end
section
variable {C:Cl}
abbrev D:=(Nat->AV) × AH
structure D9 where
 d:Option Nat
 g:Bool
 E:CG
 v:AV
def D9.own (r:D9) (o:AH):AH:=if r.g then r.E.ea o else o
def D9.act (r:D9) (x:D):D:=(OX x.1 r.d r.v,r.own x.2)
structure jA (C:Cl) (x:AI) (r:D9) (s s':St):Prop where
 d:r.d=x.dst
 g:XR (m8 s.tm) x.guard=some r.g
 E:r.g=true->m6 C x.g9 (EP (m8 s.tm)) s.own x.op=some r.E
 v:r.v=(if r.g then r.E.valOf s.own else .m9 [])
 act:(m8 s'.tm,s'.own)=r.act (m8 s.tm,s.own)
theorem trace : ∀ {l:List AI} {st o7:St},DE C l st=some o7 -> ∃ (σ:Nat->St) (rs:List D9),σ 0=st/\σ l.length=o7/\rs.length=l.length /\ ∀ (k:Nat) (x:AI) (r:D9),l[k]? = some x->rs[k]? = some r->jA C x r (σ k) (σ (k+1))
 | [],st,o7,h=>by
  simp only[DE,Option.some.injEq]at h;subst h;exact ⟨λ_=>st,[],rfl,rfl,rfl,λ k x r hx=>by simp at hx⟩
 | o::q,st,o7,h=>by
  simp only[DE]at h;cases hs:C9 C o st with
  | none=>simp [hs]at h
  | some BA =>
   simp only[hs]at h;obtain ⟨σ,rs,h0,h1,hl,h2⟩:=trace h;obtain ⟨g,E,e1,e2,e3,e4⟩:=Af9 hs;refine ⟨λ k=>match k with|0=>st|k+1=>σ k,⟨o.dst,g,E,if g then E.valOf st.own else .m9 []⟩::rs,rfl,h1,by simp [hl],λ k x r hx hr => ?_⟩;cases k with
   | zero =>
    simp at hx hr;subst hx hr;refine ⟨rfl,e1,e2,rfl,?_⟩;show (m8 (σ 0).tm,(σ 0).own)=_;rw[h0,e3,e4];rfl
   | succ k=>exact h2 k x r (by simpa using hx) (by simpa using hr)
def D4 (X:Nat->Bool):List D9->Nat->D->D
 | [],_,x=>x
 | r::rs,k,x=>D4 X rs (k+1) (if X k then r.act x else x)
theorem xS (X:Nat->Bool) : ∀ (l l':List D9) (k:Nat) (x:D),D4 X (l++l') k x=D4 X l' (k+l.length) (D4 X l k x)
 | [],l',k,x=>by simp [D4]
 | r::rs,l',k,x=>by
  simp only[List.cons_append,D4,List.length_cons];rw[xS X rs l' (k+1)];congr 1;omega
theorem Adv {X Y:Nat->Bool} {t:Nat} : ∀ (l:List D9) (k:Nat) (x y:D),x.1 t=y.1 t->(∀ i r,l[i]? = some r->r.d=some t->X (k+i)=Y (k+i))->(D4 X l k x).1 t=(D4 Y l k y).1 t
 | [],k,x,y,h,_=>h
 | r::rs,k,x,y,h,yl=>by
  simp only[D4];refine Adv rs (k+1) _ _ ?_ λ i r' hr hd=>by
   have:=yl (i+1) r' (by simpa using hr) hd
   rw[show k+1+i=k+(i+1) by omega];exact this
  by_cases hd:r.d=some t
  ·have hx:X k=Y k:=by simpa using yl 0 r rfl hd
   rw[hx];cases Y k
   ·simpa using h
   ·simp [D9.act,OX,hd]
  ·have e1 : ∀ z:D,(r.act z).1 t=z.1 t:=λ z=>by simp [D9.act,OX,hd]
   cases X k<;>cases Y k<;>simp [e1,h]
theorem Ao1 (E:CG) (s:Nat) (o o':AH) (h:o s=o' s):E.ea o s=E.ea o' s:=by
 cases E with
 | val v=>exact h
 | new s' b v =>
  simp only[CG.ea,AH.put];by_cases hs:s=s'
  ·subst hs;simp [h]
  ·simp [hs,h]
 | Cm s' b v =>
  simp only[CG.ea,AH.put];by_cases hs:s=s'
  ·subst hs;simp [h]
  ·simp [hs,h]
 | jc v o2=>rfl
 | Aw s' x v =>
  simp only[CG.ea,AH.put];by_cases hs:s=s'
  ·simp [hs]
  ·simp [hs,h]
 | bg s' x =>
  simp only[CG.ea,AH.put];by_cases hs:s=s'
  ·simp [hs]
  ·simp [hs,h]
theorem Adu {X Y:Nat->Bool} {s:Nat} : ∀ (l:List D9) (k:Nat) (x y:D),x.2 s=y.2 s->(∀ i r,l[i]? = some r->X (k+i)=Y (k+i) \/ ∀ o,r.own o s=o s)->(D4 X l k x).2 s=(D4 Y l k y).2 s
 | [],k,x,y,h,_=>h
 | r::rs,k,x,y,h,yl=>by
  simp only[D4];refine Adu rs (k+1) _ _ ?_ λ i r' hr=>by
   have:=yl (i+1) r' (by simpa using hr)
   rw[show k+1+i=k+(i+1) by omega];exact this
  rcases yl 0 r rfl with hx|hx
  ·simp only[Nat.add_zero]at hx
   rw[hx];cases Y k
   ·simpa using h
   ·simp only[if_true,D9.act,D9.own]
    cases r.g
    ·simpa using h
    ·simpa using Ao1 r.E s _ _ h
  ·have e1 : ∀ z:D,(r.act z).2 s=z.2 s:=λ z=>hx z.2
   cases X k<;>cases Y k<;>simp [e1,h]
theorem xT {X:Nat->Bool} (q:D9) : ∀ (l:List D9) (k:Nat) (x:D),(∀ i r,l[i]? = some r->X (k+i)=true -> ∀ z,r.act (q.act z)=q.act (r.act z))->D4 X l k (q.act x)=q.act (D4 X l k x)
 | [],k,x,_=>rfl
 | r::rs,k,x,h=>by
  simp only[D4];have je : ∀ i r',rs[i]? = some r'->X (k+1+i)=true -> ∀ z,r'.act (q.act z)=q.act (r'.act z):=λ i r' hr hX=>h (i+1) r' (by simpa using hr) (by rw[show k+(i+1)=k+1+i by omega];exact hX)
  cases hk:X k
  ·simp only[Bool.false_eq_true,if_false]
   exact xT q rs (k+1) x je
  ·simp only[if_true]
   rw[h 0 r rfl (by simpa using hk)];exact xT q rs (k+1) _ je
theorem rH {X Y:Nat->Bool} : ∀ (l:List D9) (k:Nat) (x:D),(∀ i,i<l.length->X (k+i)=Y (k+i))->D4 X l k x=D4 Y l k x
 | [],_,_,_=>rfl
 | r::rs,k,x,h=>by
  simp only[D4];rw[show X k=Y k by simpa using h 0 (by simp)];exact rH rs (k+1) _ λ i hi=>by
   have:=h (i+1) (by simpa using hi)
   rw[show k+1+i=k+(i+1) by omega];exact this
theorem Adt {X X':Nat->Bool} {l:List D9} {i:Nat} {q:D9} (hq:l[i]? = some q) (qe:X i=false) (Ai : ∀ j,X' j=(decide (j=i)||X j)) (x:D) (Ig : ∀ j r,l[j]? = some r->i<j->X j=true -> ∀ z,r.act (q.act z)=q.act (r.act z)) :
  D4 X' l 0 x=q.act (D4 X l 0 x):=by
 have eb:i<l.length:=(zS hq).1;have hli:l=l.take i++(q::l.drop (i+1)):=by
  have:l.drop i=q::l.drop (i+1):=by
   rw[List.drop_eq_getElem_cons eb];congr 1;have:=(zS hq).2
   exact this
  rw[<-this,List.take_append_drop]
 have fm:(l.take i).length=i:=by simp;omega
 rw[hli,xS,xS,fm,Nat.zero_add];simp only[D4,qe,Bool.false_eq_true,if_false];rw[show X' i=true by rw[Ai];simp];simp only[if_true];rw[rH (X:=X') (Y:=X) (l.take i) 0 x (λ j hj=>by rw[Ai];simp;omega)];rw[rH (X:=X') (Y:=X) (l.drop (i+1)) (i+1) _ (λ j hj=>by rw[Ai];simp;omega)];refine xT q _ _ _ λ j r hr Qk => ?_
 rw[List.getElem?_drop]at hr;exact Ig (i+1+j) r hr (by omega) Qk
end
end Go.e9
namespace Go.e9
open Go.RowKit
section
variable {C:Cl} {g9:List Nat} {ρ:AP->AV}
theorem Ald {op:D8} (o o':AH) (ht:G7 op=false) (hr:nW op=true->o.z0 g9=o'.z0 g9) (o9 : ∀ s,EV op=some s->o s=o' s):m6 C g9 ρ o op=m6 C g9 ρ o' op:=by
 cases op with
 | rm s n x v =>
  have h1:=o9 s rfl;have h2 : ∀ t i j vs,(o.pz s t i j vs).map (λ q=>CG.bg s (q s))=(o'.pz s t i j vs).map (λ q=>CG.bg s (q s)):=λ t i j vs=>by
   have hg:o.get s t=o'.get s t:=by unfold AH.get;rw[h1]
   unfold AH.pz;rw[hg];cases o'.get s t with
   | none=>rfl
   | some b =>
    simp only;cases b.es[i]? with
    | none=>rfl
    | some cs =>
     simp only;split
     ·simp only[Option.map_some,AH.o4,h1]
     ·rfl
  simp only[m6,h2]
 | ld agg n x=>have:=hr rfl;simp only[m6,this]
 | call f xs=>have:=hr rfl;simp only[m6,this]
 | bm s f xs=>have:=hr rfl;simp only[m6,this]
 | gj s f xs=>have h1:=o9 s rfl;simp only[m6,h1]
 | st=>simp [G7]at ht
 | app=>simp [G7]at ht
 | m7=>simp [G7]at ht
 | y7=>simp [G7]at ht
 | _=>rfl
theorem Yn {op:D8} {o:AH} {E:CG} (h:m6 C g9 ρ o op=some E) {s:Nat} (hs:EV op=some s):(∃ b v,E = .new s b v\/E = .Cm s b v) \/ ∃ x v,E = .bg s x\/E = .Aw s x v:=by
 cases op with
 | rm s' n x v =>
  simp only[EV,Option.some.injEq]at hs;subst hs;simp only[m6]at h;split at h
  ·split at h
   ·simp only[Option.map_eq_some_iff]at h
    obtain ⟨q,_,rfl⟩:=h;exact .inr ⟨_,.any,.inl rfl⟩
   ·cases h
  ·cases h
 | bm s' f xs =>
  simp only[EV,Option.some.injEq]at hs;subst hs;simp only[m6]at h;split at h
  ·simp only[Option.map_eq_some_iff]at h
   obtain ⟨r,_,rfl⟩:=h;exact .inl ⟨_,_,.inl rfl⟩
  ·cases h
 | ru s' c7 bytes x y =>
  simp only[EV,Option.some.injEq]at hs;subst hs;simp only[m6]at h;split at h
  ·split at h
   ·simp only[Option.some.injEq]at h;exact .inl ⟨_,_,.inl h.symm⟩
   ·cases h
  ·cases h
 | gj s' f xs =>
  simp only[EV,Option.some.injEq]at hs;subst hs;simp only[m6,Option.map_eq_some_iff]at h;obtain ⟨p,_,rfl⟩:=h;exact .inr ⟨_,_,.inr rfl⟩
 | ff s' z =>
  simp only[EV,Option.some.injEq]at hs;subst hs;simp only[m6,Option.some.injEq]at h;exact .inl ⟨_,_,.inr h.symm⟩
 | box s' x =>
  simp only[EV,Option.some.injEq]at hs;subst hs;simp only[m6]at h;split at h
  ·simp only[Option.some.injEq]at h;exact .inl ⟨_,_,.inl h.symm⟩
  ·cases h
 | alloc s' z =>
  simp only[EV,Option.some.injEq]at hs;subst hs;simp only[m6,Option.some.injEq]at h;exact .inl ⟨_,_,.inl h.symm⟩
 | m4 s' c7 ps =>
  simp only[EV,Option.some.injEq]at hs;subst hs;simp only[m6]at h;split at h
  ·split at h
   ·simp only[Option.some.injEq]at h;exact .inl ⟨_,_,.inl h.symm⟩
   ·cases h
  ·cases h
 | mk s' c7 bytes z l c =>
  simp only[EV,Option.some.injEq]at hs;subst hs;simp only[m6]at h;split at h
  ·split at h
   ·simp only[Option.some.injEq]at h;exact .inl ⟨_,_,.inl h.symm⟩
   ·cases h
  ·cases h
 | _=>simp [EV]at hs
theorem zB {α:Type} {x:Option α} {f:α->AV} {E:CG} (h:x.map (λ y=>CG.val (f y))=some E) : ∃ v,E = .val v:=by
 cases x with
 | none=>cases h
 | some y=>simp only[Option.map_some,Option.some.injEq]at h;exact ⟨_,h.symm⟩
theorem Yo {op:D8} {o:AH} {E:CG} (h:m6 C g9 ρ o op=some E) (ht:G7 op=false) (hs:EV op=none) : ∃ v,E = .val v:=by
 cases op<;>first|(simp [G7]at ht;done)|(simp [EV]at hs;done)|skip
 all_goals simp only[m6]at h
 all_goals
  first
   | (simp only[Option.some.injEq]at h;exact ⟨_,h.symm⟩)
   | exact zB (f:=id) h
   | skip
 all_goals (repeat' split at h)
 all_goals
  first
   | (cases h;done)
   | (simp only[Option.some.injEq]at h;exact ⟨_,h.symm⟩)
   | exact zB (f:=id) h
   | exact zB (f:=AV.agg) h
   | (simp only[Option.map_eq_some_iff]at h;obtain ⟨cs,_,rfl⟩:=h;exact ⟨_,rfl⟩)
theorem iK {x:AI} {r:D9} {s s':St} (h:jA C x r s s') (ht:G7 x.op=false) (hs:EV x.op=none) (o:AH):r.own o=o:=by
 unfold D9.own;cases hg:r.g with
 | false=>rfl
 | true =>
  obtain ⟨v,hv⟩:=Yo (h.E hg) ht hs;simp [hv,CG.ea]
theorem Nz {x:AI} {r:D9} {s s':St} (h:jA C x r s s') {q:Nat} (hs:EV x.op=some q):(∀ o,r.own o=o) \/ ∃ F:CH->CH,∀ o:AH,r.own o=o.put q (F (o q)):=by
 unfold D9.own;cases hg:r.g with
 | false=>exact .inl λ_=>rfl
 | true =>
  rcases Yn (h.E hg) hs with ⟨b,v,hv|hv⟩|⟨x,v,hv|hv⟩
  ·exact .inr ⟨λ q=>q.new b,λ o=>by simp [hv,CG.ea]⟩
  ·exact .inr ⟨λ q=>q.new b,λ o=>by simp [hv,CG.ea]⟩
  ·exact .inr ⟨λ_=>x,λ o=>by simp [hv,CG.ea]⟩
  ·exact .inr ⟨λ_=>x,λ o=>by simp [hv,CG.ea]⟩
theorem Afk {x:AI} {r:D9} {s s':St} (h:jA C x r s s') {q:Nat} (hs:EV x.op=some q) {p:Nat} (hp:p≠q) (o:AH):r.own o p=o p:=by
 rcases Nz h hs with h1|⟨b,h1⟩
 ·rw[h1]
 ·rw[h1];simp [AH.put,hp]
theorem Ae4 (b:Array Nat) (i j:Nat):J8 b i j=J8 b j i:=by unfold J8;rw[Nat.max_comm,Nat.min_comm]
theorem gN {ops:Array Oper} {l:List AI} (h:gL ops l=true) {i j:Nat} {x y:AI} (hx:l[i]? = some x) (hy:l[j]? = some y) (u7:i≠j) :
  (J8 (Region.before ops) i j=true\/((∀ t,y.dst=some t->t ∉ kB x)/\(G7 x.op=false\/WM y.op=false)/\(nW x.op=true -> ∀ s,EV y.op=some s->s∈x.g9))) /\
  (J8 (Region.before ops) i j=true \/ ∀ s s',EV x.op=some s->EV y.op=some s'->s≠s'):=by
 simp only[gL,Bool.and_eq_true]at h;have h1:=h.1.1;rw[List.all_eq_true]at h1;have hxm:(x,i)∈l.zipIdx:=List.mem_zipIdx_iff_getElem?.2 hx;have hym:(y,j)∈l.zipIdx:=List.mem_zipIdx_iff_getElem?.2 hy;have h2:=h1 (x,i) hxm;simp only at h2;rw[List.all_eq_true]at h2;have h3:=h2 (y,j) hym;simp only[Bool.and_eq_true,Bool.or_eq_true,beq_iff_eq,u7,false_or]at h3;obtain ⟨h4,h5⟩:=h3;refine ⟨?_,h5.imp id λ h5 s s' hs ud => ?_⟩
 ·unfold Ae8 at h4
  simp only[Bool.or_eq_true,beq_iff_eq,u7,false_or]at h4;refine h4.imp id λ h6 => ?_
  simp only[Bool.and_eq_true,Bool.or_eq_true,Bool.not_eq_true']at h6;obtain ⟨⟨h7,h8⟩,h9⟩:=h6;refine ⟨λ t ht => ?_,h8,λ hr s hs => ?_⟩
  ·rw[ht]at h7
   simpa using h7
  ·rw[hr,hs]at h9
   simpa using h9
 ·rw[hs,ud]at h5
  simpa using h5
structure oT (C:Cl) (ops:Array Oper) (l:List AI) (σ:Nat->St) (rs:List D9):Prop where
 ok:gL ops l=true
 len:rs.length=l.length
 fits : ∀ (k:Nat) (x:AI) (r:D9),l[k]? = some x->rs[k]? = some r->jA C x r (σ k) (σ (k+1))
variable {ops:Array Oper} {l:List AI} {σ:Nat->St} {rs:List D9}
theorem xU {X:Nat->Bool} : ∀ (l:List D9) (k:Nat) (x:D),(∀ i,i<l.length->X (k+i)=false)->D4 X l k x=x
 | [],_,_,_=>rfl
 | r::q,k,x,h=>by
  simp only[D4];rw[show X k=false by simpa using h 0 (by simp)];exact xU q (k+1) _ λ i hi=>by
   have:=h (i+1) (by simpa using hi)
   rw[show k+1+i=k+(i+1) by omega];exact this
def d0 (σ:Nat->St):D:=(m8 (σ 0).tm,(σ 0).own)
theorem wH (h:oT C ops l σ rs) : ∀ k,k<=l.length->D4 (λ j=>decide (j<k)) rs 0 (d0 σ)=(m8 (σ k).tm,(σ k).own)
 | 0,_=>xU rs 0 _ λ i _=>by simp
 | k+1,hk=>by
  have Al:k<l.length:=by omega
  have hkr:k<rs.length:=by rw[h.len];exact Al
  have hr:rs[k]? = some rs[k]:=zE hkr;have hf:=h.fits k l[k] rs[k] (zE Al) hr;rw[Adt (X:=λ j=>decide (j<k)) (X':=λ j=>decide (j<k+1)) hr (by simp) (λ j=>by
   by_cases h1:j=k
   ·simp [h1]
   ·simp [h1];omega) _ (λ j r' _ v9 hX=>by simp at hX;omega),wH h k (by omega)]
  exact hf.act.symm
section
variable {X:Nat->Bool} {i:Nat} {x:AI} {r:D9}
theorem Ae6 (hX:iZ ops X) (qe:X i=false) (jn : ∀ o,ops[i]? = some o -> ∀ e∈o.after,Region.binds .any e=true->X e.on=true) {j:Nat} (u7:i≠j) (ho:J8 (Region.before ops) i j=true):X j=decide (j<i):=by
 rcases Nat.lt_or_gt_of_ne u7 with v9|wv
 ·have:X j=false:=by
   cases hj:X j with
   | false=>rfl
   | true=>have:=Ae5 hX hj v9 ho;rw[qe]at this;cases this
  rw[this];simp;omega
 ·rw[AoW hX jn wv ho];simp;omega
theorem Ak3 (h:oT C ops l σ rs) (hx:l[i]? = some x) (hr:rs[i]? = some r) (hX:iZ ops X) (qe:X i=false) (jn : ∀ o,ops[i]? = some o -> ∀ e∈o.after,Region.binds .any e=true->X e.on=true) :
  XR (D4 X rs 0 (d0 σ)).1 x.guard=some r.g/\(r.g=true->m6 C x.g9 (EP (D4 X rs 0 (d0 σ)).1) (D4 X rs 0 (d0 σ)).2 x.op=some r.E) /\
  (if r.g then r.E.valOf (D4 X rs 0 (d0 σ)).2 else .m9 [])=r.v /\
  ∀ X':Nat->Bool,(∀ j,X' j=(decide (j=i)||X j))->D4 X' rs 0 (d0 σ)=r.act (D4 X rs 0 (d0 σ)):=by
 have eb:i<l.length:=(zS hx).1;have hf:=h.fits i x r hx hr;have Dl:=wH h i (by omega);generalize hT:D4 X rs 0 (d0 σ)=TX;have ji : ∀ (j:Nat) (r':D9),rs[j]? = some r' -> ∃ y,l[j]? = some y/\jA C y r' (σ j) (σ (j+1)):=λ j r' hj=>by
  have iq:j<l.length:=by rw[<-h.len];exact (zS hj).1
  exact ⟨l[j],zE iq,h.fits j _ _ (zE iq) hj⟩
 have Di : ∀ t∈kB x,TX.1 t=m8 (σ i).tm t:=λ t ht=>by
  have:=Adv (X:=X) (Y:=λ j=>decide (j<i)) (t:=t) rs 0 (d0 σ) (d0 σ) rfl (λ j r' hj hd=>by
   simp only[Nat.zero_add];by_cases u7:i=j
   ·subst u7;simp [qe]
   ·obtain ⟨y,hy,lv⟩:=ji j r' hj
    rcases (gN h.ok hx hy u7).1 with ho|⟨h1,_⟩
    ·exact Ae6 hX qe jn u7 ho
    ·exact absurd ht (h1 t (by rw[<-lv.d];exact hd)))
  rw[hT,Dl]at this;exact this
 have Ke : ∀ t∈HS x.op,TX.1 t=m8 (σ i).tm t:=λ t ht=>Di t (by simp [kB,ht])
 have ka : ∀ s,(∀ (j:Nat) (y:AI) (r':D9),i≠j->l[j]? = some y->rs[j]? = some r'->J8 (Region.before ops) i j=true \/ ∀ o,r'.own o s=o s)->TX.2 s=(σ i).own s:=λ s hs=>by
  have:=Adu (X:=X) (Y:=λ j=>decide (j<i)) (s:=s) rs 0 (d0 σ) (d0 σ) rfl (λ j r' hj=>by
   simp only[Nat.zero_add];by_cases u7:i=j
   ·subst u7;left;simp [qe]
   ·obtain ⟨y,hy,lv⟩:=ji j r' hj
    rcases hs j y r' u7 hy hj with ho|ho
    ·exact .inl (Ae6 hX qe jn u7 ho)
    ·exact .inr ho)
  rw[hT,Dl]at this;exact this
 have qz : ∀ (j:Nat) (y:AI) (r':D9),l[j]? = some y->rs[j]? = some r'->WM y.op=false -> ∀ o,r'.own o=o:=λ j y r' hy hj hm o=>by
  simp only[WM,Bool.or_eq_false_iff]at hm;exact iK (h.fits j y r' hy hj) hm.1.1 (by simpa using hm.2) o
 have Ju : ∀ (j:Nat) (y:AI),i≠j->l[j]? = some y->G7 y.op=true->WM x.op=true->J8 (Region.before ops) i j=true:=λ j y u7 hy ht nv=>by
  rcases (gN h.ok hy hx (Ne.symm u7)).1 with ho|⟨_,h2,_⟩
  ·rw[Ae4];exact ho
  ·rw[ht,nv]at h2;simp at h2
 have hg:XR TX.1 x.guard=some r.g:=by
  rw[<-hf.g];cases Gn:x.guard with
  | none=>rfl
  | some gw =>
   obtain ⟨g,w⟩:=gw;simp only[XR];rw[Di g (by simp [kB,Gn])]
 have Dm:G7 x.op=true->TX.2=(σ i).own:=λ ht=>by
  funext s
  refine ka s λ j y r' u7 hy hj => ?_
  cases hm:WM y.op with
  | false=>exact .inr λ o=>by rw[qz j y r' hy hj hm o]
  | true =>
   rcases (gN h.ok hx hy u7).1 with ho|⟨_,h2,_⟩
   ·exact .inl ho
   ·rw[ht,hm]at h2;simp at h2
 have Js:nW x.op=true->TX.2.z0 x.g9=(σ i).own.z0 x.g9:=λ qg=>by
  refine Anm λ s hs=>ka s λ j y r' u7 hy hj => ?_
  have nv:WM x.op=true:=by simp [WM,qg]
  cases ht:G7 y.op with
  | true=>exact .inl (Ju j y u7 hy ht nv)
  | false =>
   cases nx:EV y.op with
   | none=>exact .inr λ o=>by rw[iK (h.fits j y r' hy hj) ht nx o]
   | some q =>
    rcases (gN h.ok hx hy u7).1 with ho|⟨_,_,h3⟩
    ·exact .inl ho
    ·exact .inr λ o=>Afk (h.fits j y r' hy hj) nx (p:=s) (λ e=>hs (by rw[e];exact h3 qg q nx)) o
 have Df : ∀ s,EV x.op=some s->TX.2 s=(σ i).own s:=λ s zq=>by
  have nv:WM x.op=true:=by simp [WM,zq]
  exact ka s λ j y r' u7 hy hj=>by
   cases ht:G7 y.op with
   | true=>exact .inl (Ju j y u7 hy ht nv)
   | false =>
    cases nx:EV y.op with
    | none=>exact .inr λ o=>by rw[iK (h.fits j y r' hy hj) ht nx o]
    | some q =>
     rcases (gN h.ok hx hy u7).2 with ho|Cb
     ·exact .inl ho
     ·exact .inr λ o=>Afk (h.fits j y r' hy hj) nx (Cb s q zq nx) o
 have Ri:r.g=true->m6 C x.g9 (EP TX.1) TX.2 x.op=some r.E:=λ js=>by
  rw[Ala Ke,<-hf.E js];cases ht:G7 x.op with
  | true=>rw[Dm ht]
  | false=>exact Ald _ _ ht Js Df
 have hval:(if r.g then r.E.valOf TX.2 else .m9 [])=r.v:=by
  rw[hf.v];cases hgv:r.g with
  | false=>rfl
  | true =>
   simp only[if_true];cases zq:EV x.op with
   | none =>
    cases ht:G7 x.op with
    | true=>rw[Dm ht]
    | false =>
     obtain ⟨v,hv⟩:=Yo (hf.E hgv) ht zq;rw[hv];rfl
   | some s =>
    have Cb:=Df s zq;rcases Yn (hf.E hgv) zq with ⟨b,v,hv|hv⟩|⟨x,v,hv|hv⟩<;>rw[hv]<;>simp only[CG.valOf,AH.n6,Cb]
 refine ⟨hg,Ri,hval,λ X' Ai => ?_⟩;rw[<-hT];refine Adt hr qe Ai _ λ j r' hj v9 Qk z => ?_
 obtain ⟨y,hy,lv⟩:=ji j r' hj;have u7:i≠j:=by omega
 have Dd : ¬ J8 (Region.before ops) i j=true:=λ ho=>by
  have:=Ae5 hX Qk v9 ho
  rw[qe]at this;cases this
 obtain ⟨Sg,Gt⟩:=gN h.ok hx hy u7;obtain ⟨Bv,Ap⟩:=gN h.ok hy hx (Ne.symm u7);have hp:=Sg.resolve_left Dd;have hq:=Bv.resolve_left (by rw[Ae4];exact Dd);unfold D9.act;refine Prod.ext ?_ ?_
 ·funext t
  simp only[OX];by_cases h1:r'.d=some t<;>by_cases h2:r.d=some t
  ·exact absurd (by rw[hf.d]at h2;simp [kB,h2]) (hp.1 t (by rw[<-lv.d];exact h1))
  ·simp [h1,h2]
  ·simp [h1,h2]
  ·simp [h1,h2]
 ·show r'.own (r.own z.2)=r.own (r'.own z.2)
  cases nv:WM x.op with
  | false=>rw[qz i x r hx hr nv,qz i x r hx hr nv]
  | true =>
   cases vp:WM y.op with
   | false=>rw[qz j y r' hy hj vp,qz j y r' hy hj vp]
   | true =>
    have htx:G7 x.op=false:=by
     rcases hp.2.1 with h1|h1
     ·exact h1
     ·rw[vp]at h1;cases h1
    have hty:G7 y.op=false:=by
     rcases hq.2.1 with h1|h1
     ·exact h1
     ·rw[nv]at h1;cases h1
    cases zq:EV x.op with
    | none=>rw[iK hf htx zq,iK hf htx zq]
    | some s =>
     cases nx:EV y.op with
     | none=>rw[iK lv hty nx,iK lv hty nx]
     | some s' =>
      have Cb:=(Gt.resolve_left Dd) s s' zq nx;rcases Nz hf zq with h1|⟨b,h1⟩
      ·rw[h1,h1]
      ·rcases Nz lv nx with h2|⟨b',h2⟩
       ·rw[h2,h2]
       ·rw[h1,h2,h2,h1]
        funext q
        simp only[AH.put];by_cases Sk:q=s<;>by_cases Fl:q=s'
        ·exact absurd (Sk.symm.trans Fl) Cb
        ·simp [Sk,Cb]
        ·simp [Fl,Ne.symm Cb]
        ·simp [Sk,Fl]
end
end
end Go.e9

namespace Go.e9
open Go.RowKit
section
variable {ops:Array Oper} {md:Region.Mode}
theorem AiN {e:Edge} (h:Region.binds .any e=true) (md:Region.Mode):Region.binds md e=true:=by
 unfold Region.binds at *;split at h<;>simp_all
theorem Aes (ops:Array Oper) (md:Region.Mode) : ∀ (fuel t:Nat) (g7:Array Bool),g7.size=ops.size -> ∀ (k i:Nat),(Region.linearise.go md ops fuel t g7 [])[k]? = some i ->
  ∃ o,ops[i]? = some o /\ ∀ e∈o.after,Region.binds md e=true->g7.getD e.on false=true\/e.on∈(Region.linearise.go md ops fuel t g7 []).take k
 | 0,t,g7,hs,k,i,h=>by simp [Region.linearise.go]at h
 | fuel+1,t,g7,hs,k,i,h=>by
  have vk:Region.linearise.go md ops (fuel+1) t g7 []=match (Region.ready md ops g7)[t%(Region.ready md ops g7).length]? with
   | some i=>i::Region.linearise.go md ops fuel (t/(Region.ready md ops g7).length) (g7.setIfInBounds i true) []
   | none=>[]:=by
   simp only[Region.linearise.go];change (match (Region.ready md ops g7)[t%(Region.ready md ops g7).length]? with
    | some i=>Region.linearise.go md ops fuel (t/(Region.ready md ops g7).length) (g7.setIfInBounds i true) [i]
    | none=>[].reverse)=_
   cases (Region.ready md ops g7)[t%(Region.ready md ops g7).length]? with
   | none=>rfl
   | some i=>simp only[];rw[linearise_go_acc];rfl
  rw[vk]at h ⊢;cases hr:(Region.ready md ops g7)[t%(Region.ready md ops g7).length]? with
  | none=>rw[hr]at h;simp at h
  | some q =>
   rw[hr]at h;simp only at h ⊢;obtain ⟨_,oq,hoq,hq⟩:=mem_ready.1 (zM hr);cases k with
   | zero =>
    simp at h;subst h;exact ⟨oq,hoq,λ e he hb => .inl (hq e he hb)⟩
   | succ k =>
    simp at h;obtain ⟨o,ho,hh⟩:=Aes ops md fuel _ _ (by simpa using hs) k i h;refine ⟨o,ho,λ e he hb => ?_⟩;rcases hh e he hb with h1|h1
    ·by_cases heq:e.on=q
     ·right;simp [heq]
     ·left
      rw[getD_set_ne false (Ne.symm heq)]at h1;exact h1
    ·right;simp [h1]
theorem xM {p:Nat->Bool} : ∀ (l:List Nat),(∃ i∈l,p i=false) -> ∃ k i,l[k]? = some i/\p i=false /\ ∀ j∈l.take k,p j=true
 | [],⟨i,hi,_⟩=>by simp at hi
 | x::r,⟨i,hi,hp⟩=>by
  cases hx:p x with
  | false=>exact ⟨0,x,rfl,hx,by simp⟩
  | true =>
   have : ∃ i∈r,p i=false:=by
    rcases List.mem_cons.1 hi with h|h
    ·subst h;rw[hx]at hp;cases hp
    ·exact ⟨i,h,hp⟩
   obtain ⟨k,j,h1,h2,h3⟩:=xM r this;refine ⟨k+1,j,by simpa using h1,h2,λ q hq => ?_⟩;simp only[List.take_succ_cons,List.mem_cons]at hq;rcases hq with h|h
   ·subst h;exact hx
   ·exact h3 q h
theorem progress {l:List AI} (hd:gL ops l=true) (Ja:md = .gc->Region.departs ops=true) {g7:Array Bool} (hs:g7.size=ops.size) (hr:Region.ready md ops g7=[]) : ∀ j,j<ops.size->g7.getD j false=true:=by
 intro j hj;cases iq:g7.getD j false with
 | true=>rfl
 | false =>
  exfalso;simp only[gL,Bool.and_eq_true]at hd;obtain ⟨⟨_,na⟩,yx⟩:=hd;have rl : ∀ i,i<ops.size->g7.getD i false=false -> ¬ ∀ o,ops[i]? = some o -> ∀ e∈o.after,Region.binds md e=true->g7.getD e.on false=true:=λ i hi hl qk=>by
   have:i∈Region.ready md ops g7:=mem_ready.2 ⟨by
    have:i<g7.size:=by omega
    simp [Array.getD,this]at hl ⊢;exact hl,ops[i],Array.getElem?_eq_getElem hi,λ e he hb=>qk ops[i] (Array.getElem?_eq_getElem hi) e he hb⟩
   rw[hr]at this;simp at this
  by_cases Iq:md = .gc
  ·subst Iq
   rw[Ja rfl]at yx;simp only[Bool.not_true,Bool.false_or,List.all_eq_true,List.mem_range,List.contains_iff_mem]at yx;obtain ⟨k,i,h1,h2,h3⟩:=xM (p:=λ q=>g7.getD q false) (Region.linearise .gc ops 0) ⟨j,yx j hj,iq⟩;obtain ⟨o,ho,hh⟩:=Aes ops .gc ops.size 0 (Array.replicate ops.size false) (by simp) k i h1;have hi:i<ops.size:=(Array.getElem?_eq_some_iff.1 ho).1;refine rl i hi h2 λ o' Br e he hb => ?_
   rw[ho]at Br;obtain rfl:o=o':=by simpa using Br
   rcases hh e he hb with h4|h4
   ·simp [Array.getD]at h4
   ·exact h3 e.on h4
  ·obtain ⟨k,i,h1,h2,h3⟩:=xM (p:=λ q=>g7.getD q false) (List.range ops.size) ⟨j,by simpa using hj,iq⟩
   have Fc:i=k:=by
    have Al:k<ops.size:=by have:=(zS h1).1;simpa using this
    rw[List.getElem?_range Al]at h1;simpa using h1.symm
   subst Fc;have hi:i<ops.size:=by have:=(zS h1).1;simpa using this
   refine rl i hi h2 λ o ho e he hb => ?_
   rw[List.all_eq_true]at na;have wy:(o,i)∈ops.toList.zipIdx:=List.mem_zipIdx_iff_getElem?.2 (by simpa using ho);have h4:=na (o,i) wy;simp only[Array.all_eq_true_iff_forall_mem,Bool.or_eq_true,decide_eq_true_eq]at h4;rcases h4 e he with h5|h5
   ·exact h3 e.on (by rw[List.take_range];simp;omega)
   ·exfalso
    unfold Region.binds at hb;split at h5
    ·rename_i row zl
     rw[zl]at hb;simp at hb;exact Iq hb
    ·cases h5
variable {B:Nat} {S:Nat->Prop} {w0:World} {m0:M} {N:Nat}
variable {P:Program} {num:Nat->Nat} {C:Cl} {Q:Exit->Act->World->Prop}
def iR (g7:Array Bool) (n:Nat):Nat:=(List.range n).countP (λ j => !g7.getD j false)
theorem Vk {α:Type} {p q:α->Bool} : ∀ {l:List α} {x:α},(∀ y∈l,q y=true->p y=true)->x∈l->p x=true->q x=false->l.countP q<l.countP p
 | [],x,_,hx,_,_=>by simp at hx
 | y::r,x,h,hx,hp,hq=>by
  have hle:r.countP q<=r.countP p:=List.countP_mono_left λ z hz hqz=>h z (by simp [hz]) hqz
  rw[List.countP_cons,List.countP_cons];rcases List.mem_cons.1 hx with rfl|hx
  ·simp only[hp,hq,if_true,Bool.false_eq_true,if_false]
   omega
  ·have:=Vk (l:=r) (λ z hz=>h z (by simp [hz])) hx hp hq
   by_cases Sl:q y=true
   ·simp only[Sl,h y (by simp) Sl,if_true];omega
   ·simp only[Sl,Bool.false_eq_true,if_false]
    split<;>omega
theorem AqS (hC:HA P num C) {l:List AI} (n7:dI P num N ops ops.toList l=true) {σ:Nat->St} {rs:List D9} (h:oT C ops l σ rs) (Ja:md = .gc->Region.departs ops=true)
  (hQ : ∀ m' a',m'.own=(σ l.length).own->F4 B S w0 m0 N (m8 (σ l.length).tm) m' a'->Q .normal a' m'.w) :
  ∀ (fuel:Nat) (g7:Array Bool) (a:Act) (m:M),g7.size=ops.size->iR g7 ops.size<=fuel->iZ ops (λ j=>g7.getD j false)->m.own=(D4 (λ j=>g7.getD j false) rs 0 (d0 σ)).2->F4 B S w0 m0 N (D4 (λ j=>g7.getD j false) rs 0 (d0 σ)).1 m a->wpAny P md ops Q fuel g7 a m.w:=by
 have hlen:ops.size=l.length:=by have:=(nM n7).1;simpa using this
 have final : ∀ (g7:Array Bool) (a:Act) (m:M),(∀ j,j<ops.size->g7.getD j false=true)->m.own=(D4 (λ j=>g7.getD j false) rs 0 (d0 σ)).2->F4 B S w0 m0 N (D4 (λ j=>g7.getD j false) rs 0 (d0 σ)).1 m a->Q .normal a m.w:=λ g7 a m qk q6 hf=>by
  have:D4 (λ j=>g7.getD j false) rs 0 (d0 σ)=(m8 (σ l.length).tm,(σ l.length).own):=by
   rw[<-wH h l.length (Nat.le_refl _)];refine rH rs 0 _ λ i hi => ?_
   simp only[Nat.zero_add];rw[qk i (by rw[hlen,<-h.len];exact hi)];simp;rw[<-h.len];exact hi
  rw[this]at q6 hf;exact hQ m a q6 hf
 have Hh : ∀ g7:Array Bool,iR g7 ops.size<=0 -> ∀ j,j<ops.size->g7.getD j false=true:=λ g7 h0 j hj=>by
  have h1:iR g7 ops.size=0:=by omega
  unfold iR at h1;rw[List.countP_eq_zero]at h1;simpa using h1 j (by simpa using hj)
 intro fuel;induction fuel with
 | zero =>
  intro g7 a m da hn Rc q6 hf;refine ⟨?_,final g7 a m (Hh g7 hn) q6 hf⟩;cases hr:Region.ready md ops g7 with
  | nil=>rfl
  | cons i r =>
   obtain ⟨h1,o,ho,_⟩:=mem_ready.1 (show i∈Region.ready md ops g7 by rw[hr];simp);have hi:i<ops.size:=(Array.getElem?_eq_some_iff.1 ho).1;have h2:=Hh g7 hn i hi;have eb:i<g7.size:=by omega
   simp [Array.getD,eb]at h1 h2;rw[h1]at h2;cases h2
 | succ fuel ih =>
  intro g7 a m da hn Rc q6 hf;refine ⟨λ hr=>final g7 a m (progress h.ok Ja da hr) q6 hf,λ i hi => ?_⟩;obtain ⟨h1,o,ho,Ex⟩:=mem_ready.1 hi;have hio:i<ops.size:=(Array.getElem?_eq_some_iff.1 ho).1;have eb:i<g7.size:=by omega
  have vo:g7.getD i false=false:=by
   simp [Array.getD,eb]at h1 ⊢;exact h1
  have Am:i<l.length:=by omega
  have gm:i<rs.length:=by rw[h.len];exact Am
  have hx:l[i]? = some l[i]:=zE Am;have hr:rs[i]? = some rs[i]:=zE gm;have jn : ∀ o',ops[i]? = some o' -> ∀ e∈o'.after,Region.binds .any e=true->g7.getD e.on false=true:=λ o' Br e he hb=>by
   rw[ho]at Br;obtain rfl:o=o':=by simpa using Br
   exact Ex e he (AiN hb md)
  obtain ⟨g1,g2,g3,g4⟩:=Ak3 h hx hr Rc vo jn;have Se:=(nM n7).2 i o l[i] (by simpa using ho) hx;have Ai : ∀ j,(g7.setIfInBounds i true).getD j false=(decide (j=i)||g7.getD j false):=λ j=>by
   by_cases Rs:j=i
   ·subst Rs;simp [Array.getD,eb]
   ·rw[getD_set_ne false (Ne.symm Rs)];simp [Rs]
  refine AgF hC ho Se hf g1 (λ hg=>by rw[q6];exact g2 hg) λ m' a' ou qp => ?_
  have pn:=g4 _ Ai;refine ih (g7.setIfInBounds i true) a' m' (by simpa using da) ?_ ?_ ?_ ?_
  ·have v9:iR (g7.setIfInBounds i true) ops.size<iR g7 ops.size:=by
    refine Vk (x:=i) (λ j _ hj => ?_) (by simpa using hio) (by simp [vo]) (by rw[Ai];simp);rw[Ai]at hj;simp at hj ⊢;exact hj.2
   omega
  ·intro j oj hj Lt e he hb
   change (g7.setIfInBounds i true).getD j false=true at hj;show (g7.setIfInBounds i true).getD e.on false=true;rw[Ai]at hj ⊢;simp only[Bool.or_eq_true,decide_eq_true_eq]at hj ⊢;rcases hj with rfl|hj
   ·exact .inr (jn oj Lt e he hb)
   ·exact .inr (Rc j oj hj Lt e he hb)
  ·rw[pn,ou,q6]
   rfl
  ·rw[pn]
   rw[q6,g3]at qp;have hd:(l[i]).dst=(rs[i]).d:=(h.fits i _ _ hx hr).d.symm;rw[hd]at qp;exact qp
theorem AqT (hC:HA P num C) {id:Nat} {l:List AI} (n7:dI P num N ops ops.toList l=true) (hd:gL ops l=true) {st o7:St} (o9:DE C l st=some o7) {m:M} {a:Act} (q6:m.own=st.own) (hf:F4 B S w0 m0 N (m8 st.tm) m a)
  (hQ : ∀ m' a',m'.own=o7.own->F4 B S w0 m0 N (m8 o7.tm) m' a'->Q .normal a' m'.w):(Code.region id ops true).wp P Q a m.w:=by
 obtain ⟨σ,rs,h0,h1,hl,h2⟩:=trace o9;have hD:oT C ops l σ rs:=⟨hd,hl,h2⟩;obtain ⟨pj,Bn⟩:=grow hf.mem ((Below.refl m.w.heap.size m.w).drew);have yp:F4 B S w0 m0 N (m8 st.tm) ⟨m.ν,m.own,m.w.drew⟩ a:=⟨pj,hf.ext.trans Bn,λ i=>Bn.cv (hf.tm i),hf.size,hf.defers⟩;have Kq:D4 (λ j=>(Array.replicate ops.size false).getD j false) rs 0 (d0 σ)=d0 σ:=xU rs 0 _ λ i _=>by simp [Array.getD]
 have key : ∀ md:Region.Mode,(md = .gc->Region.departs ops=true) -> ∀ t,wpOps P ops Q (Region.linearise md ops t) a m.w.drew:=λ md Ja t=>by
  refine wpAny_sound ops.size t (Array.replicate ops.size false) a m.w.drew ?_;refine AqS hC n7 hD Ja (by rw[h1];exact hQ) ops.size _ a ⟨m.ν,m.own,m.w.drew⟩ (by simp) ?_ ?_ ?_ ?_
  ·unfold iR
   exact Nat.le_trans List.countP_le_length (by simp)
  ·intro j o hj
   simp [Array.getD]at hj
  ·rw[Kq];simp [d0,h0,q6]
  ·rw[Kq];simpa [d0,h0] using yp
 refine wp_region_draw λ t => ?_
 change wpOps P ops Q _ a m.w.drew;unfold Region.schedule;split
 ·exact key .any (λ h=>by cases h) t
 ·rename_i Io
  have hdp:Region.departs ops=true:=by simp at Io;exact Io.2
  split
  ·exact key .text (λ_=>hdp) _
  ·exact key .gc (λ_=>hdp) _
end
end Go.e9

namespace Go.e9
open Go.RowKit
section
variable {B:Nat} {S:Nat->Prop} {w0:World} {m0:M} {N:Nat}
variable {P:Program} {num:Nat->Nat} {C:Cl}
theorem Aqo (m:Tm) (l:List Nat) (j:Nat):m8 (fe m l) j=m8 m j\/m8 (fe m l) j = .any:=by
 induction m with
 | nil=>exact .inl rfl
 | cons x r ih =>
  obtain ⟨i,v⟩:=x;simp only[fe];split
  ·by_cases h:j=i
   ·subst h
    rename_i hc;right
    clear ih;induction r with
    | nil=>rfl
    | cons y q ih =>
     obtain ⟨k,u⟩:=y;simp only[fe];split
     ·exact ih
     ·rename_i hk
      have : ¬ j=k:=λ e=>by subst e;exact hk hc
      simp only[m8,if_neg this];exact ih
   ·rcases ih with h1|h1
    ·left;simp only[m8,if_neg h];exact h1
    ·right;exact h1
  ·by_cases h:j=i
   ·left;simp [m8,h]
   ·simp only[m8,if_neg h]
    exact ih
inductive JS (P:Program) (num:Nat->Nat) (N:Nat):List It->List Item->Prop
 | nil:JS P num N [] []
 | code {c:Code} {a:BJ} {k:List It} {t:List Item} (h:E4 P num N c a=true) (hk:JS P num N k t):JS P num N (.code a::k) (.code c::t)
 | drop {ts ss:List Nat} {k:List It} {t:List Item} (hk:JS P num N k t):JS P num N (.oc ts ss::k) t
 | m5 {id:Nat} {k:List It} {t:List Item} (hk:JS P num N k t):JS P num N (.m5 id::k) (.inBlock id::t)
 | lp {c:Code} {a:BJ} {k:List It} {t:List Item} (h:E4 P num N c a=true) (hk:JS P num N k t):JS P num N (.lp a::k) (.inLoop c::t)
 | scope {c:Code} {k:List It} {t:List Item} (hk:JS P num N k t):JS P num N k (.inScope c::t)
theorem Agc {b:Frame} {a:Act} {k:List Item} {cs:List Frame} {w:World} {c:Code}:step P (lone (b.at a (.inScope c::k)) cs w) = .next (lone (b.at a k) cs w) :=
 step_lone_go (by simp [stepG,stepG.exec,Frame.at])
theorem Aqe {b:Frame} {a:Act} {k:List Item} {cs:List Frame} {w:World} {c:Code}:step P (lone (b.at a (.code (.scope c)::k)) cs w) = .next (lone (b.at a (.code c :: .inScope c::k)) cs w) :=
 step_lone_go (by simp [stepG,stepG.exec,Frame.at])
theorem jV {id:Nat} : ∀ {k:List It} {t:List Item},JS P num N k t -> ∀ {k':List It},D6 id k=some k' -> ∃ t',exitTo id t=some t'/\JS P num N k' t'
 | _,_,.nil,k',h=>by simp [D6]at h
 | _,_,.code h0 hk,k',h=>by
  simp only[D6]at h;obtain ⟨t',h1,h2⟩:=jV hk h;exact ⟨t',by simpa [exitTo] using h1,h2⟩
 | _,_,.drop hk,k',h=>by
  simp only[D6]at h;exact jV hk h
 | _,_,.m5 (id:=Me) hk,k',h=>by
  simp only[D6]at h;split at h
  ·rename_i he
   subst he;simp only[Option.some.injEq]at h;subst h;exact ⟨_,by simp [exitTo],hk⟩
  ·rename_i he
   obtain ⟨t',h1,h2⟩:=jV hk h;exact ⟨t',by simpa [exitTo,he] using h1,h2⟩
 | _,_,.lp h0 hk,k',h=>by
  simp only[D6]at h;obtain ⟨t',h1,h2⟩:=jV hk h;exact ⟨t',by simpa [exitTo] using h1,h2⟩
 | _,_,.scope hk,k',h=>by
  obtain ⟨t',h1,h2⟩:=jV hk h;exact ⟨t',by simpa [exitTo] using h1,h2⟩
def Ws (B:Nat) (S:Nat->Prop) (w0:World) (m0:M) (N:Nat) (P:Program) (b:Frame) (cs:List Frame) (Uj:Machine) (o7:St):Prop :=
 ∃ a' m' af,Steps P Uj (lone { b.at a' af with mode := .returning } cs m'.w)/\m'.own=o7.own/\F4 B S w0 m0 N (m8 o7.tm) m' a'
theorem ApE (hC:HA P num C) (b:Frame) (cs:List Frame) : ∀ (n:Nat) (k:List It) (st o7:St),run C n k st=some o7 -> ∀ (t:List Item),JS P num N k t -> ∀ (m:M) (a:Act),m.own=st.own->F4 B S w0 m0 N (m8 st.tm) m a ->
  Ws B S w0 m0 N P b cs (lone (b.at a t) cs m.w) o7:=by
 intro n;induction n with
 | zero=>intro k st o7 h;simp [run]at h
 | succ n ih =>
  intro k st o7 h t ht;have fin : ∀ (t:List Item),JS P num N [] t -> ∀ (m:M) (a:Act),m.own=st.own->F4 B S w0 m0 N (m8 st.tm) m a->st=o7->Ws B S w0 m0 N P b cs (lone (b.at a t) cs m.w) o7:=by
   intro t ht;generalize hk:([]:List It)=kk at ht;induction ht with
   | nil =>
    intro m a q6 hf he;subst he;exact ⟨a,m,[],.one step_end,q6,hf⟩
   | scope ml ti =>
    intro m a q6 hf he;obtain ⟨a',m',af,h1,h2⟩:=ti hk m a q6 hf he;exact ⟨a',m',af,.head Agc h1,h2⟩
   | code=>cases hk
   | drop=>cases hk
   | m5=>cases hk
   | lp=>cases hk
  cases k with
  | nil =>
   intro m a q6 hf;simp only[run,Option.some.injEq]at h;exact fin t ht m a q6 hf h
  | cons it k =>
   generalize kv:it::k=kk at ht;induction ht with
   | nil=>cases kv
   | scope ml ti =>
    intro m a q6 hf;obtain ⟨a',m',af,h1,h2⟩:=ti kv m a q6 hf;exact ⟨a',m',af,.head Agc h1,h2⟩
   | @m5 id k2 t2 ml ti =>
    intro m a q6 hf;obtain ⟨rfl,rfl⟩:it = .m5 id/\k=k2:=by simpa using kv
    simp only[run]at h;obtain ⟨a',m',af,h1,h2⟩:=ih k st o7 h t2 ml m a q6 hf;exact ⟨a',m',af,.head step_inBlock h1,h2⟩
   | @lp c ac k2 t2 n7 ml ti =>
    intro m a q6 hf;obtain ⟨rfl,rfl⟩:it = .lp ac/\k=k2:=by simpa using kv
    simp only[run]at h;obtain ⟨a',m',af,h1,h2⟩:=ih _ st o7 h (.code c :: .inLoop c::t2) (.code n7 (.lp n7 ml)) m a q6 hf;exact ⟨a',m',af,.head step_inLoop h1,h2⟩
   | @drop ts ss k2 t2 ml ti =>
    intro m a q6 hf;obtain ⟨rfl,rfl⟩:it = .oc ts ss/\k=k2:=by simpa using kv
    simp only[run]at h;obtain ⟨qf,he⟩:=Ak5 hf.mem ss;have qp:F4 B S w0 m0 N (m8 (fe st.tm ts)) ⟨m.ν,m.own.drop ss,m.w⟩ a:=⟨qf,hf.ext.trans he,λ i=>by
     rcases Aqo st.tm ts i with h1|h1
     ·rw[h1];exact he.cv (hf.tm i)
     ·rw[h1];exact .any _,hf.size,hf.defers⟩
    obtain ⟨a',m',af,h1,h2,h3⟩:=ih k ⟨fe st.tm ts,st.own.drop ss⟩ o7 h t2 ml ⟨m.ν,m.own.drop ss,m.w⟩ a (by simp [q6]) qp;exact ⟨a',m',af,h1,h2,h3⟩
   | @code c ac k2 t2 n7 ml ti =>
    obtain ⟨rfl,rfl⟩:it = .code ac/\k=k2:=by simpa using kv
    clear ti kv;intro m a q6 hf;cases ac with
    | dr ac ts ss =>
     simp only[E4]at n7;simp only[run]at h;exact ih _ st o7 h _ (.code n7 (.drop ml)) m a q6 hf
    | skip =>
     simp only[run]at h;cases c with
     | skip =>
      obtain ⟨a',m',af,h1,h2⟩:=ih _ st o7 h _ ml m a q6 hf;exact ⟨a',m',af,.head step_skip h1,h2⟩
     | label =>
      obtain ⟨a',m',af,h1,h2⟩:=ih _ st o7 h _ ml m a q6 hf;exact ⟨a',m',af,.head step_label h1,h2⟩
     | _=>simp [E4]at n7
    | scope ac =>
     simp only[run]at h;cases c with
     | scope c =>
      simp only[E4]at n7;obtain ⟨a',m',af,h1,h2⟩:=ih _ st o7 h _ (.code n7 (.scope (c:=c) ml)) m a q6 hf;exact ⟨a',m',af,.head Aqe h1,h2⟩
     | _=>simp [E4]at n7
    | seq a1 a2 =>
     simp only[run]at h;cases c with
     | seq c1 c2 =>
      simp only[E4,Bool.and_eq_true]at n7;obtain ⟨a',m',af,h1,h2⟩:=ih _ st o7 h _ (.code n7.1 (.code n7.2 ml)) m a q6 hf;exact ⟨a',m',af,.head step_seq h1,h2⟩
     | _=>simp [E4]at n7
    | cond x a1 a2 =>
     simp only[run]at h;cases c with
     | cond xc c1 c2 =>
      simp only[E4,Bool.and_eq_true]at n7;have db:CV B S m (st.ev x) (a.eval xc):=by rw[Yz];exact hf.says xc x n7.1.1
      split at h
      ·rename_i hx
       rw[hx]at db;obtain ⟨a',m',af,h1,h2⟩:=ih _ st o7 h _ (.code n7.1.2 ml) m a q6 hf;exact ⟨a',m',af,.head (step_cond (gK db)) h1,h2⟩
      ·rename_i hx
       rw[hx]at db;obtain ⟨a',m',af,h1,h2⟩:=ih _ st o7 h _ (.code n7.2 ml) m a q6 hf;exact ⟨a',m',af,.head (step_cond (gK db)) h1,h2⟩
      ·cases h
     | _=>simp [E4]at n7
    | block id ac =>
     simp only[run]at h;cases c with
     | block Me c =>
      simp only[E4,Bool.and_eq_true,beq_iff_eq]at n7;obtain ⟨rfl,n7⟩:=n7;obtain ⟨a',m',af,h1,h2⟩:=ih _ st o7 h _ (.code n7 (.m5 ml)) m a q6 hf;exact ⟨a',m',af,.head step_block h1,h2⟩
     | _=>simp [E4]at n7
    | loop ac =>
     simp only[run]at h;cases c with
     | loop c =>
      simp only[E4]at n7;obtain ⟨a',m',af,h1,h2⟩:=ih _ st o7 h _ (.code n7 (.lp n7 ml)) m a q6 hf;exact ⟨a',m',af,.head step_loop h1,h2⟩
     | _=>simp [E4]at n7
    | exit id =>
     simp only[run]at h;cases c with
     | exit Me =>
      simp only[E4,beq_iff_eq]at n7;subst n7;split at h
      ·rename_i k' re
       obtain ⟨t',e1,e2⟩:=jV ml re;obtain ⟨a',m',af,h1,h2⟩:=ih _ st o7 h _ e2 m a q6 hf;exact ⟨a',m',af,.head (step_exit e1) h1,h2⟩
      ·cases h
     | _=>simp [E4]at n7
    | ret =>
     simp only[run,Option.some.injEq]at h;subst h;cases c with
     | ret=>exact ⟨a,m,.code .ret::t2,.one step_ret,q6,hf⟩
     | _=>simp [E4]at n7
    | ops l draw =>
     simp only[run]at h;split at h
     ·rename_i BA Kc
      cases c with
      | region id ops vd =>
       simp only[E4,Bool.and_eq_true,beq_iff_eq]at n7;obtain ⟨⟨rfl,Jh⟩,ua⟩:=n7;have hwp:(Code.region id ops vd).wp P (λ e a' w'=>e = .normal /\ ∃ m',m'.w=w'/\m'.own=BA.own/\F4 B S w0 m0 N (m8 BA.tm) m' a') a m.w:=by
        cases vd with
        | true=>exact AqT hC Jh (by simpa using ua) Kc q6 hf λ m' a' h1 h2=>⟨rfl,m',rfl,h1,h2⟩
        | false =>
         refine wp_region ?_;rw[List.range_eq_range'];exact AgG hC Jh ops.size 0 st BA m a (by omega) (by simpa using Kc) q6 hf λ m' a' h1 h2=>⟨rfl,m',rfl,h1,h2⟩
       obtain ⟨e,a1,w1,⟨rfl,m1,rfl,Ji,yp⟩,Qo⟩:=hwp b t2 cs;obtain ⟨a',m',af,h1,h2,h3⟩:=ih _ BA o7 h _ ml m1 a1 Ji yp;exact ⟨a',m',af,Steps.trans Qo h1,h2,h3⟩
      | _=>simp [E4]at n7
     ·cases h
end
end Go.e9

namespace Go.e9
open Go.RowKit
section
variable {P:Program} {num:Nat->Nat} {L:Lib}
def ProgOK (P : Program) (num : Nat → Nat) (L : Lib) : Prop := (∀ f fa, L f = some fa → ∃ fn, P.funcs[num f]? = some fn ∧ okFn P num fn fa = true ∧ (fn.name == "runtime.NumGoroutine") = false) ∧ L.num = num
theorem Ad4 : ∀ (args:List AV) (k i:Nat),m8 (C0 k args) i=if k<=i then (match args[i-k]? with|some v=>v|none => .any) else .any
 | [],k,i=>by simp [C0,m8]
 | v::r,k,i=>by
  simp only[C0,m8];by_cases h:i=k
  ·subst h;simp
  ·rw[if_neg h,Ad4 r (k+1) i]
   by_cases h2:k<=i
   ·rw[if_pos h2,if_pos (by omega)]
    have:i-k=(i-(k+1))+1:=by omega
    rw[this];simp
   ·rw[if_neg h2,if_neg (by omega)]
section
variable {B:Nat} {S:Nat->Prop} {w0:World} {m0:M} {N:Nat}
def sP (tmps:Array Value):ResultVar->Sem Value
 | .tmp t=>pure (tmps.getD t undef)
 | .cell x t=>do loadVar t (<-asAddr (tmps.getD x undef))
theorem AiR {m:M} {x v:AV} {u:Value} (h:K7 x=some v) (db:CV B S m x u):CA B S m v u:=by
 cases db with
 | any=>simp [K7]at h
 | m9=>simp [K7]at h
 | ca hc =>
  have:x=v:=by
   cases hc with
   | one hc=>cases hc with
    | rd hr=>cases hr<;>simpa [K7] using h
    | _=>simpa [K7] using h
   | fn=>simpa [K7] using h
   | xp=>simpa [K7] using h
   | agg=>simpa [K7] using h
  subst this;exact hc
theorem Od {m:M} {a:Act} {st:St} (hf:F4 B S w0 m0 N (m8 st.tm) m a) (q6:m.own=st.own) : ∀ {rv:List ResultVar} {ra:List O3} {vs:List AV},Y7 P rv ra=true->ra.mapM (FG st)=some vs ->
  ∃ us:List Value,(rv.mapM (sP a.tmps)).run P m.w = .ok us m.w/\vs.length=us.length /\ ∀ (j:Nat) (c:AV) (v:Value),vs[j]? = some c->us[j]? = some v->CA B S m c v
 | [],[],vs,_,h=>by
  simp at h;subst h;exact ⟨[],by simp,rfl,λ j c v hc=>by simp at hc⟩
 | .tmp t::r,.tmp t'::l,vs,n7,h=>by
  simp only[Y7,Bool.and_eq_true,beq_iff_eq]at n7;obtain ⟨rfl,n7⟩:=n7;simp only[List.mapM_cons,Option.bind_eq_bind,Option.pure_def]at h;cases hv:FG st (.tmp t) with
  | none=>simp [hv]at h
  | some v =>
   cases hr:l.mapM (FG st) with
   | none=>simp [hv,hr]at h
   | some vr =>
    simp [hv,hr]at h;subst h;obtain ⟨us,h1,h2,h3⟩:=Od hf q6 n7 hr;have db:=hf.tm t;have sd:CA B S m v (a.tmps.getD t undef):=AiR hv db;refine ⟨a.tmps.getD t undef::us,?_,by simp [h2],λ j c u hc hu => ?_⟩
    ·simp only[List.mapM_cons,Sem.run_bind,sP,Sem.run_pure,Result.andThen_ok,h1]
    ·cases j with
     | zero =>
      obtain rfl:v=c:=by simpa using hc
      obtain rfl:a.tmps.getD t undef=u:=Option.some.inj hu;exact sd
     | succ j=>exact h3 j c u (by simpa using hc) (by simpa using hu)
 | .cell x t::r,.cell x' agg n::l,vs,n7,h=>by
  simp only[Y7,Bool.and_eq_true,beq_iff_eq]at n7;obtain ⟨⟨⟨rfl,my⟩,hn⟩,n7⟩:=n7;simp only[List.mapM_cons,Option.bind_eq_bind,Option.pure_def]at h;cases hv:FG st (.cell x agg n) with
  | none=>simp [hv]at h
  | some v =>
   cases hr:l.mapM (FG st) with
   | none=>simp [hv,hr]at h
   | some vr =>
    simp [hv,hr]at h;subst h;obtain ⟨us,h1,h2,h3⟩:=Od hf q6 n7 hr;have db:=hf.tm x;simp only[FG]at hv;split at hv
    ·rename_i s u i j hx
     rw[hx]at db;split at hv
     ·rename_i cs kr
      rw[<-q6]at kr;obtain ⟨ad,fq,ht,hb⟩:=mE db;obtain ⟨b,g,arr,e,ak,hg,fy,ow,z7,me⟩:=Ae7 hf.mem kr;obtain ⟨AFm,pq⟩:=rV hv z7;have hld:=Og (P:=P) t agg n (uM (by simpa using my)) (by
       cases agg
       ·simpa using hn
       ·exact aM (by simpa using hn)) ad fy ow m.w (λ q u' hq=>by
       have v9:q<fy.length:=(zS hq).1;obtain ⟨Fb,oh⟩:=hg (by omega);obtain ⟨g',js,rfl⟩:=hb b ak;obtain rfl:g=g':=by rw[Fb]at js;simpa using js
       rw[H8,qB oh];exact me q u' hq)
      have Rv:(sP a.tmps (.cell x t)).run P m.w = .ok (if agg then .agg fy.toArray else fy.getD 0 undef) m.w:=by
       show (do loadVar t (<-asAddr (a.tmps.getD x undef)):Sem Value).run P m.w=_;rw[fq];simpa [asAddr,Instr.loadAt,Instr.sureAddr] using hld
      have sd:CA B S m v (if agg then .agg fy.toArray else fy.getD 0 undef):=by
       unfold W9 at hv;cases agg with
       | true =>
        simp only[if_true,Option.some.injEq]at hv;subst hv;exact .agg cs fy z7
       | false =>
        simp only[Bool.false_eq_true,if_false]at hv ⊢;split at hv
        ·rename_i c
         simp only[Option.some.injEq]at hv;subst hv;obtain ⟨u',pt,bq⟩:=jL z7 (j:=0) (c:=c) rfl;simp only[List.getD,pt,Option.getD_some];exact .one bq
        ·cases hv
      refine ⟨(if agg then .agg fy.toArray else fy.getD 0 undef)::us,?_,by simp [h2],λ j' c u' hc hu => ?_⟩
      ·rw[List.mapM_cons,Sem.run_bind,Rv,Result.andThen_ok,Sem.run_bind,h1,Result.andThen_ok]
       rfl
      ·cases j' with
       | zero =>
        obtain rfl:v=c:=by simpa using hc
        obtain rfl:=Option.some.inj hu;exact sd
       | succ j'=>exact h3 j' c u' (by simpa using hc) (by simpa using hu)
     ·cases hv
    ·cases hv
 | [],_::_,_,n7,_=>by simp [Y7]at n7
 | .tmp _::_,[],_,n7,_=>by simp [Y7]at n7
 | .cell _ _::_,[],_,n7,_=>by simp [Y7]at n7
 | .tmp _::_,.cell _ _ _::_,_,n7,_=>by simp [Y7]at n7
 | .cell _ _::_,.tmp _::_,_,n7,_=>by simp [Y7]at n7
end
theorem Wa (hP:ProgOK P num L) {f:Nat} {fa:AFn} (hL:L f=some fa) (us:Array Value) (w:World):(callFunc (num f) us).run P w = .ok (.enter (num f) us) w:=by
 obtain ⟨fn,h1,h2,h3⟩:=hP.1 f fa hL;have hb:fn.body.isNone=false:=by
  simp only[okFn,Bool.and_eq_true]at h2;cases hbd:fn.body with
  | none=>rw[hbd]at h2;simp at h2
  | some c=>rfl
 unfold callFunc;simp only[Sem.run_bind,run_program,Result.andThen_ok,h1,h3,hb,Bool.false_eq_true,if_false,Sem.run_pure]
theorem Ad5 (hP:ProgOK P num L) {n:Nat} (hC:HA P num (C6 L n)) {f:Nat} {vs:List AV} {own:AH} {r:AV} {w8:AH} (h:DZ L (n+1) f vs own=some (r,w8)) (B:Nat) (S:Nat->Prop) (w0:World) (m:M) (us:List Value) (q6:m.own=own) (hm:BQ B S w0 m) (hl:vs.length=us.length)
  (db : ∀ (j:Nat) (c:AV) (v:Value),vs[j]? = some c->us[j]? = some v->CV B S m c v) :
  Calls P (num f) us.toArray m.w λ e w' => ∃ u m',e = .returned u/\m'.w=w'/\m'.own=w8/\BQ B S w0 m'/\DQ B S m m'/\CV B S m' r u:=by
 rw[mL]at h;cases hL:L f with
 | none=>simp [hL]at h
 | some fa =>
  simp only[hL]at h;split at h
  ·rename_i Jl
   split at h
   ·rename_i st bf
    split at h
    ·rename_i rvs uc
     simp only[Option.some.injEq,Prod.mk.injEq]at h;obtain ⟨rfl,rfl⟩:=h;obtain ⟨fn,h1,h2,h3⟩:=hP.1 f fa hL;simp only[okFn,Bool.and_eq_true,beq_iff_eq,decide_eq_true_eq]at h2;obtain ⟨⟨⟨h4,h5⟩,h6⟩,h7⟩:=h2;split at h7
     ·rename_i c hc
      intro cs;have Ey:Frame.enter P (num f) us.toArray .normal=({ (default:Frame) with fn:=num f,kind := .normal }:Frame).at { tmps:=us.toArray++Array.replicate (fn.ntmps-us.toArray.size) undef,defers:=[] } [.code c]:=by
       simp [Frame.enter,Frame.at,h1,hc]
      have da:us.length=fa.fo:=by rw[<-hl];exact Jl
      have hf0:F4 B S w0 m fn.ntmps (m8 (C0 0 vs)) m { tmps:=us.toArray++Array.replicate (fn.ntmps-us.toArray.size) undef,defers:=[] }:=by
       refine ⟨hm,DQ.refl m,λ i => ?_,by simp;omega,rfl⟩;rw[Ad4];simp only[Nat.zero_le,if_true,Nat.sub_zero];cases Ua:vs[i]? with
       | none=>exact .any _
       | some v =>
        have hi:i<us.length:=by rw[<-hl];exact (zS Ua).1
        have ak:(us.toArray++Array.replicate (fn.ntmps-us.toArray.size) undef).getD i undef=us[i]:=by
         rw[Array.getD_eq_getD_getElem?,Array.getElem?_append_left (by simpa using hi)];simp [hi]
        simp only[ak];exact db i v us[i] Ua (zE hi)
      obtain ⟨a',m',af,Fq,ou,qp⟩:=ApE (m0:=m) hC { (default:Frame) with fn:=num f,kind := .normal } cs n [.code fa.body] ⟨C0 0 vs,own⟩ st bf [.code c] (.code h7 .nil) m _ q6 hf0;obtain ⟨Ax,hu1,Ha,hu3⟩:=Od (P:=P) qp ou h6 uc;have Bz:(results fn a'.tmps).run P m'.w = .ok (if h:Ax.length=1 then Ax[0] else .tuple Ax.toArray) m'.w:=by
       have hr:results fn a'.tmps=(do let vs <-fn.results.mapM (sP a'.tmps);pure (if h:vs.size=1 then vs[0] else .tuple vs)):=rfl;rw[hr,Sem.run_bind,Array.mapM_eq_mapM_toList];simp [hu1]
      refine ⟨.returned (if h:Ax.length=1 then Ax[0] else .tuple Ax.toArray),m'.w,_,⟨_,m',rfl,rfl,ou,qp.mem,qp.ext,?_⟩,by rw[Ey];exact Fq,rfl,rfl,qp.defers,rfl,fn,h1,Bz⟩;unfold I2;split
      ·rename_i v
       have Bb:Ax.length=1:=by rw[<-Ha];rfl
       rw[dif_pos Bb];exact .ca (hu3 0 v Ax[0] rfl (zE (by omega)))
      ·rename_i u7
       have Bb : ¬ Ax.length=1:=λ e=>by
        rw[<-Ha]at e;cases rvs with
        | nil=>simp at e
        | cons q qs=>cases qs with
         | nil=>exact u7 q rfl
         | cons=>simp at e
       rw[dif_neg Bb];exact .m9 rvs Ax Ha hu3
     ·cases h7
    ·cases h
   ·cases h
  ·cases h
theorem Aop (S:Nat->Prop) (w:World):BQ w.heap.size S w ⟨λ_ _=>none,AH.emp,w⟩ :=
 ⟨Below.refl _ _,Nat.le_refl _,λ_ _ _=>rfl,λ s t b h=>by simp [AH.get,AH.emp]at h,λ s t s' t' b b' g h=>by simp [AH.get,AH.emp]at h⟩
theorem Yt {n f:Nat} {vs:List AV} {own:AH} {r:AV × AH} (h:DZ L n f vs own=some r) : ∃ fa,L f=some fa:=by
 cases n with
 | zero=>simp [DZ]at h
 | succ n =>
  rw[mL]at h;cases hL:L f with
  | none=>simp [hL]at h
  | some fa=>exact ⟨fa,rfl⟩
theorem Nv {n f:Nat} {vs:List AV} {r:AV} (h:KD (λ vs=>DZ L n f vs AH.emp) vs=some r) : ∃ r0 o,DZ L n f vs AH.emp=some (r0,o)/\fO o false r0=some r/\A6 r:=by
 unfold KD at h;cases he:DZ L n f vs AH.emp with
 | none=>simp [he]at h
 | some x =>
  obtain ⟨r0,o⟩:=x;simp only[he]at h;split at h
  ·rename_i r' hr
   split at h
   ·rename_i hc
    simp only[Option.some.injEq]at h;subst h;exact ⟨r0,o,rfl,hr,hc⟩
   ·cases h
  ·cases h
theorem wO {n f:Nat} {vs:List AV} {r:AV} (h:HK L n f vs=some r) : ∃ fy,∃ x,DZ L n f fy AH.emp=some x:=by
 unfold HK XA at h;split at h
 ·split at h
  ·rename_i r1 r2 h1 h2
   obtain ⟨r0,o,h3,_⟩:=Nv h1;exact ⟨_,_,h3⟩
  ·cases h
 ·obtain ⟨r0,o,h3,_⟩:=Nv h
  exact ⟨_,_,h3⟩
theorem Nw (hP:ProgOK P num L) {n:Nat} (ih:HA P num (C6 L n)) {f:Nat} {vs:List AV} {r:AV} (h:KD (λ vs=>DZ L (n+1) f vs AH.emp) vs=some r) (S:Nat->Prop) (w:World) (us:List Value) (hl:vs.length=us.length)
  (sd : ∀ (j:Nat) (c:AV) (v:Value),vs[j]? = some c->us[j]? = some v->CA w.heap.size S ⟨λ_ _=>none,AH.emp,w⟩ c v) :
  Calls P (num f) us.toArray w λ e w' => ∃ u,e = .returned u/\Below w.heap.size w w'/\CV w.heap.size S ⟨λ_ _=>none,AH.emp,w'⟩ r u/\A6 r:=by
 obtain ⟨r0,o,h1,h2,h3⟩:=Nv (L:=L) h;refine Calls.mono (Ad5 hP ih h1 w.heap.size S w ⟨λ_ _=>none,AH.emp,w⟩ us rfl (Aop S w) hl λ j c v hc hv => .ca (sd j c v hc hv)) λ e w' ⟨u,m',he,hw,q6,qf,_,db⟩ => ?_
 subst hw;refine ⟨u,he,qf.below,?_,h3⟩;refine DV.cv (m:=⟨λ_ _=>none,AH.emp,m'.w⟩) (Ap3 qf false (safe w.heap.size S ⟨λ_ _=>none,AH.emp,m'.w⟩) (λ l b hb hs => ?_) (λ s t g nu hg => ?_) (by rw[q6];exact h2) db)
 ·rcases hs with h|⟨h,_⟩|h
  ·exact .inl h
  ·exact .inr (.inl ⟨h,λ s t nu=>by simp [AH.get,AH.emp]at nu⟩)
  ·exact .inr (.inr h)
 ·exact .inr (.inl ⟨(qf.ge nu hg).1,λ s t nu=>by simp [AH.get,AH.emp]at nu⟩)
theorem AiT (hP:ProgOK P num L) : ∀ n,HA P num (C6 L n):=by
 intro n;induction n with
 | zero =>
  exact ⟨λ f vs r h=>by obtain ⟨fy,x,h1⟩:=wO (L:=L) (n:=0) (f:=f) (vs:=vs) (r:=r) h;simp [DZ]at h1,λ f vs own r h=>by change DZ L 0 f vs own=some r at h;simp [DZ]at h,
   λ f vs r h=>by obtain ⟨fy,x,h1⟩:=wO (L:=L) (n:=0) (f:=f) (vs:=vs) (r:=r) h;simp [DZ]at h1,λ f vs own r w8 h=>by change DZ L 0 f vs own=_ at h;simp [DZ]at h,hP.2⟩
 | succ n ih =>
  refine ⟨λ f vs r h us w => ?_,λ f vs own r h us w => ?_,λ f vs r h S w us hl sd => ?_,λ f vs own r w8 h B S w0 m us q6 hm hl db=>Ad5 hP ih h B S w0 m us q6 hm hl db,hP.2⟩
  ·obtain ⟨fy,x,h1⟩:=wO (L:=L) h
   obtain ⟨fa,hL⟩:=Yt h1;exact Wa hP hL us w
  ·obtain ⟨fa,hL⟩:=Yt (L:=L) h
   exact Wa hP hL us w
  ·have h:XA (L.uq f) (λ vs=>DZ L (n+1) f vs AH.emp) vs=some r:=h
   unfold XA at h;split at h
   ·rename_i q fy _ _
    split at h
    ·rename_i r1 r2 h1 h2
     split at h
     ·rename_i e
      subst e;obtain rfl:=Option.some.inj h;cases us with
      | nil=>simp at hl
      | cons u us =>
       have h0:=sd 0 _ u rfl rfl;have hu : ∃ a cap,u = .slice a 0 cap:=by
        cases h0 with
        | one h0=>cases h0 with
         | rd h0=>cases h0 with
          | nm l a cap=>exact ⟨a,cap,rfl⟩
          | sl l es b o c7 cap u u7=>exact absurd rfl u7
       obtain ⟨a,cap,rfl⟩:=hu;have key : ∀ b,a.isNone=b -> ∀ (j:Nat) (c:AV) (v:Value),(AV.ib (.bool b)::fy)[j]? = some c->(Value.slice a 0 cap::us)[j]? = some v->CA w.heap.size S ⟨λ_ _=>none,AH.emp,w⟩ c v:=λ b hb j c v hc hv=>by
        cases j with
        | zero =>
         obtain rfl:=Option.some.inj hc;obtain rfl:=Option.some.inj hv;exact .one (.rd (.emp b a cap hb))
        | succ j=>exact sd (j+1) c v hc hv
       cases hb:a.isNone with
       | true=>exact Nw hP ih h1 S w _ (by simpa using hl) (key true hb)
       | false=>exact Nw hP ih h2 S w _ (by simpa using hl) (key false hb)
     ·cases h
    ·cases h
   ·exact Nw hP ih h S w us hl sd
end
end Go.e9
namespace Go.e9
abbrev OkF (P : Program) (num : Nat → Nat) (p : Nat × AFn) : Prop := ∃ fn, P.funcs[num p.1]? = some fn ∧ okFn P num fn p.2 = true ∧ (fn.name == "runtime.NumGoroutine") = false
theorem Ao7 {P:Program} {num:Nat->Nat} (l:List (Nat × AFn)) (h : ∀ p∈l,OkF P num p):ProgOK P num ⟨λ f=>l.lookup f,num⟩:=by
 refine ⟨?_,rfl⟩;intro f fa hf;have hm:(f,fa)∈l:=by
  clear h;change l.lookup f=some fa at hf;induction l with
  | nil=>simp at hf
  | cons x r ih =>
   obtain ⟨k,v⟩:=x;rw[List.lookup_cons]at hf;cases hk:(f == k) with
   | true =>
    rw[hk]at hf;have:f=k:=by simpa using hk
    subst this;simp at hf;simp [hf]
   | false =>
    rw[hk]at hf;exact List.mem_cons_of_mem _ (ih hf)
 exact h (f,fa) hm
end Go.e9

namespace Go.e9.F
open C
namespace XL
def r0:=[o 2 (.c6 (.c (.bool false)))]
def r1:=[m 3 0,m 4 0,o 5 (.bin .neq 3 4),m 2 5]
def c:=(s (d r0 [2]) (s (d r1 [0,3,4,5]) .ret))
end XL
def XL:AFn:=⟨1,XL.c,[.tmp 2],false⟩
namespace XM
def r0:=[o 2 (.c6 (.c (.bool false)))]
def r1:=[m 3 0,m 4 0,o 5 (.bin .neq 3 4),m 2 5]
def c:=(s (d r0 [2]) (s (d r1 [0,3,4,5]) .ret))
end XM
def XM:AFn:=⟨1,XM.c,[.tmp 2],false⟩
namespace XH
def r0:=[o 4 (.c6 (k 0))]
def r1:=[m 7 0,o 8 (.call 58 [7]),m 5 8]
def r2:=[m 9 1,o 10 (.call 58 [9]),m 6 10]
def r3:=[m 11 5]
def r4:=[m 12 6]
def r5:=[o 4 (.c6 (k 0))]
def r6:=[o 4 (.c6 (k (-1)))]
def r7:=[m 13 6]
def r8:=[o 4 (.c6 (k 1))]
def r9:=[m 14 0,m 15 1,o 16 (.bin .lss 14 15)]
def BZ:=[o 4 (.c6 (k (-1)))]
def B8:=[m 17 0,m 18 1,o 19 (.bin .gtr 17 18)]
def ct:=[o 4 (.c6 (k 1))]
def C3:=[o 4 (.c6 (k 0))]
def c:=(s (d r0 [4]) (s (d r1 [7,8]) (s (d r2 [9,10]) (s (s (d r3 [5]) (i 11 (s (s (d r4 [0,1,6,11]) (i 12 (s (d r5 [12]) .ret) .skip)) (s (d r6 [12]) .ret)) .skip)) (s (s (d r7 [6,11]) (i 13 (s (d r8 [0,1,13]) .ret) .skip)) (s (s (d r9 [13,14,15]) (i 16 (s (d BZ [0,1,16]) .ret) .skip)) (s (s (d B8 [0,1,16,17,18]) (i 19 (s (d ct [19]) .ret) .skip)) (s (d C3 [19]) .ret))))))))
end XH
def XH:AFn:=⟨2,XH.c,[.tmp 4],false⟩
namespace XJ
def r0:=[o 4 (.c6 (k 0))]
def r1:=[m 7 0,o 8 (.call 59 [7]),m 5 8]
def r2:=[m 9 1,o 10 (.call 59 [9]),m 6 10]
def r3:=[m 11 5]
def r4:=[m 12 6]
def r5:=[o 4 (.c6 (k 0))]
def r6:=[o 4 (.c6 (k (-1)))]
def r7:=[m 13 6]
def r8:=[o 4 (.c6 (k 1))]
def r9:=[m 14 0,m 15 1,o 16 (.bin .lss 14 15)]
def BZ:=[o 4 (.c6 (k (-1)))]
def B8:=[m 17 0,m 18 1,o 19 (.bin .gtr 17 18)]
def ct:=[o 4 (.c6 (k 1))]
def C3:=[o 4 (.c6 (k 0))]
def c:=(s (d r0 [4]) (s (d r1 [7,8]) (s (d r2 [9,10]) (s (s (d r3 [5]) (i 11 (s (s (d r4 [0,1,6,11]) (i 12 (s (d r5 [12]) .ret) .skip)) (s (d r6 [12]) .ret)) .skip)) (s (s (d r7 [6,11]) (i 13 (s (d r8 [0,1,13]) .ret) .skip)) (s (s (d r9 [13,14,15]) (i 16 (s (d BZ [0,1,16]) .ret) .skip)) (s (s (d B8 [0,1,16,17,18]) (i 19 (s (d ct [19]) .ret) .skip)) (s (d C3 [19]) .ret))))))))
end XJ
def XJ:AFn:=⟨2,XJ.c,[.tmp 4],false⟩
namespace IR
def r0:=[o 2 (.c6 (.c .nil))]
def r1:=[m 3 0,o 4 (.xm false 3)]
def r2:=[o 2 (.c6 (.c .nil))]
def r3:=[o 5 (.m4 5 1 []),m 6 0,o 7 (.app 7 1 4 5 6),m 2 7]
def c:=(s (d r0 [2]) (s (s (d r1 [3]) (i 4 (s (d r2 [0,4]) .ret) .skip)) (s (d r3 [0,4,5,6,7]) .ret)))
end IR
def IR:AFn:=⟨1,IR.c,[.tmp 2],true⟩
namespace YH
def r0:=[o 2 (.c6 (k 0))]
def r1:=[m 3 0,o 4 (.bin .geq 3 (.c (.int .u32 (65536))))]
def r2:=[m 5 0,o 6 (.bin .shr 5 (.c (.int .u64 (16)))),m 0 6]
def r3:=[o 2 (.c6 (k 16))]
def r4:=[m 7 0,o 8 (.bin .geq 7 (.c (.int .u32 (256))))]
def r5:=[m 9 0,o 10 (.bin .shr 9 (.c (.int .u64 (8)))),m 0 10]
def r6:=[m 11 2,o 12 (.bin .add 11 (k 8)),m 2 12]
def r7:=[m 13 2,m 14 0,o 15 (.conv .u8 14),
 o 16 (.lu (List.replicate 1 0++List.replicate 1 1++List.replicate 2 2++List.replicate 4 3++List.replicate 8 4++List.replicate 16 5++List.replicate 32 6++List.replicate 64 7++List.replicate 128 8) 15),
 o 17 (.conv .i64 16),o 18 (.bin .add 13 17),m 2 18]
def c:=(s (p r0) (s (s (d r1 [3]) (i 4 (s (d r2 [2,4,5,6]) (p r3)) .skip)) (s (s (d r4 [4,7]) (i 8 (s (d r5 [8,9,10]) (d r6 [11,12])) .skip)) (s (d r7 [0,8,13,14,15,16,17,18]) .ret))))
end YH
def YH:AFn:=⟨1,YH.c,[.tmp 2],false⟩
namespace YG
def r0:=[o 2 (.c6 (k 0))]
def r1:=[m 3 0,o 4 (.call 63 [3]),o 5 (.bin .sub (k 32) 4),m 2 5]
def c:=(s (d r0 [2]) (s (d r1 [0,3,4,5]) .ret))
end YG
def YG:AFn:=⟨1,YG.c,[.tmp 2],false⟩
namespace F6
def r0:=[o 2 (.c6 (.c .nil))]
def r1:=[m 4 0,o 5 (.len 4),m 3 5]
def r2:=[m 6 3,o 7 (.bin .gtr 6 (k 0)),m 8 7,g 9 8 true (.c6 0),g 10 8 true (.c6 3),g 11 8 true (.bin .sub 10 (k 1)),g 12 8 true (.b9 none 1 9 11),
 g 13 8 true (.ld false 1 12),g 14 8 true (.bin .eql 13 (.c (.int .u32 (0)))),o 15 (.pick 8 14 (.c (.bool false)))]
def r3:=[m 16 3,o 17 (.bin .sub 16 (k 1)),m 3 17]
def r4:=[m 18 0,m 19 3,o 20 (.ke 1 18 none (some 19)),m 2 20]
def l1:=(s (s (d r2 [6,7,8,9,10,11,12,13,14]) (i 15 .skip (x 0))) (b 1 (d r3 [15,16,17])))
def c:=(s (d r0 [2]) (s (d r1 [4,5]) (s (b 0 (w l1)) (s (d r4 [0,3,15,18,19,20]) .ret))))
end F6
def F6:AFn:=⟨1,F6.c,[.tmp 2],false⟩
namespace YO
def r0:=[o 2 (.c6 (.c .nil))]
def r1:=[m 3 0,o 4 (.m7 65 [3]),o 5 (.call 62 [4]),m 2 5]
def c:=(s (d r0 [2]) (s (d r1 [0,3,4,5]) .ret))
end YO
def YO:AFn:=⟨1,YO.c,[.tmp 2],false⟩
namespace YK
def r0:=[o 4 (.c6 (k 0))]
def r1:=[m 8 0,o 9 (.m7 65 [8]),m 10 1,o 11 (.m7 65 [10]),m 5 9,m 6 11]
def r2:=[m 12 5,o 13 (.len 12),m 14 6,o 15 (.len 14),o 16 (.bin .neq 13 15)]
def r3:=[m 17 5,o 18 (.len 17),m 19 6,o 20 (.len 19),o 21 (.call 60 [18,20]),m 4 21]
def r4:=[m 22 5,o 23 (.len 22),o 24 (.bin .sub 23 (k 1)),m 7 24]
def r5:=[m 25 7,o 26 (.bin .geq 25 (k 0))]
def r7:=[m 29 5,m 30 7,o 31 (.b9 none 1 29 30),o 32 (.ld false 1 31),m 33 6,m 34 7,o 35 (.b9 none 1 33 34),o 36 (.ld false 1 35),o 37 (.bin .neq 32 36)]
def r8:=[m 38 5,m 39 7,o 40 (.b9 none 1 38 39),o 41 (.ld false 1 40),m 42 6,m 43 7,o 44 (.b9 none 1 42 43),o 45 (.ld false 1 44),o 46 (.call 61 [41,45]),
 m 4 46]
def r6:=[m 27 7,o 28 (.bin .sub 27 (k 1)),m 7 28]
def r9:=[o 4 (.c6 (k 0))]
def l1:=(s (s (d r5 [25]) (i 26 .skip (x 0))) (s (b 1 (s (e r7 [26,29,30,31,32,33,34,35,36]) (i 37 (s (e r8 [5,6,7,37,38,39,40,41,42,43,44,45,46]) .ret) .skip))) (d r6 [27,28,37])))
def c:=(s (d r0 [4]) (s (d r1 [0,1,8,9,10,11]) (s (s (d r2 [12,13,14,15]) (i 16 (s (d r3 [5,6,16,17,18,19,20,21]) .ret) .skip)) (s (s (d r4 [16,22,23,24]) (b 0 (w l1))) (s (d r9 [5,6,7,26]) .ret)))))
end YK
def YK:AFn:=⟨2,YK.c,[.tmp 4],false⟩
namespace YJ
def r0:=[o 4 (.c6 (.c .nil))]
def r1:=[m 12 0,o 13 (.m7 65 [12]),m 14 1,o 15 (.m7 65 [14]),m 5 13,m 6 15]
def r2:=[m 16 5,o 17 (.len 16),m 18 6,o 19 (.len 18),o 20 (.bin .lss 17 19)]
def r3:=[m 21 6,m 22 5,m 5 21,m 6 22]
def r4:=[m 23 5,o 24 (.len 23),o 25 (.bin .add 24 (k 1)),o 26 (.mk 26 1 4 [(.int .u32 (0))] 25 25),m 7 26]
def r5:=[o 8 (.c6 (.c (.int .u64 (0))))]
def r6:=[m 27 5,o 28 (.len 27),o 29 (.c6 (k 0))]
def r7:=[o 30 (.bin .lss 29 28)]
def r8:=[m 31 29,o 32 (.b9 none 1 27 29),o 33 (.ld false 1 32),m 9 31,m 10 33]
def r9:=[m 34 10,o 35 (.conv .u64 34),m 36 8,o 37 (.bin .add 35 36),m 11 37]
def BZ:=[m 38 9,m 39 6,o 40 (.len 39),o 41 (.bin .lss 38 40)]
def B8:=[m 42 11,m 43 6,m 44 9,o 45 (.b9 none 1 43 44),o 46 (.ld false 1 45),o 47 (.conv .u64 46),o 48 (.bin .add 42 47),m 11 48]
def ct:=[m 49 7,m 50 9,m 51 11,o 52 (.conv .u32 51),o 53 (.b9 none 1 49 50),n (.st 1 53 52)]
def C3:=[m 54 11,o 55 (.bin .shr 54 (.c (.int .u64 (32)))),m 8 55]
def ft:=[o 56 (.bin .add 29 (k 1)),m 29 56]
def fu:=[m 57 7,m 58 5,o 59 (.len 58),m 60 8,o 61 (.conv .u32 60),o 62 (.b9 none 1 57 59),n (.st 1 62 61)]
def iv:=[m 63 7,o 64 (.m7 65 [63]),m 4 64]
def l1:=(s (p r7) (s (i 30 .skip (x 0)) (s (b 1 (s (d r8 [30,31,32,33]) (s (d r9 [8,10,34,35,36,37]) (s (s (d BZ [38,39,40]) (i 41 (d B8 [41,42,43,44,45,46,47,48]) .skip)) (s (d ct [9,41,49,50,51,52,53]) (d C3 [11,54,55])))))) (d ft [56]))))
def c:=(s (d r0 [4]) (s (d r1 [0,1,12,13,14,15]) (s (s (d r2 [16,17,18,19]) (i 20 (d r3 [20,21,22]) .skip)) (s (d r4 [20,23,24,25,26]) (s (p r5) (s (s (p r6) (b 0 (w l1))) (s (d fu [5,6,8,27,28,29,30,57,58,59,60,61,62]) (s (d iv [7,63,64]) .ret))))))))
end YJ
def YJ:AFn:=⟨2,YJ.c,[.tmp 4],false⟩
namespace YN
def r0:=[o 4 (.c6 (.c .nil))]
def r1:=[m 12 0,m 13 1,o 14 (.call 67 [12,13]),o 15 (.bin .leq 14 (k 0))]
def r2:=[o 4 (.c6 (.c .nil))]
def r3:=[m 16 0,o 17 (.m7 65 [16]),m 18 1,o 19 (.m7 65 [18]),m 5 17,m 6 19]
def r4:=[m 20 5,o 21 (.len 20),o 22 (.mk 22 1 4 [(.int .u32 (0))] 21 21),m 7 22]
def r5:=[o 8 (.c6 (.c (.int .u64 (0))))]
def r6:=[m 23 5,o 24 (.len 23),o 25 (.c6 (k 0))]
def r7:=[o 26 (.bin .lss 25 24)]
def r8:=[m 27 25,o 28 (.b9 none 1 23 25),o 29 (.ld false 1 28),m 9 27,m 10 29]
def r9:=[m 30 10,o 31 (.conv .u64 30),m 32 8,o 33 (.bin .sub 31 32),m 11 33]
def BZ:=[m 34 9,m 35 6,o 36 (.len 35),o 37 (.bin .lss 34 36)]
def B8:=[m 38 11,m 39 6,m 40 9,o 41 (.b9 none 1 39 40),o 42 (.ld false 1 41),o 43 (.conv .u64 42),o 44 (.bin .sub 38 43),m 11 44]
def ct:=[m 45 7,m 46 9,m 47 11,o 48 (.conv .u32 47),o 49 (.b9 none 1 45 46),n (.st 1 49 48)]
def C3:=[m 50 11,o 51 (.bin .shr 50 (.c (.int .u64 (63)))),m 8 51]
def ft:=[o 52 (.bin .add 25 (k 1)),m 25 52]
def fu:=[m 53 7,o 54 (.m7 65 [53]),m 4 54]
def l1:=(s (p r7) (s (i 26 .skip (x 0)) (s (b 1 (s (d r8 [26,27,28,29]) (s (d r9 [8,10,30,31,32,33]) (s (s (d BZ [34,35,36]) (i 37 (d B8 [37,38,39,40,41,42,43,44]) .skip)) (s (d ct [9,37,45,46,47,48,49]) (d C3 [11,50,51])))))) (d ft [52]))))
def c:=(s (d r0 [4]) (s (s (d r1 [12,13,14]) (i 15 (s (d r2 [0,1,15]) .ret) .skip)) (s (d r3 [0,1,15,16,17,18,19]) (s (d r4 [20,21,22]) (s (p r5) (s (s (d r6 [5]) (b 0 (w l1))) (s (d fu [6,7,8,23,24,25,26,53,54]) .ret)))))))
end YN
def YN:AFn:=⟨2,YN.c,[.tmp 4],false⟩
namespace YM
def r0:=[o 4 (.c6 (.c .nil))]
def r1:=[m 14 0,o 15 (.m7 65 [14]),m 16 1,o 17 (.m7 65 [16]),m 5 15,m 6 17]
def r2:=[m 18 5,o 19 (.len 18),o 20 (.bin .eql 19 (k 0)),m 21 20,g 22 21 false (.c6 6),g 23 21 false (.len 22),g 24 21 false (.bin .eql 23 (k 0)),
 o 25 (.pick 21 (.c (.bool true)) 24)]
def r3:=[o 4 (.c6 (.c .nil))]
def r4:=[m 26 5,o 27 (.len 26),m 28 6,o 29 (.len 28),o 30 (.bin .add 27 29),o 31 (.mk 31 1 4 [(.int .u32 (0))] 30 30),m 7 31]
def r5:=[m 32 5,o 33 (.len 32),o 34 (.c6 (k 0))]
def r6:=[o 35 (.bin .lss 34 33)]
def r7:=[m 36 34,o 37 (.b9 none 1 32 34),o 38 (.ld false 1 37),m 8 36,m 9 38]
def r8:=[m 39 9,o 40 (.bin .eql 39 (.c (.int .u32 (0))))]
def r9:=[o 10 (.c6 (.c (.int .u64 (0))))]
def BZ:=[m 41 6,o 42 (.len 41),o 43 (.c6 (k 0))]
def B8:=[o 44 (.bin .lss 43 42)]
def ct:=[m 45 43,o 46 (.b9 none 1 41 43),o 47 (.ld false 1 46),m 11 45,m 12 47]
def C3:=[m 48 9,o 49 (.conv .u64 48),m 50 12,o 51 (.conv .u64 50),o 52 (.bin .mul 49 51),m 53 7,m 54 8,m 55 11,o 56 (.bin .add 54 55),o 57 (.b9 none 1 53 56),
 o 58 (.ld false 1 57),o 59 (.conv .u64 58),o 60 (.bin .add 52 59),m 61 10,o 62 (.bin .add 60 61),m 13 62]
def ft:=[m 63 7,m 64 8,m 65 11,o 66 (.bin .add 64 65),m 67 13,o 68 (.conv .u32 67),o 69 (.b9 none 1 63 66),n (.st 1 69 68)]
def fu:=[m 70 13,o 71 (.bin .shr 70 (.c (.int .u64 (32)))),m 10 71]
def iv:=[o 72 (.bin .add 43 (k 1)),m 43 72]
def EQ:=[m 73 7,m 74 8,m 75 6,o 76 (.len 75),o 77 (.bin .add 74 76),m 78 10,o 79 (.conv .u32 78),o 80 (.b9 none 1 73 77),n (.st 1 80 79)]
def jf:=[o 81 (.bin .add 34 (k 1)),m 34 81]
def ko:=[m 82 7,o 83 (.m7 65 [82]),m 4 83]
def l2:=(s (p B8) (s (i 44 .skip (x 2)) (s (b 3 (s (d ct [44,45,46,47]) (s (d C3 [10,12,48,49,50,51,52,53,54,55,56,57,58,59,60,61,62]) (s (d ft [11,63,64,65,66,67,68,69]) (d fu [13,70,71]))))) (d iv [72]))))
def l1:=(s (p r6) (s (i 35 .skip (x 0)) (s (b 1 (s (d r7 [35,36,37,38]) (s (s (d r8 [39]) (i 40 (x 1) .skip)) (s (d r9 [40]) (s (s (p BZ) (b 2 (w l2))) (d EQ [8,9,10,41,42,43,44,73,74,75,76,77,78,79,80])))))) (d jf [8,9,40,81]))))
def c:=(s (d r0 [4]) (s (d r1 [0,1,14,15,16,17]) (s (s (d r2 [18,19,20,21,22,23,24]) (i 25 (s (d r3 [5,6,25]) .ret) .skip)) (s (d r4 [25,26,27,28,29,30,31]) (s (s (d r5 [5]) (b 0 (w l1))) (s (d ko [6,7,32,33,34,35,82,83]) .ret))))))
end YM
def YM:AFn:=⟨2,YM.c,[.tmp 4],false⟩
namespace QF
def r0:=[o 6 (.c6 (.c .nil))]
def r1:=[m 11 2,o 12 (.mk 71012 1 4 [(.int .u32 (0))] 11 11),m 7 12]
def r2:=[o 8 (.c6 (.c (.int .u32 (0))))]
def r3:=[m 13 0,o 14 (.len 13),o 15 (.c6 (k 0))]
def r4:=[o 16 (.bin .lss 15 14)]
def r5:=[m 17 15,o 18 (.b9 none 1 13 15),o 19 (.ld false 1 18),m 9 17,m 10 19]
def r6:=[m 20 7,m 21 9,m 22 10,m 23 1,o 24 (.bin .shl 22 23),m 25 8,o 26 (.bin .or 24 25),o 27 (.b9 none 1 20 21),n (.st 1 27 26)]
def r7:=[m 28 10,o 29 (.conv .u64 28),m 30 1,o 31 (.bin .shl 29 30),o 32 (.bin .shr 31 (.c (.int .u64 (32)))),o 33 (.conv .u32 32),m 8 33]
def r8:=[o 34 (.bin .add 15 (k 1)),m 15 34]
def r9:=[m 35 2,m 36 0,o 37 (.len 36),o 38 (.bin .gtr 35 37)]
def BZ:=[m 39 7,m 40 0,o 41 (.len 40),m 42 8,o 43 (.b9 none 1 39 41),n (.st 1 43 42)]
def B8:=[m 44 7,m 6 44]
def l1:=(s (p r4) (s (i 16 .skip (x 0)) (s (b 1 (s (d r5 [16,17,18,19]) (s (d r6 [8,9,20,21,22,23,24,25,26,27]) (d r7 [10,28,29,30,31,32,33])))) (d r8 [34]))))
def c:=(s (d r0 [6]) (s (d r1 [11,12]) (s (p r2) (s (s (p r3) (b 0 (w l1))) (s (s (d r9 [1,2,13,14,15,16,35,36,37]) (i 38 (d BZ [0,8,38,39,40,41,42,43]) .skip)) (s (d B8 [0,7,8,38,44]) .ret))))))
end QF
def QF:AFn:=⟨3,QF.c,[.tmp 6],false⟩
namespace YT
def r0:=[o 4 (.c6 (.c .nil))]
def r1:=[m 8 0,o 9 (.len 8),o 10 (.mk 10 1 4 [(.int .u32 (0))] 9 9),m 5 10]
def r2:=[o 6 (.c6 (.c (.int .u32 (0))))]
def r3:=[m 11 0,o 12 (.len 11),o 13 (.bin .sub 12 (k 1)),m 7 13]
def r4:=[m 14 7,o 15 (.bin .geq 14 (k 0))]
def r6:=[m 18 5,m 19 7,m 20 0,m 21 7,o 22 (.b9 none 1 20 21),o 23 (.ld false 1 22),m 24 1,o 25 (.bin .shr 23 24),m 26 6,o 27 (.bin .or 25 26),
 o 28 (.b9 none 1 18 19),n (.st 1 28 27)]
def r7:=[m 29 0,m 30 7,o 31 (.b9 none 1 29 30),o 32 (.ld false 1 31),o 33 (.conv .u64 32),m 34 1,o 35 (.bin .sub (.c (.int .u64 (32))) 34),
 o 36 (.bin .shl 33 35),o 37 (.conv .u32 36),m 6 37]
def r5:=[m 16 7,o 17 (.bin .sub 16 (k 1)),m 7 17]
def r8:=[m 38 5,m 4 38]
def l1:=(s (s (d r4 [14]) (i 15 .skip (x 0))) (s (b 1 (s (d r6 [6,15,18,19,20,21,22,23,24,25,26,27,28]) (d r7 [29,30,31,32,33,34,35,36,37]))) (d r5 [16,17])))
def c:=(s (d r0 [4]) (s (d r1 [8,9,10]) (s (p r2) (s (s (d r3 [11,12,13]) (b 0 (w l1))) (s (d r8 [0,1,5,6,7,15,38]) .ret)))))
end YT
def YT:AFn:=⟨2,YT.c,[.tmp 4],false⟩
namespace GC
def r0:=[o 4 (.c6 (.c (.int .u32 (0))))]
def r1:=[m 19 1,o 20 (.len 19),m 5 20]
def r2:=[m 21 0,m 22 5,o 23 (.b9 none 1 21 22),o 24 (.ld false 1 23),o 25 (.conv .u64 24),o 26 (.bin .shl 25 (.c (.int .u64 (32)))),m 27 0,m 28 5,
 o 29 (.bin .sub 28 (k 1)),o 30 (.b9 none 1 27 29),o 31 (.ld false 1 30),o 32 (.conv .u64 31),o 33 (.bin .or 26 32),m 6 33]
def r3:=[m 34 6,m 35 1,m 36 5,o 37 (.bin .sub 36 (k 1)),o 38 (.b9 none 1 35 37),o 39 (.ld false 1 38),o 40 (.conv .u64 39),o 41 (.bin .quo 34 40),m 42 6,
 m 43 1,m 44 5,o 45 (.bin .sub 44 (k 1)),o 46 (.b9 none 1 43 45),o 47 (.ld false 1 46),o 48 (.conv .u64 47),o 49 (.bin .rem 42 48),m 7 41,m 8 49]
def r4:=[m 50 7,o 51 (.bin .geq 50 (.c (.int .u64 (4294967296)))),m 52 51,g 53 52 false (.c6 7),g 54 52 false (.c6 1),g 55 52 false (.c6 5),
 g 56 52 false (.bin .sub 55 (k 2)),g 57 52 false (.b9 none 1 54 56),g 58 52 false (.ld false 1 57),g 59 52 false (.conv .u64 58),
 g 60 52 false (.bin .mul 53 59),g 61 52 false (.c6 8),g 62 52 false (.bin .shl 61 (.c (.int .u64 (32)))),g 63 52 false (.c6 0),g 64 52 false (.c6 5),
 g 65 52 false (.bin .sub 64 (k 2)),g 66 52 false (.b9 none 1 63 65),g 67 52 false (.ld false 1 66),g 68 52 false (.conv .u64 67),
 g 69 52 false (.bin .or 62 68),g 70 52 false (.bin .gtr 60 69),o 71 (.pick 52 (.c (.bool true)) 70)]
def r5:=[m 72 7,o 73 (.bin .sub 72 (.c (.int .u64 (1)))),m 7 73]
def r6:=[m 74 8,m 75 1,m 76 5,o 77 (.bin .sub 76 (k 1)),o 78 (.b9 none 1 75 77),o 79 (.ld false 1 78),o 80 (.conv .u64 79),o 81 (.bin .add 74 80),m 8 81]
def r7:=[m 82 8,o 83 (.bin .geq 82 (.c (.int .u64 (4294967296))))]
def r8:=[o 9 (.c6 (.c (.int .u64 (0)))),o 10 (.c6 (.c (.int .u64 (0))))]
def r9:=[m 84 1,o 85 (.len 84),o 86 (.c6 (k 0))]
def BZ:=[o 87 (.bin .lss 86 85)]
def B8:=[m 88 86,o 89 (.b9 none 1 84 86),o 90 (.ld false 1 89),m 11 88,m 12 90]
def ct:=[m 91 7,m 92 12,o 93 (.conv .u64 92),o 94 (.bin .mul 91 93),m 95 9,o 96 (.bin .add 94 95),m 13 96]
def C3:=[m 97 13,o 98 (.bin .shr 97 (.c (.int .u64 (32)))),m 9 98]
def ft:=[m 99 0,m 100 11,o 101 (.b9 none 1 99 100),o 102 (.ld false 1 101),o 103 (.conv .u64 102),m 104 13,o 105 (.conv .u32 104),o 106 (.conv .u64 105),
 o 107 (.bin .sub 103 106),m 108 10,o 109 (.bin .sub 107 108),m 14 109]
def fu:=[m 110 0,m 111 11,m 112 14,o 113 (.conv .u32 112),o 114 (.b9 none 1 110 111),n (.st 1 114 113)]
def iv:=[m 115 14,o 116 (.bin .shr 115 (.c (.int .u64 (63)))),m 10 116]
def EQ:=[o 117 (.bin .add 86 (k 1)),m 86 117]
def jf:=[m 118 0,m 119 5,o 120 (.b9 none 1 118 119),o 121 (.ld false 1 120),o 122 (.conv .u64 121),m 123 9,o 124 (.bin .sub 122 123),m 125 10,
 o 126 (.bin .sub 124 125),m 15 126]
def ko:=[m 127 0,m 128 5,m 129 15,o 130 (.conv .u32 129),o 131 (.b9 none 1 127 128),n (.st 1 131 130)]
def mf:=[m 132 15,o 133 (.bin .shr 132 (.c (.int .u64 (63)))),o 134 (.bin .eql 133 (.c (.int .u64 (0))))]
def oy:=[m 135 7,o 136 (.conv .u32 135),m 4 136]
def qh:=[o 9 (.c6 (.c (.int .u64 (0))))]
def tk:=[m 137 1,o 138 (.len 137),o 139 (.c6 (k 0))]
def QH:=[o 140 (.bin .lss 139 138)]
def dJ:=[m 141 139,o 142 (.b9 none 1 137 139),o 143 (.ld false 1 142),m 16 141,m 17 143]
def iI:=[m 144 0,m 145 16,o 146 (.b9 none 1 144 145),o 147 (.ld false 1 146),o 148 (.conv .u64 147),m 149 17,o 150 (.conv .u64 149),o 151 (.bin .add 148 150),
 m 152 9,o 153 (.bin .add 151 152),m 18 153]
def iJ:=[m 154 0,m 155 16,m 156 18,o 157 (.conv .u32 156),o 158 (.b9 none 1 154 155),n (.st 1 158 157)]
def nU:=[m 159 18,o 160 (.bin .shr 159 (.c (.int .u64 (32)))),m 9 160]
def nV:=[o 161 (.bin .add 139 (k 1)),m 139 161]
def Mf:=[m 162 0,m 163 5,o 164 (.b9 none 1 162 163),o 165 (.ld false 1 164),m 166 9,o 167 (.conv .u32 166),o 168 (.bin .add 165 167),
 o 169 (.b9 none 1 162 163),n (.st 1 169 168)]
def Mg:=[m 170 7,o 171 (.bin .sub 170 (.c (.int .u64 (1)))),o 172 (.conv .u32 171),m 4 172]
def l1:=(s (s (e r4 [50,51,52,53,54,55,56,57,58,59,60,61,62,63,64,65,66,67,68,69,70,83]) (i 71 .skip (x 0))) (b 1 (s (d r5 [71,72,73]) (s (d r6 [74,75,76,77,78,79,80,81]) (s (d r7 [82]) (i 83 (x 0) .skip))))))
def l2:=(s (p BZ) (s (i 87 .skip (x 2)) (s (b 3 (s (d B8 [87,88,89,90]) (s (d ct [9,12,91,92,93,94,95,96]) (s (d C3 [97,98]) (s (d ft [10,13,99,100,101,102,103,104,105,106,107,108,109]) (s (d fu [11,110,111,112,113,114]) (d iv [14,115,116]))))))) (d EQ [117]))))
def l3:=(s (p QH) (s (i 140 .skip (x 4)) (s (b 5 (s (d dJ [140,141,142,143]) (s (d iI [9,17,144,145,146,147,148,149,150,151,152,153]) (s (d iJ [16,154,155,156,157,158]) (d nU [18,159,160]))))) (d nV [161]))))
def c:=(s (d r0 [4]) (s (d r1 [19,20]) (s (e r2 [21,22,23,24,25,26,27,28,29,30,31,32,33]) (s (e r3 [6,34,35,36,37,38,39,40,41,42,43,44,45,46,47,48,49]) (s (b 0 (w l1)) (s (d r8 [8,71,83]) (s (s (p r9) (b 2 (w l2))) (s (d jf [9,10,84,85,86,87,118,119,120,121,122,123,124,125,126]) (s (d ko [127,128,129,130,131]) (s (s (d mf [15,132,133]) (i 134 (s (d oy [0,1,5,7,134,135,136]) .ret) .skip)) (s (d qh [134]) (s (s (d tk [1]) (b 4 (w l3))) (s (d Mf [0,5,9,137,138,139,140,162,163,164,165,166,167,168,169]) (s (d Mg [7,170,171,172]) .ret))))))))))))))
end GC
def GC:AFn:=⟨2,GC.c,[.tmp 4],false⟩
namespace YR
def r0:=[o 4 (.c6 (.c .nil)),o 5 (.c6 (.c .nil))]
def r1:=[m 15 0,m 16 1,o 17 (.call 67 [15,16]),o 18 (.bin .lss 17 (k 0))]
def r2:=[m 19 0,o 20 (.call 62 [19]),o 4 (.c6 (.c .nil)),m 5 20]
def r3:=[m 21 1,o 22 (.len 21),m 6 22]
def r4:=[m 23 0,o 24 (.len 23),m 25 6,o 26 (.bin .sub 24 25),o 27 (.bin .add 26 (k 1)),o 28 (.mk 28 1 4 [(.int .u32 (0))] 27 27),m 7 28]
def r5:=[m 29 6,o 30 (.bin .eql 29 (k 1))]
def r6:=[o 8 (.c6 (.c (.int .u64 (0))))]
def r7:=[m 31 0,o 32 (.len 31),o 33 (.bin .sub 32 (k 1)),m 9 33]
def r8:=[m 34 9,o 35 (.bin .geq 34 (k 0))]
def BZ:=[m 38 8,o 39 (.bin .shl 38 (.c (.int .u64 (32)))),m 40 0,m 41 9,o 42 (.b9 none 1 40 41),o 43 (.ld false 1 42),o 44 (.conv .u64 43),
 o 45 (.bin .or 39 44),m 10 45]
def B8:=[m 46 7,m 47 9,m 48 10,m 49 1,o 50 (.b9 none 1 49 (k 0)),o 51 (.ld false 1 50),o 52 (.conv .u64 51),o 53 (.bin .quo 48 52),o 54 (.conv .u32 53),
 o 55 (.b9 none 1 46 47),n (.st 1 55 54)]
def ct:=[m 56 10,m 57 1,o 58 (.b9 none 1 57 (k 0)),o 59 (.ld false 1 58),o 60 (.conv .u64 59),o 61 (.bin .rem 56 60),m 8 61]
def r9:=[m 36 9,o 37 (.bin .sub 36 (k 1)),m 9 37]
def C3:=[m 62 7,o 63 (.m7 65 [62]),m 64 8,o 65 (.conv .u32 64),o 66 (.m4 66 1 [65]),o 67 (.m7 65 [66]),m 4 63,m 5 67]
def ft:=[m 68 1,m 69 6,o 70 (.bin .sub 69 (k 1)),o 71 (.b9 none 1 68 70),o 72 (.ld false 1 71),o 73 (.call 64 [72]),o 74 (.conv .u64 73),m 11 74]
def fu:=[m 75 0,m 76 11,m 77 0,o 78 (.len 77),o 79 (.bin .add 78 (k 1)),o 80 (.m7 71 [75,76,79]),m 81 1,m 82 11,m 83 6,o 84 (.call 71 [81,82,83]),
 m 12 80,m 13 84]
def iv:=[m 85 0,o 86 (.len 85),m 87 6,o 88 (.bin .sub 86 87),m 14 88]
def EQ:=[m 89 14,o 90 (.bin .geq 89 (k 0))]
def ko:=[m 93 7,m 94 14,m 95 12,m 96 14,m 97 14,m 98 6,o 99 (.bin .add 97 98),o 100 (.bin .add 99 (k 1)),o 101 (.ke 1 95 (some 96) (some 100)),m 102 13,
 o 103 (.m7 73 [101,102]),o 104 (.b9 none 1 93 94),n (.st 1 104 103)]
def jf:=[m 91 14,o 92 (.bin .sub 91 (k 1)),m 14 92]
def mf:=[m 105 7,o 106 (.m7 65 [105]),m 107 12,m 108 6,o 109 (.ke 1 107 none (some 108)),m 110 11,o 111 (.call 72 [109,110]),o 112 (.m7 65 [111]),
 m 4 106,m 5 112]
def l1:=(s (s (d r8 [34]) (i 35 .skip (x 0))) (s (b 1 (s (d BZ [8,35,38,39,40,41,42,43,44,45]) (s (d B8 [46,47,48,49,50,51,52,53,54,55]) (d ct [10,56,57,58,59,60,61])))) (d r9 [36,37])))
def l2:=(s (s (d EQ [89]) (i 90 .skip (x 2))) (s (b 3 (d ko [90,93,94,95,96,97,98,99,100,101,102,103,104])) (d jf [91,92])))
def c:=(s (d r0 [4,5]) (s (s (d r1 [15,16,17]) (i 18 (s (d r2 [0,1,18,19,20]) .ret) .skip)) (s (d r3 [18,21,22]) (s (d r4 [23,24,25,26,27,28]) (s (s (d r5 [29]) (i 30 (s (d r6 [6,30]) (s (s (d r7 [31,32,33]) (b 0 (w l1))) (s (d C3 [0,1,7,8,9,35,62,63,64,65,66,67]) .ret))) .skip)) (s (d ft [30,68,69,70,71,72,73,74]) (s (d fu [1,75,76,77,78,79,80,81,82,83,84]) (s (s (d iv [0,85,86,87,88]) (b 2 (w l2))) (s (e mf [6,7,11,12,13,14,90,105,106,107,108,109,110,111,112]) .ret)))))))))
end YR
def YR:AFn:=⟨2,YR.c,[.tmp 4,.tmp 5],false⟩
namespace YL
def r0:=[o 4 (.c6 (.c .nil)),o 5 (.c6 (.c .nil)),o 6 (.c6 (k 0))]
def r1:=[m 10 1,o 11 (.m7 65 [10]),m 7 11]
def r2:=[m 12 7,o 13 (.len 12),o 14 (.bin .eql 13 (k 0))]
def r3:=[o 4 (.c6 (.c .nil)),o 5 (.c6 (.c .nil)),o 6 (.c6 (k 3))]
def r4:=[m 16 0,o 17 (.m7 65 [16]),m 18 7,o 19 (.call 74 [17,18]),m 15 19,o 20 (.ext 15 0),o 21 (.ext 15 1),m 8 20,m 9 21]
def r5:=[m 22 8,m 23 9,m 4 22,m 5 23,o 6 (.c6 (k 0))]
def c:=(s (d r0 [4,5,6]) (s (d r1 [1,10,11]) (s (s (d r2 [12,13]) (i 14 (s (d r3 [0,7,14]) .ret) .skip)) (s (d r4 [0,7,14,15,16,17,18,19,20,21]) (s (d r5 [8,9,22,23]) .ret)))))
end YL
def YL:AFn:=⟨2,YL.c,[.tmp 4,.tmp 5,.tmp 6],false⟩
namespace YV
def r0:=[o 2 (.c6 (.c (.int .u64 (0))))]
def r1:=[o 3 (.c6 (.c (.int .u64 (0))))]
def r2:=[m 6 0,o 7 (.len 6),o 8 (.c6 (k 0))]
def r3:=[o 9 (.bin .lss 8 7)]
def r4:=[m 10 8,o 11 (.b9 none 1 6 8),o 12 (.ld false 1 11),m 4 10,m 5 12]
def r5:=[m 13 3,m 14 5,o 15 (.conv .u64 14),m 16 4,o 17 (.bin .mul (k 32) 16),o 18 (.bin .shl 15 17),o 19 (.bin .or 13 18),m 3 19]
def r6:=[o 20 (.bin .add 8 (k 1)),m 8 20]
def r7:=[m 21 3,m 2 21]
def l1:=(s (p r3) (s (i 9 .skip (x 0)) (s (b 1 (s (d r4 [9,10,11,12]) (d r5 [4,5,13,14,15,16,17,18,19]))) (d r6 [20]))))
def c:=(s (d r0 [2]) (s (p r1) (s (s (d r2 [0]) (b 0 (w l1))) (s (d r7 [3,6,7,8,9,21]) .ret))))
end YV
def YV:AFn:=⟨1,YV.c,[.tmp 2],false⟩
namespace J6
def r0:=[o 3 (.c6 (.c (.int .u64 (0))))]
def r1:=[m 4 0,o 5 (.ld false 1 1),o 6 (.len 5),o 7 (.bin .lss 4 6)]
def r2:=[o 8 (.ld false 1 1),m 9 0,o 10 (.b9 none 1 8 9),o 11 (.ld false 1 10),o 12 (.conv .u64 11),m 3 12]
def r3:=[o 3 (.c6 (.c (.int .u64 (0))))]
def c:=(s (d r0 [3]) (s (s (d r1 [4,5,6]) (i 7 (s (d r2 [0,1,7,8,9,10,11,12]) .ret) .skip)) (s (d r3 [0,1,7]) .ret)))
end J6
def J6:AFn:=⟨2,J6.c,[.tmp 3],false⟩
namespace YS
def r0:=[o 3 (.box 3 0),o 6 (.c6 (k 0))]
def r1:=[o 9 (.um false 77 [3]),m 7 9]
def r2:=[m 10 7,m 11 1,o 12 (.bin .sub 11 (k 1)),o 13 (.y7 10 [12]),o 14 (.bin .shl 13 (.c (.int .u64 (32)))),m 15 7,m 16 1,o 17 (.bin .sub 16 (k 2)),
 o 18 (.y7 15 [17]),o 19 (.bin .or 14 18),m 20 2,o 21 (.bin .shl 19 20),m 8 21]
def r3:=[m 22 8,m 23 7,m 24 1,o 25 (.bin .sub 24 (k 3)),o 26 (.y7 23 [25]),m 27 2,o 28 (.bin .shl 26 27),o 29 (.bin .shr 28 (.c (.int .u64 (32)))),
 o 30 (.bin .or 22 29),m 8 30]
def r4:=[m 31 8,o 32 (.bin .shr 31 (.c (.int .u64 (2)))),o 33 (.conv .i64 32),m 6 33]
def c:=(s (d r0 [0,6]) (s (d r1 [3,9]) (s (d r2 [10,11,12,13,14,15,16,17,18,19,20,21]) (s (d r3 [1,2,7,22,23,24,25,26,27,28,29,30]) (s (d r4 [8,31,32,33]) .ret)))))
end YS
def YS:AFn:=⟨3,YS.c,[.tmp 6],false⟩
namespace YP
def r0:=[o 4 (.c6 (k 0)),o 5 (.c6 (k 0)),o 6 (.c6 (k 0)),o 7 (.c6 (k 0))]
def r1:=[o 4 (.c6 (k 1)),o 7 (.c6 (k 1))]
def r2:=[m 11 1,m 12 6,o 13 (.bin .add 11 12),o 14 (.bin .neq 13 (k 0)),m 15 14,g 16 15 true (.c6 1),g 17 15 true (.c6 7),g 18 15 true (.bin .add 16 17),
 g 19 15 true (.bin .neq 18 (k 0)),o 20 (.pick 15 19 (.c (.bool false)))]
def r3:=[m 21 0,m 22 4,o 23 (.bin .add 21 22),m 24 1,m 25 6,o 26 (.bin .add 24 25),o 27 (.bin .quo 23 26),m 8 27]
def r4:=[m 28 8,m 29 0,m 30 5,o 31 (.bin .add 29 30),m 32 1,m 33 7,o 34 (.bin .add 32 33),o 35 (.bin .quo 31 34),o 36 (.bin .neq 28 35),m 37 36,
 g 38 37 false (.c6 8),g 39 37 false (.bin .gtr 38 (k 2147483647)),o 40 (.pick 37 (.c (.bool true)) 39)]
def r5:=[m 41 4,m 42 8,m 43 6,o 44 (.bin .mul 42 43),o 45 (.bin .sub 41 44),m 46 5,m 47 8,m 48 7,o 49 (.bin .mul 47 48),o 50 (.bin .sub 46 49),m 9 45,m 10 50]
def r6:=[m 51 9,m 52 9,o 53 (.un .neg 52),m 54 10,m 55 10,o 56 (.un .neg 55),o 57 (.mm true [51,53,54,56]),o 58 (.bin .gtr 57 (k 2147483647))]
def r7:=[m 59 6,m 60 7,m 61 9,m 62 10,m 4 59,m 5 60,m 6 61,m 7 62]
def r8:=[m 63 1,m 64 0,m 65 8,m 66 1,o 67 (.bin .mul 65 66),o 68 (.bin .sub 64 67),m 0 63,m 1 68]
def r9:=[m 69 4,m 70 5,m 71 6,m 72 7,m 4 69,m 5 70,m 6 71,m 7 72]
def l1:=(s (s (d r2 [11,12,13,14,15,16,17,18,19]) (i 20 .skip (x 0))) (b 1 (s (d r3 [20,21,22,23,24,25,26,27]) (s (s (d r4 [28,29,30,31,32,33,34,35,36,37,38,39]) (i 40 (x 0) .skip)) (s (d r5 [40,41,42,43,44,45,46,47,48,49,50]) (s (s (d r6 [51,52,53,54,55,56,57]) (i 58 (x 0) .skip)) (s (d r7 [9,10,58,59,60,61,62]) (d r8 [8,63,64,65,66,67,68]))))))))
def c:=(s (d r0 [4,7]) (s (p r1) (s (b 0 (w l1)) (s (d r9 [0,1,8,9,10,20,40,58,69,70,71,72]) .ret))))
end YP
def YP:AFn:=⟨2,YP.c,[.tmp 4,.tmp 5,.tmp 6,.tmp 7],false⟩
namespace YQ
def r0:=[o 8 (.c6 (.c .nil))]
def r1:=[m 14 0,o 15 (.len 14),o 16 (.mk 16 1 4 [(.int .u32 (0))] 15 15),m 9 16]
def r2:=[o 10 (.c6 (k 0))]
def r3:=[m 17 0,o 18 (.len 17),o 19 (.c6 (k 0))]
def r4:=[o 20 (.bin .lss 19 18)]
def r5:=[m 21 19,o 22 (.b9 none 1 17 19),o 23 (.ld false 1 22),m 11 21,m 12 23]
def r6:=[m 24 2,m 25 12,o 26 (.conv .i64 25),o 27 (.bin .mul 24 26),m 28 10,o 29 (.bin .add 27 28),m 13 29]
def r7:=[m 30 11,m 31 1,o 32 (.len 31),o 33 (.bin .lss 30 32)]
def r8:=[m 34 13,m 35 3,m 36 1,m 37 11,o 38 (.b9 none 1 36 37),o 39 (.ld false 1 38),o 40 (.conv .i64 39),o 41 (.bin .mul 35 40),o 42 (.bin .add 34 41),
 m 13 42]
def r9:=[m 43 9,m 44 11,m 45 13,o 46 (.conv .u32 45),o 47 (.b9 none 1 43 44),n (.st 1 47 46)]
def BZ:=[m 48 13,o 49 (.bin .shr 48 (.c (.int .u64 (32)))),m 10 49]
def B8:=[o 50 (.bin .add 19 (k 1)),m 19 50]
def ct:=[m 51 9,o 52 (.m7 65 [51]),m 8 52]
def l1:=(s (p r4) (s (i 20 .skip (x 0)) (s (b 1 (s (d r5 [20,21,22,23]) (s (d r6 [10,12,24,25,26,27,28,29]) (s (s (d r7 [30,31,32]) (i 33 (d r8 [33,34,35,36,37,38,39,40,41,42]) .skip)) (s (d r9 [11,33,43,44,45,46,47]) (d BZ [13,48,49])))))) (d B8 [50]))))
def c:=(s (d r0 [8]) (s (d r1 [14,15,16]) (s (p r2) (s (s (d r3 [0]) (b 0 (w l1))) (s (d ct [1,2,3,9,10,17,18,19,20,51,52]) .ret)))))
end YQ
def YQ:AFn:=⟨4,YQ.c,[.tmp 8],false⟩
namespace YU
def r0:=[o 4 (.c6 (.c .nil)),o 5 (.c6 (.c .nil))]
def r1:=[m 14 0,o 15 (.len 14),m 6 15]
def r2:=[m 16 0,m 17 6,o 18 (.bin .sub 17 (k 1)),o 19 (.b9 none 1 16 18),o 20 (.ld false 1 19),o 21 (.call 64 [20]),o 22 (.conv .u64 21),m 7 22]
def r3:=[m 24 0,m 25 6,m 26 7,o 27 (.call 78 [24,25,26]),m 28 1,m 29 6,m 30 7,o 31 (.call 78 [28,29,30]),o 32 (.call 79 [27,31]),m 23 32,o 33 (.ext 23 0),
 o 34 (.ext 23 1),o 35 (.ext 23 2),o 36 (.ext 23 3),m 8 33,m 9 34,m 10 35,m 11 36]
def r4:=[m 37 9,o 38 (.bin .eql 37 (k 0))]
def r5:=[m 40 0,m 41 1,o 42 (.call 74 [40,41]),m 39 42,o 43 (.ext 39 0),o 44 (.ext 39 1),m 12 43,m 13 44]
def r6:=[m 45 1,m 46 13,m 4 45,m 5 46]
def r7:=[m 47 0,m 48 1,m 49 8,m 50 9,o 51 (.call 80 [47,48,49,50]),m 52 0,m 53 1,m 54 10,m 55 11,o 56 (.call 80 [52,53,54,55]),m 4 51,m 5 56]
def c:=(s (d r0 [4,5]) (s (d r1 [14,15]) (s (d r2 [16,17,18,19,20,21,22]) (s (d r3 [6,7,23,24,25,26,27,28,29,30,31,32,33,34,35,36]) (s (s (d r4 [37]) (i 38 (s (d r5 [0,8,9,10,11,12,38,39,40,41,42,43,44]) (s (d r6 [1,13,45,46]) .ret)) .skip)) (s (d r7 [0,1,8,9,10,11,38,47,48,49,50,51,52,53,54,55,56]) .ret))))))
end YU
def YU:AFn:=⟨2,YU.c,[.tmp 4,.tmp 5],false⟩
namespace G3
def r0:=[o 4 (.c6 (.c .nil))]
def r1:=[m 11 0,o 12 (.call 66 [11]),m 13 1,o 14 (.call 66 [13]),m 5 12,m 6 14]
def r2:=[m 15 5,m 16 6,o 17 (.call 67 [15,16]),o 18 (.bin .lss 17 (k 0))]
def r3:=[m 19 6,m 20 5,m 5 19,m 6 20]
def r4:=[m 21 6,o 22 (.len 21),o 23 (.bin .gtr 22 (k 2))]
def r5:=[m 25 5,m 26 6,o 27 (.call 81 [25,26]),m 24 27,o 28 (.ext 24 0),o 29 (.ext 24 1),m 5 28,m 6 29]
def r6:=[m 30 6,o 31 (.len 30),o 32 (.bin .eql 31 (k 0))]
def r7:=[m 33 5,m 4 33]
def r8:=[m 35 5,m 36 6,o 37 (.call 74 [35,36]),m 34 37,o 38 (.ext 34 0),o 39 (.ext 34 1),m 7 38,m 8 39]
def r9:=[m 40 6,o 41 (.call 76 [40]),m 42 8,o 43 (.call 76 [42]),m 9 41,m 10 43]
def BZ:=[m 44 10,o 45 (.bin .neq 44 (.c (.int .u64 (0))))]
def B8:=[m 46 10,m 47 9,m 48 10,o 49 (.bin .rem 47 48),m 9 46,m 10 49]
def ct:=[m 50 9,o 51 (.conv .u32 50),m 52 9,o 53 (.bin .shr 52 (.c (.int .u64 (32)))),o 54 (.conv .u32 53),o 55 (.m4 55 1 [51,54]),o 56 (.m7 65 [55]),
 m 4 56]
def l1:=(s (s (d r4 [18,21,22]) (i 23 .skip (x 0))) (b 1 (d r5 [23,24,25,26,27,28,29])))
def l2:=(s (s (d BZ [44]) (i 45 .skip (x 2))) (b 3 (e B8 [45,46,47,48,49])))
def c:=(s (d r0 [4]) (s (d r1 [0,1,11,12,13,14]) (s (s (d r2 [15,16,17]) (i 18 (d r3 [18,19,20]) .skip)) (s (b 0 (w l1)) (s (s (d r6 [23,30,31]) (i 32 (s (d r7 [5,6,32,33]) .ret) .skip)) (s (d r8 [5,7,32,34,35,36,37,38,39]) (s (d r9 [6,8,40,41,42,43]) (s (b 2 (w l2)) (s (d ct [9,10,45,50,51,52,53,54,55,56]) .ret)))))))))
end G3
def G3:AFn:=⟨2,G3.c,[.tmp 4],false⟩
structure l9 (L:Lib):Prop where
 XL:L 58=some F.XL
 XM:L 59=some F.XM
 XH:L 60=some F.XH
 XJ:L 61=some F.XJ
 IR:L 62=some F.IR
 YH:L 63=some F.YH
 YG:L 64=some F.YG
 F6:L 65=some F.F6
 YO:L 66=some F.YO
 YK:L 67=some F.YK
 YJ:L 68=some F.YJ
 YN:L 69=some F.YN
 YM:L 70=some F.YM
 QF:L 71=some F.QF
 YT:L 72=some F.YT
 GC:L 73=some F.GC
 YR:L 74=some F.YR
 YL:L 75=some F.YL
 YV:L 76=some F.YV
 J6:L 77=some F.J6
 YS:L 78=some F.YS
 YP:L 79=some F.YP
 YQ:L 80=some F.YQ
 YU:L 81=some F.YU
 G3:L 82=some F.G3
end Go.e9.F

namespace Go.e9.F
open C
namespace DJ
def r0:=[o 4 (.alloc 83004 [(.bool false),.nil])]
def r1:=[m 5 0,m 6 5,g 7 6 true (.c6 1),g 8 6 true (.len 7),g 9 6 true (.bin .gtr 8 (k 0)),o 10 (.pick 6 9 (.c (.bool false))),m 11 1,
 o 12 (.build [(.bool false),.nil] [(0,1,10),(1,1,11)]),n (.st 2 4 12)]
def c:=(s (p r0) (s (d r1 [0,1,5,6,7,8,9,10,11,12]) .ret))
end DJ
def DJ:AFn:=⟨2,DJ.c,[.cell 4 true 2],false⟩
namespace XY
def r0:=[o 1 (.box 1 0),o 2 (.alloc 2 [(.bool false),.nil])]
def r1:=[o 3 (.a7 1 0),o 4 (.ld false 1 3),o 5 (.a7 1 1),o 6 (.ld false 1 5),o 7 (.call 66 [6]),o 8 (.m7 83 [4,7]),n (.st 2 2 8)]
def c:=(s (d r0 [0]) (s (e r1 [1,3,4,5,6,7,8]) .ret))
end XY
def XY:AFn:=⟨1,XY.c,[.cell 2 true 2],false⟩
namespace XW
def r0:=[o 2 (.alloc 2 [(.bool false),.nil])]
def r1:=[m 4 0,o 5 (.conv .u64 4),m 3 5]
def r2:=[m 6 0,o 7 (.bin .lss 6 (k 0))]
def r3:=[m 8 3,o 9 (.un .neg 8),m 3 9]
def r4:=[m 10 0,o 11 (.bin .lss 10 (k 0)),m 12 3,o 13 (.conv .u32 12),m 14 3,o 15 (.bin .shr 14 (.c (.int .u64 (32)))),o 16 (.conv .u32 15),
 o 17 (.m4 17 1 [13,16]),o 18 (.call 66 [17]),o 19 (.m7 83 [11,18]),n (.st 2 2 19)]
def c:=(s (p r0) (s (d r1 [4,5]) (s (s (d r2 [6]) (i 7 (d r3 [7,8,9]) .skip)) (s (d r4 [0,3,7,10,11,12,13,14,15,16,17,18,19]) .ret))))
end XW
def XW:AFn:=⟨1,XW.c,[.cell 2 true 2],false⟩
namespace XX
def r0:=[o 1 (.box 1 0),o 2 (.c6 (k 0))]
def r1:=[o 4 (.a7 1 1),o 5 (.ld false 1 4),o 6 (.call 67 [5,(.c .nil)]),o 7 (.bin .eql 6 (k 0)),m 3 7]
def r2:=[o 2 (.c6 (k 0))]
def r3:=[o 9 (.a7 1 0),o 10 (.ld false 1 9),m 8 10]
def r4:=[o 2 (.c6 (k (-1)))]
def r5:=[o 2 (.c6 (k 1))]
def c:=(s (d r0 [0,2]) (s (b 0 (s (d r1 [4,5,6,7]) (i 3 (s (d r2 [1,3]) .ret) (s (d r3 [1,3,9,10]) (i 8 (s (d r4 [8]) .ret) .skip))))) (s (d r5 [8]) .ret)))
end XX
def XX:AFn:=⟨1,XX.c,[.tmp 2],false⟩
namespace XT
def r0:=[o 2 (.box 2 0),o 3 (.box 3 1),o 4 (.alloc 4 [(.bool false),.nil])]
def r1:=[o 5 (.a7 2 0),o 6 (.ld false 1 5),o 7 (.a7 3 0),o 8 (.ld false 1 7),o 9 (.beq false 6 8)]
def r2:=[o 10 (.a7 2 0),o 11 (.ld false 1 10),o 12 (.a7 2 1),o 13 (.ld false 1 12),o 14 (.a7 3 1),o 15 (.ld false 1 14),o 16 (.call 68 [13,15]),
 o 17 (.m7 83 [11,16]),n (.st 2 4 17)]
def r3:=[o 18 (.a7 2 1),o 19 (.ld false 1 18),o 20 (.a7 3 1),o 21 (.ld false 1 20),o 22 (.call 67 [19,21]),o 23 (.bin .eql 22 (k (-1)))]
def r4:=[o 24 (.a7 3 0),o 25 (.ld false 1 24),o 26 (.a7 3 1),o 27 (.ld false 1 26),o 28 (.a7 2 1),o 29 (.ld false 1 28),o 30 (.call 69 [27,29]),
 o 31 (.m7 83 [25,30]),n (.st 2 4 31)]
def r5:=[o 32 (.a7 2 0),o 33 (.ld false 1 32),o 34 (.a7 2 1),o 35 (.ld false 1 34),o 36 (.a7 3 1),o 37 (.ld false 1 36),o 38 (.call 69 [35,37]),
 o 39 (.m7 83 [33,38]),n (.st 2 4 39)]
def c:=(s (d r0 [0,1]) (s (s (d r1 [5,6,7,8]) (i 9 (s (e r2 [2,3,9,10,11,12,13,14,15,16,17]) .ret) .skip)) (s (s (d r3 [9,18,19,20,21,22]) (i 23 (s (e r4 [2,3,23,24,25,26,27,28,29,30,31]) .ret) .skip)) (s (e r5 [2,3,23,32,33,34,35,36,37,38,39]) .ret))))
end XT
def XT:AFn:=⟨2,XT.c,[.cell 4 true 2],false⟩
namespace XV
def r0:=[o 2 (.box 2 0),o 3 (.box 3 1),o 4 (.alloc 4 [(.bool false),.nil])]
def r1:=[o 5 (.a7 2 0),o 6 (.ld false 1 5),o 7 (.a7 3 0),o 8 (.ld false 1 7),o 9 (.beq true 6 8),o 10 (.a7 2 1),o 11 (.ld false 1 10),o 12 (.a7 3 1),
 o 13 (.ld false 1 12),o 14 (.call 70 [11,13]),o 15 (.m7 83 [9,14]),n (.st 2 4 15)]
def c:=(s (d r0 [0,1]) (s (e r1 [2,3,5,6,7,8,9,10,11,12,13,14,15]) .ret))
end XV
def XV:AFn:=⟨2,XV.c,[.cell 4 true 2],false⟩
namespace KF
def r0:=[o 1 (.box 1 0),o 2 (.alloc 2 [(.bool false),.nil,.nil,(.bool false)])]
def r1:=[o 3 (.a7 1 2),o 4 (.ld false 1 3),o 5 (.len 4),o 6 (.bin .eql 5 (k 1)),m 7 6,g 8 7 true (.a7 1 2),g 9 7 true (.ld false 1 8),
 g 10 7 true (.b9 none 1 9 (k 0)),g 11 7 true (.ld false 1 10),g 12 7 true (.bin .eql 11 (.c (.int .u32 (1)))),o 13 (.pick 7 12 (.c (.bool false)))]
def r2:=[o 14 (.a7 1 0),o 15 (.ld true 2 14),o 16 (.a7 1 2),o 17 (.ld false 1 16),o 18 (.build [(.bool false),.nil,.nil] [(0,2,15),(2,1,17)]),
 o 19 (.build [(.bool false),.nil,.nil,(.bool false)] [(0,3,18),(3,1,(.c (.bool true)))]),n (.st 4 2 19)]
def r3:=[o 20 (.a7 1 2),o 21 (.ld false 1 20),o 22 (.call 67 [21,(.c .nil)]),o 23 (.bin .eql 22 (k 0))]
def r4:=[o 24 (.build [(.bool false),.nil] []),o 25 (.m4 25 1 [(.c (.int .u32 (1)))]),o 26 (.build [(.bool false),.nil,.nil] [(0,2,24),(2,1,25)]),
 o 27 (.build [(.bool false),.nil,.nil,(.bool false)] [(0,3,26),(3,1,(.c (.bool true)))]),n (.st 4 2 27)]
def r5:=[o 28 (.a7 1 0),o 29 (.ld true 2 28),o 30 (.a7 1 2),o 31 (.ld false 1 30),o 32 (.build [(.bool false),.nil,.nil] [(0,2,29),(2,1,31)]),
 o 33 (.build [(.bool false),.nil,.nil,(.bool false)] [(0,3,32),(3,1,(.c (.bool false)))]),n (.st 4 2 33)]
def c:=(s (d r0 [0]) (s (s (d r1 [3,4,5,6,7,8,9,10,11,12]) (i 13 (s (d r2 [1,13,14,15,16,17,18,19]) .ret) .skip)) (s (s (d r3 [13,20,21,22]) (i 23 (s (d r4 [1,23,24,25,26,27]) .ret) .skip)) (s (d r5 [1,23,28,29,30,31,32,33]) .ret))))
end KF
def KF:AFn:=⟨1,KF.c,[.cell 2 true 4],false⟩
namespace ZS
def r0:=[o 2 (.c6 (.c (.bool false)))]
def r1:=[m 3 0,o 4 (.len 3),o 5 (.bin .eql 4 (k 1)),m 6 5,g 7 6 true (.c6 0),g 8 6 true (.b9 none 1 7 (k 0)),g 9 6 true (.ld false 1 8),
 g 10 6 true (.bin .eql 9 (.c (.int .u32 (1)))),o 11 (.pick 6 10 (.c (.bool false))),m 2 11]
def c:=(s (d r0 [2]) (s (d r1 [0,3,4,5,6,7,8,9,10,11]) .ret))
end ZS
def ZS:AFn:=⟨1,ZS.c,[.tmp 2],false⟩
namespace ZT
def r0:=[o 2 (.alloc 2 [(.bool false),.nil])]
def r1:=[m 3 0,o 4 (.build [(.bool false),.nil] [(1,1,3)]),n (.st 2 2 4)]
def c:=(s (p r0) (s (d r1 [0,3,4]) .ret))
end ZT
def ZT:AFn:=⟨1,ZT.c,[.cell 2 true 2],false⟩
namespace IM
def r0:=[o 1 (.box 92001 0),o 2 (.alloc 92002 [(.bool false),.nil,.nil])]
def r1:=[o 3 (.ld true 2 1),o 4 (.m4 92004 1 [(.c (.int .u32 (1)))]),o 5 (.build [(.bool false),.nil,.nil] [(0,2,3),(2,1,4)]),n (.st 3 2 5)]
def c:=(s (d r0 [0]) (s (d r1 [1,3,4,5]) .ret))
end IM
def IM:AFn:=⟨1,IM.c,[.cell 2 true 3],false⟩
namespace ZV
def r0:=[o 2 (.box 93002 0),o 3 (.box 93003 1),o 4 (.alloc 93004 [(.bool false),.nil,.nil])]
def r1:=[o 5 (.a7 2 0),o 6 (.ld false 1 5),o 7 (.a7 3 0),o 8 (.ld false 1 7),o 9 (.beq true 6 8),o 10 (.a7 2 1),o 11 (.ld false 1 10),
 o 12 (.build [(.bool false),.nil] [(0,1,9),(1,1,11)]),o 13 (.a7 3 1),o 14 (.ld false 1 13),
 o 15 (.build [(.bool false),.nil,.nil] [(0,2,12),(2,1,14)]),n (.st 3 4 15)]
def c:=(s (d r0 [0,1]) (s (d r1 [2,3,5,6,7,8,9,10,11,12,13,14,15]) .ret))
end ZV
def ZV:AFn:=⟨2,ZV.c,[.cell 4 true 3],false⟩
namespace ZU
def r0:=[o 1 (.box 1 0),o 2 (.alloc 2 [(.bool false),.nil,.nil])]
def r1:=[o 14 (.a7 1 0),o 15 (.a7 14 1),o 16 (.ld false 1 15),o 17 (.a7 1 2),o 18 (.ld false 1 17),o 19 (.call 75 [16,18]),m 13 19,o 20 (.ext 13 0),
 o 21 (.ext 13 1),o 22 (.ext 13 2),m 3 20,m 4 21,m 5 22]
def r2:=[m 23 4,o 24 (.len 23),o 25 (.bin .eql 24 (k 0))]
def r3:=[o 26 (.a7 1 0),o 27 (.a7 26 0),o 28 (.ld false 1 27),m 29 3,o 30 (.build [(.bool false),.nil] [(0,1,28),(1,1,29)]),o 31 (.call 84 [30]),
 o 32 (.m7 92 [31]),n (.st 3 2 32)]
def r4:=[o 33 (.a7 1 2),o 34 (.ld false 1 33),m 35 4,o 36 (.call 82 [34,35]),m 6 36]
def r5:=[m 37 6,o 38 (.call 90 [37])]
def r6:=[o 39 (.a7 1 0),o 40 (.ld true 2 39),o 41 (.call 84 [40]),o 42 (.a7 1 2),o 43 (.ld false 1 42),o 44 (.call 66 [43]),
 o 45 (.build [(.bool false),.nil,.nil] [(0,2,41),(2,1,44)]),n (.st 3 2 45)]
def r7:=[o 47 (.a7 1 0),o 48 (.a7 47 1),o 49 (.ld false 1 48),m 50 6,o 51 (.call 75 [49,50]),m 46 51,o 52 (.ext 46 0),o 53 (.ext 46 1),o 54 (.ext 46 2),
 m 7 52,m 8 53,m 9 54]
def r8:=[o 56 (.a7 1 2),o 57 (.ld false 1 56),m 58 6,o 59 (.call 75 [57,58]),m 55 59,o 60 (.ext 55 0),o 61 (.ext 55 1),o 62 (.ext 55 2),m 10 60,m 11 61,
 m 12 62]
def r9:=[o 63 (.a7 1 0),o 64 (.a7 63 0),o 65 (.ld false 1 64),m 66 7,o 67 (.build [(.bool false),.nil] [(0,1,65),(1,1,66)]),m 68 10,
 o 69 (.build [(.bool false),.nil,.nil] [(0,2,67),(2,1,68)]),n (.st 3 2 69)]
def c:=(s (d r0 [0]) (s (d r1 [5,13,14,15,16,17,18,19,20,21,22]) (s (s (d r2 [23,24]) (i 25 (s (d r3 [1,3,4,25,26,27,28,29,30,31,32]) .ret) .skip)) (s (d r4 [3,4,25,33,34,35,36]) (s (s (d r5 [37]) (i 38 (s (e r6 [1,6,38,39,40,41,42,43,44,45]) .ret) .skip)) (s (d r7 [8,9,38,46,47,48,49,50,51,52,53,54]) (s (d r8 [6,11,12,55,56,57,58,59,60,61,62]) (s (d r9 [1,7,10,63,64,65,66,67,68,69]) .ret))))))))
end ZU
def ZU:AFn:=⟨1,ZU.c,[.cell 2 true 3],false⟩
namespace ZQ
def r0:=[o 1 (.box 1 0),o 2 (.alloc 2 [(.bool false),.nil,.nil])]
def r1:=[o 3 (.ld true 3 1),o 4 (.w9 89 [3]),o 5 (.ry 4 0 3 true),o 6 (.call 94 [5]),n (.st 3 2 6)]
def c:=(s (d r0 [0]) (s (d r1 [1,3,4,5,6]) .ret))
end ZQ
def ZQ:AFn:=⟨1,ZQ.c,[.cell 2 true 3],false⟩
namespace ZN
def r0:=[o 2 (.alloc 2 [(.bool false),.nil,.nil])]
def r1:=[m 3 0,o 4 (.call 85 [3]),o 5 (.m7 92 [4]),n (.st 3 2 5)]
def c:=(s (p r0) (s (d r1 [0,3,4,5]) .ret))
end ZN
def ZN:AFn:=⟨1,ZN.c,[.cell 2 true 3],false⟩
namespace ZO
def r0:=[o 1 (.box 1 0),o 2 (.c6 (k 0))]
def r1:=[o 3 (.ld true 3 1),o 4 (.w9 89 [3]),o 5 (.ry 4 0 3 true),o 6 (.ry 5 0 2 true),o 7 (.call 86 [6]),m 2 7]
def c:=(s (d r0 [0,2]) (s (d r1 [1,3,4,5,6,7]) .ret))
end ZO
def ZO:AFn:=⟨1,ZO.c,[.tmp 2],false⟩
namespace KE
def r0:=[o 2 (.box 2 0),o 3 (.box 3 1),o 4 (.alloc 4 [(.bool false),.nil,.nil])]
def r1:=[q 8 [5,6] (.ld true 3 2),q 9 [5,6] (.w9 89 [8]),q 10 [5,6] (.ld true 3 3),q 11 [5,6] (.w9 89 [10]),
 o 5 (.alloc 5 [(.bool false),.nil,.nil,(.bool false)]),o 6 (.alloc 6 [(.bool false),.nil,.nil,(.bool false)]),n (.st 4 5 9),n (.st 4 6 11)]
def r2:=[o 12 (.a7 5 3),o 13 (.ld false 1 12),m 14 13,g 15 14 true (.a7 6 3),g 16 14 true (.ld false 1 15),o 17 (.pick 14 16 (.c (.bool false)))]
def r3:=[o 18 (.a7 5 0),o 19 (.a7 18 0),o 20 (.ld true 2 19),o 21 (.a7 6 0),o 22 (.a7 21 0),o 23 (.ld true 2 22),o 24 (.call 87 [20,23]),
 o 25 (.m7 92 [24]),n (.st 3 4 25)]
def r4:=[o 26 (.a7 5 0),o 27 (.a7 26 2),o 28 (.ld false 1 27),o 29 (.a7 6 0),o 30 (.a7 29 2),o 31 (.ld false 1 30),o 32 (.call 67 [28,31]),
 o 33 (.bin .eql 32 (k 0))]
def r5:=[o 34 (.a7 5 0),o 35 (.a7 34 0),o 36 (.ld true 2 35),o 37 (.a7 6 0),o 38 (.a7 37 0),o 39 (.ld true 2 38),o 40 (.call 87 [36,39]),
 o 41 (.a7 5 0),o 42 (.a7 41 2),o 43 (.ld false 1 42),o 44 (.build [(.bool false),.nil,.nil] [(0,2,40),(2,1,43)]),o 45 (.call 94 [44]),
 n (.st 3 4 45)]
def r6:=[o 46 (.a7 5 0),o 47 (.a7 46 0),q 48 [7] (.ld true 2 47),o 49 (.a7 6 0),o 50 (.a7 49 2),q 51 [7] (.ld false 1 50),
 q 52 [7] (.w9 91 [51]),q 53 [7] (.call 88 [48,52]),o 54 (.a7 6 0),o 55 (.a7 54 0),q 56 [7] (.ld true 2 55),
 o 57 (.a7 5 0),o 58 (.a7 57 2),q 59 [7] (.ld false 1 58),q 60 [7] (.w9 91 [59]),q 61 [7] (.call 88 [56,60]),
 q 62 [7] (.call 87 [53,61]),o 7 (.alloc 7 [(.bool false),.nil]),n (.st 2 7 62)]
def r7:=[o 63 (.ld true 2 7),o 64 (.a7 5 0),o 65 (.a7 64 2),o 66 (.ld false 1 65),o 67 (.a7 6 0),o 68 (.a7 67 2),o 69 (.ld false 1 68),
 o 70 (.call 70 [66,69]),o 71 (.build [(.bool false),.nil,.nil] [(0,2,63),(2,1,70)]),o 72 (.call 94 [71]),n (.st 3 4 72)]
def c:=(s (d r0 [0,1]) (s (e r1 [2,3,8,9,10,11]) (s (s (d r2 [12,13,14,15,16]) (i 17 (s (d r3 [5,6,17,18,19,20,21,22,23,24,25]) .ret) .skip)) (s (s (d r4 [17,26,27,28,29,30,31,32]) (i 33 (s (e r5 [5,6,33,34,35,36,37,38,39,40,41,42,43,44,45]) .ret) .skip)) (s (e r6 [33,46,47,48,49,50,51,52,53,54,55,56,57,58,59,60,61,62]) (s (e r7 [5,6,7,63,64,65,66,67,68,69,70,71,72]) .ret))))))
end KE
def KE:AFn:=⟨2,KE.c,[.cell 4 true 3],false⟩
namespace R1
def r0:=[o 2 (.box 2 0),o 3 (.box 3 1),o 4 (.alloc 4 [(.bool false),.nil,.nil])]
def r1:=[q 8 [5,6] (.ld true 3 2),q 9 [5,6] (.w9 89 [8]),q 10 [5,6] (.ld true 3 3),q 11 [5,6] (.w9 89 [10]),
 o 5 (.alloc 5 [(.bool false),.nil,.nil,(.bool false)]),o 6 (.alloc 6 [(.bool false),.nil,.nil,(.bool false)]),n (.st 4 5 9),n (.st 4 6 11)]
def r2:=[o 12 (.a7 5 0),o 13 (.a7 12 0),o 14 (.ld true 2 13),o 15 (.a7 6 0),o 16 (.a7 15 0),o 17 (.ld true 2 16),o 18 (.call 88 [14,17]),
 o 7 (.alloc 7 [(.bool false),.nil]),n (.st 2 7 18)]
def r3:=[o 19 (.a7 5 3),o 20 (.ld false 1 19),m 21 20,g 22 21 true (.a7 6 3),g 23 21 true (.ld false 1 22),o 24 (.pick 21 23 (.c (.bool false)))]
def r4:=[o 25 (.ld true 2 7),o 26 (.m7 92 [25]),n (.st 3 4 26)]
def r5:=[o 27 (.ld true 2 7),o 28 (.a7 5 0),o 29 (.a7 28 2),o 30 (.ld false 1 29),o 31 (.a7 6 0),o 32 (.a7 31 2),o 33 (.ld false 1 32),
 o 34 (.call 70 [30,33]),o 35 (.build [(.bool false),.nil,.nil] [(0,2,27),(2,1,34)]),o 36 (.call 94 [35]),n (.st 3 4 36)]
def c:=(s (d r0 [0,1]) (s (e r1 [2,3,8,9,10,11]) (s (d r2 [12,13,14,15,16,17,18]) (s (s (d r3 [19,20,21,22,23]) (i 24 (s (d r4 [5,6,7,24,25,26]) .ret) .skip)) (s (e r5 [5,6,7,24,27,28,29,30,31,32,33,34,35,36]) .ret)))))
end R1
def R1:AFn:=⟨2,R1.c,[.cell 4 true 3],false⟩
namespace ZL
def r0:=[o 2 (.box 2 0),o 3 (.box 3 1),o 4 (.alloc 4 [(.bool false),.nil,.nil]),o 5 (.c6 (k 0))]
def r1:=[q 10 [6,7] (.ld true 3 2),q 11 [6,7] (.w9 89 [10]),q 12 [6,7] (.ld true 3 3),q 13 [6,7] (.w9 89 [12]),
 o 6 (.alloc 6 [(.bool false),.nil,.nil,(.bool false)]),o 7 (.alloc 7 [(.bool false),.nil,.nil,(.bool false)]),n (.st 4 6 11),n (.st 4 7 13)]
def r2:=[o 14 (.a7 7 0),o 15 (.a7 14 0),o 16 (.ld true 2 15),o 17 (.call 86 [16]),o 18 (.bin .eql 17 (k 0))]
def r3:=[o 19 (.build [(.bool false),.nil,.nil] []),n (.st 3 4 19),o 5 (.c6 (k 3))]
def r4:=[o 20 (.a7 6 0),o 21 (.a7 20 0),q 22 [8] (.ld true 2 21),o 23 (.a7 7 0),o 24 (.a7 23 2),q 25 [8] (.ld false 1 24),
 q 26 [8] (.w9 91 [25]),q 27 [8] (.call 88 [22,26]),o 8 (.alloc 8 [(.bool false),.nil]),n (.st 2 8 27)]
def r5:=[o 28 (.a7 6 0),o 29 (.a7 28 2),q 30 [9] (.ld false 1 29),q 31 [9] (.w9 91 [30]),o 32 (.a7 7 0),o 33 (.a7 32 0),
 q 34 [9] (.ld true 2 33),q 35 [9] (.call 88 [31,34]),o 9 (.alloc 9 [(.bool false),.nil]),n (.st 2 9 35)]
def r6:=[o 36 (.ld true 2 8),o 37 (.ld true 2 9),o 38 (.m7 93 [36,37]),o 39 (.call 94 [38]),n (.st 3 4 39),o 5 (.c6 (k 0))]
def c:=(s (d r0 [0,1,5]) (s (e r1 [2,3,10,11,12,13]) (s (s (d r2 [14,15,16,17]) (i 18 (s (d r3 [6,7,18,19]) .ret) .skip)) (s (e r4 [18,20,21,22,23,24,25,26,27]) (s (e r5 [6,7,28,29,30,31,32,33,34,35]) (s (d r6 [8,9,36,37,38,39]) .ret))))))
end ZL
def ZL:AFn:=⟨2,ZL.c,[.cell 4 true 3,.tmp 5],false⟩
structure a5 (L:Lib):Prop extends l9 L where
 DJ:L 83=some F.DJ
 XY:L 84=some F.XY
 XW:L 85=some F.XW
 XX:L 86=some F.XX
 XT:L 87=some F.XT
 XV:L 88=some F.XV
 KF:L 89=some F.KF
 ZS:L 90=some F.ZS
 ZT:L 91=some F.ZT
 IM:L 92=some F.IM
 ZV:L 93=some F.ZV
 ZU:L 94=some F.ZU
 ZQ:L 95=some F.ZQ
 ZN:L 96=some F.ZN
 ZO:L 97=some F.ZO
 KE:L 98=some F.KE
 R1:L 99=some F.R1
 ZL:L 100=some F.ZL
end Go.e9.F
