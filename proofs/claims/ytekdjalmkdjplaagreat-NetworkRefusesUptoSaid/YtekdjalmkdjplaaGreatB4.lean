/-
  A region that draws its order: whatever the order, what the order of the text gives.
-/
import Derived.Test.YtekdjalmkdjplaaGreatB3
import Derived.Test.YtekdjalmkdjplaaGreatB1
import Derived.IntWalk
set_option linter.unusedSimpArgs false
set_option linter.unusedVariables false
set_option linter.unnecessarySimpa false
namespace Go.c8
open Go.RowKit
section
variable {T T':Nat->AV} {C:Cl} {a7:List Nat} {own:AE}
theorem C4 {x:AM} (h : ∀ t∈CH x,T t=T' t):DG T x=DG T' x:=by
 cases x with
 | t n=>exact h n (by simp [CH])
 | c v=>rfl
theorem O5 {xs:List AM} (h : ∀ t∈xs.flatMap CH,T t=T' t):xs.map (DG T)=xs.map (DG T') :=
 List.map_congr_left λ x hx=>C4 λ t ht=>h t (List.mem_flatMap.2 ⟨x,hx,ht⟩)
theorem jO {x:Option AM} (h : ∀ t∈YX x,T t=T' t) {y:AM} (hy:x=some y):DG T y=DG T' y:=by
 subst hy;exact C4 h
theorem tZ {op:C2} (h : ∀ t∈GQ op,T t=T' t):c5 C a7 (DG T) own op=c5 C a7 (DG T') own op:=by
 cases op with
 | build z ps =>
  simp only[c5];congr 2;refine List.map_congr_left λ p hp => ?_
  rw[C4 (x:=p.2.2) λ t ht=>h t (by simp only[GQ];exact List.mem_flatMap.2 ⟨p,hp,ht⟩)]
 | b9 s a4 ps =>
  have hm:ps.mapM (λ x=>cellsOf (DG T x))=ps.mapM (λ x=>cellsOf (DG T' x)):=by
   have e : ∀ l:List AM,(∀ x∈l,DG T x=DG T' x)->l.mapM (λ x=>cellsOf (DG T x))=l.mapM (λ x=>cellsOf (DG T' x)):=by
    intro l;induction l with
    | nil=>intro _;rfl
    | cons x r ih=>intro hl;simp only[List.mapM_cons];rw[hl x (by simp),ih λ y hy=>hl y (by simp [hy])]
   exact e ps λ x hx=>C4 λ t ht=>h t (by simp only[GQ];exact List.mem_flatMap.2 ⟨x,hx,ht⟩)
  simp only[c5,hm]
 | mm mx xs=>simp only[c5];rw[O5 (xs:=xs) h]
 | call f xs=>simp only[c5];rw[O5 (xs:=xs) h]
 | c4 f xs=>simp only[c5];rw[O5 (xs:=xs) h]
 | kn ne x=>simp only[c5];rw[C4 (x:=x) h]
 | bad=>rfl
 | bn tb x=>simp only[c5];rw[C4 (x:=x) h]
 | jb p f xs =>
  have e : ∀ l:List AM,(∀ x∈l,DG T x=DG T' x)->l.mapM (λ x=>FQ (DG T x))=l.mapM (λ x=>FQ (DG T' x)):=by
   intro l;induction l with
   | nil=>intro _;rfl
   | cons x r ih=>intro hl;simp only[List.mapM_cons];rw[hl x (by simp),ih λ y hy=>hl y (by simp [hy])]
  simp only[c5];rw[e xs λ x hx=>C4 λ t ht=>h t (by simp only[GQ];exact List.mem_flatMap.2 ⟨x,hx,ht⟩)]
 | l7 f xs=>simp only[c5];rw[O5 (xs:=xs) h]
 | n6 s f xs=>simp only[c5];rw[O5 (xs:=xs) h]
 | w5 s f xs=>simp only[c5];rw[O5 (xs:=xs) h]
 | il s n x v =>
  simp only[GQ,List.mem_append]at h;simp only[c5];rw[C4 (x:=x) λ t ht=>h t (.inl ht),C4 (x:=v) λ t ht=>h t (.inr ht)]
 | l8 x xs =>
  simp only[GQ,List.mem_append]at h;simp only[c5];rw[C4 (x:=x) λ t ht=>h t (.inl ht),O5 (xs:=xs) λ t ht=>h t (.inr ht)]
 | de a4 x lo hi =>
  simp only[GQ,List.mem_append]at h;have hx:DG T x=DG T' x:=C4 λ t ht=>h t (.inl (.inl ht))
  have gx : ∀ y,lo=some y->DG T y=DG T' y:=λ y hy=>jO (λ t ht=>h t (.inl (.inr ht))) hy
  have Ak : ∀ y,hi=some y->DG T y=DG T' y:=λ y hy=>jO (λ t ht=>h t (.inr ht)) hy
  simp only[c5,hx];cases lo with
  | none=>cases hi with
   | none=>rfl
   | some y=>simp only[Ak y rfl]
  | some z=>cases hi with
   | none=>simp only[gx z rfl]
   | some y=>simp only[gx z rfl,Ak y rfl]
 | u9=>rfl
 | alloc=>rfl
 | m8 x=>simp only[c5];rw[C4 (x:=x) h]
 | un f x=>simp only[c5];rw[C4 (x:=x) h]
 | conv k x=>simp only[c5];rw[C4 (x:=x) h]
 | box s x=>simp only[c5];rw[C4 (x:=x) h]
 | m4 x off=>simp only[c5];rw[C4 (x:=x) h]
 | gu x off n agg=>simp only[c5];rw[C4 (x:=x) h]
 | ld agg n x=>simp only[c5];rw[C4 (x:=x) h]
 | ext x i=>simp only[c5];rw[C4 (x:=x) h]
 | len x=>simp only[c5];rw[C4 (x:=x) h]
 | pick c x y =>
  simp only[GQ,List.mem_append]at h;simp only[c5];rw[C4 (x:=c) λ t ht=>h t (.inl (.inl ht)),C4 (x:=x) λ t ht=>h t (.inl (.inr ht)),C4 (x:=y) λ t ht=>h t (.inr ht)]
 | bin f x y =>
  simp only[GQ,List.mem_append]at h;simp only[c5];rw[C4 (x:=x) λ t ht=>h t (.inl ht),C4 (x:=y) λ t ht=>h t (.inr ht)]
 | beq ne x y =>
  simp only[GQ,List.mem_append]at h;simp only[c5];rw[C4 (x:=x) λ t ht=>h t (.inl ht),C4 (x:=y) λ t ht=>h t (.inr ht)]
 | o6 arr a4 x i =>
  simp only[GQ,List.mem_append]at h;simp only[c5];rw[C4 (x:=x) λ t ht=>h t (.inl ht),C4 (x:=i) λ t ht=>h t (.inr ht)]
 | st n x v =>
  simp only[GQ,List.mem_append]at h;simp only[c5];rw[C4 (x:=x) λ t ht=>h t (.inl ht),C4 (x:=v) λ t ht=>h t (.inr ht)]
 | mk s a4 bytes z l c =>
  simp only[GQ,List.mem_append]at h;simp only[c5];rw[C4 (x:=l) λ t ht=>h t (.inl ht),C4 (x:=c) λ t ht=>h t (.inr ht)]
 | app s a4 bytes x y =>
  simp only[GQ,List.mem_append]at h;simp only[c5];rw[C4 (x:=x) λ t ht=>h t (.inl ht),C4 (x:=y) λ t ht=>h t (.inr ht)]
theorem gO (o:AE) (l:List Nat) (s:Nat):o.j9 l s=if s∈l then ⟨0,λ_=>none⟩ else o s:=by
 induction l with
 | nil=>simp [AE.j9]
 | cons x r ih =>
  simp only[AE.j9,List.mem_cons];by_cases h:s=x
  ·simp [h]
  ·rw[if_neg h,ih]
   simp [h]
theorem xT {o o':AE} {l:List Nat} (h : ∀ s,s ∉ l->o s=o' s):o.j9 l=o'.j9 l:=by
 funext s
 rw[gO,gO];split
 ·rfl
 ·rename_i hs;exact h s hs
end
section
variable {ops:Array Oper}
def inner (acc:Array Nat) (o:Oper):Nat:=o.after.foldl (λ s e=>if Region.binds .any e then s ||| 2^e.on ||| acc.getD e.on 0 else s) 0
theorem yC (acc:Array Nat) (o:Oper) (j:Nat) (h:(inner acc o).testBit j=true) : ∃ e∈o.after,Region.binds .any e=true/\(e.on=j\/(acc.getD e.on 0).testBit j=true):=by
 unfold inner at h;rw[<-Array.foldl_toList]at h;have key : ∀ (l:List Edge) (s:Nat),(l.foldl (λ s e=>if Region.binds .any e then s ||| 2^e.on ||| acc.getD e.on 0 else s) s).testBit j=true->s.testBit j=true \/ ∃ e∈l,Region.binds .any e=true/\(e.on=j\/(acc.getD e.on 0).testBit j=true):=by
  intro l;induction l with
  | nil=>intro s hs;exact .inl hs
  | cons e r ih =>
   intro s hs;simp only[List.foldl_cons]at hs;rcases ih _ hs with h1|⟨e',cw,h2⟩
   ·by_cases hb:Region.binds .any e=true
    ·simp only[hb,if_true,Nat.testBit_or,Bool.or_eq_true,Nat.testBit_two_pow,decide_eq_true_eq]at h1
     rcases h1 with (h1|h1)|h1
     ·exact .inl h1
     ·exact .inr ⟨e,by simp,hb,.inl h1⟩
     ·exact .inr ⟨e,by simp,hb,.inr h1⟩
    ·simp only[hb,Bool.false_eq_true,if_false]at h1
     exact .inl h1
   ·exact .inr ⟨e',by simp [cw],h2⟩
 rcases key _ _ h with h|⟨e,he,h⟩
 ·simp at h
 ·exact ⟨e,by simpa using he,h⟩
theorem qG (i j:Nat) (h:((Region.before ops).getD i 0).testBit j=true) : ∃ o,ops[i]? = some o /\ ∃ e∈o.after,Region.binds .any e=true/\(e.on=j\/(e.on<i/\((Region.before ops).getD e.on 0).testBit j=true)):=by
 have key : ∀ (rest:List Oper) (done:List Oper) (acc:Array Nat),acc.size=done.length ->
   (∀ i j,(acc.getD i 0).testBit j=true -> ∃ o,done[i]? = some o /\ ∃ e∈o.after,Region.binds .any e=true/\(e.on=j\/(e.on<i/\(acc.getD e.on 0).testBit j=true))) ->
   ∀ i j,((rest.foldl (λ acc o=>acc.push (inner acc o)) acc).getD i 0).testBit j=true -> ∃ o,(done++rest)[i]? = some o /\ ∃ e∈o.after,Region.binds .any e=true/\(e.on=j\/(e.on<i/\((rest.foldl (λ acc o=>acc.push (inner acc o)) acc).getD e.on 0).testBit j=true)):=by
  intro rest;induction rest with
  | nil=>intro done acc hs hinv i j hj;simpa using hinv i j hj
  | cons o r ih =>
   intro done acc hs hinv i j hj;simp only[List.foldl_cons]at hj ⊢;have:=ih (done++[o]) (acc.push (inner acc o)) (by simp [hs]) (λ i j qp => ?_) i j hj
   ·simpa using this
   ·have l6 : ∀ k,k<acc.size->(acc.push (inner acc o)).getD k 0=acc.getD k 0:=λ k hk=>by
     simp [Array.getD,hk,Nat.lt_succ_of_lt hk,Array.getElem_push_lt hk]
    by_cases hi:i<acc.size
    ·rw[l6 i hi]at qp
     obtain ⟨o',pe,e,he,hb,ae⟩:=hinv i j qp;refine ⟨o',by rw[List.getElem?_append_left (by omega)];exact pe,e,he,hb,ae.imp id λ⟨h1,h2⟩=>⟨h1,by rw[l6 e.on (by omega)];exact h2⟩⟩
    ·have Cu:i=acc.size:=by
      rcases Nat.lt_or_ge i (acc.push (inner acc o)).size with h1|h1
      ·simp at h1;omega
      ·have:(acc.push (inner acc o)).getD i 0=0:=by simp [Array.getD];intro h2;simp at h1;omega
       rw[this]at qp;simp at qp
     subst Cu;have fg:(acc.push (inner acc o)).getD acc.size 0=inner acc o:=by simp [Array.getD]
     rw[fg]at qp;obtain ⟨e,he,hb,ae⟩:=yC acc o j qp;refine ⟨o,by rw[hs];simp,e,he,hb,ae.imp id λ h2 => ?_⟩;have k6:e.on<acc.size:=by
      rcases Nat.lt_or_ge e.on acc.size with h3|h3
      ·exact h3
      ·have:acc.getD e.on 0=0:=by simp [Array.getD];omega
       rw[this]at h2;simp at h2
     exact ⟨k6,by rw[l6 e.on k6];exact h2⟩
 have hb:Region.before ops=ops.toList.foldl (λ acc o=>acc.push (inner acc o)) #[]:=by
  unfold Region.before;rw[<-Array.foldl_toList];rfl
 rw[hb]at h ⊢;have:=key ops.toList [] #[] rfl (λ i j qp=>by simp at qp) i j h
 simpa using this
def PP (ops:Array Oper) (X:Nat->Bool):Prop := ∀ j o,X j=true->ops[j]? = some o -> ∀ e∈o.after,Region.binds .any e=true->X e.on=true
theorem Fc {X:Nat->Bool} (hX:PP ops X) : ∀ (i:Nat),(∀ o,ops[i]? = some o -> ∀ e∈o.after,Region.binds .any e=true->X e.on=true) -> ∀ j,((Region.before ops).getD i 0).testBit j=true->X j=true:=by
 intro i;induction i using Nat.strongRecOn with
 | ind i ih =>
  intro hi j hj;obtain ⟨o,ho,e,he,hb,ae⟩:=qG i j hj;have hx:=hi o ho e he hb;rcases ae with h|⟨k6,h⟩
  ·rw[<-h];exact hx
  ·exact ih e.on k6 (λ o' pe e' cw j4=>hX e.on o' hx pe e' cw j4) j h
theorem Kb {X:Nat->Bool} (hX:PP ops X) {i j:Nat} (hi : ∀ o,ops[i]? = some o -> ∀ e∈o.after,Region.binds .any e=true->X e.on=true) (k6:j<i) (h:G5 (Region.before ops) i j=true):X j=true:=by
 unfold G5 at h;rw[Nat.max_eq_left (by omega),Nat.min_eq_right (by omega)]at h;exact Fc hX i hi j h
theorem jQ {X:Nat->Bool} (hX:PP ops X) {i j:Nat} (hj:X j=true) (k6:i<j) (h:G5 (Region.before ops) i j=true):X i=true:=by
 unfold G5 at h;rw[Nat.max_eq_right (by omega),Nat.min_eq_left (by omega)]at h;exact Fc hX j (λ o ho e he hb=>hX j o hj ho e he hb) i h
end
section
variable {C:Cl}
abbrev D:=(Nat->AV) × AE
structure CU where
 d:Option Nat
 g:Bool
 E:BM
 v:AV
def CU.own (r:CU) (o:AE):AE:=if r.g then r.E.o9 o else o
def CU.act (r:CU) (x:D):D:=(HT x.1 r.d r.v,r.own x.2)
structure MF (C:Cl) (x:AI) (r:CU) (s s':St):Prop where
 d:r.d=x.dst
 g:JM (c6 s.tm) x.guard=some r.g
 E:r.g=true->c5 C x.a7 (DG (c6 s.tm)) s.own x.op=some r.E
 v:r.v=(if r.g then r.E.valOf s.own else .e7 [])
 act:(c6 s'.tm,s'.own)=r.act (c6 s.tm,s.own)
theorem trace : ∀ {l:List AI} {st e9:St},CI C l st=some e9 -> ∃ (σ:Nat->St) (rs:List CU),σ 0=st/\σ l.length=e9/\rs.length=l.length /\ ∀ (k:Nat) (x:AI) (r:CU),l[k]? = some x->rs[k]? = some r->MF C x r (σ k) (σ (k+1))
 | [],st,e9,h=>by
  simp only[CI,Option.some.injEq]at h;subst h;exact ⟨λ_=>st,[],rfl,rfl,rfl,λ k x r hx=>by simp at hx⟩
 | o::q,st,e9,h=>by
  simp only[CI]at h;cases hs:B6 C o st with
  | none=>simp [hs]at h
  | some A0 =>
   simp only[hs]at h;obtain ⟨σ,rs,h0,h1,hl,h2⟩:=trace h;obtain ⟨g,E,e1,e2,e3,e4⟩:=lE hs;refine ⟨λ k=>match k with|0=>st|k+1=>σ k,⟨o.dst,g,E,if g then E.valOf st.own else .e7 []⟩::rs,rfl,h1,by simp [hl],λ k x r hx hr => ?_⟩;cases k with
   | zero =>
    simp at hx hr;subst hx hr;refine ⟨rfl,e1,e2,rfl,?_⟩;show (c6 (σ 0).tm,(σ 0).own)=_;rw[h0,e3,e4];rfl
   | succ k=>exact h2 k x r (by simpa using hx) (by simpa using hr)
def CY (X:Nat->Bool):List CU->Nat->D->D
 | [],_,x=>x
 | r::rs,k,x=>CY X rs (k+1) (if X k then r.act x else x)
theorem XZ (X:Nat->Bool) : ∀ (l l':List CU) (k:Nat) (x:D),CY X (l++l') k x=CY X l' (k+l.length) (CY X l k x)
 | [],l',k,x=>by simp [CY]
 | r::rs,l',k,x=>by
  simp only[List.cons_append,CY,List.length_cons];rw[XZ X rs l' (k+1)];congr 1;omega
theorem gC {X Y:Nat->Bool} {t:Nat} : ∀ (l:List CU) (k:Nat) (x y:D),x.1 t=y.1 t->(∀ i r,l[i]? = some r->r.d=some t->X (k+i)=Y (k+i))->(CY X l k x).1 t=(CY Y l k y).1 t
 | [],k,x,y,h,_=>h
 | r::rs,k,x,y,h,mf=>by
  simp only[CY];refine gC rs (k+1) _ _ ?_ λ i r' hr hd=>by
   have:=mf (i+1) r' (by simpa using hr) hd
   rw[show k+1+i=k+(i+1) by omega];exact this
  by_cases hd:r.d=some t
  ·have hx:X k=Y k:=by simpa using mf 0 r rfl hd
   rw[hx];cases Y k
   ·simpa using h
   ·simp [CU.act,HT,hd]
  ·have e1 : ∀ z:D,(r.act z).1 t=z.1 t:=λ z=>by simp [CU.act,HT,hd]
   cases X k<;>cases Y k<;>simp [e1,h]
theorem Kg (E:BM) (s:Nat) (o o':AE) (h:o s=o' s):E.o9 o s=E.o9 o' s:=by
 cases E with
 | val v=>exact h
 | new s' b v =>
  simp only[BM.o9,AE.put];by_cases hs:s=s'
  ·subst hs;simp [h]
  ·simp [hs,h]
 | qb s' b v =>
  simp only[BM.o9,AE.put];by_cases hs:s=s'
  ·subst hs;simp [h]
  ·simp [hs,h]
 | aj v o2=>rfl
 | ru s' v o2 =>
  simp only[BM.o9,AE.put];by_cases hs:s=s'
  ·subst hs;simp [h]
  ·simp [hs]
 | og s' x v =>
  simp only[BM.o9,AE.put];by_cases hs:s=s'
  ·simp [hs]
  ·simp [hs,h]
 | m9 s' x =>
  simp only[BM.o9,AE.put];by_cases hs:s=s'
  ·simp [hs]
  ·simp [hs,h]
theorem gB {X Y:Nat->Bool} {s:Nat} : ∀ (l:List CU) (k:Nat) (x y:D),x.2 s=y.2 s->(∀ i r,l[i]? = some r->X (k+i)=Y (k+i) \/ ∀ o,r.own o s=o s)->(CY X l k x).2 s=(CY Y l k y).2 s
 | [],k,x,y,h,_=>h
 | r::rs,k,x,y,h,mf=>by
  simp only[CY];refine gB rs (k+1) _ _ ?_ λ i r' hr=>by
   have:=mf (i+1) r' (by simpa using hr)
   rw[show k+1+i=k+(i+1) by omega];exact this
  rcases mf 0 r rfl with hx|hx
  ·simp only[Nat.add_zero]at hx
   rw[hx];cases Y k
   ·simpa using h
   ·simp only[if_true,CU.act,CU.own]
    cases r.g
    ·simpa using h
    ·simpa using Kg r.E s _ _ h
  ·have e1 : ∀ z:D,(r.act z).2 s=z.2 s:=λ z=>hx z.2
   cases X k<;>cases Y k<;>simp [e1,h]
theorem X0 {X:Nat->Bool} (q:CU) : ∀ (l:List CU) (k:Nat) (x:D),(∀ i r,l[i]? = some r->X (k+i)=true -> ∀ z,r.act (q.act z)=q.act (r.act z))->CY X l k (q.act x)=q.act (CY X l k x)
 | [],k,x,_=>rfl
 | r::rs,k,x,h=>by
  simp only[CY];have x6 : ∀ i r',rs[i]? = some r'->X (k+1+i)=true -> ∀ z,r'.act (q.act z)=q.act (r'.act z):=λ i r' hr hX=>h (i+1) r' (by simpa using hr) (by rw[show k+(i+1)=k+1+i by omega];exact hX)
  cases hk:X k
  ·simp only[Bool.false_eq_true,if_false]
   exact X0 q rs (k+1) x x6
  ·simp only[if_true]
   rw[h 0 r rfl (by simpa using hk)];exact X0 q rs (k+1) _ x6
theorem UJ {X Y:Nat->Bool} : ∀ (l:List CU) (k:Nat) (x:D),(∀ i,i<l.length->X (k+i)=Y (k+i))->CY X l k x=CY Y l k x
 | [],_,_,_=>rfl
 | r::rs,k,x,h=>by
  simp only[CY];rw[show X k=Y k by simpa using h 0 (by simp)];exact UJ rs (k+1) _ λ i hi=>by
   have:=h (i+1) (by simpa using hi)
   rw[show k+1+i=k+(i+1) by omega];exact this
theorem gA {X X':Nat->Bool} {l:List CU} {i:Nat} {q:CU} (hq:l[i]? = some q) (fm:X i=false) (nq : ∀ j,X' j=(decide (j=i)||X j)) (x:D) (xn : ∀ j r,l[j]? = some r->i<j->X j=true -> ∀ z,r.act (q.act z)=q.act (r.act z)) :
  CY X' l 0 x=q.act (CY X l 0 x):=by
 have z8:i<l.length:=(zS hq).1;have Gk:l=l.take i++(q::l.drop (i+1)):=by
  have:l.drop i=q::l.drop (i+1):=by
   rw[List.drop_eq_getElem_cons z8];congr 1;have:=(zS hq).2
   exact this
  rw[<-this,List.take_append_drop]
 have eu:(l.take i).length=i:=by simp;omega
 rw[Gk,XZ,XZ,eu,Nat.zero_add];simp only[CY,fm,Bool.false_eq_true,if_false];rw[show X' i=true by rw[nq];simp];simp only[if_true];rw[UJ (X:=X') (Y:=X) (l.take i) 0 x (λ j hj=>by rw[nq];simp;omega)];rw[UJ (X:=X') (Y:=X) (l.drop (i+1)) (i+1) _ (λ j hj=>by rw[nq];simp;omega)];refine X0 q _ _ _ λ j r hr Bw => ?_
 rw[List.getElem?_drop]at hr;exact xn (i+1+j) r hr (by omega) Bw
end
end Go.c8
namespace Go.c8
open Go.RowKit
section
variable {C:Cl} {a7:List Nat} {ρ:AM->AV}
theorem uC {op:C2} (o o':AE) (ht:FJ op=false) (hr:O9 op=true->o.j9 a7=o'.j9 a7) (g8 : ∀ s,DH op=some s->o s=o' s):c5 C a7 ρ o op=c5 C a7 ρ o' op:=by
 cases op with
 | il s n x v =>
  have h1:=g8 s rfl;have h2 : ∀ t i j vs,(o.gp s t i j vs).map (λ q=>BM.m9 s (q s))=(o'.gp s t i j vs).map (λ q=>BM.m9 s (q s)):=λ t i j vs=>by
   have hg:o.get s t=o'.get s t:=by unfold AE.get;rw[h1]
   unfold AE.gp;rw[hg];cases o'.get s t with
   | none=>rfl
   | some b =>
    simp only;cases b.es[i]? with
    | none=>rfl
    | some cs =>
     simp only;split
     ·simp only[Option.map_some,AE.g7,h1]
     ·rfl
  simp only[c5,h2]
 | ld agg n x=>have:=hr rfl;simp only[c5,this]
 | call f xs=>have:=hr rfl;simp only[c5,this]
 | n6 s f xs=>have:=hr rfl;simp only[c5,this]
 | w5 s f xs=>have h1:=g8 s rfl;simp only[c5,h1]
 | st=>simp [FJ]at ht
 | app=>simp [FJ]at ht
 | c4=>simp [FJ]at ht
 | l8=>simp [FJ]at ht
 | _=>rfl
theorem dV {op:C2} {o:AE} {E:BM} (h:c5 C a7 ρ o op=some E) {s:Nat} (hs:DH op=some s):(∃ b v,E = .new s b v\/E = .qb s b v) \/ ∃ x v,E = .m9 s x\/E = .og s x v:=by
 cases op with
 | il s' n x v =>
  simp only[DH,Option.some.injEq]at hs;subst hs;simp only[c5]at h;split at h
  ·split at h
   ·simp only[Option.map_eq_some_iff]at h
    obtain ⟨q,_,rfl⟩:=h;exact .inr ⟨_,.any,.inl rfl⟩
   ·cases h
  ·cases h
 | n6 s' f xs =>
  simp only[DH,Option.some.injEq]at hs;subst hs;simp only[c5]at h;split at h
  ·simp only[Option.map_eq_some_iff]at h
   obtain ⟨r,_,rfl⟩:=h;exact .inl ⟨_,_,.inl rfl⟩
  ·cases h
 | w5 s' f xs =>
  simp only[DH,Option.some.injEq]at hs;subst hs;simp only[c5,Option.map_eq_some_iff]at h;obtain ⟨p,_,rfl⟩:=h;exact .inr ⟨_,_,.inr rfl⟩
 | u9 s' z =>
  simp only[DH,Option.some.injEq]at hs;subst hs;simp only[c5,Option.some.injEq]at h;exact .inl ⟨_,_,.inr h.symm⟩
 | box s' x =>
  simp only[DH,Option.some.injEq]at hs;subst hs;simp only[c5]at h;split at h
  ·simp only[Option.some.injEq]at h;exact .inl ⟨_,_,.inl h.symm⟩
  ·cases h
 | alloc s' z =>
  simp only[DH,Option.some.injEq]at hs;subst hs;simp only[c5,Option.some.injEq]at h;exact .inl ⟨_,_,.inl h.symm⟩
 | b9 s' a4 ps =>
  simp only[DH,Option.some.injEq]at hs;subst hs;simp only[c5]at h;split at h
  ·split at h
   ·simp only[Option.some.injEq]at h;exact .inl ⟨_,_,.inl h.symm⟩
   ·cases h
  ·cases h
 | mk s' a4 bytes z l c =>
  simp only[DH,Option.some.injEq]at hs;subst hs;simp only[c5]at h;split at h
  ·split at h
   ·simp only[Option.some.injEq]at h;exact .inl ⟨_,_,.inl h.symm⟩
   ·cases h
  ·cases h
 | _=>simp [DH]at hs
theorem YL {α:Type} {x:Option α} {f:α->AV} {E:BM} (h:x.map (λ y=>BM.val (f y))=some E) : ∃ v,E = .val v:=by
 cases x with
 | none=>cases h
 | some y=>simp only[Option.map_some,Option.some.injEq]at h;exact ⟨_,h.symm⟩
theorem dW {op:C2} {o:AE} {E:BM} (h:c5 C a7 ρ o op=some E) (ht:FJ op=false) (hs:DH op=none) : ∃ v,E = .val v:=by
 cases op<;>first|(simp [FJ]at ht;done)|(simp [DH]at hs;done)|skip
 all_goals simp only[c5]at h
 all_goals
  first
   | (simp only[Option.some.injEq]at h;exact ⟨_,h.symm⟩)
   | exact YL (f:=id) h
   | skip
 all_goals (repeat' split at h)
 all_goals
  first
   | (cases h;done)
   | (simp only[Option.some.injEq]at h;exact ⟨_,h.symm⟩)
   | exact YL (f:=id) h
   | exact YL (f:=AV.agg) h
   | (simp only[Option.map_eq_some_iff]at h;obtain ⟨cs,_,rfl⟩:=h;exact ⟨_,rfl⟩)
theorem O8 {x:AI} {r:CU} {s s':St} (h:MF C x r s s') (ht:FJ x.op=false) (hs:DH x.op=none) (o:AE):r.own o=o:=by
 unfold CU.own;cases hg:r.g with
 | false=>rfl
 | true =>
  obtain ⟨v,hv⟩:=dW (h.E hg) ht hs;simp [hv,BM.o9]
theorem U7 {x:AI} {r:CU} {s s':St} (h:MF C x r s s') {q:Nat} (hs:DH x.op=some q):(∀ o,r.own o=o) \/ ∃ F:BO->BO,∀ o:AE,r.own o=o.put q (F (o q)):=by
 unfold CU.own;cases hg:r.g with
 | false=>exact .inl λ_=>rfl
 | true =>
  rcases dV (h.E hg) hs with ⟨b,v,hv|hv⟩|⟨x,v,hv|hv⟩
  ·exact .inr ⟨λ q=>q.new b,λ o=>by simp [hv,BM.o9]⟩
  ·exact .inr ⟨λ q=>q.new b,λ o=>by simp [hv,BM.o9]⟩
  ·exact .inr ⟨λ_=>x,λ o=>by simp [hv,BM.o9]⟩
  ·exact .inr ⟨λ_=>x,λ o=>by simp [hv,BM.o9]⟩
theorem Y9 {x:AI} {r:CU} {s s':St} (h:MF C x r s s') {q:Nat} (hs:DH x.op=some q) {p:Nat} (hp:p≠q) (o:AE):r.own o p=o p:=by
 rcases U7 h hs with h1|⟨b,h1⟩
 ·rw[h1]
 ·rw[h1];simp [AE.put,hp]
theorem gZ {x:AI} {s:Nat} (h:L7 x=some s) : ∃ f xs,x.op = .c4 f xs/\x.a7=[s]:=by
 unfold L7 at h;split at h
 ·rename_i f xs s' h1 h2
  obtain rfl:=Option.some.inj h;exact ⟨f,xs,h1,h2⟩
 ·cases h
theorem UN {x y:AI} (h:QB x y=true) : ∃ s,L7 x=some s/\DH y.op=some s/\FJ y.op=false/\O9 y.op=false:=by
 unfold QB at h;split at h
 ·rename_i s hs
  simp only[Bool.and_eq_true,beq_iff_eq,Bool.not_eq_true']at h;exact ⟨s,hs,h.1,h.2.1,h.2.2⟩
 ·cases h
theorem qP {f:Nat} {vs:List AV} {s:Nat} {o o':AE} (h : ∀ q,q≠s->o q=o' q):LY C f vs s o=LY C f vs s o':=by
 have e:(λ p:AV × AE => ∀ u:AE,(∀ q,q≠s->u q=o q)->C.y6 f vs u=some (p.1,p.2.put s (u s)))=λ p:AV × AE => ∀ u:AE,(∀ q,q≠s->u q=o' q)->C.y6 f vs u=some (p.1,p.2.put s (u s)):=by
  funext p
  refine propext ⟨λ g u hu=>g u λ q hq=>by rw[hu q hq,h q hq],λ g u hu=>g u λ q hq=>by rw[hu q hq,h q hq]⟩
 cases h1:LY C f vs s o with
 | some p =>
  have h2:=TQ h1;exact (TP h2.1 λ u hu=>h2.2 u λ q hq=>by rw[hu q hq,h q hq]).symm
 | none =>
  cases h3:LY C f vs s o' with
  | none=>rfl
  | some p =>
   have h2:=TQ h3;rw[TP h2.1 λ u hu=>h2.2 u λ q hq=>by rw[hu q hq,h q hq]]at h1;cases h1
theorem dU {x:AI} {s:Nat} (hk:L7 x=some s) {o:AE} {E:BM} (h:c5 C x.a7 ρ o x.op=some E) : ∃ v o',E = .ru s v o':=by
 obtain ⟨f,xs,h1,h2⟩:=gZ hk;rw[h1,h2]at h;simp only[c5,Option.map_eq_some_iff]at h;obtain ⟨p,_,rfl⟩:=h;exact ⟨_,_,rfl⟩
theorem jZ {x:AI} {r:CU} {s s':St} (h:MF C x r s s') {q:Nat} (hk:L7 x=some q):(∀ o,r.own o=o) \/ ∃ o':AE,∀ o:AE,r.own o=o'.put q (o q):=by
 unfold CU.own;cases hg:r.g with
 | false=>exact .inl λ_=>rfl
 | true =>
  obtain ⟨v,o',hv⟩:=dU hk (h.E hg);exact .inr ⟨o',λ o=>by simp [hv,BM.o9]⟩
theorem jP (b:Array Nat) (i j:Nat):G5 b i j=G5 b j i:=by unfold G5;rw[Nat.max_comm,Nat.min_comm]
theorem OL {ops:Array Oper} {l:List AI} (h:OK ops l=true) {i j:Nat} {x y:AI} (hx:l[i]? = some x) (hy:l[j]? = some y) (k7:i≠j) :
  (G5 (Region.before ops) i j=true\/((∀ t,y.dst=some t->t ∉ QD x)/\(FJ x.op=false\/IR y.op=false\/QB x y=true)/\(O9 x.op=true -> ∀ s,DH y.op=some s->s∈x.a7))) /\
  (G5 (Region.before ops) i j=true \/ ∀ s s',DH x.op=some s->DH y.op=some s'->s≠s'):=by
 simp only[OK,Bool.and_eq_true]at h;have h1:=h.1.1;rw[List.all_eq_true]at h1;have Pt:(x,i)∈l.zipIdx:=List.mem_zipIdx_iff_getElem?.2 hx;have Py:(y,j)∈l.zipIdx:=List.mem_zipIdx_iff_getElem?.2 hy;have h2:=h1 (x,i) Pt;simp only at h2;rw[List.all_eq_true]at h2;have h3:=h2 (y,j) Py;simp only[Bool.and_eq_true,Bool.or_eq_true,beq_iff_eq,k7,false_or]at h3;obtain ⟨h4,h5⟩:=h3;refine ⟨?_,h5.imp id λ h5 s s' hs ub => ?_⟩
 ·unfold jU at h4
  simp only[Bool.or_eq_true,beq_iff_eq,k7,false_or]at h4;refine h4.imp id λ h6 => ?_
  simp only[Bool.and_eq_true,Bool.or_eq_true,Bool.not_eq_true']at h6;obtain ⟨⟨h7,h8⟩,h9⟩:=h6;refine ⟨λ t ht => ?_,or_assoc.1 h8,λ hr s hs => ?_⟩
  ·rw[ht]at h7
   simpa using h7
  ·rw[hr,hs]at h9
   simpa using h9
 ·rw[hs,ub]at h5
  simpa using h5
structure S7 (C:Cl) (ops:Array Oper) (l:List AI) (σ:Nat->St) (rs:List CU):Prop where
 ok:OK ops l=true
 len:rs.length=l.length
 fits : ∀ (k:Nat) (x:AI) (r:CU),l[k]? = some x->rs[k]? = some r->MF C x r (σ k) (σ (k+1))
variable {ops:Array Oper} {l:List AI} {σ:Nat->St} {rs:List CU}
theorem X1 {X:Nat->Bool} : ∀ (l:List CU) (k:Nat) (x:D),(∀ i,i<l.length->X (k+i)=false)->CY X l k x=x
 | [],_,_,_=>rfl
 | r::q,k,x,h=>by
  simp only[CY];rw[show X k=false by simpa using h 0 (by simp)];exact X1 q (k+1) _ λ i hi=>by
   have:=h (i+1) (by simpa using hi)
   rw[show k+1+i=k+(i+1) by omega];exact this
def d0 (σ:Nat->St):D:=(c6 (σ 0).tm,(σ 0).own)
theorem W6 (h:S7 C ops l σ rs) : ∀ k,k<=l.length->CY (λ j=>decide (j<k)) rs 0 (d0 σ)=(c6 (σ k).tm,(σ k).own)
 | 0,_=>X1 rs 0 _ λ i _=>by simp
 | k+1,hk=>by
  have tl:k<l.length:=by omega
  have Od:k<rs.length:=by rw[h.len];exact tl
  have hr:rs[k]? = some rs[k]:=zE Od;have hf:=h.fits k l[k] rs[k] (zE tl) hr;rw[gA (X:=λ j=>decide (j<k)) (X':=λ j=>decide (j<k+1)) hr (by simp) (λ j=>by
   by_cases h1:j=k
   ·simp [h1]
   ·simp [h1];omega) _ (λ j r' _ k6 hX=>by simp at hX;omega),W6 h k (by omega)]
  exact hf.act.symm
section
variable {X:Nat->Bool} {i:Nat} {x:AI} {r:CU}
theorem jR (hX:PP ops X) (fm:X i=false) (y5 : ∀ o,ops[i]? = some o -> ∀ e∈o.after,Region.binds .any e=true->X e.on=true) {j:Nat} (k7:i≠j) (ho:G5 (Region.before ops) i j=true):X j=decide (j<i):=by
 rcases Nat.lt_or_gt_of_ne k7 with k6|kb
 ·have:X j=false:=by
   cases hj:X j with
   | false=>rfl
   | true=>have:=jQ hX hj k6 ho;rw[fm]at this;cases this
  rw[this];simp;omega
 ·rw[Kb hX y5 kb ho];simp;omega
theorem tS (h:S7 C ops l σ rs) (hx:l[i]? = some x) (hr:rs[i]? = some r) (hX:PP ops X) (fm:X i=false) (y5 : ∀ o,ops[i]? = some o -> ∀ e∈o.after,Region.binds .any e=true->X e.on=true) :
  JM (CY X rs 0 (d0 σ)).1 x.guard=some r.g/\(r.g=true->c5 C x.a7 (DG (CY X rs 0 (d0 σ)).1) (CY X rs 0 (d0 σ)).2 x.op=some r.E) /\
  (if r.g then r.E.valOf (CY X rs 0 (d0 σ)).2 else .e7 [])=r.v /\
  ∀ X':Nat->Bool,(∀ j,X' j=(decide (j=i)||X j))->CY X' rs 0 (d0 σ)=r.act (CY X rs 0 (d0 σ)):=by
 have z8:i<l.length:=(zS hx).1;have hf:=h.fits i x r hx hr;have ri:=W6 h i (by omega);generalize hT:CY X rs 0 (d0 σ)=TX;have qj : ∀ (j:Nat) (r':CU),rs[j]? = some r' -> ∃ y,l[j]? = some y/\MF C y r' (σ j) (σ (j+1)):=λ j r' hj=>by
  have z9:j<l.length:=by rw[<-h.len];exact (zS hj).1
  exact ⟨l[j],zE z9,h.fits j _ _ (zE z9) hj⟩
 have rf : ∀ t∈QD x,TX.1 t=c6 (σ i).tm t:=λ t ht=>by
  have:=gC (X:=X) (Y:=λ j=>decide (j<i)) (t:=t) rs 0 (d0 σ) (d0 σ) rfl (λ j r' hj hd=>by
   simp only[Nat.zero_add];by_cases k7:i=j
   ·subst k7;simp [fm]
   ·obtain ⟨y,hy,z0⟩:=qj j r' hj
    rcases (OL h.ok hx hy k7).1 with ho|⟨h1,_⟩
    ·exact jR hX fm y5 k7 ho
    ·exact absurd ht (h1 t (by rw[<-z0.d];exact hd)))
  rw[hT,ri]at this;exact this
 have zf : ∀ t∈GQ x.op,TX.1 t=c6 (σ i).tm t:=λ t ht=>rf t (by simp [QD,ht])
 have ay : ∀ s,(∀ (j:Nat) (y:AI) (r':CU),i≠j->l[j]? = some y->rs[j]? = some r'->G5 (Region.before ops) i j=true \/ ∀ o,r'.own o s=o s)->TX.2 s=(σ i).own s:=λ s hs=>by
  have:=gB (X:=X) (Y:=λ j=>decide (j<i)) (s:=s) rs 0 (d0 σ) (d0 σ) rfl (λ j r' hj=>by
   simp only[Nat.zero_add];by_cases k7:i=j
   ·subst k7;left;simp [fm]
   ·obtain ⟨y,hy,z0⟩:=qj j r' hj
    rcases hs j y r' k7 hy hj with ho|ho
    ·exact .inl (jR hX fm y5 k7 ho)
    ·exact .inr ho)
  rw[hT,ri]at this;exact this
 have gi : ∀ (j:Nat) (y:AI) (r':CU),l[j]? = some y->rs[j]? = some r'->IR y.op=false -> ∀ o,r'.own o=o:=λ j y r' hy hj hm o=>by
  simp only[IR,Bool.or_eq_false_iff]at hm;exact O8 (h.fits j y r' hy hj) hm.1.1 (by simpa using hm.2) o
 have yp : ∀ (j:Nat) (y:AI),i≠j->l[j]? = some y->FJ y.op=true->IR x.op=true->G5 (Region.before ops) i j=true\/QB y x=true:=λ j y k7 hy ht ff=>by
  rcases (OL h.ok hy hx (Ne.symm k7)).1 with ho|⟨_,h2,_⟩
  ·rw[jP];exact .inl ho
  ·rw[ht,ff]at h2
   simp only[Bool.true_eq_false,false_or]at h2;exact .inr h2
 have hg:JM TX.1 x.guard=some r.g:=by
  rw[<-hf.g];cases ve:x.guard with
  | none=>rfl
  | some gw =>
   obtain ⟨g,w⟩:=gw;simp only[JM];rw[rf g (by simp [QD,ve])]
 have rj:FJ x.op=true -> ∀ s,L7 x≠some s->TX.2 s=(σ i).own s:=λ ht s tn=>by
  refine ay s λ j y r' k7 hy hj => ?_
  cases hm:IR y.op with
  | false=>exact .inr λ o=>by rw[gi j y r' hy hj hm o]
  | true =>
   rcases (OL h.ok hx hy k7).1 with ho|⟨_,h2,_⟩
   ·exact .inl ho
   ·rw[ht,hm]at h2
    simp only[Bool.true_eq_false,false_or]at h2;obtain ⟨q,k1,k2,k3,_⟩:=UN h2;exact .inr λ o=>Y9 (h.fits j y r' hy hj) k2 (p:=s) (λ e=>tn (by rw[e];exact k1)) o
 have ni:FJ x.op=true->L7 x=none->TX.2=(σ i).own:=λ ht hn=>by
  funext s
  exact rj ht s (by rw[hn];simp)
 have yn:O9 x.op=true->TX.2.j9 x.a7=(σ i).own.j9 x.a7:=λ dz=>by
  refine xT λ s hs=>ay s λ j y r' k7 hy hj => ?_
  have ff:IR x.op=true:=by simp [IR,dz]
  cases ht:FJ y.op with
  | true =>
   refine .inl ((yp j y k7 hy ht ff).resolve_right λ hk => ?_);obtain ⟨_,_,_,_,k4⟩:=UN hk;rw[dz]at k4;cases k4
  | false =>
   cases fq:DH y.op with
   | none=>exact .inr λ o=>by rw[O8 (h.fits j y r' hy hj) ht fq o]
   | some q =>
    rcases (OL h.ok hx hy k7).1 with ho|⟨_,_,h3⟩
    ·exact .inl ho
    ·exact .inr λ o=>Y9 (h.fits j y r' hy hj) fq (p:=s) (λ e=>hs (by rw[e];exact h3 dz q fq)) o
 have qz : ∀ s,DH x.op=some s->TX.2 s=(σ i).own s:=λ s lk=>by
  have ff:IR x.op=true:=by simp [IR,lk]
  exact ay s λ j y r' k7 hy hj=>by
   cases ht:FJ y.op with
   | true =>
    rcases yp j y k7 hy ht ff with ho|hk
    ·exact .inl ho
    ·obtain ⟨q,k1,k2,_,_⟩:=UN hk
     obtain rfl:q=s:=Option.some.inj (k2.symm.trans lk);rcases jZ (h.fits j y r' hy hj) k1 with g1|⟨o',g1⟩
     ·exact .inr λ o=>by rw[g1]
     ·exact .inr λ o=>by rw[g1];simp [AE.put]
   | false =>
    cases fq:DH y.op with
    | none=>exact .inr λ o=>by rw[O8 (h.fits j y r' hy hj) ht fq o]
    | some q =>
     rcases (OL h.ok hx hy k7).2 with ho|ud
     ·exact .inl ho
     ·exact .inr λ o=>Y9 (h.fits j y r' hy hj) fq (ud s q lk fq) o
 have Cp:r.g=true->c5 C x.a7 (DG TX.1) TX.2 x.op=some r.E:=λ z7=>by
  rw[tZ zf,<-hf.E z7];cases ht:FJ x.op with
  | true =>
   cases hk:L7 x with
   | none=>rw[ni ht hk]
   | some s =>
    obtain ⟨f,xs,k1,k2⟩:=gZ hk;rw[k1,k2];simp only[c5];rw[qP (o':=(σ i).own) λ q hq=>rj ht q (by rw[hk];exact λ e=>hq (Option.some.inj e).symm)]
  | false=>exact uC _ _ ht yn qz
 have hval:(if r.g then r.E.valOf TX.2 else .e7 [])=r.v:=by
  rw[hf.v];cases Ct:r.g with
  | false=>rfl
  | true =>
   simp only[if_true];cases lk:DH x.op with
   | none =>
    cases ht:FJ x.op with
    | true =>
     cases hk:L7 x with
     | none=>rw[ni ht hk]
     | some s =>
      obtain ⟨v,o',hv⟩:=dU hk (hf.E Ct);rw[hv];rfl
    | false =>
     obtain ⟨v,hv⟩:=dW (hf.E Ct) ht lk;rw[hv];rfl
   | some s =>
    have ud:=qz s lk;rcases dV (hf.E Ct) lk with ⟨b,v,hv|hv⟩|⟨x,v,hv|hv⟩<;>rw[hv]<;>simp only[BM.valOf,AE.c9,ud]
 refine ⟨hg,Cp,hval,λ X' nq => ?_⟩;rw[<-hT];refine gA hr fm nq _ λ j r' hj k6 Bw z => ?_
 obtain ⟨y,hy,z0⟩:=qj j r' hj;have k7:i≠j:=by omega
 have Dl : ¬ G5 (Region.before ops) i j=true:=λ ho=>by
  have:=jQ hX Bw k6 ho
  rw[fm]at this;cases this
 obtain ⟨Dr,Ds⟩:=OL h.ok hx hy k7;obtain ⟨qw,vk⟩:=OL h.ok hy hx (Ne.symm k7);have hp:=Dr.resolve_left Dl;have hq:=qw.resolve_left (by rw[jP];exact Dl);unfold CU.act;refine Prod.ext ?_ ?_
 ·funext t
  simp only[HT];by_cases h1:r'.d=some t<;>by_cases h2:r.d=some t
  ·exact absurd (by rw[hf.d]at h2;simp [QD,h2]) (hp.1 t (by rw[<-z0.d];exact h1))
  ·simp [h1,h2]
  ·simp [h1,h2]
  ·simp [h1,h2]
 ·show r'.own (r.own z.2)=r.own (r'.own z.2)
  cases ff:IR x.op with
  | false=>rw[gi i x r hx hr ff,gi i x r hx hr ff]
  | true =>
   cases pd:IR y.op with
   | false=>rw[gi j y r' hy hj pd,gi j y r' hy hj pd]
   | true =>
    have ye : ∀ {x y:AI} {r r':CU} {s1 s2 s3 s4:St},MF C x r s1 s2->MF C y r' s3 s4->QB x y=true -> ∀ o,r'.own (r.own o)=r.own (r'.own o):=λ hf z0 hk o=>by
     obtain ⟨q,k1,k2,_,_⟩:=UN hk;rcases jZ hf k1 with g1|⟨o',g1⟩
     ·rw[g1,g1]
     ·rcases U7 z0 k2 with g2|⟨F,g2⟩
      ·rw[g2,g2]
      ·rw[g1,g2,g2,g1]
       funext p
       simp only[AE.put];split<;>rfl
    rcases hp.2.1 with Aq|h1|h1
    rotate_left
    ·rw[pd]at h1;cases h1
    ·exact ye hf z0 h1 _
    rcases hq.2.1 with Gy|h1|h1
    rotate_left
    ·rw[ff]at h1;cases h1
    ·exact (ye z0 hf h1 _).symm
    cases lk:DH x.op with
    | none=>rw[O8 hf Aq lk,O8 hf Aq lk]
    | some s =>
     cases fq:DH y.op with
     | none=>rw[O8 z0 Gy fq,O8 z0 Gy fq]
     | some s' =>
      have ud:=(Ds.resolve_left Dl) s s' lk fq;rcases U7 hf lk with h1|⟨b,h1⟩
      ·rw[h1,h1]
      ·rcases U7 z0 fq with h2|⟨b',h2⟩
       ·rw[h2,h2]
       ·rw[h1,h2,h2,h1]
        funext q
        simp only[AE.put];by_cases Dy:q=s<;>by_cases ua:q=s'
        ·exact absurd (Dy.symm.trans ua) ud
        ·simp [Dy,ud]
        ·simp [ua,Ne.symm ud]
        ·simp [Dy,ua]
end
end
end Go.c8

namespace Go.c8
open Go.RowKit
section
variable {ops:Array Oper} {md:Region.Mode}
theorem qK {e:Edge} (h:Region.binds .any e=true) (md:Region.Mode):Region.binds md e=true:=by
 unfold Region.binds at *;split at h<;>simp_all
theorem iJ (ops:Array Oper) (md:Region.Mode) : ∀ (fuel t:Nat) (a6:Array Bool),a6.size=ops.size -> ∀ (k i:Nat),(Region.linearise.go md ops fuel t a6 [])[k]? = some i ->
  ∃ o,ops[i]? = some o /\ ∀ e∈o.after,Region.binds md e=true->a6.getD e.on false=true\/e.on∈(Region.linearise.go md ops fuel t a6 []).take k
 | 0,t,a6,hs,k,i,h=>by simp [Region.linearise.go]at h
 | fuel+1,t,a6,hs,k,i,h=>by
  have ns:Region.linearise.go md ops (fuel+1) t a6 []=match (Region.ready md ops a6)[t%(Region.ready md ops a6).length]? with
   | some i=>i::Region.linearise.go md ops fuel (t/(Region.ready md ops a6).length) (a6.setIfInBounds i true) []
   | none=>[]:=by
   simp only[Region.linearise.go];change (match (Region.ready md ops a6)[t%(Region.ready md ops a6).length]? with
    | some i=>Region.linearise.go md ops fuel (t/(Region.ready md ops a6).length) (a6.setIfInBounds i true) [i]
    | none=>[].reverse)=_
   cases (Region.ready md ops a6)[t%(Region.ready md ops a6).length]? with
   | none=>rfl
   | some i=>simp only[];rw[linearise_go_acc];rfl
  rw[ns]at h ⊢;cases hr:(Region.ready md ops a6)[t%(Region.ready md ops a6).length]? with
  | none=>rw[hr]at h;simp at h
  | some q =>
   rw[hr]at h;simp only at h ⊢;obtain ⟨_,oq,Ow,hq⟩:=mem_ready.1 (zM hr);cases k with
   | zero =>
    simp at h;subst h;exact ⟨oq,Ow,λ e he hb => .inl (hq e he hb)⟩
   | succ k =>
    simp at h;obtain ⟨o,ho,hh⟩:=iJ ops md fuel _ _ (by simpa using hs) k i h;refine ⟨o,ho,λ e he hb => ?_⟩;rcases hh e he hb with h1|h1
    ·by_cases heq:e.on=q
     ·right;simp [heq]
     ·left
      rw[getD_set_ne false (Ne.symm heq)]at h1;exact h1
    ·right;simp [h1]
theorem XV {p:Nat->Bool} : ∀ (l:List Nat),(∃ i∈l,p i=false) -> ∃ k i,l[k]? = some i/\p i=false /\ ∀ j∈l.take k,p j=true
 | [],⟨i,hi,_⟩=>by simp at hi
 | x::r,⟨i,hi,hp⟩=>by
  cases hx:p x with
  | false=>exact ⟨0,x,rfl,hx,by simp⟩
  | true =>
   have : ∃ i∈r,p i=false:=by
    rcases List.mem_cons.1 hi with h|h
    ·subst h;rw[hx]at hp;cases hp
    ·exact ⟨i,h,hp⟩
   obtain ⟨k,j,h1,h2,h3⟩:=XV r this;refine ⟨k+1,j,by simpa using h1,h2,λ q hq => ?_⟩;simp only[List.take_succ_cons,List.mem_cons]at hq;rcases hq with h|h
   ·subst h;exact hx
   ·exact h3 q h
theorem progress {l:List AI} (hd:OK ops l=true) (yd:md = .gc->Region.departs ops=true) {a6:Array Bool} (hs:a6.size=ops.size) (hr:Region.ready md ops a6=[]) : ∀ j,j<ops.size->a6.getD j false=true:=by
 intro j hj;cases z9:a6.getD j false with
 | true=>rfl
 | false =>
  exfalso;simp only[OK,Bool.and_eq_true]at hd;obtain ⟨⟨_,cq⟩,mr⟩:=hd;have gm : ∀ i,i<ops.size->a6.getD i false=false -> ¬ ∀ o,ops[i]? = some o -> ∀ e∈o.after,Region.binds md e=true->a6.getD e.on false=true:=λ i hi hl su=>by
   have:i∈Region.ready md ops a6:=mem_ready.2 ⟨by
    have:i<a6.size:=by omega
    simp [Array.getD,this]at hl ⊢;exact hl,ops[i],Array.getElem?_eq_getElem hi,λ e he hb=>su ops[i] (Array.getElem?_eq_getElem hi) e he hb⟩
   rw[hr]at this;simp at this
  by_cases Ai:md = .gc
  ·subst Ai
   rw[yd rfl]at mr;simp only[Bool.not_true,Bool.false_or,List.all_eq_true,List.mem_range,List.contains_iff_mem]at mr;obtain ⟨k,i,h1,h2,h3⟩:=XV (p:=λ q=>a6.getD q false) (Region.linearise .gc ops 0) ⟨j,mr j hj,z9⟩;obtain ⟨o,ho,hh⟩:=iJ ops .gc ops.size 0 (Array.replicate ops.size false) (by simp) k i h1;have hi:i<ops.size:=(Array.getElem?_eq_some_iff.1 ho).1;refine gm i hi h2 λ o' pe e he hb => ?_
   rw[ho]at pe;obtain rfl:o=o':=by simpa using pe
   rcases hh e he hb with h4|h4
   ·simp [Array.getD]at h4
   ·exact h3 e.on h4
  ·obtain ⟨k,i,h1,h2,h3⟩:=XV (p:=λ q=>a6.getD q false) (List.range ops.size) ⟨j,by simpa using hj,z9⟩
   have xx:i=k:=by
    have tl:k<ops.size:=by have:=(zS h1).1;simpa using this
    rw[List.getElem?_range tl]at h1;simpa using h1.symm
   subst xx;have hi:i<ops.size:=by have:=(zS h1).1;simpa using this
   refine gm i hi h2 λ o ho e he hb => ?_
   rw[List.all_eq_true]at cq;have kg:(o,i)∈ops.toList.zipIdx:=List.mem_zipIdx_iff_getElem?.2 (by simpa using ho);have h4:=cq (o,i) kg;simp only[Array.all_eq_true_iff_forall_mem,Bool.or_eq_true,decide_eq_true_eq]at h4;rcases h4 e he with h5|h5
   ·exact h3 e.on (by rw[List.take_range];simp;omega)
   ·exfalso
    unfold Region.binds at hb;split at h5
    ·rename_i row q6
     rw[q6]at hb;simp at hb;exact Ai hb
    ·cases h5
variable {B:Nat} {S:Nat->Prop} {w0:World} {m0:M} {N:Nat}
variable {P:Program} {num:Nat->Nat} {C:Cl} {Q:Exit->Act->World->Prop}
def PI (a6:Array Bool) (n:Nat):Nat:=(List.range n).countP (λ j => !a6.getD j false)
theorem cQ {α:Type} {p q:α->Bool} : ∀ {l:List α} {x:α},(∀ y∈l,q y=true->p y=true)->x∈l->p x=true->q x=false->l.countP q<l.countP p
 | [],x,_,hx,_,_=>by simp at hx
 | y::r,x,h,hx,hp,hq=>by
  have hle:r.countP q<=r.countP p:=List.countP_mono_left λ z hz Pb=>h z (by simp [hz]) Pb
  rw[List.countP_cons,List.countP_cons];rcases List.mem_cons.1 hx with rfl|hx
  ·simp only[hp,hq,if_true,Bool.false_eq_true,if_false]
   omega
  ·have:=cQ (l:=r) (λ z hz=>h z (by simp [hz])) hx hp hq
   by_cases Dz:q y=true
   ·simp only[Dz,h y (by simp) Dz,if_true];omega
   ·simp only[Dz,Bool.false_eq_true,if_false]
    split<;>omega
theorem Kx (hC:FS P num C) {l:List AI} (e8:MX P num N ops ops.toList l=true) {σ:Nat->St} {rs:List CU} (h:S7 C ops l σ rs) (yd:md = .gc->Region.departs ops=true)
  (hQ : ∀ m' a',m'.own=(σ l.length).own->EI B S w0 m0 N (c6 (σ l.length).tm) m' a'->Q .normal a' m'.w) :
  ∀ (fuel:Nat) (a6:Array Bool) (a:Act) (m:M),a6.size=ops.size->PI a6 ops.size<=fuel->PP ops (λ j=>a6.getD j false)->m.own=(CY (λ j=>a6.getD j false) rs 0 (d0 σ)).2->EI B S w0 m0 N (CY (λ j=>a6.getD j false) rs 0 (d0 σ)).1 m a->wpAny P md ops Q fuel a6 a m.w:=by
 have hlen:ops.size=l.length:=by have:=(SB e8).1;simpa using this
 have final : ∀ (a6:Array Bool) (a:Act) (m:M),(∀ j,j<ops.size->a6.getD j false=true)->m.own=(CY (λ j=>a6.getD j false) rs 0 (d0 σ)).2->EI B S w0 m0 N (CY (λ j=>a6.getD j false) rs 0 (d0 σ)).1 m a->Q .normal a m.w:=λ a6 a m su g9 hf=>by
  have:CY (λ j=>a6.getD j false) rs 0 (d0 σ)=(c6 (σ l.length).tm,(σ l.length).own):=by
   rw[<-W6 h l.length (Nat.le_refl _)];refine UJ rs 0 _ λ i hi => ?_
   simp only[Nat.zero_add];rw[su i (by rw[hlen,<-h.len];exact hi)];simp;rw[<-h.len];exact hi
  rw[this]at g9 hf;exact hQ m a g9 hf
 have wh : ∀ a6:Array Bool,PI a6 ops.size<=0 -> ∀ j,j<ops.size->a6.getD j false=true:=λ a6 h0 j hj=>by
  have h1:PI a6 ops.size=0:=by omega
  unfold PI at h1;rw[List.countP_eq_zero]at h1;simpa using h1 j (by simpa using hj)
 intro fuel;induction fuel with
 | zero =>
  intro a6 a m o8 hn Ck g9 hf;refine ⟨?_,final a6 a m (wh a6 hn) g9 hf⟩;cases hr:Region.ready md ops a6 with
  | nil=>rfl
  | cons i r =>
   obtain ⟨h1,o,ho,_⟩:=mem_ready.1 (show i∈Region.ready md ops a6 by rw[hr];simp);have hi:i<ops.size:=(Array.getElem?_eq_some_iff.1 ho).1;have h2:=wh a6 hn i hi;have z8:i<a6.size:=by omega
   simp [Array.getD,z8]at h1 h2;rw[h1]at h2;cases h2
 | succ fuel ih =>
  intro a6 a m o8 hn Ck g9 hf;refine ⟨λ hr=>final a6 a m (progress h.ok yd o8 hr) g9 hf,λ i hi => ?_⟩;obtain ⟨h1,o,ho,te⟩:=mem_ready.1 hi;have Nv:i<ops.size:=(Array.getElem?_eq_some_iff.1 ho).1;have z8:i<a6.size:=by omega
  have mo:a6.getD i false=false:=by
   simp [Array.getD,z8]at h1 ⊢;exact h1
  have pc:i<l.length:=by omega
  have dj:i<rs.length:=by rw[h.len];exact pc
  have hx:l[i]? = some l[i]:=zE pc;have hr:rs[i]? = some rs[i]:=zE dj;have y5 : ∀ o',ops[i]? = some o' -> ∀ e∈o'.after,Region.binds .any e=true->a6.getD e.on false=true:=λ o' pe e he hb=>by
   rw[ho]at pe;obtain rfl:o=o':=by simpa using pe
   exact te e he (qK hb md)
  obtain ⟨g1,g2,g3,g4⟩:=tS h hx hr Ck mo y5;have Dq:=(SB e8).2 i o l[i] (by simpa using ho) hx;have nq : ∀ j,(a6.setIfInBounds i true).getD j false=(decide (j=i)||a6.getD j false):=λ j=>by
   by_cases Cw:j=i
   ·subst Cw;simp [Array.getD,z8]
   ·rw[getD_set_ne false (Ne.symm Cw)];simp [Cw]
  refine mC hC ho Dq hf g1 (λ hg=>by rw[g9];exact g2 hg) λ m' a' er gd => ?_
  have fg:=g4 _ nq;refine ih (a6.setIfInBounds i true) a' m' (by simpa using o8) ?_ ?_ ?_ ?_
  ·have k6:PI (a6.setIfInBounds i true) ops.size<PI a6 ops.size:=by
    refine cQ (x:=i) (λ j _ hj => ?_) (by simpa using Nv) (by simp [mo]) (by rw[nq];simp);rw[nq]at hj;simp at hj ⊢;exact hj.2
   omega
  ·intro j oj hj vh e he hb
   change (a6.setIfInBounds i true).getD j false=true at hj;show (a6.setIfInBounds i true).getD e.on false=true;rw[nq]at hj ⊢;simp only[Bool.or_eq_true,decide_eq_true_eq]at hj ⊢;rcases hj with rfl|hj
   ·exact .inr (y5 oj vh e he hb)
   ·exact .inr (Ck j oj hj vh e he hb)
  ·rw[fg,er,g9]
   rfl
  ·rw[fg]
   rw[g9,g3]at gd;have hd:(l[i]).dst=(rs[i]).d:=(h.fits i _ _ hx hr).d.symm;rw[hd]at gd;exact gd
theorem Ky (hC:FS P num C) {id:Nat} {l:List AI} (e8:MX P num N ops ops.toList l=true) (hd:OK ops l=true) {st e9:St} (g8:CI C l st=some e9) {m:M} {a:Act} (g9:m.own=st.own) (hf:EI B S w0 m0 N (c6 st.tm) m a)
  (hQ : ∀ m' a',m'.own=e9.own->EI B S w0 m0 N (c6 e9.tm) m' a'->Q .normal a' m'.w):(Code.region id ops true).wp P Q a m.w:=by
 obtain ⟨σ,rs,h0,h1,hl,h2⟩:=trace g8;have hD:S7 C ops l σ rs:=⟨hd,hl,h2⟩;obtain ⟨iw,xp⟩:=grow hf.mem ((Below.refl m.w.heap.size m.w).drew);have mj:EI B S w0 m0 N (c6 st.tm) ⟨m.ν,m.own,m.w.drew⟩ a:=⟨iw,hf.ext.trans xp,λ i=>xp.cv (hf.tm i),hf.size,hf.defers⟩;have Fi:CY (λ j=>(Array.replicate ops.size false).getD j false) rs 0 (d0 σ)=d0 σ:=X1 rs 0 _ λ i _=>by simp [Array.getD]
 have key : ∀ md:Region.Mode,(md = .gc->Region.departs ops=true) -> ∀ t,wpOps P ops Q (Region.linearise md ops t) a m.w.drew:=λ md yd t=>by
  refine wpAny_sound ops.size t (Array.replicate ops.size false) a m.w.drew ?_;refine Kx hC e8 hD yd (by rw[h1];exact hQ) ops.size _ a ⟨m.ν,m.own,m.w.drew⟩ (by simp) ?_ ?_ ?_ ?_
  ·unfold PI
   exact Nat.le_trans List.countP_le_length (by simp)
  ·intro j o hj
   simp [Array.getD]at hj
  ·rw[Fi];simp [d0,h0,g9]
  ·rw[Fi];simpa [d0,h0] using mj
 refine wp_region_draw λ t => ?_
 change wpOps P ops Q _ a m.w.drew;unfold Region.schedule;split
 ·exact key .any (λ h=>by cases h) t
 ·rename_i xo
  have Fy:Region.departs ops=true:=by simp at xo;exact xo.2
  split
  ·exact key .text (λ_=>Fy) _
  ·exact key .gc (λ_=>Fy) _
end
end Go.c8

namespace Go.c8
open Go.RowKit
section
variable {B:Nat} {S:Nat->Prop} {w0:World} {m0:M} {N:Nat}
variable {P:Program} {num:Nat->Nat} {C:Cl}
theorem Mb (m:Tm) (l:List Nat) (j:Nat):c6 (q9 m l) j=c6 m j\/c6 (q9 m l) j = .any:=by
 induction m with
 | nil=>exact .inl rfl
 | cons x r ih =>
  obtain ⟨i,v⟩:=x;simp only[q9];split
  ·by_cases h:j=i
   ·subst h
    rename_i hc;right
    clear ih;induction r with
    | nil=>rfl
    | cons y q ih =>
     obtain ⟨k,u⟩:=y;simp only[q9];split
     ·exact ih
     ·rename_i hk
      have : ¬ j=k:=λ e=>by subst e;exact hk hc
      simp only[c6,if_neg this];exact ih
   ·rcases ih with h1|h1
    ·left;simp only[c6,if_neg h];exact h1
    ·right;exact h1
  ·by_cases h:j=i
   ·left;simp [c6,h]
   ·simp only[c6,if_neg h]
    exact ih
inductive GS (P:Program) (num:Nat->Nat) (N:Nat):List It->List Item->Prop
 | nil:GS P num N [] []
 | code {c:Code} {a:A8} {k:List It} {t:List Item} (h:DT P num N c a=true) (hk:GS P num N k t):GS P num N (.code a::k) (.code c::t)
 | drop {ts ss:List Nat} {k:List It} {t:List Item} (hk:GS P num N k t):GS P num N (.gq ts ss::k) t
 | c7 {id:Nat} {k:List It} {t:List Item} (hk:GS P num N k t):GS P num N (.c7 id::k) (.inBlock id::t)
 | lp {c:Code} {a:A8} {k:List It} {t:List Item} (h:DT P num N c a=true) (hk:GS P num N k t):GS P num N (.lp a::k) (.inLoop c::t)
 | scope {c:Code} {k:List It} {t:List Item} (hk:GS P num N k t):GS P num N k (.inScope c::t)
theorem lH {b:Frame} {a:Act} {k:List Item} {cs:List Frame} {w:World} {c:Code}:step P (lone (b.at a (.inScope c::k)) cs w) = .next (lone (b.at a k) cs w) :=
 step_lone_go (by simp [stepG,stepG.exec,Frame.at])
theorem Ls {b:Frame} {a:Act} {k:List Item} {cs:List Frame} {w:World} {c:Code}:step P (lone (b.at a (.code (.scope c)::k)) cs w) = .next (lone (b.at a (.code c :: .inScope c::k)) cs w) :=
 step_lone_go (by simp [stepG,stepG.exec,Frame.at])
theorem P9 {id:Nat} : ∀ {k:List It} {t:List Item},GS P num N k t -> ∀ {k':List It},EG id k=some k' -> ∃ t',exitTo id t=some t'/\GS P num N k' t'
 | _,_,.nil,k',h=>by simp [EG]at h
 | _,_,.code h0 hk,k',h=>by
  simp only[EG]at h;obtain ⟨t',h1,h2⟩:=P9 hk h;exact ⟨t',by simpa [exitTo] using h1,h2⟩
 | _,_,.drop hk,k',h=>by
  simp only[EG]at h;exact P9 hk h
 | _,_,.c7 (id:=Ax) hk,k',h=>by
  simp only[EG]at h;split at h
  ·rename_i he
   subst he;simp only[Option.some.injEq]at h;subst h;exact ⟨_,by simp [exitTo],hk⟩
  ·rename_i he
   obtain ⟨t',h1,h2⟩:=P9 hk h;exact ⟨t',by simpa [exitTo,he] using h1,h2⟩
 | _,_,.lp h0 hk,k',h=>by
  simp only[EG]at h;obtain ⟨t',h1,h2⟩:=P9 hk h;exact ⟨t',by simpa [exitTo] using h1,h2⟩
 | _,_,.scope hk,k',h=>by
  obtain ⟨t',h1,h2⟩:=P9 hk h;exact ⟨t',by simpa [exitTo] using h1,h2⟩
def aJ (B:Nat) (S:Nat->Prop) (w0:World) (m0:M) (N:Nat) (P:Program) (b:Frame) (cs:List Frame) (Ex:Machine) (e9:St):Prop :=
 ∃ a' m' k8,Steps P Ex (lone { b.at a' k8 with mode := .returning } cs m'.w)/\m'.own=e9.own/\EI B S w0 m0 N (c6 e9.tm) m' a'
theorem Jg (hC:FS P num C) (b:Frame) (cs:List Frame) : ∀ (n:Nat) (k:List It) (st e9:St),run C n k st=some e9 -> ∀ (t:List Item),GS P num N k t -> ∀ (m:M) (a:Act),m.own=st.own->EI B S w0 m0 N (c6 st.tm) m a ->
  aJ B S w0 m0 N P b cs (lone (b.at a t) cs m.w) e9:=by
 intro n;induction n with
 | zero=>intro k st e9 h;simp [run]at h
 | succ n ih =>
  intro k st e9 h t ht;have fin : ∀ (t:List Item),GS P num N [] t -> ∀ (m:M) (a:Act),m.own=st.own->EI B S w0 m0 N (c6 st.tm) m a->st=e9->aJ B S w0 m0 N P b cs (lone (b.at a t) cs m.w) e9:=by
   intro t ht;generalize hk:([]:List It)=kk at ht;induction ht with
   | nil =>
    intro m a g9 hf he;subst he;exact ⟨a,m,[],.one step_end,g9,hf⟩
   | scope cj dn =>
    intro m a g9 hf he;obtain ⟨a',m',k8,h1,h2⟩:=dn hk m a g9 hf he;exact ⟨a',m',k8,.head lH h1,h2⟩
   | code=>cases hk
   | drop=>cases hk
   | c7=>cases hk
   | lp=>cases hk
  cases k with
  | nil =>
   intro m a g9 hf;simp only[run,Option.some.injEq]at h;exact fin t ht m a g9 hf h
  | cons it k =>
   generalize iv:it::k=kk at ht;induction ht with
   | nil=>cases iv
   | scope cj dn =>
    intro m a g9 hf;obtain ⟨a',m',k8,h1,h2⟩:=dn iv m a g9 hf;exact ⟨a',m',k8,.head lH h1,h2⟩
   | @c7 id k2 t2 cj dn =>
    intro m a g9 hf;obtain ⟨rfl,rfl⟩:it = .c7 id/\k=k2:=by simpa using iv
    simp only[run]at h;obtain ⟨a',m',k8,h1,h2⟩:=ih k st e9 h t2 cj m a g9 hf;exact ⟨a',m',k8,.head step_inBlock h1,h2⟩
   | @lp c ac k2 t2 e8 cj dn =>
    intro m a g9 hf;obtain ⟨rfl,rfl⟩:it = .lp ac/\k=k2:=by simpa using iv
    simp only[run]at h;obtain ⟨a',m',k8,h1,h2⟩:=ih _ st e9 h (.code c :: .inLoop c::t2) (.code e8 (.lp e8 cj)) m a g9 hf;exact ⟨a',m',k8,.head step_inLoop h1,h2⟩
   | @drop ts ss k2 t2 cj dn =>
    intro m a g9 hf;obtain ⟨rfl,rfl⟩:it = .gq ts ss/\k=k2:=by simpa using iv
    simp only[run]at h;obtain ⟨fp,he⟩:=tT hf.mem ss;have gd:EI B S w0 m0 N (c6 (q9 st.tm ts)) ⟨m.ν,m.own.drop ss,m.w⟩ a:=⟨fp,hf.ext.trans he,λ i=>by
     rcases Mb st.tm ts i with h1|h1
     ·rw[h1];exact he.cv (hf.tm i)
     ·rw[h1];exact .any _,hf.size,hf.defers⟩
    obtain ⟨a',m',k8,h1,h2,h3⟩:=ih k ⟨q9 st.tm ts,st.own.drop ss⟩ e9 h t2 cj ⟨m.ν,m.own.drop ss,m.w⟩ a (by simp [g9]) gd;exact ⟨a',m',k8,h1,h2,h3⟩
   | @code c ac k2 t2 e8 cj dn =>
    obtain ⟨rfl,rfl⟩:it = .code ac/\k=k2:=by simpa using iv
    clear dn iv;intro m a g9 hf;cases ac with
    | dr ac ts ss =>
     simp only[DT]at e8;simp only[run]at h;exact ih _ st e9 h _ (.code e8 (.drop cj)) m a g9 hf
    | skip =>
     simp only[run]at h;cases c with
     | skip =>
      obtain ⟨a',m',k8,h1,h2⟩:=ih _ st e9 h _ cj m a g9 hf;exact ⟨a',m',k8,.head step_skip h1,h2⟩
     | label =>
      obtain ⟨a',m',k8,h1,h2⟩:=ih _ st e9 h _ cj m a g9 hf;exact ⟨a',m',k8,.head step_label h1,h2⟩
     | _=>simp [DT]at e8
    | scope ac =>
     simp only[run]at h;cases c with
     | scope c =>
      simp only[DT]at e8;obtain ⟨a',m',k8,h1,h2⟩:=ih _ st e9 h _ (.code e8 (.scope (c:=c) cj)) m a g9 hf;exact ⟨a',m',k8,.head Ls h1,h2⟩
     | _=>simp [DT]at e8
    | seq a1 a2 =>
     simp only[run]at h;cases c with
     | seq c1 c2 =>
      simp only[DT,Bool.and_eq_true]at e8;obtain ⟨a',m',k8,h1,h2⟩:=ih _ st e9 h _ (.code e8.1 (.code e8.2 cj)) m a g9 hf;exact ⟨a',m',k8,.head step_seq h1,h2⟩
     | _=>simp [DT]at e8
    | cond x a1 a2 =>
     simp only[run]at h;cases c with
     | cond xc c1 c2 =>
      simp only[DT,Bool.and_eq_true]at e8;have o5:CV B S m (st.ev x) (a.eval xc):=by rw[eG];exact hf.says xc x e8.1.1
      split at h
      ·rename_i hx
       rw[hx]at o5;obtain ⟨a',m',k8,h1,h2⟩:=ih _ st e9 h _ (.code e8.1.2 cj) m a g9 hf;exact ⟨a',m',k8,.head (step_cond (OJ o5)) h1,h2⟩
      ·rename_i hx
       rw[hx]at o5;obtain ⟨a',m',k8,h1,h2⟩:=ih _ st e9 h _ (.code e8.2 cj) m a g9 hf;exact ⟨a',m',k8,.head (step_cond (OJ o5)) h1,h2⟩
      ·cases h
     | _=>simp [DT]at e8
    | block id ac =>
     simp only[run]at h;cases c with
     | block Ax c =>
      simp only[DT,Bool.and_eq_true,beq_iff_eq]at e8;obtain ⟨rfl,e8⟩:=e8;obtain ⟨a',m',k8,h1,h2⟩:=ih _ st e9 h _ (.code e8 (.c7 cj)) m a g9 hf;exact ⟨a',m',k8,.head step_block h1,h2⟩
     | _=>simp [DT]at e8
    | loop ac =>
     simp only[run]at h;cases c with
     | loop c =>
      simp only[DT]at e8;obtain ⟨a',m',k8,h1,h2⟩:=ih _ st e9 h _ (.code e8 (.lp e8 cj)) m a g9 hf;exact ⟨a',m',k8,.head step_loop h1,h2⟩
     | _=>simp [DT]at e8
    | exit id =>
     simp only[run]at h;cases c with
     | exit Ax =>
      simp only[DT,beq_iff_eq]at e8;subst e8;split at h
      ·rename_i k' ke
       obtain ⟨t',e1,e2⟩:=P9 cj ke;obtain ⟨a',m',k8,h1,h2⟩:=ih _ st e9 h _ e2 m a g9 hf;exact ⟨a',m',k8,.head (step_exit e1) h1,h2⟩
      ·cases h
     | _=>simp [DT]at e8
    | ret =>
     simp only[run,Option.some.injEq]at h;subst h;cases c with
     | ret=>exact ⟨a,m,.code .ret::t2,.one step_ret,g9,hf⟩
     | _=>simp [DT]at e8
    | ops l draw =>
     simp only[run]at h;split at h
     ·rename_i A0 yx
      cases c with
      | region id ops jj =>
       simp only[DT,Bool.and_eq_true,beq_iff_eq]at e8;obtain ⟨⟨rfl,yj⟩,iq⟩:=e8;have Pq:(Code.region id ops jj).wp P (λ e a' w'=>e = .normal /\ ∃ m',m'.w=w'/\m'.own=A0.own/\EI B S w0 m0 N (c6 A0.tm) m' a') a m.w:=by
        cases jj with
        | true=>exact Ky hC yj (by simpa using iq) yx g9 hf λ m' a' h1 h2=>⟨rfl,m',rfl,h1,h2⟩
        | false =>
         refine wp_region ?_;rw[List.range_eq_range'];exact mD hC yj ops.size 0 st A0 m a (by omega) (by simpa using yx) g9 hf λ m' a' h1 h2=>⟨rfl,m',rfl,h1,h2⟩
       obtain ⟨e,a1,w1,⟨rfl,m1,rfl,yk,mj⟩,Cd⟩:=Pq b t2 cs;obtain ⟨a',m',k8,h1,h2,h3⟩:=ih _ A0 e9 h _ cj m1 a1 yk mj;exact ⟨a',m',k8,Steps.trans Cd h1,h2,h3⟩
      | _=>simp [DT]at e8
     ·cases h
end
end Go.c8

namespace Go.c8
open Go.RowKit
section
variable {P:Program} {num:Nat->Nat} {L:Lib}
def ProgOK (P : Program) (num : Nat → Nat) (L : Lib) : Prop := (∀ f fa, L f = some fa → ∃ fn, P.funcs[num f]? = some fn ∧ okFn P num fn fa = true ∧ (fn.name == "runtime.NumGoroutine") = false) ∧ L.num = num
theorem gR : ∀ (args:List AV) (k i:Nat),c6 (BX k args) i=if k<=i then (match args[i-k]? with|some v=>v|none => .any) else .any
 | [],k,i=>by simp [BX,c6]
 | v::r,k,i=>by
  simp only[BX,c6];by_cases h:i=k
  ·subst h;simp
  ·rw[if_neg h,gR r (k+1) i]
   by_cases h2:k<=i
   ·rw[if_pos h2,if_pos (by omega)]
    have:i-k=(i-(k+1))+1:=by omega
    rw[this];simp
   ·rw[if_neg h2,if_neg (by omega)]
section
variable {B:Nat} {S:Nat->Prop} {w0:World} {m0:M} {N:Nat}
def U9 (tmps:Array Value):ResultVar->Sem Value
 | .tmp t=>pure (tmps.getD t undef)
 | .cell x t=>do loadVar t (<-asAddr (tmps.getD x undef))
theorem qO {m:M} {x v:AV} {u:Value} (h:HF x=some v) (o5:CV B S m x u):CA B S m v u:=by
 cases o5 with
 | any=>simp [HF]at h
 | e7=>simp [HF]at h
 | ca hc =>
  have:x=v:=by
   cases hc with
   | one hc=>cases hc with
    | rd hr=>cases hr<;>simpa [HF] using h
    | _=>simpa [HF] using h
   | fn=>simpa [HF] using h
   | mb=>simpa [HF] using h
   | agg=>simpa [HF] using h
  subst this;exact hc
theorem ZE {m:M} {a:Act} {st:St} (hf:EI B S w0 m0 N (c6 st.tm) m a) (g9:m.own=st.own) : ∀ {rv:List ResultVar} {ra:List HU} {vs:List AV},KL P rv ra=true->ra.mapM (D7 st)=some vs ->
  ∃ us:List Value,(rv.mapM (U9 a.tmps)).run P m.w = .ok us m.w/\vs.length=us.length /\ ∀ (j:Nat) (c:AV) (v:Value),vs[j]? = some c->us[j]? = some v->CA B S m c v
 | [],[],vs,_,h=>by
  simp at h;subst h;exact ⟨[],by simp,rfl,λ j c v hc=>by simp at hc⟩
 | .tmp t::r,.tmp t'::l,vs,e8,h=>by
  simp only[KL,Bool.and_eq_true,beq_iff_eq]at e8;obtain ⟨rfl,e8⟩:=e8;simp only[List.mapM_cons,Option.bind_eq_bind,Option.pure_def]at h;cases hv:D7 st (.tmp t) with
  | none=>simp [hv]at h
  | some v =>
   cases hr:l.mapM (D7 st) with
   | none=>simp [hv,hr]at h
   | some vr =>
    simp [hv,hr]at h;subst h;obtain ⟨us,h1,h2,h3⟩:=ZE hf g9 e8 hr;have o5:=hf.tm t;have ka:CA B S m v (a.tmps.getD t undef):=qO hv o5;refine ⟨a.tmps.getD t undef::us,?_,by simp [h2],λ j c u hc hu => ?_⟩
    ·simp only[List.mapM_cons,Sem.run_bind,U9,Sem.run_pure,Result.andThen_ok,h1]
    ·cases j with
     | zero =>
      obtain rfl:v=c:=by simpa using hc
      obtain rfl:a.tmps.getD t undef=u:=Option.some.inj hu;exact ka
     | succ j=>exact h3 j c u (by simpa using hc) (by simpa using hu)
 | .cell x t::r,.cell x' agg n::l,vs,e8,h=>by
  simp only[KL,Bool.and_eq_true,beq_iff_eq]at e8;obtain ⟨⟨⟨rfl,cp⟩,hn⟩,e8⟩:=e8;simp only[List.mapM_cons,Option.bind_eq_bind,Option.pure_def]at h;cases hv:D7 st (.cell x agg n) with
  | none=>simp [hv]at h
  | some v =>
   cases hr:l.mapM (D7 st) with
   | none=>simp [hv,hr]at h
   | some vr =>
    simp [hv,hr]at h;subst h;obtain ⟨us,h1,h2,h3⟩:=ZE hf g9 e8 hr;have o5:=hf.tm x;simp only[D7]at hv;split at hv
    ·rename_i s u i j hx
     rw[hx]at o5;split at hv
     ·rename_i cs ek
      rw[<-g9]at ek;obtain ⟨ad,w3,ht,hb⟩:=RL o5;obtain ⟨b,g,arr,e,l6,hg,v7,lq,n0,bq⟩:=jT hf.mem ek;obtain ⟨Nj,dv⟩:=UY hv n0;have Oh:=ZH (P:=P) t agg n (WD (by simpa using cp)) (by
       cases agg
       ·simpa using hn
       ·exact MA (by simpa using hn)) ad v7 lq m.w (λ q u' hq=>by
       have k6:q<v7.length:=(zS hq).1;obtain ⟨tj,eo⟩:=hg (by omega);obtain ⟨g',z7,rfl⟩:=hb b l6;obtain rfl:g=g':=by rw[tj]at z7;simpa using z7
       rw[F4,TT eo];exact bq q u' hq)
      have Dc:(U9 a.tmps (.cell x t)).run P m.w = .ok (if agg then .agg v7.toArray else v7.getD 0 undef) m.w:=by
       show (do loadVar t (<-asAddr (a.tmps.getD x undef)):Sem Value).run P m.w=_;rw[w3];simpa [asAddr,Instr.loadAt,Instr.sureAddr] using Oh
      have ka:CA B S m v (if agg then .agg v7.toArray else v7.getD 0 undef):=by
       unfold IV at hv;cases agg with
       | true =>
        simp only[if_true,Option.some.injEq]at hv;subst hv;exact .agg cs v7 n0
       | false =>
        simp only[Bool.false_eq_true,if_false]at hv ⊢;split at hv
        ·rename_i c
         simp only[Option.some.injEq]at hv;subst hv;obtain ⟨u',fi,q7⟩:=PY n0 (j:=0) (c:=c) rfl;simp only[List.getD,fi,Option.getD_some];exact .one q7
        ·cases hv
      refine ⟨(if agg then .agg v7.toArray else v7.getD 0 undef)::us,?_,by simp [h2],λ j' c u' hc hu => ?_⟩
      ·rw[List.mapM_cons,Sem.run_bind,Dc,Result.andThen_ok,Sem.run_bind,h1,Result.andThen_ok]
       rfl
      ·cases j' with
       | zero =>
        obtain rfl:v=c:=by simpa using hc
        obtain rfl:=Option.some.inj hu;exact ka
       | succ j'=>exact h3 j' c u' (by simpa using hc) (by simpa using hu)
     ·cases hv
    ·cases hv
 | [],_::_,_,e8,_=>by simp [KL]at e8
 | .tmp _::_,[],_,e8,_=>by simp [KL]at e8
 | .cell _ _::_,[],_,e8,_=>by simp [KL]at e8
 | .tmp _::_,.cell _ _ _::_,_,e8,_=>by simp [KL]at e8
 | .cell _ _::_,.tmp _::_,_,e8,_=>by simp [KL]at e8
end
theorem bY (hP:ProgOK P num L) {f:Nat} {fa:AFn} (hL:L f=some fa) (us:Array Value) (w:World):(callFunc (num f) us).run P w = .ok (.enter (num f) us) w:=by
 obtain ⟨fn,h1,h2,h3⟩:=hP.1 f fa hL;have hb:fn.body.isNone=false:=by
  simp only[okFn,Bool.and_eq_true]at h2;cases Nc:fn.body with
  | none=>rw[Nc]at h2;simp at h2
  | some c=>rfl
 unfold callFunc;simp only[Sem.run_bind,run_program,Result.andThen_ok,h1,h3,hb,Bool.false_eq_true,if_false,Sem.run_pure]
theorem gS (hP:ProgOK P num L) {n:Nat} (hC:FS P num (B7 L n)) {f:Nat} {vs:List AV} {own:AE} {r:AV} {j7:AE} (h:CN L (n+1) f vs own=some (r,j7)) (B:Nat) (S:Nat->Prop) (w0:World) (m:M) (us:List Value) (g9:m.own=own) (hm:BD B S w0 m) (hl:vs.length=us.length)
  (o5 : ∀ (j:Nat) (c:AV) (v:Value),vs[j]? = some c->us[j]? = some v->CV B S m c v) :
  Calls P (num f) us.toArray m.w λ e w' => ∃ u m',e = .returned u/\m'.w=w'/\m'.own=j7/\BD B S w0 m'/\CS B S m m'/\CV B S m' r u:=by
 rw[RR]at h;cases hL:L f with
 | none=>simp [hL]at h
 | some fa =>
  simp only[hL]at h;split at h
  ·rename_i yl
   split at h
   ·rename_i st m7
    split at h
    ·rename_i Hw na
     simp only[Option.some.injEq,Prod.mk.injEq]at h;obtain ⟨rfl,rfl⟩:=h;obtain ⟨fn,h1,h2,h3⟩:=hP.1 f fa hL;simp only[okFn,Bool.and_eq_true,beq_iff_eq,decide_eq_true_eq]at h2;obtain ⟨⟨⟨h4,h5⟩,h6⟩,h7⟩:=h2;split at h7
     ·rename_i c hc
      intro cs;have tf:Frame.enter P (num f) us.toArray .normal=({ (default:Frame) with fn:=num f,kind := .normal }:Frame).at { tmps:=us.toArray++Array.replicate (fn.ntmps-us.toArray.size) undef,defers:=[] } [.code c]:=by
       simp [Frame.enter,Frame.at,h1,hc]
      have o8:us.length=fa.u6:=by rw[<-hl];exact yl
      have Nn:EI B S w0 m fn.ntmps (c6 (BX 0 vs)) m { tmps:=us.toArray++Array.replicate (fn.ntmps-us.toArray.size) undef,defers:=[] }:=by
       refine ⟨hm,CS.refl m,λ i => ?_,by simp;omega,rfl⟩;rw[gR];simp only[Nat.zero_le,if_true,Nat.sub_zero];cases Hb:vs[i]? with
       | none=>exact .any _
       | some v =>
        have hi:i<us.length:=by rw[<-hl];exact (zS Hb).1
        have l6:(us.toArray++Array.replicate (fn.ntmps-us.toArray.size) undef).getD i undef=us[i]:=by
         rw[Array.getD_eq_getD_getElem?,Array.getElem?_append_left (by simpa using hi)];simp [hi]
        simp only[l6];exact o5 i v us[i] Hb (zE hi)
      obtain ⟨a',m',k8,uf,er,gd⟩:=Jg (m0:=m) hC { (default:Frame) with fn:=num f,kind := .normal } cs n [.code fa.body] ⟨BX 0 vs,own⟩ st m7 [.code c] (.code h7 .nil) m _ g9 Nn;obtain ⟨oh,Po,vn,Gz⟩:=ZE (P:=P) gd er h6 na;have pf:(results fn a'.tmps).run P m'.w = .ok (if h:oh.length=1 then oh[0] else .tuple oh.toArray) m'.w:=by
       have hr:results fn a'.tmps=(do let vs <-fn.results.mapM (U9 a'.tmps);pure (if h:vs.size=1 then vs[0] else .tuple vs)):=rfl;rw[hr,Sem.run_bind,Array.mapM_eq_mapM_toList];simp [Po]
      refine ⟨.returned (if h:oh.length=1 then oh[0] else .tuple oh.toArray),m'.w,_,⟨_,m',rfl,rfl,er,gd.mem,gd.ext,?_⟩,by rw[tf];exact uf,rfl,rfl,gd.defers,rfl,fn,h1,pf⟩;unfold GM;split
      ·rename_i v
       have mc:oh.length=1:=by rw[<-vn];rfl
       rw[dif_pos mc];exact .ca (Gz 0 v oh[0] rfl (zE (by omega)))
      ·rename_i k7
       have mc : ¬ oh.length=1:=λ e=>by
        rw[<-vn]at e;cases Hw with
        | nil=>simp at e
        | cons q qs=>cases qs with
         | nil=>exact k7 q rfl
         | cons=>simp at e
       rw[dif_neg mc];exact .e7 Hw oh vn Gz
     ·cases h7
    ·cases h
   ·cases h
  ·cases h
theorem zV (S:Nat->Prop) (w:World):BD w.heap.size S w ⟨λ_ _=>none,AE.emp,w⟩ :=
 ⟨Below.refl _ _,Nat.le_refl _,λ_ _ _=>rfl,λ s t b h=>by simp [AE.get,AE.emp]at h,λ s t s' t' b b' g h=>by simp [AE.get,AE.emp]at h⟩
theorem dZ {n f:Nat} {vs:List AV} {own:AE} {r:AV × AE} (h:CN L n f vs own=some r) : ∃ fa,L f=some fa:=by
 cases n with
 | zero=>simp [CN]at h
 | succ n =>
  rw[RR]at h;cases hL:L f with
  | none=>simp [hL]at h
  | some fa=>exact ⟨fa,rfl⟩
theorem YY {n f:Nat} {vs:List AV} {r:AV} (h:G7 (λ vs=>CN L n f vs AE.emp) vs=some r) : ∃ r0 o,CN L n f vs AE.emp=some (r0,o)/\NW o false r0=some r/\AZ r:=by
 unfold G7 at h;cases he:CN L n f vs AE.emp with
 | none=>simp [he]at h
 | some x =>
  obtain ⟨r0,o⟩:=x;simp only[he]at h;split at h
  ·rename_i r' hr
   split at h
   ·rename_i hc
    simp only[Option.some.injEq]at h;subst h;exact ⟨r0,o,rfl,hr,hc⟩
   ·cases h
  ·cases h
theorem XB {n f:Nat} {vs:List AV} {r:AV} (h:FW L n f vs=some r) : ∃ v7,∃ x,CN L n f v7 AE.emp=some x:=by
 unfold FW IX at h;split at h
 ·split at h
  ·rename_i r1 r2 h1 h2
   obtain ⟨r0,o,h3,_⟩:=YY h1;exact ⟨_,_,h3⟩
  ·cases h
 ·obtain ⟨r0,o,h3,_⟩:=YY h
  exact ⟨_,_,h3⟩
theorem YZ (hP:ProgOK P num L) {n:Nat} (ih:FS P num (B7 L n)) {f:Nat} {vs:List AV} {r:AV} (h:G7 (λ vs=>CN L (n+1) f vs AE.emp) vs=some r) (S:Nat->Prop) (w:World) (us:List Value) (hl:vs.length=us.length)
  (ka : ∀ (j:Nat) (c:AV) (v:Value),vs[j]? = some c->us[j]? = some v->CA w.heap.size S ⟨λ_ _=>none,AE.emp,w⟩ c v) :
  Calls P (num f) us.toArray w λ e w' => ∃ u,e = .returned u/\Below w.heap.size w w'/\CV w.heap.size S ⟨λ_ _=>none,AE.emp,w'⟩ r u/\AZ r:=by
 obtain ⟨r0,o,h1,h2,h3⟩:=YY (L:=L) h;refine Calls.mono (gS hP ih h1 w.heap.size S w ⟨λ_ _=>none,AE.emp,w⟩ us rfl (zV S w) hl λ j c v hc hv => .ca (ka j c v hc hv)) λ e w' ⟨u,m',he,hw,g9,fp,_,o5⟩ => ?_
 subst hw;refine ⟨u,he,fp.below,?_,h3⟩;refine DV.cv (m:=⟨λ_ _=>none,AE.emp,m'.w⟩) (Lj fp false (safe w.heap.size S ⟨λ_ _=>none,AE.emp,m'.w⟩) (λ l b hb hs => ?_) (λ s t g du hg => ?_) (by rw[g9];exact h2) o5)
 ·rcases hs with h|⟨h,_⟩|h
  ·exact .inl h
  ·exact .inr (.inl ⟨h,λ s t du=>by simp [AE.get,AE.emp]at du⟩)
  ·exact .inr (.inr h)
 ·exact .inr (.inl ⟨(fp.ge du hg).1,λ s t du=>by simp [AE.get,AE.emp]at du⟩)
theorem qQ (hP:ProgOK P num L) : ∀ n,FS P num (B7 L n):=by
 intro n;induction n with
 | zero =>
  exact ⟨λ f vs r h=>by obtain ⟨v7,x,h1⟩:=XB (L:=L) (n:=0) (f:=f) (vs:=vs) (r:=r) h;simp [CN]at h1,λ f vs own r h=>by change CN L 0 f vs own=some r at h;simp [CN]at h,
   λ f vs r h=>by obtain ⟨v7,x,h1⟩:=XB (L:=L) (n:=0) (f:=f) (vs:=vs) (r:=r) h;simp [CN]at h1,λ f vs own r j7 h=>by change CN L 0 f vs own=_ at h;simp [CN]at h,hP.2⟩
 | succ n ih =>
  refine ⟨λ f vs r h us w => ?_,λ f vs own r h us w => ?_,λ f vs r h S w us hl ka => ?_,λ f vs own r j7 h B S w0 m us g9 hm hl o5=>gS hP ih h B S w0 m us g9 hm hl o5,hP.2⟩
  ·obtain ⟨v7,x,h1⟩:=XB (L:=L) h
   obtain ⟨fa,hL⟩:=dZ h1;exact bY hP hL us w
  ·obtain ⟨fa,hL⟩:=dZ (L:=L) h
   exact bY hP hL us w
  ·have h:IX (L.je f) (λ vs=>CN L (n+1) f vs AE.emp) vs=some r:=h
   unfold IX at h;split at h
   ·rename_i q v7 _ _
    split at h
    ·rename_i r1 r2 h1 h2
     split at h
     ·rename_i e
      subst e;obtain rfl:=Option.some.inj h;cases us with
      | nil=>simp at hl
      | cons u us =>
       have h0:=ka 0 _ u rfl rfl;have hu : ∃ a cap,u = .slice a 0 cap:=by
        cases h0 with
        | one h0=>cases h0 with
         | rd h0=>cases h0 with
          | dd l a cap=>exact ⟨a,cap,rfl⟩
          | sl l es b o a4 cap u k7=>exact absurd rfl k7
       obtain ⟨a,cap,rfl⟩:=hu;have key : ∀ b,a.isNone=b -> ∀ (j:Nat) (c:AV) (v:Value),(AV.w6 (.bool b)::v7)[j]? = some c->(Value.slice a 0 cap::us)[j]? = some v->CA w.heap.size S ⟨λ_ _=>none,AE.emp,w⟩ c v:=λ b hb j c v hc hv=>by
        cases j with
        | zero =>
         obtain rfl:=Option.some.inj hc;obtain rfl:=Option.some.inj hv;exact .one (.rd (.emp b a cap hb))
        | succ j=>exact ka (j+1) c v hc hv
       cases hb:a.isNone with
       | true=>exact YZ hP ih h1 S w _ (by simpa using hl) (key true hb)
       | false=>exact YZ hP ih h2 S w _ (by simpa using hl) (key false hb)
     ·cases h
    ·cases h
   ·exact YZ hP ih h S w us hl ka
end
end Go.c8
namespace Go.c8
abbrev OkF (P : Program) (num : Nat → Nat) (p : Nat × AFn) : Prop := ∃ fn, P.funcs[num p.1]? = some fn ∧ okFn P num fn p.2 = true ∧ (fn.name == "runtime.NumGoroutine") = false
theorem Im {P:Program} {num:Nat->Nat} (l:List (Nat × AFn)) (h : ∀ p∈l,OkF P num p):ProgOK P num ⟨λ f=>l.lookup f,num⟩:=by
 refine ⟨?_,rfl⟩;intro f fa hf;have hm:(f,fa)∈l:=by
  clear h;change l.lookup f=some fa at hf;induction l with
  | nil=>simp at hf
  | cons x r ih =>
   obtain ⟨k,v⟩:=x;rw[List.lookup_cons]at hf;cases hk:(f == k) with
   | true =>
    rw[hk]at hf;have:f=k:=by simpa using hk
    subst this;simp at hf;simp [hf]
   | false =>
    rw[hk]at hf;exact List.mem_cons_of_mem _ (ih hf)
 exact h (f,fa) hm
end Go.c8

namespace Go.c8
section
variable {L:Lib}
def Cl.le (C C':Cl):Prop:=(∀ f vs r,C.pure f vs=some r->C'.pure f vs=some r)/\(∀ f vs o r,C.y6 f vs o=some r->C'.y6 f vs o=some r)/\C.num=C'.num
theorem bK {x y:Option (AV × AE)} {r:Nat × List (List AV)} (h : ∀ q,x=some q->y=some q) (hr:LX x=some r):LX y=some r:=by
 cases x with
 | none=>simp [LX]at hr
 | some q=>rw[h q rfl];exact hr
theorem uB {C C':Cl} (h:C.le C') {a7:List Nat} {ρ:AM->AV} {own:AE} {op:C2} {E:BM} (he:c5 C a7 ρ own op=some E):c5 C' a7 ρ own op=some E:=by
 cases op with
 | call f xs =>
  simp only[c5]at he ⊢;split at he
  ·rename_i vs bq
   simp only[Option.map_eq_some_iff]at he ⊢;obtain ⟨r,hr,rfl⟩:=he;exact ⟨r,h.1 f vs r hr,rfl⟩
  ·cases he
 | c4 f xs =>
  simp only[c5]at he ⊢;split at he
  ·simp only[Option.map_eq_some_iff]at he ⊢
   obtain ⟨p,hp,rfl⟩:=he;have h1:=TQ hp;exact ⟨p,TP h1.1 λ o ho=>h.2.1 f _ o _ (h1.2 o ho),rfl⟩
  ·simp only[Option.map_eq_some_iff]at he ⊢
   obtain ⟨r,hr,rfl⟩:=he;exact ⟨r,h.2.1 f _ own r hr,rfl⟩
 | jb p f xs=>simp only[c5]at he ⊢;rw[<-h.2.2];exact he
 | w5 s f xs =>
  simp only[c5,Option.map_eq_some_iff]at he ⊢;obtain ⟨p,hp,rfl⟩:=he;exact ⟨p,TS.2 λ o ho=>h.2.1 f _ o _ (TS.1 hp o ho),rfl⟩
 | n6 s f xs =>
  simp only[c5]at he ⊢;split at he
  ·rename_i vs bq
   simp only[Option.map_eq_some_iff]at he ⊢;obtain ⟨r,hr,rfl⟩:=he;exact ⟨r,bK (h.2.1 f vs AE.emp) hr,rfl⟩
  ·cases he
 | l7 f xs =>
  simp only[c5]at he ⊢;split at he
  ·rename_i hq
   rw[if_pos hq];split at he
   ·rename_i r hr
    rw[h.1 _ _ r hr];exact he
   ·cases he
  ·cases he
 | l8 x xs =>
  simp only[c5]at he ⊢;rw[<-h.2.2];split at he
  ·split at he
   ·rename_i hg
    rw[if_pos hg];split at he
    ·split at he
     ·rename_i vs bq
      simp only[Option.map_eq_some_iff]at he ⊢;obtain ⟨r,hr,rfl⟩:=he;exact ⟨r,h.1 _ vs r hr,rfl⟩
     ·cases he
    ·simp only[Option.map_eq_some_iff]at he ⊢
     obtain ⟨r,hr,rfl⟩:=he;exact ⟨r,h.2.1 _ _ own r hr,rfl⟩
    ·split at he
     ·rename_i vs bq
      simp only[Option.map_eq_some_iff]at he ⊢;obtain ⟨r,hr,rfl⟩:=he;exact ⟨r,h.1 _ vs r hr,rfl⟩
     ·cases he
   ·cases he
  ·cases he
 | _=>exact he
theorem Lq {C C':Cl} (h:C.le C') {o:AI} {st e9:St} (he:B6 C o st=some e9):B6 C' o st=some e9:=by
 unfold B6 at he ⊢;split at he
 ·simp only[Option.map_eq_some_iff]at he ⊢
  obtain ⟨E,h1,h2⟩:=he;exact ⟨E,uB h h1,h2⟩
 ·exact he
 ·exact he
theorem LT {C C':Cl} (h:C.le C') : ∀ {l:List AI} {st e9:St},CI C l st=some e9->CI C' l st=some e9
 | [],st,e9,he=>he
 | o::r,st,e9,he=>by
  simp only[CI]at he ⊢;cases hs:B6 C o st with
  | none=>simp [hs]at he
  | some A0 =>
   rw[Lq h hs];simp only[hs]at he;exact LT h he
theorem LQ {C C':Cl} (h:C.le C') : ∀ {n n':Nat} {k:List It} {st e9:St},n<=n'->run C n k st=some e9->run C' n' k st=some e9:=by
 intro n;induction n with
 | zero=>intro n' k st e9 _ hr;simp [run]at hr
 | succ n ih =>
  intro n' k st e9 hn hr;obtain ⟨q,rfl⟩ : ∃ q,n'=q+1:=⟨n'-1,by omega⟩;have hq:n<=q:=by omega
  cases k with
  | nil=>exact hr
  | cons it k =>
   cases it with
   | c7 id=>simp only[run]at hr ⊢;exact ih hq hr
   | gq ts ss=>simp only[run]at hr ⊢;exact ih hq hr
   | lp c=>simp only[run]at hr ⊢;exact ih hq hr
   | code c =>
    cases c with
    | skip=>simp only[run]at hr ⊢;exact ih hq hr
    | ops l d =>
     simp only[run]at hr ⊢;cases hs:CI C l st with
     | none=>simp [hs]at hr
     | some A0 =>
      rw[LT h hs];simp only[hs]at hr;exact ih hq hr
    | dr c ts ss=>simp only[run]at hr ⊢;exact ih hq hr
    | scope c=>simp only[run]at hr ⊢;exact ih hq hr
    | seq a b=>simp only[run]at hr ⊢;exact ih hq hr
    | cond x a b =>
     simp only[run]at hr ⊢;split at hr
     ·exact ih hq hr
     ·exact ih hq hr
     ·cases hr
    | block id c=>simp only[run]at hr ⊢;exact ih hq hr
    | loop c=>simp only[run]at hr ⊢;exact ih hq hr
    | exit id =>
     simp only[run]at hr ⊢;split at hr
     ·exact ih hq hr
     ·cases hr
    | ret=>exact hr
theorem SG {I I':List AV->Option (AV × AE)} (hI : ∀ vs r,I vs=some r->I' vs=some r) {vs:List AV} {r:AV} (h:G7 I vs=some r):G7 I' vs=some r:=by
 unfold G7 at h ⊢;cases he:I vs with
 | none=>simp [he]at h
 | some x=>rw[hI vs _ he];simpa [he] using h
theorem Io {b:Bool} {I I':List AV->Option (AV × AE)} (hI : ∀ vs r,I vs=some r->I' vs=some r) {vs:List AV} {r:AV} (h:IX b I vs=some r):IX b I' vs=some r:=by
 unfold IX at h ⊢;split at h
 ·split at h
  ·rename_i r1 r2 h1 h2
   rw[SG hI h1,SG hI h2];exact h
  ·cases h
 ·exact SG hI h
theorem eL : ∀ (n:Nat),(B7 L n).le (B7 L (n+1)):=by
 have y6 : ∀ n,(∀ f vs o r,CN L n f vs o=some r->CN L (n+1) f vs o=some r) -> ∀ f vs r,FW L n f vs=some r->FW L (n+1) f vs=some r:=by
  intro n hI f vs r h;exact Io (λ vs r h=>hI f vs _ r h) h
 intro n;induction n with
 | zero =>
  have : ∀ f vs o r,CN L 0 f vs o=some r->CN L 1 f vs o=some r:=λ f vs o r h=>by simp [CN]at h
  exact ⟨y6 0 this,this,rfl⟩
 | succ n ih =>
  have : ∀ f vs o r,CN L (n+1) f vs o=some r->CN L (n+2) f vs o=some r:=λ f vs o r h=>by
   rw[RR]at h ⊢;cases hL:L f with
   | none=>simp [hL]at h
   | some fn =>
    simp only[hL]at h ⊢;split at h
    ·rename_i hp
     rw[if_pos hp];cases hr:run (B7 L n) n [.code fn.body] ⟨BX 0 vs,o⟩ with
     | none=>simp [hr]at h
     | some st =>
      rw[LQ ih (Nat.le_succ n) hr];simpa [hr] using h
    ·cases h
  exact ⟨y6 (n+1) this,this,rfl⟩
theorem EB {n n':Nat} (h:n<=n'):(B7 L n).le (B7 L n'):=by
 induction h with
 | refl=>exact ⟨λ_ _ _ h=>h,λ_ _ _ _ h=>h,rfl⟩
 | step _ ih=>exact ⟨λ f vs r h=>(eL _).1 f vs r (ih.1 f vs r h),λ f vs o r h=>(eL _).2.1 f vs o r (ih.2.1 f vs o r h),rfl⟩
def Ev (L:Lib) (f:Nat) (vs:List AV) (r:AV):Prop := ∃ n,FW L n f vs=some r
def EU (L:Lib) (f:Nat) (vs:List AV) (r:AV):Prop := ∃ n,G7 (λ vs=>CN L n f vs AE.emp) vs=some r
def FM (L:Lib) (f:Nat) (vs:List AV) (o:AE) (r:AV) (o':AE):Prop := ∃ n,CN L n f vs o=some (r,o')
def N2 (L:Lib) (f:Nat) (vs:List AV) (z:Nat) (es:List (List AV)):Prop := ∃ n,LX (CN L n f vs AE.emp)=some (z,es)
theorem Ev.rz {f:Nat} {vs:List AV} {r r':AV} (h:Ev L f vs r) (h':Ev L f vs r'):r=r':=by
 obtain ⟨n,hn⟩:=h;obtain ⟨n',mw⟩:=h';have h1:=(EB (L:=L) (Nat.le_max_left n n')).1 f vs r hn;have h2:=(EB (L:=L) (Nat.le_max_right n n')).1 f vs r' mw;rw[h1]at h2;exact Option.some.inj h2
theorem FM.rz {f:Nat} {vs:List AV} {o:AE} {r r':AV} {o1 o2:AE} (h:FM L f vs o r o1) (h':FM L f vs o r' o2):r=r'/\o1=o2:=by
 obtain ⟨n,hn⟩:=h;obtain ⟨n',mw⟩:=h';have h1:=(EB (L:=L) (Nat.le_max_left n n')).2.1 f vs o _ hn;have h2:=(EB (L:=L) (Nat.le_max_right n n')).2.1 f vs o _ mw;rw[h1]at h2;simpa using h2
def AK (L:Lib) (k:List It) (st:St) (Q:St->Prop):Prop := ∃ n c e9,run (B7 L c) n k st=some e9/\Q e9
def AO (L:Lib) (l:List AI) (k:List It) (st:St) (Q:St->Prop):Prop := ∃ n c A0 e9,CI (B7 L c) l st=some A0/\run (B7 L c) n k A0=some e9/\Q e9
variable {k:List It} {st:St} {Q:St->Prop}
theorem II {it:It} {k':List It} {A0:St} (h : ∀ (C:Cl) (n:Nat),run C (n+1) (it::k) st=run C n k' A0):AK L (it::k) st Q↔AK L k' A0 Q:=by
 constructor
 ·rintro ⟨n,c,e9,hr,hq⟩
  cases n with
  | zero=>simp [run]at hr
  | succ n=>exact ⟨n,c,e9,by rw[<-h];exact hr,hq⟩
 ·rintro ⟨n,c,e9,hr,hq⟩
  exact ⟨n+1,c,e9,by rw[h];exact hr,hq⟩
theorem mU:AK L [] st Q↔Q st:=by
 constructor
 ·rintro ⟨n,c,e9,hr,hq⟩
  cases n with
  | zero=>simp [run]at hr
  | succ n=>simp only[run,Option.some.injEq]at hr;exact hr ▸ hq
 ·exact λ h=>⟨1,0,st,rfl,h⟩
theorem mM {id:Nat}:AK L (.c7 id::k) st Q↔AK L k st Q:=II λ_ _=>rfl
theorem mQ {ts ss:List Nat}:AK L (.gq ts ss::k) st Q↔AK L k ⟨q9 st.tm ts,st.own.drop ss⟩ Q:=II λ_ _=>rfl
theorem aH {c:A8}:AK L (.lp c::k) st Q↔AK L (.code c :: .lp c::k) st Q:=II λ_ _=>rfl
theorem mZ:AK L (.code .skip::k) st Q↔AK L k st Q:=II λ_ _=>rfl
theorem mP {c:A8} {ts ss:List Nat}:AK L (.code (.dr c ts ss)::k) st Q↔AK L (.code c :: .gq ts ss::k) st Q:=II λ_ _=>rfl
theorem mX {c:A8}:AK L (.code (.scope c)::k) st Q↔AK L (.code c::k) st Q:=II λ_ _=>rfl
theorem mY {a b:A8}:AK L (.code (.seq a b)::k) st Q↔AK L (.code a :: .code b::k) st Q:=II λ_ _=>rfl
theorem mN {id:Nat} {c:A8}:AK L (.code (.block id c)::k) st Q↔AK L (.code c :: .c7 id::k) st Q:=II λ_ _=>rfl
theorem mS {c:A8}:AK L (.code (.loop c)::k) st Q↔AK L (.code c :: .lp c::k) st Q:=II λ_ _=>rfl
theorem mR {id:Nat} {k':List It} (h:EG id k=some k'):AK L (.code (.exit id)::k) st Q↔AK L k' st Q:=II λ C n=>by simp [run,h]
theorem mW:AK L (.code .ret::k) st Q↔Q st:=by
 constructor
 ·rintro ⟨n,c,e9,hr,hq⟩
  cases n with
  | zero=>simp [run]at hr
  | succ n=>simp only[run,Option.some.injEq]at hr;exact hr ▸ hq
 ·exact λ h=>⟨1,0,st,rfl,h⟩
theorem mO {x:AM} {a b:A8} {t:Bool} (h:st.ev x = .bool t):AK L (.code (.cond x a b)::k) st Q↔if t=true then AK L (.code a::k) st Q else AK L (.code b::k) st Q:=by
 cases t
 ·simpa using II (k' := .code b::k) (A0:=st) λ C n=>by simp [run,h]
 ·simpa using II (k' := .code a::k) (A0:=st) λ C n=>by simp [run,h]
theorem mV {l:List AI} {d:Bool}:AK L (.code (.ops l d)::k) st Q↔AO L l k st Q:=by
 constructor
 ·rintro ⟨n,c,e9,hr,hq⟩
  cases n with
  | zero=>simp [run]at hr
  | succ n =>
   simp only[run]at hr;split at hr
   ·rename_i A0 hs
    exact ⟨n,c,A0,e9,hs,hr,hq⟩
   ·cases hr
 ·rintro ⟨n,c,A0,e9,hs,hr,hq⟩
  exact ⟨n+1,c,e9,by simp [run,hs,hr],hq⟩
theorem nJ:AO L [] k st Q↔AK L k st Q:=by
 constructor
 ·rintro ⟨n,c,A0,e9,hs,hr,hq⟩
  simp only[CI,Option.some.injEq]at hs;exact ⟨n,c,e9,hs ▸ hr,hq⟩
 ·rintro ⟨n,c,e9,hr,hq⟩
  exact ⟨n,c,st,e9,rfl,hr,hq⟩
theorem nM {o:AI} {l:List AI} {A0:St} (h : ∀ C,B6 C o st=some A0):AO L (o::l) k st Q↔AO L l k A0 Q:=by
 constructor
 ·rintro ⟨n,c,BC,e9,hs,hr,hq⟩
  simp only[CI,h]at hs;exact ⟨n,c,BC,e9,hs,hr,hq⟩
 ·rintro ⟨n,c,BC,e9,hs,hr,hq⟩
  exact ⟨n,c,BC,e9,by simpa only[CI,h] using hs,hr,hq⟩
theorem nK {d:Option Nat} {op:C2} {g:Option (Nat × Bool)} {a7:List Nat} {l:List AI} (h:EC st g=some false):AO L (⟨d,op,g,a7⟩::l) k st Q↔AO L l k (st.dst d (.e7 [])) Q :=
 nM λ C=>by simp [B6,h]
theorem PX (c:Nat):(B7 L c).num=L.num:=rfl
theorem nL {d:Option Nat} {op:C2} {g:Option (Nat × Bool)} {a7:List Nat} {l:List AI} {E:BM} (h:EC st g=some true) (he : ∀ c,c5 (B7 L c) a7 st.ev st.own op=some E):AO L (⟨d,op,g,a7⟩::l) k st Q↔AO L l k (st.app d E) Q:=by
 have h : ∀ c,B6 (B7 L c) ⟨d,op,g,a7⟩ st=some (st.app d E):=λ c=>by simp [B6,h,he]
 constructor
 ·rintro ⟨n,c,BC,e9,hs,hr,hq⟩
  simp only[CI,h]at hs;exact ⟨n,c,BC,e9,hs,hr,hq⟩
 ·rintro ⟨n,c,BC,e9,hs,hr,hq⟩
  exact ⟨n,c,BC,e9,by simpa only[CI,h] using hs,hr,hq⟩
theorem nB {d:Option Nat} {f:Nat} {xs:List AM} {g:Option (Nat × Bool)} {a7:List Nat} {l:List AI} {vs:List AV} {r:AV} (h:EC st g=some true) (hv:(xs.map st.ev).mapM (CB (st.own.j9 a7) true)=some vs) (hr:Ev L f vs r) :
  AO L (⟨d,.call f xs,g,a7⟩::l) k st Q↔AO L l k (st.dst d r) Q:=by
 have g8 : ∀ c r',FW L c f vs=some r'->B6 (B7 L c) ⟨d,.call f xs,g,a7⟩ st=some (st.dst d r'):=λ c r' hc=>by
  have o4:(B7 L c).pure f vs=some r':=hc;simp [B6,h,c5,hv,o4,St.app]
 constructor
 ·rintro ⟨n,c,BC,e9,hs,ax,hq⟩
  simp only[CI]at hs;cases hI:B6 (B7 L c) ⟨d,.call f xs,g,a7⟩ st with
  | none=>simp [hI]at hs
  | some A0 =>
   simp only[hI]at hs;cases hp:FW L c f vs with
   | none =>
    have o4:(B7 L c).pure f vs=none:=hp;simp [B6,h,c5,hv,o4]at hI
   | some r' =>
    obtain rfl:r'=r:=Ev.rz ⟨c,hp⟩ hr;rw[g8 c r' hp]at hI;obtain rfl:=Option.some.inj hI;exact ⟨n,c,BC,e9,hs,ax,hq⟩
 ·rintro ⟨n,c,BC,e9,hs,ax,hq⟩
  obtain ⟨c',o4⟩:=hr;have l1:=EB (L:=L) (Nat.le_max_left c c');have l2:=EB (L:=L) (Nat.le_max_right c c');refine ⟨n,max c c',BC,e9,?_,LQ l1 (Nat.le_refl n) ax,hq⟩;simp only[CI];rw[g8 (max c c') r (l2.1 f vs r o4)];exact LT l1 hs
theorem nE {d:Option Nat} {f:Nat} {x:AM} {xs:List AM} {g:Option (Nat × Bool)} {a7:List Nat} {l:List AI} {vs:List AV} {r:AV} (h:EC st g=some true) (hx:st.ev x = .fn true f (L.num f) []) (hv:(xs.map st.ev).mapM (CB st.own true)=some vs) (hr:Ev L f vs r) :
  AO L (⟨d,.l8 x xs,g,a7⟩::l) k st Q↔AO L l k (st.dst d r) Q:=by
 have g8 : ∀ c r',FW L c f vs=some r'->B6 (B7 L c) ⟨d,.l8 x xs,g,a7⟩ st=some (st.dst d r'):=λ c r' hc=>by
  have o4:(B7 L c).pure f vs=some r':=hc;simp [B6,h,c5,hx,PX,hv,o4,St.app]
 constructor
 ·rintro ⟨n,c,BC,e9,hs,ax,hq⟩
  simp only[CI]at hs;cases hI:B6 (B7 L c) ⟨d,.l8 x xs,g,a7⟩ st with
  | none=>simp [hI]at hs
  | some A0 =>
   simp only[hI]at hs;cases hp:FW L c f vs with
   | none =>
    have o4:(B7 L c).pure f vs=none:=hp;simp [B6,h,c5,hx,PX,hv,o4]at hI
   | some r' =>
    obtain rfl:r'=r:=Ev.rz ⟨c,hp⟩ hr;rw[g8 c r' hp]at hI;obtain rfl:=Option.some.inj hI;exact ⟨n,c,BC,e9,hs,ax,hq⟩
 ·rintro ⟨n,c,BC,e9,hs,ax,hq⟩
  obtain ⟨c',o4⟩:=hr;have l1:=EB (L:=L) (Nat.le_max_left c c');have l2:=EB (L:=L) (Nat.le_max_right c c');refine ⟨n,max c c',BC,e9,?_,LQ l1 (Nat.le_refl n) ax,hq⟩;simp only[CI];rw[g8 (max c c') r (l2.1 f vs r o4)];exact LT l1 hs
theorem nC {d:Option Nat} {f:Nat} {w:AV} {cs:List AV} {x:AM} {xs:List AM} {g:Option (Nat × Bool)} {a7:List Nat} {l:List AI} {vs:List AV} {r:AV} (h:EC st g=some true) (hx:st.ev x = .fn true f (L.num f) (w::cs)) (hv:(AV.agg (w::cs)::xs.map st.ev).mapM (CB st.own true)=some vs) (hr:Ev L f vs r) :
  AO L (⟨d,.l8 x xs,g,a7⟩::l) k st Q↔AO L l k (st.dst d r) Q:=by
 have g8 : ∀ c r',FW L c f vs=some r'->B6 (B7 L c) ⟨d,.l8 x xs,g,a7⟩ st=some (st.dst d r'):=λ c r' hc=>by
  have o4:(B7 L c).pure f vs=some r':=hc;simp [B6,h,c5,hx,PX,hv,o4,St.app]
 constructor
 ·rintro ⟨n,c,BC,e9,hs,ax,hq⟩
  simp only[CI]at hs;cases hI:B6 (B7 L c) ⟨d,.l8 x xs,g,a7⟩ st with
  | none=>simp [hI]at hs
  | some A0 =>
   simp only[hI]at hs;cases hp:FW L c f vs with
   | none =>
    have o4:(B7 L c).pure f vs=none:=hp;simp [B6,h,c5,hx,PX,hv,o4]at hI
   | some r' =>
    obtain rfl:r'=r:=Ev.rz ⟨c,hp⟩ hr;rw[g8 c r' hp]at hI;obtain rfl:=Option.some.inj hI;exact ⟨n,c,BC,e9,hs,ax,hq⟩
 ·rintro ⟨n,c,BC,e9,hs,ax,hq⟩
  obtain ⟨c',o4⟩:=hr;have l1:=EB (L:=L) (Nat.le_max_left c c');have l2:=EB (L:=L) (Nat.le_max_right c c');refine ⟨n,max c c',BC,e9,?_,LQ l1 (Nat.le_refl n) ax,hq⟩;simp only[CI];rw[g8 (max c c') r (l2.1 f vs r o4)];exact LT l1 hs
theorem nF {d:Option Nat} {f:Nat} {xs:List AM} {g:Option (Nat × Bool)} {a7:List Nat} {l:List AI} {r:AV} (h:EC st g=some true) (hq:(xs.map st.ev).all dq=true) (hr:Ev L f ((xs.map st.ev).map oe) r) (dt:HW r\/N1 r) :
  AO L (⟨d,.l7 f xs,g,a7⟩::l) k st Q↔AO L l k (st.dst d (JU r)) Q:=by
 have g8 : ∀ c,FW L c f ((xs.map st.ev).map oe)=some r->B6 (B7 L c) ⟨d,.l7 f xs,g,a7⟩ st=some (st.dst d (JU r)):=λ c hc=>by
  have o4:(B7 L c).pure f ((xs.map st.ev).map oe)=some r:=hc;simp only[B6,h,c5];rw[if_pos hq,o4];simp only[if_pos dt,Option.map_some,St.app]
 constructor
 ·rintro ⟨n,c,BC,e9,hs,ax,vj⟩
  simp only[CI]at hs;cases hp:FW L c f ((xs.map st.ev).map oe) with
  | none =>
   have o4:(B7 L c).pure f ((xs.map st.ev).map oe)=none:=hp;simp only[B6,h,c5]at hs;rw[if_pos hq,o4]at hs;simp at hs
  | some r' =>
   obtain rfl:r'=r:=Ev.rz ⟨c,hp⟩ hr;rw[g8 c hp]at hs;exact ⟨n,c,BC,e9,hs,ax,vj⟩
 ·rintro ⟨n,c,BC,e9,hs,ax,vj⟩
  obtain ⟨c',o4⟩:=hr;have l1:=EB (L:=L) (Nat.le_max_left c c');have l2:=EB (L:=L) (Nat.le_max_right c c');refine ⟨n,max c c',BC,e9,?_,LQ l1 (Nat.le_refl n) ax,vj⟩;simp only[CI];rw[g8 (max c c') (l2.1 f _ r o4)];exact LT l1 hs
theorem nG {d:Option Nat} {s f:Nat} {xs:List AM} {g:Option (Nat × Bool)} {a7:List Nat} {l:List AI} {vs:List AV} {z:Nat} {es:List (List AV)} (h:EC st g=some true) (hv:(xs.map st.ev).mapM (MB (st.own.j9 a7) true)=some vs) (hr:N2 L f vs z es)
  (ha:AO L l k (st.app d (.new s ⟨z,es⟩ (λ t => .row s t z 0 es.length))) Q):AO L (⟨d,.n6 s f xs,g,a7⟩::l) k st Q:=by
 obtain ⟨n,c,BC,e9,hs,ax,hq⟩:=ha;obtain ⟨c',o4⟩:=hr;have l1:=EB (L:=L) (Nat.le_max_left c c');have l2:=EB (L:=L) (Nat.le_max_right c c');have jo:LX ((B7 L (max c c')).y6 f vs AE.emp)=some (z,es):=bK (l2.2.1 f vs AE.emp) o4;refine ⟨n,max c c',BC,e9,?_,LQ l1 (Nat.le_refl n) ax,hq⟩;simp only[CI];have:B6 (B7 L (max c c')) ⟨d,.n6 s f xs,g,a7⟩ st=some (st.app d (.new s ⟨z,es⟩ (λ t => .row s t z 0 es.length))):=by
  simp only[B6,h,c5,hv,jo,Option.map_some]
 rw[this];exact LT l1 hs
def aM (L:Lib) (s f:Nat) (vs:List AV) (q:BO) (r:AV) (q':BO):Prop := ∃ n,∀ o:AE,o s=q->CN L n f vs o=some (r,o.put s q')
theorem nI {d:Option Nat} {s f:Nat} {xs:List AM} {g:Option (Nat × Bool)} {a7:List Nat} {l:List AI} {r:AV} {q':BO} (h:EC st g=some true) (hr:aM L s f (xs.map st.ev) (st.own s) r q')
  (ha:AO L l k (st.app d (.og s q' r)) Q):AO L (⟨d,.w5 s f xs,g,a7⟩::l) k st Q:=by
 obtain ⟨n,c,BC,e9,hs,ax,hq⟩:=ha;obtain ⟨c',o4⟩:=hr;have l1:=EB (L:=L) (Nat.le_max_left c c');have l2:=EB (L:=L) (Nat.le_max_right c c');have jo:TR (B7 L (max c c')) f (xs.map st.ev) s (st.own s)=some (r,q'):=TS.2 λ o ho=>l2.2.1 f _ o _ (o4 o ho)
 refine ⟨n,max c c',BC,e9,?_,LQ l1 (Nat.le_refl n) ax,hq⟩;simp only[CI];have:B6 (B7 L (max c c')) ⟨d,.w5 s f xs,g,a7⟩ st=some (st.app d (.og s q' r)):=by
  simp only[B6,h,c5,jo,Option.map_some]
 rw[this];exact LT l1 hs
theorem nA {d:Option Nat} {f s:Nat} {xs:List AM} {g:Option (Nat × Bool)} {l:List AI} {r:AV} {o':AE} (h:EC st g=some true) (h0:o' s=⟨0,λ_=>none⟩) (hr : ∃ n,∀ o:AE,(∀ q,q≠s->o q=st.own q)->CN L n f (xs.map st.ev) o=some (r,o'.put s (o s)))
  (ha:AO L l k { (st.dst d r) with own:=o'.put s (st.own s) } Q):AO L (⟨d,.c4 f xs,g,[s]⟩::l) k st Q:=by
 obtain ⟨n,c,BC,e9,hs,ax,hq⟩:=ha;obtain ⟨c',o4⟩:=hr;have l1:=EB (L:=L) (Nat.le_max_left c c');have l2:=EB (L:=L) (Nat.le_max_right c c');have jo:LY (B7 L (max c c')) f (xs.map st.ev) s st.own=some (r,o'):=TP h0 λ o ho=>l2.2.1 f _ o _ (o4 o ho)
 refine ⟨n,max c c',BC,e9,?_,LQ l1 (Nat.le_refl n) ax,hq⟩;simp only[CI];have:B6 (B7 L (max c c')) ⟨d,.c4 f xs,g,[s]⟩ st=some { (st.dst d r) with own:=o'.put s (st.own s) }:=by
  simp only[B6,h,c5,jo,Option.map_some,St.app]
 rw[this];exact LT l1 hs
theorem nD {d:Option Nat} {f:Nat} {xs:List AM} {g:Option (Nat × Bool)} {a7:List Nat} {l:List AI} {r:AV} {o':AE} (hb : ∀ s,a7≠[s]) (h:EC st g=some true) (hr:FM L f (xs.map st.ev) st.own r o') :
  AO L (⟨d,.c4 f xs,g,a7⟩::l) k st Q↔AO L l k { (st.dst d r) with own:=o' } Q:=by
 have g8 : ∀ c r' o1,CN L c f (xs.map st.ev) st.own=some (r',o1)->B6 (B7 L c) ⟨d,.c4 f xs,g,a7⟩ st=some { (st.dst d r') with own:=o1 }:=λ c r' o1 hc=>by
  have o4:(B7 L c).y6 f (xs.map st.ev) st.own=some (r',o1):=hc;have he:c5 (B7 L c) a7 st.ev st.own (.c4 f xs)=some (.aj r' o1):=by
   match a7,hb with
   | [],_=>simp only[c5];rw[o4];rfl
   | [s],hb=>exact absurd rfl (hb s)
   | s::s'::q,_=>simp only[c5];rw[o4];rfl
  simp [B6,h,he,St.app]
 constructor
 ·rintro ⟨n,c,BC,e9,hs,ax,hq⟩
  simp only[CI]at hs;cases hI:B6 (B7 L c) ⟨d,.c4 f xs,g,a7⟩ st with
  | none=>simp [hI]at hs
  | some A0 =>
   simp only[hI]at hs;cases hp:CN L c f (xs.map st.ev) st.own with
   | none =>
    have o4:(B7 L c).y6 f (xs.map st.ev) st.own=none:=hp;have he:c5 (B7 L c) a7 st.ev st.own (.c4 f xs)=none:=by
     match a7,hb with
     | [],_=>simp only[c5];rw[o4];rfl
     | [s],hb=>exact absurd rfl (hb s)
     | s::s'::q,_=>simp only[c5];rw[o4];rfl
    simp [B6,h,he]at hI
   | some x =>
    obtain ⟨r',o1⟩:=x;obtain ⟨rfl,rfl⟩:=FM.rz ⟨c,hp⟩ hr;rw[g8 c r' o1 hp]at hI;obtain rfl:=Option.some.inj hI;exact ⟨n,c,BC,e9,hs,ax,hq⟩
 ·rintro ⟨n,c,BC,e9,hs,ax,hq⟩
  obtain ⟨c',o4⟩:=hr;have l1:=EB (L:=L) (Nat.le_max_left c c');have l2:=EB (L:=L) (Nat.le_max_right c c');refine ⟨n,max c c',BC,e9,?_,LQ l1 (Nat.le_refl n) ax,hq⟩;simp only[CI];rw[g8 (max c c') r o' (l2.2.1 f _ _ _ o4)];exact LT l1 hs
theorem nH {d:Option Nat} {f:Nat} {cs:List AV} {x:AM} {xs:List AM} {g:Option (Nat × Bool)} {a7:List Nat} {l:List AI} {r:AV} {o':AE} (h:EC st g=some true) (hx:st.ev x = .fn false f (L.num f) cs) (hr:FM L f (xs.map st.ev++cs) st.own r o') :
  AO L (⟨d,.l8 x xs,g,a7⟩::l) k st Q↔AO L l k { (st.dst d r) with own:=o' } Q:=by
 have g8 : ∀ c r' o1,CN L c f (xs.map st.ev++cs) st.own=some (r',o1)->B6 (B7 L c) ⟨d,.l8 x xs,g,a7⟩ st=some { (st.dst d r') with own:=o1 }:=λ c r' o1 hc=>by
  have o4:(B7 L c).y6 f (xs.map st.ev++cs) st.own=some (r',o1):=hc;simp [B6,h,c5,hx,PX,o4,St.app]
 constructor
 ·rintro ⟨n,c,BC,e9,hs,ax,hq⟩
  simp only[CI]at hs;cases hI:B6 (B7 L c) ⟨d,.l8 x xs,g,a7⟩ st with
  | none=>simp [hI]at hs
  | some A0 =>
   simp only[hI]at hs;cases hp:CN L c f (xs.map st.ev++cs) st.own with
   | none =>
    have o4:(B7 L c).y6 f (xs.map st.ev++cs) st.own=none:=hp;simp [B6,h,c5,hx,PX,o4]at hI
   | some x =>
    obtain ⟨r',o1⟩:=x;obtain ⟨rfl,rfl⟩:=FM.rz ⟨c,hp⟩ hr;rw[g8 c r' o1 hp]at hI;obtain rfl:=Option.some.inj hI;exact ⟨n,c,BC,e9,hs,ax,hq⟩
 ·rintro ⟨n,c,BC,e9,hs,ax,hq⟩
  obtain ⟨c',o4⟩:=hr;have l1:=EB (L:=L) (Nat.le_max_left c c');have l2:=EB (L:=L) (Nat.le_max_right c c');refine ⟨n,max c c',BC,e9,?_,LQ l1 (Nat.le_refl n) ax,hq⟩;simp only[CI];rw[g8 (max c c') r o' (l2.2.1 f _ _ _ o4)];exact LT l1 hs
theorem mT {Q':St->Prop} (h:AK L k st Q) (hq : ∀ s,Q s->Q' s):AK L k st Q':=by
 obtain ⟨n,c,e9,hr,hh⟩:=h;exact ⟨n,c,e9,hr,hq _ hh⟩
theorem FM.intro {f:Nat} {fn:AFn} {vs:List AV} {o:AE} {r:AV} {o':AE} (hL:L f=some fn) (hp:vs.length=fn.u6) (h:AK L [.code fn.body] ⟨BX 0 vs,o⟩ (λ st=>(fn.res.mapM (D7 st)).map GM=some r/\st.own=o')):FM L f vs o r o':=by
 obtain ⟨n,c,e9,hr,h1,h2⟩:=h;refine ⟨max n c+1,?_⟩;rw[RR];simp only[hL,hp,if_true];rw[LQ (EB (L:=L) (Nat.le_max_right n c)) (Nat.le_max_left n c) hr];cases hm:fn.res.mapM (D7 e9) with
 | none=>rw[hm]at h1;cases h1
 | some rs =>
  rw[hm]at h1;simp only[Option.map_some,Option.some.injEq]at h1;simp [hm,h1,h2]
theorem EU.intro {f:Nat} {fn:AFn} {vs:List AV} {r:AV} (hL:L f=some fn) (hp:vs.length=fn.u6) (h:AK L [.code fn.body] ⟨BX 0 vs,AE.emp⟩ (λ st=>((fn.res.mapM (D7 st)).map GM).bind (NW st.own false)=some r/\AZ r)):EU L f vs r:=by
 obtain ⟨n,c,e9,hr,h1,h2⟩:=h;cases hm:(fn.res.mapM (D7 e9)).map GM with
 | none=>rw[hm]at h1;cases h1
 | some r0 =>
  rw[hm]at h1;simp only[Option.bind_some]at h1;obtain ⟨q,hq⟩:=FM.intro (o:=AE.emp) (r:=r0) (o':=e9.own) hL hp ⟨n,c,e9,hr,hm,rfl⟩;refine ⟨q,?_⟩;unfold G7;simp [hq,h1,h2]
theorem EU.ev {f:Nat} {fn:AFn} {vs:List AV} {r:AV} (hL:L f=some fn) (h:EU L f vs r) (hs:fn.je=false:=by rfl):Ev L f vs r:=by
 obtain ⟨n,h⟩:=h;have hs:L.je f=false:=by simp only[Lib.je,hL,hs]
 exact ⟨n,by unfold FW IX;rw[hs];exact h⟩
theorem EU.cons {f:Nat} {q:Bool} {e:List AV} {es:List (List AV)} {vs:List AV} {r:AV} (h:EU L f (.sl q (e::es)::vs) r):Ev L f (.sl q (e::es)::vs) r:=by
 obtain ⟨n,h⟩:=h;refine ⟨n,?_⟩;unfold FW IX;split
 ·rename_i heq;simp at heq
 ·exact h
theorem EU.nil {f:Nat} {fn:AFn} {q:Bool} {vs:List AV} {r:AV} (hL:L f=some fn) (h1:EU L f (.w6 (.bool true)::vs) r) (h2:EU L f (.w6 (.bool false)::vs) r) (hs:fn.je=true:=by rfl):Ev L f (.sl q []::vs) r:=by
 obtain ⟨n,h1⟩:=h1;obtain ⟨n',h2⟩:=h2;have hs:L.je f=true:=by simp only[Lib.je,hL,hs]
 have k1:=SG (λ vs r h=>(EB (L:=L) (Nat.le_max_left n n')).2.1 f vs AE.emp r h) h1;have k2:=SG (λ vs r h=>(EB (L:=L) (Nat.le_max_right n n')).2.1 f vs AE.emp r h) h2;refine ⟨max n n',?_⟩;unfold FW IX;rw[hs];simp only;have Qg:G7 (λ vs=>CN L (max n n') f vs AE.emp) (.w6 (.bool true)::vs)=some r:=k1;have Qh:G7 (λ vs=>CN L (max n n') f vs AE.emp) (.w6 (.bool false)::vs)=some r:=k2;rw[Qg,Qh];simp
theorem Ev.intro {f:Nat} {fn:AFn} {vs:List AV} {r:AV} (hL:L f=some fn) (hp:vs.length=fn.u6) (h:AK L [.code fn.body] ⟨BX 0 vs,AE.emp⟩ (λ st=>((fn.res.mapM (D7 st)).map GM).bind (NW st.own false)=some r/\AZ r)) (hs:fn.je=false:=by rfl):Ev L f vs r :=
 (EU.intro hL hp h).ev hL hs
end
end Go.c8

namespace Go.c8
section
variable {L:Lib} {k:List It} {tm:Tm} {own:AE} {Q:St->Prop} {l:List AI} {a7:List Nat} {d:Nat}
theorem S0 (i:Nat) (v:AV) (r:Tm) (j:Nat):c6 ((i,v)::r) j=if j=i then v else c6 r j:=rfl
theorem Mc (j:Nat):c6 [] j = .any:=rfl
theorem Lz (i:Nat) (v:AV) (r:Tm) (l:List Nat):q9 ((i,v)::r) l=if l.contains i then q9 r l else (i,v)::q9 r l:=rfl
theorem Ma (l:List Nat):q9 [] l=[]:=rfl
theorem yB (i:Nat) (v:AV) (r:List AV):BX i (v::r)=(i,v)::BX (i+1) r:=rfl
end
end Go.c8

namespace Go.c8
section
variable {L:Lib} {k:List It} {tm:Tm} {own:AE} {st:St} {Q:St->Prop} {l:List AI} {a7:List Nat} {d:Nat} {dst:Option Nat}
section
variable {x y:AM} {kd:IntKind} {a b:Int}
end
def RB (fn:AFn) (r:AV) (st:St):Prop:=((fn.res.mapM (D7 st)).map GM).bind (NW st.own false)=some r/\AZ r
theorem Ev.fwd {f:Nat} {fn:AFn} {vs:List AV} {r:AV} (hL:L f=some fn) (hp:vs.length=fn.u6) (h:AK L [.code fn.body] ⟨BX 0 vs,AE.emp⟩ (RB fn r)) (hs:fn.je=false:=by rfl):Ev L f vs r:=Ev.intro hL hp h hs
theorem EU.fwd {f:Nat} {fn:AFn} {vs:List AV} {r:AV} (hL:L f=some fn) (hp:vs.length=fn.u6) (h:AK L [.code fn.body] ⟨BX 0 vs,AE.emp⟩ (RB fn r)):EU L f vs r:=EU.intro hL hp h
end
attribute [irreducible] RB
end Go.c8

namespace Go.c8
def pw (n:Int):Int:=2^n.toNat
theorem O7 (n:Int):1<=pw n:=by
 have:0<pw n:=Int.pow_pos (by decide)
 omega
theorem Ip {n m:Int} (h:n<=m):pw n<=pw m:=by
 unfold pw;have h':n.toNat<=m.toNat:=by omega
 have h2:=Nat.pow_le_pow_right (n:=2) (by decide) h';have h3:((2^n.toNat:Nat):Int)<=((2^m.toNat:Nat):Int):=by exact_mod_cast h2
 simpa using h3
theorem Y1 {n:Int} (h:n<=62):pw n<=4611686018427387904:=Ip (m:=62) h
theorem Iq {n:Int} (h:1<=n):pw n=2*pw (n-1):=by
 unfold pw;have e:n.toNat=(n-1).toNat+1:=by omega
 rw[e,Int.pow_succ,Int.mul_comm]
theorem mE {a:Int} (h:0<=a) (h':a<=9223372036854775807):IntKind.i64.wrap a=a:=IntWalk.i64_in _ ⟨by omega,h'⟩
theorem Ih {k2:IntKind} {n:Int} (h:0<=n/\n<=62):CD .shl .i64 1 k2 n=some (.int .i64 (pw n)):=by
 have h1:=Y1 h.2;have h2:=O7 n;have e:(1:Int)*2^(min n.toNat IntKind.i64.bits)=pw n:=by
  have:min n.toNat IntKind.i64.bits=n.toNat:=by simp only[IntKind.bits];omega
  rw[this,Int.one_mul];rfl
 simp only[CD];rw[if_neg (by omega),e,mE (by omega) (by omega)]
theorem Ii {k2:IntKind} {a n:Int} (h:0<=n/\n<=63):CD .shr .i64 a k2 n=some (.int .i64 (a/pw n)):=by
 have h2:=O7 n;have e:(2:Int)^(min n.toNat IntKind.i64.bits)=pw n:=by
  have:min n.toNat IntKind.i64.bits=n.toNat:=by simp only[IntKind.bits];omega
  rw[this];rfl
 simp only[CD];rw[if_neg (by omega),e,Int.fdiv_eq_ediv_of_nonneg _ (by omega)]
theorem bP {a p n:Int} (hp:p=pw n) (h:0<=n/\n<=62):CD .and .i64 a .i64 (p-1)=some (.int .i64 (a%p)):=by
 have h1:=Y1 h.2;have h2:=O7 n;simp only[CD,if_true];have hn:n.toNat<=64:=by omega
 have e0:pw n=((2^n.toNat:Nat):Int):=by simp [pw]
 have e1:(BitVec.ofInt IntKind.i64.bits (p-1)).toNat=2^n.toNat-1:=by
  have hq:(2:Nat)^n.toNat<=4611686018427387904:=by
   have:((2^n.toNat:Nat):Int)<=4611686018427387904:=by rw[<-e0];exact h1
   omega
  rw[BitVec.toNat_ofInt];simp only[IntKind.bits];rw[hp,e0];have hz:1<=2^n.toNat:=Nat.one_le_two_pow;omega
 have e2:(BitVec.ofInt IntKind.i64.bits a).toNat=(a%18446744073709551616).toNat:=by
  rw[BitVec.toNat_ofInt];rfl
 have e3:((a%18446744073709551616).toNat%2^n.toNat:Nat)=(a%pw n).toNat:=by
  have hd:(pw n) ∣ 18446744073709551616:=by
   refine ⟨2^(64-n.toNat),?_⟩;unfold pw;rw[<-Int.pow_add,show n.toNat+(64-n.toNat)=64 by omega];rfl
  have h3:(a%18446744073709551616)%pw n=a%pw n:=Int.emod_emod_of_dvd a hd;have h4:(((a%18446744073709551616).toNat%2^n.toNat:Nat):Int)=(a%18446744073709551616)%pw n:=by
   rw[Int.natCast_emod,<-e0,Int.toNat_of_nonneg (by omega)]
  have h5:0<=a%pw n:=Int.emod_nonneg _ (by omega);omega
 have h5:0<=a%pw n:=Int.emod_nonneg _ (by omega);have h6:a%pw n<pw n:=Int.emod_lt_of_pos _ (by omega);rw[BitVec.toNat_and,e1,Nat.and_two_pow_sub_one_eq_mod,e2,e3,hp,Int.toNat_of_nonneg h5,mE h5 (by omega)]
theorem qA {a:Int}:CD .and .i64 a .i64 1=some (.int .i64 (a%2)):=bP (p:=2) (n:=1) rfl ⟨by decide,by decide⟩
theorem lN {a m:Int} (hm:0<m):a.tmod m=if 0<=a\/a%m=0 then a%m else a%m-m:=by
 have h:=Int.tmod_eq_emod (a:=a) (b:=m);rw[h];have hd:m ∣ a↔a%m=0:=Int.dvd_iff_emod_eq_zero;by_cases h0:0<=a\/a%m=0
 ·rw[if_pos h0,if_pos (by rcases h0 with h0|h0;exact Or.inl h0;exact Or.inr (hd.2 h0))];omega
 ·rw[if_neg h0,if_neg (λ h=>h0 (h.imp id hd.1))]
  have:(m.natAbs:Int)=m:=by omega
  omega
theorem lL {a m:Int} (hm:0<m):a.tdiv m=if 0<=a\/a%m=0 then a/m else a/m+1:=by
 have h:=Int.tdiv_eq_ediv (a:=a) (b:=m);rw[h];have hd:m ∣ a↔a%m=0:=Int.dvd_iff_emod_eq_zero;by_cases h0:0<=a\/a%m=0
 ·rw[if_pos h0,if_pos (by rcases h0 with h0|h0;exact Or.inl h0;exact Or.inr (hd.2 h0))];omega
 ·rw[if_neg h0,if_neg (λ h=>h0 (h.imp id hd.1)),Int.sign_eq_one_of_pos hm]
theorem tY {a m:Int} (hm:1<=m) (h : -9223372036854775808<=a/\a<=9223372036854775807) : -9223372036854775808<=a/m/\a/m<=9223372036854775807:=by
 constructor
 ·rw[Int.le_ediv_iff_mul_le (by omega)]
  have:=Int.mul_le_mul_of_nonpos_left (a := -9223372036854775808) (b:=m) (c:=1) (by omega) hm
  omega
 ·have:a/m<9223372036854775808:=by
   rw[Int.ediv_lt_iff_lt_mul (by omega)];have:=Int.mul_le_mul_of_nonneg_left (c:=9223372036854775808) (a:=1) (b:=m) hm (by omega)
   omega
  omega
theorem tX {a m:Int} (hm:2<=m) (h : -9223372036854775808<=a/\a<=9223372036854775807) : -4611686018427387904<=a/m/\a/m<=4611686018427387904:=by
 constructor
 ·rw[Int.le_ediv_iff_mul_le (by omega)]
  have:=Int.mul_le_mul_of_nonpos_left (a := -4611686018427387904) (b:=m) (c:=2) (by omega) hm
  omega
 ·have:a/m<4611686018427387904+1:=by
   rw[Int.ediv_lt_iff_lt_mul (by omega)];have:=Int.mul_le_mul_of_nonneg_left (c:=4611686018427387905) (a:=2) (b:=m) hm (by omega)
   omega
  omega
theorem xF {v h:Int} (hh:1<=h):(v/h)%2=if h<=v%(2*h) then 1 else 0:=by
 have e:v/h=v%(2*h)/h+2*(v/(2*h)):=by
  conv=>lhs;rw[<-Int.emod_add_mul_ediv v (2*h)]
  rw[show 2*h*(v/(2*h))=h*(2*(v/(2*h))) by rw[Int.mul_comm 2 h,Int.mul_assoc],Int.add_mul_ediv_left _ _ (by omega)]
 have h0:0<=v%(2*h):=Int.emod_nonneg _ (by omega);have h1:v%(2*h)<2*h:=Int.emod_lt_of_pos _ (by omega);rw[e];by_cases hc:h<=v%(2*h)
 ·have:v%(2*h)/h=1:=by
   have a1:1<=v%(2*h)/h:=by rw[Int.le_ediv_iff_mul_le (by omega)];omega
   have a2:v%(2*h)/h<2:=by rw[Int.ediv_lt_iff_lt_mul (by omega)];omega
   omega
  rw[if_pos hc,this];omega
 ·have:v%(2*h)/h=0:=Int.ediv_eq_zero_of_lt h0 (by omega)
  rw[if_neg hc,this];omega
section
variable {L:Lib} {k:List It} {tm:Tm} {own:AE} {Q:St->Prop} {l:List AI} {a7:List Nat} {d:Nat} {x y:AM} {a b n p:Int} {k2:IntKind}
end
end Go.c8

namespace Go.c8
theorem QW (ts:List Nat) (j:Nat) : ∀ tm:Tm,c6 (q9 tm ts) j=if ts.contains j then .any else c6 tm j
 | []=>by simp [Ma,Mc]
 | (i,u)::r=>by
  rw[Lz];by_cases h:ts.contains i=true
  ·rw[if_pos h,QW ts j r,S0]
   by_cases h2:j=i
   ·subst h2;rw[if_pos h,if_pos h]
   ·rw[if_neg h2]
  ·rw[if_neg h,S0,S0,QW ts j r]
   by_cases h2:j=i
   ·subst h2;rw[if_pos rfl,if_pos rfl,if_neg h]
   ·rw[if_neg h2,if_neg h2]
def MS (j:Nat):List Nat->Bool
 | []=>false
 | i::r=>bif Nat.beq j i then true else MS j r
abbrev GK (n:Int):List AV:=[.int .i64 n]
section
variable {L:Lib} {k:List It} {tm:Tm} {own:AE} {Q:St->Prop} {l:List AI} {a7:List Nat} {d:Nat} {x i:AM} {kd:IntKind} {a:Int} {q:Bool} {α:Type} {es:List α} {enc:α->List AV} {z:Nat}
end
end Go.c8
