/-
  A region that draws its order: whatever the order, what the order of the text gives.
-/
import Derived.Test.YtfnglkabkfmjcaaGreatB2
import Derived.Test.YtfnglkabkfmjcaaGreatB1
set_option linter.unusedSimpArgs false
set_option linter.unusedVariables false
set_option linter.unnecessarySimpa false
namespace Go.e8
open Go.RowKit
section
variable {T T':Nat->AV} {C:Cl} {g7:List Nat} {own:AH}
theorem DB {x:AQ} (h : ∀ t∈CY x,T t=T' t):EL T x=EL T' x:=by
 cases x with
 | t n=>exact h n (by simp [CY])
 | c v=>rfl
theorem bH {xs:List AQ} (h : ∀ t∈xs.flatMap CY,T t=T' t):xs.map (EL T)=xs.map (EL T') :=
 List.map_congr_left λ x hx=>DB λ t ht=>h t (List.mem_flatMap.2 ⟨x,hx,ht⟩)
theorem Xj {x:Option AQ} (h : ∀ t∈tU x,T t=T' t) {y:AQ} (hy:x=some y):EL T y=EL T' y:=by
 subst hy;exact DB h
theorem Aiq {op:D4} (h : ∀ t∈G6 op,T t=T' t):j6 C g7 (EL T) own op=j6 C g7 (EL T') own op:=by
 cases op with
 | build z ps =>
  simp only[j6];congr 2;refine List.map_congr_left λ p hp => ?_
  rw[DB (x:=p.2.2) λ t ht=>h t (by simp only[G6];exact List.mem_flatMap.2 ⟨p,hp,ht⟩)]
 | g8 s c6 ps =>
  have hm:ps.mapM (λ x=>cellsOf (EL T x))=ps.mapM (λ x=>cellsOf (EL T' x)):=by
   have e : ∀ l:List AQ,(∀ x∈l,EL T x=EL T' x)->l.mapM (λ x=>cellsOf (EL T x))=l.mapM (λ x=>cellsOf (EL T' x)):=by
    intro l;induction l with
    | nil=>intro _;rfl
    | cons x r ih=>intro hl;simp only[List.mapM_cons];rw[hl x (by simp),ih λ y hy=>hl y (by simp [hy])]
   exact e ps λ x hx=>DB λ t ht=>h t (by simp only[G6];exact List.mem_flatMap.2 ⟨x,hx,ht⟩)
  simp only[j6,hm]
 | mm mx xs=>simp only[j6];rw[bH (xs:=xs) h]
 | call f xs=>simp only[j6];rw[bH (xs:=xs) h]
 | j7 f xs=>simp only[j6];rw[bH (xs:=xs) h]
 | vb ne x=>simp only[j6];rw[DB (x:=x) h]
 | bad=>rfl
 | gf x=>simp only[j6];rw[DB (x:=x) h]
 | pz s c6 bytes x y =>
  simp only[G6,List.mem_append]at h;simp only[j6];rw[DB (x:=x) λ t ht=>h t (.inl ht),DB (x:=y) λ t ht=>h t (.inr ht)]
 | jg tb x=>simp only[j6];rw[DB (x:=x) h]
 | si p f xs =>
  have e : ∀ l:List AQ,(∀ x∈l,EL T x=EL T' x)->l.mapM (λ x=>GZ (EL T x))=l.mapM (λ x=>GZ (EL T' x)):=by
   intro l;induction l with
   | nil=>intro _;rfl
   | cons x r ih=>intro hl;simp only[List.mapM_cons];rw[hl x (by simp),ih λ y hy=>hl y (by simp [hy])]
  simp only[j6];rw[e xs λ x hx=>DB λ t ht=>h t (by simp only[G6];exact List.mem_flatMap.2 ⟨x,hx,ht⟩)]
 | tu f x=>simp only[j6];rw[DB (x:=x) h]
 | n6 f xs=>simp only[j6];rw[bH (xs:=xs) h]
 | x9 s f xs=>simp only[j6];rw[bH (xs:=xs) h]
 | dv s f xs=>simp only[j6];rw[bH (xs:=xs) h]
 | px s n x v =>
  simp only[G6,List.mem_append]at h;simp only[j6];rw[DB (x:=x) λ t ht=>h t (.inl ht),DB (x:=v) λ t ht=>h t (.inr ht)]
 | o7 x xs =>
  simp only[G6,List.mem_append]at h;simp only[j6];rw[DB (x:=x) λ t ht=>h t (.inl ht),bH (xs:=xs) λ t ht=>h t (.inr ht)]
 | jq c6 x lo hi =>
  simp only[G6,List.mem_append]at h;have hx:EL T x=EL T' x:=DB λ t ht=>h t (.inl (.inl ht))
  have qk : ∀ y,lo=some y->EL T y=EL T' y:=λ y hy=>Xj (λ t ht=>h t (.inl (.inr ht))) hy
  have Jq : ∀ y,hi=some y->EL T y=EL T' y:=λ y hy=>Xj (λ t ht=>h t (.inr ht)) hy
  simp only[j6,hx];cases lo with
  | none=>cases hi with
   | none=>rfl
   | some y=>simp only[Jq y rfl]
  | some z=>cases hi with
   | none=>simp only[qk z rfl]
   | some y=>simp only[qk z rfl,Jq y rfl]
 | ag=>rfl
 | alloc=>rfl
 | b9 x=>simp only[j6];rw[DB (x:=x) h]
 | un f x=>simp only[j6];rw[DB (x:=x) h]
 | conv k x=>simp only[j6];rw[DB (x:=x) h]
 | box s x=>simp only[j6];rw[DB (x:=x) h]
 | a7 x off=>simp only[j6];rw[DB (x:=x) h]
 | qa x off n agg=>simp only[j6];rw[DB (x:=x) h]
 | ld agg n x=>simp only[j6];rw[DB (x:=x) h]
 | vu agg n x=>simp only[j6];rw[DB (x:=x) h]
 | ext x i=>simp only[j6];rw[DB (x:=x) h]
 | len x=>simp only[j6];rw[DB (x:=x) h]
 | pick c x y =>
  simp only[G6,List.mem_append]at h;simp only[j6];rw[DB (x:=c) λ t ht=>h t (.inl (.inl ht)),DB (x:=x) λ t ht=>h t (.inl (.inr ht)),DB (x:=y) λ t ht=>h t (.inr ht)]
 | bin f x y =>
  simp only[G6,List.mem_append]at h;simp only[j6];rw[DB (x:=x) λ t ht=>h t (.inl ht),DB (x:=y) λ t ht=>h t (.inr ht)]
 | tv ne n x y =>
  simp only[G6,List.mem_append]at h;simp only[j6];rw[DB (x:=x) λ t ht=>h t (.inl ht),DB (x:=y) λ t ht=>h t (.inr ht)]
 | beq ne x y =>
  simp only[G6,List.mem_append]at h;simp only[j6];rw[DB (x:=x) λ t ht=>h t (.inl ht),DB (x:=y) λ t ht=>h t (.inr ht)]
 | a5 arr c6 x i =>
  simp only[G6,List.mem_append]at h;simp only[j6];rw[DB (x:=x) λ t ht=>h t (.inl ht),DB (x:=i) λ t ht=>h t (.inr ht)]
 | idx len c6 agg x i =>
  simp only[G6,List.mem_append]at h;simp only[j6];rw[DB (x:=x) λ t ht=>h t (.inl ht),DB (x:=i) λ t ht=>h t (.inr ht)]
 | st n x v =>
  simp only[G6,List.mem_append]at h;simp only[j6];rw[DB (x:=x) λ t ht=>h t (.inl ht),DB (x:=v) λ t ht=>h t (.inr ht)]
 | mk s c6 bytes z l c =>
  simp only[G6,List.mem_append]at h;simp only[j6];rw[DB (x:=l) λ t ht=>h t (.inl ht),DB (x:=c) λ t ht=>h t (.inr ht)]
 | app s c6 bytes x y =>
  simp only[G6,List.mem_append]at h;simp only[j6];rw[DB (x:=x) λ t ht=>h t (.inl ht),DB (x:=y) λ t ht=>h t (.inr ht)]
theorem Vb (o:AH) (l:List Nat) (s:Nat):o.n7 l s=if s∈l then ⟨0,λ_=>none⟩ else o s:=by
 induction l with
 | nil=>simp [AH.n7]
 | cons x r ih =>
  simp only[AH.n7,List.mem_cons];by_cases h:s=x
  ·simp [h]
  ·rw[if_neg h,ih]
   simp [h]
theorem AkR {o o':AH} {l:List Nat} (h : ∀ s,s ∉ l->o s=o' s):o.n7 l=o'.n7 l:=by
 funext s
 rw[Vb,Vb];split
 ·rfl
 ·rename_i hs;exact h s hs
end
section
variable {ops:Array Oper}
def inner (acc:Array Nat) (o:Oper):Nat:=o.after.foldl (λ s e=>if Region.binds .any e then s ||| 2^e.on ||| acc.getD e.on 0 else s) 0
theorem AkT (acc:Array Nat) (o:Oper) (j:Nat) (h:(inner acc o).testBit j=true) : ∃ e∈o.after,Region.binds .any e=true/\(e.on=j\/(acc.getD e.on 0).testBit j=true):=by
 unfold inner at h;rw[<-Array.foldl_toList]at h;have key : ∀ (l:List Edge) (s:Nat),(l.foldl (λ s e=>if Region.binds .any e then s ||| 2^e.on ||| acc.getD e.on 0 else s) s).testBit j=true->s.testBit j=true \/ ∃ e∈l,Region.binds .any e=true/\(e.on=j\/(acc.getD e.on 0).testBit j=true):=by
  intro l;induction l with
  | nil=>intro s hs;exact .inl hs
  | cons e r ih =>
   intro s hs;simp only[List.foldl_cons]at hs;rcases ih _ hs with h1|⟨e',kp,h2⟩
   ·by_cases hb:Region.binds .any e=true
    ·simp only[hb,if_true,Nat.testBit_or,Bool.or_eq_true,Nat.testBit_two_pow,decide_eq_true_eq]at h1
     rcases h1 with (h1|h1)|h1
     ·exact .inl h1
     ·exact .inr ⟨e,by simp,hb,.inl h1⟩
     ·exact .inr ⟨e,by simp,hb,.inr h1⟩
    ·simp only[hb,Bool.false_eq_true,if_false]at h1
     exact .inl h1
   ·exact .inr ⟨e',by simp [kp],h2⟩
 rcases key _ _ h with h|⟨e,he,h⟩
 ·simp at h
 ·exact ⟨e,by simpa using he,h⟩
theorem Af8 (i j:Nat) (h:((Region.before ops).getD i 0).testBit j=true) : ∃ o,ops[i]? = some o /\ ∃ e∈o.after,Region.binds .any e=true/\(e.on=j\/(e.on<i/\((Region.before ops).getD e.on 0).testBit j=true)):=by
 have key : ∀ (rest:List Oper) (done:List Oper) (acc:Array Nat),acc.size=done.length ->
   (∀ i j,(acc.getD i 0).testBit j=true -> ∃ o,done[i]? = some o /\ ∃ e∈o.after,Region.binds .any e=true/\(e.on=j\/(e.on<i/\(acc.getD e.on 0).testBit j=true))) ->
   ∀ i j,((rest.foldl (λ acc o=>acc.push (inner acc o)) acc).getD i 0).testBit j=true -> ∃ o,(done++rest)[i]? = some o /\ ∃ e∈o.after,Region.binds .any e=true/\(e.on=j\/(e.on<i/\((rest.foldl (λ acc o=>acc.push (inner acc o)) acc).getD e.on 0).testBit j=true)):=by
  intro rest;induction rest with
  | nil=>intro done acc hs hinv i j hj;simpa using hinv i j hj
  | cons o r ih =>
   intro done acc hs hinv i j hj;simp only[List.foldl_cons]at hj ⊢;have:=ih (done++[o]) (acc.push (inner acc o)) (by simp [hs]) (λ i j gb => ?_) i j hj
   ·simpa using this
   ·have q6 : ∀ k,k<acc.size->(acc.push (inner acc o)).getD k 0=acc.getD k 0:=λ k hk=>by
     simp [Array.getD,hk,Nat.lt_succ_of_lt hk,Array.getElem_push_lt hk]
    by_cases hi:i<acc.size
    ·rw[q6 i hi]at gb
     obtain ⟨o',Ag,e,he,hb,db⟩:=hinv i j gb;refine ⟨o',by rw[List.getElem?_append_left (by omega)];exact Ag,e,he,hb,db.imp id λ⟨h1,h2⟩=>⟨h1,by rw[q6 e.on (by omega)];exact h2⟩⟩
    ·have Nb:i=acc.size:=by
      rcases Nat.lt_or_ge i (acc.push (inner acc o)).size with h1|h1
      ·simp at h1;omega
      ·have:(acc.push (inner acc o)).getD i 0=0:=by simp [Array.getD];intro h2;simp at h1;omega
       rw[this]at gb;simp at gb
     subst Nb;have np:(acc.push (inner acc o)).getD acc.size 0=inner acc o:=by simp [Array.getD]
     rw[np]at gb;obtain ⟨e,he,hb,db⟩:=AkT acc o j gb;refine ⟨o,by rw[hs];simp,e,he,hb,db.imp id λ h2 => ?_⟩;have m7:e.on<acc.size:=by
      rcases Nat.lt_or_ge e.on acc.size with h3|h3
      ·exact h3
      ·have:acc.getD e.on 0=0:=by simp [Array.getD];omega
       rw[this]at h2;simp at h2
     exact ⟨m7,by rw[q6 e.on m7];exact h2⟩
 have hb:Region.before ops=ops.toList.foldl (λ acc o=>acc.push (inner acc o)) #[]:=by
  unfold Region.before;rw[<-Array.foldl_toList];rfl
 rw[hb]at h ⊢;have:=key ops.toList [] #[] rfl (λ i j gb=>by simp at gb) i j h
 simpa using this
def cD (ops:Array Oper) (X:Nat->Bool):Prop := ∀ j o,X j=true->ops[j]? = some o -> ∀ e∈o.after,Region.binds .any e=true->X e.on=true
theorem anc {X:Nat->Bool} (hX:cD ops X) : ∀ (i:Nat),(∀ o,ops[i]? = some o -> ∀ e∈o.after,Region.binds .any e=true->X e.on=true) -> ∀ j,((Region.before ops).getD i 0).testBit j=true->X j=true:=by
 intro i;induction i using Nat.strongRecOn with
 | ind i ih =>
  intro hi j hj;obtain ⟨o,ho,e,he,hb,db⟩:=Af8 i j hj;have hx:=hi o ho e he hb;rcases db with h|⟨m7,h⟩
  ·rw[<-h];exact hx
  ·exact ih e.on m7 (λ o' Ag e' kp m6=>hX e.on o' hx Ag e' kp m6) j h
theorem Amd {X:Nat->Bool} (hX:cD ops X) {i j:Nat} (hi : ∀ o,ops[i]? = some o -> ∀ e∈o.after,Region.binds .any e=true->X e.on=true) (m7:j<i) (h:JD (Region.before ops) i j=true):X j=true:=by
 unfold JD at h;rw[Nat.max_eq_left (by omega),Nat.min_eq_right (by omega)]at h;exact anc hX i hi j h
theorem Xl {X:Nat->Bool} (hX:cD ops X) {i j:Nat} (hj:X j=true) (m7:i<j) (h:JD (Region.before ops) i j=true):X i=true:=by
 unfold JD at h;rw[Nat.max_eq_right (by omega),Nat.min_eq_left (by omega)]at h;exact anc hX j (λ o ho e he hb=>hX j o hj ho e he hb) i h
end
section
variable {C:Cl}
abbrev D:=(Nat->AV) × AH
structure D5 where
 d:Option Nat
 g:Bool
 E:CG
 v:AV
def D5.own (r:D5) (o:AH):AH:=if r.g then r.E.ax o else o
def D5.act (r:D5) (x:D):D:=(J9 x.1 r.d r.v,r.own x.2)
structure cE (C:Cl) (x:AI) (r:D5) (s s':St):Prop where
 d:r.d=x.dst
 g:TD (j8 s.tm) x.guard=some r.g
 E:r.g=true->j6 C x.g7 (EL (j8 s.tm)) s.own x.op=some r.E
 v:r.v=(if r.g then r.E.valOf s.own else .j9 [])
 act:(j8 s'.tm,s'.own)=r.act (j8 s.tm,s.own)
theorem trace : ∀ {l:List AI} {st l7:St},DC C l st=some l7 -> ∃ (σ:Nat->St) (rs:List D5),σ 0=st/\σ l.length=l7/\rs.length=l.length /\ ∀ (k:Nat) (x:AI) (r:D5),l[k]? = some x->rs[k]? = some r->cE C x r (σ k) (σ (k+1))
 | [],st,l7,h=>by
  simp only[DC,Option.some.injEq]at h;subst h;exact ⟨λ_=>st,[],rfl,rfl,rfl,λ k x r hx=>by simp at hx⟩
 | o::q,st,l7,h=>by
  simp only[DC]at h;cases hs:C6 C o st with
  | none=>simp [hs]at h
  | some A7 =>
   simp only[hs]at h;obtain ⟨σ,rs,h0,h1,hl,h2⟩:=trace h;obtain ⟨g,E,e1,e2,e3,e4⟩:=Zp hs;refine ⟨λ k=>match k with|0=>st|k+1=>σ k,⟨o.dst,g,E,if g then E.valOf st.own else .j9 []⟩::rs,rfl,h1,by simp [hl],λ k x r hx hr => ?_⟩;cases k with
   | zero =>
    simp at hx hr;subst hx hr;refine ⟨rfl,e1,e2,rfl,?_⟩;show (j8 (σ 0).tm,(σ 0).own)=_;rw[h0,e3,e4];rfl
   | succ k=>exact h2 k x r (by simpa using hx) (by simpa using hr)
def DR (X:Nat->Bool):List D5->Nat->D->D
 | [],_,x=>x
 | r::rs,k,x=>DR X rs (k+1) (if X k then r.act x else x)
theorem rR (X:Nat->Bool) : ∀ (l l':List D5) (k:Nat) (x:D),DR X (l++l') k x=DR X l' (k+l.length) (DR X l k x)
 | [],l',k,x=>by simp [DR]
 | r::rs,l',k,x=>by
  simp only[List.cons_append,DR,List.length_cons];rw[rR X rs l' (k+1)];congr 1;omega
theorem Uo {X Y:Nat->Bool} {t:Nat} : ∀ (l:List D5) (k:Nat) (x y:D),x.1 t=y.1 t->(∀ i r,l[i]? = some r->r.d=some t->X (k+i)=Y (k+i))->(DR X l k x).1 t=(DR Y l k y).1 t
 | [],k,x,y,h,_=>h
 | r::rs,k,x,y,h,wq=>by
  simp only[DR];refine Uo rs (k+1) _ _ ?_ λ i r' hr hd=>by
   have:=wq (i+1) r' (by simpa using hr) hd
   rw[show k+1+i=k+(i+1) by omega];exact this
  by_cases hd:r.d=some t
  ·have hx:X k=Y k:=by simpa using wq 0 r rfl hd
   rw[hx];cases Y k
   ·simpa using h
   ·simp [D5.act,J9,hd]
  ·have e1 : ∀ z:D,(r.act z).1 t=z.1 t:=λ z=>by simp [D5.act,J9,hd]
   cases X k<;>cases Y k<;>simp [e1,h]
theorem Ami (E:CG) (s:Nat) (o o':AH) (h:o s=o' s):E.ax o s=E.ax o' s:=by
 cases E with
 | val v=>exact h
 | new s' b v =>
  simp only[CG.ax,AH.put];by_cases hs:s=s'
  ·subst hs;simp [h]
  ·simp [hs,h]
 | As s' b v =>
  simp only[CG.ax,AH.put];by_cases hs:s=s'
  ·subst hs;simp [h]
  ·simp [hs,h]
 | fk v o2=>rfl
 | zi s' x v =>
  simp only[CG.ax,AH.put];by_cases hs:s=s'
  ·simp [hs]
  ·simp [hs,h]
 | u7 s' x =>
  simp only[CG.ax,AH.put];by_cases hs:s=s'
  ·simp [hs]
  ·simp [hs,h]
theorem Un {X Y:Nat->Bool} {s:Nat} : ∀ (l:List D5) (k:Nat) (x y:D),x.2 s=y.2 s->(∀ i r,l[i]? = some r->X (k+i)=Y (k+i) \/ ∀ o,r.own o s=o s)->(DR X l k x).2 s=(DR Y l k y).2 s
 | [],k,x,y,h,_=>h
 | r::rs,k,x,y,h,wq=>by
  simp only[DR];refine Un rs (k+1) _ _ ?_ λ i r' hr=>by
   have:=wq (i+1) r' (by simpa using hr)
   rw[show k+1+i=k+(i+1) by omega];exact this
  rcases wq 0 r rfl with hx|hx
  ·simp only[Nat.add_zero]at hx
   rw[hx];cases Y k
   ·simpa using h
   ·simp only[if_true,D5.act,D5.own]
    cases r.g
    ·simpa using h
    ·simpa using Ami r.E s _ _ h
  ·have e1 : ∀ z:D,(r.act z).2 s=z.2 s:=λ z=>hx z.2
   cases X k<;>cases Y k<;>simp [e1,h]
theorem rS {X:Nat->Bool} (q:D5) : ∀ (l:List D5) (k:Nat) (x:D),(∀ i r,l[i]? = some r->X (k+i)=true -> ∀ z,r.act (q.act z)=q.act (r.act z))->DR X l k (q.act x)=q.act (DR X l k x)
 | [],k,x,_=>rfl
 | r::rs,k,x,h=>by
  simp only[DR];have fp : ∀ i r',rs[i]? = some r'->X (k+1+i)=true -> ∀ z,r'.act (q.act z)=q.act (r'.act z):=λ i r' hr hX=>h (i+1) r' (by simpa using hr) (by rw[show k+(i+1)=k+1+i by omega];exact hX)
  cases hk:X k
  ·simp only[Bool.false_eq_true,if_false]
   exact rS q rs (k+1) x fp
  ·simp only[if_true]
   rw[h 0 r rfl (by simpa using hk)];exact rS q rs (k+1) _ fp
theorem mC {X Y:Nat->Bool} : ∀ (l:List D5) (k:Nat) (x:D),(∀ i,i<l.length->X (k+i)=Y (k+i))->DR X l k x=DR Y l k x
 | [],_,_,_=>rfl
 | r::rs,k,x,h=>by
  simp only[DR];rw[show X k=Y k by simpa using h 0 (by simp)];exact mC rs (k+1) _ λ i hi=>by
   have:=h (i+1) (by simpa using hi)
   rw[show k+1+i=k+(i+1) by omega];exact this
theorem Um {X X':Nat->Bool} {l:List D5} {i:Nat} {q:D5} (hq:l[i]? = some q) (oc:X i=false) (yl : ∀ j,X' j=(decide (j=i)||X j)) (x:D) (Gn : ∀ j r,l[j]? = some r->i<j->X j=true -> ∀ z,r.act (q.act z)=q.act (r.act z)) :
  DR X' l 0 x=q.act (DR X l 0 x):=by
 have ak:i<l.length:=(zS hq).1;have hli:l=l.take i++(q::l.drop (i+1)):=by
  have:l.drop i=q::l.drop (i+1):=by
   rw[List.drop_eq_getElem_cons ak];congr 1;have:=(zS hq).2
   exact this
  rw[<-this,List.take_append_drop]
 have cp:(l.take i).length=i:=by simp;omega
 rw[hli,rR,rR,cp,Nat.zero_add];simp only[DR,oc,Bool.false_eq_true,if_false];rw[show X' i=true by rw[yl];simp];simp only[if_true];rw[mC (X:=X') (Y:=X) (l.take i) 0 x (λ j hj=>by rw[yl];simp;omega)];rw[mC (X:=X') (Y:=X) (l.drop (i+1)) (i+1) _ (λ j hj=>by rw[yl];simp;omega)];refine rS q _ _ _ λ j r hr Jl => ?_
 rw[List.getElem?_drop]at hr;exact Gn (i+1+j) r hr (by omega) Jl
end
end Go.e8
namespace Go.e8
open Go.RowKit
section
variable {C:Cl} {g7:List Nat} {ρ:AQ->AV}
theorem Ait {op:D4} (o o':AH) (ht:G5 op=false) (hr:iQ op=true->o.n7 g7=o'.n7 g7) (l9 : ∀ s,ER op=some s->o s=o' s):j6 C g7 ρ o op=j6 C g7 ρ o' op:=by
 cases op with
 | px s n x v =>
  have h1:=l9 s rfl;have h2 : ∀ t i j vs,(o.nv s t i j vs).map (λ q=>CG.u7 s (q s))=(o'.nv s t i j vs).map (λ q=>CG.u7 s (q s)):=λ t i j vs=>by
   have hg:o.get s t=o'.get s t:=by unfold AH.get;rw[h1]
   unfold AH.nv;rw[hg];cases o'.get s t with
   | none=>rfl
   | some b =>
    simp only;cases b.es[i]? with
    | none=>rfl
    | some cs =>
     simp only;split
     ·simp only[Option.map_some,AH.k9,h1]
     ·rfl
  simp only[j6,h2]
 | ld agg n x=>have:=hr rfl;simp only[j6,this]
 | call f xs=>have:=hr rfl;simp only[j6,this]
 | x9 s f xs=>have:=hr rfl;simp only[j6,this]
 | dv s f xs=>have h1:=l9 s rfl;simp only[j6,h1]
 | st=>simp [G5]at ht
 | app=>simp [G5]at ht
 | j7=>simp [G5]at ht
 | o7=>simp [G5]at ht
 | _=>rfl
theorem Sl {op:D4} {o:AH} {E:CG} (h:j6 C g7 ρ o op=some E) {s:Nat} (hs:ER op=some s):(∃ b v,E = .new s b v\/E = .As s b v) \/ ∃ x v,E = .u7 s x\/E = .zi s x v:=by
 cases op with
 | px s' n x v =>
  simp only[ER,Option.some.injEq]at hs;subst hs;simp only[j6]at h;split at h
  ·split at h
   ·simp only[Option.map_eq_some_iff]at h
    obtain ⟨q,_,rfl⟩:=h;exact .inr ⟨_,.any,.inl rfl⟩
   ·cases h
  ·cases h
 | x9 s' f xs =>
  simp only[ER,Option.some.injEq]at hs;subst hs;simp only[j6]at h;split at h
  ·simp only[Option.map_eq_some_iff]at h
   obtain ⟨r,_,rfl⟩:=h;exact .inl ⟨_,_,.inl rfl⟩
  ·cases h
 | pz s' c6 bytes x y =>
  simp only[ER,Option.some.injEq]at hs;subst hs;simp only[j6]at h;split at h
  ·split at h
   ·simp only[Option.some.injEq]at h;exact .inl ⟨_,_,.inl h.symm⟩
   ·cases h
  ·cases h
 | dv s' f xs =>
  simp only[ER,Option.some.injEq]at hs;subst hs;simp only[j6,Option.map_eq_some_iff]at h;obtain ⟨p,_,rfl⟩:=h;exact .inr ⟨_,_,.inr rfl⟩
 | ag s' z =>
  simp only[ER,Option.some.injEq]at hs;subst hs;simp only[j6,Option.some.injEq]at h;exact .inl ⟨_,_,.inr h.symm⟩
 | box s' x =>
  simp only[ER,Option.some.injEq]at hs;subst hs;simp only[j6]at h;split at h
  ·simp only[Option.some.injEq]at h;exact .inl ⟨_,_,.inl h.symm⟩
  ·cases h
 | alloc s' z =>
  simp only[ER,Option.some.injEq]at hs;subst hs;simp only[j6,Option.some.injEq]at h;exact .inl ⟨_,_,.inl h.symm⟩
 | g8 s' c6 ps =>
  simp only[ER,Option.some.injEq]at hs;subst hs;simp only[j6]at h;split at h
  ·split at h
   ·simp only[Option.some.injEq]at h;exact .inl ⟨_,_,.inl h.symm⟩
   ·cases h
  ·cases h
 | mk s' c6 bytes z l c =>
  simp only[ER,Option.some.injEq]at hs;subst hs;simp only[j6]at h;split at h
  ·split at h
   ·simp only[Option.some.injEq]at h;exact .inl ⟨_,_,.inl h.symm⟩
   ·cases h
  ·cases h
 | _=>simp [ER]at hs
theorem sW {α:Type} {x:Option α} {f:α->AV} {E:CG} (h:x.map (λ y=>CG.val (f y))=some E) : ∃ v,E = .val v:=by
 cases x with
 | none=>cases h
 | some y=>simp only[Option.map_some,Option.some.injEq]at h;exact ⟨_,h.symm⟩
theorem Sn {op:D4} {o:AH} {E:CG} (h:j6 C g7 ρ o op=some E) (ht:G5 op=false) (hs:ER op=none) : ∃ v,E = .val v:=by
 cases op<;>first|(simp [G5]at ht;done)|(simp [ER]at hs;done)|skip
 all_goals simp only[j6]at h
 all_goals
  first
   | (simp only[Option.some.injEq]at h;exact ⟨_,h.symm⟩)
   | exact sW (f:=id) h
   | skip
 all_goals (repeat' split at h)
 all_goals
  first
   | (cases h;done)
   | (simp only[Option.some.injEq]at h;exact ⟨_,h.symm⟩)
   | exact sW (f:=id) h
   | exact sW (f:=AV.agg) h
   | (simp only[Option.map_eq_some_iff]at h;obtain ⟨cs,_,rfl⟩:=h;exact ⟨_,rfl⟩)
theorem bK {x:AI} {r:D5} {s s':St} (h:cE C x r s s') (ht:G5 x.op=false) (hs:ER x.op=none) (o:AH):r.own o=o:=by
 unfold D5.own;cases hg:r.g with
 | false=>rfl
 | true =>
  obtain ⟨v,hv⟩:=Sn (h.E hg) ht hs;simp [hv,CG.ax]
theorem uJ {x:AI} {r:D5} {s s':St} (h:cE C x r s s') {q:Nat} (hs:ER x.op=some q):(∀ o,r.own o=o) \/ ∃ F:CH->CH,∀ o:AH,r.own o=o.put q (F (o q)):=by
 unfold D5.own;cases hg:r.g with
 | false=>exact .inl λ_=>rfl
 | true =>
  rcases Sl (h.E hg) hs with ⟨b,v,hv|hv⟩|⟨x,v,hv|hv⟩
  ·exact .inr ⟨λ q=>q.new b,λ o=>by simp [hv,CG.ax]⟩
  ·exact .inr ⟨λ q=>q.new b,λ o=>by simp [hv,CG.ax]⟩
  ·exact .inr ⟨λ_=>x,λ o=>by simp [hv,CG.ax]⟩
  ·exact .inr ⟨λ_=>x,λ o=>by simp [hv,CG.ax]⟩
theorem Wb {x:AI} {r:D5} {s s':St} (h:cE C x r s s') {q:Nat} (hs:ER x.op=some q) {p:Nat} (hp:p≠q) (o:AH):r.own o p=o p:=by
 rcases uJ h hs with h1|⟨b,h1⟩
 ·rw[h1]
 ·rw[h1];simp [AH.put,hp]
theorem Xk (b:Array Nat) (i j:Nat):JD b i j=JD b j i:=by unfold JD;rw[Nat.max_comm,Nat.min_comm]
theorem aR {ops:Array Oper} {l:List AI} (h:aQ ops l=true) {i j:Nat} {x y:AI} (hx:l[i]? = some x) (hy:l[j]? = some y) (m9:i≠j) :
  (JD (Region.before ops) i j=true\/((∀ t,y.dst=some t->t ∉ dO x)/\(G5 x.op=false\/PL y.op=false)/\(iQ x.op=true -> ∀ s,ER y.op=some s->s∈x.g7))) /\
  (JD (Region.before ops) i j=true \/ ∀ s s',ER x.op=some s->ER y.op=some s'->s≠s'):=by
 simp only[aQ,Bool.and_eq_true]at h;have h1:=h.1.1;rw[List.all_eq_true]at h1;have hxm:(x,i)∈l.zipIdx:=List.mem_zipIdx_iff_getElem?.2 hx;have hym:(y,j)∈l.zipIdx:=List.mem_zipIdx_iff_getElem?.2 hy;have h2:=h1 (x,i) hxm;simp only at h2;rw[List.all_eq_true]at h2;have h3:=h2 (y,j) hym;simp only[Bool.and_eq_true,Bool.or_eq_true,beq_iff_eq,m9,false_or]at h3;obtain ⟨h4,h5⟩:=h3;refine ⟨?_,h5.imp id λ h5 s s' hs uw => ?_⟩
 ·unfold Xo at h4
  simp only[Bool.or_eq_true,beq_iff_eq,m9,false_or]at h4;refine h4.imp id λ h6 => ?_
  simp only[Bool.and_eq_true,Bool.or_eq_true,Bool.not_eq_true']at h6;obtain ⟨⟨h7,h8⟩,h9⟩:=h6;refine ⟨λ t ht => ?_,h8,λ hr s hs => ?_⟩
  ·rw[ht]at h7
   simpa using h7
  ·rw[hr,hs]at h9
   simpa using h9
 ·rw[hs,uw]at h5
  simpa using h5
structure jP (C:Cl) (ops:Array Oper) (l:List AI) (σ:Nat->St) (rs:List D5):Prop where
 ok:aQ ops l=true
 len:rs.length=l.length
 fits : ∀ (k:Nat) (x:AI) (r:D5),l[k]? = some x->rs[k]? = some r->cE C x r (σ k) (σ (k+1))
variable {ops:Array Oper} {l:List AI} {σ:Nat->St} {rs:List D5}
theorem rT {X:Nat->Bool} : ∀ (l:List D5) (k:Nat) (x:D),(∀ i,i<l.length->X (k+i)=false)->DR X l k x=x
 | [],_,_,_=>rfl
 | r::q,k,x,h=>by
  simp only[DR];rw[show X k=false by simpa using h 0 (by simp)];exact rT q (k+1) _ λ i hi=>by
   have:=h (i+1) (by simpa using hi)
   rw[show k+1+i=k+(i+1) by omega];exact this
def d0 (σ:Nat->St):D:=(j8 (σ 0).tm,(σ 0).own)
theorem qN (h:jP C ops l σ rs) : ∀ k,k<=l.length->DR (λ j=>decide (j<k)) rs 0 (d0 σ)=(j8 (σ k).tm,(σ k).own)
 | 0,_=>rT rs 0 _ λ i _=>by simp
 | k+1,hk=>by
  have qi:k<l.length:=by omega
  have hkr:k<rs.length:=by rw[h.len];exact qi
  have hr:rs[k]? = some rs[k]:=zE hkr;have hf:=h.fits k l[k] rs[k] (zE qi) hr;rw[Um (X:=λ j=>decide (j<k)) (X':=λ j=>decide (j<k+1)) hr (by simp) (λ j=>by
   by_cases h1:j=k
   ·simp [h1]
   ·simp [h1];omega) _ (λ j r' _ m7 hX=>by simp at hX;omega),qN h k (by omega)]
  exact hf.act.symm
section
variable {X:Nat->Bool} {i:Nat} {x:AI} {r:D5}
theorem Xm (hX:cD ops X) (oc:X i=false) (ft : ∀ o,ops[i]? = some o -> ∀ e∈o.after,Region.binds .any e=true->X e.on=true) {j:Nat} (m9:i≠j) (ho:JD (Region.before ops) i j=true):X j=decide (j<i):=by
 rcases Nat.lt_or_gt_of_ne m9 with m7|ui
 ·have:X j=false:=by
   cases hj:X j with
   | false=>rfl
   | true=>have:=Xl hX hj m7 ho;rw[oc]at this;cases this
  rw[this];simp;omega
 ·rw[Amd hX ft ui ho];simp;omega
theorem Aii (h:jP C ops l σ rs) (hx:l[i]? = some x) (hr:rs[i]? = some r) (hX:cD ops X) (oc:X i=false) (ft : ∀ o,ops[i]? = some o -> ∀ e∈o.after,Region.binds .any e=true->X e.on=true) :
  TD (DR X rs 0 (d0 σ)).1 x.guard=some r.g/\(r.g=true->j6 C x.g7 (EL (DR X rs 0 (d0 σ)).1) (DR X rs 0 (d0 σ)).2 x.op=some r.E) /\
  (if r.g then r.E.valOf (DR X rs 0 (d0 σ)).2 else .j9 [])=r.v /\
  ∀ X':Nat->Bool,(∀ j,X' j=(decide (j=i)||X j))->DR X' rs 0 (d0 σ)=r.act (DR X rs 0 (d0 σ)):=by
 have ak:i<l.length:=(zS hx).1;have hf:=h.fits i x r hx hr;have Bq:=qN h i (by omega);generalize hT:DR X rs 0 (d0 σ)=TX;have ib : ∀ (j:Nat) (r':D5),rs[j]? = some r' -> ∃ y,l[j]? = some y/\cE C y r' (σ j) (σ (j+1)):=λ j r' hj=>by
  have dm:j<l.length:=by rw[<-h.len];exact (zS hj).1
  exact ⟨l[j],zE dm,h.fits j _ _ (zE dm) hj⟩
 have Bo : ∀ t∈dO x,TX.1 t=j8 (σ i).tm t:=λ t ht=>by
  have:=Uo (X:=X) (Y:=λ j=>decide (j<i)) (t:=t) rs 0 (d0 σ) (d0 σ) rfl (λ j r' hj hd=>by
   simp only[Nat.zero_add];by_cases m9:i=j
   ·subst m9;simp [oc]
   ·obtain ⟨y,hy,ji⟩:=ib j r' hj
    rcases (aR h.ok hx hy m9).1 with ho|⟨h1,_⟩
    ·exact Xm hX oc ft m9 ho
    ·exact absurd ht (h1 t (by rw[<-ji.d];exact hd)))
  rw[hT,Bq]at this;exact this
 have Ij : ∀ t∈G6 x.op,TX.1 t=j8 (σ i).tm t:=λ t ht=>Bo t (by simp [dO,ht])
 have gp : ∀ s,(∀ (j:Nat) (y:AI) (r':D5),i≠j->l[j]? = some y->rs[j]? = some r'->JD (Region.before ops) i j=true \/ ∀ o,r'.own o s=o s)->TX.2 s=(σ i).own s:=λ s hs=>by
  have:=Un (X:=X) (Y:=λ j=>decide (j<i)) (s:=s) rs 0 (d0 σ) (d0 σ) rfl (λ j r' hj=>by
   simp only[Nat.zero_add];by_cases m9:i=j
   ·subst m9;left;simp [oc]
   ·obtain ⟨y,hy,ji⟩:=ib j r' hj
    rcases hs j y r' m9 hy hj with ho|ho
    ·exact .inl (Xm hX oc ft m9 ho)
    ·exact .inr ho)
  rw[hT,Bq]at this;exact this
 have oz : ∀ (j:Nat) (y:AI) (r':D5),l[j]? = some y->rs[j]? = some r'->PL y.op=false -> ∀ o,r'.own o=o:=λ j y r' hy hj hm o=>by
  simp only[PL,Bool.or_eq_false_iff]at hm;exact bK (h.fits j y r' hy hj) hm.1.1 (by simpa using hm.2) o
 have Hv : ∀ (j:Nat) (y:AI),i≠j->l[j]? = some y->G5 y.op=true->PL x.op=true->JD (Region.before ops) i j=true:=λ j y m9 hy ht mj=>by
  rcases (aR h.ok hy hx (Ne.symm m9)).1 with ho|⟨_,h2,_⟩
  ·rw[Xk];exact ho
  ·rw[ht,mj]at h2;simp at h2
 have hg:TD TX.1 x.guard=some r.g:=by
  rw[<-hf.g];cases Es:x.guard with
  | none=>rfl
  | some gw =>
   obtain ⟨g,w⟩:=gw;simp only[TD];rw[Bo g (by simp [dO,Es])]
 have Br:G5 x.op=true->TX.2=(σ i).own:=λ ht=>by
  funext s
  refine gp s λ j y r' m9 hy hj => ?_
  cases hm:PL y.op with
  | false=>exact .inr λ o=>by rw[oz j y r' hy hj hm o]
  | true =>
   rcases (aR h.ok hx hy m9).1 with ho|⟨_,h2,_⟩
   ·exact .inl ho
   ·rw[ht,hm]at h2;simp at h2
 have Ht:iQ x.op=true->TX.2.n7 x.g7=(σ i).own.n7 x.g7:=λ og=>by
  refine AkR λ s hs=>gp s λ j y r' m9 hy hj => ?_
  have mj:PL x.op=true:=by simp [PL,og]
  cases ht:G5 y.op with
  | true=>exact .inl (Hv j y m9 hy ht mj)
  | false =>
   cases ml:ER y.op with
   | none=>exact .inr λ o=>by rw[bK (h.fits j y r' hy hj) ht ml o]
   | some q =>
    rcases (aR h.ok hx hy m9).1 with ho|⟨_,_,h3⟩
    ·exact .inl ho
    ·exact .inr λ o=>Wb (h.fits j y r' hy hj) ml (p:=s) (λ e=>hs (by rw[e];exact h3 og q ml)) o
 have Bl : ∀ s,ER x.op=some s->TX.2 s=(σ i).own s:=λ s xv=>by
  have mj:PL x.op=true:=by simp [PL,xv]
  exact gp s λ j y r' m9 hy hj=>by
   cases ht:G5 y.op with
   | true=>exact .inl (Hv j y m9 hy ht mj)
   | false =>
    cases ml:ER y.op with
    | none=>exact .inr λ o=>by rw[bK (h.fits j y r' hy hj) ht ml o]
    | some q =>
     rcases (aR h.ok hx hy m9).2 with ho|Dx
     ·exact .inl ho
     ·exact .inr λ o=>Wb (h.fits j y r' hy hj) ml (Dx s q xv ml) o
 have Mp:r.g=true->j6 C x.g7 (EL TX.1) TX.2 x.op=some r.E:=λ ga=>by
  rw[Aiq Ij,<-hf.E ga];cases ht:G5 x.op with
  | true=>rw[Br ht]
  | false=>exact Ait _ _ ht Ht Bl
 have hval:(if r.g then r.E.valOf TX.2 else .j9 [])=r.v:=by
  rw[hf.v];cases hgv:r.g with
  | false=>rfl
  | true =>
   simp only[if_true];cases xv:ER x.op with
   | none =>
    cases ht:G5 x.op with
    | true=>rw[Br ht]
    | false =>
     obtain ⟨v,hv⟩:=Sn (hf.E hgv) ht xv;rw[hv];rfl
   | some s =>
    have Dx:=Bl s xv;rcases Sl (hf.E hgv) xv with ⟨b,v,hv|hv⟩|⟨x,v,hv|hv⟩<;>rw[hv]<;>simp only[CG.valOf,AH.k6,Dx]
 refine ⟨hg,Mp,hval,λ X' yl => ?_⟩;rw[<-hT];refine Um hr oc yl _ λ j r' hj m7 Jl z => ?_
 obtain ⟨y,hy,ji⟩:=ib j r' hj;have m9:i≠j:=by omega
 have Ew : ¬ JD (Region.before ops) i j=true:=λ ho=>by
  have:=Xl hX Jl m7 ho
  rw[oc]at this;cases this
 obtain ⟨yq,Ex⟩:=aR h.ok hx hy m9;obtain ⟨Ah,Fa⟩:=aR h.ok hy hx (Ne.symm m9);have hp:=yq.resolve_left Ew;have hq:=Ah.resolve_left (by rw[Xk];exact Ew);unfold D5.act;refine Prod.ext ?_ ?_
 ·funext t
  simp only[J9];by_cases h1:r'.d=some t<;>by_cases h2:r.d=some t
  ·exact absurd (by rw[hf.d]at h2;simp [dO,h2]) (hp.1 t (by rw[<-ji.d];exact h1))
  ·simp [h1,h2]
  ·simp [h1,h2]
  ·simp [h1,h2]
 ·show r'.own (r.own z.2)=r.own (r'.own z.2)
  cases mj:PL x.op with
  | false=>rw[oz i x r hx hr mj,oz i x r hx hr mj]
  | true =>
   cases tn:PL y.op with
   | false=>rw[oz j y r' hy hj tn,oz j y r' hy hj tn]
   | true =>
    have htx:G5 x.op=false:=by
     rcases hp.2.1 with h1|h1
     ·exact h1
     ·rw[tn]at h1;cases h1
    have hty:G5 y.op=false:=by
     rcases hq.2.1 with h1|h1
     ·exact h1
     ·rw[mj]at h1;cases h1
    cases xv:ER x.op with
    | none=>rw[bK hf htx xv,bK hf htx xv]
    | some s =>
     cases ml:ER y.op with
     | none=>rw[bK ji hty ml,bK ji hty ml]
     | some s' =>
      have Dx:=(Ex.resolve_left Ew) s s' xv ml;rcases uJ hf xv with h1|⟨b,h1⟩
      ·rw[h1,h1]
      ·rcases uJ ji ml with h2|⟨b',h2⟩
       ·rw[h2,h2]
       ·rw[h1,h2,h2,h1]
        funext q
        simp only[AH.put];by_cases Nz:q=s<;>by_cases Ds:q=s'
        ·exact absurd (Nz.symm.trans Ds) Dx
        ·simp [Nz,Dx]
        ·simp [Ds,Ne.symm Dx]
        ·simp [Nz,Ds]
end
end
end Go.e8

namespace Go.e8
open Go.RowKit
section
variable {ops:Array Oper} {md:Region.Mode}
theorem Agb {e:Edge} (h:Region.binds .any e=true) (md:Region.Mode):Region.binds md e=true:=by
 unfold Region.binds at *;split at h<;>simp_all
theorem Tz (ops:Array Oper) (md:Region.Mode) : ∀ (fuel t:Nat) (e9:Array Bool),e9.size=ops.size -> ∀ (k i:Nat),(Region.linearise.go md ops fuel t e9 [])[k]? = some i ->
  ∃ o,ops[i]? = some o /\ ∀ e∈o.after,Region.binds md e=true->e9.getD e.on false=true\/e.on∈(Region.linearise.go md ops fuel t e9 []).take k
 | 0,t,e9,hs,k,i,h=>by simp [Region.linearise.go]at h
 | fuel+1,t,e9,hs,k,i,h=>by
  have tk:Region.linearise.go md ops (fuel+1) t e9 []=match (Region.ready md ops e9)[t%(Region.ready md ops e9).length]? with
   | some i=>i::Region.linearise.go md ops fuel (t/(Region.ready md ops e9).length) (e9.setIfInBounds i true) []
   | none=>[]:=by
   simp only[Region.linearise.go];change (match (Region.ready md ops e9)[t%(Region.ready md ops e9).length]? with
    | some i=>Region.linearise.go md ops fuel (t/(Region.ready md ops e9).length) (e9.setIfInBounds i true) [i]
    | none=>[].reverse)=_
   cases (Region.ready md ops e9)[t%(Region.ready md ops e9).length]? with
   | none=>rfl
   | some i=>simp only[];rw[linearise_go_acc];rfl
  rw[tk]at h ⊢;cases hr:(Region.ready md ops e9)[t%(Region.ready md ops e9).length]? with
  | none=>rw[hr]at h;simp at h
  | some q =>
   rw[hr]at h;simp only at h ⊢;obtain ⟨_,oq,hoq,hq⟩:=mem_ready.1 (zM hr);cases k with
   | zero =>
    simp at h;subst h;exact ⟨oq,hoq,λ e he hb => .inl (hq e he hb)⟩
   | succ k =>
    simp at h;obtain ⟨o,ho,hh⟩:=Tz ops md fuel _ _ (by simpa using hs) k i h;refine ⟨o,ho,λ e he hb => ?_⟩;rcases hh e he hb with h1|h1
    ·by_cases heq:e.on=q
     ·right;simp [heq]
     ·left
      rw[getD_set_ne false (Ne.symm heq)]at h1;exact h1
    ·right;simp [h1]
theorem rN {p:Nat->Bool} : ∀ (l:List Nat),(∃ i∈l,p i=false) -> ∃ k i,l[k]? = some i/\p i=false /\ ∀ j∈l.take k,p j=true
 | [],⟨i,hi,_⟩=>by simp at hi
 | x::r,⟨i,hi,hp⟩=>by
  cases hx:p x with
  | false=>exact ⟨0,x,rfl,hx,by simp⟩
  | true =>
   have : ∃ i∈r,p i=false:=by
    rcases List.mem_cons.1 hi with h|h
    ·subst h;rw[hx]at hp;cases hp
    ·exact ⟨i,h,hp⟩
   obtain ⟨k,j,h1,h2,h3⟩:=rN r this;refine ⟨k+1,j,by simpa using h1,h2,λ q hq => ?_⟩;simp only[List.take_succ_cons,List.mem_cons]at hq;rcases hq with h|h
   ·subst h;exact hx
   ·exact h3 q h
theorem progress {l:List AI} (hd:aQ ops l=true) (Hj:md = .gc->Region.departs ops=true) {e9:Array Bool} (hs:e9.size=ops.size) (hr:Region.ready md ops e9=[]) : ∀ j,j<ops.size->e9.getD j false=true:=by
 intro j hj;cases dm:e9.getD j false with
 | true=>rfl
 | false =>
  exfalso;simp only[aQ,Bool.and_eq_true]at hd;obtain ⟨⟨_,km⟩,xb⟩:=hd;have pt : ∀ i,i<ops.size->e9.getD i false=false -> ¬ ∀ o,ops[i]? = some o -> ∀ e∈o.after,Region.binds md e=true->e9.getD e.on false=true:=λ i hi hl mc=>by
   have:i∈Region.ready md ops e9:=mem_ready.2 ⟨by
    have:i<e9.size:=by omega
    simp [Array.getD,this]at hl ⊢;exact hl,ops[i],Array.getElem?_eq_getElem hi,λ e he hb=>mc ops[i] (Array.getElem?_eq_getElem hi) e he hb⟩
   rw[hr]at this;simp at this
  by_cases Gw:md = .gc
  ·subst Gw
   rw[Hj rfl]at xb;simp only[Bool.not_true,Bool.false_or,List.all_eq_true,List.mem_range,List.contains_iff_mem]at xb;obtain ⟨k,i,h1,h2,h3⟩:=rN (p:=λ q=>e9.getD q false) (Region.linearise .gc ops 0) ⟨j,xb j hj,dm⟩;obtain ⟨o,ho,hh⟩:=Tz ops .gc ops.size 0 (Array.replicate ops.size false) (by simp) k i h1;have hi:i<ops.size:=(Array.getElem?_eq_some_iff.1 ho).1;refine pt i hi h2 λ o' Ag e he hb => ?_
   rw[ho]at Ag;obtain rfl:o=o':=by simpa using Ag
   rcases hh e he hb with h4|h4
   ·simp [Array.getD]at h4
   ·exact h3 e.on h4
  ·obtain ⟨k,i,h1,h2,h3⟩:=rN (p:=λ q=>e9.getD q false) (List.range ops.size) ⟨j,by simpa using hj,dm⟩
   have pc:i=k:=by
    have qi:k<ops.size:=by have:=(zS h1).1;simpa using this
    rw[List.getElem?_range qi]at h1;simpa using h1.symm
   subst pc;have hi:i<ops.size:=by have:=(zS h1).1;simpa using this
   refine pt i hi h2 λ o ho e he hb => ?_
   rw[List.all_eq_true]at km;have jt:(o,i)∈ops.toList.zipIdx:=List.mem_zipIdx_iff_getElem?.2 (by simpa using ho);have h4:=km (o,i) jt;simp only[Array.all_eq_true_iff_forall_mem,Bool.or_eq_true,decide_eq_true_eq]at h4;rcases h4 e he with h5|h5
   ·exact h3 e.on (by rw[List.take_range];simp;omega)
   ·exfalso
    unfold Region.binds at hb;split at h5
    ·rename_i row xo
     rw[xo]at hb;simp at hb;exact Gw hb
    ·cases h5
variable {B:Nat} {S:Nat->Prop} {w0:World} {m0:M} {N:Nat}
variable {P:Program} {num:Nat->Nat} {C:Cl} {Q:Exit->Act->World->Prop}
def bR (e9:Array Bool) (n:Nat):Nat:=(List.range n).countP (λ j => !e9.getD j false)
theorem zB {α:Type} {p q:α->Bool} : ∀ {l:List α} {x:α},(∀ y∈l,q y=true->p y=true)->x∈l->p x=true->q x=false->l.countP q<l.countP p
 | [],x,_,hx,_,_=>by simp at hx
 | y::r,x,h,hx,hp,hq=>by
  have hle:r.countP q<=r.countP p:=List.countP_mono_left λ z hz hqz=>h z (by simp [hz]) hqz
  rw[List.countP_cons,List.countP_cons];rcases List.mem_cons.1 hx with rfl|hx
  ·simp only[hp,hq,if_true,Bool.false_eq_true,if_false]
   omega
  ·have:=zB (l:=r) (λ z hz=>h z (by simp [hz])) hx hp hq
   by_cases Oa:q y=true
   ·simp only[Oa,h y (by simp) Oa,if_true];omega
   ·simp only[Oa,Bool.false_eq_true,if_false]
    split<;>omega
theorem AnW (hC:G8 P num C) {l:List AI} (k8:YV P num N ops ops.toList l=true) {σ:Nat->St} {rs:List D5} (h:jP C ops l σ rs) (Hj:md = .gc->Region.departs ops=true)
  (hQ : ∀ m' a',m'.own=(σ l.length).own->FM B S w0 m0 N (j8 (σ l.length).tm) m' a'->Q .normal a' m'.w) :
  ∀ (fuel:Nat) (e9:Array Bool) (a:Act) (m:M),e9.size=ops.size->bR e9 ops.size<=fuel->cD ops (λ j=>e9.getD j false)->m.own=(DR (λ j=>e9.getD j false) rs 0 (d0 σ)).2->FM B S w0 m0 N (DR (λ j=>e9.getD j false) rs 0 (d0 σ)).1 m a->wpAny P md ops Q fuel e9 a m.w:=by
 have hlen:ops.size=l.length:=by have:=(iF k8).1;simpa using this
 have final : ∀ (e9:Array Bool) (a:Act) (m:M),(∀ j,j<ops.size->e9.getD j false=true)->m.own=(DR (λ j=>e9.getD j false) rs 0 (d0 σ)).2->FM B S w0 m0 N (DR (λ j=>e9.getD j false) rs 0 (d0 σ)).1 m a->Q .normal a m.w:=λ e9 a m mc m4 hf=>by
  have:DR (λ j=>e9.getD j false) rs 0 (d0 σ)=(j8 (σ l.length).tm,(σ l.length).own):=by
   rw[<-qN h l.length (Nat.le_refl _)];refine mC rs 0 _ λ i hi => ?_
   simp only[Nat.zero_add];rw[mc i (by rw[hlen,<-h.len];exact hi)];simp;rw[<-h.len];exact hi
  rw[this]at m4 hf;exact hQ m a m4 hf
 have Fl : ∀ e9:Array Bool,bR e9 ops.size<=0 -> ∀ j,j<ops.size->e9.getD j false=true:=λ e9 h0 j hj=>by
  have h1:bR e9 ops.size=0:=by omega
  unfold bR at h1;rw[List.countP_eq_zero]at h1;simpa using h1 j (by simpa using hj)
 intro fuel;induction fuel with
 | zero =>
  intro e9 a m y7 hn Mk m4 hf;refine ⟨?_,final e9 a m (Fl e9 hn) m4 hf⟩;cases hr:Region.ready md ops e9 with
  | nil=>rfl
  | cons i r =>
   obtain ⟨h1,o,ho,_⟩:=mem_ready.1 (show i∈Region.ready md ops e9 by rw[hr];simp);have hi:i<ops.size:=(Array.getElem?_eq_some_iff.1 ho).1;have h2:=Fl e9 hn i hi;have ak:i<e9.size:=by omega
   simp [Array.getD,ak]at h1 h2;rw[h1]at h2;cases h2
 | succ fuel ih =>
  intro e9 a m y7 hn Mk m4 hf;refine ⟨λ hr=>final e9 a m (progress h.ok Hj y7 hr) m4 hf,λ i hi => ?_⟩;obtain ⟨h1,o,ho,Dh⟩:=mem_ready.1 hi;have hio:i<ops.size:=(Array.getElem?_eq_some_iff.1 ho).1;have ak:i<e9.size:=by omega
  have tl:e9.getD i false=false:=by
   simp [Array.getD,ak]at h1 ⊢;exact h1
  have xd:i<l.length:=by omega
  have dp:i<rs.length:=by rw[h.len];exact xd
  have hx:l[i]? = some l[i]:=zE xd;have hr:rs[i]? = some rs[i]:=zE dp;have ft : ∀ o',ops[i]? = some o' -> ∀ e∈o'.after,Region.binds .any e=true->e9.getD e.on false=true:=λ o' Ag e he hb=>by
   rw[ho]at Ag;obtain rfl:o=o':=by simpa using Ag
   exact Dh e he (Agb hb md)
  obtain ⟨g1,g2,g3,g4⟩:=Aii h hx hr Mk tl ft;have Nu:=(iF k8).2 i o l[i] (by simpa using ho) hx;have yl : ∀ j,(e9.setIfInBounds i true).getD j false=(decide (j=i)||e9.getD j false):=λ j=>by
   by_cases Nc:j=i
   ·subst Nc;simp [Array.getD,ak]
   ·rw[getD_set_ne false (Ne.symm Nc)];simp [Nc]
  refine Zu hC ho Nu hf g1 (λ hg=>by rw[m4];exact g2 hg) λ m' a' my oy => ?_
  have np:=g4 _ yl;refine ih (e9.setIfInBounds i true) a' m' (by simpa using y7) ?_ ?_ ?_ ?_
  ·have m7:bR (e9.setIfInBounds i true) ops.size<bR e9 ops.size:=by
    refine zB (x:=i) (λ j _ hj => ?_) (by simpa using hio) (by simp [tl]) (by rw[yl];simp);rw[yl]at hj;simp at hj ⊢;exact hj.2
   omega
  ·intro j oj hj Jv e he hb
   change (e9.setIfInBounds i true).getD j false=true at hj;show (e9.setIfInBounds i true).getD e.on false=true;rw[yl]at hj ⊢;simp only[Bool.or_eq_true,decide_eq_true_eq]at hj ⊢;rcases hj with rfl|hj
   ·exact .inr (ft oj Jv e he hb)
   ·exact .inr (Mk j oj hj Jv e he hb)
  ·rw[np,my,m4]
   rfl
  ·rw[np]
   rw[m4,g3]at oy;have hd:(l[i]).dst=(rs[i]).d:=(h.fits i _ _ hx hr).d.symm;rw[hd]at oy;exact oy
theorem AnX (hC:G8 P num C) {id:Nat} {l:List AI} (k8:YV P num N ops ops.toList l=true) (hd:aQ ops l=true) {st l7:St} (l9:DC C l st=some l7) {m:M} {a:Act} (m4:m.own=st.own) (hf:FM B S w0 m0 N (j8 st.tm) m a)
  (hQ : ∀ m' a',m'.own=l7.own->FM B S w0 m0 N (j8 l7.tm) m' a'->Q .normal a' m'.w):(Code.region id ops true).wp P Q a m.w:=by
 obtain ⟨σ,rs,h0,h1,hl,h2⟩:=trace l9;have hD:jP C ops l σ rs:=⟨hd,hl,h2⟩;obtain ⟨mi,Dg⟩:=grow hf.mem ((Below.refl m.w.heap.size m.w).drew);have wx:FM B S w0 m0 N (j8 st.tm) ⟨m.ν,m.own,m.w.drew⟩ a:=⟨mi,hf.ext.trans Dg,λ i=>Dg.cv (hf.tm i),hf.size,hf.defers⟩;have Ej:DR (λ j=>(Array.replicate ops.size false).getD j false) rs 0 (d0 σ)=d0 σ:=rT rs 0 _ λ i _=>by simp [Array.getD]
 have key : ∀ md:Region.Mode,(md = .gc->Region.departs ops=true) -> ∀ t,wpOps P ops Q (Region.linearise md ops t) a m.w.drew:=λ md Hj t=>by
  refine wpAny_sound ops.size t (Array.replicate ops.size false) a m.w.drew ?_;refine AnW hC k8 hD Hj (by rw[h1];exact hQ) ops.size _ a ⟨m.ν,m.own,m.w.drew⟩ (by simp) ?_ ?_ ?_ ?_
  ·unfold bR
   exact Nat.le_trans List.countP_le_length (by simp)
  ·intro j o hj
   simp [Array.getD]at hj
  ·rw[Ej];simp [d0,h0,m4]
  ·rw[Ej];simpa [d0,h0] using wx
 refine wp_region_draw λ t => ?_
 change wpOps P ops Q _ a m.w.drew;unfold Region.schedule;split
 ·exact key .any (λ h=>by cases h) t
 ·rename_i Gr
  have hdp:Region.departs ops=true:=by simp at Gr;exact Gr.2
  split
  ·exact key .text (λ_=>hdp) _
  ·exact key .gc (λ_=>hdp) _
end
end Go.e8

namespace Go.e8
open Go.RowKit
section
variable {B:Nat} {S:Nat->Prop} {w0:World} {m0:M} {N:Nat}
variable {P:Program} {num:Nat->Nat} {C:Cl}
theorem AnB (m:Tm) (l:List Nat) (j:Nat):j8 (bq m l) j=j8 m j\/j8 (bq m l) j = .any:=by
 induction m with
 | nil=>exact .inl rfl
 | cons x r ih =>
  obtain ⟨i,v⟩:=x;simp only[bq];split
  ·by_cases h:j=i
   ·subst h
    rename_i hc;right
    clear ih;induction r with
    | nil=>rfl
    | cons y q ih =>
     obtain ⟨k,u⟩:=y;simp only[bq];split
     ·exact ih
     ·rename_i hk
      have : ¬ j=k:=λ e=>by subst e;exact hk hc
      simp only[j8,if_neg this];exact ih
   ·rcases ih with h1|h1
    ·left;simp only[j8,if_neg h];exact h1
    ·right;exact h1
  ·by_cases h:j=i
   ·left;simp [j8,h]
   ·simp only[j8,if_neg h]
    exact ih
inductive IQ (P:Program) (num:Nat->Nat) (N:Nat):List It->List Item->Prop
 | nil:IQ P num N [] []
 | code {c:Code} {a:BH} {k:List It} {t:List Item} (h:EZ P num N c a=true) (hk:IQ P num N k t):IQ P num N (.code a::k) (.code c::t)
 | drop {ts ss:List Nat} {k:List It} {t:List Item} (hk:IQ P num N k t):IQ P num N (.mr ts ss::k) t
 | j5 {id:Nat} {k:List It} {t:List Item} (hk:IQ P num N k t):IQ P num N (.j5 id::k) (.inBlock id::t)
 | lp {c:Code} {a:BH} {k:List It} {t:List Item} (h:EZ P num N c a=true) (hk:IQ P num N k t):IQ P num N (.lp a::k) (.inLoop c::t)
 | scope {c:Code} {k:List It} {t:List Item} (hk:IQ P num N k t):IQ P num N k (.inScope c::t)
theorem Yd {b:Frame} {a:Act} {k:List Item} {cs:List Frame} {w:World} {c:Code}:step P (lone (b.at a (.inScope c::k)) cs w) = .next (lone (b.at a k) cs w) :=
 step_lone_go (by simp [stepG,stepG.exec,Frame.at])
theorem Ans {b:Frame} {a:Act} {k:List Item} {cs:List Frame} {w:World} {c:Code}:step P (lone (b.at a (.code (.scope c)::k)) cs w) = .next (lone (b.at a (.code c :: .inScope c::k)) cs w) :=
 step_lone_go (by simp [stepG,stepG.exec,Frame.at])
theorem dF {id:Nat} : ∀ {k:List It} {t:List Item},IQ P num N k t -> ∀ {k':List It},DX id k=some k' -> ∃ t',exitTo id t=some t'/\IQ P num N k' t'
 | _,_,.nil,k',h=>by simp [DX]at h
 | _,_,.code h0 hk,k',h=>by
  simp only[DX]at h;obtain ⟨t',h1,h2⟩:=dF hk h;exact ⟨t',by simpa [exitTo] using h1,h2⟩
 | _,_,.drop hk,k',h=>by
  simp only[DX]at h;exact dF hk h
 | _,_,.j5 (id:=Ki) hk,k',h=>by
  simp only[DX]at h;split at h
  ·rename_i he
   subst he;simp only[Option.some.injEq]at h;subst h;exact ⟨_,by simp [exitTo],hk⟩
  ·rename_i he
   obtain ⟨t',h1,h2⟩:=dF hk h;exact ⟨t',by simpa [exitTo,he] using h1,h2⟩
 | _,_,.lp h0 hk,k',h=>by
  simp only[DX]at h;obtain ⟨t',h1,h2⟩:=dF hk h;exact ⟨t',by simpa [exitTo] using h1,h2⟩
 | _,_,.scope hk,k',h=>by
  obtain ⟨t',h1,h2⟩:=dF hk h;exact ⟨t',by simpa [exitTo] using h1,h2⟩
def wH (B:Nat) (S:Nat->Prop) (w0:World) (m0:M) (N:Nat) (P:Program) (b:Frame) (cs:List Frame) (Pw:Machine) (l7:St):Prop :=
 ∃ a' m' n8,Steps P Pw (lone { b.at a' n8 with mode := .returning } cs m'.w)/\m'.own=l7.own/\FM B S w0 m0 N (j8 l7.tm) m' a'
theorem AmS (hC:G8 P num C) (b:Frame) (cs:List Frame) : ∀ (n:Nat) (k:List It) (st l7:St),run C n k st=some l7 -> ∀ (t:List Item),IQ P num N k t -> ∀ (m:M) (a:Act),m.own=st.own->FM B S w0 m0 N (j8 st.tm) m a ->
  wH B S w0 m0 N P b cs (lone (b.at a t) cs m.w) l7:=by
 intro n;induction n with
 | zero=>intro k st l7 h;simp [run]at h
 | succ n ih =>
  intro k st l7 h t ht;have fin : ∀ (t:List Item),IQ P num N [] t -> ∀ (m:M) (a:Act),m.own=st.own->FM B S w0 m0 N (j8 st.tm) m a->st=l7->wH B S w0 m0 N P b cs (lone (b.at a t) cs m.w) l7:=by
   intro t ht;generalize hk:([]:List It)=kk at ht;induction ht with
   | nil =>
    intro m a m4 hf he;subst he;exact ⟨a,m,[],.one step_end,m4,hf⟩
   | scope jy qo =>
    intro m a m4 hf he;obtain ⟨a',m',n8,h1,h2⟩:=qo hk m a m4 hf he;exact ⟨a',m',n8,.head Yd h1,h2⟩
   | code=>cases hk
   | drop=>cases hk
   | j5=>cases hk
   | lp=>cases hk
  cases k with
  | nil =>
   intro m a m4 hf;simp only[run,Option.some.injEq]at h;exact fin t ht m a m4 hf h
  | cons it k =>
   generalize gk:it::k=kk at ht;induction ht with
   | nil=>cases gk
   | scope jy qo =>
    intro m a m4 hf;obtain ⟨a',m',n8,h1,h2⟩:=qo gk m a m4 hf;exact ⟨a',m',n8,.head Yd h1,h2⟩
   | @j5 id k2 t2 jy qo =>
    intro m a m4 hf;obtain ⟨rfl,rfl⟩:it = .j5 id/\k=k2:=by simpa using gk
    simp only[run]at h;obtain ⟨a',m',n8,h1,h2⟩:=ih k st l7 h t2 jy m a m4 hf;exact ⟨a',m',n8,.head step_inBlock h1,h2⟩
   | @lp c ac k2 t2 k8 jy qo =>
    intro m a m4 hf;obtain ⟨rfl,rfl⟩:it = .lp ac/\k=k2:=by simpa using gk
    simp only[run]at h;obtain ⟨a',m',n8,h1,h2⟩:=ih _ st l7 h (.code c :: .inLoop c::t2) (.code k8 (.lp k8 jy)) m a m4 hf;exact ⟨a',m',n8,.head step_inLoop h1,h2⟩
   | @drop ts ss k2 t2 jy qo =>
    intro m a m4 hf;obtain ⟨rfl,rfl⟩:it = .mr ts ss/\k=k2:=by simpa using gk
    simp only[run]at h;obtain ⟨oe,he⟩:=Aik hf.mem ss;have oy:FM B S w0 m0 N (j8 (bq st.tm ts)) ⟨m.ν,m.own.drop ss,m.w⟩ a:=⟨oe,hf.ext.trans he,λ i=>by
     rcases AnB st.tm ts i with h1|h1
     ·rw[h1];exact he.cv (hf.tm i)
     ·rw[h1];exact .any _,hf.size,hf.defers⟩
    obtain ⟨a',m',n8,h1,h2,h3⟩:=ih k ⟨bq st.tm ts,st.own.drop ss⟩ l7 h t2 jy ⟨m.ν,m.own.drop ss,m.w⟩ a (by simp [m4]) oy;exact ⟨a',m',n8,h1,h2,h3⟩
   | @code c ac k2 t2 k8 jy qo =>
    obtain ⟨rfl,rfl⟩:it = .code ac/\k=k2:=by simpa using gk
    clear qo gk;intro m a m4 hf;cases ac with
    | dr ac ts ss =>
     simp only[EZ]at k8;simp only[run]at h;exact ih _ st l7 h _ (.code k8 (.drop jy)) m a m4 hf
    | skip =>
     simp only[run]at h;cases c with
     | skip =>
      obtain ⟨a',m',n8,h1,h2⟩:=ih _ st l7 h _ jy m a m4 hf;exact ⟨a',m',n8,.head step_skip h1,h2⟩
     | label =>
      obtain ⟨a',m',n8,h1,h2⟩:=ih _ st l7 h _ jy m a m4 hf;exact ⟨a',m',n8,.head step_label h1,h2⟩
     | _=>simp [EZ]at k8
    | scope ac =>
     simp only[run]at h;cases c with
     | scope c =>
      simp only[EZ]at k8;obtain ⟨a',m',n8,h1,h2⟩:=ih _ st l7 h _ (.code k8 (.scope (c:=c) jy)) m a m4 hf;exact ⟨a',m',n8,.head Ans h1,h2⟩
     | _=>simp [EZ]at k8
    | seq a1 a2 =>
     simp only[run]at h;cases c with
     | seq c1 c2 =>
      simp only[EZ,Bool.and_eq_true]at k8;obtain ⟨a',m',n8,h1,h2⟩:=ih _ st l7 h _ (.code k8.1 (.code k8.2 jy)) m a m4 hf;exact ⟨a',m',n8,.head step_seq h1,h2⟩
     | _=>simp [EZ]at k8
    | cond x a1 a2 =>
     simp only[run]at h;cases c with
     | cond xc c1 c2 =>
      simp only[EZ,Bool.and_eq_true]at k8;have af:CV B S m (st.ev x) (a.eval xc):=by rw[Qx];exact hf.says xc x k8.1.1
      split at h
      ·rename_i hx
       rw[hx]at af;obtain ⟨a',m',n8,h1,h2⟩:=ih _ st l7 h _ (.code k8.1.2 jy) m a m4 hf;exact ⟨a',m',n8,.head (step_cond (aP af)) h1,h2⟩
      ·rename_i hx
       rw[hx]at af;obtain ⟨a',m',n8,h1,h2⟩:=ih _ st l7 h _ (.code k8.2 jy) m a m4 hf;exact ⟨a',m',n8,.head (step_cond (aP af)) h1,h2⟩
      ·cases h
     | _=>simp [EZ]at k8
    | block id ac =>
     simp only[run]at h;cases c with
     | block Ki c =>
      simp only[EZ,Bool.and_eq_true,beq_iff_eq]at k8;obtain ⟨rfl,k8⟩:=k8;obtain ⟨a',m',n8,h1,h2⟩:=ih _ st l7 h _ (.code k8 (.j5 jy)) m a m4 hf;exact ⟨a',m',n8,.head step_block h1,h2⟩
     | _=>simp [EZ]at k8
    | loop ac =>
     simp only[run]at h;cases c with
     | loop c =>
      simp only[EZ]at k8;obtain ⟨a',m',n8,h1,h2⟩:=ih _ st l7 h _ (.code k8 (.lp k8 jy)) m a m4 hf;exact ⟨a',m',n8,.head step_loop h1,h2⟩
     | _=>simp [EZ]at k8
    | exit id =>
     simp only[run]at h;cases c with
     | exit Ki =>
      simp only[EZ,beq_iff_eq]at k8;subst k8;split at h
      ·rename_i k' ln
       obtain ⟨t',e1,e2⟩:=dF jy ln;obtain ⟨a',m',n8,h1,h2⟩:=ih _ st l7 h _ e2 m a m4 hf;exact ⟨a',m',n8,.head (step_exit e1) h1,h2⟩
      ·cases h
     | _=>simp [EZ]at k8
    | ret =>
     simp only[run,Option.some.injEq]at h;subst h;cases c with
     | ret=>exact ⟨a,m,.code .ret::t2,.one step_ret,m4,hf⟩
     | _=>simp [EZ]at k8
    | ops l draw =>
     simp only[run]at h;split at h
     ·rename_i A7 Ih
      cases c with
      | region id ops tc =>
       simp only[EZ,Bool.and_eq_true,beq_iff_eq]at k8;obtain ⟨⟨rfl,Hn⟩,rj⟩:=k8;have hwp:(Code.region id ops tc).wp P (λ e a' w'=>e = .normal /\ ∃ m',m'.w=w'/\m'.own=A7.own/\FM B S w0 m0 N (j8 A7.tm) m' a') a m.w:=by
        cases tc with
        | true=>exact AnX hC Hn (by simpa using rj) Ih m4 hf λ m' a' h1 h2=>⟨rfl,m',rfl,h1,h2⟩
        | false =>
         refine wp_region ?_;rw[List.range_eq_range'];exact Zv hC Hn ops.size 0 st A7 m a (by omega) (by simpa using Ih) m4 hf λ m' a' h1 h2=>⟨rfl,m',rfl,h1,h2⟩
       obtain ⟨e,a1,w1,⟨rfl,m1,rfl,Ho,wx⟩,Lz⟩:=hwp b t2 cs;obtain ⟨a',m',n8,h1,h2,h3⟩:=ih _ A7 l7 h _ jy m1 a1 Ho wx;exact ⟨a',m',n8,Steps.trans Lz h1,h2,h3⟩
      | _=>simp [EZ]at k8
     ·cases h
end
end Go.e8

namespace Go.e8
open Go.RowKit
section
variable {P:Program} {num:Nat->Nat} {L:Lib}
def ProgOK (P : Program) (num : Nat → Nat) (L : Lib) : Prop := (∀ f fa, L f = some fa → ∃ fn, P.funcs[num f]? = some fn ∧ okFn P num fn fa = true ∧ (fn.name == "runtime.NumGoroutine") = false) ∧ L.num = num
theorem Vc : ∀ (args:List AV) (k i:Nat),j8 (C0 k args) i=if k<=i then (match args[i-k]? with|some v=>v|none => .any) else .any
 | [],k,i=>by simp [C0,j8]
 | v::r,k,i=>by
  simp only[C0,j8];by_cases h:i=k
  ·subst h;simp
  ·rw[if_neg h,Vc r (k+1) i]
   by_cases h2:k<=i
   ·rw[if_pos h2,if_pos (by omega)]
    have:i-k=(i-(k+1))+1:=by omega
    rw[this];simp
   ·rw[if_neg h2,if_neg (by omega)]
section
variable {B:Nat} {S:Nat->Prop} {w0:World} {m0:M} {N:Nat}
def nD (tmps:Array Value):ResultVar->Sem Value
 | .tmp t=>pure (tmps.getD t undef)
 | .cell x t=>do loadVar t (<-asAddr (tmps.getD x undef))
theorem Agf {m:M} {x v:AV} {u:Value} (h:JS x=some v) (af:CV B S m x u):CA B S m v u:=by
 cases af with
 | any=>simp [JS]at h
 | j9=>simp [JS]at h
 | ca hc =>
  have:x=v:=by
   cases hc with
   | one hc=>cases hc with
    | rd hr=>cases hr<;>simpa [JS] using h
    | _=>simpa [JS] using h
   | fn=>simpa [JS] using h
   | ve=>simpa [JS] using h
   | agg=>simpa [JS] using h
  subst this;exact hc
theorem uP {m:M} {a:Act} {st:St} (hf:FM B S w0 m0 N (j8 st.tm) m a) (m4:m.own=st.own) : ∀ {rv:List ResultVar} {ra:List KE} {vs:List AV},UO P rv ra=true->ra.mapM (E8 st)=some vs ->
  ∃ us:List Value,(rv.mapM (nD a.tmps)).run P m.w = .ok us m.w/\vs.length=us.length /\ ∀ (j:Nat) (c:AV) (v:Value),vs[j]? = some c->us[j]? = some v->CA B S m c v
 | [],[],vs,_,h=>by
  simp at h;subst h;exact ⟨[],by simp,rfl,λ j c v hc=>by simp at hc⟩
 | .tmp t::r,.tmp t'::l,vs,k8,h=>by
  simp only[UO,Bool.and_eq_true,beq_iff_eq]at k8;obtain ⟨rfl,k8⟩:=k8;simp only[List.mapM_cons,Option.bind_eq_bind,Option.pure_def]at h;cases hv:E8 st (.tmp t) with
  | none=>simp [hv]at h
  | some v =>
   cases hr:l.mapM (E8 st) with
   | none=>simp [hv,hr]at h
   | some vr =>
    simp [hv,hr]at h;subst h;obtain ⟨us,h1,h2,h3⟩:=uP hf m4 k8 hr;have af:=hf.tm t;have od:CA B S m v (a.tmps.getD t undef):=Agf hv af;refine ⟨a.tmps.getD t undef::us,?_,by simp [h2],λ j c u hc hu => ?_⟩
    ·simp only[List.mapM_cons,Sem.run_bind,nD,Sem.run_pure,Result.andThen_ok,h1]
    ·cases j with
     | zero =>
      obtain rfl:v=c:=by simpa using hc
      obtain rfl:a.tmps.getD t undef=u:=Option.some.inj hu;exact od
     | succ j=>exact h3 j c u (by simpa using hc) (by simpa using hu)
 | .cell x t::r,.cell x' agg n::l,vs,k8,h=>by
  simp only[UO,Bool.and_eq_true,beq_iff_eq]at k8;obtain ⟨⟨⟨rfl,iv⟩,hn⟩,k8⟩:=k8;simp only[List.mapM_cons,Option.bind_eq_bind,Option.pure_def]at h;cases hv:E8 st (.cell x agg n) with
  | none=>simp [hv]at h
  | some v =>
   cases hr:l.mapM (E8 st) with
   | none=>simp [hv,hr]at h
   | some vr =>
    simp [hv,hr]at h;subst h;obtain ⟨us,h1,h2,h3⟩:=uP hf m4 k8 hr;have af:=hf.tm x;simp only[E8]at hv;split at hv
    ·rename_i s u i j hx
     rw[hx]at af;split at hv
     ·rename_i cs jx
      rw[<-m4]at jx;obtain ⟨ad,ck,ht,hb⟩:=fY af;obtain ⟨b,g,arr,e,q6,hg,dh,mn,o4,jo⟩:=Xn hf.mem jx;obtain ⟨Azs,ku⟩:=iD hv o4;have hld:=uR (P:=P) t agg n (kG (by simpa using iv)) (by
       cases agg
       ·simpa using hn
       ·exact QT (by simpa using hn)) ad dh mn m.w (λ q u' hq=>by
       have m7:q<dh.length:=(zS hq).1;obtain ⟨Ac,lk⟩:=hg (by omega);obtain ⟨g',ga,rfl⟩:=hb b q6;obtain rfl:g=g':=by rw[Ac]at ga;simpa using ga
       rw[HP,kQ lk];exact jo q u' hq)
      have Nj:(nD a.tmps (.cell x t)).run P m.w = .ok (if agg then .agg dh.toArray else dh.getD 0 undef) m.w:=by
       show (do loadVar t (<-asAddr (a.tmps.getD x undef)):Sem Value).run P m.w=_;rw[ck];simpa [asAddr,Instr.loadAt,Instr.sureAddr] using hld
      have od:CA B S m v (if agg then .agg dh.toArray else dh.getD 0 undef):=by
       unfold JC at hv;cases agg with
       | true =>
        simp only[if_true,Option.some.injEq]at hv;subst hv;exact .agg cs dh o4
       | false =>
        simp only[Bool.false_eq_true,if_false]at hv ⊢;split at hv
        ·rename_i c
         simp only[Option.some.injEq]at hv;subst hv;obtain ⟨u',nq,aw⟩:=cQ o4 (j:=0) (c:=c) rfl;simp only[List.getD,nq,Option.getD_some];exact .one aw
        ·cases hv
      refine ⟨(if agg then .agg dh.toArray else dh.getD 0 undef)::us,?_,by simp [h2],λ j' c u' hc hu => ?_⟩
      ·rw[List.mapM_cons,Sem.run_bind,Nj,Result.andThen_ok,Sem.run_bind,h1,Result.andThen_ok]
       rfl
      ·cases j' with
       | zero =>
        obtain rfl:v=c:=by simpa using hc
        obtain rfl:=Option.some.inj hu;exact od
       | succ j'=>exact h3 j' c u' (by simpa using hc) (by simpa using hu)
     ·cases hv
    ·cases hv
 | [],_::_,_,k8,_=>by simp [UO]at k8
 | .tmp _::_,[],_,k8,_=>by simp [UO]at k8
 | .cell _ _::_,[],_,k8,_=>by simp [UO]at k8
 | .tmp _::_,.cell _ _ _::_,_,k8,_=>by simp [UO]at k8
 | .cell _ _::_,.tmp _::_,_,k8,_=>by simp [UO]at k8
end
theorem xV (hP:ProgOK P num L) {f:Nat} {fa:AFn} (hL:L f=some fa) (us:Array Value) (w:World):(callFunc (num f) us).run P w = .ok (.enter (num f) us) w:=by
 obtain ⟨fn,h1,h2,h3⟩:=hP.1 f fa hL;have hb:fn.body.isNone=false:=by
  simp only[okFn,Bool.and_eq_true]at h2;cases hbd:fn.body with
  | none=>rw[hbd]at h2;simp at h2
  | some c=>rfl
 unfold callFunc;simp only[Sem.run_bind,run_program,Result.andThen_ok,h1,h3,hb,Bool.false_eq_true,if_false,Sem.run_pure]
theorem Tb (hP:ProgOK P num L) {n:Nat} (hC:G8 P num (C3 L n)) {f:Nat} {vs:List AV} {own:AH} {r:AV} {n0:AH} (h:DQ L (n+1) f vs own=some (r,n0)) (B:Nat) (S:Nat->Prop) (w0:World) (m:M) (us:List Value) (m4:m.own=own) (hm:BP B S w0 m) (hl:vs.length=us.length)
  (af : ∀ (j:Nat) (c:AV) (v:Value),vs[j]? = some c->us[j]? = some v->CV B S m c v) :
  Calls P (num f) us.toArray m.w λ e w' => ∃ u m',e = .returned u/\m'.w=w'/\m'.own=n0/\BP B S w0 m'/\DM B S m m'/\CV B S m' r u:=by
 rw[gE]at h;cases hL:L f with
 | none=>simp [hL]at h
 | some fa =>
  simp only[hL]at h;split at h
  ·rename_i Hq
   split at h
   ·rename_i st u6
    split at h
    ·rename_i rvs rl
     simp only[Option.some.injEq,Prod.mk.injEq]at h;obtain ⟨rfl,rfl⟩:=h;obtain ⟨fn,h1,h2,h3⟩:=hP.1 f fa hL;simp only[okFn,Bool.and_eq_true,beq_iff_eq,decide_eq_true_eq]at h2;obtain ⟨⟨⟨h4,h5⟩,h6⟩,h7⟩:=h2;split at h7
     ·rename_i c hc
      intro cs;have Di:Frame.enter P (num f) us.toArray .normal=({ (default:Frame) with fn:=num f,kind := .normal }:Frame).at { tmps:=us.toArray++Array.replicate (fn.ntmps-us.toArray.size) undef,defers:=[] } [.code c]:=by
       simp [Frame.enter,Frame.at,h1,hc]
      have y7:us.length=fa.cu:=by rw[<-hl];exact Hq
      have Mq:FM B S w0 m fn.ntmps (j8 (C0 0 vs)) m { tmps:=us.toArray++Array.replicate (fn.ntmps-us.toArray.size) undef,defers:=[] }:=by
       refine ⟨hm,DM.refl m,λ i => ?_,by simp;omega,rfl⟩;rw[Vc];simp only[Nat.zero_le,if_true,Nat.sub_zero];cases Pk:vs[i]? with
       | none=>exact .any _
       | some v =>
        have hi:i<us.length:=by rw[<-hl];exact (zS Pk).1
        have q6:(us.toArray++Array.replicate (fn.ntmps-us.toArray.size) undef).getD i undef=us[i]:=by
         rw[Array.getD_eq_getD_getElem?,Array.getElem?_append_left (by simpa using hi)];simp [hi]
        simp only[q6];exact af i v us[i] Pk (zE hi)
      obtain ⟨a',m',n8,Dy,my,oy⟩:=AmS (m0:=m) hC { (default:Frame) with fn:=num f,kind := .normal } cs n [.code fa.body] ⟨C0 0 vs,own⟩ st u6 [.code c] (.code h7 .nil) m _ m4 Mq;obtain ⟨zj,hu1,Ff,hu3⟩:=uP (P:=P) oy my h6 rl;have Ai:(results fn a'.tmps).run P m'.w = .ok (if h:zj.length=1 then zj[0] else .tuple zj.toArray) m'.w:=by
       have hr:results fn a'.tmps=(do let vs <-fn.results.mapM (nD a'.tmps);pure (if h:vs.size=1 then vs[0] else .tuple vs)):=rfl;rw[hr,Sem.run_bind,Array.mapM_eq_mapM_toList];simp [hu1]
      refine ⟨.returned (if h:zj.length=1 then zj[0] else .tuple zj.toArray),m'.w,_,⟨_,m',rfl,rfl,my,oy.mem,oy.ext,?_⟩,by rw[Di];exact Dy,rfl,rfl,oy.defers,rfl,fn,h1,Ai⟩;unfold IH;split
      ·rename_i v
       have ua:zj.length=1:=by rw[<-Ff];rfl
       rw[dif_pos ua];exact .ca (hu3 0 v zj[0] rfl (zE (by omega)))
      ·rename_i m9
       have ua : ¬ zj.length=1:=λ e=>by
        rw[<-Ff]at e;cases rvs with
        | nil=>simp at e
        | cons q qs=>cases qs with
         | nil=>exact m9 q rfl
         | cons=>simp at e
       rw[dif_neg ua];exact .j9 rvs zj Ff hu3
     ·cases h7
    ·cases h
   ·cases h
  ·cases h
theorem AlI (S:Nat->Prop) (w:World):BP w.heap.size S w ⟨λ_ _=>none,AH.emp,w⟩ :=
 ⟨Below.refl _ _,Nat.le_refl _,λ_ _ _=>rfl,λ s t b h=>by simp [AH.get,AH.emp]at h,λ s t s' t' b b' g h=>by simp [AH.get,AH.emp]at h⟩
theorem Qp {n f:Nat} {vs:List AV} {own:AH} {r:AV × AH} (h:DQ L n f vs own=some r) : ∃ fa,L f=some fa:=by
 cases n with
 | zero=>simp [DQ]at h
 | succ n =>
  rw[gE]at h;cases hL:L f with
  | none=>simp [hL]at h
  | some fa=>exact ⟨fa,rfl⟩
theorem tX {n f:Nat} {vs:List AV} {r:AV} (h:JJ (λ vs=>DQ L n f vs AH.emp) vs=some r) : ∃ r0 o,DQ L n f vs AH.emp=some (r0,o)/\Z2 o false r0=some r/\A0 r:=by
 unfold JJ at h;cases he:DQ L n f vs AH.emp with
 | none=>simp [he]at h
 | some x =>
  obtain ⟨r0,o⟩:=x;simp only[he]at h;split at h
  ·rename_i r' hr
   split at h
   ·rename_i hc
    simp only[Option.some.injEq]at h;subst h;exact ⟨r0,o,rfl,hr,hc⟩
   ·cases h
  ·cases h
theorem qU {n f:Nat} {vs:List AV} {r:AV} (h:HC L n f vs=some r) : ∃ dh,∃ x,DQ L n f dh AH.emp=some x:=by
 unfold HC QG at h;split at h
 ·split at h
  ·rename_i r1 r2 h1 h2
   obtain ⟨r0,o,h3,_⟩:=tX h1;exact ⟨_,_,h3⟩
  ·cases h
 ·obtain ⟨r0,o,h3,_⟩:=tX h
  exact ⟨_,_,h3⟩
theorem tY (hP:ProgOK P num L) {n:Nat} (ih:G8 P num (C3 L n)) {f:Nat} {vs:List AV} {r:AV} (h:JJ (λ vs=>DQ L (n+1) f vs AH.emp) vs=some r) (S:Nat->Prop) (w:World) (us:List Value) (hl:vs.length=us.length)
  (od : ∀ (j:Nat) (c:AV) (v:Value),vs[j]? = some c->us[j]? = some v->CA w.heap.size S ⟨λ_ _=>none,AH.emp,w⟩ c v) :
  Calls P (num f) us.toArray w λ e w' => ∃ u,e = .returned u/\Below w.heap.size w w'/\CV w.heap.size S ⟨λ_ _=>none,AH.emp,w'⟩ r u/\A0 r:=by
 obtain ⟨r0,o,h1,h2,h3⟩:=tX (L:=L) h;refine Calls.mono (Tb hP ih h1 w.heap.size S w ⟨λ_ _=>none,AH.emp,w⟩ us rfl (AlI S w) hl λ j c v hc hv => .ca (od j c v hc hv)) λ e w' ⟨u,m',he,hw,m4,oe,_,af⟩ => ?_
 subst hw;refine ⟨u,he,oe.below,?_,h3⟩;refine DV.cv (m:=⟨λ_ _=>none,AH.emp,m'.w⟩) (Ang oe false (safe w.heap.size S ⟨λ_ _=>none,AH.emp,m'.w⟩) (λ l b hb hs => ?_) (λ s t g mg hg => ?_) (by rw[m4];exact h2) af)
 ·rcases hs with h|⟨h,_⟩|h
  ·exact .inl h
  ·exact .inr (.inl ⟨h,λ s t mg=>by simp [AH.get,AH.emp]at mg⟩)
  ·exact .inr (.inr h)
 ·exact .inr (.inl ⟨(oe.ge mg hg).1,λ s t mg=>by simp [AH.get,AH.emp]at mg⟩)
theorem Agg (hP:ProgOK P num L) : ∀ n,G8 P num (C3 L n):=by
 intro n;induction n with
 | zero =>
  exact ⟨λ f vs r h=>by obtain ⟨dh,x,h1⟩:=qU (L:=L) (n:=0) (f:=f) (vs:=vs) (r:=r) h;simp [DQ]at h1,λ f vs own r h=>by change DQ L 0 f vs own=some r at h;simp [DQ]at h,
   λ f vs r h=>by obtain ⟨dh,x,h1⟩:=qU (L:=L) (n:=0) (f:=f) (vs:=vs) (r:=r) h;simp [DQ]at h1,λ f vs own r n0 h=>by change DQ L 0 f vs own=_ at h;simp [DQ]at h,hP.2⟩
 | succ n ih =>
  refine ⟨λ f vs r h us w => ?_,λ f vs own r h us w => ?_,λ f vs r h S w us hl od => ?_,λ f vs own r n0 h B S w0 m us m4 hm hl af=>Tb hP ih h B S w0 m us m4 hm hl af,hP.2⟩
  ·obtain ⟨dh,x,h1⟩:=qU (L:=L) h
   obtain ⟨fa,hL⟩:=Qp h1;exact xV hP hL us w
  ·obtain ⟨fa,hL⟩:=Qp (L:=L) h
   exact xV hP hL us w
  ·have h:QG (L.sn f) (λ vs=>DQ L (n+1) f vs AH.emp) vs=some r:=h
   unfold QG at h;split at h
   ·rename_i q dh _ _
    split at h
    ·rename_i r1 r2 h1 h2
     split at h
     ·rename_i e
      subst e;obtain rfl:=Option.some.inj h;cases us with
      | nil=>simp at hl
      | cons u us =>
       have h0:=od 0 _ u rfl rfl;have hu : ∃ a cap,u = .slice a 0 cap:=by
        cases h0 with
        | one h0=>cases h0 with
         | rd h0=>cases h0 with
          | kz l a cap=>exact ⟨a,cap,rfl⟩
          | sl l es b o c6 cap u m9=>exact absurd rfl m9
       obtain ⟨a,cap,rfl⟩:=hu;have key : ∀ b,a.isNone=b -> ∀ (j:Nat) (c:AV) (v:Value),(AV.ep (.bool b)::dh)[j]? = some c->(Value.slice a 0 cap::us)[j]? = some v->CA w.heap.size S ⟨λ_ _=>none,AH.emp,w⟩ c v:=λ b hb j c v hc hv=>by
        cases j with
        | zero =>
         obtain rfl:=Option.some.inj hc;obtain rfl:=Option.some.inj hv;exact .one (.rd (.emp b a cap hb))
        | succ j=>exact od (j+1) c v hc hv
       cases hb:a.isNone with
       | true=>exact tY hP ih h1 S w _ (by simpa using hl) (key true hb)
       | false=>exact tY hP ih h2 S w _ (by simpa using hl) (key false hb)
     ·cases h
    ·cases h
   ·exact tY hP ih h S w us hl od
end
end Go.e8
namespace Go.e8
abbrev OkF (P : Program) (num : Nat → Nat) (p : Nat × AFn) : Prop := ∃ fn, P.funcs[num p.1]? = some fn ∧ okFn P num fn p.2 = true ∧ (fn.name == "runtime.NumGoroutine") = false
theorem Amo {P:Program} {num:Nat->Nat} (l:List (Nat × AFn)) (h : ∀ p∈l,OkF P num p):ProgOK P num ⟨λ f=>l.lookup f,num⟩:=by
 refine ⟨?_,rfl⟩;intro f fa hf;have hm:(f,fa)∈l:=by
  clear h;change l.lookup f=some fa at hf;induction l with
  | nil=>simp at hf
  | cons x r ih =>
   obtain ⟨k,v⟩:=x;rw[List.lookup_cons]at hf;cases hk:(f == k) with
   | true =>
    rw[hk]at hf;have:f=k:=by simpa using hk
    subst this;simp at hf;simp [hf]
   | false =>
    rw[hk]at hf;exact List.mem_cons_of_mem _ (ih hf)
 exact h (f,fa) hm
end Go.e8

namespace Go.e8.F
open C
namespace SX
def r0:=[o 2 (.b9 (.c (.bool false)))]
def r1:=[m 3 0,m 4 0,o 5 (.bin .neq 3 4),m 2 5]
def c:=(s (d r0 [2]) (s (d r1 [0,3,4,5]) .ret))
end SX
def SX:AFn:=⟨1,SX.c,[.tmp 2],false⟩
namespace SY
def r0:=[o 2 (.b9 (.c (.bool false)))]
def r1:=[m 3 0,m 4 0,o 5 (.bin .neq 3 4),m 2 5]
def c:=(s (d r0 [2]) (s (d r1 [0,3,4,5]) .ret))
end SY
def SY:AFn:=⟨1,SY.c,[.tmp 2],false⟩
namespace SV
def r0:=[o 4 (.b9 (k 0))]
def r1:=[m 7 0,o 8 (.call 58 [7]),m 5 8]
def r2:=[m 9 1,o 10 (.call 58 [9]),m 6 10]
def r3:=[m 11 5]
def r4:=[m 12 6]
def r5:=[o 4 (.b9 (k 0))]
def r6:=[o 4 (.b9 (k (-1)))]
def r7:=[m 13 6]
def r8:=[o 4 (.b9 (k 1))]
def r9:=[m 14 0,m 15 1,o 16 (.bin .lss 14 15)]
def BM:=[o 4 (.b9 (k (-1)))]
def BZ:=[m 17 0,m 18 1,o 19 (.bin .gtr 17 18)]
def w4:=[o 4 (.b9 (k 1))]
def CD:=[o 4 (.b9 (k 0))]
def c:=(s (d r0 [4]) (s (d r1 [7,8]) (s (d r2 [9,10]) (s (s (d r3 [5]) (i 11 (s (s (d r4 [0,1,6,11]) (i 12 (s (d r5 [12]) .ret) .skip)) (s (d r6 [12]) .ret)) .skip)) (s (s (d r7 [6,11]) (i 13 (s (d r8 [0,1,13]) .ret) .skip)) (s (s (d r9 [13,14,15]) (i 16 (s (d BM [0,1,16]) .ret) .skip)) (s (s (d BZ [0,1,16,17,18]) (i 19 (s (d w4 [19]) .ret) .skip)) (s (d CD [19]) .ret))))))))
end SV
def SV:AFn:=⟨2,SV.c,[.tmp 4],false⟩
namespace SW
def r0:=[o 4 (.b9 (k 0))]
def r1:=[m 7 0,o 8 (.call 59 [7]),m 5 8]
def r2:=[m 9 1,o 10 (.call 59 [9]),m 6 10]
def r3:=[m 11 5]
def r4:=[m 12 6]
def r5:=[o 4 (.b9 (k 0))]
def r6:=[o 4 (.b9 (k (-1)))]
def r7:=[m 13 6]
def r8:=[o 4 (.b9 (k 1))]
def r9:=[m 14 0,m 15 1,o 16 (.bin .lss 14 15)]
def BM:=[o 4 (.b9 (k (-1)))]
def BZ:=[m 17 0,m 18 1,o 19 (.bin .gtr 17 18)]
def w4:=[o 4 (.b9 (k 1))]
def CD:=[o 4 (.b9 (k 0))]
def c:=(s (d r0 [4]) (s (d r1 [7,8]) (s (d r2 [9,10]) (s (s (d r3 [5]) (i 11 (s (s (d r4 [0,1,6,11]) (i 12 (s (d r5 [12]) .ret) .skip)) (s (d r6 [12]) .ret)) .skip)) (s (s (d r7 [6,11]) (i 13 (s (d r8 [0,1,13]) .ret) .skip)) (s (s (d r9 [13,14,15]) (i 16 (s (d BM [0,1,16]) .ret) .skip)) (s (s (d BZ [0,1,16,17,18]) (i 19 (s (d w4 [19]) .ret) .skip)) (s (d CD [19]) .ret))))))))
end SW
def SW:AFn:=⟨2,SW.c,[.tmp 4],false⟩
namespace H5
def r0:=[o 2 (.b9 (.c .nil))]
def r1:=[m 3 0,o 4 (.vb false 3)]
def r2:=[o 2 (.b9 (.c .nil))]
def r3:=[o 5 (.g8 5 1 []),m 6 0,o 7 (.app 7 1 4 5 6),m 2 7]
def c:=(s (d r0 [2]) (s (s (d r1 [3]) (i 4 (s (d r2 [0,4]) .ret) .skip)) (s (d r3 [0,4,5,6,7]) .ret)))
end H5
def H5:AFn:=⟨1,H5.c,[.tmp 2],true⟩
namespace TV
def r0:=[o 2 (.b9 (k 0))]
def r1:=[m 3 0,o 4 (.bin .geq 3 (.c (.int .u32 (65536))))]
def r2:=[m 5 0,o 6 (.bin .shr 5 (.c (.int .u64 (16)))),m 0 6]
def r3:=[o 2 (.b9 (k 16))]
def r4:=[m 7 0,o 8 (.bin .geq 7 (.c (.int .u32 (256))))]
def r5:=[m 9 0,o 10 (.bin .shr 9 (.c (.int .u64 (8)))),m 0 10]
def r6:=[m 11 2,o 12 (.bin .add 11 (k 8)),m 2 12]
def r7:=[m 13 2,m 14 0,o 15 (.conv .u8 14),
 o 16 (.jg (List.replicate 1 0++List.replicate 1 1++List.replicate 2 2++List.replicate 4 3++List.replicate 8 4++List.replicate 16 5++List.replicate 32 6++List.replicate 64 7++List.replicate 128 8) 15),
 o 17 (.conv .i64 16),o 18 (.bin .add 13 17),m 2 18]
def c:=(s (p r0) (s (s (d r1 [3]) (i 4 (s (d r2 [2,4,5,6]) (p r3)) .skip)) (s (s (d r4 [4,7]) (i 8 (s (d r5 [8,9,10]) (d r6 [11,12])) .skip)) (s (d r7 [0,8,13,14,15,16,17,18]) .ret))))
end TV
def TV:AFn:=⟨1,TV.c,[.tmp 2],false⟩
namespace TU
def r0:=[o 2 (.b9 (k 0))]
def r1:=[m 3 0,o 4 (.call 63 [3]),o 5 (.bin .sub (k 32) 4),m 2 5]
def c:=(s (d r0 [2]) (s (d r1 [0,3,4,5]) .ret))
end TU
def TU:AFn:=⟨1,TU.c,[.tmp 2],false⟩
namespace FQ
def r0:=[o 2 (.b9 (.c .nil))]
def r1:=[m 4 0,o 5 (.len 4),m 3 5]
def r2:=[m 6 3,o 7 (.bin .gtr 6 (k 0)),m 8 7,g 9 8 true (.b9 0),g 10 8 true (.b9 3),g 11 8 true (.bin .sub 10 (k 1)),g 12 8 true (.a5 none 1 9 11),
 g 13 8 true (.ld false 1 12),g 14 8 true (.bin .eql 13 (.c (.int .u32 (0)))),o 15 (.pick 8 14 (.c (.bool false)))]
def r3:=[m 16 3,o 17 (.bin .sub 16 (k 1)),m 3 17]
def r4:=[m 18 0,m 19 3,o 20 (.jq 1 18 none (some 19)),m 2 20]
def l1:=(s (s (d r2 [6,7,8,9,10,11,12,13,14]) (i 15 .skip (x 0))) (b 1 (d r3 [15,16,17])))
def c:=(s (d r0 [2]) (s (d r1 [4,5]) (s (b 0 (w l1)) (s (d r4 [0,3,15,18,19,20]) .ret))))
end FQ
def FQ:AFn:=⟨1,FQ.c,[.tmp 2],false⟩
namespace T6
def r0:=[o 2 (.b9 (.c .nil))]
def r1:=[m 3 0,o 4 (.j7 65 [3]),o 5 (.call 62 [4]),m 2 5]
def c:=(s (d r0 [2]) (s (d r1 [0,3,4,5]) .ret))
end T6
def T6:AFn:=⟨1,T6.c,[.tmp 2],false⟩
namespace TZ
def r0:=[o 4 (.b9 (k 0))]
def r1:=[m 8 0,o 9 (.j7 65 [8]),m 10 1,o 11 (.j7 65 [10]),m 5 9,m 6 11]
def r2:=[m 12 5,o 13 (.len 12),m 14 6,o 15 (.len 14),o 16 (.bin .neq 13 15)]
def r3:=[m 17 5,o 18 (.len 17),m 19 6,o 20 (.len 19),o 21 (.call 60 [18,20]),m 4 21]
def r4:=[m 22 5,o 23 (.len 22),o 24 (.bin .sub 23 (k 1)),m 7 24]
def r5:=[m 25 7,o 26 (.bin .geq 25 (k 0))]
def r7:=[m 29 5,m 30 7,o 31 (.a5 none 1 29 30),o 32 (.ld false 1 31),m 33 6,m 34 7,o 35 (.a5 none 1 33 34),o 36 (.ld false 1 35),o 37 (.bin .neq 32 36)]
def r8:=[m 38 5,m 39 7,o 40 (.a5 none 1 38 39),o 41 (.ld false 1 40),m 42 6,m 43 7,o 44 (.a5 none 1 42 43),o 45 (.ld false 1 44),o 46 (.call 61 [41,45]),
 m 4 46]
def r6:=[m 27 7,o 28 (.bin .sub 27 (k 1)),m 7 28]
def r9:=[o 4 (.b9 (k 0))]
def l1:=(s (s (d r5 [25]) (i 26 .skip (x 0))) (s (b 1 (s (e r7 [26,29,30,31,32,33,34,35,36]) (i 37 (s (e r8 [5,6,7,37,38,39,40,41,42,43,44,45,46]) .ret) .skip))) (d r6 [27,28,37])))
def c:=(s (d r0 [4]) (s (d r1 [0,1,8,9,10,11]) (s (s (d r2 [12,13,14,15]) (i 16 (s (d r3 [5,6,16,17,18,19,20,21]) .ret) .skip)) (s (s (d r4 [16,22,23,24]) (b 0 (w l1))) (s (d r9 [5,6,7,26]) .ret)))))
end TZ
def TZ:AFn:=⟨2,TZ.c,[.tmp 4],false⟩
namespace TY
def r0:=[o 4 (.b9 (.c .nil))]
def r1:=[m 12 0,o 13 (.j7 65 [12]),m 14 1,o 15 (.j7 65 [14]),m 5 13,m 6 15]
def r2:=[m 16 5,o 17 (.len 16),m 18 6,o 19 (.len 18),o 20 (.bin .lss 17 19)]
def r3:=[m 21 6,m 22 5,m 5 21,m 6 22]
def r4:=[m 23 5,o 24 (.len 23),o 25 (.bin .add 24 (k 1)),o 26 (.mk 26 1 4 [(.int .u32 (0))] 25 25),m 7 26]
def r5:=[o 8 (.b9 (.c (.int .u64 (0))))]
def r6:=[m 27 5,o 28 (.len 27),o 29 (.b9 (k 0))]
def r7:=[o 30 (.bin .lss 29 28)]
def r8:=[m 31 29,o 32 (.a5 none 1 27 29),o 33 (.ld false 1 32),m 9 31,m 10 33]
def r9:=[m 34 10,o 35 (.conv .u64 34),m 36 8,o 37 (.bin .add 35 36),m 11 37]
def BM:=[m 38 9,m 39 6,o 40 (.len 39),o 41 (.bin .lss 38 40)]
def BZ:=[m 42 11,m 43 6,m 44 9,o 45 (.a5 none 1 43 44),o 46 (.ld false 1 45),o 47 (.conv .u64 46),o 48 (.bin .add 42 47),m 11 48]
def w4:=[m 49 7,m 50 9,m 51 11,o 52 (.conv .u32 51),o 53 (.a5 none 1 49 50),n (.st 1 53 52)]
def CD:=[m 54 11,o 55 (.bin .shr 54 (.c (.int .u64 (32)))),m 8 55]
def ay:=[o 56 (.bin .add 29 (k 1)),m 29 56]
def ct:=[m 57 7,m 58 5,o 59 (.len 58),m 60 8,o 61 (.conv .u32 60),o 62 (.a5 none 1 57 59),n (.st 1 62 61)]
def du:=[m 63 7,o 64 (.j7 65 [63]),m 4 64]
def l1:=(s (p r7) (s (i 30 .skip (x 0)) (s (b 1 (s (d r8 [30,31,32,33]) (s (d r9 [8,10,34,35,36,37]) (s (s (d BM [38,39,40]) (i 41 (d BZ [41,42,43,44,45,46,47,48]) .skip)) (s (d w4 [9,41,49,50,51,52,53]) (d CD [11,54,55])))))) (d ay [56]))))
def c:=(s (d r0 [4]) (s (d r1 [0,1,12,13,14,15]) (s (s (d r2 [16,17,18,19]) (i 20 (d r3 [20,21,22]) .skip)) (s (d r4 [20,23,24,25,26]) (s (p r5) (s (s (p r6) (b 0 (w l1))) (s (d ct [5,6,8,27,28,29,30,57,58,59,60,61,62]) (s (d du [7,63,64]) .ret))))))))
end TY
def TY:AFn:=⟨2,TY.c,[.tmp 4],false⟩
namespace T5
def r0:=[o 4 (.b9 (.c .nil))]
def r1:=[m 12 0,m 13 1,o 14 (.call 67 [12,13]),o 15 (.bin .leq 14 (k 0))]
def r2:=[o 4 (.b9 (.c .nil))]
def r3:=[m 16 0,o 17 (.j7 65 [16]),m 18 1,o 19 (.j7 65 [18]),m 5 17,m 6 19]
def r4:=[m 20 5,o 21 (.len 20),o 22 (.mk 22 1 4 [(.int .u32 (0))] 21 21),m 7 22]
def r5:=[o 8 (.b9 (.c (.int .u64 (0))))]
def r6:=[m 23 5,o 24 (.len 23),o 25 (.b9 (k 0))]
def r7:=[o 26 (.bin .lss 25 24)]
def r8:=[m 27 25,o 28 (.a5 none 1 23 25),o 29 (.ld false 1 28),m 9 27,m 10 29]
def r9:=[m 30 10,o 31 (.conv .u64 30),m 32 8,o 33 (.bin .sub 31 32),m 11 33]
def BM:=[m 34 9,m 35 6,o 36 (.len 35),o 37 (.bin .lss 34 36)]
def BZ:=[m 38 11,m 39 6,m 40 9,o 41 (.a5 none 1 39 40),o 42 (.ld false 1 41),o 43 (.conv .u64 42),o 44 (.bin .sub 38 43),m 11 44]
def w4:=[m 45 7,m 46 9,m 47 11,o 48 (.conv .u32 47),o 49 (.a5 none 1 45 46),n (.st 1 49 48)]
def CD:=[m 50 11,o 51 (.bin .shr 50 (.c (.int .u64 (63)))),m 8 51]
def ay:=[o 52 (.bin .add 25 (k 1)),m 25 52]
def ct:=[m 53 7,o 54 (.j7 65 [53]),m 4 54]
def l1:=(s (p r7) (s (i 26 .skip (x 0)) (s (b 1 (s (d r8 [26,27,28,29]) (s (d r9 [8,10,30,31,32,33]) (s (s (d BM [34,35,36]) (i 37 (d BZ [37,38,39,40,41,42,43,44]) .skip)) (s (d w4 [9,37,45,46,47,48,49]) (d CD [11,50,51])))))) (d ay [52]))))
def c:=(s (d r0 [4]) (s (s (d r1 [12,13,14]) (i 15 (s (d r2 [0,1,15]) .ret) .skip)) (s (d r3 [0,1,15,16,17,18,19]) (s (d r4 [20,21,22]) (s (p r5) (s (s (d r6 [5]) (b 0 (w l1))) (s (d ct [6,7,8,23,24,25,26,53,54]) .ret)))))))
end T5
def T5:AFn:=⟨2,T5.c,[.tmp 4],false⟩
namespace T4
def r0:=[o 4 (.b9 (.c .nil))]
def r1:=[m 14 0,o 15 (.j7 65 [14]),m 16 1,o 17 (.j7 65 [16]),m 5 15,m 6 17]
def r2:=[m 18 5,o 19 (.len 18),o 20 (.bin .eql 19 (k 0)),m 21 20,g 22 21 false (.b9 6),g 23 21 false (.len 22),g 24 21 false (.bin .eql 23 (k 0)),
 o 25 (.pick 21 (.c (.bool true)) 24)]
def r3:=[o 4 (.b9 (.c .nil))]
def r4:=[m 26 5,o 27 (.len 26),m 28 6,o 29 (.len 28),o 30 (.bin .add 27 29),o 31 (.mk 31 1 4 [(.int .u32 (0))] 30 30),m 7 31]
def r5:=[m 32 5,o 33 (.len 32),o 34 (.b9 (k 0))]
def r6:=[o 35 (.bin .lss 34 33)]
def r7:=[m 36 34,o 37 (.a5 none 1 32 34),o 38 (.ld false 1 37),m 8 36,m 9 38]
def r8:=[m 39 9,o 40 (.bin .eql 39 (.c (.int .u32 (0))))]
def r9:=[o 10 (.b9 (.c (.int .u64 (0))))]
def BM:=[m 41 6,o 42 (.len 41),o 43 (.b9 (k 0))]
def BZ:=[o 44 (.bin .lss 43 42)]
def w4:=[m 45 43,o 46 (.a5 none 1 41 43),o 47 (.ld false 1 46),m 11 45,m 12 47]
def CD:=[m 48 9,o 49 (.conv .u64 48),m 50 12,o 51 (.conv .u64 50),o 52 (.bin .mul 49 51),m 53 7,m 54 8,m 55 11,o 56 (.bin .add 54 55),o 57 (.a5 none 1 53 56),
 o 58 (.ld false 1 57),o 59 (.conv .u64 58),o 60 (.bin .add 52 59),m 61 10,o 62 (.bin .add 60 61),m 13 62]
def ay:=[m 63 7,m 64 8,m 65 11,o 66 (.bin .add 64 65),m 67 13,o 68 (.conv .u32 67),o 69 (.a5 none 1 63 66),n (.st 1 69 68)]
def ct:=[m 70 13,o 71 (.bin .shr 70 (.c (.int .u64 (32)))),m 10 71]
def du:=[o 72 (.bin .add 43 (k 1)),m 43 72]
def EA:=[m 73 7,m 74 8,m 75 6,o 76 (.len 75),o 77 (.bin .add 74 76),m 78 10,o 79 (.conv .u32 78),o 80 (.a5 none 1 73 77),n (.st 1 80 79)]
def eg:=[o 81 (.bin .add 34 (k 1)),m 34 81]
def fw:=[m 82 7,o 83 (.j7 65 [82]),m 4 83]
def l2:=(s (p BZ) (s (i 44 .skip (x 2)) (s (b 3 (s (d w4 [44,45,46,47]) (s (d CD [10,12,48,49,50,51,52,53,54,55,56,57,58,59,60,61,62]) (s (d ay [11,63,64,65,66,67,68,69]) (d ct [13,70,71]))))) (d du [72]))))
def l1:=(s (p r6) (s (i 35 .skip (x 0)) (s (b 1 (s (d r7 [35,36,37,38]) (s (s (d r8 [39]) (i 40 (x 1) .skip)) (s (d r9 [40]) (s (s (p BM) (b 2 (w l2))) (d EA [8,9,10,41,42,43,44,73,74,75,76,77,78,79,80])))))) (d eg [8,9,40,81]))))
def c:=(s (d r0 [4]) (s (d r1 [0,1,14,15,16,17]) (s (s (d r2 [18,19,20,21,22,23,24]) (i 25 (s (d r3 [5,6,25]) .ret) .skip)) (s (d r4 [25,26,27,28,29,30,31]) (s (s (d r5 [5]) (b 0 (w l1))) (s (d fw [6,7,32,33,34,35,82,83]) .ret))))))
end T4
def T4:AFn:=⟨2,T4.c,[.tmp 4],false⟩
namespace LZ
def r0:=[o 6 (.b9 (.c .nil))]
def r1:=[m 11 2,o 12 (.mk 71012 1 4 [(.int .u32 (0))] 11 11),m 7 12]
def r2:=[o 8 (.b9 (.c (.int .u32 (0))))]
def r3:=[m 13 0,o 14 (.len 13),o 15 (.b9 (k 0))]
def r4:=[o 16 (.bin .lss 15 14)]
def r5:=[m 17 15,o 18 (.a5 none 1 13 15),o 19 (.ld false 1 18),m 9 17,m 10 19]
def r6:=[m 20 7,m 21 9,m 22 10,m 23 1,o 24 (.bin .shl 22 23),m 25 8,o 26 (.bin .or 24 25),o 27 (.a5 none 1 20 21),n (.st 1 27 26)]
def r7:=[m 28 10,o 29 (.conv .u64 28),m 30 1,o 31 (.bin .shl 29 30),o 32 (.bin .shr 31 (.c (.int .u64 (32)))),o 33 (.conv .u32 32),m 8 33]
def r8:=[o 34 (.bin .add 15 (k 1)),m 15 34]
def r9:=[m 35 2,m 36 0,o 37 (.len 36),o 38 (.bin .gtr 35 37)]
def BM:=[m 39 7,m 40 0,o 41 (.len 40),m 42 8,o 43 (.a5 none 1 39 41),n (.st 1 43 42)]
def BZ:=[m 44 7,m 6 44]
def l1:=(s (p r4) (s (i 16 .skip (x 0)) (s (b 1 (s (d r5 [16,17,18,19]) (s (d r6 [8,9,20,21,22,23,24,25,26,27]) (d r7 [10,28,29,30,31,32,33])))) (d r8 [34]))))
def c:=(s (d r0 [6]) (s (d r1 [11,12]) (s (p r2) (s (s (p r3) (b 0 (w l1))) (s (s (d r9 [1,2,13,14,15,16,35,36,37]) (i 38 (d BM [0,8,38,39,40,41,42,43]) .skip)) (s (d BZ [0,7,8,38,44]) .ret))))))
end LZ
def LZ:AFn:=⟨3,LZ.c,[.tmp 6],false⟩
namespace UB
def r0:=[o 4 (.b9 (.c .nil))]
def r1:=[m 8 0,o 9 (.len 8),o 10 (.mk 10 1 4 [(.int .u32 (0))] 9 9),m 5 10]
def r2:=[o 6 (.b9 (.c (.int .u32 (0))))]
def r3:=[m 11 0,o 12 (.len 11),o 13 (.bin .sub 12 (k 1)),m 7 13]
def r4:=[m 14 7,o 15 (.bin .geq 14 (k 0))]
def r6:=[m 18 5,m 19 7,m 20 0,m 21 7,o 22 (.a5 none 1 20 21),o 23 (.ld false 1 22),m 24 1,o 25 (.bin .shr 23 24),m 26 6,o 27 (.bin .or 25 26),
 o 28 (.a5 none 1 18 19),n (.st 1 28 27)]
def r7:=[m 29 0,m 30 7,o 31 (.a5 none 1 29 30),o 32 (.ld false 1 31),o 33 (.conv .u64 32),m 34 1,o 35 (.bin .sub (.c (.int .u64 (32))) 34),
 o 36 (.bin .shl 33 35),o 37 (.conv .u32 36),m 6 37]
def r5:=[m 16 7,o 17 (.bin .sub 16 (k 1)),m 7 17]
def r8:=[m 38 5,m 4 38]
def l1:=(s (s (d r4 [14]) (i 15 .skip (x 0))) (s (b 1 (s (d r6 [6,15,18,19,20,21,22,23,24,25,26,27,28]) (d r7 [29,30,31,32,33,34,35,36,37]))) (d r5 [16,17])))
def c:=(s (d r0 [4]) (s (d r1 [8,9,10]) (s (p r2) (s (s (d r3 [11,12,13]) (b 0 (w l1))) (s (d r8 [0,1,5,6,7,15,38]) .ret)))))
end UB
def UB:AFn:=⟨2,UB.c,[.tmp 4],false⟩
namespace FZ
def r0:=[o 4 (.b9 (.c (.int .u32 (0))))]
def r1:=[m 19 1,o 20 (.len 19),m 5 20]
def r2:=[m 21 0,m 22 5,o 23 (.a5 none 1 21 22),o 24 (.ld false 1 23),o 25 (.conv .u64 24),o 26 (.bin .shl 25 (.c (.int .u64 (32)))),m 27 0,m 28 5,
 o 29 (.bin .sub 28 (k 1)),o 30 (.a5 none 1 27 29),o 31 (.ld false 1 30),o 32 (.conv .u64 31),o 33 (.bin .or 26 32),m 6 33]
def r3:=[m 34 6,m 35 1,m 36 5,o 37 (.bin .sub 36 (k 1)),o 38 (.a5 none 1 35 37),o 39 (.ld false 1 38),o 40 (.conv .u64 39),o 41 (.bin .quo 34 40),m 42 6,
 m 43 1,m 44 5,o 45 (.bin .sub 44 (k 1)),o 46 (.a5 none 1 43 45),o 47 (.ld false 1 46),o 48 (.conv .u64 47),o 49 (.bin .rem 42 48),m 7 41,m 8 49]
def r4:=[m 50 7,o 51 (.bin .geq 50 (.c (.int .u64 (4294967296)))),m 52 51,g 53 52 false (.b9 7),g 54 52 false (.b9 1),g 55 52 false (.b9 5),
 g 56 52 false (.bin .sub 55 (k 2)),g 57 52 false (.a5 none 1 54 56),g 58 52 false (.ld false 1 57),g 59 52 false (.conv .u64 58),
 g 60 52 false (.bin .mul 53 59),g 61 52 false (.b9 8),g 62 52 false (.bin .shl 61 (.c (.int .u64 (32)))),g 63 52 false (.b9 0),g 64 52 false (.b9 5),
 g 65 52 false (.bin .sub 64 (k 2)),g 66 52 false (.a5 none 1 63 65),g 67 52 false (.ld false 1 66),g 68 52 false (.conv .u64 67),
 g 69 52 false (.bin .or 62 68),g 70 52 false (.bin .gtr 60 69),o 71 (.pick 52 (.c (.bool true)) 70)]
def r5:=[m 72 7,o 73 (.bin .sub 72 (.c (.int .u64 (1)))),m 7 73]
def r6:=[m 74 8,m 75 1,m 76 5,o 77 (.bin .sub 76 (k 1)),o 78 (.a5 none 1 75 77),o 79 (.ld false 1 78),o 80 (.conv .u64 79),o 81 (.bin .add 74 80),m 8 81]
def r7:=[m 82 8,o 83 (.bin .geq 82 (.c (.int .u64 (4294967296))))]
def r8:=[o 9 (.b9 (.c (.int .u64 (0)))),o 10 (.b9 (.c (.int .u64 (0))))]
def r9:=[m 84 1,o 85 (.len 84),o 86 (.b9 (k 0))]
def BM:=[o 87 (.bin .lss 86 85)]
def BZ:=[m 88 86,o 89 (.a5 none 1 84 86),o 90 (.ld false 1 89),m 11 88,m 12 90]
def w4:=[m 91 7,m 92 12,o 93 (.conv .u64 92),o 94 (.bin .mul 91 93),m 95 9,o 96 (.bin .add 94 95),m 13 96]
def CD:=[m 97 13,o 98 (.bin .shr 97 (.c (.int .u64 (32)))),m 9 98]
def ay:=[m 99 0,m 100 11,o 101 (.a5 none 1 99 100),o 102 (.ld false 1 101),o 103 (.conv .u64 102),m 104 13,o 105 (.conv .u32 104),o 106 (.conv .u64 105),
 o 107 (.bin .sub 103 106),m 108 10,o 109 (.bin .sub 107 108),m 14 109]
def ct:=[m 110 0,m 111 11,m 112 14,o 113 (.conv .u32 112),o 114 (.a5 none 1 110 111),n (.st 1 114 113)]
def du:=[m 115 14,o 116 (.bin .shr 115 (.c (.int .u64 (63)))),m 10 116]
def EA:=[o 117 (.bin .add 86 (k 1)),m 86 117]
def eg:=[m 118 0,m 119 5,o 120 (.a5 none 1 118 119),o 121 (.ld false 1 120),o 122 (.conv .u64 121),m 123 9,o 124 (.bin .sub 122 123),m 125 10,
 o 126 (.bin .sub 124 125),m 15 126]
def fw:=[m 127 0,m 128 5,m 129 15,o 130 (.conv .u32 129),o 131 (.a5 none 1 127 128),n (.st 1 131 130)]
def iq:=[m 132 15,o 133 (.bin .shr 132 (.c (.int .u64 (63)))),o 134 (.bin .eql 133 (.c (.int .u64 (0))))]
def lu:=[m 135 7,o 136 (.conv .u32 135),m 4 136]
def nf:=[o 9 (.b9 (.c (.int .u64 (0))))]
def oh:=[m 137 1,o 138 (.len 137),o 139 (.b9 (k 0))]
def JL:=[o 140 (.bin .lss 139 138)]
def NY:=[m 141 139,o 142 (.a5 none 1 137 139),o 143 (.ld false 1 142),m 16 141,m 17 143]
def U1:=[m 144 0,m 145 16,o 146 (.a5 none 1 144 145),o 147 (.ld false 1 146),o 148 (.conv .u64 147),m 149 17,o 150 (.conv .u64 149),o 151 (.bin .add 148 150),
 m 152 9,o 153 (.bin .add 151 152),m 18 153]
def U2:=[m 154 0,m 155 16,m 156 18,o 157 (.conv .u32 156),o 158 (.a5 none 1 154 155),n (.st 1 158 157)]
def YW:=[m 159 18,o 160 (.bin .shr 159 (.c (.int .u64 (32)))),m 9 160]
def YX:=[o 161 (.bin .add 139 (k 1)),m 139 161]
def Ar:=[m 162 0,m 163 5,o 164 (.a5 none 1 162 163),o 165 (.ld false 1 164),m 166 9,o 167 (.conv .u32 166),o 168 (.bin .add 165 167),
 o 169 (.a5 none 1 162 163),n (.st 1 169 168)]
def Cb:=[m 170 7,o 171 (.bin .sub 170 (.c (.int .u64 (1)))),o 172 (.conv .u32 171),m 4 172]
def l1:=(s (s (e r4 [50,51,52,53,54,55,56,57,58,59,60,61,62,63,64,65,66,67,68,69,70,83]) (i 71 .skip (x 0))) (b 1 (s (d r5 [71,72,73]) (s (d r6 [74,75,76,77,78,79,80,81]) (s (d r7 [82]) (i 83 (x 0) .skip))))))
def l2:=(s (p BM) (s (i 87 .skip (x 2)) (s (b 3 (s (d BZ [87,88,89,90]) (s (d w4 [9,12,91,92,93,94,95,96]) (s (d CD [97,98]) (s (d ay [10,13,99,100,101,102,103,104,105,106,107,108,109]) (s (d ct [11,110,111,112,113,114]) (d du [14,115,116]))))))) (d EA [117]))))
def l3:=(s (p JL) (s (i 140 .skip (x 4)) (s (b 5 (s (d NY [140,141,142,143]) (s (d U1 [9,17,144,145,146,147,148,149,150,151,152,153]) (s (d U2 [16,154,155,156,157,158]) (d YW [18,159,160]))))) (d YX [161]))))
def c:=(s (d r0 [4]) (s (d r1 [19,20]) (s (e r2 [21,22,23,24,25,26,27,28,29,30,31,32,33]) (s (e r3 [6,34,35,36,37,38,39,40,41,42,43,44,45,46,47,48,49]) (s (b 0 (w l1)) (s (d r8 [8,71,83]) (s (s (p r9) (b 2 (w l2))) (s (d eg [9,10,84,85,86,87,118,119,120,121,122,123,124,125,126]) (s (d fw [127,128,129,130,131]) (s (s (d iq [15,132,133]) (i 134 (s (d lu [0,1,5,7,134,135,136]) .ret) .skip)) (s (d nf [134]) (s (s (d oh [1]) (b 4 (w l3))) (s (d Ar [0,5,9,137,138,139,140,162,163,164,165,166,167,168,169]) (s (d Cb [7,170,171,172]) .ret))))))))))))))
end FZ
def FZ:AFn:=⟨2,FZ.c,[.tmp 4],false⟩
namespace T9
def r0:=[o 4 (.b9 (.c .nil)),o 5 (.b9 (.c .nil))]
def r1:=[m 15 0,m 16 1,o 17 (.call 67 [15,16]),o 18 (.bin .lss 17 (k 0))]
def r2:=[m 19 0,o 20 (.call 62 [19]),o 4 (.b9 (.c .nil)),m 5 20]
def r3:=[m 21 1,o 22 (.len 21),m 6 22]
def r4:=[m 23 0,o 24 (.len 23),m 25 6,o 26 (.bin .sub 24 25),o 27 (.bin .add 26 (k 1)),o 28 (.mk 28 1 4 [(.int .u32 (0))] 27 27),m 7 28]
def r5:=[m 29 6,o 30 (.bin .eql 29 (k 1))]
def r6:=[o 8 (.b9 (.c (.int .u64 (0))))]
def r7:=[m 31 0,o 32 (.len 31),o 33 (.bin .sub 32 (k 1)),m 9 33]
def r8:=[m 34 9,o 35 (.bin .geq 34 (k 0))]
def BM:=[m 38 8,o 39 (.bin .shl 38 (.c (.int .u64 (32)))),m 40 0,m 41 9,o 42 (.a5 none 1 40 41),o 43 (.ld false 1 42),o 44 (.conv .u64 43),
 o 45 (.bin .or 39 44),m 10 45]
def BZ:=[m 46 7,m 47 9,m 48 10,m 49 1,o 50 (.a5 none 1 49 (k 0)),o 51 (.ld false 1 50),o 52 (.conv .u64 51),o 53 (.bin .quo 48 52),o 54 (.conv .u32 53),
 o 55 (.a5 none 1 46 47),n (.st 1 55 54)]
def w4:=[m 56 10,m 57 1,o 58 (.a5 none 1 57 (k 0)),o 59 (.ld false 1 58),o 60 (.conv .u64 59),o 61 (.bin .rem 56 60),m 8 61]
def r9:=[m 36 9,o 37 (.bin .sub 36 (k 1)),m 9 37]
def CD:=[m 62 7,o 63 (.j7 65 [62]),m 64 8,o 65 (.conv .u32 64),o 66 (.g8 66 1 [65]),o 67 (.j7 65 [66]),m 4 63,m 5 67]
def ay:=[m 68 1,m 69 6,o 70 (.bin .sub 69 (k 1)),o 71 (.a5 none 1 68 70),o 72 (.ld false 1 71),o 73 (.call 64 [72]),o 74 (.conv .u64 73),m 11 74]
def ct:=[m 75 0,m 76 11,m 77 0,o 78 (.len 77),o 79 (.bin .add 78 (k 1)),o 80 (.j7 71 [75,76,79]),m 81 1,m 82 11,m 83 6,o 84 (.call 71 [81,82,83]),
 m 12 80,m 13 84]
def du:=[m 85 0,o 86 (.len 85),m 87 6,o 88 (.bin .sub 86 87),m 14 88]
def EA:=[m 89 14,o 90 (.bin .geq 89 (k 0))]
def fw:=[m 93 7,m 94 14,m 95 12,m 96 14,m 97 14,m 98 6,o 99 (.bin .add 97 98),o 100 (.bin .add 99 (k 1)),o 101 (.jq 1 95 (some 96) (some 100)),m 102 13,
 o 103 (.j7 73 [101,102]),o 104 (.a5 none 1 93 94),n (.st 1 104 103)]
def eg:=[m 91 14,o 92 (.bin .sub 91 (k 1)),m 14 92]
def iq:=[m 105 7,o 106 (.j7 65 [105]),m 107 12,m 108 6,o 109 (.jq 1 107 none (some 108)),m 110 11,o 111 (.call 72 [109,110]),o 112 (.j7 65 [111]),
 m 4 106,m 5 112]
def l1:=(s (s (d r8 [34]) (i 35 .skip (x 0))) (s (b 1 (s (d BM [8,35,38,39,40,41,42,43,44,45]) (s (d BZ [46,47,48,49,50,51,52,53,54,55]) (d w4 [10,56,57,58,59,60,61])))) (d r9 [36,37])))
def l2:=(s (s (d EA [89]) (i 90 .skip (x 2))) (s (b 3 (d fw [90,93,94,95,96,97,98,99,100,101,102,103,104])) (d eg [91,92])))
def c:=(s (d r0 [4,5]) (s (s (d r1 [15,16,17]) (i 18 (s (d r2 [0,1,18,19,20]) .ret) .skip)) (s (d r3 [18,21,22]) (s (d r4 [23,24,25,26,27,28]) (s (s (d r5 [29]) (i 30 (s (d r6 [6,30]) (s (s (d r7 [31,32,33]) (b 0 (w l1))) (s (d CD [0,1,7,8,9,35,62,63,64,65,66,67]) .ret))) .skip)) (s (d ay [30,68,69,70,71,72,73,74]) (s (d ct [1,75,76,77,78,79,80,81,82,83,84]) (s (s (d du [0,85,86,87,88]) (b 2 (w l2))) (s (e iq [6,7,11,12,13,14,90,105,106,107,108,109,110,111,112]) .ret)))))))))
end T9
def T9:AFn:=⟨2,T9.c,[.tmp 4,.tmp 5],false⟩
namespace T3
def r0:=[o 4 (.b9 (.c .nil)),o 5 (.b9 (.c .nil)),o 6 (.b9 (k 0))]
def r1:=[m 10 1,o 11 (.j7 65 [10]),m 7 11]
def r2:=[m 12 7,o 13 (.len 12),o 14 (.bin .eql 13 (k 0))]
def r3:=[o 4 (.b9 (.c .nil)),o 5 (.b9 (.c .nil)),o 6 (.b9 (k 3))]
def r4:=[m 16 0,o 17 (.j7 65 [16]),m 18 7,o 19 (.call 74 [17,18]),m 15 19,o 20 (.ext 15 0),o 21 (.ext 15 1),m 8 20,m 9 21]
def r5:=[m 22 8,m 23 9,m 4 22,m 5 23,o 6 (.b9 (k 0))]
def c:=(s (d r0 [4,5,6]) (s (d r1 [1,10,11]) (s (s (d r2 [12,13]) (i 14 (s (d r3 [0,7,14]) .ret) .skip)) (s (d r4 [0,7,14,15,16,17,18,19,20,21]) (s (d r5 [8,9,22,23]) .ret)))))
end T3
def T3:AFn:=⟨2,T3.c,[.tmp 4,.tmp 5,.tmp 6],false⟩
namespace UD
def r0:=[o 2 (.b9 (.c (.int .u64 (0))))]
def r1:=[o 3 (.b9 (.c (.int .u64 (0))))]
def r2:=[m 6 0,o 7 (.len 6),o 8 (.b9 (k 0))]
def r3:=[o 9 (.bin .lss 8 7)]
def r4:=[m 10 8,o 11 (.a5 none 1 6 8),o 12 (.ld false 1 11),m 4 10,m 5 12]
def r5:=[m 13 3,m 14 5,o 15 (.conv .u64 14),m 16 4,o 17 (.bin .mul (k 32) 16),o 18 (.bin .shl 15 17),o 19 (.bin .or 13 18),m 3 19]
def r6:=[o 20 (.bin .add 8 (k 1)),m 8 20]
def r7:=[m 21 3,m 2 21]
def l1:=(s (p r3) (s (i 9 .skip (x 0)) (s (b 1 (s (d r4 [9,10,11,12]) (d r5 [4,5,13,14,15,16,17,18,19]))) (d r6 [20]))))
def c:=(s (d r0 [2]) (s (p r1) (s (s (d r2 [0]) (b 0 (w l1))) (s (d r7 [3,6,7,8,9,21]) .ret))))
end UD
def UD:AFn:=⟨1,UD.c,[.tmp 2],false⟩
namespace I8
def r0:=[o 3 (.b9 (.c (.int .u64 (0))))]
def r1:=[m 4 0,o 5 (.ld false 1 1),o 6 (.len 5),o 7 (.bin .lss 4 6)]
def r2:=[o 8 (.ld false 1 1),m 9 0,o 10 (.a5 none 1 8 9),o 11 (.ld false 1 10),o 12 (.conv .u64 11),m 3 12]
def r3:=[o 3 (.b9 (.c (.int .u64 (0))))]
def c:=(s (d r0 [3]) (s (s (d r1 [4,5,6]) (i 7 (s (d r2 [0,1,7,8,9,10,11,12]) .ret) .skip)) (s (d r3 [0,1,7]) .ret)))
end I8
def I8:AFn:=⟨2,I8.c,[.tmp 3],false⟩
namespace UA
def r0:=[o 3 (.box 3 0),o 6 (.b9 (k 0))]
def r1:=[o 9 (.si false 77 [3]),m 7 9]
def r2:=[m 10 7,m 11 1,o 12 (.bin .sub 11 (k 1)),o 13 (.o7 10 [12]),o 14 (.bin .shl 13 (.c (.int .u64 (32)))),m 15 7,m 16 1,o 17 (.bin .sub 16 (k 2)),
 o 18 (.o7 15 [17]),o 19 (.bin .or 14 18),m 20 2,o 21 (.bin .shl 19 20),m 8 21]
def r3:=[m 22 8,m 23 7,m 24 1,o 25 (.bin .sub 24 (k 3)),o 26 (.o7 23 [25]),m 27 2,o 28 (.bin .shl 26 27),o 29 (.bin .shr 28 (.c (.int .u64 (32)))),
 o 30 (.bin .or 22 29),m 8 30]
def r4:=[m 31 8,o 32 (.bin .shr 31 (.c (.int .u64 (2)))),o 33 (.conv .i64 32),m 6 33]
def c:=(s (d r0 [0,6]) (s (d r1 [3,9]) (s (d r2 [10,11,12,13,14,15,16,17,18,19,20,21]) (s (d r3 [1,2,7,22,23,24,25,26,27,28,29,30]) (s (d r4 [8,31,32,33]) .ret)))))
end UA
def UA:AFn:=⟨3,UA.c,[.tmp 6],false⟩
namespace T7
def r0:=[o 4 (.b9 (k 0)),o 5 (.b9 (k 0)),o 6 (.b9 (k 0)),o 7 (.b9 (k 0))]
def r1:=[o 4 (.b9 (k 1)),o 7 (.b9 (k 1))]
def r2:=[m 11 1,m 12 6,o 13 (.bin .add 11 12),o 14 (.bin .neq 13 (k 0)),m 15 14,g 16 15 true (.b9 1),g 17 15 true (.b9 7),g 18 15 true (.bin .add 16 17),
 g 19 15 true (.bin .neq 18 (k 0)),o 20 (.pick 15 19 (.c (.bool false)))]
def r3:=[m 21 0,m 22 4,o 23 (.bin .add 21 22),m 24 1,m 25 6,o 26 (.bin .add 24 25),o 27 (.bin .quo 23 26),m 8 27]
def r4:=[m 28 8,m 29 0,m 30 5,o 31 (.bin .add 29 30),m 32 1,m 33 7,o 34 (.bin .add 32 33),o 35 (.bin .quo 31 34),o 36 (.bin .neq 28 35),m 37 36,
 g 38 37 false (.b9 8),g 39 37 false (.bin .gtr 38 (k 2147483647)),o 40 (.pick 37 (.c (.bool true)) 39)]
def r5:=[m 41 4,m 42 8,m 43 6,o 44 (.bin .mul 42 43),o 45 (.bin .sub 41 44),m 46 5,m 47 8,m 48 7,o 49 (.bin .mul 47 48),o 50 (.bin .sub 46 49),m 9 45,m 10 50]
def r6:=[m 51 9,m 52 9,o 53 (.un .neg 52),m 54 10,m 55 10,o 56 (.un .neg 55),o 57 (.mm true [51,53,54,56]),o 58 (.bin .gtr 57 (k 2147483647))]
def r7:=[m 59 6,m 60 7,m 61 9,m 62 10,m 4 59,m 5 60,m 6 61,m 7 62]
def r8:=[m 63 1,m 64 0,m 65 8,m 66 1,o 67 (.bin .mul 65 66),o 68 (.bin .sub 64 67),m 0 63,m 1 68]
def r9:=[m 69 4,m 70 5,m 71 6,m 72 7,m 4 69,m 5 70,m 6 71,m 7 72]
def l1:=(s (s (d r2 [11,12,13,14,15,16,17,18,19]) (i 20 .skip (x 0))) (b 1 (s (d r3 [20,21,22,23,24,25,26,27]) (s (s (d r4 [28,29,30,31,32,33,34,35,36,37,38,39]) (i 40 (x 0) .skip)) (s (d r5 [40,41,42,43,44,45,46,47,48,49,50]) (s (s (d r6 [51,52,53,54,55,56,57]) (i 58 (x 0) .skip)) (s (d r7 [9,10,58,59,60,61,62]) (d r8 [8,63,64,65,66,67,68]))))))))
def c:=(s (d r0 [4,7]) (s (p r1) (s (b 0 (w l1)) (s (d r9 [0,1,8,9,10,20,40,58,69,70,71,72]) .ret))))
end T7
def T7:AFn:=⟨2,T7.c,[.tmp 4,.tmp 5,.tmp 6,.tmp 7],false⟩
namespace T8
def r0:=[o 8 (.b9 (.c .nil))]
def r1:=[m 14 0,o 15 (.len 14),o 16 (.mk 16 1 4 [(.int .u32 (0))] 15 15),m 9 16]
def r2:=[o 10 (.b9 (k 0))]
def r3:=[m 17 0,o 18 (.len 17),o 19 (.b9 (k 0))]
def r4:=[o 20 (.bin .lss 19 18)]
def r5:=[m 21 19,o 22 (.a5 none 1 17 19),o 23 (.ld false 1 22),m 11 21,m 12 23]
def r6:=[m 24 2,m 25 12,o 26 (.conv .i64 25),o 27 (.bin .mul 24 26),m 28 10,o 29 (.bin .add 27 28),m 13 29]
def r7:=[m 30 11,m 31 1,o 32 (.len 31),o 33 (.bin .lss 30 32)]
def r8:=[m 34 13,m 35 3,m 36 1,m 37 11,o 38 (.a5 none 1 36 37),o 39 (.ld false 1 38),o 40 (.conv .i64 39),o 41 (.bin .mul 35 40),o 42 (.bin .add 34 41),
 m 13 42]
def r9:=[m 43 9,m 44 11,m 45 13,o 46 (.conv .u32 45),o 47 (.a5 none 1 43 44),n (.st 1 47 46)]
def BM:=[m 48 13,o 49 (.bin .shr 48 (.c (.int .u64 (32)))),m 10 49]
def BZ:=[o 50 (.bin .add 19 (k 1)),m 19 50]
def w4:=[m 51 9,o 52 (.j7 65 [51]),m 8 52]
def l1:=(s (p r4) (s (i 20 .skip (x 0)) (s (b 1 (s (d r5 [20,21,22,23]) (s (d r6 [10,12,24,25,26,27,28,29]) (s (s (d r7 [30,31,32]) (i 33 (d r8 [33,34,35,36,37,38,39,40,41,42]) .skip)) (s (d r9 [11,33,43,44,45,46,47]) (d BM [13,48,49])))))) (d BZ [50]))))
def c:=(s (d r0 [8]) (s (d r1 [14,15,16]) (s (p r2) (s (s (d r3 [0]) (b 0 (w l1))) (s (d w4 [1,2,3,9,10,17,18,19,20,51,52]) .ret)))))
end T8
def T8:AFn:=⟨4,T8.c,[.tmp 8],false⟩
namespace UC
def r0:=[o 4 (.b9 (.c .nil)),o 5 (.b9 (.c .nil))]
def r1:=[m 14 0,o 15 (.len 14),m 6 15]
def r2:=[m 16 0,m 17 6,o 18 (.bin .sub 17 (k 1)),o 19 (.a5 none 1 16 18),o 20 (.ld false 1 19),o 21 (.call 64 [20]),o 22 (.conv .u64 21),m 7 22]
def r3:=[m 24 0,m 25 6,m 26 7,o 27 (.call 78 [24,25,26]),m 28 1,m 29 6,m 30 7,o 31 (.call 78 [28,29,30]),o 32 (.call 79 [27,31]),m 23 32,o 33 (.ext 23 0),
 o 34 (.ext 23 1),o 35 (.ext 23 2),o 36 (.ext 23 3),m 8 33,m 9 34,m 10 35,m 11 36]
def r4:=[m 37 9,o 38 (.bin .eql 37 (k 0))]
def r5:=[m 40 0,m 41 1,o 42 (.call 74 [40,41]),m 39 42,o 43 (.ext 39 0),o 44 (.ext 39 1),m 12 43,m 13 44]
def r6:=[m 45 1,m 46 13,m 4 45,m 5 46]
def r7:=[m 47 0,m 48 1,m 49 8,m 50 9,o 51 (.call 80 [47,48,49,50]),m 52 0,m 53 1,m 54 10,m 55 11,o 56 (.call 80 [52,53,54,55]),m 4 51,m 5 56]
def c:=(s (d r0 [4,5]) (s (d r1 [14,15]) (s (d r2 [16,17,18,19,20,21,22]) (s (d r3 [6,7,23,24,25,26,27,28,29,30,31,32,33,34,35,36]) (s (s (d r4 [37]) (i 38 (s (d r5 [0,8,9,10,11,12,38,39,40,41,42,43,44]) (s (d r6 [1,13,45,46]) .ret)) .skip)) (s (d r7 [0,1,8,9,10,11,38,47,48,49,50,51,52,53,54,55,56]) .ret))))))
end UC
def UC:AFn:=⟨2,UC.c,[.tmp 4,.tmp 5],false⟩
namespace GY
def r0:=[o 4 (.b9 (.c .nil))]
def r1:=[m 11 0,o 12 (.call 66 [11]),m 13 1,o 14 (.call 66 [13]),m 5 12,m 6 14]
def r2:=[m 15 5,m 16 6,o 17 (.call 67 [15,16]),o 18 (.bin .lss 17 (k 0))]
def r3:=[m 19 6,m 20 5,m 5 19,m 6 20]
def r4:=[m 21 6,o 22 (.len 21),o 23 (.bin .gtr 22 (k 2))]
def r5:=[m 25 5,m 26 6,o 27 (.call 81 [25,26]),m 24 27,o 28 (.ext 24 0),o 29 (.ext 24 1),m 5 28,m 6 29]
def r6:=[m 30 6,o 31 (.len 30),o 32 (.bin .eql 31 (k 0))]
def r7:=[m 33 5,m 4 33]
def r8:=[m 35 5,m 36 6,o 37 (.call 74 [35,36]),m 34 37,o 38 (.ext 34 0),o 39 (.ext 34 1),m 7 38,m 8 39]
def r9:=[m 40 6,o 41 (.call 76 [40]),m 42 8,o 43 (.call 76 [42]),m 9 41,m 10 43]
def BM:=[m 44 10,o 45 (.bin .neq 44 (.c (.int .u64 (0))))]
def BZ:=[m 46 10,m 47 9,m 48 10,o 49 (.bin .rem 47 48),m 9 46,m 10 49]
def w4:=[m 50 9,o 51 (.conv .u32 50),m 52 9,o 53 (.bin .shr 52 (.c (.int .u64 (32)))),o 54 (.conv .u32 53),o 55 (.g8 55 1 [51,54]),o 56 (.j7 65 [55]),
 m 4 56]
def l1:=(s (s (d r4 [18,21,22]) (i 23 .skip (x 0))) (b 1 (d r5 [23,24,25,26,27,28,29])))
def l2:=(s (s (d BM [44]) (i 45 .skip (x 2))) (b 3 (e BZ [45,46,47,48,49])))
def c:=(s (d r0 [4]) (s (d r1 [0,1,11,12,13,14]) (s (s (d r2 [15,16,17]) (i 18 (d r3 [18,19,20]) .skip)) (s (b 0 (w l1)) (s (s (d r6 [23,30,31]) (i 32 (s (d r7 [5,6,32,33]) .ret) .skip)) (s (d r8 [5,7,32,34,35,36,37,38,39]) (s (d r9 [6,8,40,41,42,43]) (s (b 2 (w l2)) (s (d w4 [9,10,45,50,51,52,53,54,55,56]) .ret)))))))))
end GY
def GY:AFn:=⟨2,GY.c,[.tmp 4],false⟩
structure j4 (L:Lib):Prop where
 SX:L 58=some F.SX
 SY:L 59=some F.SY
 SV:L 60=some F.SV
 SW:L 61=some F.SW
 H5:L 62=some F.H5
 TV:L 63=some F.TV
 TU:L 64=some F.TU
 FQ:L 65=some F.FQ
 T6:L 66=some F.T6
 TZ:L 67=some F.TZ
 TY:L 68=some F.TY
 T5:L 69=some F.T5
 T4:L 70=some F.T4
 LZ:L 71=some F.LZ
 UB:L 72=some F.UB
 FZ:L 73=some F.FZ
 T9:L 74=some F.T9
 T3:L 75=some F.T3
 UD:L 76=some F.UD
 I8:L 77=some F.I8
 UA:L 78=some F.UA
 T7:L 79=some F.T7
 T8:L 80=some F.T8
 UC:L 81=some F.UC
 GY:L 82=some F.GY
end Go.e8.F

namespace Go.e8.F
open C
namespace DL
def r0:=[o 4 (.alloc 83004 [(.bool false),.nil])]
def r1:=[m 5 0,m 6 5,g 7 6 true (.b9 1),g 8 6 true (.len 7),g 9 6 true (.bin .gtr 8 (k 0)),o 10 (.pick 6 9 (.c (.bool false))),m 11 1,
 o 12 (.build [(.bool false),.nil] [(0,1,10),(1,1,11)]),n (.st 2 4 12)]
def c:=(s (p r0) (s (d r1 [0,1,5,6,7,8,9,10,11,12]) .ret))
end DL
def DL:AFn:=⟨2,DL.c,[.cell 4 true 2],false⟩
namespace TJ
def r0:=[o 1 (.box 1 0),o 2 (.alloc 2 [(.bool false),.nil])]
def r1:=[o 3 (.a7 1 0),o 4 (.ld false 1 3),o 5 (.a7 1 1),o 6 (.ld false 1 5),o 7 (.call 66 [6]),o 8 (.j7 83 [4,7]),n (.st 2 2 8)]
def c:=(s (d r0 [0]) (s (e r1 [1,3,4,5,6,7,8]) .ret))
end TJ
def TJ:AFn:=⟨1,TJ.c,[.cell 2 true 2],false⟩
namespace TH
def r0:=[o 2 (.alloc 2 [(.bool false),.nil])]
def r1:=[m 4 0,o 5 (.conv .u64 4),m 3 5]
def r2:=[m 6 0,o 7 (.bin .lss 6 (k 0))]
def r3:=[m 8 3,o 9 (.un .neg 8),m 3 9]
def r4:=[m 10 0,o 11 (.bin .lss 10 (k 0)),m 12 3,o 13 (.conv .u32 12),m 14 3,o 15 (.bin .shr 14 (.c (.int .u64 (32)))),o 16 (.conv .u32 15),
 o 17 (.g8 17 1 [13,16]),o 18 (.call 66 [17]),o 19 (.j7 83 [11,18]),n (.st 2 2 19)]
def c:=(s (p r0) (s (d r1 [4,5]) (s (s (d r2 [6]) (i 7 (d r3 [7,8,9]) .skip)) (s (d r4 [0,3,7,10,11,12,13,14,15,16,17,18,19]) .ret))))
end TH
def TH:AFn:=⟨1,TH.c,[.cell 2 true 2],false⟩
namespace TI
def r0:=[o 1 (.box 1 0),o 2 (.b9 (k 0))]
def r1:=[o 4 (.a7 1 1),o 5 (.ld false 1 4),o 6 (.call 67 [5,(.c .nil)]),o 7 (.bin .eql 6 (k 0)),m 3 7]
def r2:=[o 2 (.b9 (k 0))]
def r3:=[o 9 (.a7 1 0),o 10 (.ld false 1 9),m 8 10]
def r4:=[o 2 (.b9 (k (-1)))]
def r5:=[o 2 (.b9 (k 1))]
def c:=(s (d r0 [0,2]) (s (b 0 (s (d r1 [4,5,6,7]) (i 3 (s (d r2 [1,3]) .ret) (s (d r3 [1,3,9,10]) (i 8 (s (d r4 [8]) .ret) .skip))))) (s (d r5 [8]) .ret)))
end TI
def TI:AFn:=⟨1,TI.c,[.tmp 2],false⟩
namespace TE
def r0:=[o 2 (.box 2 0),o 3 (.box 3 1),o 4 (.alloc 4 [(.bool false),.nil])]
def r1:=[o 5 (.a7 2 0),o 6 (.ld false 1 5),o 7 (.a7 3 0),o 8 (.ld false 1 7),o 9 (.beq false 6 8)]
def r2:=[o 10 (.a7 2 0),o 11 (.ld false 1 10),o 12 (.a7 2 1),o 13 (.ld false 1 12),o 14 (.a7 3 1),o 15 (.ld false 1 14),o 16 (.call 68 [13,15]),
 o 17 (.j7 83 [11,16]),n (.st 2 4 17)]
def r3:=[o 18 (.a7 2 1),o 19 (.ld false 1 18),o 20 (.a7 3 1),o 21 (.ld false 1 20),o 22 (.call 67 [19,21]),o 23 (.bin .eql 22 (k (-1)))]
def r4:=[o 24 (.a7 3 0),o 25 (.ld false 1 24),o 26 (.a7 3 1),o 27 (.ld false 1 26),o 28 (.a7 2 1),o 29 (.ld false 1 28),o 30 (.call 69 [27,29]),
 o 31 (.j7 83 [25,30]),n (.st 2 4 31)]
def r5:=[o 32 (.a7 2 0),o 33 (.ld false 1 32),o 34 (.a7 2 1),o 35 (.ld false 1 34),o 36 (.a7 3 1),o 37 (.ld false 1 36),o 38 (.call 69 [35,37]),
 o 39 (.j7 83 [33,38]),n (.st 2 4 39)]
def c:=(s (d r0 [0,1]) (s (s (d r1 [5,6,7,8]) (i 9 (s (e r2 [2,3,9,10,11,12,13,14,15,16,17]) .ret) .skip)) (s (s (d r3 [9,18,19,20,21,22]) (i 23 (s (e r4 [2,3,23,24,25,26,27,28,29,30,31]) .ret) .skip)) (s (e r5 [2,3,23,32,33,34,35,36,37,38,39]) .ret))))
end TE
def TE:AFn:=⟨2,TE.c,[.cell 4 true 2],false⟩
namespace TG
def r0:=[o 2 (.box 2 0),o 3 (.box 3 1),o 4 (.alloc 4 [(.bool false),.nil])]
def r1:=[o 5 (.a7 2 0),o 6 (.ld false 1 5),o 7 (.a7 3 0),o 8 (.ld false 1 7),o 9 (.beq true 6 8),o 10 (.a7 2 1),o 11 (.ld false 1 10),o 12 (.a7 3 1),
 o 13 (.ld false 1 12),o 14 (.call 70 [11,13]),o 15 (.j7 83 [9,14]),n (.st 2 4 15)]
def c:=(s (d r0 [0,1]) (s (e r1 [2,3,5,6,7,8,9,10,11,12,13,14,15]) .ret))
end TG
def TG:AFn:=⟨2,TG.c,[.cell 4 true 2],false⟩
namespace JN
def r0:=[o 1 (.box 1 0),o 2 (.alloc 2 [(.bool false),.nil,.nil,(.bool false)])]
def r1:=[o 3 (.a7 1 2),o 4 (.ld false 1 3),o 5 (.len 4),o 6 (.bin .eql 5 (k 1)),m 7 6,g 8 7 true (.a7 1 2),g 9 7 true (.ld false 1 8),
 g 10 7 true (.a5 none 1 9 (k 0)),g 11 7 true (.ld false 1 10),g 12 7 true (.bin .eql 11 (.c (.int .u32 (1)))),o 13 (.pick 7 12 (.c (.bool false)))]
def r2:=[o 14 (.a7 1 0),o 15 (.ld true 2 14),o 16 (.a7 1 2),o 17 (.ld false 1 16),o 18 (.build [(.bool false),.nil,.nil] [(0,2,15),(2,1,17)]),
 o 19 (.build [(.bool false),.nil,.nil,(.bool false)] [(0,3,18),(3,1,(.c (.bool true)))]),n (.st 4 2 19)]
def r3:=[o 20 (.a7 1 2),o 21 (.ld false 1 20),o 22 (.call 67 [21,(.c .nil)]),o 23 (.bin .eql 22 (k 0))]
def r4:=[o 24 (.build [(.bool false),.nil] []),o 25 (.g8 25 1 [(.c (.int .u32 (1)))]),o 26 (.build [(.bool false),.nil,.nil] [(0,2,24),(2,1,25)]),
 o 27 (.build [(.bool false),.nil,.nil,(.bool false)] [(0,3,26),(3,1,(.c (.bool true)))]),n (.st 4 2 27)]
def r5:=[o 28 (.a7 1 0),o 29 (.ld true 2 28),o 30 (.a7 1 2),o 31 (.ld false 1 30),o 32 (.build [(.bool false),.nil,.nil] [(0,2,29),(2,1,31)]),
 o 33 (.build [(.bool false),.nil,.nil,(.bool false)] [(0,3,32),(3,1,(.c (.bool false)))]),n (.st 4 2 33)]
def c:=(s (d r0 [0]) (s (s (d r1 [3,4,5,6,7,8,9,10,11,12]) (i 13 (s (d r2 [1,13,14,15,16,17,18,19]) .ret) .skip)) (s (s (d r3 [13,20,21,22]) (i 23 (s (d r4 [1,23,24,25,26,27]) .ret) .skip)) (s (d r5 [1,23,28,29,30,31,32,33]) .ret))))
end JN
def JN:AFn:=⟨1,JN.c,[.cell 2 true 4],false⟩
namespace VD
def r0:=[o 2 (.b9 (.c (.bool false)))]
def r1:=[m 3 0,o 4 (.len 3),o 5 (.bin .eql 4 (k 1)),m 6 5,g 7 6 true (.b9 0),g 8 6 true (.a5 none 1 7 (k 0)),g 9 6 true (.ld false 1 8),
 g 10 6 true (.bin .eql 9 (.c (.int .u32 (1)))),o 11 (.pick 6 10 (.c (.bool false))),m 2 11]
def c:=(s (d r0 [2]) (s (d r1 [0,3,4,5,6,7,8,9,10,11]) .ret))
end VD
def VD:AFn:=⟨1,VD.c,[.tmp 2],false⟩
namespace VE
def r0:=[o 2 (.alloc 2 [(.bool false),.nil])]
def r1:=[m 3 0,o 4 (.build [(.bool false),.nil] [(1,1,3)]),n (.st 2 2 4)]
def c:=(s (p r0) (s (d r1 [0,3,4]) .ret))
end VE
def VE:AFn:=⟨1,VE.c,[.cell 2 true 2],false⟩
namespace HV
def r0:=[o 1 (.box 92001 0),o 2 (.alloc 92002 [(.bool false),.nil,.nil])]
def r1:=[o 3 (.ld true 2 1),o 4 (.g8 92004 1 [(.c (.int .u32 (1)))]),o 5 (.build [(.bool false),.nil,.nil] [(0,2,3),(2,1,4)]),n (.st 3 2 5)]
def c:=(s (d r0 [0]) (s (d r1 [1,3,4,5]) .ret))
end HV
def HV:AFn:=⟨1,HV.c,[.cell 2 true 3],false⟩
namespace N6
def r0:=[o 2 (.box 93002 0),o 3 (.box 93003 1),o 4 (.alloc 93004 [(.bool false),.nil,.nil])]
def r1:=[o 5 (.a7 2 0),o 6 (.ld false 1 5),o 7 (.a7 3 0),o 8 (.ld false 1 7),o 9 (.beq true 6 8),o 10 (.a7 2 1),o 11 (.ld false 1 10),
 o 12 (.build [(.bool false),.nil] [(0,1,9),(1,1,11)]),o 13 (.a7 3 1),o 14 (.ld false 1 13),
 o 15 (.build [(.bool false),.nil,.nil] [(0,2,12),(2,1,14)]),n (.st 3 4 15)]
def c:=(s (d r0 [0,1]) (s (d r1 [2,3,5,6,7,8,9,10,11,12,13,14,15]) .ret))
end N6
def N6:AFn:=⟨2,N6.c,[.cell 4 true 3],false⟩
namespace VF
def r0:=[o 1 (.box 1 0),o 2 (.alloc 2 [(.bool false),.nil,.nil])]
def r1:=[o 14 (.a7 1 0),o 15 (.a7 14 1),o 16 (.ld false 1 15),o 17 (.a7 1 2),o 18 (.ld false 1 17),o 19 (.call 75 [16,18]),m 13 19,o 20 (.ext 13 0),
 o 21 (.ext 13 1),o 22 (.ext 13 2),m 3 20,m 4 21,m 5 22]
def r2:=[m 23 4,o 24 (.len 23),o 25 (.bin .eql 24 (k 0))]
def r3:=[o 26 (.a7 1 0),o 27 (.a7 26 0),o 28 (.ld false 1 27),m 29 3,o 30 (.build [(.bool false),.nil] [(0,1,28),(1,1,29)]),o 31 (.call 84 [30]),
 o 32 (.j7 92 [31]),n (.st 3 2 32)]
def r4:=[o 33 (.a7 1 2),o 34 (.ld false 1 33),m 35 4,o 36 (.call 82 [34,35]),m 6 36]
def r5:=[m 37 6,o 38 (.call 90 [37])]
def r6:=[o 39 (.a7 1 0),o 40 (.ld true 2 39),o 41 (.call 84 [40]),o 42 (.a7 1 2),o 43 (.ld false 1 42),o 44 (.call 66 [43]),
 o 45 (.build [(.bool false),.nil,.nil] [(0,2,41),(2,1,44)]),n (.st 3 2 45)]
def r7:=[o 47 (.a7 1 0),o 48 (.a7 47 1),o 49 (.ld false 1 48),m 50 6,o 51 (.call 75 [49,50]),m 46 51,o 52 (.ext 46 0),o 53 (.ext 46 1),o 54 (.ext 46 2),
 m 7 52,m 8 53,m 9 54]
def r8:=[o 56 (.a7 1 2),o 57 (.ld false 1 56),m 58 6,o 59 (.call 75 [57,58]),m 55 59,o 60 (.ext 55 0),o 61 (.ext 55 1),o 62 (.ext 55 2),m 10 60,m 11 61,
 m 12 62]
def r9:=[o 63 (.a7 1 0),o 64 (.a7 63 0),o 65 (.ld false 1 64),m 66 7,o 67 (.build [(.bool false),.nil] [(0,1,65),(1,1,66)]),m 68 10,
 o 69 (.build [(.bool false),.nil,.nil] [(0,2,67),(2,1,68)]),n (.st 3 2 69)]
def c:=(s (d r0 [0]) (s (d r1 [5,13,14,15,16,17,18,19,20,21,22]) (s (s (d r2 [23,24]) (i 25 (s (d r3 [1,3,4,25,26,27,28,29,30,31,32]) .ret) .skip)) (s (d r4 [3,4,25,33,34,35,36]) (s (s (d r5 [37]) (i 38 (s (e r6 [1,6,38,39,40,41,42,43,44,45]) .ret) .skip)) (s (d r7 [8,9,38,46,47,48,49,50,51,52,53,54]) (s (d r8 [6,11,12,55,56,57,58,59,60,61,62]) (s (d r9 [1,7,10,63,64,65,66,67,68,69]) .ret))))))))
end VF
def VF:AFn:=⟨1,VF.c,[.cell 2 true 3],false⟩
namespace VB
def r0:=[o 1 (.box 1 0),o 2 (.alloc 2 [(.bool false),.nil,.nil])]
def r1:=[o 3 (.ld true 3 1),o 4 (.n6 89 [3]),o 5 (.qa 4 0 3 true),o 6 (.call 94 [5]),n (.st 3 2 6)]
def c:=(s (d r0 [0]) (s (d r1 [1,3,4,5,6]) .ret))
end VB
def VB:AFn:=⟨1,VB.c,[.cell 2 true 3],false⟩
namespace U7
def r0:=[o 2 (.alloc 2 [(.bool false),.nil,.nil])]
def r1:=[m 3 0,o 4 (.call 85 [3]),o 5 (.j7 92 [4]),n (.st 3 2 5)]
def c:=(s (p r0) (s (d r1 [0,3,4,5]) .ret))
end U7
def U7:AFn:=⟨1,U7.c,[.cell 2 true 3],false⟩
namespace U8
def r0:=[o 1 (.box 1 0),o 2 (.b9 (k 0))]
def r1:=[o 3 (.ld true 3 1),o 4 (.n6 89 [3]),o 5 (.qa 4 0 3 true),o 6 (.qa 5 0 2 true),o 7 (.call 86 [6]),m 2 7]
def c:=(s (d r0 [0,2]) (s (d r1 [1,3,4,5,6,7]) .ret))
end U8
def U8:AFn:=⟨1,U8.c,[.tmp 2],false⟩
namespace JM
def r0:=[o 2 (.box 2 0),o 3 (.box 3 1),o 4 (.alloc 4 [(.bool false),.nil,.nil])]
def r1:=[q 8 [5,6] (.ld true 3 2),q 9 [5,6] (.n6 89 [8]),q 10 [5,6] (.ld true 3 3),q 11 [5,6] (.n6 89 [10]),
 o 5 (.alloc 5 [(.bool false),.nil,.nil,(.bool false)]),o 6 (.alloc 6 [(.bool false),.nil,.nil,(.bool false)]),n (.st 4 5 9),n (.st 4 6 11)]
def r2:=[o 12 (.a7 5 3),o 13 (.ld false 1 12),m 14 13,g 15 14 true (.a7 6 3),g 16 14 true (.ld false 1 15),o 17 (.pick 14 16 (.c (.bool false)))]
def r3:=[o 18 (.a7 5 0),o 19 (.a7 18 0),o 20 (.ld true 2 19),o 21 (.a7 6 0),o 22 (.a7 21 0),o 23 (.ld true 2 22),o 24 (.call 87 [20,23]),
 o 25 (.j7 92 [24]),n (.st 3 4 25)]
def r4:=[o 26 (.a7 5 0),o 27 (.a7 26 2),o 28 (.ld false 1 27),o 29 (.a7 6 0),o 30 (.a7 29 2),o 31 (.ld false 1 30),o 32 (.call 67 [28,31]),
 o 33 (.bin .eql 32 (k 0))]
def r5:=[o 34 (.a7 5 0),o 35 (.a7 34 0),o 36 (.ld true 2 35),o 37 (.a7 6 0),o 38 (.a7 37 0),o 39 (.ld true 2 38),o 40 (.call 87 [36,39]),
 o 41 (.a7 5 0),o 42 (.a7 41 2),o 43 (.ld false 1 42),o 44 (.build [(.bool false),.nil,.nil] [(0,2,40),(2,1,43)]),o 45 (.call 94 [44]),
 n (.st 3 4 45)]
def r6:=[o 46 (.a7 5 0),o 47 (.a7 46 0),q 48 [7] (.ld true 2 47),o 49 (.a7 6 0),o 50 (.a7 49 2),q 51 [7] (.ld false 1 50),
 q 52 [7] (.n6 91 [51]),q 53 [7] (.call 88 [48,52]),o 54 (.a7 6 0),o 55 (.a7 54 0),q 56 [7] (.ld true 2 55),
 o 57 (.a7 5 0),o 58 (.a7 57 2),q 59 [7] (.ld false 1 58),q 60 [7] (.n6 91 [59]),q 61 [7] (.call 88 [56,60]),
 q 62 [7] (.call 87 [53,61]),o 7 (.alloc 7 [(.bool false),.nil]),n (.st 2 7 62)]
def r7:=[o 63 (.ld true 2 7),o 64 (.a7 5 0),o 65 (.a7 64 2),o 66 (.ld false 1 65),o 67 (.a7 6 0),o 68 (.a7 67 2),o 69 (.ld false 1 68),
 o 70 (.call 70 [66,69]),o 71 (.build [(.bool false),.nil,.nil] [(0,2,63),(2,1,70)]),o 72 (.call 94 [71]),n (.st 3 4 72)]
def c:=(s (d r0 [0,1]) (s (e r1 [2,3,8,9,10,11]) (s (s (d r2 [12,13,14,15,16]) (i 17 (s (d r3 [5,6,17,18,19,20,21,22,23,24,25]) .ret) .skip)) (s (s (d r4 [17,26,27,28,29,30,31,32]) (i 33 (s (e r5 [5,6,33,34,35,36,37,38,39,40,41,42,43,44,45]) .ret) .skip)) (s (e r6 [33,46,47,48,49,50,51,52,53,54,55,56,57,58,59,60,61,62]) (s (e r7 [5,6,7,63,64,65,66,67,68,69,70,71,72]) .ret))))))
end JM
def JM:AFn:=⟨2,JM.c,[.cell 4 true 3],false⟩
namespace N0
def r0:=[o 2 (.box 2 0),o 3 (.box 3 1),o 4 (.alloc 4 [(.bool false),.nil,.nil])]
def r1:=[q 8 [5,6] (.ld true 3 2),q 9 [5,6] (.n6 89 [8]),q 10 [5,6] (.ld true 3 3),q 11 [5,6] (.n6 89 [10]),
 o 5 (.alloc 5 [(.bool false),.nil,.nil,(.bool false)]),o 6 (.alloc 6 [(.bool false),.nil,.nil,(.bool false)]),n (.st 4 5 9),n (.st 4 6 11)]
def r2:=[o 12 (.a7 5 0),o 13 (.a7 12 0),o 14 (.ld true 2 13),o 15 (.a7 6 0),o 16 (.a7 15 0),o 17 (.ld true 2 16),o 18 (.call 88 [14,17]),
 o 7 (.alloc 7 [(.bool false),.nil]),n (.st 2 7 18)]
def r3:=[o 19 (.a7 5 3),o 20 (.ld false 1 19),m 21 20,g 22 21 true (.a7 6 3),g 23 21 true (.ld false 1 22),o 24 (.pick 21 23 (.c (.bool false)))]
def r4:=[o 25 (.ld true 2 7),o 26 (.j7 92 [25]),n (.st 3 4 26)]
def r5:=[o 27 (.ld true 2 7),o 28 (.a7 5 0),o 29 (.a7 28 2),o 30 (.ld false 1 29),o 31 (.a7 6 0),o 32 (.a7 31 2),o 33 (.ld false 1 32),
 o 34 (.call 70 [30,33]),o 35 (.build [(.bool false),.nil,.nil] [(0,2,27),(2,1,34)]),o 36 (.call 94 [35]),n (.st 3 4 36)]
def c:=(s (d r0 [0,1]) (s (e r1 [2,3,8,9,10,11]) (s (d r2 [12,13,14,15,16,17,18]) (s (s (d r3 [19,20,21,22,23]) (i 24 (s (d r4 [5,6,7,24,25,26]) .ret) .skip)) (s (e r5 [5,6,7,24,27,28,29,30,31,32,33,34,35,36]) .ret)))))
end N0
def N0:AFn:=⟨2,N0.c,[.cell 4 true 3],false⟩
namespace U4
def r0:=[o 2 (.box 2 0),o 3 (.box 3 1),o 4 (.alloc 4 [(.bool false),.nil,.nil]),o 5 (.b9 (k 0))]
def r1:=[q 10 [6,7] (.ld true 3 2),q 11 [6,7] (.n6 89 [10]),q 12 [6,7] (.ld true 3 3),q 13 [6,7] (.n6 89 [12]),
 o 6 (.alloc 6 [(.bool false),.nil,.nil,(.bool false)]),o 7 (.alloc 7 [(.bool false),.nil,.nil,(.bool false)]),n (.st 4 6 11),n (.st 4 7 13)]
def r2:=[o 14 (.a7 7 0),o 15 (.a7 14 0),o 16 (.ld true 2 15),o 17 (.call 86 [16]),o 18 (.bin .eql 17 (k 0))]
def r3:=[o 19 (.build [(.bool false),.nil,.nil] []),n (.st 3 4 19),o 5 (.b9 (k 3))]
def r4:=[o 20 (.a7 6 0),o 21 (.a7 20 0),q 22 [8] (.ld true 2 21),o 23 (.a7 7 0),o 24 (.a7 23 2),q 25 [8] (.ld false 1 24),
 q 26 [8] (.n6 91 [25]),q 27 [8] (.call 88 [22,26]),o 8 (.alloc 8 [(.bool false),.nil]),n (.st 2 8 27)]
def r5:=[o 28 (.a7 6 0),o 29 (.a7 28 2),q 30 [9] (.ld false 1 29),q 31 [9] (.n6 91 [30]),o 32 (.a7 7 0),o 33 (.a7 32 0),
 q 34 [9] (.ld true 2 33),q 35 [9] (.call 88 [31,34]),o 9 (.alloc 9 [(.bool false),.nil]),n (.st 2 9 35)]
def r6:=[o 36 (.ld true 2 8),o 37 (.ld true 2 9),o 38 (.j7 93 [36,37]),o 39 (.call 94 [38]),n (.st 3 4 39),o 5 (.b9 (k 0))]
def c:=(s (d r0 [0,1,5]) (s (e r1 [2,3,10,11,12,13]) (s (s (d r2 [14,15,16,17]) (i 18 (s (d r3 [6,7,18,19]) .ret) .skip)) (s (e r4 [18,20,21,22,23,24,25,26,27]) (s (e r5 [6,7,28,29,30,31,32,33,34,35]) (s (d r6 [8,9,36,37,38,39]) .ret))))))
end U4
def U4:AFn:=⟨2,U4.c,[.cell 4 true 3,.tmp 5],false⟩
structure b7 (L:Lib):Prop extends j4 L where
 DL:L 83=some F.DL
 TJ:L 84=some F.TJ
 TH:L 85=some F.TH
 TI:L 86=some F.TI
 TE:L 87=some F.TE
 TG:L 88=some F.TG
 JN:L 89=some F.JN
 VD:L 90=some F.VD
 VE:L 91=some F.VE
 HV:L 92=some F.HV
 N6:L 93=some F.N6
 VF:L 94=some F.VF
 VB:L 95=some F.VB
 U7:L 96=some F.U7
 U8:L 97=some F.U8
 JM:L 98=some F.JM
 N0:L 99=some F.N0
 U4:L 100=some F.U4
end Go.e8.F
