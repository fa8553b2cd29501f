/-
  A region that draws its order, second part.
-/
import Derived.Test.YtpafclijakpknaaGreatB4
import Derived.Test.YtpafclijakpknaaGreatB1
import Derived.IntWalk
set_option linter.unusedSimpArgs false
set_option linter.unusedVariables false
set_option linter.unnecessarySimpa false
namespace Go.b8
open Go.RowKit
section
variable {C:Cl} {b7:List Nat} {ρ:BL->AV}
theorem Alz {op:H0} (o o':BD) (ht:LT op=false) (hr:lE op=true->o.o5 b7=o'.o5 b7) (j8 : ∀ s,I4 op=some s->o s=o' s):e9 C b7 ρ o op=e9 C b7 ρ o' op:=by
 cases op with
 | te s n x v =>
  have h1:=j8 s rfl;have h2 : ∀ t i j vs,(o.rk s t i j vs).map (λ q=>FB.w6 s (q s))=(o'.rk s t i j vs).map (λ q=>FB.w6 s (q s)):=λ t i j vs=>by
   have hg:o.get s t=o'.get s t:=by unfold BD.get;rw[h1]
   unfold BD.rk;rw[hg];cases o'.get s t with
   | none=>rfl
   | some b =>
    simp only;cases b.es[i]? with
    | none=>rfl
    | some cs =>
     simp only;split
     ·simp only[Option.map_some,BD.l6,h1]
     ·rfl
  simp only[e9,h2]
 | ld agg n x=>have:=hr rfl;simp only[e9,this]
 | call f xs=>have:=hr rfl;simp only[e9,this]
 | q6 s f xs=>have:=hr rfl;simp only[e9,this]
 | dh s f xs=>have h1:=j8 s rfl;simp only[e9,h1]
 | st=>simp [LT]at ht
 | app=>simp [LT]at ht
 | pz=>simp [LT]at ht
 | e8=>simp [LT]at ht
 | q8=>simp [LT]at ht
 | _=>rfl
theorem Acj {op:H0} {o:BD} {E:FB} (h:e9 C b7 ρ o op=some E) {s:Nat} (hs:I4 op=some s):(∃ b v,E = .new s b v\/E = .Df s b v) \/ ∃ x v,E = .w6 s x\/E = .Bg s x v:=by
 cases op with
 | te s' n x v =>
  simp only[I4,Option.some.injEq]at hs;subst hs;simp only[e9]at h;split at h
  ·split at h
   ·simp only[Option.map_eq_some_iff]at h
    obtain ⟨q,_,rfl⟩:=h;exact .inr ⟨_,.any,.inl rfl⟩
   ·cases h
  ·cases h
 | q6 s' f xs =>
  simp only[I4,Option.some.injEq]at hs;subst hs;simp only[e9]at h;split at h
  ·simp only[Option.map_eq_some_iff]at h
   obtain ⟨r,_,rfl⟩:=h;exact .inl ⟨_,_,.inl rfl⟩
  ·cases h
 | dh s' f xs =>
  simp only[I4,Option.some.injEq]at hs;subst hs;simp only[e9,Option.map_eq_some_iff]at h;obtain ⟨p,_,rfl⟩:=h;exact .inr ⟨_,_,.inr rfl⟩
 | bu s' z =>
  simp only[I4,Option.some.injEq]at hs;subst hs;simp only[e9,Option.some.injEq]at h;exact .inl ⟨_,_,.inr h.symm⟩
 | box s' x =>
  simp only[I4,Option.some.injEq]at hs;subst hs;simp only[e9]at h;split at h
  ·simp only[Option.some.injEq]at h;exact .inl ⟨_,_,.inl h.symm⟩
  ·cases h
 | alloc s' z =>
  simp only[I4,Option.some.injEq]at hs;subst hs;simp only[e9,Option.some.injEq]at h;exact .inl ⟨_,_,.inl h.symm⟩
 | a8 s' a7 ps =>
  simp only[I4,Option.some.injEq]at hs;subst hs;simp only[e9]at h;split at h
  ·split at h
   ·simp only[Option.some.injEq]at h;exact .inl ⟨_,_,.inl h.symm⟩
   ·cases h
  ·cases h
 | mk s' a7 bytes z l c =>
  simp only[I4,Option.some.injEq]at hs;subst hs;simp only[e9]at h;split at h
  ·split at h
   ·simp only[Option.some.injEq]at h;exact .inl ⟨_,_,.inl h.symm⟩
   ·cases h
  ·cases h
 | _=>simp [I4]at hs
theorem xG {α:Type} {x:Option α} {f:α->AV} {E:FB} (h:x.map (λ y=>FB.val (f y))=some E) : ∃ v,E = .val v:=by
 cases x with
 | none=>cases h
 | some y=>simp only[Option.map_some,Option.some.injEq]at h;exact ⟨_,h.symm⟩
theorem Ack {op:H0} {o:BD} {E:FB} (h:e9 C b7 ρ o op=some E) (ht:LT op=false) (hs:I4 op=none) : ∃ v,E = .val v:=by
 cases op<;>first|(simp [LT]at ht;done)|(simp [I4]at hs;done)|skip
 all_goals simp only[e9]at h
 all_goals
  first
   | (simp only[Option.some.injEq]at h;exact ⟨_,h.symm⟩)
   | exact xG (f:=id) h
   | skip
 all_goals (repeat' split at h)
 all_goals
  first
   | (cases h;done)
   | (simp only[Option.some.injEq]at h;exact ⟨_,h.symm⟩)
   | exact xG (f:=id) h
   | exact xG (f:=AV.agg) h
   | (simp only[Option.map_eq_some_iff]at h;obtain ⟨cs,_,rfl⟩:=h;exact ⟨_,rfl⟩)
theorem cM {x:AI} {r:H1} {s s':St} (h:dQ C x r s s') (ht:LT x.op=false) (hs:I4 x.op=none) (o:BD):r.own o=o:=by
 unfold H1.own;cases hg:r.g with
 | false=>rfl
 | true =>
  obtain ⟨v,hv⟩:=Ack (h.E hg) ht hs;simp [hv,FB.ay]
theorem yP {x:AI} {r:H1} {s s':St} (h:dQ C x r s s') {q:Nat} (hs:I4 x.op=some q):(∀ o,r.own o=o) \/ ∃ F:E4->E4,∀ o:BD,r.own o=o.put q (F (o q)):=by
 unfold H1.own;cases hg:r.g with
 | false=>exact .inl λ_=>rfl
 | true =>
  rcases Acj (h.E hg) hs with ⟨b,v,hv|hv⟩|⟨x,v,hv|hv⟩
  ·exact .inr ⟨λ q=>q.new b,λ o=>by simp [hv,FB.ay]⟩
  ·exact .inr ⟨λ q=>q.new b,λ o=>by simp [hv,FB.ay]⟩
  ·exact .inr ⟨λ_=>x,λ o=>by simp [hv,FB.ay]⟩
  ·exact .inr ⟨λ_=>x,λ o=>by simp [hv,FB.ay]⟩
theorem Afs {x:AI} {r:H1} {s s':St} (h:dQ C x r s s') {q:Nat} (hs:I4 x.op=some q) {p:Nat} (hp:p≠q) (o:BD):r.own o p=o p:=by
 rcases yP h hs with h1|⟨b,h1⟩
 ·rw[h1]
 ·rw[h1];simp [BD.put,hp]
theorem Ae9 (b:Array Nat) (i j:Nat):N0 b i j=N0 b j i:=by unfold N0;rw[Nat.max_comm,Nat.min_comm]
theorem bJ {ops:Array Oper} {l:List AI} (h:bI ops l=true) {i j:Nat} {x y:AI} (hx:l[i]? = some x) (hy:l[j]? = some y) (m7:i≠j) :
  (N0 (Region.before ops) i j=true\/((∀ t,y.dst=some t->t ∉ fS x)/\(LT x.op=false\/P1 y.op=false)/\(lE x.op=true -> ∀ s,I4 y.op=some s->s∈x.b7))) /\
  (N0 (Region.before ops) i j=true \/ ∀ s s',I4 x.op=some s->I4 y.op=some s'->s≠s'):=by
 simp only[bI,Bool.and_eq_true]at h;have h1:=h.1.1;rw[List.all_eq_true]at h1;have Iw:(x,i)∈l.zipIdx:=List.mem_zipIdx_iff_getElem?.2 hx;have hym:(y,j)∈l.zipIdx:=List.mem_zipIdx_iff_getElem?.2 hy;have h2:=h1 (x,i) Iw;simp only at h2;rw[List.all_eq_true]at h2;have h3:=h2 (y,j) hym;simp only[Bool.and_eq_true,Bool.or_eq_true,beq_iff_eq,m7,false_or]at h3;obtain ⟨h4,h5⟩:=h3;refine ⟨?_,h5.imp id λ h5 s s' hs xj => ?_⟩
 ·unfold Aff at h4
  simp only[Bool.or_eq_true,beq_iff_eq,m7,false_or]at h4;refine h4.imp id λ h6 => ?_
  simp only[Bool.and_eq_true,Bool.or_eq_true,Bool.not_eq_true']at h6;obtain ⟨⟨h7,h8⟩,h9⟩:=h6;refine ⟨λ t ht => ?_,h8,λ hr s hs => ?_⟩
  ·rw[ht]at h7
   simpa using h7
  ·rw[hr,hs]at h9
   simpa using h9
 ·rw[hs,xj]at h5
  simpa using h5
structure mN (C:Cl) (ops:Array Oper) (l:List AI) (σ:Nat->St) (rs:List H1):Prop where
 ok:bI ops l=true
 len:rs.length=l.length
 fits : ∀ (k:Nat) (x:AI) (r:H1),l[k]? = some x->rs[k]? = some r->dQ C x r (σ k) (σ (k+1))
variable {ops:Array Oper} {l:List AI} {σ:Nat->St} {rs:List H1}
theorem vV {X:Nat->Bool} : ∀ (l:List H1) (k:Nat) (x:D),(∀ i,i<l.length->X (k+i)=false)->HO X l k x=x
 | [],_,_,_=>rfl
 | r::q,k,x,h=>by
  simp only[HO];rw[show X k=false by simpa using h 0 (by simp)];exact vV q (k+1) _ λ i hi=>by
   have:=h (i+1) (by simpa using hi)
   rw[show k+1+i=k+(i+1) by omega];exact this
def d0 (σ:Nat->St):D:=(g7 (σ 0).tm,(σ 0).own)
theorem uM (h:mN C ops l σ rs) : ∀ k,k<=l.length->HO (λ j=>decide (j<k)) rs 0 (d0 σ)=(g7 (σ k).tm,(σ k).own)
 | 0,_=>vV rs 0 _ λ i _=>by simp
 | k+1,hk=>by
  have Fy:k<l.length:=by omega
  have hkr:k<rs.length:=by rw[h.len];exact Fy
  have hr:rs[k]? = some rs[k]:=zE hkr;have hf:=h.fits k l[k] rs[k] (zE Fy) hr;rw[Adu (X:=λ j=>decide (j<k)) (X':=λ j=>decide (j<k+1)) hr (by simp) (λ j=>by
   by_cases h1:j=k
   ·simp [h1]
   ·simp [h1];omega) _ (λ j r' _ l7 hX=>by simp at hX;omega),uM h k (by omega)]
  exact hf.act.symm
section
variable {X:Nat->Bool} {i:Nat} {x:AI} {r:H1}
theorem Afb (hX:dP ops X) (ot:X i=false) (gi : ∀ o,ops[i]? = some o -> ∀ e∈o.after,Region.binds .any e=true->X e.on=true) {j:Nat} (m7:i≠j) (ho:N0 (Region.before ops) i j=true):X j=decide (j<i):=by
 rcases Nat.lt_or_gt_of_ne m7 with l7|se
 ·have:X j=false:=by
   cases hj:X j with
   | false=>rfl
   | true=>have:=Afa hX hj l7 ho;rw[ot]at this;cases this
  rw[this];simp;omega
 ·rw[Apu hX gi se ho];simp;omega
theorem Alj (h:mN C ops l σ rs) (hx:l[i]? = some x) (hr:rs[i]? = some r) (hX:dP ops X) (ot:X i=false) (gi : ∀ o,ops[i]? = some o -> ∀ e∈o.after,Region.binds .any e=true->X e.on=true) :
  Q9 (HO X rs 0 (d0 σ)).1 x.guard=some r.g/\(r.g=true->e9 C x.b7 (IO (HO X rs 0 (d0 σ)).1) (HO X rs 0 (d0 σ)).2 x.op=some r.E) /\
  (if r.g then r.E.valOf (HO X rs 0 (d0 σ)).2 else .g8 [])=r.v /\
  ∀ X':Nat->Bool,(∀ j,X' j=(decide (j=i)||X j))->HO X' rs 0 (d0 σ)=r.act (HO X rs 0 (d0 σ)):=by
 have im:i<l.length:=(zS hx).1;have hf:=h.fits i x r hx hr;have Ei:=uM h i (by omega);generalize hT:HO X rs 0 (d0 σ)=TX;have nm : ∀ (j:Nat) (r':H1),rs[j]? = some r' -> ∃ y,l[j]? = some y/\dQ C y r' (σ j) (σ (j+1)):=λ j r' hj=>by
  have gu:j<l.length:=by rw[<-h.len];exact (zS hj).1
  exact ⟨l[j],zE gu,h.fits j _ _ (zE gu) hj⟩
 have Ef : ∀ t∈fS x,TX.1 t=g7 (σ i).tm t:=λ t ht=>by
  have:=Adw (X:=X) (Y:=λ j=>decide (j<i)) (t:=t) rs 0 (d0 σ) (d0 σ) rfl (λ j r' hj hd=>by
   simp only[Nat.zero_add];by_cases m7:i=j
   ·subst m7;simp [ot]
   ·obtain ⟨y,hy,ka⟩:=nm j r' hj
    rcases (bJ h.ok hx hy m7).1 with ho|⟨h1,_⟩
    ·exact Afb hX ot gi m7 ho
    ·exact absurd ht (h1 t (by rw[<-ka.d];exact hd)))
  rw[hT,Ei]at this;exact this
 have Mo : ∀ t∈M6 x.op,TX.1 t=g7 (σ i).tm t:=λ t ht=>Ef t (by simp [fS,ht])
 have ig : ∀ s,(∀ (j:Nat) (y:AI) (r':H1),i≠j->l[j]? = some y->rs[j]? = some r'->N0 (Region.before ops) i j=true \/ ∀ o,r'.own o s=o s)->TX.2 s=(σ i).own s:=λ s hs=>by
  have:=Adv (X:=X) (Y:=λ j=>decide (j<i)) (s:=s) rs 0 (d0 σ) (d0 σ) rfl (λ j r' hj=>by
   simp only[Nat.zero_add];by_cases m7:i=j
   ·subst m7;left;simp [ot]
   ·obtain ⟨y,hy,ka⟩:=nm j r' hj
    rcases hs j y r' m7 hy hj with ho|ho
    ·exact .inl (Afb hX ot gi m7 ho)
    ·exact .inr ho)
  rw[hT,Ei]at this;exact this
 have qm : ∀ (j:Nat) (y:AI) (r':H1),l[j]? = some y->rs[j]? = some r'->P1 y.op=false -> ∀ o,r'.own o=o:=λ j y r' hy hj hm o=>by
  simp only[P1,Bool.or_eq_false_iff]at hm;exact cM (h.fits j y r' hy hj) hm.1.1 (by simpa using hm.2) o
 have Md : ∀ (j:Nat) (y:AI),i≠j->l[j]? = some y->LT y.op=true->P1 x.op=true->N0 (Region.before ops) i j=true:=λ j y m7 hy ht mc=>by
  rcases (bJ h.ok hy hx (Ne.symm m7)).1 with ho|⟨_,h2,_⟩
  ·rw[Ae9];exact ho
  ·rw[ht,mc]at h2;simp at h2
 have hg:Q9 TX.1 x.guard=some r.g:=by
  rw[<-hf.g];cases Ib:x.guard with
  | none=>rfl
  | some gw =>
   obtain ⟨g,w⟩:=gw;simp only[Q9];rw[Ef g (by simp [fS,Ib])]
 have Ek:LT x.op=true->TX.2=(σ i).own:=λ ht=>by
  funext s
  refine ig s λ j y r' m7 hy hj => ?_
  cases hm:P1 y.op with
  | false=>exact .inr λ o=>by rw[qm j y r' hy hj hm o]
  | true =>
   rcases (bJ h.ok hx hy m7).1 with ho|⟨_,h2,_⟩
   ·exact .inl ho
   ·rw[ht,hm]at h2;simp at h2
 have Lz:lE x.op=true->TX.2.o5 x.b7=(σ i).own.o5 x.b7:=λ oz=>by
  refine An2 λ s hs=>ig s λ j y r' m7 hy hj => ?_
  have mc:P1 x.op=true:=by simp [P1,oz]
  cases ht:LT y.op with
  | true=>exact .inl (Md j y m7 hy ht mc)
  | false =>
   cases pc:I4 y.op with
   | none=>exact .inr λ o=>by rw[cM (h.fits j y r' hy hj) ht pc o]
   | some q =>
    rcases (bJ h.ok hx hy m7).1 with ho|⟨_,_,h3⟩
    ·exact .inl ho
    ·exact .inr λ o=>Afs (h.fits j y r' hy hj) pc (p:=s) (λ e=>hs (by rw[e];exact h3 oz q pc)) o
 have qt : ∀ s,I4 x.op=some s->TX.2 s=(σ i).own s:=λ s Ac=>by
  have mc:P1 x.op=true:=by simp [P1,Ac]
  exact ig s λ j y r' m7 hy hj=>by
   cases ht:LT y.op with
   | true=>exact .inl (Md j y m7 hy ht mc)
   | false =>
    cases pc:I4 y.op with
    | none=>exact .inr λ o=>by rw[cM (h.fits j y r' hy hj) ht pc o]
    | some q =>
     rcases (bJ h.ok hx hy m7).2 with ho|Gx
     ·exact .inl ho
     ·exact .inr λ o=>Afs (h.fits j y r' hy hj) pc (Gx s q Ac pc) o
 have Ue:r.g=true->e9 C x.b7 (IO TX.1) TX.2 x.op=some r.E:=λ dz=>by
  rw[Alw Mo,<-hf.E dz];cases ht:LT x.op with
  | true=>rw[Ek ht]
  | false=>exact Alz _ _ ht Lz qt
 have hval:(if r.g then r.E.valOf TX.2 else .g8 [])=r.v:=by
  rw[hf.v];cases hgv:r.g with
  | false=>rfl
  | true =>
   simp only[if_true];cases Ac:I4 x.op with
   | none =>
    cases ht:LT x.op with
    | true=>rw[Ek ht]
    | false =>
     obtain ⟨v,hv⟩:=Ack (hf.E hgv) ht Ac;rw[hv];rfl
   | some s =>
    have Gx:=qt s Ac;rcases Acj (hf.E hgv) Ac with ⟨b,v,hv|hv⟩|⟨x,v,hv|hv⟩<;>rw[hv]<;>simp only[FB.valOf,BD.j5,Gx]
 refine ⟨hg,Ue,hval,λ X' As => ?_⟩;rw[<-hT];refine Adu hr ot As _ λ j r' hj l7 Sz z => ?_
 obtain ⟨y,hy,ka⟩:=nm j r' hj;have m7:i≠j:=by omega
 have iu : ¬ N0 (Region.before ops) i j=true:=λ ho=>by
  have:=Afa hX Sz l7 ho
  rw[ot]at this;cases this
 obtain ⟨Vs,Pj⟩:=bJ h.ok hx hy m7;obtain ⟨Ec,Io⟩:=bJ h.ok hy hx (Ne.symm m7);have hp:=Vs.resolve_left iu;have hq:=Ec.resolve_left (by rw[Ae9];exact iu);unfold H1.act;refine Prod.ext ?_ ?_
 ·funext t
  simp only[OY];by_cases h1:r'.d=some t<;>by_cases h2:r.d=some t
  ·exact absurd (by rw[hf.d]at h2;simp [fS,h2]) (hp.1 t (by rw[<-ka.d];exact h1))
  ·simp [h1,h2]
  ·simp [h1,h2]
  ·simp [h1,h2]
 ·show r'.own (r.own z.2)=r.own (r'.own z.2)
  cases mc:P1 x.op with
  | false=>rw[qm i x r hx hr mc,qm i x r hx hr mc]
  | true =>
   cases Cb:P1 y.op with
   | false=>rw[qm j y r' hy hj Cb,qm j y r' hy hj Cb]
   | true =>
    have htx:LT x.op=false:=by
     rcases hp.2.1 with h1|h1
     ·exact h1
     ·rw[Cb]at h1;cases h1
    have hty:LT y.op=false:=by
     rcases hq.2.1 with h1|h1
     ·exact h1
     ·rw[mc]at h1;cases h1
    cases Ac:I4 x.op with
    | none=>rw[cM hf htx Ac,cM hf htx Ac]
    | some s =>
     cases pc:I4 y.op with
     | none=>rw[cM ka hty pc,cM ka hty pc]
     | some s' =>
      have Gx:=(Pj.resolve_left iu) s s' Ac pc;rcases yP hf Ac with h1|⟨b,h1⟩
      ·rw[h1,h1]
      ·rcases yP ka pc with h2|⟨b',h2⟩
       ·rw[h2,h2]
       ·rw[h1,h2,h2,h1]
        funext q
        simp only[BD.put];by_cases Ly:q=s<;>by_cases Gp:q=s'
        ·exact absurd (Ly.symm.trans Gp) Gx
        ·simp [Ly,Gx]
        ·simp [Gp,Ne.symm Gx]
        ·simp [Ly,Gp]
end
end
end Go.b8
namespace Go.b8
open Go.RowKit
section
variable {ops:Array Oper} {md:Region.Mode}
theorem Aju {e:Edge} (h:Region.binds .any e=true) (md:Region.Mode):Region.binds md e=true:=by
 unfold Region.binds at *;split at h<;>simp_all
theorem Aeq (ops:Array Oper) (md:Region.Mode) : ∀ (fuel t:Nat) (a9:Array Bool),a9.size=ops.size -> ∀ (k i:Nat),(Region.linearise.go md ops fuel t a9 [])[k]? = some i ->
  ∃ o,ops[i]? = some o /\ ∀ e∈o.after,Region.binds md e=true->a9.getD e.on false=true\/e.on∈(Region.linearise.go md ops fuel t a9 []).take k
 | 0,t,a9,hs,k,i,h=>by simp [Region.linearise.go]at h
 | fuel+1,t,a9,hs,k,i,h=>by
  have Aw:Region.linearise.go md ops (fuel+1) t a9 []=match (Region.ready md ops a9)[t%(Region.ready md ops a9).length]? with
   | some i=>i::Region.linearise.go md ops fuel (t/(Region.ready md ops a9).length) (a9.setIfInBounds i true) []
   | none=>[]:=by
   simp only[Region.linearise.go];change (match (Region.ready md ops a9)[t%(Region.ready md ops a9).length]? with
    | some i=>Region.linearise.go md ops fuel (t/(Region.ready md ops a9).length) (a9.setIfInBounds i true) [i]
    | none=>[].reverse)=_
   cases (Region.ready md ops a9)[t%(Region.ready md ops a9).length]? with
   | none=>rfl
   | some i=>simp only[];rw[linearise_go_acc];rfl
  rw[Aw]at h ⊢;cases hr:(Region.ready md ops a9)[t%(Region.ready md ops a9).length]? with
  | none=>rw[hr]at h;simp at h
  | some q =>
   rw[hr]at h;simp only at h ⊢;obtain ⟨_,oq,hoq,hq⟩:=mem_ready.1 (zM hr);cases k with
   | zero =>
    simp at h;subst h;exact ⟨oq,hoq,λ e he hb => .inl (hq e he hb)⟩
   | succ k =>
    simp at h;obtain ⟨o,ho,hh⟩:=Aeq ops md fuel _ _ (by simpa using hs) k i h;refine ⟨o,ho,λ e he hb => ?_⟩;rcases hh e he hb with h1|h1
    ·by_cases heq:e.on=q
     ·right;simp [heq]
     ·left
      rw[getD_set_ne false (Ne.symm heq)]at h1;exact h1
    ·right;simp [h1]
theorem vM {p:Nat->Bool} : ∀ (l:List Nat),(∃ i∈l,p i=false) -> ∃ k i,l[k]? = some i/\p i=false /\ ∀ j∈l.take k,p j=true
 | [],⟨i,hi,_⟩=>by simp at hi
 | x::r,⟨i,hi,hp⟩=>by
  cases hx:p x with
  | false=>exact ⟨0,x,rfl,hx,by simp⟩
  | true =>
   have : ∃ i∈r,p i=false:=by
    rcases List.mem_cons.1 hi with h|h
    ·subst h;rw[hx]at hp;cases hp
    ·exact ⟨i,h,hp⟩
   obtain ⟨k,j,h1,h2,h3⟩:=vM r this;refine ⟨k+1,j,by simpa using h1,h2,λ q hq => ?_⟩;simp only[List.take_succ_cons,List.mem_cons]at hq;rcases hq with h|h
   ·subst h;exact hx
   ·exact h3 q h
theorem progress {l:List AI} (hd:bI ops l=true) (Gi:md = .gc->Region.departs ops=true) {a9:Array Bool} (hs:a9.size=ops.size) (hr:Region.ready md ops a9=[]) : ∀ j,j<ops.size->a9.getD j false=true:=by
 intro j hj;cases gu:a9.getD j false with
 | true=>rfl
 | false =>
  exfalso;simp only[bI,Bool.and_eq_true]at hd;obtain ⟨⟨_,lu⟩,zk⟩:=hd;have ri : ∀ i,i<ops.size->a9.getD i false=false -> ¬ ∀ o,ops[i]? = some o -> ∀ e∈o.after,Region.binds md e=true->a9.getD e.on false=true:=λ i hi hl tv=>by
   have:i∈Region.ready md ops a9:=mem_ready.2 ⟨by
    have:i<a9.size:=by omega
    simp [Array.getD,this]at hl ⊢;exact hl,ops[i],Array.getElem?_eq_getElem hi,λ e he hb=>tv ops[i] (Array.getElem?_eq_getElem hi) e he hb⟩
   rw[hr]at this;simp at this
  by_cases Oq:md = .gc
  ·subst Oq
   rw[Gi rfl]at zk;simp only[Bool.not_true,Bool.false_or,List.all_eq_true,List.mem_range,List.contains_iff_mem]at zk;obtain ⟨k,i,h1,h2,h3⟩:=vM (p:=λ q=>a9.getD q false) (Region.linearise .gc ops 0) ⟨j,zk j hj,gu⟩;obtain ⟨o,ho,hh⟩:=Aeq ops .gc ops.size 0 (Array.replicate ops.size false) (by simp) k i h1;have hi:i<ops.size:=(Array.getElem?_eq_some_iff.1 ho).1;refine ri i hi h2 λ o' Cg e he hb => ?_
   rw[ho]at Cg;obtain rfl:o=o':=by simpa using Cg
   rcases hh e he hb with h4|h4
   ·simp [Array.getD]at h4
   ·exact h3 e.on h4
  ·obtain ⟨k,i,h1,h2,h3⟩:=vM (p:=λ q=>a9.getD q false) (List.range ops.size) ⟨j,by simpa using hj,gu⟩
   have Lk:i=k:=by
    have Fy:k<ops.size:=by have:=(zS h1).1;simpa using this
    rw[List.getElem?_range Fy]at h1;simpa using h1.symm
   subst Lk;have hi:i<ops.size:=by have:=(zS h1).1;simpa using this
   refine ri i hi h2 λ o ho e he hb => ?_
   rw[List.all_eq_true]at lu;have oa:(o,i)∈ops.toList.zipIdx:=List.mem_zipIdx_iff_getElem?.2 (by simpa using ho);have h4:=lu (o,i) oa;simp only[Array.all_eq_true_iff_forall_mem,Bool.or_eq_true,decide_eq_true_eq]at h4;rcases h4 e he with h5|h5
   ·exact h3 e.on (by rw[List.take_range];simp;omega)
   ·exfalso
    unfold Region.binds at hb;split at h5
    ·rename_i row Gv
     rw[Gv]at hb;simp at hb;exact Oq hb
    ·cases h5
variable {B:Nat} {S:Nat->Prop} {w0:World} {m0:M} {N:Nat}
variable {P:Program} {num:Nat->Nat} {C:Cl} {Q:Exit->Act->World->Prop}
def dD (a9:Array Bool) (n:Nat):Nat:=(List.range n).countP (λ j => !a9.getD j false)
theorem Zw {α:Type} {p q:α->Bool} : ∀ {l:List α} {x:α},(∀ y∈l,q y=true->p y=true)->x∈l->p x=true->q x=false->l.countP q<l.countP p
 | [],x,_,hx,_,_=>by simp at hx
 | y::r,x,h,hx,hp,hq=>by
  have hle:r.countP q<=r.countP p:=List.countP_mono_left λ z hz hqz=>h z (by simp [hz]) hqz
  rw[List.countP_cons,List.countP_cons];rcases List.mem_cons.1 hx with rfl|hx
  ·simp only[hp,hq,if_true,Bool.false_eq_true,if_false]
   omega
  ·have:=Zw (l:=r) (λ z hz=>h z (by simp [hz])) hx hp hq
   by_cases Wf:q y=true
   ·simp only[Wf,h y (by simp) Wf,if_true];omega
   ·simp only[Wf,Bool.false_eq_true,if_false]
    split<;>omega
theorem ArE (hC:L8 P num C) {l:List AI} (k6:YW P num N ops ops.toList l=true) {σ:Nat->St} {rs:List H1} (h:mN C ops l σ rs) (Gi:md = .gc->Region.departs ops=true)
  (hQ : ∀ m' a',m'.own=(σ l.length).own->KB B S w0 m0 N (g7 (σ l.length).tm) m' a'->Q .normal a' m'.w) :
  ∀ (fuel:Nat) (a9:Array Bool) (a:Act) (m:M),a9.size=ops.size->dD a9 ops.size<=fuel->dP ops (λ j=>a9.getD j false)->m.own=(HO (λ j=>a9.getD j false) rs 0 (d0 σ)).2->KB B S w0 m0 N (HO (λ j=>a9.getD j false) rs 0 (d0 σ)).1 m a->wpAny P md ops Q fuel a9 a m.w:=by
 have hlen:ops.size=l.length:=by have:=(kS k6).1;simpa using this
 have final : ∀ (a9:Array Bool) (a:Act) (m:M),(∀ j,j<ops.size->a9.getD j false=true)->m.own=(HO (λ j=>a9.getD j false) rs 0 (d0 σ)).2->KB B S w0 m0 N (HO (λ j=>a9.getD j false) rs 0 (d0 σ)).1 m a->Q .normal a m.w:=λ a9 a m tv k9 hf=>by
  have:HO (λ j=>a9.getD j false) rs 0 (d0 σ)=(g7 (σ l.length).tm,(σ l.length).own):=by
   rw[<-uM h l.length (Nat.le_refl _)];refine pC rs 0 _ λ i hi => ?_
   simp only[Nat.zero_add];rw[tv i (by rw[hlen,<-h.len];exact hi)];simp;rw[<-h.len];exact hi
  rw[this]at k9 hf;exact hQ m a k9 hf
 have Jm : ∀ a9:Array Bool,dD a9 ops.size<=0 -> ∀ j,j<ops.size->a9.getD j false=true:=λ a9 h0 j hj=>by
  have h1:dD a9 ops.size=0:=by omega
  unfold dD at h1;rw[List.countP_eq_zero]at h1;simpa using h1 j (by simpa using hj)
 intro fuel;induction fuel with
 | zero =>
  intro a9 a m z8 hn Tv k9 hf;refine ⟨?_,final a9 a m (Jm a9 hn) k9 hf⟩;cases hr:Region.ready md ops a9 with
  | nil=>rfl
  | cons i r =>
   obtain ⟨h1,o,ho,_⟩:=mem_ready.1 (show i∈Region.ready md ops a9 by rw[hr];simp);have hi:i<ops.size:=(Array.getElem?_eq_some_iff.1 ho).1;have h2:=Jm a9 hn i hi;have im:i<a9.size:=by omega
   simp [Array.getD,im]at h1 h2;rw[h1]at h2;cases h2
 | succ fuel ih =>
  intro a9 a m z8 hn Tv k9 hf;refine ⟨λ hr=>final a9 a m (progress h.ok Gi z8 hr) k9 hf,λ i hi => ?_⟩;obtain ⟨h1,o,ho,Ft⟩:=mem_ready.1 hi;have hio:i<ops.size:=(Array.getElem?_eq_some_iff.1 ho).1;have im:i<a9.size:=by omega
  have vb:a9.getD i false=false:=by
   simp [Array.getD,im]at h1 ⊢;exact h1
  have zl:i<l.length:=by omega
  have gj:i<rs.length:=by rw[h.len];exact zl
  have hx:l[i]? = some l[i]:=zE zl;have hr:rs[i]? = some rs[i]:=zE gj;have gi : ∀ o',ops[i]? = some o' -> ∀ e∈o'.after,Region.binds .any e=true->a9.getD e.on false=true:=λ o' Cg e he hb=>by
   rw[ho]at Cg;obtain rfl:o=o':=by simpa using Cg
   exact Ft e he (Aju hb md)
  obtain ⟨g1,g2,g3,g4⟩:=Alj h hx hr Tv vb gi;have Vo:=(kS k6).2 i o l[i] (by simpa using ho) hx;have As : ∀ j,(a9.setIfInBounds i true).getD j false=(decide (j=i)||a9.getD j false):=λ j=>by
   by_cases Uv:j=i
   ·subst Uv;simp [Array.getD,im]
   ·rw[getD_set_ne false (Ne.symm Uv)];simp [Uv]
  refine Ahg hC ho Vo hf g1 (λ hg=>by rw[k9];exact g2 hg) λ m' a' nq ql => ?_
  have me:=g4 _ As;refine ih (a9.setIfInBounds i true) a' m' (by simpa using z8) ?_ ?_ ?_ ?_
  ·have l7:dD (a9.setIfInBounds i true) ops.size<dD a9 ops.size:=by
    refine Zw (x:=i) (λ j _ hj => ?_) (by simpa using hio) (by simp [vb]) (by rw[As];simp);rw[As]at hj;simp at hj ⊢;exact hj.2
   omega
  ·intro j oj hj Pf e he hb
   change (a9.setIfInBounds i true).getD j false=true at hj;show (a9.setIfInBounds i true).getD e.on false=true;rw[As]at hj ⊢;simp only[Bool.or_eq_true,decide_eq_true_eq]at hj ⊢;rcases hj with rfl|hj
   ·exact .inr (gi oj Pf e he hb)
   ·exact .inr (Tv j oj hj Pf e he hb)
  ·rw[me,nq,k9]
   rfl
  ·rw[me]
   rw[k9,g3]at ql;have hd:(l[i]).dst=(rs[i]).d:=(h.fits i _ _ hx hr).d.symm;rw[hd]at ql;exact ql
theorem ArF (hC:L8 P num C) {id:Nat} {l:List AI} (k6:YW P num N ops ops.toList l=true) (hd:bI ops l=true) {st k8:St} (j8:G1 C l st=some k8) {m:M} {a:Act} (k9:m.own=st.own) (hf:KB B S w0 m0 N (g7 st.tm) m a)
  (hQ : ∀ m' a',m'.own=k8.own->KB B S w0 m0 N (g7 k8.tm) m' a'->Q .normal a' m'.w):(Code.region id ops true).wp P Q a m.w:=by
 obtain ⟨σ,rs,h0,h1,hl,h2⟩:=trace j8;have hD:mN C ops l σ rs:=⟨hd,hl,h2⟩;obtain ⟨ki,Lg⟩:=grow hf.mem ((Below.refl m.w.heap.size m.w).drew);have yv:KB B S w0 m0 N (g7 st.tm) ⟨m.ν,m.own,m.w.drew⟩ a:=⟨ki,hf.ext.trans Lg,λ i=>Lg.cv (hf.tm i),hf.size,hf.defers⟩;have Nk:HO (λ j=>(Array.replicate ops.size false).getD j false) rs 0 (d0 σ)=d0 σ:=vV rs 0 _ λ i _=>by simp [Array.getD]
 have key : ∀ md:Region.Mode,(md = .gc->Region.departs ops=true) -> ∀ t,wpOps P ops Q (Region.linearise md ops t) a m.w.drew:=λ md Gi t=>by
  refine wpAny_sound ops.size t (Array.replicate ops.size false) a m.w.drew ?_;refine ArE hC k6 hD Gi (by rw[h1];exact hQ) ops.size _ a ⟨m.ν,m.own,m.w.drew⟩ (by simp) ?_ ?_ ?_ ?_
  ·unfold dD
   exact Nat.le_trans List.countP_le_length (by simp)
  ·intro j o hj
   simp [Array.getD]at hj
  ·rw[Nk];simp [d0,h0,k9]
  ·rw[Nk];simpa [d0,h0] using yv
 refine wp_region_draw λ t => ?_
 change wpOps P ops Q _ a m.w.drew;unfold Region.schedule;split
 ·exact key .any (λ h=>by cases h) t
 ·rename_i Le
  have On:Region.departs ops=true:=by simp at Le;exact Le.2
  split
  ·exact key .text (λ_=>On) _
  ·exact key .gc (λ_=>On) _
end
end Go.b8

namespace Go.b8
open Go.RowKit
section
variable {B:Nat} {S:Nat->Prop} {w0:World} {m0:M} {N:Nat}
variable {P:Program} {num:Nat->Nat} {C:Cl}
theorem Ard (m:Tm) (l:List Nat) (j:Nat):g7 (ch m l) j=g7 m j\/g7 (ch m l) j = .any:=by
 induction m with
 | nil=>exact .inl rfl
 | cons x r ih =>
  obtain ⟨i,v⟩:=x;simp only[ch];split
  ·by_cases h:j=i
   ·subst h
    rename_i hc;right
    clear ih;induction r with
    | nil=>rfl
    | cons y q ih =>
     obtain ⟨k,u⟩:=y;simp only[ch];split
     ·exact ih
     ·rename_i hk
      have : ¬ j=k:=λ e=>by subst e;exact hk hc
      simp only[g7,if_neg this];exact ih
   ·rcases ih with h1|h1
    ·left;simp only[g7,if_neg h];exact h1
    ·right;exact h1
  ·by_cases h:j=i
   ·left;simp [g7,h]
   ·simp only[g7,if_neg h]
    exact ih
inductive NQ (P:Program) (num:Nat->Nat) (N:Nat):List It->List Item->Prop
 | nil:NQ P num N [] []
 | code {c:Code} {a:DD} {k:List It} {t:List Item} (h:JD P num N c a=true) (hk:NQ P num N k t):NQ P num N (.code a::k) (.code c::t)
 | drop {ts ss:List Nat} {k:List It} {t:List Item} (hk:NQ P num N k t):NQ P num N (.rm ts ss::k) t
 | c9 {id:Nat} {k:List It} {t:List Item} (hk:NQ P num N k t):NQ P num N (.c9 id::k) (.inBlock id::t)
 | lp {c:Code} {a:DD} {k:List It} {t:List Item} (h:JD P num N c a=true) (hk:NQ P num N k t):NQ P num N (.lp a::k) (.inLoop c::t)
 | scope {c:Code} {k:List It} {t:List Item} (hk:NQ P num N k t):NQ P num N k (.inScope c::t)
theorem Agl {b:Frame} {a:Act} {k:List Item} {cs:List Frame} {w:World} {c:Code}:step P (lone (b.at a (.inScope c::k)) cs w) = .next (lone (b.at a k) cs w) :=
 step_lone_go (by simp [stepG,stepG.exec,Frame.at])
theorem AqV {b:Frame} {a:Act} {k:List Item} {cs:List Frame} {w:World} {c:Code}:step P (lone (b.at a (.code (.scope c)::k)) cs w) = .next (lone (b.at a (.code c :: .inScope c::k)) cs w) :=
 step_lone_go (by simp [stepG,stepG.exec,Frame.at])
theorem eT {id:Nat} : ∀ {k:List It} {t:List Item},NQ P num N k t -> ∀ {k':List It},J7 id k=some k' -> ∃ t',exitTo id t=some t'/\NQ P num N k' t'
 | _,_,.nil,k',h=>by simp [J7]at h
 | _,_,.code h0 hk,k',h=>by
  simp only[J7]at h;obtain ⟨t',h1,h2⟩:=eT hk h;exact ⟨t',by simpa [exitTo] using h1,h2⟩
 | _,_,.drop hk,k',h=>by
  simp only[J7]at h;exact eT hk h
 | _,_,.c9 (id:=Pu) hk,k',h=>by
  simp only[J7]at h;split at h
  ·rename_i he
   subst he;simp only[Option.some.injEq]at h;subst h;exact ⟨_,by simp [exitTo],hk⟩
  ·rename_i he
   obtain ⟨t',h1,h2⟩:=eT hk h;exact ⟨t',by simpa [exitTo,he] using h1,h2⟩
 | _,_,.lp h0 hk,k',h=>by
  simp only[J7]at h;obtain ⟨t',h1,h2⟩:=eT hk h;exact ⟨t',by simpa [exitTo] using h1,h2⟩
 | _,_,.scope hk,k',h=>by
  obtain ⟨t',h1,h2⟩:=eT hk h;exact ⟨t',by simpa [exitTo] using h1,h2⟩
def Ze (B:Nat) (S:Nat->Prop) (w0:World) (m0:M) (N:Nat) (P:Program) (b:Frame) (cs:List Frame) (Xl:Machine) (k8:St):Prop :=
 ∃ a' m' o8,Steps P Xl (lone { b.at a' o8 with mode := .returning } cs m'.w)/\m'.own=k8.own/\KB B S w0 m0 N (g7 k8.tm) m' a'
theorem Aqm (hC:L8 P num C) (b:Frame) (cs:List Frame) : ∀ (n:Nat) (k:List It) (st k8:St),run C n k st=some k8 -> ∀ (t:List Item),NQ P num N k t -> ∀ (m:M) (a:Act),m.own=st.own->KB B S w0 m0 N (g7 st.tm) m a ->
  Ze B S w0 m0 N P b cs (lone (b.at a t) cs m.w) k8:=by
 intro n;induction n with
 | zero=>intro k st k8 h;simp [run]at h
 | succ n ih =>
  intro k st k8 h t ht;have fin : ∀ (t:List Item),NQ P num N [] t -> ∀ (m:M) (a:Act),m.own=st.own->KB B S w0 m0 N (g7 st.tm) m a->st=k8->Ze B S w0 m0 N P b cs (lone (b.at a t) cs m.w) k8:=by
   intro t ht;generalize hk:([]:List It)=kk at ht;induction ht with
   | nil =>
    intro m a k9 hf he;subst he;exact ⟨a,m,[],.one step_end,k9,hf⟩
   | scope lj lk =>
    intro m a k9 hf he;obtain ⟨a',m',o8,h1,h2⟩:=lk hk m a k9 hf he;exact ⟨a',m',o8,.head Agl h1,h2⟩
   | code=>cases hk
   | drop=>cases hk
   | c9=>cases hk
   | lp=>cases hk
  cases k with
  | nil =>
   intro m a k9 hf;simp only[run,Option.some.injEq]at h;exact fin t ht m a k9 hf h
  | cons it k =>
   generalize sf:it::k=kk at ht;induction ht with
   | nil=>cases sf
   | scope lj lk =>
    intro m a k9 hf;obtain ⟨a',m',o8,h1,h2⟩:=lk sf m a k9 hf;exact ⟨a',m',o8,.head Agl h1,h2⟩
   | @c9 id k2 t2 lj lk =>
    intro m a k9 hf;obtain ⟨rfl,rfl⟩:it = .c9 id/\k=k2:=by simpa using sf
    simp only[run]at h;obtain ⟨a',m',o8,h1,h2⟩:=ih k st k8 h t2 lj m a k9 hf;exact ⟨a',m',o8,.head step_inBlock h1,h2⟩
   | @lp c ac k2 t2 k6 lj lk =>
    intro m a k9 hf;obtain ⟨rfl,rfl⟩:it = .lp ac/\k=k2:=by simpa using sf
    simp only[run]at h;obtain ⟨a',m',o8,h1,h2⟩:=ih _ st k8 h (.code c :: .inLoop c::t2) (.code k6 (.lp k6 lj)) m a k9 hf;exact ⟨a',m',o8,.head step_inLoop h1,h2⟩
   | @drop ts ss k2 t2 lj lk =>
    intro m a k9 hf;obtain ⟨rfl,rfl⟩:it = .rm ts ss/\k=k2:=by simpa using sf
    simp only[run]at h;obtain ⟨oy,he⟩:=Alk hf.mem ss;have ql:KB B S w0 m0 N (g7 (ch st.tm ts)) ⟨m.ν,m.own.drop ss,m.w⟩ a:=⟨oy,hf.ext.trans he,λ i=>by
     rcases Ard st.tm ts i with h1|h1
     ·rw[h1];exact he.cv (hf.tm i)
     ·rw[h1];exact .any _,hf.size,hf.defers⟩
    obtain ⟨a',m',o8,h1,h2,h3⟩:=ih k ⟨ch st.tm ts,st.own.drop ss⟩ k8 h t2 lj ⟨m.ν,m.own.drop ss,m.w⟩ a (by simp [k9]) ql;exact ⟨a',m',o8,h1,h2,h3⟩
   | @code c ac k2 t2 k6 lj lk =>
    obtain ⟨rfl,rfl⟩:it = .code ac/\k=k2:=by simpa using sf
    clear lk sf;intro m a k9 hf;cases ac with
    | dr ac ts ss =>
     simp only[JD]at k6;simp only[run]at h;exact ih _ st k8 h _ (.code k6 (.drop lj)) m a k9 hf
    | skip =>
     simp only[run]at h;cases c with
     | skip =>
      obtain ⟨a',m',o8,h1,h2⟩:=ih _ st k8 h _ lj m a k9 hf;exact ⟨a',m',o8,.head step_skip h1,h2⟩
     | label =>
      obtain ⟨a',m',o8,h1,h2⟩:=ih _ st k8 h _ lj m a k9 hf;exact ⟨a',m',o8,.head step_label h1,h2⟩
     | _=>simp [JD]at k6
    | scope ac =>
     simp only[run]at h;cases c with
     | scope c =>
      simp only[JD]at k6;obtain ⟨a',m',o8,h1,h2⟩:=ih _ st k8 h _ (.code k6 (.scope (c:=c) lj)) m a k9 hf;exact ⟨a',m',o8,.head AqV h1,h2⟩
     | _=>simp [JD]at k6
    | seq a1 a2 =>
     simp only[run]at h;cases c with
     | seq c1 c2 =>
      simp only[JD,Bool.and_eq_true]at k6;obtain ⟨a',m',o8,h1,h2⟩:=ih _ st k8 h _ (.code k6.1 (.code k6.2 lj)) m a k9 hf;exact ⟨a',m',o8,.head step_seq h1,h2⟩
     | _=>simp [JD]at k6
    | cond x a1 a2 =>
     simp only[run]at h;cases c with
     | cond xc c1 c2 =>
      simp only[JD,Bool.and_eq_true]at k6;have ae:CV B S m (st.ev x) (a.eval xc):=by rw[Acz];exact hf.says xc x k6.1.1
      split at h
      ·rename_i hx
       rw[hx]at ae;obtain ⟨a',m',o8,h1,h2⟩:=ih _ st k8 h _ (.code k6.1.2 lj) m a k9 hf;exact ⟨a',m',o8,.head (step_cond (bG ae)) h1,h2⟩
      ·rename_i hx
       rw[hx]at ae;obtain ⟨a',m',o8,h1,h2⟩:=ih _ st k8 h _ (.code k6.2 lj) m a k9 hf;exact ⟨a',m',o8,.head (step_cond (bG ae)) h1,h2⟩
      ·cases h
     | _=>simp [JD]at k6
    | block id ac =>
     simp only[run]at h;cases c with
     | block Pu c =>
      simp only[JD,Bool.and_eq_true,beq_iff_eq]at k6;obtain ⟨rfl,k6⟩:=k6;obtain ⟨a',m',o8,h1,h2⟩:=ih _ st k8 h _ (.code k6 (.c9 lj)) m a k9 hf;exact ⟨a',m',o8,.head step_block h1,h2⟩
     | _=>simp [JD]at k6
    | loop ac =>
     simp only[run]at h;cases c with
     | loop c =>
      simp only[JD]at k6;obtain ⟨a',m',o8,h1,h2⟩:=ih _ st k8 h _ (.code k6 (.lp k6 lj)) m a k9 hf;exact ⟨a',m',o8,.head step_loop h1,h2⟩
     | _=>simp [JD]at k6
    | exit id =>
     simp only[run]at h;cases c with
     | exit Pu =>
      simp only[JD,beq_iff_eq]at k6;subst k6;split at h
      ·rename_i k' np
       obtain ⟨t',e1,e2⟩:=eT lj np;obtain ⟨a',m',o8,h1,h2⟩:=ih _ st k8 h _ e2 m a k9 hf;exact ⟨a',m',o8,.head (step_exit e1) h1,h2⟩
      ·cases h
     | _=>simp [JD]at k6
    | ret =>
     simp only[run,Option.some.injEq]at h;subst h;cases c with
     | ret=>exact ⟨a,m,.code .ret::t2,.one step_ret,k9,hf⟩
     | _=>simp [JD]at k6
    | ops l draw =>
     simp only[run]at h;split at h
     ·rename_i C2 Mm
      cases c with
      | region id ops uj =>
       simp only[JD,Bool.and_eq_true,beq_iff_eq]at k6;obtain ⟨⟨rfl,Lt⟩,ub⟩:=k6;have hwp:(Code.region id ops uj).wp P (λ e a' w'=>e = .normal /\ ∃ m',m'.w=w'/\m'.own=C2.own/\KB B S w0 m0 N (g7 C2.tm) m' a') a m.w:=by
        cases uj with
        | true=>exact ArF hC Lt (by simpa using ub) Mm k9 hf λ m' a' h1 h2=>⟨rfl,m',rfl,h1,h2⟩
        | false =>
         refine wp_region ?_;rw[List.range_eq_range'];exact Ahh hC Lt ops.size 0 st C2 m a (by omega) (by simpa using Mm) k9 hf λ m' a' h1 h2=>⟨rfl,m',rfl,h1,h2⟩
       obtain ⟨e,a1,w1,⟨rfl,m1,rfl,Lu,yv⟩,Tl⟩:=hwp b t2 cs;obtain ⟨a',m',o8,h1,h2,h3⟩:=ih _ C2 k8 h _ lj m1 a1 Lu yv;exact ⟨a',m',o8,Steps.trans Tl h1,h2,h3⟩
      | _=>simp [JD]at k6
     ·cases h
end
end Go.b8

namespace Go.b8
open Go.RowKit
section
variable {P:Program} {num:Nat->Nat} {L:Lib}
def ProgOK (P : Program) (num : Nat → Nat) (L : Lib) : Prop := (∀ f fa, L f = some fa → ∃ fn, P.funcs[num f]? = some fn ∧ okFn P num fn fa = true ∧ (fn.name == "runtime.NumGoroutine") = false) ∧ L.num = num
theorem AdY : ∀ (args:List AV) (k i:Nat),g7 (FV k args) i=if k<=i then (match args[i-k]? with|some v=>v|none => .any) else .any
 | [],k,i=>by simp [FV,g7]
 | v::r,k,i=>by
  simp only[FV,g7];by_cases h:i=k
  ·subst h;simp
  ·rw[if_neg h,AdY r (k+1) i]
   by_cases h2:k<=i
   ·rw[if_pos h2,if_pos (by omega)]
    have:i-k=(i-(k+1))+1:=by omega
    rw[this];simp
   ·rw[if_neg h2,if_neg (by omega)]
section
variable {B:Nat} {S:Nat->Prop} {w0:World} {m0:M} {N:Nat}
def qK (tmps:Array Value):ResultVar->Sem Value
 | .tmp t=>pure (tmps.getD t undef)
 | .cell x t=>do loadVar t (<-asAddr (tmps.getD x undef))
theorem Ajy {m:M} {x v:AV} {u:Value} (h:N6 x=some v) (ae:CV B S m x u):CA B S m v u:=by
 cases ae with
 | any=>simp [N6]at h
 | g8=>simp [N6]at h
 | ca hc =>
  have:x=v:=by
   cases hc with
   | one hc=>cases hc with
    | rd hr=>cases hr<;>simpa [N6] using h
    | _=>simpa [N6] using h
   | fn=>simpa [N6] using h
   | yf=>simpa [N6] using h
   | agg=>simpa [N6] using h
  subst this;exact hc
theorem yT {m:M} {a:Act} {st:St} (hf:KB B S w0 m0 N (g7 st.tm) m a) (k9:m.own=st.own) : ∀ {rv:List ResultVar} {ra:List O2} {vs:List AV},S1 P rv ra=true->ra.mapM (JT st)=some vs ->
  ∃ us:List Value,(rv.mapM (qK a.tmps)).run P m.w = .ok us m.w/\vs.length=us.length /\ ∀ (j:Nat) (c:AV) (v:Value),vs[j]? = some c->us[j]? = some v->CA B S m c v
 | [],[],vs,_,h=>by
  simp at h;subst h;exact ⟨[],by simp,rfl,λ j c v hc=>by simp at hc⟩
 | .tmp t::r,.tmp t'::l,vs,k6,h=>by
  simp only[S1,Bool.and_eq_true,beq_iff_eq]at k6;obtain ⟨rfl,k6⟩:=k6;simp only[List.mapM_cons,Option.bind_eq_bind,Option.pure_def]at h;cases hv:JT st (.tmp t) with
  | none=>simp [hv]at h
  | some v =>
   cases hr:l.mapM (JT st) with
   | none=>simp [hv,hr]at h
   | some vr =>
    simp [hv,hr]at h;subst h;obtain ⟨us,h1,h2,h3⟩:=yT hf k9 k6 hr;have ae:=hf.tm t;have vy:CA B S m v (a.tmps.getD t undef):=Ajy hv ae;refine ⟨a.tmps.getD t undef::us,?_,by simp [h2],λ j c u hc hu => ?_⟩
    ·simp only[List.mapM_cons,Sem.run_bind,qK,Sem.run_pure,Result.andThen_ok,h1]
    ·cases j with
     | zero =>
      obtain rfl:v=c:=by simpa using hc
      obtain rfl:a.tmps.getD t undef=u:=Option.some.inj hu;exact vy
     | succ j=>exact h3 j c u (by simpa using hc) (by simpa using hu)
 | .cell x t::r,.cell x' agg n::l,vs,k6,h=>by
  simp only[S1,Bool.and_eq_true,beq_iff_eq]at k6;obtain ⟨⟨⟨rfl,lq⟩,hn⟩,k6⟩:=k6;simp only[List.mapM_cons,Option.bind_eq_bind,Option.pure_def]at h;cases hv:JT st (.cell x agg n) with
  | none=>simp [hv]at h
  | some v =>
   cases hr:l.mapM (JT st) with
   | none=>simp [hv,hr]at h
   | some vr =>
    simp [hv,hr]at h;subst h;obtain ⟨us,h1,h2,h3⟩:=yT hf k9 k6 hr;have ae:=hf.tm x;simp only[JT]at hv;split at hv
    ·rename_i s u i j hx
     rw[hx]at ae;split at hv
     ·rename_i cs jc
      rw[<-k9]at jc;obtain ⟨ad,db,ht,hb⟩:=jI ae;obtain ⟨b,g,arr,e,o4,hg,dd,iw,o6,ij⟩:=Afe hf.mem jc;obtain ⟨AJa,od⟩:=pZ hv o6;have hld:=yZ (P:=P) t agg n (sT (by simpa using lq)) (by
       cases agg
       ·simpa using hn
       ·exact V7 (by simpa using hn)) ad dd iw m.w (λ q u' hq=>by
       have l7:q<dd.length:=(zS hq).1;obtain ⟨Fw,nn⟩:=hg (by omega);obtain ⟨g',dz,rfl⟩:=hb b o4;obtain rfl:g=g':=by rw[Fw]at dz;simpa using dz
       rw[MO,nO nn];exact ij q u' hq)
      have Vg:(qK a.tmps (.cell x t)).run P m.w = .ok (if agg then .agg dd.toArray else dd.getD 0 undef) m.w:=by
       show (do loadVar t (<-asAddr (a.tmps.getD x undef)):Sem Value).run P m.w=_;rw[db];simpa [asAddr,Instr.loadAt,Instr.sureAddr] using hld
      have vy:CA B S m v (if agg then .agg dd.toArray else dd.getD 0 undef):=by
       unfold P4 at hv;cases agg with
       | true =>
        simp only[if_true,Option.some.injEq]at hv;subst hv;exact .agg cs dd o6
       | false =>
        simp only[Bool.false_eq_true,if_false]at hv ⊢;split at hv
        ·rename_i c
         simp only[Option.some.injEq]at hv;subst hv;obtain ⟨u',jm,aj⟩:=eF o6 (j:=0) (c:=c) rfl;simp only[List.getD,jm,Option.getD_some];exact .one aj
        ·cases hv
      refine ⟨(if agg then .agg dd.toArray else dd.getD 0 undef)::us,?_,by simp [h2],λ j' c u' hc hu => ?_⟩
      ·rw[List.mapM_cons,Sem.run_bind,Vg,Result.andThen_ok,Sem.run_bind,h1,Result.andThen_ok]
       rfl
      ·cases j' with
       | zero =>
        obtain rfl:v=c:=by simpa using hc
        obtain rfl:=Option.some.inj hu;exact vy
       | succ j'=>exact h3 j' c u' (by simpa using hc) (by simpa using hu)
     ·cases hv
    ·cases hv
 | [],_::_,_,k6,_=>by simp [S1]at k6
 | .tmp _::_,[],_,k6,_=>by simp [S1]at k6
 | .cell _ _::_,[],_,k6,_=>by simp [S1]at k6
 | .tmp _::_,.cell _ _ _::_,_,k6,_=>by simp [S1]at k6
 | .cell _ _::_,.tmp _::_,_,k6,_=>by simp [S1]at k6
end
theorem Abf (hP:ProgOK P num L) {f:Nat} {fa:AFn} (hL:L f=some fa) (us:Array Value) (w:World):(callFunc (num f) us).run P w = .ok (.enter (num f) us) w:=by
 obtain ⟨fn,h1,h2,h3⟩:=hP.1 f fa hL;have hb:fn.body.isNone=false:=by
  simp only[okFn,Bool.and_eq_true]at h2;cases hbd:fn.body with
  | none=>rw[hbd]at h2;simp at h2
  | some c=>rfl
 unfold callFunc;simp only[Sem.run_bind,run_program,Result.andThen_ok,h1,h3,hb,Bool.false_eq_true,if_false,Sem.run_pure]
theorem Ad0 (hP:ProgOK P num L) {n:Nat} (hC:L8 P num (GR L n)) {f:Nat} {vs:List AV} {own:BD} {r:AV} {n6:BD} (h:HI L (n+1) f vs own=some (r,n6)) (B:Nat) (S:Nat->Prop) (w0:World) (m:M) (us:List Value) (k9:m.own=own) (hm:D8 B S w0 m) (hl:vs.length=us.length)
  (ae : ∀ (j:Nat) (c:AV) (v:Value),vs[j]? = some c->us[j]? = some v->CV B S m c v) :
  Calls P (num f) us.toArray m.w λ e w' => ∃ u m',e = .returned u/\m'.w=w'/\m'.own=n6/\D8 B S w0 m'/\HC B S m m'/\CV B S m' r u:=by
 rw[jR]at h;cases hL:L f with
 | none=>simp [hL]at h
 | some fa =>
  simp only[hL]at h;split at h
  ·rename_i Lw
   split at h
   ·rename_i st w4
    split at h
    ·rename_i rvs oe
     simp only[Option.some.injEq,Prod.mk.injEq]at h;obtain ⟨rfl,rfl⟩:=h;obtain ⟨fn,h1,h2,h3⟩:=hP.1 f fa hL;simp only[okFn,Bool.and_eq_true,beq_iff_eq,decide_eq_true_eq]at h2;obtain ⟨⟨⟨h4,h5⟩,h6⟩,h7⟩:=h2;split at h7
     ·rename_i c hc
      intro cs;have Fu:Frame.enter P (num f) us.toArray .normal=({ (default:Frame) with fn:=num f,kind := .normal }:Frame).at { tmps:=us.toArray++Array.replicate (fn.ntmps-us.toArray.size) undef,defers:=[] } [.code c]:=by
       simp [Frame.enter,Frame.at,h1,hc]
      have z8:us.length=fa.cr:=by rw[<-hl];exact Lw
      have hf0:KB B S w0 m fn.ntmps (g7 (FV 0 vs)) m { tmps:=us.toArray++Array.replicate (fn.ntmps-us.toArray.size) undef,defers:=[] }:=by
       refine ⟨hm,HC.refl m,λ i => ?_,by simp;omega,rfl⟩;rw[AdY];simp only[Nat.zero_le,if_true,Nat.sub_zero];cases Mp:vs[i]? with
       | none=>exact .any _
       | some v =>
        have hi:i<us.length:=by rw[<-hl];exact (zS Mp).1
        have o4:(us.toArray++Array.replicate (fn.ntmps-us.toArray.size) undef).getD i undef=us[i]:=by
         rw[Array.getD_eq_getD_getElem?,Array.getElem?_append_left (by simpa using hi)];simp [hi]
        simp only[o4];exact ae i v us[i] Mp (zE hi)
      obtain ⟨a',m',o8,Gz,nq,ql⟩:=Aqm (m0:=m) hC { (default:Frame) with fn:=num f,kind := .normal } cs n [.code fa.body] ⟨FV 0 vs,own⟩ st w4 [.code c] (.code h7 .nil) m _ k9 hf0;obtain ⟨Bh,xq,pe,hu3⟩:=yT (P:=P) ql nq h6 oe;have Ch:(results fn a'.tmps).run P m'.w = .ok (if h:Bh.length=1 then Bh[0] else .tuple Bh.toArray) m'.w:=by
       have hr:results fn a'.tmps=(do let vs <-fn.results.mapM (qK a'.tmps);pure (if h:vs.size=1 then vs[0] else .tuple vs)):=rfl;rw[hr,Sem.run_bind,Array.mapM_eq_mapM_toList];simp [xq]
      refine ⟨.returned (if h:Bh.length=1 then Bh[0] else .tuple Bh.toArray),m'.w,_,⟨_,m',rfl,rfl,nq,ql.mem,ql.ext,?_⟩,by rw[Fu];exact Gz,rfl,rfl,ql.defers,rfl,fn,h1,Ch⟩;unfold NF;split
      ·rename_i v
       have um:Bh.length=1:=by rw[<-pe];rfl
       rw[dif_pos um];exact .ca (hu3 0 v Bh[0] rfl (zE (by omega)))
      ·rename_i m7
       have um : ¬ Bh.length=1:=λ e=>by
        rw[<-pe]at e;cases rvs with
        | nil=>simp at e
        | cons q qs=>cases qs with
         | nil=>exact m7 q rfl
         | cons=>simp at e
       rw[dif_neg um];exact .g8 rvs Bh pe hu3
     ·cases h7
    ·cases h
   ·cases h
  ·cases h
theorem AoS (S:Nat->Prop) (w:World):D8 w.heap.size S w ⟨λ_ _=>none,BD.emp,w⟩ :=
 ⟨Below.refl _ _,Nat.le_refl _,λ_ _ _=>rfl,λ s t b h=>by simp [BD.get,BD.emp]at h,λ s t s' t' b b' g h=>by simp [BD.get,BD.emp]at h⟩
theorem Acs {n f:Nat} {vs:List AV} {own:BD} {r:AV × BD} (h:HI L n f vs own=some r) : ∃ fa,L f=some fa:=by
 cases n with
 | zero=>simp [HI]at h
 | succ n =>
  rw[jR]at h;cases hL:L f with
  | none=>simp [hL]at h
  | some fa=>exact ⟨fa,rfl⟩
theorem yF {n f:Nat} {vs:List AV} {r:AV} (h:N1 (λ vs=>HI L n f vs BD.emp) vs=some r) : ∃ r0 o,HI L n f vs BD.emp=some (r0,o)/\aG o false r0=some r/\B3 r:=by
 unfold N1 at h;cases he:HI L n f vs BD.emp with
 | none=>simp [he]at h
 | some x =>
  obtain ⟨r0,o⟩:=x;simp only[he]at h;split at h
  ·rename_i r' hr
   split at h
   ·rename_i hc
    simp only[Option.some.injEq]at h;subst h;exact ⟨r0,o,rfl,hr,hc⟩
   ·cases h
  ·cases h
theorem uS {n f:Nat} {vs:List AV} {r:AV} (h:MJ L n f vs=some r) : ∃ dd,∃ x,HI L n f dd BD.emp=some x:=by
 unfold MJ P6 at h;split at h
 ·split at h
  ·rename_i r1 r2 h1 h2
   obtain ⟨r0,o,h3,_⟩:=yF h1;exact ⟨_,_,h3⟩
  ·cases h
 ·obtain ⟨r0,o,h3,_⟩:=yF h
  exact ⟨_,_,h3⟩
theorem yG (hP:ProgOK P num L) {n:Nat} (ih:L8 P num (GR L n)) {f:Nat} {vs:List AV} {r:AV} (h:N1 (λ vs=>HI L (n+1) f vs BD.emp) vs=some r) (S:Nat->Prop) (w:World) (us:List Value) (hl:vs.length=us.length)
  (vy : ∀ (j:Nat) (c:AV) (v:Value),vs[j]? = some c->us[j]? = some v->CA w.heap.size S ⟨λ_ _=>none,BD.emp,w⟩ c v) :
  Calls P (num f) us.toArray w λ e w' => ∃ u,e = .returned u/\Below w.heap.size w w'/\CV w.heap.size S ⟨λ_ _=>none,BD.emp,w'⟩ r u/\B3 r:=by
 obtain ⟨r0,o,h1,h2,h3⟩:=yF (L:=L) h;refine Calls.mono (Ad0 hP ih h1 w.heap.size S w ⟨λ_ _=>none,BD.emp,w⟩ us rfl (AoS S w) hl λ j c v hc hv => .ca (vy j c v hc hv)) λ e w' ⟨u,m',he,hw,k9,oy,_,ae⟩ => ?_
 subst hw;refine ⟨u,he,oy.below,?_,h3⟩;refine DV.cv (m:=⟨λ_ _=>none,BD.emp,m'.w⟩) (AqI oy false (safe w.heap.size S ⟨λ_ _=>none,BD.emp,m'.w⟩) (λ l b hb hs => ?_) (λ s t g ib hg => ?_) (by rw[k9];exact h2) ae)
 ·rcases hs with h|⟨h,_⟩|h
  ·exact .inl h
  ·exact .inr (.inl ⟨h,λ s t ib=>by simp [BD.get,BD.emp]at ib⟩)
  ·exact .inr (.inr h)
 ·exact .inr (.inl ⟨(oy.ge ib hg).1,λ s t ib=>by simp [BD.get,BD.emp]at ib⟩)
theorem AjD (hP:ProgOK P num L) : ∀ n,L8 P num (GR L n):=by
 intro n;induction n with
 | zero =>
  exact ⟨λ f vs r h=>by obtain ⟨dd,x,h1⟩:=uS (L:=L) (n:=0) (f:=f) (vs:=vs) (r:=r) h;simp [HI]at h1,λ f vs own r h=>by change HI L 0 f vs own=some r at h;simp [HI]at h,
   λ f vs r h=>by obtain ⟨dd,x,h1⟩:=uS (L:=L) (n:=0) (f:=f) (vs:=vs) (r:=r) h;simp [HI]at h1,λ f vs own r n6 h=>by change HI L 0 f vs own=_ at h;simp [HI]at h,hP.2⟩
 | succ n ih =>
  refine ⟨λ f vs r h us w => ?_,λ f vs own r h us w => ?_,λ f vs r h S w us hl vy => ?_,λ f vs own r n6 h B S w0 m us k9 hm hl ae=>Ad0 hP ih h B S w0 m us k9 hm hl ae,hP.2⟩
  ·obtain ⟨dd,x,h1⟩:=uS (L:=L) h
   obtain ⟨fa,hL⟩:=Acs h1;exact Abf hP hL us w
  ·obtain ⟨fa,hL⟩:=Acs (L:=L) h
   exact Abf hP hL us w
  ·have h:P6 (L.uh f) (λ vs=>HI L (n+1) f vs BD.emp) vs=some r:=h
   unfold P6 at h;split at h
   ·rename_i q dd _ _
    split at h
    ·rename_i r1 r2 h1 h2
     split at h
     ·rename_i e
      subst e;obtain rfl:=Option.some.inj h;cases us with
      | nil=>simp at hl
      | cons u us =>
       have h0:=vy 0 _ u rfl rfl;have hu : ∃ a cap,u = .slice a 0 cap:=by
        cases h0 with
        | one h0=>cases h0 with
         | rd h0=>cases h0 with
          | my l a cap=>exact ⟨a,cap,rfl⟩
          | sl l es b o a7 cap u m7=>exact absurd rfl m7
       obtain ⟨a,cap,rfl⟩:=hu;have key : ∀ b,a.isNone=b -> ∀ (j:Nat) (c:AV) (v:Value),(AV.dc (.bool b)::dd)[j]? = some c->(Value.slice a 0 cap::us)[j]? = some v->CA w.heap.size S ⟨λ_ _=>none,BD.emp,w⟩ c v:=λ b hb j c v hc hv=>by
        cases j with
        | zero =>
         obtain rfl:=Option.some.inj hc;obtain rfl:=Option.some.inj hv;exact .one (.rd (.emp b a cap hb))
        | succ j=>exact vy (j+1) c v hc hv
       cases hb:a.isNone with
       | true=>exact yG hP ih h1 S w _ (by simpa using hl) (key true hb)
       | false=>exact yG hP ih h2 S w _ (by simpa using hl) (key false hb)
     ·cases h
    ·cases h
   ·exact yG hP ih h S w us hl vy
end
end Go.b8
namespace Go.b8
abbrev OkF (P : Program) (num : Nat → Nat) (p : Nat × AFn) : Prop := ∃ fn, P.funcs[num p.1]? = some fn ∧ okFn P num fn p.2 = true ∧ (fn.name == "runtime.NumGoroutine") = false
theorem ApE {P:Program} {num:Nat->Nat} (l:List (Nat × AFn)) (h : ∀ p∈l,OkF P num p):ProgOK P num ⟨λ f=>l.lookup f,num⟩:=by
 refine ⟨?_,rfl⟩;intro f fa hf;have hm:(f,fa)∈l:=by
  clear h;change l.lookup f=some fa at hf;induction l with
  | nil=>simp at hf
  | cons x r ih =>
   obtain ⟨k,v⟩:=x;rw[List.lookup_cons]at hf;cases hk:(f == k) with
   | true =>
    rw[hk]at hf;have:f=k:=by simpa using hk
    subst this;simp at hf;simp [hf]
   | false =>
    rw[hk]at hf;exact List.mem_cons_of_mem _ (ih hf)
 exact h (f,fa) hm
end Go.b8

namespace Go.b8
section
variable {L:Lib}
def Cl.le (C C':Cl):Prop:=(∀ f vs r,C.pure f vs=some r->C'.pure f vs=some r)/\(∀ f vs o r,C.kv f vs o=some r->C'.kv f vs o=some r)/\C.num=C'.num
theorem Xw {x y:Option (AV × BD)} {r:Nat × List (List AV)} (h : ∀ q,x=some q->y=some q) (hr:W4 x=some r):W4 y=some r:=by
 cases x with
 | none=>simp [W4]at hr
 | some q=>rw[h q rfl];exact hr
theorem Aly {C C':Cl} (h:C.le C') {b7:List Nat} {ρ:BL->AV} {own:BD} {op:H0} {E:FB} (he:e9 C b7 ρ own op=some E):e9 C' b7 ρ own op=some E:=by
 cases op with
 | call f xs =>
  simp only[e9]at he ⊢;split at he
  ·rename_i vs ij
   simp only[Option.map_eq_some_iff]at he ⊢;obtain ⟨r,hr,rfl⟩:=he;exact ⟨r,h.1 f vs r hr,rfl⟩
  ·cases he
 | e8 f xs =>
  simp only[e9,Option.map_eq_some_iff]at he ⊢;obtain ⟨r,hr,rfl⟩:=he;exact ⟨r,h.2.1 f _ own r hr,rfl⟩
 | td p f xs=>simp only[e9]at he ⊢;rw[<-h.2.2];exact he
 | dh s f xs =>
  simp only[e9,Option.map_eq_some_iff]at he ⊢;obtain ⟨p,hp,rfl⟩:=he;exact ⟨p,nN.2 λ o ho=>h.2.1 f _ o _ (nN.1 hp o ho),rfl⟩
 | q6 s f xs =>
  simp only[e9]at he ⊢;split at he
  ·rename_i vs ij
   simp only[Option.map_eq_some_iff]at he ⊢;obtain ⟨r,hr,rfl⟩:=he;exact ⟨r,Xw (h.2.1 f vs BD.emp) hr,rfl⟩
  ·cases he
 | n9 f xs =>
  simp only[e9]at he ⊢;split at he
  ·rename_i hq
   rw[if_pos hq];split at he
   ·rename_i r hr
    rw[h.1 _ _ r hr];exact he
   ·cases he
  ·cases he
 | q8 x xs =>
  simp only[e9]at he ⊢;rw[<-h.2.2];split at he
  ·split at he
   ·rename_i hg
    rw[if_pos hg];split at he
    ·split at he
     ·rename_i vs ij
      simp only[Option.map_eq_some_iff]at he ⊢;obtain ⟨r,hr,rfl⟩:=he;exact ⟨r,h.1 _ vs r hr,rfl⟩
     ·cases he
    ·simp only[Option.map_eq_some_iff]at he ⊢
     obtain ⟨r,hr,rfl⟩:=he;exact ⟨r,h.2.1 _ _ own r hr,rfl⟩
    ·split at he
     ·rename_i vs ij
      simp only[Option.map_eq_some_iff]at he ⊢;obtain ⟨r,hr,rfl⟩:=he;exact ⟨r,h.1 _ vs r hr,rfl⟩
     ·cases he
   ·cases he
  ·cases he
 | _=>exact he
theorem AqS {C C':Cl} (h:C.le C') {o:AI} {st k8:St} (he:F9 C o st=some k8):F9 C' o st=some k8:=by
 unfold F9 at he ⊢;split at he
 ·simp only[Option.map_eq_some_iff]at he ⊢
  obtain ⟨E,h1,h2⟩:=he;exact ⟨E,Aly h h1,h2⟩
 ·exact he
 ·exact he
theorem X2 {C C':Cl} (h:C.le C') : ∀ {l:List AI} {st k8:St},G1 C l st=some k8->G1 C' l st=some k8
 | [],st,k8,he=>he
 | o::r,st,k8,he=>by
  simp only[G1]at he ⊢;cases hs:F9 C o st with
  | none=>simp [hs]at he
  | some C2 =>
   rw[AqS h hs];simp only[hs]at he;exact X2 h he
theorem XU {C C':Cl} (h:C.le C') : ∀ {n n':Nat} {k:List It} {st k8:St},n<=n'->run C n k st=some k8->run C' n' k st=some k8:=by
 intro n;induction n with
 | zero=>intro n' k st k8 _ hr;simp [run]at hr
 | succ n ih =>
  intro n' k st k8 hn hr;obtain ⟨q,rfl⟩ : ∃ q,n'=q+1:=⟨n'-1,by omega⟩;have hq:n<=q:=by omega
  cases k with
  | nil=>exact hr
  | cons it k =>
   cases it with
   | c9 id=>simp only[run]at hr ⊢;exact ih hq hr
   | rm ts ss=>simp only[run]at hr ⊢;exact ih hq hr
   | lp c=>simp only[run]at hr ⊢;exact ih hq hr
   | code c =>
    cases c with
    | skip=>simp only[run]at hr ⊢;exact ih hq hr
    | ops l d =>
     simp only[run]at hr ⊢;cases hs:G1 C l st with
     | none=>simp [hs]at hr
     | some C2 =>
      rw[X2 h hs];simp only[hs]at hr;exact ih hq hr
    | dr c ts ss=>simp only[run]at hr ⊢;exact ih hq hr
    | scope c=>simp only[run]at hr ⊢;exact ih hq hr
    | seq a b=>simp only[run]at hr ⊢;exact ih hq hr
    | cond x a b =>
     simp only[run]at hr ⊢;split at hr
     ·exact ih hq hr
     ·exact ih hq hr
     ·cases hr
    | block id c=>simp only[run]at hr ⊢;exact ih hq hr
    | loop c=>simp only[run]at hr ⊢;exact ih hq hr
    | exit id =>
     simp only[run]at hr ⊢;split at hr
     ·exact ih hq hr
     ·cases hr
    | ret=>exact hr
theorem kY {I I':List AV->Option (AV × BD)} (hI : ∀ vs r,I vs=some r->I' vs=some r) {vs:List AV} {r:AV} (h:N1 I vs=some r):N1 I' vs=some r:=by
 unfold N1 at h ⊢;cases he:I vs with
 | none=>simp [he]at h
 | some x=>rw[hI vs _ he];simpa [he] using h
theorem ApG {b:Bool} {I I':List AV->Option (AV × BD)} (hI : ∀ vs r,I vs=some r->I' vs=some r) {vs:List AV} {r:AV} (h:P6 b I vs=some r):P6 b I' vs=some r:=by
 unfold P6 at h ⊢;split at h
 ·split at h
  ·rename_i r1 r2 h1 h2
   rw[kY hI h1,kY hI h2];exact h
  ·cases h
 ·exact kY hI h
theorem AcI : ∀ (n:Nat),(GR L n).le (GR L (n+1)):=by
 have kv : ∀ n,(∀ f vs o r,HI L n f vs o=some r->HI L (n+1) f vs o=some r) -> ∀ f vs r,MJ L n f vs=some r->MJ L (n+1) f vs=some r:=by
  intro n hI f vs r h;exact ApG (λ vs r h=>hI f vs _ r h) h
 intro n;induction n with
 | zero =>
  have : ∀ f vs o r,HI L 0 f vs o=some r->HI L 1 f vs o=some r:=λ f vs o r h=>by simp [HI]at h
  exact ⟨kv 0 this,this,rfl⟩
 | succ n ih =>
  have : ∀ f vs o r,HI L (n+1) f vs o=some r->HI L (n+2) f vs o=some r:=λ f vs o r h=>by
   rw[jR]at h ⊢;cases hL:L f with
   | none=>simp [hL]at h
   | some fn =>
    simp only[hL]at h ⊢;split at h
    ·rename_i hp
     rw[if_pos hp];cases hr:run (GR L n) n [.code fn.body] ⟨FV 0 vs,o⟩ with
     | none=>simp [hr]at h
     | some st =>
      rw[XU ih (Nat.le_succ n) hr];simpa [hr] using h
    ·cases h
  exact ⟨kv (n+1) this,this,rfl⟩
theorem KE {n n':Nat} (h:n<=n'):(GR L n).le (GR L n'):=by
 induction h with
 | refl=>exact ⟨λ_ _ _ h=>h,λ_ _ _ _ h=>h,rfl⟩
 | step _ ih=>exact ⟨λ f vs r h=>(AcI _).1 f vs r (ih.1 f vs r h),λ f vs o r h=>(AcI _).2.1 f vs o r (ih.2.1 f vs o r h),rfl⟩
def Ev (L:Lib) (f:Nat) (vs:List AV) (r:AV):Prop := ∃ n,MJ L n f vs=some r
def KR (L:Lib) (f:Nat) (vs:List AV) (r:AV):Prop := ∃ n,N1 (λ vs=>HI L n f vs BD.emp) vs=some r
def LU (L:Lib) (f:Nat) (vs:List AV) (o:BD) (r:AV) (o':BD):Prop := ∃ n,HI L n f vs o=some (r,o')
def NM (L:Lib) (f:Nat) (vs:List AV) (z:Nat) (es:List (List AV)):Prop := ∃ n,W4 (HI L n f vs BD.emp)=some (z,es)
theorem Ev.Eu {f:Nat} {vs:List AV} {r r':AV} (h:Ev L f vs r) (h':Ev L f vs r'):r=r':=by
 obtain ⟨n,hn⟩:=h;obtain ⟨n',wz⟩:=h';have h1:=(KE (L:=L) (Nat.le_max_left n n')).1 f vs r hn;have h2:=(KE (L:=L) (Nat.le_max_right n n')).1 f vs r' wz;rw[h1]at h2;exact Option.some.inj h2
theorem LU.Eu {f:Nat} {vs:List AV} {o:BD} {r r':AV} {o1 o2:BD} (h:LU L f vs o r o1) (h':LU L f vs o r' o2):r=r'/\o1=o2:=by
 obtain ⟨n,hn⟩:=h;obtain ⟨n',wz⟩:=h';have h1:=(KE (L:=L) (Nat.le_max_left n n')).2.1 f vs o _ hn;have h2:=(KE (L:=L) (Nat.le_max_right n n')).2.1 f vs o _ wz;rw[h1]at h2;simpa using h2
def AK (L:Lib) (k:List It) (st:St) (Q:St->Prop):Prop := ∃ n c k8,run (GR L c) n k st=some k8/\Q k8
def AO (L:Lib) (l:List AI) (k:List It) (st:St) (Q:St->Prop):Prop := ∃ n c C2 k8,G1 (GR L c) l st=some C2/\run (GR L c) n k C2=some k8/\Q k8
variable {k:List It} {st:St} {Q:St->Prop}
theorem PP {it:It} {k':List It} {C2:St} (h : ∀ (C:Cl) (n:Nat),run C (n+1) (it::k) st=run C n k' C2):AK L (it::k) st Q↔AK L k' C2 Q:=by
 constructor
 ·rintro ⟨n,c,k8,hr,hq⟩
  cases n with
  | zero=>simp [run]at hr
  | succ n=>exact ⟨n,c,k8,by rw[<-h];exact hr,hq⟩
 ·rintro ⟨n,c,k8,hr,hq⟩
  exact ⟨n+1,c,k8,by rw[h];exact hr,hq⟩
theorem AhD:AK L [] st Q↔Q st:=by
 constructor
 ·rintro ⟨n,c,k8,hr,hq⟩
  cases n with
  | zero=>simp [run]at hr
  | succ n=>simp only[run,Option.some.injEq]at hr;exact hr ▸ hq
 ·exact λ h=>⟨1,0,st,rfl,h⟩
theorem Ahv {id:Nat}:AK L (.c9 id::k) st Q↔AK L k st Q:=PP λ_ _=>rfl
theorem Ahz {ts ss:List Nat}:AK L (.rm ts ss::k) st Q↔AK L k ⟨ch st.tm ts,st.own.drop ss⟩ Q:=PP λ_ _=>rfl
theorem Zd {c:DD}:AK L (.lp c::k) st Q↔AK L (.code c :: .lp c::k) st Q:=PP λ_ _=>rfl
theorem AhN:AK L (.code .skip::k) st Q↔AK L k st Q:=PP λ_ _=>rfl
theorem Ahy {c:DD} {ts ss:List Nat}:AK L (.code (.dr c ts ss)::k) st Q↔AK L (.code c :: .rm ts ss::k) st Q:=PP λ_ _=>rfl
theorem AhG {c:DD}:AK L (.code (.scope c)::k) st Q↔AK L (.code c::k) st Q:=PP λ_ _=>rfl
theorem AhM {a b:DD}:AK L (.code (.seq a b)::k) st Q↔AK L (.code a :: .code b::k) st Q:=PP λ_ _=>rfl
theorem Ahw {id:Nat} {c:DD}:AK L (.code (.block id c)::k) st Q↔AK L (.code c :: .c9 id::k) st Q:=PP λ_ _=>rfl
theorem AhB {c:DD}:AK L (.code (.loop c)::k) st Q↔AK L (.code c :: .lp c::k) st Q:=PP λ_ _=>rfl
theorem AhA {id:Nat} {k':List It} (h:J7 id k=some k'):AK L (.code (.exit id)::k) st Q↔AK L k' st Q:=PP λ C n=>by simp [run,h]
theorem AhF:AK L (.code .ret::k) st Q↔Q st:=by
 constructor
 ·rintro ⟨n,c,k8,hr,hq⟩
  cases n with
  | zero=>simp [run]at hr
  | succ n=>simp only[run,Option.some.injEq]at hr;exact hr ▸ hq
 ·exact λ h=>⟨1,0,st,rfl,h⟩
theorem Ahx {x:BL} {a b:DD} {t:Bool} (h:st.ev x = .bool t):AK L (.code (.cond x a b)::k) st Q↔if t=true then AK L (.code a::k) st Q else AK L (.code b::k) st Q:=by
 cases t
 ·simpa using PP (k' := .code b::k) (C2:=st) λ C n=>by simp [run,h]
 ·simpa using PP (k' := .code a::k) (C2:=st) λ C n=>by simp [run,h]
theorem AhE {l:List AI} {d:Bool}:AK L (.code (.ops l d)::k) st Q↔AO L l k st Q:=by
 constructor
 ·rintro ⟨n,c,k8,hr,hq⟩
  cases n with
  | zero=>simp [run]at hr
  | succ n =>
   simp only[run]at hr;split at hr
   ·rename_i C2 hs
    exact ⟨n,c,C2,k8,hs,hr,hq⟩
   ·cases hr
 ·rintro ⟨n,c,C2,k8,hs,hr,hq⟩
  exact ⟨n+1,c,k8,by simp [run,hs,hr],hq⟩
theorem AhY:AO L [] k st Q↔AK L k st Q:=by
 constructor
 ·rintro ⟨n,c,C2,k8,hs,hr,hq⟩
  simp only[G1,Option.some.injEq]at hs;exact ⟨n,c,k8,hs ▸ hr,hq⟩
 ·rintro ⟨n,c,k8,hr,hq⟩
  exact ⟨n,c,st,k8,rfl,hr,hq⟩
theorem Ah2 {o:AI} {l:List AI} {C2:St} (h : ∀ C,F9 C o st=some C2):AO L (o::l) k st Q↔AO L l k C2 Q:=by
 constructor
 ·rintro ⟨n,c,DK,k8,hs,hr,hq⟩
  simp only[G1,h]at hs;exact ⟨n,c,DK,k8,hs,hr,hq⟩
 ·rintro ⟨n,c,DK,k8,hs,hr,hq⟩
  exact ⟨n,c,DK,k8,by simpa only[G1,h] using hs,hr,hq⟩
theorem Ah0 {d:Option Nat} {op:H0} {g:Option (Nat × Bool)} {b7:List Nat} {l:List AI} (h:J8 st g=some false):AO L (⟨d,op,g,b7⟩::l) k st Q↔AO L l k (st.dst d (.g8 [])) Q :=
 Ah2 λ C=>by simp [F9,h]
theorem eA (c:Nat):(GR L c).num=L.num:=rfl
theorem Ah1 {d:Option Nat} {op:H0} {g:Option (Nat × Bool)} {b7:List Nat} {l:List AI} {E:FB} (h:J8 st g=some true) (he : ∀ c,e9 (GR L c) b7 st.ev st.own op=some E):AO L (⟨d,op,g,b7⟩::l) k st Q↔AO L l k (st.app d E) Q:=by
 have h : ∀ c,F9 (GR L c) ⟨d,op,g,b7⟩ st=some (st.app d E):=λ c=>by simp [F9,h,he]
 constructor
 ·rintro ⟨n,c,DK,k8,hs,hr,hq⟩
  simp only[G1,h]at hs;exact ⟨n,c,DK,k8,hs,hr,hq⟩
 ·rintro ⟨n,c,DK,k8,hs,hr,hq⟩
  exact ⟨n,c,DK,k8,by simpa only[G1,h] using hs,hr,hq⟩
theorem AhP {d:Option Nat} {f:Nat} {xs:List BL} {g:Option (Nat × Bool)} {b7:List Nat} {l:List AI} {vs:List AV} {r:AV} (h:J8 st g=some true) (hv:(xs.map st.ev).mapM (F8 (st.own.o5 b7) true)=some vs) (hr:Ev L f vs r) :
  AO L (⟨d,.call f xs,g,b7⟩::l) k st Q↔AO L l k (st.dst d r) Q:=by
 have j8 : ∀ c r',MJ L c f vs=some r'->F9 (GR L c) ⟨d,.call f xs,g,b7⟩ st=some (st.dst d r'):=λ c r' hc=>by
  have y5:(GR L c).pure f vs=some r':=hc;simp [F9,h,e9,hv,y5,St.app]
 constructor
 ·rintro ⟨n,c,DK,k8,hs,iv,hq⟩
  simp only[G1]at hs;cases hI:F9 (GR L c) ⟨d,.call f xs,g,b7⟩ st with
  | none=>simp [hI]at hs
  | some C2 =>
   simp only[hI]at hs;cases hp:MJ L c f vs with
   | none =>
    have y5:(GR L c).pure f vs=none:=hp;simp [F9,h,e9,hv,y5]at hI
   | some r' =>
    obtain rfl:r'=r:=Ev.Eu ⟨c,hp⟩ hr;rw[j8 c r' hp]at hI;obtain rfl:=Option.some.inj hI;exact ⟨n,c,DK,k8,hs,iv,hq⟩
 ·rintro ⟨n,c,DK,k8,hs,iv,hq⟩
  obtain ⟨c',y5⟩:=hr;have l1:=KE (L:=L) (Nat.le_max_left c c');have l2:=KE (L:=L) (Nat.le_max_right c c');refine ⟨n,max c c',DK,k8,?_,XU l1 (Nat.le_refl n) iv,hq⟩;simp only[G1];rw[j8 (max c c') r (l2.1 f vs r y5)];exact X2 l1 hs
theorem AhS {d:Option Nat} {f:Nat} {x:BL} {xs:List BL} {g:Option (Nat × Bool)} {b7:List Nat} {l:List AI} {vs:List AV} {r:AV} (h:J8 st g=some true) (hx:st.ev x = .fn true f (L.num f) []) (hv:(xs.map st.ev).mapM (F8 st.own true)=some vs) (hr:Ev L f vs r) :
  AO L (⟨d,.q8 x xs,g,b7⟩::l) k st Q↔AO L l k (st.dst d r) Q:=by
 have j8 : ∀ c r',MJ L c f vs=some r'->F9 (GR L c) ⟨d,.q8 x xs,g,b7⟩ st=some (st.dst d r'):=λ c r' hc=>by
  have y5:(GR L c).pure f vs=some r':=hc;simp [F9,h,e9,hx,eA,hv,y5,St.app]
 constructor
 ·rintro ⟨n,c,DK,k8,hs,iv,hq⟩
  simp only[G1]at hs;cases hI:F9 (GR L c) ⟨d,.q8 x xs,g,b7⟩ st with
  | none=>simp [hI]at hs
  | some C2 =>
   simp only[hI]at hs;cases hp:MJ L c f vs with
   | none =>
    have y5:(GR L c).pure f vs=none:=hp;simp [F9,h,e9,hx,eA,hv,y5]at hI
   | some r' =>
    obtain rfl:r'=r:=Ev.Eu ⟨c,hp⟩ hr;rw[j8 c r' hp]at hI;obtain rfl:=Option.some.inj hI;exact ⟨n,c,DK,k8,hs,iv,hq⟩
 ·rintro ⟨n,c,DK,k8,hs,iv,hq⟩
  obtain ⟨c',y5⟩:=hr;have l1:=KE (L:=L) (Nat.le_max_left c c');have l2:=KE (L:=L) (Nat.le_max_right c c');refine ⟨n,max c c',DK,k8,?_,XU l1 (Nat.le_refl n) iv,hq⟩;simp only[G1];rw[j8 (max c c') r (l2.1 f vs r y5)];exact X2 l1 hs
theorem AhQ {d:Option Nat} {f:Nat} {w:AV} {cs:List AV} {x:BL} {xs:List BL} {g:Option (Nat × Bool)} {b7:List Nat} {l:List AI} {vs:List AV} {r:AV} (h:J8 st g=some true) (hx:st.ev x = .fn true f (L.num f) (w::cs)) (hv:(AV.agg (w::cs)::xs.map st.ev).mapM (F8 st.own true)=some vs) (hr:Ev L f vs r) :
  AO L (⟨d,.q8 x xs,g,b7⟩::l) k st Q↔AO L l k (st.dst d r) Q:=by
 have j8 : ∀ c r',MJ L c f vs=some r'->F9 (GR L c) ⟨d,.q8 x xs,g,b7⟩ st=some (st.dst d r'):=λ c r' hc=>by
  have y5:(GR L c).pure f vs=some r':=hc;simp [F9,h,e9,hx,eA,hv,y5,St.app]
 constructor
 ·rintro ⟨n,c,DK,k8,hs,iv,hq⟩
  simp only[G1]at hs;cases hI:F9 (GR L c) ⟨d,.q8 x xs,g,b7⟩ st with
  | none=>simp [hI]at hs
  | some C2 =>
   simp only[hI]at hs;cases hp:MJ L c f vs with
   | none =>
    have y5:(GR L c).pure f vs=none:=hp;simp [F9,h,e9,hx,eA,hv,y5]at hI
   | some r' =>
    obtain rfl:r'=r:=Ev.Eu ⟨c,hp⟩ hr;rw[j8 c r' hp]at hI;obtain rfl:=Option.some.inj hI;exact ⟨n,c,DK,k8,hs,iv,hq⟩
 ·rintro ⟨n,c,DK,k8,hs,iv,hq⟩
  obtain ⟨c',y5⟩:=hr;have l1:=KE (L:=L) (Nat.le_max_left c c');have l2:=KE (L:=L) (Nat.le_max_right c c');refine ⟨n,max c c',DK,k8,?_,XU l1 (Nat.le_refl n) iv,hq⟩;simp only[G1];rw[j8 (max c c') r (l2.1 f vs r y5)];exact X2 l1 hs
theorem AhT {d:Option Nat} {f:Nat} {xs:List BL} {g:Option (Nat × Bool)} {b7:List Nat} {l:List AI} {r:AV} (h:J8 st g=some true) (hq:(xs.map st.ev).all dq=true) (hr:Ev L f ((xs.map st.ev).map Bd) r) (jf:NN r\/aO r) :
  AO L (⟨d,.n9 f xs,g,b7⟩::l) k st Q↔AO L l k (st.dst d (RP r)) Q:=by
 have j8 : ∀ c,MJ L c f ((xs.map st.ev).map Bd)=some r->F9 (GR L c) ⟨d,.n9 f xs,g,b7⟩ st=some (st.dst d (RP r)):=λ c hc=>by
  have y5:(GR L c).pure f ((xs.map st.ev).map Bd)=some r:=hc;simp only[F9,h,e9];rw[if_pos hq,y5];simp only[if_pos jf,Option.map_some,St.app]
 constructor
 ·rintro ⟨n,c,DK,k8,hs,iv,Ik⟩
  simp only[G1]at hs;cases hp:MJ L c f ((xs.map st.ev).map Bd) with
  | none =>
   have y5:(GR L c).pure f ((xs.map st.ev).map Bd)=none:=hp;simp only[F9,h,e9]at hs;rw[if_pos hq,y5]at hs;simp at hs
  | some r' =>
   obtain rfl:r'=r:=Ev.Eu ⟨c,hp⟩ hr;rw[j8 c hp]at hs;exact ⟨n,c,DK,k8,hs,iv,Ik⟩
 ·rintro ⟨n,c,DK,k8,hs,iv,Ik⟩
  obtain ⟨c',y5⟩:=hr;have l1:=KE (L:=L) (Nat.le_max_left c c');have l2:=KE (L:=L) (Nat.le_max_right c c');refine ⟨n,max c c',DK,k8,?_,XU l1 (Nat.le_refl n) iv,Ik⟩;simp only[G1];rw[j8 (max c c') (l2.1 f _ r y5)];exact X2 l1 hs
theorem AhU {d:Option Nat} {s f:Nat} {xs:List BL} {g:Option (Nat × Bool)} {b7:List Nat} {l:List AI} {vs:List AV} {z:Nat} {es:List (List AV)} (h:J8 st g=some true) (hv:(xs.map st.ev).mapM (XY (st.own.o5 b7) true)=some vs) (hr:NM L f vs z es)
  (ha:AO L l k (st.app d (.new s ⟨z,es⟩ (λ t => .row s t z 0 es.length))) Q):AO L (⟨d,.q6 s f xs,g,b7⟩::l) k st Q:=by
 obtain ⟨n,c,DK,k8,hs,iv,hq⟩:=ha;obtain ⟨c',y5⟩:=hr;have l1:=KE (L:=L) (Nat.le_max_left c c');have l2:=KE (L:=L) (Nat.le_max_right c c');have yo:W4 ((GR L (max c c')).kv f vs BD.emp)=some (z,es):=Xw (l2.2.1 f vs BD.emp) y5;refine ⟨n,max c c',DK,k8,?_,XU l1 (Nat.le_refl n) iv,hq⟩;simp only[G1];have:F9 (GR L (max c c')) ⟨d,.q6 s f xs,g,b7⟩ st=some (st.app d (.new s ⟨z,es⟩ (λ t => .row s t z 0 es.length))):=by
  simp only[F9,h,e9,hv,yo,Option.map_some]
 rw[this];exact X2 l1 hs
def EvS (L:Lib) (s f:Nat) (vs:List AV) (q:E4) (r:AV) (q':E4):Prop := ∃ n,∀ o:BD,o s=q->HI L n f vs o=some (r,o.put s q')
theorem AhX {d:Option Nat} {s f:Nat} {xs:List BL} {g:Option (Nat × Bool)} {b7:List Nat} {l:List AI} {r:AV} {q':E4} (h:J8 st g=some true) (hr:EvS L s f (xs.map st.ev) (st.own s) r q')
  (ha:AO L l k (st.app d (.Bg s q' r)) Q):AO L (⟨d,.dh s f xs,g,b7⟩::l) k st Q:=by
 obtain ⟨n,c,DK,k8,hs,iv,hq⟩:=ha;obtain ⟨c',y5⟩:=hr;have l1:=KE (L:=L) (Nat.le_max_left c c');have l2:=KE (L:=L) (Nat.le_max_right c c');have yo:nM (GR L (max c c')) f (xs.map st.ev) s (st.own s)=some (r,q'):=nN.2 λ o ho=>l2.2.1 f _ o _ (y5 o ho)
 refine ⟨n,max c c',DK,k8,?_,XU l1 (Nat.le_refl n) iv,hq⟩;simp only[G1];have:F9 (GR L (max c c')) ⟨d,.dh s f xs,g,b7⟩ st=some (st.app d (.Bg s q' r)):=by
  simp only[F9,h,e9,yo,Option.map_some]
 rw[this];exact X2 l1 hs
theorem AhR {d:Option Nat} {f:Nat} {xs:List BL} {g:Option (Nat × Bool)} {b7:List Nat} {l:List AI} {r:AV} {o':BD} (h:J8 st g=some true) (hr:LU L f (xs.map st.ev) st.own r o') :
  AO L (⟨d,.e8 f xs,g,b7⟩::l) k st Q↔AO L l k { (st.dst d r) with own:=o' } Q:=by
 have j8 : ∀ c r' o1,HI L c f (xs.map st.ev) st.own=some (r',o1)->F9 (GR L c) ⟨d,.e8 f xs,g,b7⟩ st=some { (st.dst d r') with own:=o1 }:=λ c r' o1 hc=>by
  have y5:(GR L c).kv f (xs.map st.ev) st.own=some (r',o1):=hc;simp [F9,h,e9,y5,St.app]
 constructor
 ·rintro ⟨n,c,DK,k8,hs,iv,hq⟩
  simp only[G1]at hs;cases hI:F9 (GR L c) ⟨d,.e8 f xs,g,b7⟩ st with
  | none=>simp [hI]at hs
  | some C2 =>
   simp only[hI]at hs;cases hp:HI L c f (xs.map st.ev) st.own with
   | none =>
    have y5:(GR L c).kv f (xs.map st.ev) st.own=none:=hp;simp [F9,h,e9,y5]at hI
   | some x =>
    obtain ⟨r',o1⟩:=x;obtain ⟨rfl,rfl⟩:=LU.Eu ⟨c,hp⟩ hr;rw[j8 c r' o1 hp]at hI;obtain rfl:=Option.some.inj hI;exact ⟨n,c,DK,k8,hs,iv,hq⟩
 ·rintro ⟨n,c,DK,k8,hs,iv,hq⟩
  obtain ⟨c',y5⟩:=hr;have l1:=KE (L:=L) (Nat.le_max_left c c');have l2:=KE (L:=L) (Nat.le_max_right c c');refine ⟨n,max c c',DK,k8,?_,XU l1 (Nat.le_refl n) iv,hq⟩;simp only[G1];rw[j8 (max c c') r o' (l2.2.1 f _ _ _ y5)];exact X2 l1 hs
theorem AhW {d:Option Nat} {f:Nat} {cs:List AV} {x:BL} {xs:List BL} {g:Option (Nat × Bool)} {b7:List Nat} {l:List AI} {r:AV} {o':BD} (h:J8 st g=some true) (hx:st.ev x = .fn false f (L.num f) cs) (hr:LU L f (xs.map st.ev++cs) st.own r o') :
  AO L (⟨d,.q8 x xs,g,b7⟩::l) k st Q↔AO L l k { (st.dst d r) with own:=o' } Q:=by
 have j8 : ∀ c r' o1,HI L c f (xs.map st.ev++cs) st.own=some (r',o1)->F9 (GR L c) ⟨d,.q8 x xs,g,b7⟩ st=some { (st.dst d r') with own:=o1 }:=λ c r' o1 hc=>by
  have y5:(GR L c).kv f (xs.map st.ev++cs) st.own=some (r',o1):=hc;simp [F9,h,e9,hx,eA,y5,St.app]
 constructor
 ·rintro ⟨n,c,DK,k8,hs,iv,hq⟩
  simp only[G1]at hs;cases hI:F9 (GR L c) ⟨d,.q8 x xs,g,b7⟩ st with
  | none=>simp [hI]at hs
  | some C2 =>
   simp only[hI]at hs;cases hp:HI L c f (xs.map st.ev++cs) st.own with
   | none =>
    have y5:(GR L c).kv f (xs.map st.ev++cs) st.own=none:=hp;simp [F9,h,e9,hx,eA,y5]at hI
   | some x =>
    obtain ⟨r',o1⟩:=x;obtain ⟨rfl,rfl⟩:=LU.Eu ⟨c,hp⟩ hr;rw[j8 c r' o1 hp]at hI;obtain rfl:=Option.some.inj hI;exact ⟨n,c,DK,k8,hs,iv,hq⟩
 ·rintro ⟨n,c,DK,k8,hs,iv,hq⟩
  obtain ⟨c',y5⟩:=hr;have l1:=KE (L:=L) (Nat.le_max_left c c');have l2:=KE (L:=L) (Nat.le_max_right c c');refine ⟨n,max c c',DK,k8,?_,XU l1 (Nat.le_refl n) iv,hq⟩;simp only[G1];rw[j8 (max c c') r o' (l2.2.1 f _ _ _ y5)];exact X2 l1 hs
theorem AhC {Q':St->Prop} (h:AK L k st Q) (hq : ∀ s,Q s->Q' s):AK L k st Q':=by
 obtain ⟨n,c,k8,hr,hh⟩:=h;exact ⟨n,c,k8,hr,hq _ hh⟩
theorem LU.intro {f:Nat} {fn:AFn} {vs:List AV} {o:BD} {r:AV} {o':BD} (hL:L f=some fn) (hp:vs.length=fn.cr) (h:AK L [.code fn.body] ⟨FV 0 vs,o⟩ (λ st=>(fn.res.mapM (JT st)).map NF=some r/\st.own=o')):LU L f vs o r o':=by
 obtain ⟨n,c,k8,hr,h1,h2⟩:=h;refine ⟨max n c+1,?_⟩;rw[jR];simp only[hL,hp,if_true];rw[XU (KE (L:=L) (Nat.le_max_right n c)) (Nat.le_max_left n c) hr];cases hm:fn.res.mapM (JT k8) with
 | none=>rw[hm]at h1;cases h1
 | some rs =>
  rw[hm]at h1;simp only[Option.map_some,Option.some.injEq]at h1;simp [hm,h1,h2]
theorem KR.intro {f:Nat} {fn:AFn} {vs:List AV} {r:AV} (hL:L f=some fn) (hp:vs.length=fn.cr) (h:AK L [.code fn.body] ⟨FV 0 vs,BD.emp⟩ (λ st=>((fn.res.mapM (JT st)).map NF).bind (aG st.own false)=some r/\B3 r)):KR L f vs r:=by
 obtain ⟨n,c,k8,hr,h1,h2⟩:=h;cases hm:(fn.res.mapM (JT k8)).map NF with
 | none=>rw[hm]at h1;cases h1
 | some r0 =>
  rw[hm]at h1;simp only[Option.bind_some]at h1;obtain ⟨q,hq⟩:=LU.intro (o:=BD.emp) (r:=r0) (o':=k8.own) hL hp ⟨n,c,k8,hr,hm,rfl⟩;refine ⟨q,?_⟩;unfold N1;simp [hq,h1,h2]
theorem KR.ev {f:Nat} {fn:AFn} {vs:List AV} {r:AV} (hL:L f=some fn) (h:KR L f vs r) (hs:fn.uh=false:=by rfl):Ev L f vs r:=by
 obtain ⟨n,h⟩:=h;have hs:L.uh f=false:=by simp only[Lib.uh,hL,hs]
 exact ⟨n,by unfold MJ P6;rw[hs];exact h⟩
theorem KR.cons {f:Nat} {q:Bool} {e:List AV} {es:List (List AV)} {vs:List AV} {r:AV} (h:KR L f (.sl q (e::es)::vs) r):Ev L f (.sl q (e::es)::vs) r:=by
 obtain ⟨n,h⟩:=h;refine ⟨n,?_⟩;unfold MJ P6;split
 ·rename_i heq;simp at heq
 ·exact h
theorem KR.nil {f:Nat} {fn:AFn} {q:Bool} {vs:List AV} {r:AV} (hL:L f=some fn) (h1:KR L f (.dc (.bool true)::vs) r) (h2:KR L f (.dc (.bool false)::vs) r) (hs:fn.uh=true:=by rfl):Ev L f (.sl q []::vs) r:=by
 obtain ⟨n,h1⟩:=h1;obtain ⟨n',h2⟩:=h2;have hs:L.uh f=true:=by simp only[Lib.uh,hL,hs]
 have k1:=kY (λ vs r h=>(KE (L:=L) (Nat.le_max_left n n')).2.1 f vs BD.emp r h) h1;have k2:=kY (λ vs r h=>(KE (L:=L) (Nat.le_max_right n n')).2.1 f vs BD.emp r h) h2;refine ⟨max n n',?_⟩;unfold MJ P6;rw[hs];simp only;have k1':N1 (λ vs=>HI L (max n n') f vs BD.emp) (.dc (.bool true)::vs)=some r:=k1;have k2':N1 (λ vs=>HI L (max n n') f vs BD.emp) (.dc (.bool false)::vs)=some r:=k2;rw[k1',k2'];simp
theorem Ev.intro {f:Nat} {fn:AFn} {vs:List AV} {r:AV} (hL:L f=some fn) (hp:vs.length=fn.cr) (h:AK L [.code fn.body] ⟨FV 0 vs,BD.emp⟩ (λ st=>((fn.res.mapM (JT st)).map NF).bind (aG st.own false)=some r/\B3 r)) (hs:fn.uh=false:=by rfl):Ev L f vs r :=
 (KR.intro hL hp h).ev hL hs
end
end Go.b8

namespace Go.b8
section
variable {L:Lib} {k:List It} {tm:Tm} {own:BD} {Q:St->Prop} {l:List AI} {b7:List Nat} {d:Nat}
theorem mD (i:Nat) (v:AV) (r:Tm) (j:Nat):g7 ((i,v)::r) j=if j=i then v else g7 r j:=rfl
theorem Are (j:Nat):g7 [] j = .any:=rfl
theorem Aq9 (i:Nat) (v:AV) (r:Tm) (l:List Nat):ch ((i,v)::r) l=if l.contains i then ch r l else (i,v)::ch r l:=rfl
theorem Ara (l:List Nat):ch [] l=[]:=rfl
theorem An6 (i:Nat) (v:AV) (r:List AV):FV i (v::r)=(i,v)::FV (i+1) r:=rfl
end
end Go.b8

namespace Go.b8
section
variable {L:Lib} {k:List It} {tm:Tm} {own:BD} {st:St} {Q:St->Prop} {l:List AI} {b7:List Nat} {d:Nat} {dst:Option Nat}
section
variable {x y:BL} {kd:IntKind} {a b:Int}
end
def iS (fn:AFn) (r:AV) (st:St):Prop:=((fn.res.mapM (JT st)).map NF).bind (aG st.own false)=some r/\B3 r
theorem Ev.fwd {f:Nat} {fn:AFn} {vs:List AV} {r:AV} (hL:L f=some fn) (hp:vs.length=fn.cr) (h:AK L [.code fn.body] ⟨FV 0 vs,BD.emp⟩ (iS fn r)) (hs:fn.uh=false:=by rfl):Ev L f vs r:=Ev.intro hL hp h hs
theorem KR.fwd {f:Nat} {fn:AFn} {vs:List AV} {r:AV} (hL:L f=some fn) (hp:vs.length=fn.cr) (h:AK L [.code fn.body] ⟨FV 0 vs,BD.emp⟩ (iS fn r)):KR L f vs r:=KR.intro hL hp h
end
attribute [irreducible] iS
end Go.b8

namespace Go.b8
def pw (n:Int):Int:=2^n.toNat
theorem HY (n:Int):1<=pw n:=by
 have:0<pw n:=Int.pow_pos (by decide)
 omega
theorem PC {n m:Int} (h:n<=m):pw n<=pw m:=by
 unfold pw;have h':n.toNat<=m.toNat:=by omega
 have h2:=Nat.pow_le_pow_right (n:=2) (by decide) h';have h3:((2^n.toNat:Nat):Int)<=((2^m.toNat:Nat):Int):=by exact_mod_cast h2
 simpa using h3
theorem kZ {n:Int} (h:n<=62):pw n<=4611686018427387904:=PC (m:=62) h
theorem qI {n:Int} (h:1<=n):pw n=2*pw (n-1):=by
 unfold pw;have e:n.toNat=(n-1).toNat+1:=by omega
 rw[e,Int.pow_succ,Int.mul_comm]
theorem Afn:pw 0=1:=rfl
theorem Ahk {a:Int} (h:0<=a) (h':a<=9223372036854775807):IntKind.i64.wrap a=a:=IntWalk.i64_in _ ⟨by omega,h'⟩
theorem Aqz {k2:IntKind} {n:Int} (h:0<=n/\n<=62):GF .shl .i64 1 k2 n=some (.int .i64 (pw n)):=by
 have h1:=kZ h.2;have h2:=HY n;have e:(1:Int)*2^(min n.toNat IntKind.i64.bits)=pw n:=by
  have:min n.toNat IntKind.i64.bits=n.toNat:=by simp only[IntKind.bits];omega
  rw[this,Int.one_mul];rfl
 simp only[GF];rw[if_neg (by omega),e,Ahk (by omega) (by omega)]
theorem AqA {k2:IntKind} {a n:Int} (h:0<=n/\n<=63):GF .shr .i64 a k2 n=some (.int .i64 (a/pw n)):=by
 have h2:=HY n;have e:(2:Int)^(min n.toNat IntKind.i64.bits)=pw n:=by
  have:min n.toNat IntKind.i64.bits=n.toNat:=by simp only[IntKind.bits];omega
  rw[this];rfl
 simp only[GF];rw[if_neg (by omega),e,Int.fdiv_eq_ediv_of_nonneg _ (by omega)]
theorem Xy {a p n:Int} (hp:p=pw n) (h:0<=n/\n<=62):GF .and .i64 a .i64 (p-1)=some (.int .i64 (a%p)):=by
 have h1:=kZ h.2;have h2:=HY n;simp only[GF,if_true];have hn:n.toNat<=64:=by omega
 have e0:pw n=((2^n.toNat:Nat):Int):=by simp [pw]
 have e1:(BitVec.ofInt IntKind.i64.bits (p-1)).toNat=2^n.toNat-1:=by
  have hq:(2:Nat)^n.toNat<=4611686018427387904:=by
   have:((2^n.toNat:Nat):Int)<=4611686018427387904:=by rw[<-e0];exact h1
   omega
  rw[BitVec.toNat_ofInt];simp only[IntKind.bits];rw[hp,e0];have hz:1<=2^n.toNat:=Nat.one_le_two_pow;omega
 have e2:(BitVec.ofInt IntKind.i64.bits a).toNat=(a%18446744073709551616).toNat:=by
  rw[BitVec.toNat_ofInt];rfl
 have e3:((a%18446744073709551616).toNat%2^n.toNat:Nat)=(a%pw n).toNat:=by
  have hd:(pw n) ∣ 18446744073709551616:=by
   refine ⟨2^(64-n.toNat),?_⟩;unfold pw;rw[<-Int.pow_add,show n.toNat+(64-n.toNat)=64 by omega];rfl
  have h3:(a%18446744073709551616)%pw n=a%pw n:=Int.emod_emod_of_dvd a hd;have h4:(((a%18446744073709551616).toNat%2^n.toNat:Nat):Int)=(a%18446744073709551616)%pw n:=by
   rw[Int.natCast_emod,<-e0,Int.toNat_of_nonneg (by omega)]
  have h5:0<=a%pw n:=Int.emod_nonneg _ (by omega);omega
 have h5:0<=a%pw n:=Int.emod_nonneg _ (by omega);have h6:a%pw n<pw n:=Int.emod_lt_of_pos _ (by omega);rw[BitVec.toNat_and,e1,Nat.and_two_pow_sub_one_eq_mod,e2,e3,hp,Int.toNat_of_nonneg h5,Ahk h5 (by omega)]
theorem Aja {a:Int}:GF .and .i64 a .i64 1=some (.int .i64 (a%2)):=Xy (p:=2) (n:=1) rfl ⟨by decide,by decide⟩
theorem AgG {a m:Int} (hm:0<m):a.tmod m=if 0<=a\/a%m=0 then a%m else a%m-m:=by
 have h:=Int.tmod_eq_emod (a:=a) (b:=m);rw[h];have hd:m ∣ a↔a%m=0:=Int.dvd_iff_emod_eq_zero;by_cases h0:0<=a\/a%m=0
 ·rw[if_pos h0,if_pos (by rcases h0 with h0|h0;exact Or.inl h0;exact Or.inr (hd.2 h0))];omega
 ·rw[if_neg h0,if_neg (λ h=>h0 (h.imp id hd.1))]
  have:(m.natAbs:Int)=m:=by omega
  omega
theorem AgC {a m:Int} (hm:0<m):a.tdiv m=if 0<=a\/a%m=0 then a/m else a/m+1:=by
 have h:=Int.tdiv_eq_ediv (a:=a) (b:=m);rw[h];have hd:m ∣ a↔a%m=0:=Int.dvd_iff_emod_eq_zero;by_cases h0:0<=a\/a%m=0
 ·rw[if_pos h0,if_pos (by rcases h0 with h0|h0;exact Or.inl h0;exact Or.inr (hd.2 h0))];omega
 ·rw[if_neg h0,if_neg (λ h=>h0 (h.imp id hd.1)),Int.sign_eq_one_of_pos hm]
theorem Alv {a m:Int} (hm:1<=m) (h : -9223372036854775808<=a/\a<=9223372036854775807) : -9223372036854775808<=a/m/\a/m<=9223372036854775807:=by
 constructor
 ·rw[Int.le_ediv_iff_mul_le (by omega)]
  have:=Int.mul_le_mul_of_nonpos_left (a := -9223372036854775808) (b:=m) (c:=1) (by omega) hm
  omega
 ·have:a/m<9223372036854775808:=by
   rw[Int.ediv_lt_iff_lt_mul (by omega)];have:=Int.mul_le_mul_of_nonneg_left (c:=9223372036854775808) (a:=1) (b:=m) hm (by omega)
   omega
  omega
theorem Alu {a m:Int} (hm:2<=m) (h : -9223372036854775808<=a/\a<=9223372036854775807) : -4611686018427387904<=a/m/\a/m<=4611686018427387904:=by
 constructor
 ·rw[Int.le_ediv_iff_mul_le (by omega)]
  have:=Int.mul_le_mul_of_nonpos_left (a := -4611686018427387904) (b:=m) (c:=2) (by omega) hm
  omega
 ·have:a/m<4611686018427387904+1:=by
   rw[Int.ediv_lt_iff_lt_mul (by omega)];have:=Int.mul_le_mul_of_nonneg_left (c:=4611686018427387905) (a:=2) (b:=m) hm (by omega)
   omega
  omega
theorem AnH {v h:Int} (hh:1<=h):(v/h)%2=if h<=v%(2*h) then 1 else 0:=by
 have e:v/h=v%(2*h)/h+2*(v/(2*h)):=by
  conv=>lhs;rw[<-Int.emod_add_mul_ediv v (2*h)]
  rw[show 2*h*(v/(2*h))=h*(2*(v/(2*h))) by rw[Int.mul_comm 2 h,Int.mul_assoc],Int.add_mul_ediv_left _ _ (by omega)]
 have h0:0<=v%(2*h):=Int.emod_nonneg _ (by omega);have h1:v%(2*h)<2*h:=Int.emod_lt_of_pos _ (by omega);rw[e];by_cases hc:h<=v%(2*h)
 ·have:v%(2*h)/h=1:=by
   have a1:1<=v%(2*h)/h:=by rw[Int.le_ediv_iff_mul_le (by omega)];omega
   have a2:v%(2*h)/h<2:=by rw[Int.ediv_lt_iff_lt_mul (by omega)];omega
   omega
  rw[if_pos hc,this];omega
 ·have:v%(2*h)/h=0:=Int.ediv_eq_zero_of_lt h0 (by omega)
  rw[if_neg hc,this];omega
section
variable {L:Lib} {k:List It} {tm:Tm} {own:BD} {Q:St->Prop} {l:List AI} {b7:List Nat} {d:Nat} {x y:BL} {a b n p:Int} {k2:IntKind}
end
end Go.b8

namespace Go.b8
theorem hJ (ts:List Nat) (j:Nat) : ∀ tm:Tm,g7 (ch tm ts) j=if ts.contains j then .any else g7 tm j
 | []=>by simp [Ara,Are]
 | (i,u)::r=>by
  rw[Aq9];by_cases h:ts.contains i=true
  ·rw[if_pos h,hJ ts j r,mD]
   by_cases h2:j=i
   ·subst h2;rw[if_pos h,if_pos h]
   ·rw[if_neg h2]
  ·rw[if_neg h,mD,mD,hJ ts j r]
   by_cases h2:j=i
   ·subst h2;rw[if_pos rfl,if_pos rfl,if_neg h]
   ·rw[if_neg h2,if_neg h2]
def O9 (j:Nat):List Nat->Bool
 | []=>false
 | i::r=>bif Nat.beq j i then true else O9 j r
abbrev DT (n:Int):List AV:=[.int .i64 n]
section
variable {L:Lib} {k:List It} {tm:Tm} {own:BD} {Q:St->Prop} {l:List AI} {b7:List Nat} {d:Nat} {x i:BL} {kd:IntKind} {a:Int} {q:Bool} {α:Type} {es:List α} {enc:α->List AV} {z:Nat}
end
end Go.b8

namespace Go.b8
inductive C3 where
 | bx (cs:List AV)
 | rw (z:Nat) (es:List (List AV))
 | bs (z:Nat) (es:List (List AV))
 | mx (rows:List (Option (Nat × List (List AV))))
 | hx (i:Nat) (v:AV) (rows:List (Option (Nat × List (List AV))))
 | vw (w:List Nat) (rows:List (Option (Nat × List (List AV))))
abbrev Mem:=List (Nat × Nat × C3)
def c4:Mem->Nat->Option (Nat × C3)
 | [],_=>none
 | (k,s,c)::r,j=>bif Nat.beq j k then some (s,c) else c4 r j
def b9 (M:Mem) (k t:Nat):Option C3:=match c4 M k with
 | none=>none
 | some (_,c)=>match t with
  | 0=>some c
  | i+1=>match c with
   | .mx rows=>match rows[i]? with
    | some (some (z,es))=>some (.rw z es)
    | _=>none
   | .hx _ _ rows=>match rows[i]? with
    | some (some (z,es))=>some (.rw z es)
    | _=>none
   | .vw _ rows=>match rows[i]? with
    | some (some (z,es))=>some (.rw z es)
    | _=>none
   | _=>none
def w5 (j:Nat):Mem->Mem
 | []=>[]
 | (k,s,c)::r=>bif Nat.beq j k then w5 j r else (k,s,c)::w5 j r
def tg:Tm->Nat->AV
 | [],_ => .any
 | (i,v)::r,j=>bif Nat.beq j i then v else tg r j
def bit (m i:Nat):Bool:=Nat.beq (Nat.land (Nat.shiftRight m i) 1) 1
def mask:Nat->List Nat->Nat
 | m,[]=>m
 | m,t::ts=>mask (Nat.lor m (Nat.shiftLeft 1 t)) ts
def Aq (m:Nat):Tm->Tm
 | []=>[]
 | (i,v)::r=>bif bit m i then Aq m r else (i,v)::Aq (Nat.lor m (Nat.shiftLeft 1 i)) r
def fN (n:Nat) (K:Nat->Prop):Prop:=match n with
 | 0=>K 0
 | k+1=>K (k+1)
def ya:AV->Bool
 | .int _ _=>true | .bool _=>true | .dc _=>true | .sl _ _=>true | .nil=>true
 | _=>false
def H9:List AV->Bool
 | []=>true
 | v::r=>bif ya v then H9 r else false
def jL:List (List AV)->Bool
 | []=>true
 | v::r=>bif H9 v then jL r else false
def V3 (s:Nat):AV->Bool
 | .row k _ _ _ _=>Nat.beq k s | .ptr k _ _ _=>Nat.beq k s
 | _=>false
def N7 (s:Nat):List AV->Bool
 | []=>false
 | v::r=>bif V3 s v then true else N7 s r
def aD (s:Nat):List (List AV)->Bool
 | []=>false
 | v::r=>bif N7 s v then true else aD s r
def Y2 (s:Nat):AV->Bool
 | .agg cs=>N7 s cs
 | .fn _ _ _ cs=>N7 s cs
 | v=>V3 s v
def gO (s:Nat):List AV->Bool
 | []=>false
 | v::r=>bif Y2 s v then true else gO s r
def V4 (s:Nat):AV->Bool
 | .g8 vs=>gO s vs
 | v=>Y2 s v
def NI (s:Nat):Tm->Bool
 | []=>false
 | (_,v)::r=>bif V4 s v then true else NI s r
def NH (s:Nat):C3->Bool
 | .bx cs=>N7 s cs
 | .rw _ _=>false
 | .bs _ es=>aD s es
 | .mx _=>false
 | .hx _ _ _=>false
 | .vw _ _=>false
def L5 (s:Nat):Mem->Bool
 | []=>false
 | (k,_,c)::r=>bif Nat.beq s k then true else bif NH s c then true else L5 s r
def YF (s:Nat):AV->Bool
 | .row k t _ _ _=>bif Nat.beq k s then (match t with|0=>false|_+1=>true) else false
 | .ptr k t _ _=>bif Nat.beq k s then (match t with|0=>false|_+1=>true) else false
 | _=>false
def W5 (s:Nat):List AV->Bool
 | []=>false
 | v::r=>bif YF s v then true else W5 s r
def bC (s:Nat):AV->Bool
 | .agg cs=>W5 s cs
 | .fn _ _ _ cs=>W5 s cs
 | v=>YF s v
def dY (s:Nat):List AV->Bool
 | []=>false
 | v::r=>bif bC s v then true else dY s r
def ZP (s:Nat):AV->Bool
 | .g8 vs=>dY s vs
 | v=>bC s v
def W6 (s:Nat):Tm->Bool
 | []=>false
 | (_,v)::r=>bif ZP s v then true else W6 s r
def dZ (s:Nat):List (List AV)->Bool
 | []=>false
 | v::r=>bif W5 s v then true else dZ s r
def YG (s:Nat):C3->Bool
 | .bx cs=>W5 s cs
 | .bs _ es=>dZ s es
 | _=>false
def PV (s:Nat):Mem->Bool
 | []=>false
 | (_,_,c)::r=>bif YG s c then true else PV s r
def used (k:Nat) (tm:Tm) (M:Mem):Bool:=bif L5 k M then true else NI k tm
def qF (tm:Tm) (M:Mem):List Nat->(Nat->Prop)->Prop
 | [],_=>False
 | k::r,K=>bif used k tm M then qF tm M r K else K k
def MC (s:Nat) (tm:Tm) (M:Mem) (K:Nat->Prop):Prop:=qF tm M [s,s+1000000,s+2000000,s+3000000] K
def fL:List AV->(List AV->Prop)->Prop
 | [],K=>K []
 | v::r,K=>fL r λ r'=>K (v::r')
def fV (v:AV) (K:AV->Prop):Prop:=match v with
 | .int k n=>K (.int k n) | .bool b=>K (.bool b) | .sl l es=>K (.sl l es) | .row s t z o n=>K (.row s t z o n)
 | .nil=>K .nil | .ptr s t i j=>K (.ptr s t i j) | .y9 cs=>K (.y9 cs) | .agg cs=>fL cs λ cs=>K (.agg cs)
 | .fn p f g cs=>fL cs λ cs=>K (.fn p f g cs)
 | .g8 vs=>fL vs λ vs=>K (.g8 vs) | .dc c=>K (.dc c) | .any=>False
def fC (v:AV) (K:List AV->Prop):Prop:=match v with
 | .agg cs=>fL cs K
 | .fn _ _ _ _=>False
 | .g8 _=>False
 | .any=>False
 | v=>fV v λ v=>K [v]
def fB (b:Bool) (K:Bool->Prop):Prop:=match b with
 | true=>K true
 | false=>K false
def fT:Tm->(Tm->Prop)->Prop
 | [],K=>K []
 | (i,v)::r,K=>fT r λ r'=>K ((i,v)::r')
def fM:Mem->(Mem->Prop)->Prop
 | [],K=>K []
 | (k,s,c)::r,K=>fM r λ r'=>K ((k,s,c)::r')
def fF (v:AV) (K:AV->Prop):Prop:=match v with
 | .int k n=>K (.int k n) | .bool b=>K (.bool b) | .sl l es=>K (.sl l es) | .row s t z o n=>K (.row s t z o n)
 | .nil=>K .nil | .ptr s t i j=>K (.ptr s t i j) | .dc c=>K (.dc c)|_=>False
def f2 (v:AV) (K:AV->Prop):Prop:=match v with
 | .int k n=>K (.int k n) | .bool b=>K (.bool b) | .sl l es=>K (.sl l es) | .row s t z o n=>K (.row s t z o n)
 | .nil=>K .nil | .ptr s t i j=>K (.ptr s t i j) | .dc c=>K (.dc c) | .agg cs=>fL cs λ cs=>K (.agg cs) | .fn p f g cs=>fL cs λ cs=>K (.fn p f g cs)|_=>False
def vk (agg:Bool) (ds:List AV) (K:AV->Prop):Prop:=match agg with
 | true=>K (.agg ds)
 | false=>match ds with
  | [c]=>fF c K
  | _=>False
def A3 (p q A B:Prop):Prop:=(p->A)/\(q->B)
def BU (p A:Prop):Prop:=p/\A
def AU (op:BinOp) (k:IntKind) (a:Int) (k':IntKind) (b:Int) (K:AV->Prop):Prop := ∃ v,GF op k a k' b=some v/\K v
def FE (op:UnOp) (k:IntKind) (n:Int) (K:AV->Prop):Prop := ∃ v,aL op (.int k n)=some v/\K v
structure B6 (k:IntKind) (n:Int) (K:Int->Prop):Prop where h:K (k.wrap n)
def BR (es:List (List AV)) (a:Int) (z:Nat) (K:List AV->Prop):Prop:=0<=a /\ ∃ cs,es[a.toNat]? = some cs/\cs.length=z/\K cs
def C1 (es:List (List AV)) (i j n:Nat) (K:List AV->Prop):Prop := ∃ cs ds,es[i]? = some cs/\part cs j n=some ds/\K ds
def CK (es:List (List AV)) (i j:Nat) (vs:List AV) (K:List (List AV)->Prop):Prop := ∃ cs,es[i]? = some cs/\j+vs.length<=cs.length/\K (es.set i (splice cs j vs))
def DS (a b:Int) (bytes:Nat) (zero:List AV) (K:List (List AV)->Nat->Prop):Prop:=(0<=a/\a<=b/\b*bytes<=I3/\b<=9223372036854775807)/\K (List.replicate a.toNat zero) a.toNat
structure BK (es:List (List AV)) (K:Nat->Prop):Prop where h:K es.length
def DE (es:List (List AV)) (len:Nat) (ys:List (List AV)) (z bytes:Nat) (K:List (List AV)->Nat->Prop):Prop :=
 len<=es.length/\(∀ e∈ys,e.length=z)/\(len+ys.length)*bytes<=I3/\len+ys.length<=9223372036854775807/\K (es.take len++ys) (len+ys.length)
def FA (ys:List (List AV)) (z bytes:Nat) (K:List (List AV)->Nat->Prop):Prop :=
 (∀ e∈ys,e.length=z)/\ys.length*bytes<=I3/\ys.length<=9223372036854775807/\K ys ys.length
def G7 (es:List (List AV)) (off len:Nat) (ys:List (List AV)) (z:Nat) (K:List (List AV)->Nat->Prop):Prop :=
 off+len<=es.length/\(∀ e∈ys,e.length=z)/\K (es.take off++ys.take len++es.drop (off+min ys.length len)) (min ys.length len)
def DR (es:List (List AV)) (off len:Nat) (K:List (List AV)->Prop):Prop:=off+len<=es.length/\K ((es.drop off).take len)
def J0:List AV->Bool
 | []=>true
 | v::r=>match v with
  | .int _ _=>J0 r | .bool _=>J0 r | .dc _=>J0 r | .sl _ _=>J0 r
  | _=>false
def nl:AV->AV
 | .nil => .sl false []
 | v=>v
def S0:List AV->Bool
 | []=>true
 | v::r=>match v with
  | .int _ _=>S0 r | .bool _=>S0 r | .dc _=>S0 r | .sl _ _=>S0 r | .nil=>S0 r
  | _=>false
def B2 (es:List (List AV)) (off len:Nat) (K:List (List AV)->Prop):Prop:=off+len<=es.length/\(∀ e∈es,S0 e=true)/\K (((es.drop off).take len).map λ e=>e.map nl)
def FM (rows:List (Option (Nat × List (List AV)))) (i:Nat) (K:Option (Nat × List (List AV))->Prop):Prop := ∃ r,rows[i]? = some r/\K r
def E2 (rows:List (Option (Nat × List (List AV)))) (i:Nat) (K:Nat->List (List AV)->Prop):Prop := ∃ z es,rows[i]? = some (some (z,es))/\K z es
def F7 (rows:List (Option (Nat × List (List AV)))) (i z:Nat) (es:List (List AV)) (K:List (Option (Nat × List (List AV)))->Prop):Prop:=i<rows.length/\K (rows.set i (some (z,es)))
def G8 (rows:List (Option (Nat × List (List AV)))) (i z:Nat) (es es':List (List AV)) (K:List (Option (Nat × List (List AV)))->Prop):Prop:=es'.length=es.length/\K (rows.set i (some (z,es')))
def GX (a b:Int) (bytes:Nat) (K:List (Option (Nat × List (List AV)))->Nat->Prop):Prop:=(0<=a/\a<=b/\b*bytes<=I3/\b<=9223372036854775807)/\K (List.replicate a.toNat none) a.toNat
def EG (rows:List (Option (Nat × List (List AV)))) (len:Nat) (r:Option (Nat × List (List AV))) (bytes:Nat) (K:List (Option (Nat × List (List AV)))->Nat->Prop):Prop :=
 len=rows.length/\(len+1)*bytes<=I3/\len+1<=9223372036854775807/\K (rows++[r]) (len+1)
def XT (q:Bool):List (Option (Nat × List (List AV)))->List (List AV)
 | []=>[]
 | none::r=>[.sl false []]::XT q r
 | some (_,es)::r=>[.sl q es]::XT q r
def FK (q:Bool) (rows:List (Option (Nat × List (List AV)))) (off len:Nat) (K:List (List AV)->Prop):Prop :=
 off=0/\len=rows.length/\(∀ z es,some (z,es)∈rows -> ∀ e∈es,J0 e=true)/\K (XT q rows)
def EH (lo hi:Option Int) (len:Nat) (K:Nat->Nat->Prop):Prop :=
 ∃ a h:Nat,(match lo with|none=>a=0|some x=>0<=x/\a=x.toNat)/\(match hi with|none=>h=len|some x=>0<=x/\x<=len/\h=x.toNat)/\a<=h/\K a h
def E5 (z:Nat) (es:List (List AV)) (lo hi:Option Int) (K:List (List AV)->Prop):Prop:=(∀ e∈es,e.length=z)/\EH lo hi es.length λ a h=>K ((es.take h).drop a)
def AL (L:Lib) (f:Nat) (vs:List AV) (K:AV->Prop):Prop := ∃ r,Ev L f vs r/\K r
def Ah3 (n:Nat) (cs ds:List AV) (K:Bool->Prop):Prop := ∃ a b,wL cs=some a/\wL ds=some b/\a.length=n/\b.length=n/\K (decide (a=b))
def pI:List AV->Bool
 | []=>true
 | .int _ _::r=>pI r
 | _=>false
def FZ (L:Lib) (f:Nat) (vs:List AV) (K:Nat->List (List AV)->Nat->Prop):Prop := ∃ z es n,NM L f vs z es/\n=es.length/\K z es n
abbrev JX:=Nat->Nat->Nat × Nat
def C2 (σ:JX):AV->AV
 | .row k t z o n => .row (σ k t).1 (σ k t).2 z o n
 | .ptr k t i j => .ptr (σ k t).1 (σ k t).2 i j
 | v=>v
def DK (σ:JX):AV->AV
 | .agg cs => .agg (cs.map (C2 σ))
 | .fn p f g cs => .fn p f g (cs.map (C2 σ))
 | v=>C2 σ v
def C8 (σ:JX):AV->AV
 | .g8 vs => .g8 (vs.map (DK σ))
 | v=>DK σ v
def FC (σ:JX) (k:Nat):Nat->List (Option (Nat × List (List AV)))->List (List AV)
 | _,[]=>[]
 | i,none::r=>[.nil]::FC σ k (i+1) r
 | i,some (z,es)::r=>[.row (σ k (i+1)).1 (σ k (i+1)).2 z 0 es.length]::FC σ k (i+1) r
def C3.c9 (σ:JX) (k:Nat):C3->HU
 | .bx cs=>⟨cs.length,[cs.map (C2 σ)]⟩
 | .rw z es=>⟨z,es⟩
 | .bs z es=>⟨z,es.map λ cs=>cs.map (C2 σ)⟩
 | .mx rows=>⟨1,FC σ k 0 rows⟩
 | .hx i v rows=>⟨1,(FC σ k 0 rows).set i [v]⟩
 | .vw w rows=>⟨1,w.map λ t=>((FC σ k 0 rows)[t]?).getD []⟩
def C3.rf:C3->Bool
 | .bx _=>false
 | _=>true
def J9 (s:Nat):Bool:=Nat.blt s 900000
structure NP (σ:JX) (own:BD) (M:Mem):Prop where
 site : ∀ k s c,c4 M k=some (s,c)->(σ k 0).1=s
 c9 : ∀ k t c,b9 M k t=some c->(own (σ k t).1).c9 (σ k t).2=some (c.c9 σ k)
 old : ∀ k t c,b9 M k t=some c->(σ k t).2<(own (σ k t).1).j5
 inj : ∀ k t k' t' c c',b9 M k t=some c->b9 M k' t'=some c'->σ k t=σ k' t'->k=k'/\t=t'
 low : ∀ k t c,b9 M k t=some c->c.rf=true->J9 (σ k t).1=true
structure RX (σ:JX) (tm:Tm) (M:Mem) (st:St):Prop where
 tm : ∀ j,tg tm j = .any\/g7 st.tm j=C8 σ (tg tm j)
 sat:NP σ st.own M
def SQ (Q:Tm->Mem->Prop) (st:St):Prop := ∃ σ tm M,RX σ tm M st/\Q tm M
def AJ (L:Lib) (k:List It) (tm:Tm) (M:Mem) (Q:Tm->Mem->Prop):Prop := ∀ σ st,RX σ tm M st->AK L k st (SQ Q)
def Xq (L:Lib) (l:List AI) (k:List It) (tm:Tm) (M:Mem) (Q:Tm->Mem->Prop):Prop := ∀ σ st,RX σ tm M st->AO L l k st (SQ Q)
def CQ (L:Lib) (f:Nat) (vs:List AV) (tm:Tm) (M:Mem) (K:AV->Mem->Prop):Prop :=
 ∀ σ own,NP σ own M -> ∃ r n6 σ' M',LU L f (vs.map (C8 σ)) own (C8 σ' r) n6/\NP σ' n6 M'/\(∀ j,C8 σ' (tg tm j)=C8 σ (tg tm j))/\K r M'
def Ah8 (L:Lib) (s f key:Nat) (rest:List AV) (M:Mem) (K:AV->Mem->Prop):Prop :=
 ∃ (cells ja:List AV) (kd:IntKind) (n:Int),c4 M key=some (s,.bx cells)/\H9 cells=true/\H9 ja=true/\(∀ (t:Nat) (q:E4),q.c9 t=some ⟨cells.length,[cells]⟩->EvS L s f (.ptr s t 0 0::rest) q (.int kd n) (q.w6 t (some ⟨ja.length,[ja]⟩)))/\K (.int kd n) ((key,s,.bx ja)::M)
def cv:AV->AV
 | .agg cs=>bif H9 cs then .agg cs else .any
 | .g8 [] => .g8 []
 | .y9 _ => .any
 | .fn p f g [] => .fn p f g []
 | v=>bif ya v then v else .any
def ex (tm:Tm):BL->AV
 | .t n=>tg tm n
 | .c v=>cv v
def kq (k k':IntKind):Bool:=decide (k=k')
def tC (op:BinOp) (k:IntKind) (a:Int) (k':IntKind) (b:Int) (K:AV->Prop):Prop:=match op with
 | .lss=>bif kq k k' then A3 (a<b) (b<=a) (K (.bool true)) (K (.bool false)) else False
 | .leq=>bif kq k k' then A3 (a<=b) (b<a) (K (.bool true)) (K (.bool false)) else False
 | .gtr=>bif kq k k' then A3 (b<a) (a<=b) (K (.bool true)) (K (.bool false)) else False
 | .geq=>bif kq k k' then A3 (b<=a) (a<b) (K (.bool true)) (K (.bool false)) else False
 | .eql=>bif kq k k' then A3 (a=b) (a≠b) (K (.bool true)) (K (.bool false)) else False
 | .neq=>bif kq k k' then A3 (a≠b) (a=b) (K (.bool true)) (K (.bool false)) else False
 | op=>AU op k a k' b K
noncomputable def cF (mx:Bool) (k:IntKind) (K:AV->Prop) (a:Int) (l:List AV):Prop :=
 List.rec (motive:=λ_=>Int->Prop) (λ a=>K (.int k a)) (λ v _ ih a=>match v with
  | .int _ b=>bif mx then A3 (a<b) (b<=a) (ih b) (ih a) else A3 (b<a) (a<=b) (ih b) (ih a)
  | _=>False) l a
def Db:List AV->Nat->AV
 | [],_ => .any
 | v::_,0=>v
 | _::r,n+1=>Db r n
def aB (s:Nat):List Nat->Bool
 | []=>true
 | b7 => !(O9 s b7)
def cJ:List Nat->Bool
 | []=>true
 | s::r=>bif J9 s then false else cJ r
def zA (M:Mem) (k t:Nat) (K:Nat->List (List AV)->Prop):Prop:=match c4 M k with
 | some (_,c)=>match t with
  | 0=>match c with
   | .rw z es=>K z es
   | _=>False
  | i+1=>match c with
   | .mx rows=>E2 rows i K
   | _=>False
 | none=>False
def jP (M:Mem) (v:AV) (K:List (List AV)->Prop):Prop:=match v with
 | .sl _ es=>K es
 | .nil=>K []
 | .dc (.bool _)=>K []
 | .row key t z off len=>zA M key t λ z' es=>bif Nat.beq z z' then DR es off len K else False
 | _=>False
def dC (q:Bool) (M:Mem) (b7:List Nat) (v:AV) (K:AV->Prop):Prop:=match v with
 | .int k n=>K (.int k n)
 | .bool b=>K (.bool b)
 | .sl l es=>K (.sl l es)
 | .dc c=>K (.dc c)
 | .nil=>K (.sl false [])
 | .row key t z off len=>match c4 M key with
  | some (s,.rw z' es)=>match t with
   | 0=>bif Nat.beq z z' then bif aB s b7 then B2 es off len λ es=>K (.sl q es) else False else False
   | _+1=>False
  | some (_,.mx rows)=>match t with
   | 0=>False
   | i+1=>match b7 with
    | []=>E2 rows i λ z' es=>bif Nat.beq z z' then B2 es off len λ es=>K (.sl q es) else False
    | b::r=>bif cJ (b::r) then E2 rows i λ z' es=>bif Nat.beq z z' then B2 es off len λ es=>K (.sl q es) else False else False
  | _=>False
 | _=>False
noncomputable def rA (q:Bool) (M:Mem) (b7:List Nat) (l:List AV):(List AV->Prop)->Prop :=
 List.rec (motive:=λ_=>(List AV->Prop)->Prop) (λ K=>K []) (λ v _ ih K=>dC q M b7 v λ v'=>ih λ r'=>K (v'::r')) l
noncomputable def zL (q:Bool) (M:Mem) (b7:List Nat) (l:List (List AV)):(List (List AV)->Prop)->Prop :=
 List.rec (motive:=λ_=>(List (List AV)->Prop)->Prop) (λ K=>K []) (λ v _ ih K=>rA q M b7 v λ v'=>ih λ r'=>K (v'::r')) l
noncomputable def lO (q:Bool) (M:Mem) (b7:List Nat) (v:AV) (K:AV->Prop):Prop:=match v with
 | .row key 0 z off len=>match c4 M key with
  | some (s,.bs z' es)=>bif Nat.beq z z' then bif aB s b7 then bif Nat.beq off 0 then BU (len=es.length) (zL q M b7 es λ es=>K (.sl q es)) else False else False else False
  | some (_,.mx rows)=>match b7 with
   | []=>bif Nat.beq z 1 then FK q rows off len λ es=>K (.sl q es) else False
   | _::_=>False
  | _=>dC q M b7 (.row key 0 z off len) K
 | v=>dC q M b7 v K
noncomputable def zN (q:Bool) (M:Mem) (b7:List Nat) (l:List AV):(List AV->Prop)->Prop :=
 List.rec (motive:=λ_=>(List AV->Prop)->Prop) (λ K=>K []) (λ v _ ih K=>lO q M b7 v λ v'=>ih λ r'=>K (v'::r')) l
noncomputable def Y4 (q:Bool) (M:Mem) (b7:List Nat) (v:AV) (K:AV->Prop):Prop:=match v with
 | .agg cs=>zN q M b7 cs λ cs=>K (.agg cs)
 | v=>lO q M b7 v K
noncomputable def lQ (tm:Tm) (M:Mem) (b7:List Nat) (l:List BL):(List AV->Prop)->Prop :=
 List.rec (motive:=λ_=>(List AV->Prop)->Prop) (λ K=>K []) (λ x _ ih K=>Y4 true M b7 (ex tm x) λ v=>ih λ vs=>K (v::vs)) l
noncomputable def rB (M:Mem) (b7:List Nat) (v:AV) (K:AV->Prop):Prop:=match v with
 | .nil=>K .nil
 | v=>Y4 true M b7 v K
noncomputable def zO (tm:Tm) (M:Mem) (b7:List Nat) (l:List BL):(List AV->Prop)->Prop :=
 List.rec (motive:=λ_=>(List AV->Prop)->Prop) (λ K=>K []) (λ x _ ih K=>rB M b7 (ex tm x) λ v=>ih λ vs=>K (v::vs)) l
noncomputable def eN (tm:Tm) (l:List BL):(List AV->Prop)->Prop :=
 List.rec (motive:=λ_=>(List AV->Prop)->Prop) (λ K=>K []) (λ x _ ih K=>fV (ex tm x) λ v=>ih λ vs=>K (v::vs)) l
def pY (tm:Tm) (o:Option BL) (K:Option Int->Prop):Prop:=match o with
 | none=>K none
 | some x=>match ex tm x with
  | .int _ n=>K (some n)
  | _=>False
def xC (es:List (List AV)) (K:Nat->Prop):Prop:=match es with
 | []=>K 0
 | [_]=>K 1
 | [_,_]=>K 2
 | [_,_,_]=>K 3
 | [_,_,_,_]=>K 4
 | es=>K es.length
noncomputable def tF (tm:Tm) (z:Nat) (l:List BL):(List (List AV)->Prop)->Prop :=
 List.rec (motive:=λ_=>(List (List AV)->Prop)->Prop) (λ K=>K []) (λ x _ ih K=>fC (ex tm x) λ cs=>bif Nat.beq cs.length z then ih λ es=>K (cs::es) else False) l
noncomputable def vN (tm:Tm) (ps:List (Nat × Nat × BL)):List AV->(List AV->Prop)->Prop :=
 List.rec (motive:=λ_=>List AV->(List AV->Prop)->Prop) (λ cells K=>K cells) (λ p _ ih cells K=>fC (ex tm p.2.2) λ vs=>bif Nat.beq vs.length p.2.1 then bif Nat.ble (p.1+p.2.1) cells.length then fL (splice cells p.1 vs) λ cells=>ih cells K else False else False) ps
def Z2 (tm:Tm):List BL->List AV
 | []=>[]
 | x::r=>ex tm x::Z2 tm r
def aW (tb:List Nat) (n:Int) (K:Nat->Prop):Prop:=0<=n /\ ∃ v,tb[n.toNat]? = some v/\K v
noncomputable def xU (tm:Tm) (l:List BL):(List AV->Prop)->Prop :=
 List.rec (motive:=λ_=>(List AV->Prop)->Prop) (λ K=>K []) (λ x _ ih K=>fF (ex tm x) λ v=>ih λ cs=>K (v::cs)) l
def xY:AV->Bool
 | .agg _=>false | .fn _ _ _ _=>false | .g8 _=>false | .any=>false
 | _=>true
def kT:List AV->Bool
 | []=>true
 | v::r=>bif xY v then kT r else false
def aZ (M:Mem) (v:AV):Option (Nat × Option (Nat × Nat × Nat)):=match v with
 | .row ky 0 1 0 1=>match c4 M ky with
  | some (_,.bs 1 [[.row k2 0 z 0 n]])=>some (ky,some (k2,z,n))
  | some (_,.rw 1 [[.nil]])=>some (ky,none)
  | _=>none
 | _=>none
def Xp (tm:Tm) (M:Mem) (K:AV->Mem->Prop) (n:Nat) (x v:BL):Prop:=match ex tm x with
 | .ptr key t i j=>fC (ex tm v) λ vs=>bif Nat.beq vs.length n then (match c4 M key with
  | some (s,c)=>match t with
   | 0=>match c with
    | .bx cs=>bif Nat.beq i 0 then bif Nat.ble (j+vs.length) cs.length then fL (splice cs j vs) λ gp=>K (.g8 []) ((key,s,.bx gp)::M) else False else False
    | .rw z es=>bif H9 vs then CK es i j vs λ es'=>K (.g8 []) ((key,s,.rw z es')::M) else False
    | .bs _ _=>False
    | .mx rows=>match vs with
     | [.row df 0 z 0 m]=>bif Nat.beq key df then False else bif W6 key tm then False else bif PV key M then False else bif Nat.beq j 0 then (match c4 M df with
      | some (_,.rw z' es)=>bif Nat.beq z z' then fM (w5 df M) λ M'=>BU (m=es.length) (F7 rows i z es λ il=>K (.g8 []) ((key,s,.mx il)::M')) else False
      | _=>False) else False
     | _=>False
    | .hx i0 _ rows=>match vs with
     | [.row df 0 z 0 m]=>bif Nat.beq key df then False else bif W6 key tm then False else bif PV key M then False else bif Nat.beq j 0 then (match c4 M df with
      | some (_,.rw z' es)=>bif Nat.beq z z' then fM (w5 df M) λ M'=>BU (i=i0/\m=es.length) (F7 rows i z es λ il=>K (.g8 []) ((key,s,.mx il)::M')) else False
      | _=>False) else False
     | _=>False
    | .vw _ _=>False
   | i'+1=>match c with
    | .mx rows=>bif H9 vs then E2 rows i' λ z es=>CK es i j vs λ es'=>G8 rows i' z es es' λ il=>K (.g8 []) ((key,s,.mx il)::M) else False
    | _=>False
  | none=>False) else False
 | _=>False
def EE (r:AV) (K:AV->Prop):Prop:=(NN r\/aO r)/\K (RP r)
noncomputable def XE (L:Lib) (tm:Tm) (M:Mem) (b7:List Nat) (K:AV->Mem->Prop):H0->Prop
 | .v3 x=>fV (ex tm x) λ v=>K v M
 | .bu s z=>bif J9 s then MC s tm M λ k=>K (.row k 0 z 0 0) ((k,s,.rw z [])::M) else False
 | .pick c a b=>match ex tm c with
  | .bool true=>fV (ex tm a) λ v=>K v M
  | .bool false=>fV (ex tm b) λ v=>K v M
  | _=>False
 | .bin op x y=>match ex tm x,ex tm y with
  | .int k a,.int k' b=>tC op k a k' b λ v=>K v M
  | _,_=>False
 | .beq ne x y=>match ex tm x,ex tm y with
  | .bool a,.bool b=>fB (bif ne then !(a == b) else a == b) λ c=>K (.bool c) M
  | _,_=>False
 | .un op x=>match ex tm x with
  | .int k n=>FE op k n λ v=>K v M
  | .bool b=>match op with
   | .not=>fB (!b) λ c=>K (.bool c) M
   | _=>False
  | _=>False
 | .conv k x=>match ex tm x with
  | .int _ n=>B6 k n λ v=>K (.int k v) M
  | _=>False
 | .box s x=>fC (ex tm x) λ cs=>MC s tm M λ k=>K (.ptr k 0 0 0) ((k,s,.bx cs)::M)
 | .alloc s zero=>bif H9 zero then (MC s tm M λ k=>K (.ptr k 0 0 0) ((k,s,.bx zero)::M)) else False
 | .build zero parts=>bif H9 zero then vN tm parts zero λ cs=>K (.agg cs) M else False
 | .a8 s z parts=>bif J9 s then tF tm z parts λ es=>xC es λ n=>MC s tm M λ k=>bif jL es then K (.row k 0 z 0 n) ((k,s,.rw z es)::M) else K (.row k 0 z 0 n) ((k,s,.bs z es)::M) else False
 | .k7 x off=>match ex tm x with
  | .ptr key t i j=>K (.ptr key t i (j+off)) M
  | .y9 cs=>fL (cs.drop off) λ cs=>K (.y9 cs) M
  | _=>False
 | .rn x off n agg=>match ex tm x with
  | .agg cs=>match part cs off n with
   | some ds=>fL ds λ ds=>vk agg ds λ v=>K v M
   | none=>False
  | _=>False
 | .v7 arr z x i=>match ex tm i with
  | .int _ n=>match arr,ex tm x with
   | some len,.ptr key t i' j=>BU (0<=n/\n<(len:Int)) (K (.ptr key t i' (j+n.toNat*z)) M)
   | some len,.y9 cs=>BU (0<=n/\n<(len:Int)) (fL (cs.drop (n.toNat*z)) λ cs=>K (.y9 cs) M)
   | none,.row key t z' off len=>bif Nat.beq z' z then BU (0<=n/\n<(len:Int)) (K (.ptr key t (off+n.toNat) 0) M) else False
   | none,.sl _ es=>BR es n z λ cs=>K (.y9 cs) M
   | _,_=>False
  | _=>False
 | .ld agg n x=>match ex tm x with
  | .ptr key t i j=>match c4 M key with
   | some (s,c)=>match t with
    | 0=>bif aB s b7 then (match c with
     | .bx cs=>bif Nat.beq i 0 then (match part cs j n with
      | some ds=>fL ds λ ds=>vk agg ds λ v=>K v M
      | none=>False) else False
     | .rw _ es=>C1 es i j n λ ds=>fL ds λ ds=>bif H9 ds then vk agg ds λ v=>K v M else False
     | .bs _ es=>(match es[i]? with
      | some cs=>(match part cs j n with
       | some ds=>fL ds λ ds=>vk agg ds λ v=>K v M
       | none=>False)
      | none=>False)
     | .mx rows=>bif Nat.beq j 0 then bif Nat.beq n 1 then FM rows i λ r=>match r with
      | some (z,es)=>vk agg [.row key (i+1) z 0 es.length] λ v=>K v M
      | none=>vk agg [.nil] λ v=>K v M else False else False
     | .hx _ _ _=>False
     | .vw _ _=>False) else False
    | i'+1=>match c,b7 with
     | .mx rows,[]=>E2 rows i' λ_ es=>C1 es i j n λ ds=>fL ds λ ds=>bif H9 ds then vk agg ds λ v=>K v M else False
     | .mx rows,b::r=>bif cJ (b::r) then E2 rows i' λ_ es=>C1 es i j n λ ds=>fL ds λ ds=>bif H9 ds then vk agg ds λ v=>K v M else False else False
     | _,_=>False
   | none=>False
  | .y9 cs=>match part cs 0 n with
   | some ds=>fL ds λ ds=>bif H9 ds then vk agg ds λ v=>K v M else False
   | none=>False
  | _=>False
 | .st n x v=>Xp tm M K n x v
 | .te s n x v=>match ex tm x with
  | .ptr key 0 _ _=>(match c4 M key with
   | some (s',_)=>bif Nat.beq s' s then Xp tm M K n x v else False
   | none=>False)
  | _=>False
 | .n9 f xs=>eN tm xs λ vs=>bif vs.all dq then AL L f (vs.map Bd) λ r=>EE r λ r=>K r M else False
 | .mk s z bytes zero l c=>match ex tm l,ex tm c with
  | .int _ a,.int _ b=>bif Nat.beq zero.length z then bif H9 zero then match zero with
   | [.nil]=>bif J9 s then GX a b bytes λ rows n=>MC s tm M λ k=>K (.row k 0 z 0 n) ((k,s,.mx rows)::M) else False
   | zero=>bif J9 s then (DS a b bytes zero λ es n=>MC s tm M λ k=>K (.row k 0 z 0 n) ((k,s,.rw z es)::M)) else False else False else False
  | _,_=>False
 | .gn z x lo hi=>pY tm lo λ lo=>pY tm hi λ hi=>match ex tm x with
  | .sl l es=>E5 z es lo hi λ es=>K (.sl l es) M
  | .row key t z' off len=>bif Nat.beq z' z then EH lo hi len λ a h=>K (.row key t z (off+a) (h-a)) M else False
  | .nil=>(match lo,hi with
   | none,none=>K .nil M
   | some a,none=>BU (a=0) (K .nil M)
   | none,some h=>BU (h=0) (K .nil M)
   | some a,some h=>BU (a=0/\h=0) (K .nil M))
  | _=>False
 | .ext x i=>match ex tm x with
  | .g8 vs=>f2 (Db vs i) λ v=>K v M
  | _=>False
 | .len x=>match ex tm x with
  | .sl _ es=>BK es λ n=>K (.int .i64 (n:Int)) M
  | .nil=>K (.int .i64 0) M
  | .row _ _ _ _ n=>K (.int .i64 (n:Int)) M
  | _=>False
 | .mm mx xs=>match Z2 tm xs with
  | .int k a::r=>cF mx k (λ v=>K v M) a r
  | _=>False
 | .app s z bytes x y=>bif Nat.ble 800000 s then False else (
  match aZ M (ex tm y) with
  | some (ky,some (k2,z2,n2))=>match ex tm x with
   | .row key 0 z' off len=>bif Nat.beq off 0 then bif Nat.beq z' 1 then bif Nat.beq z 1 then bif Nat.beq key k2 then False else bif Nat.beq key ky then False else bif Nat.beq k2 ky then False else (match c4 M k2 with
    | some (_,.rw z3 es)=>bif Nat.beq z2 z3 then (match c4 M key with
     | some (s',.mx rows)=>fM (w5 key (w5 k2 (w5 ky M))) λ M'=>BU (n2=es.length) (EG rows len (some (z2,es)) bytes λ il n=>MC s tm M λ k=>K (.row k 0 z 0 n) ((k,s',.mx il)::M'))
     | _=>False) else False
    | _=>False) else False else False else False
   | .nil=>bif J9 s then bif Nat.beq z 1 then (match c4 M k2 with
    | some (_,.rw z3 es)=>bif Nat.beq z2 z3 then fM (w5 k2 M) λ M'=>BU (n2=es.length/\bytes<=140737488355328) (MC s tm M λ k=>K (.row k 0 z 0 1) ((k,s,.mx [some (z2,es)])::M')) else False
    | _=>False) else False else False
   | _=>False
  | some (ky,none)=>match ex tm x with
   | .row key 0 z' off len=>bif Nat.beq off 0 then bif Nat.beq z' 1 then bif Nat.beq z 1 then bif Nat.beq key ky then False else (match c4 M key with
     | some (s',.mx rows)=>fM (w5 key M) λ M'=>EG rows len none bytes λ il n=>MC s tm M λ k=>K (.row k 0 z 0 n) ((k,s',.mx il)::M')
     | _=>False) else False else False else False
   | .nil=>bif J9 s then bif Nat.beq z 1 then BU (bytes<=140737488355328) (MC s tm M λ k=>K (.row k 0 z 0 1) ((k,s,.mx [none])::M)) else False else False
   | _=>False
  | none=>jP M (ex tm y) λ ys=>match ex tm x with
   | .row key 0 z' off len=>bif Nat.beq off 0 then bif Nat.beq z' z then (match c4 M key with
    | some (s',.rw ft es)=>bif Nat.beq ft z then fM (w5 key M) λ M'=>(DE es len ys z bytes λ es' n=>MC s tm M λ k=>K (.row k 0 z 0 n) ((k,s',.rw z es')::M')) else False
    | _=>False) else False else False
   | .row key (i+1) z' off len=>bif Nat.beq off 0 then bif Nat.beq z' z then (match c4 M key with
    | some (sk,.mx rows)=>fM (w5 key M) λ M'=>E2 rows i λ ft es=>bif Nat.beq ft z then (DE es len ys z bytes λ es' n => ∀ s' v,MC s tm M λ k=>K (.row k 0 z 0 n) ((k,s',.rw z es')::(key,sk,.hx i v (rows.set i none))::M')) else False
    | _=>False) else False else False
   | .nil=>bif J9 s then FA ys z bytes λ es n=>MC s tm M λ k=>K (.row k 0 z 0 n) ((k,s,.rw z es)::M) else False
   | _=>False)
 | .pz z x y=>jP M (ex tm y) λ ys=>match ex tm x with
  | .row key 0 z' off len=>bif Nat.beq z' z then (match c4 M key with
   | some (s',.rw ft es)=>bif Nat.beq ft z then G7 es off len ys z λ es' n=>K (.int .i64 (n:Int)) ((key,s',.rw z es')::M) else False
   | _=>False) else False
  | _=>False
 | .call f xs=>lQ tm M b7 xs λ vs=>AL L f vs λ r=>K r M
 | .e8 f xs=>eN tm xs λ vs=>CQ L f vs tm M K
 | .q6 s f xs=>bif J9 s then zO tm M b7 xs λ vs=>FZ L f vs λ z es n=>MC s tm M λ k=>K (.row k 0 z 0 n) ((k,s,.rw z es)::M) else False
 | .wh ne x=>match ex tm x with
  | .nil=>fB (xor true ne) λ c=>K (.bool c) M
  | .dc (.bool b)=>fB (xor b ne) λ c=>K (.bool c) M
  | .sl _ es=>BU (es≠[]) (fB (xor false ne) λ c=>K (.bool c) M)
  | .row _ _ _ _ n=>BU (0<n) (fB (xor false ne) λ c=>K (.bool c) M)
  | _=>False
 | .bad=>False
 | .dh s f xs=>eN tm xs λ vs=>match vs with
  | .ptr key 0 0 0::rest=>bif pI rest then Ah8 L s f key rest M K else False
  | _=>False
 | .js tb x=>match ex tm x with
  | .int _ n=>aW tb n λ v=>K (.int .u8 v) M
  | _=>False
 | .td p f xs=>xU tm xs λ cs=>K (.fn (p&&cs.isEmpty) f (L.num f) cs) M
 | .q8 x xs=>match ex tm x with
  | .fn true f g []=>BU (g=L.num f) (lQ tm M [] xs λ vs=>AL L f vs λ r=>K r M)
  | .fn true f g (c::cs)=>BU (g=L.num f) (Y4 true M [] (.agg (c::cs)) λ v=>lQ tm M [] xs λ vs=>AL L f (v::vs) λ r=>K r M)
  | .fn false f g cs=>bif kT cs then BU (g=L.num f) (eN tm xs λ vs=>fL (vs++cs) λ vs=>CQ L f vs tm M K) else False
  | _=>False
def Ji (key:Nat):Tm->Tm
 | []=>[]
 | (j,v)::r=>bif ZP key v then (j,.any)::Ji key r else (j,v)::Ji key r
def xk (v:AV) (tm:Tm) (K:Tm->Prop):Prop:=match v with
 | .row key (_+1) _ _ _=>fT (Ji key tm) K
 | _=>K tm
noncomputable def XI (L:Lib) (o:AI) (ih:(Tm->Mem->Prop)->Tm->Mem->Prop) (K:Tm->Mem->Prop) (tm:Tm) (M:Mem):Prop:=match o with
 | ⟨some d,.app s z b x y,none,b7⟩=>XE L tm M b7 (λ v M=>xk (ex tm x) tm λ tm=>ih K ((d,v)::tm) M) (.app s z b x y)
 | ⟨some d,op,none,b7⟩=>XE L tm M b7 (λ v M=>ih K ((d,v)::tm) M) op
 | ⟨none,op,none,b7⟩=>XE L tm M b7 (λ_ M=>ih K tm M) op
 | ⟨dst,op,some (g,w),b7⟩=>match tg tm g with
  | .bool b=>fB (b == w) λ c=>match c,dst with
   | true,some d=>XE L tm M b7 (λ v M=>ih K ((d,v)::tm) M) op
   | true,none=>XE L tm M b7 (λ_ M=>ih K tm M) op
   | false,some d=>ih K ((d,.g8 [])::tm) M
   | false,none=>ih K tm M
  | .g8 []=>match dst with
   | some d=>ih K ((d,.g8 [])::tm) M
   | none=>ih K tm M
  | _=>False
noncomputable def XO (L:Lib) (l:List AI):(Tm->Mem->Prop)->Tm->Mem->Prop :=
 List.rec (motive:=λ_=>(Tm->Mem->Prop)->Tm->Mem->Prop) (λ K tm M=>K tm M) (λ o _ ih K tm M=>XI L o ih K tm M) l
noncomputable def XS (L:Lib) (Q:Tm->Mem->Prop) (ih:List It->Tm->Mem->Prop) (k:List It) (tm:Tm) (M:Mem):Prop:=match k with
 | []=>Q tm M
 | it::k=>match it with
  | .c9 _=>ih k tm M
  | .rm ts ss=>fN (mask 0 ts) λ m=>fT (Aq m tm) λ tm=>match ss with
   | []=>ih k tm M
   | _::_=>False
  | .lp c=>AJ L (.lp c::k) tm M Q
  | .code c=>match c with
   | .skip=>ih k tm M
   | .ops l _=>XO L l (λ tm M=>ih k tm M) tm M
   | .dr c ts ss=>ih (.code c :: .rm ts ss::k) tm M
   | .scope c=>ih (.code c::k) tm M
   | .seq a b=>ih (.code a :: .code b::k) tm M
   | .cond x a b=>match ex tm x with
    | .bool b'=>fB b' λ c=>match c with
     | true=>ih (.code a::k) tm M
     | false=>ih (.code b::k) tm M
    | _=>False
   | .block id c=>ih (.code c :: .c9 id::k) tm M
   | .loop c=>AJ L (.lp c::k) tm M Q
   | .exit id=>match J7 id k with
    | some k'=>ih k' tm M
    | none=>False
   | .ret=>Q tm M
noncomputable def XK (L:Lib) (Q:Tm->Mem->Prop) (n:Nat):List It->Tm->Mem->Prop :=
 Nat.rec (motive:=λ_=>List It->Tm->Mem->Prop) (λ k tm M=>AJ L k tm M Q) (λ_ ih k tm M=>XS L Q ih k tm M) n
def lG (tm:Tm) (M:Mem) (r:O2) (K:AV->Prop):Prop:=match r with
 | .tmp t=>f2 (tg tm t) K
 | .cell t agg n=>match tg tm t with
  | .ptr key 0 i j=>match c4 M key with
   | some (_,.bx cs)=>bif Nat.beq i 0 then (match part cs j n with
    | some ds=>fL ds λ ds=>vk agg ds K
    | none=>False) else False
   | _=>False
  | _=>False
noncomputable def qJ (tm:Tm) (M:Mem) (l:List O2):(List AV->Prop)->Prop :=
 List.rec (motive:=λ_=>(List AV->Prop)->Prop) (λ K=>K []) (λ x _ ih K=>lG tm M x λ v=>ih λ vs=>K (v::vs)) l
noncomputable def zK (q:Bool) (M:Mem) (l:List AV):(List AV->Prop)->Prop :=
 List.rec (motive:=λ_=>(List AV->Prop)->Prop) (λ K=>K []) (λ x _ ih K=>Y4 q M [] x λ v=>ih λ vs=>K (v::vs)) l
def rsv (vs:List AV) (K:AV->Prop):Prop:=match vs with
 | [v]=>K v
 | vs=>K (.g8 vs)
def BC (a r:AV):Prop:=a=r/\B3 r
noncomputable def YB (fn:AFn) (r:AV) (tm:Tm) (M:Mem):Prop:=qJ tm M fn.res λ vs=>zK false M vs λ vs=>rsv vs λ v=>BC v r
end Go.b8
