/-
  A region that draws its order, second part.
-/
import Derived.Test.YtplhdlbnneoobaaGreatB2
import Derived.Test.YtplhdlbnneoobaaGreatB1
set_option linter.unusedSimpArgs false
set_option linter.unusedVariables false
set_option linter.unnecessarySimpa false
namespace Go.b7
open Go.RowKit
section
variable {C:Cl} {c4:List Nat} {ρ:AP->AV}
theorem Ra {op:DR} (o o':AH) (ht:G2 op=false) (hr:V3 op=true->o.m5 c4=o'.m5 c4) (j9 : ∀ s,EM op=some s->o s=o' s):e8 C c4 ρ o op=e8 C c4 ρ o' op:=by
 cases op with
 | kj s n x v =>
  have h1:=j9 s rfl;have h2 : ∀ t i j vs,(o.ij s t i j vs).map (λ q=>CG.n9 s (q s))=(o'.ij s t i j vs).map (λ q=>CG.n9 s (q s)):=λ t i j vs=>by
   have hg:o.get s t=o'.get s t:=by unfold AH.get;rw[h1]
   unfold AH.ij;rw[hg];cases o'.get s t with
   | none=>rfl
   | some b =>
    simp only;cases b.es[i]? with
    | none=>rfl
    | some cs =>
     simp only;split
     ·simp only[Option.map_some,AH.j5,h1]
     ·rfl
  simp only[e8,h2]
 | ld agg n x=>have:=hr rfl;simp only[e8,this]
 | call f xs=>have:=hr rfl;simp only[e8,this]
 | o8 s f xs=>have:=hr rfl;simp only[e8,this]
 | z7 s f xs=>have h1:=j9 s rfl;simp only[e8,h1]
 | st=>simp [G2]at ht
 | app=>simp [G2]at ht
 | e9=>simp [G2]at ht
 | m6=>simp [G2]at ht
 | _=>rfl
theorem mI {op:DR} {o:AH} {E:CG} (h:e8 C c4 ρ o op=some E) {s:Nat} (hs:EM op=some s):(∃ b v,E = .new s b v\/E = .uf s b v) \/ ∃ x v,E = .n9 s x\/E = .rz s x v:=by
 cases op with
 | kj s' n x v =>
  simp only[EM,Option.some.injEq]at hs;subst hs;simp only[e8]at h;split at h
  ·split at h
   ·simp only[Option.map_eq_some_iff]at h
    obtain ⟨q,_,rfl⟩:=h;exact .inr ⟨_,.any,.inl rfl⟩
   ·cases h
  ·cases h
 | o8 s' f xs =>
  simp only[EM,Option.some.injEq]at hs;subst hs;simp only[e8]at h;split at h
  ·simp only[Option.map_eq_some_iff]at h
   obtain ⟨r,_,rfl⟩:=h;exact .inl ⟨_,_,.inl rfl⟩
  ·cases h
 | z7 s' f xs =>
  simp only[EM,Option.some.injEq]at hs;subst hs;simp only[e8,Option.map_eq_some_iff]at h;obtain ⟨p,_,rfl⟩:=h;exact .inr ⟨_,_,.inr rfl⟩
 | x8 s' z =>
  simp only[EM,Option.some.injEq]at hs;subst hs;simp only[e8,Option.some.injEq]at h;exact .inl ⟨_,_,.inr h.symm⟩
 | box s' x =>
  simp only[EM,Option.some.injEq]at hs;subst hs;simp only[e8]at h;split at h
  ·simp only[Option.some.injEq]at h;exact .inl ⟨_,_,.inl h.symm⟩
  ·cases h
 | alloc s' z =>
  simp only[EM,Option.some.injEq]at hs;subst hs;simp only[e8,Option.some.injEq]at h;exact .inl ⟨_,_,.inl h.symm⟩
 | b8 s' a9 ps =>
  simp only[EM,Option.some.injEq]at hs;subst hs;simp only[e8]at h;split at h
  ·split at h
   ·simp only[Option.some.injEq]at h;exact .inl ⟨_,_,.inl h.symm⟩
   ·cases h
  ·cases h
 | mk s' a9 bytes z l c =>
  simp only[EM,Option.some.injEq]at hs;subst hs;simp only[e8]at h;split at h
  ·split at h
   ·simp only[Option.some.injEq]at h;exact .inl ⟨_,_,.inl h.symm⟩
   ·cases h
  ·cases h
 | _=>simp [EM]at hs
theorem dU {α:Type} {x:Option α} {f:α->AV} {E:CG} (h:x.map (λ y=>CG.val (f y))=some E) : ∃ v,E = .val v:=by
 cases x with
 | none=>cases h
 | some y=>simp only[Option.map_some,Option.some.injEq]at h;exact ⟨_,h.symm⟩
theorem mJ {op:DR} {o:AH} {E:CG} (h:e8 C c4 ρ o op=some E) (ht:G2 op=false) (hs:EM op=none) : ∃ v,E = .val v:=by
 cases op<;>first|(simp [G2]at ht;done)|(simp [EM]at hs;done)|skip
 all_goals simp only[e8]at h
 all_goals
  first
   | (simp only[Option.some.injEq]at h;exact ⟨_,h.symm⟩)
   | exact dU (f:=id) h
   | skip
 all_goals (repeat' split at h)
 all_goals
  first
   | (cases h;done)
   | (simp only[Option.some.injEq]at h;exact ⟨_,h.symm⟩)
   | exact dU (f:=id) h
   | exact dU (f:=AV.agg) h
   | (simp only[Option.map_eq_some_iff]at h;obtain ⟨cs,_,rfl⟩:=h;exact ⟨_,rfl⟩)
theorem SB {x:AI} {r:DS} {s s':St} (h:SX C x r s s') (ht:G2 x.op=false) (hs:EM x.op=none) (o:AH):r.own o=o:=by
 unfold DS.own;cases hg:r.g with
 | false=>rfl
 | true =>
  obtain ⟨v,hv⟩:=mJ (h.E hg) ht hs;simp [hv,CG.v7]
theorem fJ {x:AI} {r:DS} {s s':St} (h:SX C x r s s') {q:Nat} (hs:EM x.op=some q):(∀ o,r.own o=o) \/ ∃ F:CD->CD,∀ o:AH,r.own o=o.put q (F (o q)):=by
 unfold DS.own;cases hg:r.g with
 | false=>exact .inl λ_=>rfl
 | true =>
  rcases mI (h.E hg) hs with ⟨b,v,hv|hv⟩|⟨x,v,hv|hv⟩
  ·exact .inr ⟨λ q=>q.new b,λ o=>by simp [hv,CG.v7]⟩
  ·exact .inr ⟨λ q=>q.new b,λ o=>by simp [hv,CG.v7]⟩
  ·exact .inr ⟨λ_=>x,λ o=>by simp [hv,CG.v7]⟩
  ·exact .inr ⟨λ_=>x,λ o=>by simp [hv,CG.v7]⟩
theorem sC {x:AI} {r:DS} {s s':St} (h:SX C x r s s') {q:Nat} (hs:EM x.op=some q) {p:Nat} (hp:p≠q) (o:AH):r.own o p=o p:=by
 rcases fJ h hs with h1|⟨b,h1⟩
 ·rw[h1]
 ·rw[h1];simp [AH.put,hp]
theorem rP (b:Array Nat) (i j:Nat):IU b i j=IU b j i:=by unfold IU;rw[Nat.max_comm,Nat.min_comm]
theorem RK {ops:Array Oper} {l:List AI} (h:RJ ops l=true) {i j:Nat} {x y:AI} (hx:l[i]? = some x) (hy:l[j]? = some y) (l9:i≠j) :
  (IU (Region.before ops) i j=true\/((∀ t,y.dst=some t->t ∉ TK x)/\(G2 x.op=false\/KH y.op=false)/\(V3 x.op=true -> ∀ s,EM y.op=some s->s∈x.c4))) /\
  (IU (Region.before ops) i j=true \/ ∀ s s',EM x.op=some s->EM y.op=some s'->s≠s'):=by
 simp only[RJ,Bool.and_eq_true]at h;have h1:=h.1.1;rw[List.all_eq_true]at h1;have zz:(x,i)∈l.zipIdx:=List.mem_zipIdx_iff_getElem?.2 hx;have hym:(y,j)∈l.zipIdx:=List.mem_zipIdx_iff_getElem?.2 hy;have h2:=h1 (x,i) zz;simp only at h2;rw[List.all_eq_true]at h2;have h3:=h2 (y,j) hym;simp only[Bool.and_eq_true,Bool.or_eq_true,beq_iff_eq,l9,false_or]at h3;obtain ⟨h4,h5⟩:=h3;refine ⟨?_,h5.imp id λ h5 s s' hs rk => ?_⟩
 ·unfold rU at h4
  simp only[Bool.or_eq_true,beq_iff_eq,l9,false_or]at h4;refine h4.imp id λ h6 => ?_
  simp only[Bool.and_eq_true,Bool.or_eq_true,Bool.not_eq_true']at h6;obtain ⟨⟨h7,h8⟩,h9⟩:=h6;refine ⟨λ t ht => ?_,h8,λ hr s hs => ?_⟩
  ·rw[ht]at h7
   simpa using h7
  ·rw[hr,hs]at h9
   simpa using h9
 ·rw[hs,rk]at h5
  simpa using h5
structure WQ (C:Cl) (ops:Array Oper) (l:List AI) (σ:Nat->St) (rs:List DS):Prop where
 ok:RJ ops l=true
 len:rs.length=l.length
 fits : ∀ (k:Nat) (x:AI) (r:DS),l[k]? = some x->rs[k]? = some r->SX C x r (σ k) (σ (k+1))
variable {ops:Array Oper} {l:List AI} {σ:Nat->St} {rs:List DS}
theorem cU {X:Nat->Bool} : ∀ (l:List DS) (k:Nat) (x:D),(∀ i,i<l.length->X (k+i)=false)->DL X l k x=x
 | [],_,_,_=>rfl
 | r::q,k,x,h=>by
  simp only[DL];rw[show X k=false by simpa using h 0 (by simp)];exact cU q (k+1) _ λ i hi=>by
   have:=h (i+1) (by simpa using hi)
   rw[show k+1+i=k+(i+1) by omega];exact this
def d0 (σ:Nat->St):D:=(g6 (σ 0).tm,(σ 0).own)
theorem bR (h:WQ C ops l σ rs) : ∀ k,k<=l.length->DL (λ j=>decide (j<k)) rs 0 (d0 σ)=(g6 (σ k).tm,(σ k).own)
 | 0,_=>cU rs 0 _ λ i _=>by simp
 | k+1,hk=>by
  have xu:k<l.length:=by omega
  have hkr:k<rs.length:=by rw[h.len];exact xu
  have hr:rs[k]? = some rs[k]:=zE hkr;have hf:=h.fits k l[k] rs[k] (zE xu) hr;rw[oK (X:=λ j=>decide (j<k)) (X':=λ j=>decide (j<k+1)) hr (by simp) (λ j=>by
   by_cases h1:j=k
   ·simp [h1]
   ·simp [h1];omega) _ (λ j r' _ k6 hX=>by simp at hX;omega),bR h k (by omega)]
  exact hf.act.symm
section
variable {X:Nat->Bool} {i:Nat} {x:AI} {r:DS}
theorem rS (hX:SV ops X) (im:X i=false) (ax : ∀ o,ops[i]? = some o -> ∀ e∈o.after,Region.binds .any e=true->X e.on=true) {j:Nat} (l9:i≠j) (ho:IU (Region.before ops) i j=true):X j=decide (j<i):=by
 rcases Nat.lt_or_gt_of_ne l9 with k6|gk
 ·have:X j=false:=by
   cases hj:X j with
   | false=>rfl
   | true=>have:=rR hX hj k6 ho;rw[im]at this;cases this
  rw[this];simp;omega
 ·rw[Yo hX ax gk ho];simp;omega
theorem Qq (h:WQ C ops l σ rs) (hx:l[i]? = some x) (hr:rs[i]? = some r) (hX:SV ops X) (im:X i=false) (ax : ∀ o,ops[i]? = some o -> ∀ e∈o.after,Region.binds .any e=true->X e.on=true) :
  LB (DL X rs 0 (d0 σ)).1 x.guard=some r.g/\(r.g=true->e8 C x.c4 (EC (DL X rs 0 (d0 σ)).1) (DL X rs 0 (d0 σ)).2 x.op=some r.E) /\
  (if r.g then r.E.valOf (DL X rs 0 (d0 σ)).2 else .g8 [])=r.v /\
  ∀ X':Nat->Bool,(∀ j,X' j=(decide (j=i)||X j))->DL X' rs 0 (d0 σ)=r.act (DL X rs 0 (d0 σ)):=by
 have dw:i<l.length:=(zS hx).1;have hf:=h.fits i x r hx hr;have vf:=bR h i (by omega);generalize hT:DL X rs 0 (d0 σ)=TX;have lg : ∀ (j:Nat) (r':DS),rs[j]? = some r' -> ∃ y,l[j]? = some y/\SX C y r' (σ j) (σ (j+1)):=λ j r' hj=>by
  have cg:j<l.length:=by rw[<-h.len];exact (zS hj).1
  exact ⟨l[j],zE cg,h.fits j _ _ (zE cg) hj⟩
 have vb : ∀ t∈TK x,TX.1 t=g6 (σ i).tm t:=λ t ht=>by
  have:=oM (X:=X) (Y:=λ j=>decide (j<i)) (t:=t) rs 0 (d0 σ) (d0 σ) rfl (λ j r' hj hd=>by
   simp only[Nat.zero_add];by_cases l9:i=j
   ·subst l9;simp [im]
   ·obtain ⟨y,hy,dh⟩:=lg j r' hj
    rcases (RK h.ok hx hy l9).1 with ho|⟨h1,_⟩
    ·exact rS hX im ax l9 ho
    ·exact absurd ht (h1 t (by rw[<-dh.d];exact hd)))
  rw[hT,vf]at this;exact this
 have Cv : ∀ t∈ID x.op,TX.1 t=g6 (σ i).tm t:=λ t ht=>vb t (by simp [TK,ht])
 have bq : ∀ s,(∀ (j:Nat) (y:AI) (r':DS),i≠j->l[j]? = some y->rs[j]? = some r'->IU (Region.before ops) i j=true \/ ∀ o,r'.own o s=o s)->TX.2 s=(σ i).own s:=λ s hs=>by
  have:=oL (X:=X) (Y:=λ j=>decide (j<i)) (s:=s) rs 0 (d0 σ) (d0 σ) rfl (λ j r' hj=>by
   simp only[Nat.zero_add];by_cases l9:i=j
   ·subst l9;left;simp [im]
   ·obtain ⟨y,hy,dh⟩:=lg j r' hj
    rcases hs j y r' l9 hy hj with ho|ho
    ·exact .inl (rS hX im ax l9 ho)
    ·exact .inr ho)
  rw[hT,vf]at this;exact this
 have jm : ∀ (j:Nat) (y:AI) (r':DS),l[j]? = some y->rs[j]? = some r'->KH y.op=false -> ∀ o,r'.own o=o:=λ j y r' hy hj hm o=>by
  simp only[KH,Bool.or_eq_false_iff]at hm;exact SB (h.fits j y r' hy hj) hm.1.1 (by simpa using hm.2) o
 have Cp : ∀ (j:Nat) (y:AI),i≠j->l[j]? = some y->G2 y.op=true->KH x.op=true->IU (Region.before ops) i j=true:=λ j y l9 hy ht fm=>by
  rcases (RK h.ok hy hx (Ne.symm l9)).1 with ho|⟨_,h2,_⟩
  ·rw[rP];exact ho
  ·rw[ht,fm]at h2;simp at h2
 have hg:LB TX.1 x.guard=some r.g:=by
  rw[<-hf.g];cases zk:x.guard with
  | none=>rfl
  | some gw =>
   obtain ⟨g,w⟩:=gw;simp only[LB];rw[vb g (by simp [TK,zk])]
 have vg:G2 x.op=true->TX.2=(σ i).own:=λ ht=>by
  funext s
  refine bq s λ j y r' l9 hy hj => ?_
  cases hm:KH y.op with
  | false=>exact .inr λ o=>by rw[jm j y r' hy hj hm o]
  | true =>
   rcases (RK h.ok hx hy l9).1 with ho|⟨_,h2,_⟩
   ·exact .inl ho
   ·rw[ht,hm]at h2;simp at h2
 have Cn:V3 x.op=true->TX.2.m5 x.c4=(σ i).own.m5 x.c4:=λ ix=>by
  refine Vp λ s hs=>bq s λ j y r' l9 hy hj => ?_
  have fm:KH x.op=true:=by simp [KH,ix]
  cases ht:G2 y.op with
  | true=>exact .inl (Cp j y l9 hy ht fm)
  | false =>
   cases fq:EM y.op with
   | none=>exact .inr λ o=>by rw[SB (h.fits j y r' hy hj) ht fq o]
   | some q =>
    rcases (RK h.ok hx hy l9).1 with ho|⟨_,_,h3⟩
    ·exact .inl ho
    ·exact .inr λ o=>sC (h.fits j y r' hy hj) fq (p:=s) (λ e=>hs (by rw[e];exact h3 ix q fq)) o
 have jo : ∀ s,EM x.op=some s->TX.2 s=(σ i).own s:=λ s qo=>by
  have fm:KH x.op=true:=by simp [KH,qo]
  exact bq s λ j y r' l9 hy hj=>by
   cases ht:G2 y.op with
   | true=>exact .inl (Cp j y l9 hy ht fm)
   | false =>
    cases fq:EM y.op with
    | none=>exact .inr λ o=>by rw[SB (h.fits j y r' hy hj) ht fq o]
    | some q =>
     rcases (RK h.ok hx hy l9).2 with ho|yk
     ·exact .inl ho
     ·exact .inr λ o=>sC (h.fits j y r' hy hj) fq (yk s q qo fq) o
 have Hc:r.g=true->e8 C x.c4 (EC TX.1) TX.2 x.op=some r.E:=λ bj=>by
  rw[Qx Cv,<-hf.E bj];cases ht:G2 x.op with
  | true=>rw[vg ht]
  | false=>exact Ra _ _ ht Cn jo
 have hval:(if r.g then r.E.valOf TX.2 else .g8 [])=r.v:=by
  rw[hf.v];cases Ky:r.g with
  | false=>rfl
  | true =>
   simp only[if_true];cases qo:EM x.op with
   | none =>
    cases ht:G2 x.op with
    | true=>rw[vg ht]
    | false =>
     obtain ⟨v,hv⟩:=mJ (hf.E Ky) ht qo;rw[hv];rfl
   | some s =>
    have yk:=jo s qo;rcases mI (hf.E Ky) qo with ⟨b,v,hv|hv⟩|⟨x,v,hv|hv⟩<;>rw[hv]<;>simp only[CG.valOf,AH.g7,yk]
 refine ⟨hg,Hc,hval,λ X' qz => ?_⟩;rw[<-hT];refine oK hr im qz _ λ j r' hj k6 Gi z => ?_
 obtain ⟨y,hy,dh⟩:=lg j r' hj;have l9:i≠j:=by omega
 have ri : ¬ IU (Region.before ops) i j=true:=λ ho=>by
  have:=rR hX Gi k6 ho
  rw[im]at this;cases this
 obtain ⟨Hv,ye⟩:=RK h.ok hx hy l9;obtain ⟨uz,zs⟩:=RK h.ok hy hx (Ne.symm l9);have hp:=Hv.resolve_left ri;have hq:=uz.resolve_left (by rw[rP];exact ri);unfold DS.act;refine Prod.ext ?_ ?_
 ·funext t
  simp only[JM];by_cases h1:r'.d=some t<;>by_cases h2:r.d=some t
  ·exact absurd (by rw[hf.d]at h2;simp [TK,h2]) (hp.1 t (by rw[<-dh.d];exact h1))
  ·simp [h1,h2]
  ·simp [h1,h2]
  ·simp [h1,h2]
 ·show r'.own (r.own z.2)=r.own (r'.own z.2)
  cases fm:KH x.op with
  | false=>rw[jm i x r hx hr fm,jm i x r hx hr fm]
  | true =>
   cases mu:KH y.op with
   | false=>rw[jm j y r' hy hj mu,jm j y r' hy hj mu]
   | true =>
    have Lt:G2 x.op=false:=by
     rcases hp.2.1 with h1|h1
     ·exact h1
     ·rw[mu]at h1;cases h1
    have Lu:G2 y.op=false:=by
     rcases hq.2.1 with h1|h1
     ·exact h1
     ·rw[fm]at h1;cases h1
    cases qo:EM x.op with
    | none=>rw[SB hf Lt qo,SB hf Lt qo]
    | some s =>
     cases fq:EM y.op with
     | none=>rw[SB dh Lu fq,SB dh Lu fq]
     | some s' =>
      have yk:=(ye.resolve_left ri) s s' qo fq;rcases fJ hf qo with h1|⟨b,h1⟩
      ·rw[h1,h1]
      ·rcases fJ dh fq with h2|⟨b',h2⟩
       ·rw[h2,h2]
       ·rw[h1,h2,h2,h1]
        funext q
        simp only[AH.put];by_cases Cj:q=s<;>by_cases yg:q=s'
        ·exact absurd (Cj.symm.trans yg) yk
        ·simp [Cj,yk]
        ·simp [yg,Ne.symm yk]
        ·simp [Cj,yg]
end
end
end Go.b7
namespace Go.b7
open Go.RowKit
section
variable {ops:Array Oper} {md:Region.Mode}
theorem zV {e:Edge} (h:Region.binds .any e=true) (md:Region.Mode):Region.binds md e=true:=by
 unfold Region.binds at *;split at h<;>simp_all
theorem qC (ops:Array Oper) (md:Region.Mode) : ∀ (fuel t:Nat) (b9:Array Bool),b9.size=ops.size -> ∀ (k i:Nat),(Region.linearise.go md ops fuel t b9 [])[k]? = some i ->
  ∃ o,ops[i]? = some o /\ ∀ e∈o.after,Region.binds md e=true->b9.getD e.on false=true\/e.on∈(Region.linearise.go md ops fuel t b9 []).take k
 | 0,t,b9,hs,k,i,h=>by simp [Region.linearise.go]at h
 | fuel+1,t,b9,hs,k,i,h=>by
  have mq:Region.linearise.go md ops (fuel+1) t b9 []=match (Region.ready md ops b9)[t%(Region.ready md ops b9).length]? with
   | some i=>i::Region.linearise.go md ops fuel (t/(Region.ready md ops b9).length) (b9.setIfInBounds i true) []
   | none=>[]:=by
   simp only[Region.linearise.go];change (match (Region.ready md ops b9)[t%(Region.ready md ops b9).length]? with
    | some i=>Region.linearise.go md ops fuel (t/(Region.ready md ops b9).length) (b9.setIfInBounds i true) [i]
    | none=>[].reverse)=_
   cases (Region.ready md ops b9)[t%(Region.ready md ops b9).length]? with
   | none=>rfl
   | some i=>simp only[];rw[linearise_go_acc];rfl
  rw[mq]at h ⊢;cases hr:(Region.ready md ops b9)[t%(Region.ready md ops b9).length]? with
  | none=>rw[hr]at h;simp at h
  | some q =>
   rw[hr]at h;simp only at h ⊢;obtain ⟨_,oq,hoq,hq⟩:=mem_ready.1 (zM hr);cases k with
   | zero =>
    simp at h;subst h;exact ⟨oq,hoq,λ e he hb => .inl (hq e he hb)⟩
   | succ k =>
    simp at h;obtain ⟨o,ho,hh⟩:=qC ops md fuel _ _ (by simpa using hs) k i h;refine ⟨o,ho,λ e he hb => ?_⟩;rcases hh e he hb with h1|h1
    ·by_cases heq:e.on=q
     ·right;simp [heq]
     ·left
      rw[getD_set_ne false (Ne.symm heq)]at h1;exact h1
    ·right;simp [h1]
theorem cP {p:Nat->Bool} : ∀ (l:List Nat),(∃ i∈l,p i=false) -> ∃ k i,l[k]? = some i/\p i=false /\ ∀ j∈l.take k,p j=true
 | [],⟨i,hi,_⟩=>by simp at hi
 | x::r,⟨i,hi,hp⟩=>by
  cases hx:p x with
  | false=>exact ⟨0,x,rfl,hx,by simp⟩
  | true =>
   have : ∃ i∈r,p i=false:=by
    rcases List.mem_cons.1 hi with h|h
    ·subst h;rw[hx]at hp;cases hp
    ·exact ⟨i,h,hp⟩
   obtain ⟨k,j,h1,h2,h3⟩:=cP r this;refine ⟨k+1,j,by simpa using h1,h2,λ q hq => ?_⟩;simp only[List.take_succ_cons,List.mem_cons]at hq;rcases hq with h|h
   ·subst h;exact hx
   ·exact h3 q h
theorem progress {l:List AI} (hd:RJ ops l=true) (xy:md = .gc->Region.departs ops=true) {b9:Array Bool} (hs:b9.size=ops.size) (hr:Region.ready md ops b9=[]) : ∀ j,j<ops.size->b9.getD j false=true:=by
 intro j hj;cases cg:b9.getD j false with
 | true=>rfl
 | false =>
  exfalso;simp only[RJ,Bool.and_eq_true]at hd;obtain ⟨⟨_,eh⟩,px⟩:=hd;have jv : ∀ i,i<ops.size->b9.getD i false=false -> ¬ ∀ o,ops[i]? = some o -> ∀ e∈o.after,Region.binds md e=true->b9.getD e.on false=true:=λ i hi hl oy=>by
   have:i∈Region.ready md ops b9:=mem_ready.2 ⟨by
    have:i<b9.size:=by omega
    simp [Array.getD,this]at hl ⊢;exact hl,ops[i],Array.getElem?_eq_getElem hi,λ e he hb=>oy ops[i] (Array.getElem?_eq_getElem hi) e he hb⟩
   rw[hr]at this;simp at this
  by_cases Ee:md = .gc
  ·subst Ee
   rw[xy rfl]at px;simp only[Bool.not_true,Bool.false_or,List.all_eq_true,List.mem_range,List.contains_iff_mem]at px;obtain ⟨k,i,h1,h2,h3⟩:=cP (p:=λ q=>b9.getD q false) (Region.linearise .gc ops 0) ⟨j,px j hj,cg⟩;obtain ⟨o,ho,hh⟩:=qC ops .gc ops.size 0 (Array.replicate ops.size false) (by simp) k i h1;have hi:i<ops.size:=(Array.getElem?_eq_some_iff.1 ho).1;refine jv i hi h2 λ o' tk e he hb => ?_
   rw[ho]at tk;obtain rfl:o=o':=by simpa using tk
   rcases hh e he hb with h4|h4
   ·simp [Array.getD]at h4
   ·exact h3 e.on h4
  ·obtain ⟨k,i,h1,h2,h3⟩:=cP (p:=λ q=>b9.getD q false) (List.range ops.size) ⟨j,by simpa using hj,cg⟩
   have Bv:i=k:=by
    have xu:k<ops.size:=by have:=(zS h1).1;simpa using this
    rw[List.getElem?_range xu]at h1;simpa using h1.symm
   subst Bv;have hi:i<ops.size:=by have:=(zS h1).1;simpa using this
   refine jv i hi h2 λ o ho e he hb => ?_
   rw[List.all_eq_true]at eh;have ya:(o,i)∈ops.toList.zipIdx:=List.mem_zipIdx_iff_getElem?.2 (by simpa using ho);have h4:=eh (o,i) ya;simp only[Array.all_eq_true_iff_forall_mem,Bool.or_eq_true,decide_eq_true_eq]at h4;rcases h4 e he with h5|h5
   ·exact h3 e.on (by rw[List.take_range];simp;omega)
   ·exfalso
    unfold Region.binds at hb;split at h5
    ·rename_i row Ic
     rw[Ic]at hb;simp at hb;exact Ee hb
    ·cases h5
variable {B:Nat} {S:Nat->Prop} {w0:World} {m0:M} {N:Nat}
variable {P:Program} {num:Nat->Nat} {C:Cl} {Q:Exit->Act->World->Prop}
def SJ (b9:Array Bool) (n:Nat):Nat:=(List.range n).countP (λ j => !b9.getD j false)
theorem kV {α:Type} {p q:α->Bool} : ∀ {l:List α} {x:α},(∀ y∈l,q y=true->p y=true)->x∈l->p x=true->q x=false->l.countP q<l.countP p
 | [],x,_,hx,_,_=>by simp at hx
 | y::r,x,h,hx,hp,hq=>by
  have hle:r.countP q<=r.countP p:=List.countP_mono_left λ z hz hqz=>h z (by simp [hz]) hqz
  rw[List.countP_cons,List.countP_cons];rcases List.mem_cons.1 hx with rfl|hx
  ·simp only[hp,hq,if_true,Bool.false_eq_true,if_false]
   omega
  ·have:=kV (l:=r) (λ z hz=>h z (by simp [hz])) hx hp hq
   by_cases Hz:q y=true
   ·simp only[Hz,h y (by simp) Hz,if_true];omega
   ·simp only[Hz,Bool.false_eq_true,if_false]
    split<;>omega
theorem AgB (hC:G6 P num C) {l:List AI} (j6:P0 P num N ops ops.toList l=true) {σ:Nat->St} {rs:List DS} (h:WQ C ops l σ rs) (xy:md = .gc->Region.departs ops=true)
  (hQ : ∀ m' a',m'.own=(σ l.length).own->FM B S w0 m0 N (g6 (σ l.length).tm) m' a'->Q .normal a' m'.w) :
  ∀ (fuel:Nat) (b9:Array Bool) (a:Act) (m:M),b9.size=ops.size->SJ b9 ops.size<=fuel->SV ops (λ j=>b9.getD j false)->m.own=(DL (λ j=>b9.getD j false) rs 0 (d0 σ)).2->FM B S w0 m0 N (DL (λ j=>b9.getD j false) rs 0 (d0 σ)).1 m a->wpAny P md ops Q fuel b9 a m.w:=by
 have hlen:ops.size=l.length:=by have:=(VW j6).1;simpa using this
 have final : ∀ (b9:Array Bool) (a:Act) (m:M),(∀ j,j<ops.size->b9.getD j false=true)->m.own=(DL (λ j=>b9.getD j false) rs 0 (d0 σ)).2->FM B S w0 m0 N (DL (λ j=>b9.getD j false) rs 0 (d0 σ)).1 m a->Q .normal a m.w:=λ b9 a m oy j8 hf=>by
  have:DL (λ j=>b9.getD j false) rs 0 (d0 σ)=(g6 (σ l.length).tm,(σ l.length).own):=by
   rw[<-bR h l.length (Nat.le_refl _)];refine X2 rs 0 _ λ i hi => ?_
   simp only[Nat.zero_add];rw[oy i (by rw[hlen,<-h.len];exact hi)];simp;rw[<-h.len];exact hi
  rw[this]at j8 hf;exact hQ m a j8 hf
 have Ae : ∀ b9:Array Bool,SJ b9 ops.size<=0 -> ∀ j,j<ops.size->b9.getD j false=true:=λ b9 h0 j hj=>by
  have h1:SJ b9 ops.size=0:=by omega
  unfold SJ at h1;rw[List.countP_eq_zero]at h1;simpa using h1 j (by simpa using hj)
 intro fuel;induction fuel with
 | zero =>
  intro b9 a m u5 hn Gz j8 hf;refine ⟨?_,final b9 a m (Ae b9 hn) j8 hf⟩;cases hr:Region.ready md ops b9 with
  | nil=>rfl
  | cons i r =>
   obtain ⟨h1,o,ho,_⟩:=mem_ready.1 (show i∈Region.ready md ops b9 by rw[hr];simp);have hi:i<ops.size:=(Array.getElem?_eq_some_iff.1 ho).1;have h2:=Ae b9 hn i hi;have dw:i<b9.size:=by omega
   simp [Array.getD,dw]at h1 h2;rw[h1]at h2;cases h2
 | succ fuel ih =>
  intro b9 a m u5 hn Gz j8 hf;refine ⟨λ hr=>final b9 a m (progress h.ok xy u5 hr) j8 hf,λ i hi => ?_⟩;obtain ⟨h1,o,ho,xj⟩:=mem_ready.1 hi;have hio:i<ops.size:=(Array.getElem?_eq_some_iff.1 ho).1;have dw:i<b9.size:=by omega
  have mr:b9.getD i false=false:=by
   simp [Array.getD,dw]at h1 ⊢;exact h1
  have pz:i<l.length:=by omega
  have gp:i<rs.length:=by rw[h.len];exact pz
  have hx:l[i]? = some l[i]:=zE pz;have hr:rs[i]? = some rs[i]:=zE gp;have ax : ∀ o',ops[i]? = some o' -> ∀ e∈o'.after,Region.binds .any e=true->b9.getD e.on false=true:=λ o' tk e he hb=>by
   rw[ho]at tk;obtain rfl:o=o':=by simpa using tk
   exact xj e he (zV hb md)
  obtain ⟨g1,g2,g3,g4⟩:=Qq h hx hr Gz mr ax;have Ht:=(VW j6).2 i o l[i] (by simpa using ho) hx;have qz : ∀ j,(b9.setIfInBounds i true).getD j false=(decide (j=i)||b9.getD j false):=λ j=>by
   by_cases Hl:j=i
   ·subst Hl;simp [Array.getD,dw]
   ·rw[getD_set_ne false (Ne.symm Hl)];simp [Hl]
  refine vE hC ho Ht hf g1 (λ hg=>by rw[j8];exact g2 hg) λ m' a' gn jk => ?_
  have ew:=g4 _ qz;refine ih (b9.setIfInBounds i true) a' m' (by simpa using u5) ?_ ?_ ?_ ?_
  ·have k6:SJ (b9.setIfInBounds i true) ops.size<SJ b9 ops.size:=by
    refine kV (x:=i) (λ j _ hj => ?_) (by simpa using hio) (by simp [mr]) (by rw[qz];simp);rw[qz]at hj;simp at hj ⊢;exact hj.2
   omega
  ·intro j oj hj Em e he hb
   change (b9.setIfInBounds i true).getD j false=true at hj;show (b9.setIfInBounds i true).getD e.on false=true;rw[qz]at hj ⊢;simp only[Bool.or_eq_true,decide_eq_true_eq]at hj ⊢;rcases hj with rfl|hj
   ·exact .inr (ax oj Em e he hb)
   ·exact .inr (Gz j oj hj Em e he hb)
  ·rw[ew,gn,j8]
   rfl
  ·rw[ew]
   rw[j8,g3]at jk;have hd:(l[i]).dst=(rs[i]).d:=(h.fits i _ _ hx hr).d.symm;rw[hd]at jk;exact jk
theorem AgC (hC:G6 P num C) {id:Nat} {l:List AI} (j6:P0 P num N ops ops.toList l=true) (hd:RJ ops l=true) {st j7:St} (j9:C9 C l st=some j7) {m:M} {a:Act} (j8:m.own=st.own) (hf:FM B S w0 m0 N (g6 st.tm) m a)
  (hQ : ∀ m' a',m'.own=j7.own->FM B S w0 m0 N (g6 j7.tm) m' a'->Q .normal a' m'.w):(Code.region id ops true).wp P Q a m.w:=by
 obtain ⟨σ,rs,h0,h1,hl,h2⟩:=trace j9;have hD:WQ C ops l σ rs:=⟨hd,hl,h2⟩;obtain ⟨iw,Bq⟩:=grow hf.mem ((Below.refl m.w.heap.size m.w).drew);have pk:FM B S w0 m0 N (g6 st.tm) ⟨m.ν,m.own,m.w.drew⟩ a:=⟨iw,hf.ext.trans Bq,λ i=>Bq.cv (hf.tm i),hf.size,hf.defers⟩;have Dh:DL (λ j=>(Array.replicate ops.size false).getD j false) rs 0 (d0 σ)=d0 σ:=cU rs 0 _ λ i _=>by simp [Array.getD]
 have key : ∀ md:Region.Mode,(md = .gc->Region.departs ops=true) -> ∀ t,wpOps P ops Q (Region.linearise md ops t) a m.w.drew:=λ md xy t=>by
  refine wpAny_sound ops.size t (Array.replicate ops.size false) a m.w.drew ?_;refine AgB hC j6 hD xy (by rw[h1];exact hQ) ops.size _ a ⟨m.ν,m.own,m.w.drew⟩ (by simp) ?_ ?_ ?_ ?_
  ·unfold SJ
   exact Nat.le_trans List.countP_le_length (by simp)
  ·intro j o hj
   simp [Array.getD]at hj
  ·rw[Dh];simp [d0,h0,j8]
  ·rw[Dh];simpa [d0,h0] using pk
 refine wp_region_draw λ t => ?_
 change wpOps P ops Q _ a m.w.drew;unfold Region.schedule;split
 ·exact key .any (λ h=>by cases h) t
 ·rename_i Bo
  have zj:Region.departs ops=true:=by simp at Bo;exact Bo.2
  split
  ·exact key .text (λ_=>zj) _
  ·exact key .gc (λ_=>zj) _
end
end Go.b7

namespace Go.b7
open Go.RowKit
section
variable {B:Nat} {S:Nat->Prop} {w0:World} {m0:M} {N:Nat}
variable {P:Program} {num:Nat->Nat} {C:Cl}
theorem Agk (m:Tm) (l:List Nat) (j:Nat):g6 (w4 m l) j=g6 m j\/g6 (w4 m l) j = .any:=by
 induction m with
 | nil=>exact .inl rfl
 | cons x r ih =>
  obtain ⟨i,v⟩:=x;simp only[w4];split
  ·by_cases h:j=i
   ·subst h
    rename_i hc;right
    clear ih;induction r with
    | nil=>rfl
    | cons y q ih =>
     obtain ⟨k,u⟩:=y;simp only[w4];split
     ·exact ih
     ·rename_i hk
      have : ¬ j=k:=λ e=>by subst e;exact hk hc
      simp only[g6,if_neg this];exact ih
   ·rcases ih with h1|h1
    ·left;simp only[g6,if_neg h];exact h1
    ·right;exact h1
  ·by_cases h:j=i
   ·left;simp [g6,h]
   ·simp only[g6,if_neg h]
    exact ih
inductive II (P:Program) (num:Nat->Nat) (N:Nat):List It->List Item->Prop
 | nil:II P num N [] []
 | code {c:Code} {a:BD} {k:List It} {t:List Item} (h:EU P num N c a=true) (hk:II P num N k t):II P num N (.code a::k) (.code c::t)
 | drop {ts ss:List Nat} {k:List It} {t:List Item} (hk:II P num N k t):II P num N (.jx ts ss::k) t
 | c9 {id:Nat} {k:List It} {t:List Item} (hk:II P num N k t):II P num N (.c9 id::k) (.inBlock id::t)
 | lp {c:Code} {a:BD} {k:List It} {t:List Item} (h:EU P num N c a=true) (hk:II P num N k t):II P num N (.lp a::k) (.inLoop c::t)
 | scope {c:Code} {k:List It} {t:List Item} (hk:II P num N k t):II P num N k (.inScope c::t)
theorem uD {b:Frame} {a:Act} {k:List Item} {cs:List Frame} {w:World} {c:Code}:step P (lone (b.at a (.inScope c::k)) cs w) = .next (lone (b.at a k) cs w) :=
 step_lone_go (by simp [stepG,stepG.exec,Frame.at])
theorem Zz {b:Frame} {a:Act} {k:List Item} {cs:List Frame} {w:World} {c:Code}:step P (lone (b.at a (.code (.scope c)::k)) cs w) = .next (lone (b.at a (.code c :: .inScope c::k)) cs w) :=
 step_lone_go (by simp [stepG,stepG.exec,Frame.at])
theorem TG {id:Nat} : ∀ {k:List It} {t:List Item},II P num N k t -> ∀ {k':List It},FI id k=some k' -> ∃ t',exitTo id t=some t'/\II P num N k' t'
 | _,_,.nil,k',h=>by simp [FI]at h
 | _,_,.code h0 hk,k',h=>by
  simp only[FI]at h;obtain ⟨t',h1,h2⟩:=TG hk h;exact ⟨t',by simpa [exitTo] using h1,h2⟩
 | _,_,.drop hk,k',h=>by
  simp only[FI]at h;exact TG hk h
 | _,_,.c9 (id:=Fa) hk,k',h=>by
  simp only[FI]at h;split at h
  ·rename_i he
   subst he;simp only[Option.some.injEq]at h;subst h;exact ⟨_,by simp [exitTo],hk⟩
  ·rename_i he
   obtain ⟨t',h1,h2⟩:=TG hk h;exact ⟨t',by simpa [exitTo,he] using h1,h2⟩
 | _,_,.lp h0 hk,k',h=>by
  simp only[FI]at h;obtain ⟨t',h1,h2⟩:=TG hk h;exact ⟨t',by simpa [exitTo] using h1,h2⟩
 | _,_,.scope hk,k',h=>by
  obtain ⟨t',h1,h2⟩:=TG hk h;exact ⟨t',by simpa [exitTo] using h1,h2⟩
def iH (B:Nat) (S:Nat->Prop) (w0:World) (m0:M) (N:Nat) (P:Program) (b:Frame) (cs:List Frame) (Jh:Machine) (j7:St):Prop :=
 ∃ a' m' m7,Steps P Jh (lone { b.at a' m7 with mode := .returning } cs m'.w)/\m'.own=j7.own/\FM B S w0 m0 N (g6 j7.tm) m' a'
theorem AfD (hC:G6 P num C) (b:Frame) (cs:List Frame) : ∀ (n:Nat) (k:List It) (st j7:St),run C n k st=some j7 -> ∀ (t:List Item),II P num N k t -> ∀ (m:M) (a:Act),m.own=st.own->FM B S w0 m0 N (g6 st.tm) m a ->
  iH B S w0 m0 N P b cs (lone (b.at a t) cs m.w) j7:=by
 intro n;induction n with
 | zero=>intro k st j7 h;simp [run]at h
 | succ n ih =>
  intro k st j7 h t ht;have fin : ∀ (t:List Item),II P num N [] t -> ∀ (m:M) (a:Act),m.own=st.own->FM B S w0 m0 N (g6 st.tm) m a->st=j7->iH B S w0 m0 N P b cs (lone (b.at a t) cs m.w) j7:=by
   intro t ht;generalize hk:([]:List It)=kk at ht;induction ht with
   | nil =>
    intro m a j8 hf he;subst he;exact ⟨a,m,[],.one step_end,j8,hf⟩
   | scope dz iz =>
    intro m a j8 hf he;obtain ⟨a',m',m7,h1,h2⟩:=iz hk m a j8 hf he;exact ⟨a',m',m7,.head uD h1,h2⟩
   | code=>cases hk
   | drop=>cases hk
   | c9=>cases hk
   | lp=>cases hk
  cases k with
  | nil =>
   intro m a j8 hf;simp only[run,Option.some.injEq]at h;exact fin t ht m a j8 hf h
  | cons it k =>
   generalize fg:it::k=kk at ht;induction ht with
   | nil=>cases fg
   | scope dz iz =>
    intro m a j8 hf;obtain ⟨a',m',m7,h1,h2⟩:=iz fg m a j8 hf;exact ⟨a',m',m7,.head uD h1,h2⟩
   | @c9 id k2 t2 dz iz =>
    intro m a j8 hf;obtain ⟨rfl,rfl⟩:it = .c9 id/\k=k2:=by simpa using fg
    simp only[run]at h;obtain ⟨a',m',m7,h1,h2⟩:=ih k st j7 h t2 dz m a j8 hf;exact ⟨a',m',m7,.head step_inBlock h1,h2⟩
   | @lp c ac k2 t2 j6 dz iz =>
    intro m a j8 hf;obtain ⟨rfl,rfl⟩:it = .lp ac/\k=k2:=by simpa using fg
    simp only[run]at h;obtain ⟨a',m',m7,h1,h2⟩:=ih _ st j7 h (.code c :: .inLoop c::t2) (.code j6 (.lp j6 dz)) m a j8 hf;exact ⟨a',m',m7,.head step_inLoop h1,h2⟩
   | @drop ts ss k2 t2 dz iz =>
    intro m a j8 hf;obtain ⟨rfl,rfl⟩:it = .jx ts ss/\k=k2:=by simpa using fg
    simp only[run]at h;obtain ⟨iv,he⟩:=Qr hf.mem ss;have jk:FM B S w0 m0 N (g6 (w4 st.tm ts)) ⟨m.ν,m.own.drop ss,m.w⟩ a:=⟨iv,hf.ext.trans he,λ i=>by
     rcases Agk st.tm ts i with h1|h1
     ·rw[h1];exact he.cv (hf.tm i)
     ·rw[h1];exact .any _,hf.size,hf.defers⟩
    obtain ⟨a',m',m7,h1,h2,h3⟩:=ih k ⟨w4 st.tm ts,st.own.drop ss⟩ j7 h t2 dz ⟨m.ν,m.own.drop ss,m.w⟩ a (by simp [j8]) jk;exact ⟨a',m',m7,h1,h2,h3⟩
   | @code c ac k2 t2 j6 dz iz =>
    obtain ⟨rfl,rfl⟩:it = .code ac/\k=k2:=by simpa using fg
    clear iz fg;intro m a j8 hf;cases ac with
    | dr ac ts ss =>
     simp only[EU]at j6;simp only[run]at h;exact ih _ st j7 h _ (.code j6 (.drop dz)) m a j8 hf
    | skip =>
     simp only[run]at h;cases c with
     | skip =>
      obtain ⟨a',m',m7,h1,h2⟩:=ih _ st j7 h _ dz m a j8 hf;exact ⟨a',m',m7,.head step_skip h1,h2⟩
     | label =>
      obtain ⟨a',m',m7,h1,h2⟩:=ih _ st j7 h _ dz m a j8 hf;exact ⟨a',m',m7,.head step_label h1,h2⟩
     | _=>simp [EU]at j6
    | scope ac =>
     simp only[run]at h;cases c with
     | scope c =>
      simp only[EU]at j6;obtain ⟨a',m',m7,h1,h2⟩:=ih _ st j7 h _ (.code j6 (.scope (c:=c) dz)) m a j8 hf;exact ⟨a',m',m7,.head Zz h1,h2⟩
     | _=>simp [EU]at j6
    | seq a1 a2 =>
     simp only[run]at h;cases c with
     | seq c1 c2 =>
      simp only[EU,Bool.and_eq_true]at j6;obtain ⟨a',m',m7,h1,h2⟩:=ih _ st j7 h _ (.code j6.1 (.code j6.2 dz)) m a j8 hf;exact ⟨a',m',m7,.head step_seq h1,h2⟩
     | _=>simp [EU]at j6
    | cond x a1 a2 =>
     simp only[run]at h;cases c with
     | cond xc c1 c2 =>
      simp only[EU,Bool.and_eq_true]at j6;have u6:CV B S m (st.ev x) (a.eval xc):=by rw[mR];exact hf.says xc x j6.1.1
      split at h
      ·rename_i hx
       rw[hx]at u6;obtain ⟨a',m',m7,h1,h2⟩:=ih _ st j7 h _ (.code j6.1.2 dz) m a j8 hf;exact ⟨a',m',m7,.head (step_cond (RI u6)) h1,h2⟩
      ·rename_i hx
       rw[hx]at u6;obtain ⟨a',m',m7,h1,h2⟩:=ih _ st j7 h _ (.code j6.2 dz) m a j8 hf;exact ⟨a',m',m7,.head (step_cond (RI u6)) h1,h2⟩
      ·cases h
     | _=>simp [EU]at j6
    | block id ac =>
     simp only[run]at h;cases c with
     | block Fa c =>
      simp only[EU,Bool.and_eq_true,beq_iff_eq]at j6;obtain ⟨rfl,j6⟩:=j6;obtain ⟨a',m',m7,h1,h2⟩:=ih _ st j7 h _ (.code j6 (.c9 dz)) m a j8 hf;exact ⟨a',m',m7,.head step_block h1,h2⟩
     | _=>simp [EU]at j6
    | loop ac =>
     simp only[run]at h;cases c with
     | loop c =>
      simp only[EU]at j6;obtain ⟨a',m',m7,h1,h2⟩:=ih _ st j7 h _ (.code j6 (.lp j6 dz)) m a j8 hf;exact ⟨a',m',m7,.head step_loop h1,h2⟩
     | _=>simp [EU]at j6
    | exit id =>
     simp only[run]at h;cases c with
     | exit Fa =>
      simp only[EU,beq_iff_eq]at j6;subst j6;split at h
      ·rename_i k' ka
       obtain ⟨t',e1,e2⟩:=TG dz ka;obtain ⟨a',m',m7,h1,h2⟩:=ih _ st j7 h _ e2 m a j8 hf;exact ⟨a',m',m7,.head (step_exit e1) h1,h2⟩
      ·cases h
     | _=>simp [EU]at j6
    | ret =>
     simp only[run,Option.some.injEq]at h;subst h;cases c with
     | ret=>exact ⟨a,m,.code .ret::t2,.one step_ret,j8,hf⟩
     | _=>simp [EU]at j6
    | ops l draw =>
     simp only[run]at h;split at h
     ·rename_i A6 Ct
      cases c with
      | region id ops mh =>
       simp only[EU,Bool.and_eq_true,beq_iff_eq]at j6;obtain ⟨⟨rfl,Cf⟩,ln⟩:=j6;have hwp:(Code.region id ops mh).wp P (λ e a' w'=>e = .normal /\ ∃ m',m'.w=w'/\m'.own=A6.own/\FM B S w0 m0 N (g6 A6.tm) m' a') a m.w:=by
        cases mh with
        | true=>exact AgC hC Cf (by simpa using ln) Ct j8 hf λ m' a' h1 h2=>⟨rfl,m',rfl,h1,h2⟩
        | false =>
         refine wp_region ?_;rw[List.range_eq_range'];exact vF hC Cf ops.size 0 st A6 m a (by omega) (by simpa using Ct) j8 hf λ m' a' h1 h2=>⟨rfl,m',rfl,h1,h2⟩
       obtain ⟨e,a1,w1,⟨rfl,m1,rfl,Cg,pk⟩,Gp⟩:=hwp b t2 cs;obtain ⟨a',m',m7,h1,h2,h3⟩:=ih _ A6 j7 h _ dz m1 a1 Cg pk;exact ⟨a',m',m7,Steps.trans Gp h1,h2,h3⟩
      | _=>simp [EU]at j6
     ·cases h
end
end Go.b7

namespace Go.b7
open Go.RowKit
section
variable {P:Program} {num:Nat->Nat} {L:Lib}
def ProgOK (P : Program) (num : Nat → Nat) (L : Lib) : Prop := (∀ f fa, L f = some fa → ∃ fn, P.funcs[num f]? = some fn ∧ okFn P num fn fa = true ∧ (fn.name == "runtime.NumGoroutine") = false) ∧ L.num = num
theorem pF : ∀ (args:List AV) (k i:Nat),g6 (CR k args) i=if k<=i then (match args[i-k]? with|some v=>v|none => .any) else .any
 | [],k,i=>by simp [CR,g6]
 | v::r,k,i=>by
  simp only[CR,g6];by_cases h:i=k
  ·subst h;simp
  ·rw[if_neg h,pF r (k+1) i]
   by_cases h2:k<=i
   ·rw[if_pos h2,if_pos (by omega)]
    have:i-k=(i-(k+1))+1:=by omega
    rw[this];simp
   ·rw[if_neg h2,if_neg (by omega)]
section
variable {B:Nat} {S:Nat->Prop} {w0:World} {m0:M} {N:Nat}
def YV (tmps:Array Value):ResultVar->Sem Value
 | .tmp t=>pure (tmps.getD t undef)
 | .cell x t=>do loadVar t (<-asAddr (tmps.getD x undef))
theorem zY {m:M} {x v:AV} {u:Value} (h:I1 x=some v) (u6:CV B S m x u):CA B S m v u:=by
 cases u6 with
 | any=>simp [I1]at h
 | g8=>simp [I1]at h
 | ca hc =>
  have:x=v:=by
   cases hc with
   | one hc=>cases hc with
    | rd hr=>cases hr<;>simpa [I1] using h
    | _=>simpa [I1] using h
   | fn=>simpa [I1] using h
   | ou=>simpa [I1] using h
   | agg=>simpa [I1] using h
  subst this;exact hc
theorem fQ {m:M} {a:Act} {st:St} (hf:FM B S w0 m0 N (g6 st.tm) m a) (j8:m.own=st.own) : ∀ {rv:List ResultVar} {ra:List JN} {vs:List AV},L7 P rv ra=true->ra.mapM (E6 st)=some vs ->
  ∃ us:List Value,(rv.mapM (YV a.tmps)).run P m.w = .ok us m.w/\vs.length=us.length /\ ∀ (j:Nat) (c:AV) (v:Value),vs[j]? = some c->us[j]? = some v->CA B S m c v
 | [],[],vs,_,h=>by
  simp at h;subst h;exact ⟨[],by simp,rfl,λ j c v hc=>by simp at hc⟩
 | .tmp t::r,.tmp t'::l,vs,j6,h=>by
  simp only[L7,Bool.and_eq_true,beq_iff_eq]at j6;obtain ⟨rfl,j6⟩:=j6;simp only[List.mapM_cons,Option.bind_eq_bind,Option.pure_def]at h;cases hv:E6 st (.tmp t) with
  | none=>simp [hv]at h
  | some v =>
   cases hr:l.mapM (E6 st) with
   | none=>simp [hv,hr]at h
   | some vr =>
    simp [hv,hr]at h;subst h;obtain ⟨us,h1,h2,h3⟩:=fQ hf j8 j6 hr;have u6:=hf.tm t;have nj:CA B S m v (a.tmps.getD t undef):=zY hv u6;refine ⟨a.tmps.getD t undef::us,?_,by simp [h2],λ j c u hc hu => ?_⟩
    ·simp only[List.mapM_cons,Sem.run_bind,YV,Sem.run_pure,Result.andThen_ok,h1]
    ·cases j with
     | zero =>
      obtain rfl:v=c:=by simpa using hc
      obtain rfl:a.tmps.getD t undef=u:=Option.some.inj hu;exact nj
     | succ j=>exact h3 j c u (by simpa using hc) (by simpa using hu)
 | .cell x t::r,.cell x' agg n::l,vs,j6,h=>by
  simp only[L7,Bool.and_eq_true,beq_iff_eq]at j6;obtain ⟨⟨⟨rfl,eg⟩,hn⟩,j6⟩:=j6;simp only[List.mapM_cons,Option.bind_eq_bind,Option.pure_def]at h;cases hv:E6 st (.cell x agg n) with
  | none=>simp [hv]at h
  | some v =>
   cases hr:l.mapM (E6 st) with
   | none=>simp [hv,hr]at h
   | some vr =>
    simp [hv,hr]at h;subst h;obtain ⟨us,h1,h2,h3⟩:=fQ hf j8 j6 hr;have u6:=hf.tm x;simp only[E6]at hv;split at hv
    ·rename_i s u i j hx
     rw[hx]at u6;split at hv
     ·rename_i cs gi
      rw[<-j8]at gi;obtain ⟨ad,z0,ht,hb⟩:=UY u6;obtain ⟨b,g,arr,e,m9,hg,y6,fj,n6,br⟩:=rT hf.mem gi;obtain ⟨Ait,gy⟩:=YK hv n6;have hld:=fS (P:=P) t agg n (aC (by simpa using eg)) (by
       cases agg
       ·simpa using hn
       ·exact O4 (by simpa using hn)) ad y6 fj m.w (λ q u' hq=>by
       have k6:q<y6.length:=(zS hq).1;obtain ⟨xp,gj⟩:=hg (by omega);obtain ⟨g',bj,rfl⟩:=hb b m9;obtain rfl:g=g':=by rw[xp]at bj;simpa using bj
       rw[HI,W9 gj];exact br q u' hq)
      have Ho:(YV a.tmps (.cell x t)).run P m.w = .ok (if agg then .agg y6.toArray else y6.getD 0 undef) m.w:=by
       show (do loadVar t (<-asAddr (a.tmps.getD x undef)):Sem Value).run P m.w=_;rw[z0];simpa [asAddr,Instr.loadAt,Instr.sureAddr] using hld
      have nj:CA B S m v (if agg then .agg y6.toArray else y6.getD 0 undef):=by
       unfold KL at hv;cases agg with
       | true =>
        simp only[if_true,Option.some.injEq]at hv;subst hv;exact .agg cs y6 n6
       | false =>
        simp only[Bool.false_eq_true,if_false]at hv ⊢;split at hv
        ·rename_i c
         simp only[Option.some.injEq]at hv;subst hv;obtain ⟨u',ib,v8⟩:=S5 n6 (j:=0) (c:=c) rfl;simp only[List.getD,ib,Option.getD_some];exact .one v8
        ·cases hv
      refine ⟨(if agg then .agg y6.toArray else y6.getD 0 undef)::us,?_,by simp [h2],λ j' c u' hc hu => ?_⟩
      ·rw[List.mapM_cons,Sem.run_bind,Ho,Result.andThen_ok,Sem.run_bind,h1,Result.andThen_ok]
       rfl
      ·cases j' with
       | zero =>
        obtain rfl:v=c:=by simpa using hc
        obtain rfl:=Option.some.inj hu;exact nj
       | succ j'=>exact h3 j' c u' (by simpa using hc) (by simpa using hu)
     ·cases hv
    ·cases hv
 | [],_::_,_,j6,_=>by simp [L7]at j6
 | .tmp _::_,[],_,j6,_=>by simp [L7]at j6
 | .cell _ _::_,[],_,j6,_=>by simp [L7]at j6
 | .tmp _::_,.cell _ _ _::_,_,j6,_=>by simp [L7]at j6
 | .cell _ _::_,.tmp _::_,_,j6,_=>by simp [L7]at j6
end
theorem jX (hP:ProgOK P num L) {f:Nat} {fa:AFn} (hL:L f=some fa) (us:Array Value) (w:World):(callFunc (num f) us).run P w = .ok (.enter (num f) us) w:=by
 obtain ⟨fn,h1,h2,h3⟩:=hP.1 f fa hL;have hb:fn.body.isNone=false:=by
  simp only[okFn,Bool.and_eq_true]at h2;cases hbd:fn.body with
  | none=>rw[hbd]at h2;simp at h2
  | some c=>rfl
 unfold callFunc;simp only[Sem.run_bind,run_program,Result.andThen_ok,h1,h3,hb,Bool.false_eq_true,if_false,Sem.run_pure]
theorem pG (hP:ProgOK P num L) {n:Nat} (hC:G6 P num (C4 L n)) {f:Nat} {vs:List AV} {own:AH} {r:AV} {l6:AH} (h:DJ L (n+1) f vs own=some (r,l6)) (B:Nat) (S:Nat->Prop) (w0:World) (m:M) (us:List Value) (j8:m.own=own) (hm:BN B S w0 m) (hl:vs.length=us.length)
  (u6 : ∀ (j:Nat) (c:AV) (v:Value),vs[j]? = some c->us[j]? = some v->CV B S m c v) :
  Calls P (num f) us.toArray m.w λ e w' => ∃ u m',e = .returned u/\m'.w=w'/\m'.own=l6/\BN B S w0 m'/\DG B S m m'/\CV B S m' r u:=by
 rw[U3]at h;cases hL:L f with
 | none=>simp [hL]at h
 | some fa =>
  simp only[hL]at h;split at h
  ·rename_i Ch
   split at h
   ·rename_i st o7
    split at h
    ·rename_i My lu
     simp only[Option.some.injEq,Prod.mk.injEq]at h;obtain ⟨rfl,rfl⟩:=h;obtain ⟨fn,h1,h2,h3⟩:=hP.1 f fa hL;simp only[okFn,Bool.and_eq_true,beq_iff_eq,decide_eq_true_eq]at h2;obtain ⟨⟨⟨h4,h5⟩,h6⟩,h7⟩:=h2;split at h7
     ·rename_i c hc
      intro cs;have xn:Frame.enter P (num f) us.toArray .normal=({ (default:Frame) with fn:=num f,kind := .normal }:Frame).at { tmps:=us.toArray++Array.replicate (fn.ntmps-us.toArray.size) undef,defers:=[] } [.code c]:=by
       simp [Frame.enter,Frame.at,h1,hc]
      have u5:us.length=fa.x5:=by rw[<-hl];exact Ch
      have hf0:FM B S w0 m fn.ntmps (g6 (CR 0 vs)) m { tmps:=us.toArray++Array.replicate (fn.ntmps-us.toArray.size) undef,defers:=[] }:=by
       refine ⟨hm,DG.refl m,λ i => ?_,by simp;omega,rfl⟩;rw[pF];simp only[Nat.zero_le,if_true,Nat.sub_zero];cases Cw:vs[i]? with
       | none=>exact .any _
       | some v =>
        have hi:i<us.length:=by rw[<-hl];exact (zS Cw).1
        have m9:(us.toArray++Array.replicate (fn.ntmps-us.toArray.size) undef).getD i undef=us[i]:=by
         rw[Array.getD_eq_getD_getElem?,Array.getElem?_append_left (by simpa using hi)];simp [hi]
        simp only[m9];exact u6 i v us[i] Cw (zE hi)
      obtain ⟨a',m',m7,yl,gn,jk⟩:=AfD (m0:=m) hC { (default:Frame) with fn:=num f,kind := .normal } cs n [.code fa.body] ⟨CR 0 vs,own⟩ st o7 [.code c] (.code h7 .nil) m _ j8 hf0;obtain ⟨sd,hu1,zu,Lv⟩:=fQ (P:=P) jk gn h6 lu;have tp:(results fn a'.tmps).run P m'.w = .ok (if h:sd.length=1 then sd[0] else .tuple sd.toArray) m'.w:=by
       have hr:results fn a'.tmps=(do let vs <-fn.results.mapM (YV a'.tmps);pure (if h:vs.size=1 then vs[0] else .tuple vs)):=rfl;rw[hr,Sem.run_bind,Array.mapM_eq_mapM_toList];simp [hu1]
      refine ⟨.returned (if h:sd.length=1 then sd[0] else .tuple sd.toArray),m'.w,_,⟨_,m',rfl,rfl,gn,jk.mem,jk.ext,?_⟩,by rw[xn];exact yl,rfl,rfl,jk.defers,rfl,fn,h1,tp⟩;unfold H5;split
      ·rename_i v
       have nb:sd.length=1:=by rw[<-zu];rfl
       rw[dif_pos nb];exact .ca (Lv 0 v sd[0] rfl (zE (by omega)))
      ·rename_i l9
       have nb : ¬ sd.length=1:=λ e=>by
        rw[<-zu]at e;cases My with
        | nil=>simp at e
        | cons q qs=>cases qs with
         | nil=>exact l9 q rfl
         | cons=>simp at e
       rw[dif_neg nb];exact .g8 My sd zu Lv
     ·cases h7
    ·cases h
   ·cases h
  ·cases h
theorem Zm (S:Nat->Prop) (w:World):BN w.heap.size S w ⟨λ_ _=>none,AH.emp,w⟩ :=
 ⟨Below.refl _ _,Nat.le_refl _,λ_ _ _=>rfl,λ s t b h=>by simp [AH.get,AH.emp]at h,λ s t s' t' b b' g h=>by simp [AH.get,AH.emp]at h⟩
theorem mN {n f:Nat} {vs:List AV} {own:AH} {r:AV × AH} (h:DJ L n f vs own=some r) : ∃ fa,L f=some fa:=by
 cases n with
 | zero=>simp [DJ]at h
 | succ n =>
  rw[U3]at h;cases hL:L f with
  | none=>simp [hL]at h
  | some fa=>exact ⟨fa,rfl⟩
theorem fA {n f:Nat} {vs:List AV} {r:AV} (h:IV (λ vs=>DJ L n f vs AH.emp) vs=some r) : ∃ r0 o,DJ L n f vs AH.emp=some (r0,o)/\QZ o false r0=some r/\A4 r:=by
 unfold IV at h;cases he:DJ L n f vs AH.emp with
 | none=>simp [he]at h
 | some x =>
  obtain ⟨r0,o⟩:=x;simp only[he]at h;split at h
  ·rename_i r' hr
   split at h
   ·rename_i hc
    simp only[Option.some.injEq]at h;subst h;exact ⟨r0,o,rfl,hr,hc⟩
   ·cases h
  ·cases h
theorem bX {n f:Nat} {vs:List AV} {r:AV} (h:HC L n f vs=some r) : ∃ y6,∃ x,DJ L n f y6 AH.emp=some x:=by
 unfold HC KN at h;split at h
 ·split at h
  ·rename_i r1 r2 h1 h2
   obtain ⟨r0,o,h3,_⟩:=fA h1;exact ⟨_,_,h3⟩
  ·cases h
 ·obtain ⟨r0,o,h3,_⟩:=fA h
  exact ⟨_,_,h3⟩
theorem fD (hP:ProgOK P num L) {n:Nat} (ih:G6 P num (C4 L n)) {f:Nat} {vs:List AV} {r:AV} (h:IV (λ vs=>DJ L (n+1) f vs AH.emp) vs=some r) (S:Nat->Prop) (w:World) (us:List Value) (hl:vs.length=us.length)
  (nj : ∀ (j:Nat) (c:AV) (v:Value),vs[j]? = some c->us[j]? = some v->CA w.heap.size S ⟨λ_ _=>none,AH.emp,w⟩ c v) :
  Calls P (num f) us.toArray w λ e w' => ∃ u,e = .returned u/\Below w.heap.size w w'/\CV w.heap.size S ⟨λ_ _=>none,AH.emp,w'⟩ r u/\A4 r:=by
 obtain ⟨r0,o,h1,h2,h3⟩:=fA (L:=L) h;refine Calls.mono (pG hP ih h1 w.heap.size S w ⟨λ_ _=>none,AH.emp,w⟩ us rfl (Zm S w) hl λ j c v hc hv => .ca (nj j c v hc hv)) λ e w' ⟨u,m',he,hw,j8,iv,_,u6⟩ => ?_
 subst hw;refine ⟨u,he,iv.below,?_,h3⟩;refine DV.cv (m:=⟨λ_ _=>none,AH.emp,m'.w⟩) (AfX iv false (safe w.heap.size S ⟨λ_ _=>none,AH.emp,m'.w⟩) (λ l b hb hs => ?_) (λ s t g z8 hg => ?_) (by rw[j8];exact h2) u6)
 ·rcases hs with h|⟨h,_⟩|h
  ·exact .inl h
  ·exact .inr (.inl ⟨h,λ s t z8=>by simp [AH.get,AH.emp]at z8⟩)
  ·exact .inr (.inr h)
 ·exact .inr (.inl ⟨(iv.ge z8 hg).1,λ s t z8=>by simp [AH.get,AH.emp]at z8⟩)
theorem Ou (hP:ProgOK P num L) : ∀ n,G6 P num (C4 L n):=by
 intro n;induction n with
 | zero =>
  exact ⟨λ f vs r h=>by obtain ⟨y6,x,h1⟩:=bX (L:=L) (n:=0) (f:=f) (vs:=vs) (r:=r) h;simp [DJ]at h1,λ f vs own r h=>by change DJ L 0 f vs own=some r at h;simp [DJ]at h,
   λ f vs r h=>by obtain ⟨y6,x,h1⟩:=bX (L:=L) (n:=0) (f:=f) (vs:=vs) (r:=r) h;simp [DJ]at h1,λ f vs own r l6 h=>by change DJ L 0 f vs own=_ at h;simp [DJ]at h,hP.2⟩
 | succ n ih =>
  refine ⟨λ f vs r h us w => ?_,λ f vs own r h us w => ?_,λ f vs r h S w us hl nj => ?_,λ f vs own r l6 h B S w0 m us j8 hm hl u6=>pG hP ih h B S w0 m us j8 hm hl u6,hP.2⟩
  ·obtain ⟨y6,x,h1⟩:=bX (L:=L) h
   obtain ⟨fa,hL⟩:=mN h1;exact jX hP hL us w
  ·obtain ⟨fa,hL⟩:=mN (L:=L) h
   exact jX hP hL us w
  ·have h:KN (L.mc f) (λ vs=>DJ L (n+1) f vs AH.emp) vs=some r:=h
   unfold KN at h;split at h
   ·rename_i q y6 _ _
    split at h
    ·rename_i r1 r2 h1 h2
     split at h
     ·rename_i e
      subst e;obtain rfl:=Option.some.inj h;cases us with
      | nil=>simp at hl
      | cons u us =>
       have h0:=nj 0 _ u rfl rfl;have hu : ∃ a cap,u = .slice a 0 cap:=by
        cases h0 with
        | one h0=>cases h0 with
         | rd h0=>cases h0 with
          | fe l a cap=>exact ⟨a,cap,rfl⟩
          | sl l es b o a9 cap u l9=>exact absurd rfl l9
       obtain ⟨a,cap,rfl⟩:=hu;have key : ∀ b,a.isNone=b -> ∀ (j:Nat) (c:AV) (v:Value),(AV.x9 (.bool b)::y6)[j]? = some c->(Value.slice a 0 cap::us)[j]? = some v->CA w.heap.size S ⟨λ_ _=>none,AH.emp,w⟩ c v:=λ b hb j c v hc hv=>by
        cases j with
        | zero =>
         obtain rfl:=Option.some.inj hc;obtain rfl:=Option.some.inj hv;exact .one (.rd (.emp b a cap hb))
        | succ j=>exact nj (j+1) c v hc hv
       cases hb:a.isNone with
       | true=>exact fD hP ih h1 S w _ (by simpa using hl) (key true hb)
       | false=>exact fD hP ih h2 S w _ (by simpa using hl) (key false hb)
     ·cases h
    ·cases h
   ·exact fD hP ih h S w us hl nj
end
end Go.b7
namespace Go.b7
abbrev OkF (P : Program) (num : Nat → Nat) (p : Nat × AFn) : Prop := ∃ fn, P.funcs[num p.1]? = some fn ∧ okFn P num fn p.2 = true ∧ (fn.name == "runtime.NumGoroutine") = false
theorem Xm {P:Program} {num:Nat->Nat} (l:List (Nat × AFn)) (h : ∀ p∈l,OkF P num p):ProgOK P num ⟨λ f=>l.lookup f,num⟩:=by
 refine ⟨?_,rfl⟩;intro f fa hf;have hm:(f,fa)∈l:=by
  clear h;change l.lookup f=some fa at hf;induction l with
  | nil=>simp at hf
  | cons x r ih =>
   obtain ⟨k,v⟩:=x;rw[List.lookup_cons]at hf;cases hk:(f == k) with
   | true =>
    rw[hk]at hf;have:f=k:=by simpa using hk
    subst this;simp at hf;simp [hf]
   | false =>
    rw[hk]at hf;exact List.mem_cons_of_mem _ (ih hf)
 exact h (f,fa) hm
end Go.b7

namespace Go.b7.F
open C
namespace KV
def r0:=[o 2 (.a8 (.c (.bool false)))]
def r1:=[m 3 0,m 4 0,o 5 (.bin .neq 3 4),m 2 5]
def c:=(s (d r0 [2]) (s (d r1 [0,3,4,5]) .ret))
end KV
def KV:AFn:=⟨1,KV.c,[.tmp 2],false⟩
namespace KW
def r0:=[o 2 (.a8 (.c (.bool false)))]
def r1:=[m 3 0,m 4 0,o 5 (.bin .neq 3 4),m 2 5]
def c:=(s (d r0 [2]) (s (d r1 [0,3,4,5]) .ret))
end KW
def KW:AFn:=⟨1,KW.c,[.tmp 2],false⟩
namespace KT
def r0:=[o 4 (.a8 (k 0))]
def r1:=[m 7 0,o 8 (.call 58 [7]),m 5 8]
def r2:=[m 9 1,o 10 (.call 58 [9]),m 6 10]
def r3:=[m 11 5]
def r4:=[m 12 6]
def r5:=[o 4 (.a8 (k 0))]
def r6:=[o 4 (.a8 (k (-1)))]
def r7:=[m 13 6]
def r8:=[o 4 (.a8 (k 1))]
def r9:=[m 14 0,m 15 1,o 16 (.bin .lss 14 15)]
def BX:=[o 4 (.a8 (k (-1)))]
def B2:=[m 17 0,m 18 1,o 19 (.bin .gtr 17 18)]
def s8:=[o 4 (.a8 (k 1))]
def CO:=[o 4 (.a8 (k 0))]
def c:=(s (d r0 [4]) (s (d r1 [7,8]) (s (d r2 [9,10]) (s (s (d r3 [5]) (i 11 (s (s (d r4 [0,1,6,11]) (i 12 (s (d r5 [12]) .ret) .skip)) (s (d r6 [12]) .ret)) .skip)) (s (s (d r7 [6,11]) (i 13 (s (d r8 [0,1,13]) .ret) .skip)) (s (s (d r9 [13,14,15]) (i 16 (s (d BX [0,1,16]) .ret) .skip)) (s (s (d B2 [0,1,16,17,18]) (i 19 (s (d s8 [19]) .ret) .skip)) (s (d CO [19]) .ret))))))))
end KT
def KT:AFn:=⟨2,KT.c,[.tmp 4],false⟩
namespace KU
def r0:=[o 4 (.a8 (k 0))]
def r1:=[m 7 0,o 8 (.call 59 [7]),m 5 8]
def r2:=[m 9 1,o 10 (.call 59 [9]),m 6 10]
def r3:=[m 11 5]
def r4:=[m 12 6]
def r5:=[o 4 (.a8 (k 0))]
def r6:=[o 4 (.a8 (k (-1)))]
def r7:=[m 13 6]
def r8:=[o 4 (.a8 (k 1))]
def r9:=[m 14 0,m 15 1,o 16 (.bin .lss 14 15)]
def BX:=[o 4 (.a8 (k (-1)))]
def B2:=[m 17 0,m 18 1,o 19 (.bin .gtr 17 18)]
def s8:=[o 4 (.a8 (k 1))]
def CO:=[o 4 (.a8 (k 0))]
def c:=(s (d r0 [4]) (s (d r1 [7,8]) (s (d r2 [9,10]) (s (s (d r3 [5]) (i 11 (s (s (d r4 [0,1,6,11]) (i 12 (s (d r5 [12]) .ret) .skip)) (s (d r6 [12]) .ret)) .skip)) (s (s (d r7 [6,11]) (i 13 (s (d r8 [0,1,13]) .ret) .skip)) (s (s (d r9 [13,14,15]) (i 16 (s (d BX [0,1,16]) .ret) .skip)) (s (s (d B2 [0,1,16,17,18]) (i 19 (s (d s8 [19]) .ret) .skip)) (s (d CO [19]) .ret))))))))
end KU
def KU:AFn:=⟨2,KU.c,[.tmp 4],false⟩
namespace HX
def r0:=[o 2 (.a8 (.c .nil))]
def r1:=[m 3 0,o 4 (.nr false 3)]
def r2:=[o 2 (.a8 (.c .nil))]
def r3:=[o 5 (.b8 5 1 []),m 6 0,o 7 (.app 7 1 4 5 6),m 2 7]
def c:=(s (d r0 [2]) (s (s (d r1 [3]) (i 4 (s (d r2 [0,4]) .ret) .skip)) (s (d r3 [0,4,5,6,7]) .ret)))
end HX
def HX:AFn:=⟨1,HX.c,[.tmp 2],true⟩
namespace LP
def r0:=[o 2 (.a8 (k 0))]
def r1:=[m 3 0,o 4 (.bin .geq 3 (.c (.int .u32 (65536))))]
def r2:=[m 5 0,o 6 (.bin .shr 5 (.c (.int .u64 (16)))),m 0 6]
def r3:=[o 2 (.a8 (k 16))]
def r4:=[m 7 0,o 8 (.bin .geq 7 (.c (.int .u32 (256))))]
def r5:=[m 9 0,o 10 (.bin .shr 9 (.c (.int .u64 (8)))),m 0 10]
def r6:=[m 11 2,o 12 (.bin .add 11 (k 8)),m 2 12]
def r7:=[m 13 2,m 14 0,o 15 (.conv .u8 14),
 o 16 (.de (List.replicate 1 0++List.replicate 1 1++List.replicate 2 2++List.replicate 4 3++List.replicate 8 4++List.replicate 16 5++List.replicate 32 6++List.replicate 64 7++List.replicate 128 8) 15),
 o 17 (.conv .i64 16),o 18 (.bin .add 13 17),m 2 18]
def c:=(s (p r0) (s (s (d r1 [3]) (i 4 (s (d r2 [2,4,5,6]) (p r3)) .skip)) (s (s (d r4 [4,7]) (i 8 (s (d r5 [8,9,10]) (d r6 [11,12])) .skip)) (s (d r7 [0,8,13,14,15,16,17,18]) .ret))))
end LP
def LP:AFn:=⟨1,LP.c,[.tmp 2],false⟩
namespace LO
def r0:=[o 2 (.a8 (k 0))]
def r1:=[m 3 0,o 4 (.call 63 [3]),o 5 (.bin .sub (k 32) 4),m 2 5]
def c:=(s (d r0 [2]) (s (d r1 [0,3,4,5]) .ret))
end LO
def LO:AFn:=⟨1,LO.c,[.tmp 2],false⟩
namespace FR
def r0:=[o 2 (.a8 (.c .nil))]
def r1:=[m 4 0,o 5 (.len 4),m 3 5]
def r2:=[m 6 3,o 7 (.bin .gtr 6 (k 0)),m 8 7,g 9 8 true (.a8 0),g 10 8 true (.a8 3),g 11 8 true (.bin .sub 10 (k 1)),g 12 8 true (.a7 none 1 9 11),
 g 13 8 true (.ld false 1 12),g 14 8 true (.bin .eql 13 (.c (.int .u32 (0)))),o 15 (.pick 8 14 (.c (.bool false)))]
def r3:=[m 16 3,o 17 (.bin .sub 16 (k 1)),m 3 17]
def r4:=[m 18 0,m 19 3,o 20 (.bz 1 18 none (some 19)),m 2 20]
def l1:=(s (s (d r2 [6,7,8,9,10,11,12,13,14]) (i 15 .skip (x 0))) (b 1 (d r3 [15,16,17])))
def c:=(s (d r0 [2]) (s (d r1 [4,5]) (s (b 0 (w l1)) (s (d r4 [0,3,15,18,19,20]) .ret))))
end FR
def FR:AFn:=⟨1,FR.c,[.tmp 2],false⟩
namespace LW
def r0:=[o 2 (.a8 (.c .nil))]
def r1:=[m 3 0,o 4 (.e9 65 [3]),o 5 (.call 62 [4]),m 2 5]
def c:=(s (d r0 [2]) (s (d r1 [0,3,4,5]) .ret))
end LW
def LW:AFn:=⟨1,LW.c,[.tmp 2],false⟩
namespace LS
def r0:=[o 4 (.a8 (k 0))]
def r1:=[m 8 0,o 9 (.e9 65 [8]),m 10 1,o 11 (.e9 65 [10]),m 5 9,m 6 11]
def r2:=[m 12 5,o 13 (.len 12),m 14 6,o 15 (.len 14),o 16 (.bin .neq 13 15)]
def r3:=[m 17 5,o 18 (.len 17),m 19 6,o 20 (.len 19),o 21 (.call 60 [18,20]),m 4 21]
def r4:=[m 22 5,o 23 (.len 22),o 24 (.bin .sub 23 (k 1)),m 7 24]
def r5:=[m 25 7,o 26 (.bin .geq 25 (k 0))]
def r7:=[m 29 5,m 30 7,o 31 (.a7 none 1 29 30),o 32 (.ld false 1 31),m 33 6,m 34 7,o 35 (.a7 none 1 33 34),o 36 (.ld false 1 35),o 37 (.bin .neq 32 36)]
def r8:=[m 38 5,m 39 7,o 40 (.a7 none 1 38 39),o 41 (.ld false 1 40),m 42 6,m 43 7,o 44 (.a7 none 1 42 43),o 45 (.ld false 1 44),o 46 (.call 61 [41,45]),
 m 4 46]
def r6:=[m 27 7,o 28 (.bin .sub 27 (k 1)),m 7 28]
def r9:=[o 4 (.a8 (k 0))]
def l1:=(s (s (d r5 [25]) (i 26 .skip (x 0))) (s (b 1 (s (e r7 [26,29,30,31,32,33,34,35,36]) (i 37 (s (e r8 [5,6,7,37,38,39,40,41,42,43,44,45,46]) .ret) .skip))) (d r6 [27,28,37])))
def c:=(s (d r0 [4]) (s (d r1 [0,1,8,9,10,11]) (s (s (d r2 [12,13,14,15]) (i 16 (s (d r3 [5,6,16,17,18,19,20,21]) .ret) .skip)) (s (s (d r4 [16,22,23,24]) (b 0 (w l1))) (s (d r9 [5,6,7,26]) .ret)))))
end LS
def LS:AFn:=⟨2,LS.c,[.tmp 4],false⟩
namespace LR
def r0:=[o 4 (.a8 (.c .nil))]
def r1:=[m 12 0,o 13 (.e9 65 [12]),m 14 1,o 15 (.e9 65 [14]),m 5 13,m 6 15]
def r2:=[m 16 5,o 17 (.len 16),m 18 6,o 19 (.len 18),o 20 (.bin .lss 17 19)]
def r3:=[m 21 6,m 22 5,m 5 21,m 6 22]
def r4:=[m 23 5,o 24 (.len 23),o 25 (.bin .add 24 (k 1)),o 26 (.mk 26 1 4 [(.int .u32 (0))] 25 25),m 7 26]
def r5:=[o 8 (.a8 (.c (.int .u64 (0))))]
def r6:=[m 27 5,o 28 (.len 27),o 29 (.a8 (k 0))]
def r7:=[o 30 (.bin .lss 29 28)]
def r8:=[m 31 29,o 32 (.a7 none 1 27 29),o 33 (.ld false 1 32),m 9 31,m 10 33]
def r9:=[m 34 10,o 35 (.conv .u64 34),m 36 8,o 37 (.bin .add 35 36),m 11 37]
def BX:=[m 38 9,m 39 6,o 40 (.len 39),o 41 (.bin .lss 38 40)]
def B2:=[m 42 11,m 43 6,m 44 9,o 45 (.a7 none 1 43 44),o 46 (.ld false 1 45),o 47 (.conv .u64 46),o 48 (.bin .add 42 47),m 11 48]
def s8:=[m 49 7,m 50 9,m 51 11,o 52 (.conv .u32 51),o 53 (.a7 none 1 49 50),n (.st 1 53 52)]
def CO:=[m 54 11,o 55 (.bin .shr 54 (.c (.int .u64 (32)))),m 8 55]
def w6:=[o 56 (.bin .add 29 (k 1)),m 29 56]
def w7:=[m 57 7,m 58 5,o 59 (.len 58),m 60 8,o 61 (.conv .u32 60),o 62 (.a7 none 1 57 59),n (.st 1 62 61)]
def y5:=[m 63 7,o 64 (.e9 65 [63]),m 4 64]
def l1:=(s (p r7) (s (i 30 .skip (x 0)) (s (b 1 (s (d r8 [30,31,32,33]) (s (d r9 [8,10,34,35,36,37]) (s (s (d BX [38,39,40]) (i 41 (d B2 [41,42,43,44,45,46,47,48]) .skip)) (s (d s8 [9,41,49,50,51,52,53]) (d CO [11,54,55])))))) (d w6 [56]))))
def c:=(s (d r0 [4]) (s (d r1 [0,1,12,13,14,15]) (s (s (d r2 [16,17,18,19]) (i 20 (d r3 [20,21,22]) .skip)) (s (d r4 [20,23,24,25,26]) (s (p r5) (s (s (p r6) (b 0 (w l1))) (s (d w7 [5,6,8,27,28,29,30,57,58,59,60,61,62]) (s (d y5 [7,63,64]) .ret))))))))
end LR
def LR:AFn:=⟨2,LR.c,[.tmp 4],false⟩
namespace LV
def r0:=[o 4 (.a8 (.c .nil))]
def r1:=[m 12 0,m 13 1,o 14 (.call 67 [12,13]),o 15 (.bin .leq 14 (k 0))]
def r2:=[o 4 (.a8 (.c .nil))]
def r3:=[m 16 0,o 17 (.e9 65 [16]),m 18 1,o 19 (.e9 65 [18]),m 5 17,m 6 19]
def r4:=[m 20 5,o 21 (.len 20),o 22 (.mk 22 1 4 [(.int .u32 (0))] 21 21),m 7 22]
def r5:=[o 8 (.a8 (.c (.int .u64 (0))))]
def r6:=[m 23 5,o 24 (.len 23),o 25 (.a8 (k 0))]
def r7:=[o 26 (.bin .lss 25 24)]
def r8:=[m 27 25,o 28 (.a7 none 1 23 25),o 29 (.ld false 1 28),m 9 27,m 10 29]
def r9:=[m 30 10,o 31 (.conv .u64 30),m 32 8,o 33 (.bin .sub 31 32),m 11 33]
def BX:=[m 34 9,m 35 6,o 36 (.len 35),o 37 (.bin .lss 34 36)]
def B2:=[m 38 11,m 39 6,m 40 9,o 41 (.a7 none 1 39 40),o 42 (.ld false 1 41),o 43 (.conv .u64 42),o 44 (.bin .sub 38 43),m 11 44]
def s8:=[m 45 7,m 46 9,m 47 11,o 48 (.conv .u32 47),o 49 (.a7 none 1 45 46),n (.st 1 49 48)]
def CO:=[m 50 11,o 51 (.bin .shr 50 (.c (.int .u64 (63)))),m 8 51]
def w6:=[o 52 (.bin .add 25 (k 1)),m 25 52]
def w7:=[m 53 7,o 54 (.e9 65 [53]),m 4 54]
def l1:=(s (p r7) (s (i 26 .skip (x 0)) (s (b 1 (s (d r8 [26,27,28,29]) (s (d r9 [8,10,30,31,32,33]) (s (s (d BX [34,35,36]) (i 37 (d B2 [37,38,39,40,41,42,43,44]) .skip)) (s (d s8 [9,37,45,46,47,48,49]) (d CO [11,50,51])))))) (d w6 [52]))))
def c:=(s (d r0 [4]) (s (s (d r1 [12,13,14]) (i 15 (s (d r2 [0,1,15]) .ret) .skip)) (s (d r3 [0,1,15,16,17,18,19]) (s (d r4 [20,21,22]) (s (p r5) (s (s (d r6 [5]) (b 0 (w l1))) (s (d w7 [6,7,8,23,24,25,26,53,54]) .ret)))))))
end LV
def LV:AFn:=⟨2,LV.c,[.tmp 4],false⟩
namespace LU
def r0:=[o 4 (.a8 (.c .nil))]
def r1:=[m 14 0,o 15 (.e9 65 [14]),m 16 1,o 17 (.e9 65 [16]),m 5 15,m 6 17]
def r2:=[m 18 5,o 19 (.len 18),o 20 (.bin .eql 19 (k 0)),m 21 20,g 22 21 false (.a8 6),g 23 21 false (.len 22),g 24 21 false (.bin .eql 23 (k 0)),
 o 25 (.pick 21 (.c (.bool true)) 24)]
def r3:=[o 4 (.a8 (.c .nil))]
def r4:=[m 26 5,o 27 (.len 26),m 28 6,o 29 (.len 28),o 30 (.bin .add 27 29),o 31 (.mk 31 1 4 [(.int .u32 (0))] 30 30),m 7 31]
def r5:=[m 32 5,o 33 (.len 32),o 34 (.a8 (k 0))]
def r6:=[o 35 (.bin .lss 34 33)]
def r7:=[m 36 34,o 37 (.a7 none 1 32 34),o 38 (.ld false 1 37),m 8 36,m 9 38]
def r8:=[m 39 9,o 40 (.bin .eql 39 (.c (.int .u32 (0))))]
def r9:=[o 10 (.a8 (.c (.int .u64 (0))))]
def BX:=[m 41 6,o 42 (.len 41),o 43 (.a8 (k 0))]
def B2:=[o 44 (.bin .lss 43 42)]
def s8:=[m 45 43,o 46 (.a7 none 1 41 43),o 47 (.ld false 1 46),m 11 45,m 12 47]
def CO:=[m 48 9,o 49 (.conv .u64 48),m 50 12,o 51 (.conv .u64 50),o 52 (.bin .mul 49 51),m 53 7,m 54 8,m 55 11,o 56 (.bin .add 54 55),o 57 (.a7 none 1 53 56),
 o 58 (.ld false 1 57),o 59 (.conv .u64 58),o 60 (.bin .add 52 59),m 61 10,o 62 (.bin .add 60 61),m 13 62]
def w6:=[m 63 7,m 64 8,m 65 11,o 66 (.bin .add 64 65),m 67 13,o 68 (.conv .u32 67),o 69 (.a7 none 1 63 66),n (.st 1 69 68)]
def w7:=[m 70 13,o 71 (.bin .shr 70 (.c (.int .u64 (32)))),m 10 71]
def y5:=[o 72 (.bin .add 43 (k 1)),m 43 72]
def DM:=[m 73 7,m 74 8,m 75 6,o 76 (.len 75),o 77 (.bin .add 74 76),m 78 10,o 79 (.conv .u32 78),o 80 (.a7 none 1 73 77),n (.st 1 80 79)]
def af:=[o 81 (.bin .add 34 (k 1)),m 34 81]
def bm:=[m 82 7,o 83 (.e9 65 [82]),m 4 83]
def l2:=(s (p B2) (s (i 44 .skip (x 2)) (s (b 3 (s (d s8 [44,45,46,47]) (s (d CO [10,12,48,49,50,51,52,53,54,55,56,57,58,59,60,61,62]) (s (d w6 [11,63,64,65,66,67,68,69]) (d w7 [13,70,71]))))) (d y5 [72]))))
def l1:=(s (p r6) (s (i 35 .skip (x 0)) (s (b 1 (s (d r7 [35,36,37,38]) (s (s (d r8 [39]) (i 40 (x 1) .skip)) (s (d r9 [40]) (s (s (p BX) (b 2 (w l2))) (d DM [8,9,10,41,42,43,44,73,74,75,76,77,78,79,80])))))) (d af [8,9,40,81]))))
def c:=(s (d r0 [4]) (s (d r1 [0,1,14,15,16,17]) (s (s (d r2 [18,19,20,21,22,23,24]) (i 25 (s (d r3 [5,6,25]) .ret) .skip)) (s (d r4 [25,26,27,28,29,30,31]) (s (s (d r5 [5]) (b 0 (w l1))) (s (d bm [6,7,32,33,34,35,82,83]) .ret))))))
end LU
def LU:AFn:=⟨2,LU.c,[.tmp 4],false⟩
namespace JT
def r0:=[o 6 (.a8 (.c .nil))]
def r1:=[m 11 2,o 12 (.mk 71012 1 4 [(.int .u32 (0))] 11 11),m 7 12]
def r2:=[o 8 (.a8 (.c (.int .u32 (0))))]
def r3:=[m 13 0,o 14 (.len 13),o 15 (.a8 (k 0))]
def r4:=[o 16 (.bin .lss 15 14)]
def r5:=[m 17 15,o 18 (.a7 none 1 13 15),o 19 (.ld false 1 18),m 9 17,m 10 19]
def r6:=[m 20 7,m 21 9,m 22 10,m 23 1,o 24 (.bin .shl 22 23),m 25 8,o 26 (.bin .or 24 25),o 27 (.a7 none 1 20 21),n (.st 1 27 26)]
def r7:=[m 28 10,o 29 (.conv .u64 28),m 30 1,o 31 (.bin .shl 29 30),o 32 (.bin .shr 31 (.c (.int .u64 (32)))),o 33 (.conv .u32 32),m 8 33]
def r8:=[o 34 (.bin .add 15 (k 1)),m 15 34]
def r9:=[m 35 2,m 36 0,o 37 (.len 36),o 38 (.bin .gtr 35 37)]
def BX:=[m 39 7,m 40 0,o 41 (.len 40),m 42 8,o 43 (.a7 none 1 39 41),n (.st 1 43 42)]
def B2:=[m 44 7,m 6 44]
def l1:=(s (p r4) (s (i 16 .skip (x 0)) (s (b 1 (s (d r5 [16,17,18,19]) (s (d r6 [8,9,20,21,22,23,24,25,26,27]) (d r7 [10,28,29,30,31,32,33])))) (d r8 [34]))))
def c:=(s (d r0 [6]) (s (d r1 [11,12]) (s (p r2) (s (s (p r3) (b 0 (w l1))) (s (s (d r9 [1,2,13,14,15,16,35,36,37]) (i 38 (d BX [0,8,38,39,40,41,42,43]) .skip)) (s (d B2 [0,7,8,38,44]) .ret))))))
end JT
def JT:AFn:=⟨3,JT.c,[.tmp 6],false⟩
namespace L1
def r0:=[o 4 (.a8 (.c .nil))]
def r1:=[m 8 0,o 9 (.len 8),o 10 (.mk 10 1 4 [(.int .u32 (0))] 9 9),m 5 10]
def r2:=[o 6 (.a8 (.c (.int .u32 (0))))]
def r3:=[m 11 0,o 12 (.len 11),o 13 (.bin .sub 12 (k 1)),m 7 13]
def r4:=[m 14 7,o 15 (.bin .geq 14 (k 0))]
def r6:=[m 18 5,m 19 7,m 20 0,m 21 7,o 22 (.a7 none 1 20 21),o 23 (.ld false 1 22),m 24 1,o 25 (.bin .shr 23 24),m 26 6,o 27 (.bin .or 25 26),
 o 28 (.a7 none 1 18 19),n (.st 1 28 27)]
def r7:=[m 29 0,m 30 7,o 31 (.a7 none 1 29 30),o 32 (.ld false 1 31),o 33 (.conv .u64 32),m 34 1,o 35 (.bin .sub (.c (.int .u64 (32))) 34),
 o 36 (.bin .shl 33 35),o 37 (.conv .u32 36),m 6 37]
def r5:=[m 16 7,o 17 (.bin .sub 16 (k 1)),m 7 17]
def r8:=[m 38 5,m 4 38]
def l1:=(s (s (d r4 [14]) (i 15 .skip (x 0))) (s (b 1 (s (d r6 [6,15,18,19,20,21,22,23,24,25,26,27,28]) (d r7 [29,30,31,32,33,34,35,36,37]))) (d r5 [16,17])))
def c:=(s (d r0 [4]) (s (d r1 [8,9,10]) (s (p r2) (s (s (d r3 [11,12,13]) (b 0 (w l1))) (s (d r8 [0,1,5,6,7,15,38]) .ret)))))
end L1
def L1:AFn:=⟨2,L1.c,[.tmp 4],false⟩
namespace F4
def r0:=[o 4 (.a8 (.c (.int .u32 (0))))]
def r1:=[m 19 1,o 20 (.len 19),m 5 20]
def r2:=[m 21 0,m 22 5,o 23 (.a7 none 1 21 22),o 24 (.ld false 1 23),o 25 (.conv .u64 24),o 26 (.bin .shl 25 (.c (.int .u64 (32)))),m 27 0,m 28 5,
 o 29 (.bin .sub 28 (k 1)),o 30 (.a7 none 1 27 29),o 31 (.ld false 1 30),o 32 (.conv .u64 31),o 33 (.bin .or 26 32),m 6 33]
def r3:=[m 34 6,m 35 1,m 36 5,o 37 (.bin .sub 36 (k 1)),o 38 (.a7 none 1 35 37),o 39 (.ld false 1 38),o 40 (.conv .u64 39),o 41 (.bin .quo 34 40),m 42 6,
 m 43 1,m 44 5,o 45 (.bin .sub 44 (k 1)),o 46 (.a7 none 1 43 45),o 47 (.ld false 1 46),o 48 (.conv .u64 47),o 49 (.bin .rem 42 48),m 7 41,m 8 49]
def r4:=[m 50 7,o 51 (.bin .geq 50 (.c (.int .u64 (4294967296)))),m 52 51,g 53 52 false (.a8 7),g 54 52 false (.a8 1),g 55 52 false (.a8 5),
 g 56 52 false (.bin .sub 55 (k 2)),g 57 52 false (.a7 none 1 54 56),g 58 52 false (.ld false 1 57),g 59 52 false (.conv .u64 58),
 g 60 52 false (.bin .mul 53 59),g 61 52 false (.a8 8),g 62 52 false (.bin .shl 61 (.c (.int .u64 (32)))),g 63 52 false (.a8 0),g 64 52 false (.a8 5),
 g 65 52 false (.bin .sub 64 (k 2)),g 66 52 false (.a7 none 1 63 65),g 67 52 false (.ld false 1 66),g 68 52 false (.conv .u64 67),
 g 69 52 false (.bin .or 62 68),g 70 52 false (.bin .gtr 60 69),o 71 (.pick 52 (.c (.bool true)) 70)]
def r5:=[m 72 7,o 73 (.bin .sub 72 (.c (.int .u64 (1)))),m 7 73]
def r6:=[m 74 8,m 75 1,m 76 5,o 77 (.bin .sub 76 (k 1)),o 78 (.a7 none 1 75 77),o 79 (.ld false 1 78),o 80 (.conv .u64 79),o 81 (.bin .add 74 80),m 8 81]
def r7:=[m 82 8,o 83 (.bin .geq 82 (.c (.int .u64 (4294967296))))]
def r8:=[o 9 (.a8 (.c (.int .u64 (0)))),o 10 (.a8 (.c (.int .u64 (0))))]
def r9:=[m 84 1,o 85 (.len 84),o 86 (.a8 (k 0))]
def BX:=[o 87 (.bin .lss 86 85)]
def B2:=[m 88 86,o 89 (.a7 none 1 84 86),o 90 (.ld false 1 89),m 11 88,m 12 90]
def s8:=[m 91 7,m 92 12,o 93 (.conv .u64 92),o 94 (.bin .mul 91 93),m 95 9,o 96 (.bin .add 94 95),m 13 96]
def CO:=[m 97 13,o 98 (.bin .shr 97 (.c (.int .u64 (32)))),m 9 98]
def w6:=[m 99 0,m 100 11,o 101 (.a7 none 1 99 100),o 102 (.ld false 1 101),o 103 (.conv .u64 102),m 104 13,o 105 (.conv .u32 104),o 106 (.conv .u64 105),
 o 107 (.bin .sub 103 106),m 108 10,o 109 (.bin .sub 107 108),m 14 109]
def w7:=[m 110 0,m 111 11,m 112 14,o 113 (.conv .u32 112),o 114 (.a7 none 1 110 111),n (.st 1 114 113)]
def y5:=[m 115 14,o 116 (.bin .shr 115 (.c (.int .u64 (63)))),m 10 116]
def DM:=[o 117 (.bin .add 86 (k 1)),m 86 117]
def af:=[m 118 0,m 119 5,o 120 (.a7 none 1 118 119),o 121 (.ld false 1 120),o 122 (.conv .u64 121),m 123 9,o 124 (.bin .sub 122 123),m 125 10,
 o 126 (.bin .sub 124 125),m 15 126]
def bm:=[m 127 0,m 128 5,m 129 15,o 130 (.conv .u32 129),o 131 (.a7 none 1 127 128),n (.st 1 131 130)]
def cp:=[m 132 15,o 133 (.bin .shr 132 (.c (.int .u64 (63)))),o 134 (.bin .eql 133 (.c (.int .u64 (0))))]
def ea:=[m 135 7,o 136 (.conv .u32 135),m 4 136]
def fk:=[o 9 (.a8 (.c (.int .u64 (0))))]
def gv:=[m 137 1,o 138 (.len 137),o 139 (.a8 (k 0))]
def IW:=[o 140 (.bin .lss 139 138)]
def JV:=[m 141 139,o 142 (.a7 none 1 137 139),o 143 (.ld false 1 142),m 16 141,m 17 143]
def SA:=[m 144 0,m 145 16,o 146 (.a7 none 1 144 145),o 147 (.ld false 1 146),o 148 (.conv .u64 147),m 149 17,o 150 (.conv .u64 149),o 151 (.bin .add 148 150),
 m 152 9,o 153 (.bin .add 151 152),m 18 153]
def fG:=[m 154 0,m 155 16,m 156 18,o 157 (.conv .u32 156),o 158 (.a7 none 1 154 155),n (.st 1 158 157)]
def fH:=[m 159 18,o 160 (.bin .shr 159 (.c (.int .u64 (32)))),m 9 160]
def fI:=[o 161 (.bin .add 139 (k 1)),m 139 161]
def Fb:=[m 162 0,m 163 5,o 164 (.a7 none 1 162 163),o 165 (.ld false 1 164),m 166 9,o 167 (.conv .u32 166),o 168 (.bin .add 165 167),
 o 169 (.a7 none 1 162 163),n (.st 1 169 168)]
def Fc:=[m 170 7,o 171 (.bin .sub 170 (.c (.int .u64 (1)))),o 172 (.conv .u32 171),m 4 172]
def l1:=(s (s (e r4 [50,51,52,53,54,55,56,57,58,59,60,61,62,63,64,65,66,67,68,69,70,83]) (i 71 .skip (x 0))) (b 1 (s (d r5 [71,72,73]) (s (d r6 [74,75,76,77,78,79,80,81]) (s (d r7 [82]) (i 83 (x 0) .skip))))))
def l2:=(s (p BX) (s (i 87 .skip (x 2)) (s (b 3 (s (d B2 [87,88,89,90]) (s (d s8 [9,12,91,92,93,94,95,96]) (s (d CO [97,98]) (s (d w6 [10,13,99,100,101,102,103,104,105,106,107,108,109]) (s (d w7 [11,110,111,112,113,114]) (d y5 [14,115,116]))))))) (d DM [117]))))
def l3:=(s (p IW) (s (i 140 .skip (x 4)) (s (b 5 (s (d JV [140,141,142,143]) (s (d SA [9,17,144,145,146,147,148,149,150,151,152,153]) (s (d fG [16,154,155,156,157,158]) (d fH [18,159,160]))))) (d fI [161]))))
def c:=(s (d r0 [4]) (s (d r1 [19,20]) (s (e r2 [21,22,23,24,25,26,27,28,29,30,31,32,33]) (s (e r3 [6,34,35,36,37,38,39,40,41,42,43,44,45,46,47,48,49]) (s (b 0 (w l1)) (s (d r8 [8,71,83]) (s (s (p r9) (b 2 (w l2))) (s (d af [9,10,84,85,86,87,118,119,120,121,122,123,124,125,126]) (s (d bm [127,128,129,130,131]) (s (s (d cp [15,132,133]) (i 134 (s (d ea [0,1,5,7,134,135,136]) .ret) .skip)) (s (d fk [134]) (s (s (d gv [1]) (b 4 (w l3))) (s (d Fb [0,5,9,137,138,139,140,162,163,164,165,166,167,168,169]) (s (d Fc [7,170,171,172]) .ret))))))))))))))
end F4
def F4:AFn:=⟨2,F4.c,[.tmp 4],false⟩
namespace LZ
def r0:=[o 4 (.a8 (.c .nil)),o 5 (.a8 (.c .nil))]
def r1:=[m 15 0,m 16 1,o 17 (.call 67 [15,16]),o 18 (.bin .lss 17 (k 0))]
def r2:=[m 19 0,o 20 (.call 62 [19]),o 4 (.a8 (.c .nil)),m 5 20]
def r3:=[m 21 1,o 22 (.len 21),m 6 22]
def r4:=[m 23 0,o 24 (.len 23),m 25 6,o 26 (.bin .sub 24 25),o 27 (.bin .add 26 (k 1)),o 28 (.mk 28 1 4 [(.int .u32 (0))] 27 27),m 7 28]
def r5:=[m 29 6,o 30 (.bin .eql 29 (k 1))]
def r6:=[o 8 (.a8 (.c (.int .u64 (0))))]
def r7:=[m 31 0,o 32 (.len 31),o 33 (.bin .sub 32 (k 1)),m 9 33]
def r8:=[m 34 9,o 35 (.bin .geq 34 (k 0))]
def BX:=[m 38 8,o 39 (.bin .shl 38 (.c (.int .u64 (32)))),m 40 0,m 41 9,o 42 (.a7 none 1 40 41),o 43 (.ld false 1 42),o 44 (.conv .u64 43),
 o 45 (.bin .or 39 44),m 10 45]
def B2:=[m 46 7,m 47 9,m 48 10,m 49 1,o 50 (.a7 none 1 49 (k 0)),o 51 (.ld false 1 50),o 52 (.conv .u64 51),o 53 (.bin .quo 48 52),o 54 (.conv .u32 53),
 o 55 (.a7 none 1 46 47),n (.st 1 55 54)]
def s8:=[m 56 10,m 57 1,o 58 (.a7 none 1 57 (k 0)),o 59 (.ld false 1 58),o 60 (.conv .u64 59),o 61 (.bin .rem 56 60),m 8 61]
def r9:=[m 36 9,o 37 (.bin .sub 36 (k 1)),m 9 37]
def CO:=[m 62 7,o 63 (.e9 65 [62]),m 64 8,o 65 (.conv .u32 64),o 66 (.b8 66 1 [65]),o 67 (.e9 65 [66]),m 4 63,m 5 67]
def w6:=[m 68 1,m 69 6,o 70 (.bin .sub 69 (k 1)),o 71 (.a7 none 1 68 70),o 72 (.ld false 1 71),o 73 (.call 64 [72]),o 74 (.conv .u64 73),m 11 74]
def w7:=[m 75 0,m 76 11,m 77 0,o 78 (.len 77),o 79 (.bin .add 78 (k 1)),o 80 (.e9 71 [75,76,79]),m 81 1,m 82 11,m 83 6,o 84 (.call 71 [81,82,83]),
 m 12 80,m 13 84]
def y5:=[m 85 0,o 86 (.len 85),m 87 6,o 88 (.bin .sub 86 87),m 14 88]
def DM:=[m 89 14,o 90 (.bin .geq 89 (k 0))]
def bm:=[m 93 7,m 94 14,m 95 12,m 96 14,m 97 14,m 98 6,o 99 (.bin .add 97 98),o 100 (.bin .add 99 (k 1)),o 101 (.bz 1 95 (some 96) (some 100)),m 102 13,
 o 103 (.e9 73 [101,102]),o 104 (.a7 none 1 93 94),n (.st 1 104 103)]
def af:=[m 91 14,o 92 (.bin .sub 91 (k 1)),m 14 92]
def cp:=[m 105 7,o 106 (.e9 65 [105]),m 107 12,m 108 6,o 109 (.bz 1 107 none (some 108)),m 110 11,o 111 (.call 72 [109,110]),o 112 (.e9 65 [111]),
 m 4 106,m 5 112]
def l1:=(s (s (d r8 [34]) (i 35 .skip (x 0))) (s (b 1 (s (d BX [8,35,38,39,40,41,42,43,44,45]) (s (d B2 [46,47,48,49,50,51,52,53,54,55]) (d s8 [10,56,57,58,59,60,61])))) (d r9 [36,37])))
def l2:=(s (s (d DM [89]) (i 90 .skip (x 2))) (s (b 3 (d bm [90,93,94,95,96,97,98,99,100,101,102,103,104])) (d af [91,92])))
def c:=(s (d r0 [4,5]) (s (s (d r1 [15,16,17]) (i 18 (s (d r2 [0,1,18,19,20]) .ret) .skip)) (s (d r3 [18,21,22]) (s (d r4 [23,24,25,26,27,28]) (s (s (d r5 [29]) (i 30 (s (d r6 [6,30]) (s (s (d r7 [31,32,33]) (b 0 (w l1))) (s (d CO [0,1,7,8,9,35,62,63,64,65,66,67]) .ret))) .skip)) (s (d w6 [30,68,69,70,71,72,73,74]) (s (d w7 [1,75,76,77,78,79,80,81,82,83,84]) (s (s (d y5 [0,85,86,87,88]) (b 2 (w l2))) (s (e cp [6,7,11,12,13,14,90,105,106,107,108,109,110,111,112]) .ret)))))))))
end LZ
def LZ:AFn:=⟨2,LZ.c,[.tmp 4,.tmp 5],false⟩
namespace LT
def r0:=[o 4 (.a8 (.c .nil)),o 5 (.a8 (.c .nil)),o 6 (.a8 (k 0))]
def r1:=[m 10 1,o 11 (.e9 65 [10]),m 7 11]
def r2:=[m 12 7,o 13 (.len 12),o 14 (.bin .eql 13 (k 0))]
def r3:=[o 4 (.a8 (.c .nil)),o 5 (.a8 (.c .nil)),o 6 (.a8 (k 3))]
def r4:=[m 16 0,o 17 (.e9 65 [16]),m 18 7,o 19 (.call 74 [17,18]),m 15 19,o 20 (.ext 15 0),o 21 (.ext 15 1),m 8 20,m 9 21]
def r5:=[m 22 8,m 23 9,m 4 22,m 5 23,o 6 (.a8 (k 0))]
def c:=(s (d r0 [4,5,6]) (s (d r1 [1,10,11]) (s (s (d r2 [12,13]) (i 14 (s (d r3 [0,7,14]) .ret) .skip)) (s (d r4 [0,7,14,15,16,17,18,19,20,21]) (s (d r5 [8,9,22,23]) .ret)))))
end LT
def LT:AFn:=⟨2,LT.c,[.tmp 4,.tmp 5,.tmp 6],false⟩
namespace L3
def r0:=[o 2 (.a8 (.c (.int .u64 (0))))]
def r1:=[o 3 (.a8 (.c (.int .u64 (0))))]
def r2:=[m 6 0,o 7 (.len 6),o 8 (.a8 (k 0))]
def r3:=[o 9 (.bin .lss 8 7)]
def r4:=[m 10 8,o 11 (.a7 none 1 6 8),o 12 (.ld false 1 11),m 4 10,m 5 12]
def r5:=[m 13 3,m 14 5,o 15 (.conv .u64 14),m 16 4,o 17 (.bin .mul (k 32) 16),o 18 (.bin .shl 15 17),o 19 (.bin .or 13 18),m 3 19]
def r6:=[o 20 (.bin .add 8 (k 1)),m 8 20]
def r7:=[m 21 3,m 2 21]
def l1:=(s (p r3) (s (i 9 .skip (x 0)) (s (b 1 (s (d r4 [9,10,11,12]) (d r5 [4,5,13,14,15,16,17,18,19]))) (d r6 [20]))))
def c:=(s (d r0 [2]) (s (p r1) (s (s (d r2 [0]) (b 0 (w l1))) (s (d r7 [3,6,7,8,9,21]) .ret))))
end L3
def L3:AFn:=⟨1,L3.c,[.tmp 2],false⟩
namespace IR
def r0:=[o 3 (.a8 (.c (.int .u64 (0))))]
def r1:=[m 4 0,o 5 (.ld false 1 1),o 6 (.len 5),o 7 (.bin .lss 4 6)]
def r2:=[o 8 (.ld false 1 1),m 9 0,o 10 (.a7 none 1 8 9),o 11 (.ld false 1 10),o 12 (.conv .u64 11),m 3 12]
def r3:=[o 3 (.a8 (.c (.int .u64 (0))))]
def c:=(s (d r0 [3]) (s (s (d r1 [4,5,6]) (i 7 (s (d r2 [0,1,7,8,9,10,11,12]) .ret) .skip)) (s (d r3 [0,1,7]) .ret)))
end IR
def IR:AFn:=⟨2,IR.c,[.tmp 3],false⟩
namespace L0
def r0:=[o 3 (.box 3 0),o 6 (.a8 (k 0))]
def r1:=[o 9 (.ki false 77 [3]),m 7 9]
def r2:=[m 10 7,m 11 1,o 12 (.bin .sub 11 (k 1)),o 13 (.m6 10 [12]),o 14 (.bin .shl 13 (.c (.int .u64 (32)))),m 15 7,m 16 1,o 17 (.bin .sub 16 (k 2)),
 o 18 (.m6 15 [17]),o 19 (.bin .or 14 18),m 20 2,o 21 (.bin .shl 19 20),m 8 21]
def r3:=[m 22 8,m 23 7,m 24 1,o 25 (.bin .sub 24 (k 3)),o 26 (.m6 23 [25]),m 27 2,o 28 (.bin .shl 26 27),o 29 (.bin .shr 28 (.c (.int .u64 (32)))),
 o 30 (.bin .or 22 29),m 8 30]
def r4:=[m 31 8,o 32 (.bin .shr 31 (.c (.int .u64 (2)))),o 33 (.conv .i64 32),m 6 33]
def c:=(s (d r0 [0,6]) (s (d r1 [3,9]) (s (d r2 [10,11,12,13,14,15,16,17,18,19,20,21]) (s (d r3 [1,2,7,22,23,24,25,26,27,28,29,30]) (s (d r4 [8,31,32,33]) .ret)))))
end L0
def L0:AFn:=⟨3,L0.c,[.tmp 6],false⟩
namespace LX
def r0:=[o 4 (.a8 (k 0)),o 5 (.a8 (k 0)),o 6 (.a8 (k 0)),o 7 (.a8 (k 0))]
def r1:=[o 4 (.a8 (k 1)),o 7 (.a8 (k 1))]
def r2:=[m 11 1,m 12 6,o 13 (.bin .add 11 12),o 14 (.bin .neq 13 (k 0)),m 15 14,g 16 15 true (.a8 1),g 17 15 true (.a8 7),g 18 15 true (.bin .add 16 17),
 g 19 15 true (.bin .neq 18 (k 0)),o 20 (.pick 15 19 (.c (.bool false)))]
def r3:=[m 21 0,m 22 4,o 23 (.bin .add 21 22),m 24 1,m 25 6,o 26 (.bin .add 24 25),o 27 (.bin .quo 23 26),m 8 27]
def r4:=[m 28 8,m 29 0,m 30 5,o 31 (.bin .add 29 30),m 32 1,m 33 7,o 34 (.bin .add 32 33),o 35 (.bin .quo 31 34),o 36 (.bin .neq 28 35),m 37 36,
 g 38 37 false (.a8 8),g 39 37 false (.bin .gtr 38 (k 2147483647)),o 40 (.pick 37 (.c (.bool true)) 39)]
def r5:=[m 41 4,m 42 8,m 43 6,o 44 (.bin .mul 42 43),o 45 (.bin .sub 41 44),m 46 5,m 47 8,m 48 7,o 49 (.bin .mul 47 48),o 50 (.bin .sub 46 49),m 9 45,m 10 50]
def r6:=[m 51 9,m 52 9,o 53 (.un .neg 52),m 54 10,m 55 10,o 56 (.un .neg 55),o 57 (.mm true [51,53,54,56]),o 58 (.bin .gtr 57 (k 2147483647))]
def r7:=[m 59 6,m 60 7,m 61 9,m 62 10,m 4 59,m 5 60,m 6 61,m 7 62]
def r8:=[m 63 1,m 64 0,m 65 8,m 66 1,o 67 (.bin .mul 65 66),o 68 (.bin .sub 64 67),m 0 63,m 1 68]
def r9:=[m 69 4,m 70 5,m 71 6,m 72 7,m 4 69,m 5 70,m 6 71,m 7 72]
def l1:=(s (s (d r2 [11,12,13,14,15,16,17,18,19]) (i 20 .skip (x 0))) (b 1 (s (d r3 [20,21,22,23,24,25,26,27]) (s (s (d r4 [28,29,30,31,32,33,34,35,36,37,38,39]) (i 40 (x 0) .skip)) (s (d r5 [40,41,42,43,44,45,46,47,48,49,50]) (s (s (d r6 [51,52,53,54,55,56,57]) (i 58 (x 0) .skip)) (s (d r7 [9,10,58,59,60,61,62]) (d r8 [8,63,64,65,66,67,68]))))))))
def c:=(s (d r0 [4,7]) (s (p r1) (s (b 0 (w l1)) (s (d r9 [0,1,8,9,10,20,40,58,69,70,71,72]) .ret))))
end LX
def LX:AFn:=⟨2,LX.c,[.tmp 4,.tmp 5,.tmp 6,.tmp 7],false⟩
namespace LY
def r0:=[o 8 (.a8 (.c .nil))]
def r1:=[m 14 0,o 15 (.len 14),o 16 (.mk 16 1 4 [(.int .u32 (0))] 15 15),m 9 16]
def r2:=[o 10 (.a8 (k 0))]
def r3:=[m 17 0,o 18 (.len 17),o 19 (.a8 (k 0))]
def r4:=[o 20 (.bin .lss 19 18)]
def r5:=[m 21 19,o 22 (.a7 none 1 17 19),o 23 (.ld false 1 22),m 11 21,m 12 23]
def r6:=[m 24 2,m 25 12,o 26 (.conv .i64 25),o 27 (.bin .mul 24 26),m 28 10,o 29 (.bin .add 27 28),m 13 29]
def r7:=[m 30 11,m 31 1,o 32 (.len 31),o 33 (.bin .lss 30 32)]
def r8:=[m 34 13,m 35 3,m 36 1,m 37 11,o 38 (.a7 none 1 36 37),o 39 (.ld false 1 38),o 40 (.conv .i64 39),o 41 (.bin .mul 35 40),o 42 (.bin .add 34 41),
 m 13 42]
def r9:=[m 43 9,m 44 11,m 45 13,o 46 (.conv .u32 45),o 47 (.a7 none 1 43 44),n (.st 1 47 46)]
def BX:=[m 48 13,o 49 (.bin .shr 48 (.c (.int .u64 (32)))),m 10 49]
def B2:=[o 50 (.bin .add 19 (k 1)),m 19 50]
def s8:=[m 51 9,o 52 (.e9 65 [51]),m 8 52]
def l1:=(s (p r4) (s (i 20 .skip (x 0)) (s (b 1 (s (d r5 [20,21,22,23]) (s (d r6 [10,12,24,25,26,27,28,29]) (s (s (d r7 [30,31,32]) (i 33 (d r8 [33,34,35,36,37,38,39,40,41,42]) .skip)) (s (d r9 [11,33,43,44,45,46,47]) (d BX [13,48,49])))))) (d B2 [50]))))
def c:=(s (d r0 [8]) (s (d r1 [14,15,16]) (s (p r2) (s (s (d r3 [0]) (b 0 (w l1))) (s (d s8 [1,2,3,9,10,17,18,19,20,51,52]) .ret)))))
end LY
def LY:AFn:=⟨4,LY.c,[.tmp 8],false⟩
namespace L2
def r0:=[o 4 (.a8 (.c .nil)),o 5 (.a8 (.c .nil))]
def r1:=[m 14 0,o 15 (.len 14),m 6 15]
def r2:=[m 16 0,m 17 6,o 18 (.bin .sub 17 (k 1)),o 19 (.a7 none 1 16 18),o 20 (.ld false 1 19),o 21 (.call 64 [20]),o 22 (.conv .u64 21),m 7 22]
def r3:=[m 24 0,m 25 6,m 26 7,o 27 (.call 78 [24,25,26]),m 28 1,m 29 6,m 30 7,o 31 (.call 78 [28,29,30]),o 32 (.call 79 [27,31]),m 23 32,o 33 (.ext 23 0),
 o 34 (.ext 23 1),o 35 (.ext 23 2),o 36 (.ext 23 3),m 8 33,m 9 34,m 10 35,m 11 36]
def r4:=[m 37 9,o 38 (.bin .eql 37 (k 0))]
def r5:=[m 40 0,m 41 1,o 42 (.call 74 [40,41]),m 39 42,o 43 (.ext 39 0),o 44 (.ext 39 1),m 12 43,m 13 44]
def r6:=[m 45 1,m 46 13,m 4 45,m 5 46]
def r7:=[m 47 0,m 48 1,m 49 8,m 50 9,o 51 (.call 80 [47,48,49,50]),m 52 0,m 53 1,m 54 10,m 55 11,o 56 (.call 80 [52,53,54,55]),m 4 51,m 5 56]
def c:=(s (d r0 [4,5]) (s (d r1 [14,15]) (s (d r2 [16,17,18,19,20,21,22]) (s (d r3 [6,7,23,24,25,26,27,28,29,30,31,32,33,34,35,36]) (s (s (d r4 [37]) (i 38 (s (d r5 [0,8,9,10,11,12,38,39,40,41,42,43,44]) (s (d r6 [1,13,45,46]) .ret)) .skip)) (s (d r7 [0,1,8,9,10,11,38,47,48,49,50,51,52,53,54,55,56]) .ret))))))
end L2
def L2:AFn:=⟨2,L2.c,[.tmp 4,.tmp 5],false⟩
namespace GZ
def r0:=[o 4 (.a8 (.c .nil))]
def r1:=[m 11 0,o 12 (.call 66 [11]),m 13 1,o 14 (.call 66 [13]),m 5 12,m 6 14]
def r2:=[m 15 5,m 16 6,o 17 (.call 67 [15,16]),o 18 (.bin .lss 17 (k 0))]
def r3:=[m 19 6,m 20 5,m 5 19,m 6 20]
def r4:=[m 21 6,o 22 (.len 21),o 23 (.bin .gtr 22 (k 2))]
def r5:=[m 25 5,m 26 6,o 27 (.call 81 [25,26]),m 24 27,o 28 (.ext 24 0),o 29 (.ext 24 1),m 5 28,m 6 29]
def r6:=[m 30 6,o 31 (.len 30),o 32 (.bin .eql 31 (k 0))]
def r7:=[m 33 5,m 4 33]
def r8:=[m 35 5,m 36 6,o 37 (.call 74 [35,36]),m 34 37,o 38 (.ext 34 0),o 39 (.ext 34 1),m 7 38,m 8 39]
def r9:=[m 40 6,o 41 (.call 76 [40]),m 42 8,o 43 (.call 76 [42]),m 9 41,m 10 43]
def BX:=[m 44 10,o 45 (.bin .neq 44 (.c (.int .u64 (0))))]
def B2:=[m 46 10,m 47 9,m 48 10,o 49 (.bin .rem 47 48),m 9 46,m 10 49]
def s8:=[m 50 9,o 51 (.conv .u32 50),m 52 9,o 53 (.bin .shr 52 (.c (.int .u64 (32)))),o 54 (.conv .u32 53),o 55 (.b8 55 1 [51,54]),o 56 (.e9 65 [55]),
 m 4 56]
def l1:=(s (s (d r4 [18,21,22]) (i 23 .skip (x 0))) (b 1 (d r5 [23,24,25,26,27,28,29])))
def l2:=(s (s (d BX [44]) (i 45 .skip (x 2))) (b 3 (e B2 [45,46,47,48,49])))
def c:=(s (d r0 [4]) (s (d r1 [0,1,11,12,13,14]) (s (s (d r2 [15,16,17]) (i 18 (d r3 [18,19,20]) .skip)) (s (b 0 (w l1)) (s (s (d r6 [23,30,31]) (i 32 (s (d r7 [5,6,32,33]) .ret) .skip)) (s (d r8 [5,7,32,34,35,36,37,38,39]) (s (d r9 [6,8,40,41,42,43]) (s (b 2 (w l2)) (s (d s8 [9,10,45,50,51,52,53,54,55,56]) .ret)))))))))
end GZ
def GZ:AFn:=⟨2,GZ.c,[.tmp 4],false⟩
structure c6 (L:Lib):Prop where
 KV:L 58=some F.KV
 KW:L 59=some F.KW
 KT:L 60=some F.KT
 KU:L 61=some F.KU
 HX:L 62=some F.HX
 LP:L 63=some F.LP
 LO:L 64=some F.LO
 FR:L 65=some F.FR
 LW:L 66=some F.LW
 LS:L 67=some F.LS
 LR:L 68=some F.LR
 LV:L 69=some F.LV
 LU:L 70=some F.LU
 JT:L 71=some F.JT
 L1:L 72=some F.L1
 F4:L 73=some F.F4
 LZ:L 74=some F.LZ
 LT:L 75=some F.LT
 L3:L 76=some F.L3
 IR:L 77=some F.IR
 L0:L 78=some F.L0
 LX:L 79=some F.LX
 LY:L 80=some F.LY
 L2:L 81=some F.L2
 GZ:L 82=some F.GZ
end Go.b7.F

namespace Go.b7.F
open C
namespace DD
def r0:=[o 4 (.alloc 83004 [(.bool false),.nil])]
def r1:=[m 5 0,m 6 5,g 7 6 true (.a8 1),g 8 6 true (.len 7),g 9 6 true (.bin .gtr 8 (k 0)),o 10 (.pick 6 9 (.c (.bool false))),m 11 1,
 o 12 (.build [(.bool false),.nil] [(0,1,10),(1,1,11)]),n (.st 2 4 12)]
def c:=(s (p r0) (s (d r1 [0,1,5,6,7,8,9,10,11,12]) .ret))
end DD
def DD:AFn:=⟨2,DD.c,[.cell 4 true 2],false⟩
namespace LH
def r0:=[o 1 (.box 1 0),o 2 (.alloc 2 [(.bool false),.nil])]
def r1:=[o 3 (.a5 1 0),o 4 (.ld false 1 3),o 5 (.a5 1 1),o 6 (.ld false 1 5),o 7 (.call 66 [6]),o 8 (.e9 83 [4,7]),n (.st 2 2 8)]
def c:=(s (d r0 [0]) (s (e r1 [1,3,4,5,6,7,8]) .ret))
end LH
def LH:AFn:=⟨1,LH.c,[.cell 2 true 2],false⟩
namespace LF
def r0:=[o 2 (.alloc 2 [(.bool false),.nil])]
def r1:=[m 4 0,o 5 (.conv .u64 4),m 3 5]
def r2:=[m 6 0,o 7 (.bin .lss 6 (k 0))]
def r3:=[m 8 3,o 9 (.un .neg 8),m 3 9]
def r4:=[m 10 0,o 11 (.bin .lss 10 (k 0)),m 12 3,o 13 (.conv .u32 12),m 14 3,o 15 (.bin .shr 14 (.c (.int .u64 (32)))),o 16 (.conv .u32 15),
 o 17 (.b8 17 1 [13,16]),o 18 (.call 66 [17]),o 19 (.e9 83 [11,18]),n (.st 2 2 19)]
def c:=(s (p r0) (s (d r1 [4,5]) (s (s (d r2 [6]) (i 7 (d r3 [7,8,9]) .skip)) (s (d r4 [0,3,7,10,11,12,13,14,15,16,17,18,19]) .ret))))
end LF
def LF:AFn:=⟨1,LF.c,[.cell 2 true 2],false⟩
namespace LG
def r0:=[o 1 (.box 1 0),o 2 (.a8 (k 0))]
def r1:=[o 4 (.a5 1 1),o 5 (.ld false 1 4),o 6 (.call 67 [5,(.c .nil)]),o 7 (.bin .eql 6 (k 0)),m 3 7]
def r2:=[o 2 (.a8 (k 0))]
def r3:=[o 9 (.a5 1 0),o 10 (.ld false 1 9),m 8 10]
def r4:=[o 2 (.a8 (k (-1)))]
def r5:=[o 2 (.a8 (k 1))]
def c:=(s (d r0 [0,2]) (s (b 0 (s (d r1 [4,5,6,7]) (i 3 (s (d r2 [1,3]) .ret) (s (d r3 [1,3,9,10]) (i 8 (s (d r4 [8]) .ret) .skip))))) (s (d r5 [8]) .ret)))
end LG
def LG:AFn:=⟨1,LG.c,[.tmp 2],false⟩
namespace LC
def r0:=[o 2 (.box 2 0),o 3 (.box 3 1),o 4 (.alloc 4 [(.bool false),.nil])]
def r1:=[o 5 (.a5 2 0),o 6 (.ld false 1 5),o 7 (.a5 3 0),o 8 (.ld false 1 7),o 9 (.beq false 6 8)]
def r2:=[o 10 (.a5 2 0),o 11 (.ld false 1 10),o 12 (.a5 2 1),o 13 (.ld false 1 12),o 14 (.a5 3 1),o 15 (.ld false 1 14),o 16 (.call 68 [13,15]),
 o 17 (.e9 83 [11,16]),n (.st 2 4 17)]
def r3:=[o 18 (.a5 2 1),o 19 (.ld false 1 18),o 20 (.a5 3 1),o 21 (.ld false 1 20),o 22 (.call 67 [19,21]),o 23 (.bin .eql 22 (k (-1)))]
def r4:=[o 24 (.a5 3 0),o 25 (.ld false 1 24),o 26 (.a5 3 1),o 27 (.ld false 1 26),o 28 (.a5 2 1),o 29 (.ld false 1 28),o 30 (.call 69 [27,29]),
 o 31 (.e9 83 [25,30]),n (.st 2 4 31)]
def r5:=[o 32 (.a5 2 0),o 33 (.ld false 1 32),o 34 (.a5 2 1),o 35 (.ld false 1 34),o 36 (.a5 3 1),o 37 (.ld false 1 36),o 38 (.call 69 [35,37]),
 o 39 (.e9 83 [33,38]),n (.st 2 4 39)]
def c:=(s (d r0 [0,1]) (s (s (d r1 [5,6,7,8]) (i 9 (s (e r2 [2,3,9,10,11,12,13,14,15,16,17]) .ret) .skip)) (s (s (d r3 [9,18,19,20,21,22]) (i 23 (s (e r4 [2,3,23,24,25,26,27,28,29,30,31]) .ret) .skip)) (s (e r5 [2,3,23,32,33,34,35,36,37,38,39]) .ret))))
end LC
def LC:AFn:=⟨2,LC.c,[.cell 4 true 2],false⟩
namespace LE
def r0:=[o 2 (.box 2 0),o 3 (.box 3 1),o 4 (.alloc 4 [(.bool false),.nil])]
def r1:=[o 5 (.a5 2 0),o 6 (.ld false 1 5),o 7 (.a5 3 0),o 8 (.ld false 1 7),o 9 (.beq true 6 8),o 10 (.a5 2 1),o 11 (.ld false 1 10),o 12 (.a5 3 1),
 o 13 (.ld false 1 12),o 14 (.call 70 [11,13]),o 15 (.e9 83 [9,14]),n (.st 2 4 15)]
def c:=(s (d r0 [0,1]) (s (e r1 [2,3,5,6,7,8,9,10,11,12,13,14,15]) .ret))
end LE
def LE:AFn:=⟨2,LE.c,[.cell 4 true 2],false⟩
namespace IY
def r0:=[o 1 (.box 1 0),o 2 (.alloc 2 [(.bool false),.nil,.nil,(.bool false)])]
def r1:=[o 3 (.a5 1 2),o 4 (.ld false 1 3),o 5 (.len 4),o 6 (.bin .eql 5 (k 1)),m 7 6,g 8 7 true (.a5 1 2),g 9 7 true (.ld false 1 8),
 g 10 7 true (.a7 none 1 9 (k 0)),g 11 7 true (.ld false 1 10),g 12 7 true (.bin .eql 11 (.c (.int .u32 (1)))),o 13 (.pick 7 12 (.c (.bool false)))]
def r2:=[o 14 (.a5 1 0),o 15 (.ld true 2 14),o 16 (.a5 1 2),o 17 (.ld false 1 16),o 18 (.build [(.bool false),.nil,.nil] [(0,2,15),(2,1,17)]),
 o 19 (.build [(.bool false),.nil,.nil,(.bool false)] [(0,3,18),(3,1,(.c (.bool true)))]),n (.st 4 2 19)]
def r3:=[o 20 (.a5 1 2),o 21 (.ld false 1 20),o 22 (.call 67 [21,(.c .nil)]),o 23 (.bin .eql 22 (k 0))]
def r4:=[o 24 (.build [(.bool false),.nil] []),o 25 (.b8 25 1 [(.c (.int .u32 (1)))]),o 26 (.build [(.bool false),.nil,.nil] [(0,2,24),(2,1,25)]),
 o 27 (.build [(.bool false),.nil,.nil,(.bool false)] [(0,3,26),(3,1,(.c (.bool true)))]),n (.st 4 2 27)]
def r5:=[o 28 (.a5 1 0),o 29 (.ld true 2 28),o 30 (.a5 1 2),o 31 (.ld false 1 30),o 32 (.build [(.bool false),.nil,.nil] [(0,2,29),(2,1,31)]),
 o 33 (.build [(.bool false),.nil,.nil,(.bool false)] [(0,3,32),(3,1,(.c (.bool false)))]),n (.st 4 2 33)]
def c:=(s (d r0 [0]) (s (s (d r1 [3,4,5,6,7,8,9,10,11,12]) (i 13 (s (d r2 [1,13,14,15,16,17,18,19]) .ret) .skip)) (s (s (d r3 [13,20,21,22]) (i 23 (s (d r4 [1,23,24,25,26,27]) .ret) .skip)) (s (d r5 [1,23,28,29,30,31,32,33]) .ret))))
end IY
def IY:AFn:=⟨1,IY.c,[.cell 2 true 4],false⟩
namespace M8
def r0:=[o 2 (.a8 (.c (.bool false)))]
def r1:=[m 3 0,o 4 (.len 3),o 5 (.bin .eql 4 (k 1)),m 6 5,g 7 6 true (.a8 0),g 8 6 true (.a7 none 1 7 (k 0)),g 9 6 true (.ld false 1 8),
 g 10 6 true (.bin .eql 9 (.c (.int .u32 (1)))),o 11 (.pick 6 10 (.c (.bool false))),m 2 11]
def c:=(s (d r0 [2]) (s (d r1 [0,3,4,5,6,7,8,9,10,11]) .ret))
end M8
def M8:AFn:=⟨1,M8.c,[.tmp 2],false⟩
namespace M9
def r0:=[o 2 (.alloc 2 [(.bool false),.nil])]
def r1:=[m 3 0,o 4 (.build [(.bool false),.nil] [(1,1,3)]),n (.st 2 2 4)]
def c:=(s (p r0) (s (d r1 [0,3,4]) .ret))
end M9
def M9:AFn:=⟨1,M9.c,[.cell 2 true 2],false⟩
namespace HU
def r0:=[o 1 (.box 92001 0),o 2 (.alloc 92002 [(.bool false),.nil,.nil])]
def r1:=[o 3 (.ld true 2 1),o 4 (.b8 92004 1 [(.c (.int .u32 (1)))]),o 5 (.build [(.bool false),.nil,.nil] [(0,2,3),(2,1,4)]),n (.st 3 2 5)]
def c:=(s (d r0 [0]) (s (d r1 [1,3,4,5]) .ret))
end HU
def HU:AFn:=⟨1,HU.c,[.cell 2 true 3],false⟩
namespace JZ
def r0:=[o 2 (.box 93002 0),o 3 (.box 93003 1),o 4 (.alloc 93004 [(.bool false),.nil,.nil])]
def r1:=[o 5 (.a5 2 0),o 6 (.ld false 1 5),o 7 (.a5 3 0),o 8 (.ld false 1 7),o 9 (.beq true 6 8),o 10 (.a5 2 1),o 11 (.ld false 1 10),
 o 12 (.build [(.bool false),.nil] [(0,1,9),(1,1,11)]),o 13 (.a5 3 1),o 14 (.ld false 1 13),
 o 15 (.build [(.bool false),.nil,.nil] [(0,2,12),(2,1,14)]),n (.st 3 4 15)]
def c:=(s (d r0 [0,1]) (s (d r1 [2,3,5,6,7,8,9,10,11,12,13,14,15]) .ret))
end JZ
def JZ:AFn:=⟨2,JZ.c,[.cell 4 true 3],false⟩
namespace NA
def r0:=[o 1 (.box 1 0),o 2 (.alloc 2 [(.bool false),.nil,.nil])]
def r1:=[o 14 (.a5 1 0),o 15 (.a5 14 1),o 16 (.ld false 1 15),o 17 (.a5 1 2),o 18 (.ld false 1 17),o 19 (.call 75 [16,18]),m 13 19,o 20 (.ext 13 0),
 o 21 (.ext 13 1),o 22 (.ext 13 2),m 3 20,m 4 21,m 5 22]
def r2:=[m 23 4,o 24 (.len 23),o 25 (.bin .eql 24 (k 0))]
def r3:=[o 26 (.a5 1 0),o 27 (.a5 26 0),o 28 (.ld false 1 27),m 29 3,o 30 (.build [(.bool false),.nil] [(0,1,28),(1,1,29)]),o 31 (.call 84 [30]),
 o 32 (.e9 92 [31]),n (.st 3 2 32)]
def r4:=[o 33 (.a5 1 2),o 34 (.ld false 1 33),m 35 4,o 36 (.call 82 [34,35]),m 6 36]
def r5:=[m 37 6,o 38 (.call 90 [37])]
def r6:=[o 39 (.a5 1 0),o 40 (.ld true 2 39),o 41 (.call 84 [40]),o 42 (.a5 1 2),o 43 (.ld false 1 42),o 44 (.call 66 [43]),
 o 45 (.build [(.bool false),.nil,.nil] [(0,2,41),(2,1,44)]),n (.st 3 2 45)]
def r7:=[o 47 (.a5 1 0),o 48 (.a5 47 1),o 49 (.ld false 1 48),m 50 6,o 51 (.call 75 [49,50]),m 46 51,o 52 (.ext 46 0),o 53 (.ext 46 1),o 54 (.ext 46 2),
 m 7 52,m 8 53,m 9 54]
def r8:=[o 56 (.a5 1 2),o 57 (.ld false 1 56),m 58 6,o 59 (.call 75 [57,58]),m 55 59,o 60 (.ext 55 0),o 61 (.ext 55 1),o 62 (.ext 55 2),m 10 60,m 11 61,
 m 12 62]
def r9:=[o 63 (.a5 1 0),o 64 (.a5 63 0),o 65 (.ld false 1 64),m 66 7,o 67 (.build [(.bool false),.nil] [(0,1,65),(1,1,66)]),m 68 10,
 o 69 (.build [(.bool false),.nil,.nil] [(0,2,67),(2,1,68)]),n (.st 3 2 69)]
def c:=(s (d r0 [0]) (s (d r1 [5,13,14,15,16,17,18,19,20,21,22]) (s (s (d r2 [23,24]) (i 25 (s (d r3 [1,3,4,25,26,27,28,29,30,31,32]) .ret) .skip)) (s (d r4 [3,4,25,33,34,35,36]) (s (s (d r5 [37]) (i 38 (s (e r6 [1,6,38,39,40,41,42,43,44,45]) .ret) .skip)) (s (d r7 [8,9,38,46,47,48,49,50,51,52,53,54]) (s (d r8 [6,11,12,55,56,57,58,59,60,61,62]) (s (d r9 [1,7,10,63,64,65,66,67,68,69]) .ret))))))))
end NA
def NA:AFn:=⟨1,NA.c,[.cell 2 true 3],false⟩
namespace M6
def r0:=[o 1 (.box 1 0),o 2 (.alloc 2 [(.bool false),.nil,.nil])]
def r1:=[o 3 (.ld true 3 1),o 4 (.l8 89 [3]),o 5 (.jy 4 0 3 true),o 6 (.call 94 [5]),n (.st 3 2 6)]
def c:=(s (d r0 [0]) (s (d r1 [1,3,4,5,6]) .ret))
end M6
def M6:AFn:=⟨1,M6.c,[.cell 2 true 3],false⟩
namespace M3
def r0:=[o 2 (.alloc 2 [(.bool false),.nil,.nil])]
def r1:=[m 3 0,o 4 (.call 85 [3]),o 5 (.e9 92 [4]),n (.st 3 2 5)]
def c:=(s (p r0) (s (d r1 [0,3,4,5]) .ret))
end M3
def M3:AFn:=⟨1,M3.c,[.cell 2 true 3],false⟩
namespace M4
def r0:=[o 1 (.box 1 0),o 2 (.a8 (k 0))]
def r1:=[o 3 (.ld true 3 1),o 4 (.l8 89 [3]),o 5 (.jy 4 0 3 true),o 6 (.jy 5 0 2 true),o 7 (.call 86 [6]),m 2 7]
def c:=(s (d r0 [0,2]) (s (d r1 [1,3,4,5,6,7]) .ret))
end M4
def M4:AFn:=⟨1,M4.c,[.tmp 2],false⟩
namespace IX
def r0:=[o 2 (.box 2 0),o 3 (.box 3 1),o 4 (.alloc 4 [(.bool false),.nil,.nil])]
def r1:=[q 8 [5,6] (.ld true 3 2),q 9 [5,6] (.l8 89 [8]),q 10 [5,6] (.ld true 3 3),q 11 [5,6] (.l8 89 [10]),
 o 5 (.alloc 5 [(.bool false),.nil,.nil,(.bool false)]),o 6 (.alloc 6 [(.bool false),.nil,.nil,(.bool false)]),n (.st 4 5 9),n (.st 4 6 11)]
def r2:=[o 12 (.a5 5 3),o 13 (.ld false 1 12),m 14 13,g 15 14 true (.a5 6 3),g 16 14 true (.ld false 1 15),o 17 (.pick 14 16 (.c (.bool false)))]
def r3:=[o 18 (.a5 5 0),o 19 (.a5 18 0),o 20 (.ld true 2 19),o 21 (.a5 6 0),o 22 (.a5 21 0),o 23 (.ld true 2 22),o 24 (.call 87 [20,23]),
 o 25 (.e9 92 [24]),n (.st 3 4 25)]
def r4:=[o 26 (.a5 5 0),o 27 (.a5 26 2),o 28 (.ld false 1 27),o 29 (.a5 6 0),o 30 (.a5 29 2),o 31 (.ld false 1 30),o 32 (.call 67 [28,31]),
 o 33 (.bin .eql 32 (k 0))]
def r5:=[o 34 (.a5 5 0),o 35 (.a5 34 0),o 36 (.ld true 2 35),o 37 (.a5 6 0),o 38 (.a5 37 0),o 39 (.ld true 2 38),o 40 (.call 87 [36,39]),
 o 41 (.a5 5 0),o 42 (.a5 41 2),o 43 (.ld false 1 42),o 44 (.build [(.bool false),.nil,.nil] [(0,2,40),(2,1,43)]),o 45 (.call 94 [44]),
 n (.st 3 4 45)]
def r6:=[o 46 (.a5 5 0),o 47 (.a5 46 0),q 48 [7] (.ld true 2 47),o 49 (.a5 6 0),o 50 (.a5 49 2),q 51 [7] (.ld false 1 50),
 q 52 [7] (.l8 91 [51]),q 53 [7] (.call 88 [48,52]),o 54 (.a5 6 0),o 55 (.a5 54 0),q 56 [7] (.ld true 2 55),
 o 57 (.a5 5 0),o 58 (.a5 57 2),q 59 [7] (.ld false 1 58),q 60 [7] (.l8 91 [59]),q 61 [7] (.call 88 [56,60]),
 q 62 [7] (.call 87 [53,61]),o 7 (.alloc 7 [(.bool false),.nil]),n (.st 2 7 62)]
def r7:=[o 63 (.ld true 2 7),o 64 (.a5 5 0),o 65 (.a5 64 2),o 66 (.ld false 1 65),o 67 (.a5 6 0),o 68 (.a5 67 2),o 69 (.ld false 1 68),
 o 70 (.call 70 [66,69]),o 71 (.build [(.bool false),.nil,.nil] [(0,2,63),(2,1,70)]),o 72 (.call 94 [71]),n (.st 3 4 72)]
def c:=(s (d r0 [0,1]) (s (e r1 [2,3,8,9,10,11]) (s (s (d r2 [12,13,14,15,16]) (i 17 (s (d r3 [5,6,17,18,19,20,21,22,23,24,25]) .ret) .skip)) (s (s (d r4 [17,26,27,28,29,30,31,32]) (i 33 (s (e r5 [5,6,33,34,35,36,37,38,39,40,41,42,43,44,45]) .ret) .skip)) (s (e r6 [33,46,47,48,49,50,51,52,53,54,55,56,57,58,59,60,61,62]) (s (e r7 [5,6,7,63,64,65,66,67,68,69,70,71,72]) .ret))))))
end IX
def IX:AFn:=⟨2,IX.c,[.cell 4 true 3],false⟩
namespace JY
def r0:=[o 2 (.box 2 0),o 3 (.box 3 1),o 4 (.alloc 4 [(.bool false),.nil,.nil])]
def r1:=[q 8 [5,6] (.ld true 3 2),q 9 [5,6] (.l8 89 [8]),q 10 [5,6] (.ld true 3 3),q 11 [5,6] (.l8 89 [10]),
 o 5 (.alloc 5 [(.bool false),.nil,.nil,(.bool false)]),o 6 (.alloc 6 [(.bool false),.nil,.nil,(.bool false)]),n (.st 4 5 9),n (.st 4 6 11)]
def r2:=[o 12 (.a5 5 0),o 13 (.a5 12 0),o 14 (.ld true 2 13),o 15 (.a5 6 0),o 16 (.a5 15 0),o 17 (.ld true 2 16),o 18 (.call 88 [14,17]),
 o 7 (.alloc 7 [(.bool false),.nil]),n (.st 2 7 18)]
def r3:=[o 19 (.a5 5 3),o 20 (.ld false 1 19),m 21 20,g 22 21 true (.a5 6 3),g 23 21 true (.ld false 1 22),o 24 (.pick 21 23 (.c (.bool false)))]
def r4:=[o 25 (.ld true 2 7),o 26 (.e9 92 [25]),n (.st 3 4 26)]
def r5:=[o 27 (.ld true 2 7),o 28 (.a5 5 0),o 29 (.a5 28 2),o 30 (.ld false 1 29),o 31 (.a5 6 0),o 32 (.a5 31 2),o 33 (.ld false 1 32),
 o 34 (.call 70 [30,33]),o 35 (.build [(.bool false),.nil,.nil] [(0,2,27),(2,1,34)]),o 36 (.call 94 [35]),n (.st 3 4 36)]
def c:=(s (d r0 [0,1]) (s (e r1 [2,3,8,9,10,11]) (s (d r2 [12,13,14,15,16,17,18]) (s (s (d r3 [19,20,21,22,23]) (i 24 (s (d r4 [5,6,7,24,25,26]) .ret) .skip)) (s (e r5 [5,6,7,24,27,28,29,30,31,32,33,34,35,36]) .ret)))))
end JY
def JY:AFn:=⟨2,JY.c,[.cell 4 true 3],false⟩
namespace MX
def r0:=[o 2 (.box 2 0),o 3 (.box 3 1),o 4 (.alloc 4 [(.bool false),.nil,.nil]),o 5 (.a8 (k 0))]
def r1:=[q 10 [6,7] (.ld true 3 2),q 11 [6,7] (.l8 89 [10]),q 12 [6,7] (.ld true 3 3),q 13 [6,7] (.l8 89 [12]),
 o 6 (.alloc 6 [(.bool false),.nil,.nil,(.bool false)]),o 7 (.alloc 7 [(.bool false),.nil,.nil,(.bool false)]),n (.st 4 6 11),n (.st 4 7 13)]
def r2:=[o 14 (.a5 7 0),o 15 (.a5 14 0),o 16 (.ld true 2 15),o 17 (.call 86 [16]),o 18 (.bin .eql 17 (k 0))]
def r3:=[o 19 (.build [(.bool false),.nil,.nil] []),n (.st 3 4 19),o 5 (.a8 (k 3))]
def r4:=[o 20 (.a5 6 0),o 21 (.a5 20 0),q 22 [8] (.ld true 2 21),o 23 (.a5 7 0),o 24 (.a5 23 2),q 25 [8] (.ld false 1 24),
 q 26 [8] (.l8 91 [25]),q 27 [8] (.call 88 [22,26]),o 8 (.alloc 8 [(.bool false),.nil]),n (.st 2 8 27)]
def r5:=[o 28 (.a5 6 0),o 29 (.a5 28 2),q 30 [9] (.ld false 1 29),q 31 [9] (.l8 91 [30]),o 32 (.a5 7 0),o 33 (.a5 32 0),
 q 34 [9] (.ld true 2 33),q 35 [9] (.call 88 [31,34]),o 9 (.alloc 9 [(.bool false),.nil]),n (.st 2 9 35)]
def r6:=[o 36 (.ld true 2 8),o 37 (.ld true 2 9),o 38 (.e9 93 [36,37]),o 39 (.call 94 [38]),n (.st 3 4 39),o 5 (.a8 (k 0))]
def c:=(s (d r0 [0,1,5]) (s (e r1 [2,3,10,11,12,13]) (s (s (d r2 [14,15,16,17]) (i 18 (s (d r3 [6,7,18,19]) .ret) .skip)) (s (e r4 [18,20,21,22,23,24,25,26,27]) (s (e r5 [6,7,28,29,30,31,32,33,34,35]) (s (d r6 [8,9,36,37,38,39]) .ret))))))
end MX
def MX:AFn:=⟨2,MX.c,[.cell 4 true 3,.tmp 5],false⟩
structure a6 (L:Lib):Prop extends c6 L where
 DD:L 83=some F.DD
 LH:L 84=some F.LH
 LF:L 85=some F.LF
 LG:L 86=some F.LG
 LC:L 87=some F.LC
 LE:L 88=some F.LE
 IY:L 89=some F.IY
 M8:L 90=some F.M8
 M9:L 91=some F.M9
 HU:L 92=some F.HU
 JZ:L 93=some F.JZ
 NA:L 94=some F.NA
 M6:L 95=some F.M6
 M3:L 96=some F.M3
 M4:L 97=some F.M4
 IX:L 98=some F.IX
 JY:L 99=some F.JY
 MX:L 100=some F.MX
end Go.b7.F
